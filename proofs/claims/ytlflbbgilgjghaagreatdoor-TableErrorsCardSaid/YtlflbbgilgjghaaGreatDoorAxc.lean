/- Regions that draw their order; loops over maps. -/
import Derived.Test.YtlflbbgilgjghaaGreatDoorAxb
set_option linter.all false
set_option linter.unusedVariables false
set_option linter.unusedSimpArgs false
set_option linter.unusedVariables false
set_option linter.unusedSimpArgs false
namespace Go.AX
open Go
variable {P : Program} {σ : Sg} {ρ : Ren} {s : St} {w : World}

/-! ### The same value -/
theorem eqI_true {a b : Int} (h : eqI a b = true) : a = b := by
  rw [eqI_eq] at h; simpa using h
theorem bytesEq_true {a b : List UInt8} (h : bytesEq a b = true) : a = b := by
  rw [bytesEq_eq] at h; simpa using h
theorem beq0_eq {a b : AV} (h : beq0 a b = true) : a = b := by
  unfold beq0 at h
  split at h
  · split at h <;> first | rfl | cases h
  · obtain ⟨h1, h2⟩ := Bool.and_eq_true_iff.1 h
    rw [kindEq_eq h1, eqI_true h2]
  · rw [bytesEq_true h]
  · obtain ⟨h1, h2⟩ := Bool.and_eq_true_iff.1 h
    rw [Nat.eq_of_beq_eq_true h1, Nat.eq_of_beq_eq_true h2]
  · rfl
  · obtain ⟨h, h4⟩ := Bool.and_eq_true_iff.1 h
    obtain ⟨h, h3⟩ := Bool.and_eq_true_iff.1 h
    obtain ⟨h1, h2⟩ := Bool.and_eq_true_iff.1 h
    rw [Nat.eq_of_beq_eq_true h1, Nat.eq_of_beq_eq_true h2, Nat.eq_of_beq_eq_true h3, Nat.eq_of_beq_eq_true h4]
  · obtain ⟨h, h4⟩ := Bool.and_eq_true_iff.1 h
    obtain ⟨h, h3⟩ := Bool.and_eq_true_iff.1 h
    obtain ⟨h1, h2⟩ := Bool.and_eq_true_iff.1 h
    rw [Nat.eq_of_beq_eq_true h1, Nat.eq_of_beq_eq_true h2, Nat.eq_of_beq_eq_true h3, Nat.eq_of_beq_eq_true h4]
  · rfl
  · rfl
  · rw [Nat.eq_of_beq_eq_true h]
  · rfl
  · rfl
  · rfl
  · rw [Nat.eq_of_beq_eq_true h]
  · rfl
  · cases h
theorem all2_eq {f : AV → AV → Bool} (hf : ∀ a b, f a b = true → a = b) : ∀ {l m : List AV}, all2 f l m = true → l = m
  | [], [], _ => rfl
  | [], _ :: _, h => by cases h
  | _ :: _, [], h => by cases h
  | a :: l, b :: m, h => by
    obtain ⟨h1, h2⟩ := Bool.and_eq_true_iff.1 h
    rw [hf _ _ h1, all2_eq hf h2]
theorem beqN_eq : ∀ (n : Nat) {a b : AV}, beqN n a b = true → a = b
  | 0, a, b, h => beq0_eq h
  | n+1, a, b, h => by
    have ih : ∀ a b, beqN n a b = true → a = b := fun a b => beqN_eq n
    simp only [beqN] at h
    split at h
    · rw [all2_eq ih h]
    · rw [all2_eq ih h]
    · obtain ⟨h1, h2⟩ := Bool.and_eq_true_iff.1 h
      rw [Nat.eq_of_beq_eq_true h1, ih _ _ h2]
    · obtain ⟨h, h3⟩ := Bool.and_eq_true_iff.1 h
      obtain ⟨h1, h2⟩ := Bool.and_eq_true_iff.1 h
      rw [Nat.eq_of_beq_eq_true h1, all2_eq ih h2, all2_eq ih h3]
    · exact beq0_eq h
theorem beqA_eq {a b : AV} (h : beqA a b = true) : a = b := beqN_eq 5 h

/-! ### Operations that read at most -/
def NX.re (s : St) : NX → NX
  | .val v _ => .val v s
  | r => r
theorem re_orBad (o : Option AV) (s s1 : St) : orBad o s1 = (orBad o s).re s1 := by cases o <;> rfl
theorem re_pick (c a b : AV) (s s1 : St) : xPick s1 c a b = (xPick s c a b).re s1 := by unfold xPick; (repeat' split) <;> first | rfl | simp_all
theorem re_nilCheck (x : AV) (s s1 : St) : xNilCheck P s1 x = (xNilCheck P s x).re s1 := by
  unfold xNilCheck
  split <;> (try split) <;> first | rfl | simp_all [NX.re]
theorem re_un (op : UnOp) (x : AV) (s s1 : St) : xUn s1 op x = (xUn s op x).re s1 := by unfold xUn; split <;> first | rfl | simp_all [NX.re]
theorem re_makeInterface (t : TypeId) (x : AV) (s s1 : St) : xMakeInterface P s1 t x = (xMakeInterface P s t x).re s1 := by unfold xMakeInterface; split <;> first | rfl | simp_all [NX.re]
theorem re_makeFunc (f : Fn) (a b : List AV) (s s1 : St) : xMakeFunc s1 f a b = (xMakeFunc s f a b).re s1 := by unfold xMakeFunc; split <;> first | rfl | simp_all [NX.re]
theorem re_fieldAddr (t : TypeId) (x : AV) (f : Nat) (s s1 : St) : xFieldAddr P s1 t x f = (xFieldAddr P s t x f).re s1 := by
  unfold xFieldAddr; split <;> (try split) <;> first | rfl | simp_all [NX.re]
theorem re_field (t : TypeId) (x : AV) (f : Nat) (s s1 : St) : xField P s1 t x f = (xField P s t x f).re s1 := by
  unfold xField; split <;> (try split) <;> first | rfl | exact re_orBad _ _ _ | simp_all [NX.re]
theorem re_extract (x : AV) (i : Nat) (s s1 : St) : xExtract s1 x i = (xExtract s x i).re s1 := by
  unfold xExtract; split <;> (try split) <;> first | rfl | simp_all [NX.re]
theorem re_indexAddr (t : TypeId) (x i : AV) (s s1 : St) : xIndexAddr P s1 t x i = (xIndexAddr P s t x i).re s1 := by
  unfold xIndexAddr
  cases asN i with
  | none => rfl
  | some n =>
    cases elemAt P t with
    | none => rfl
    | some p =>
      obtain ⟨q, sz⟩ := p
      cases q <;> cases x <;> first | rfl | (dsimp only; split <;> rfl)
theorem re_index (t : TypeId) (x i : AV) (s s1 : St) : xIndex P s1 t x i = (xIndex P s t x i).re s1 := by
  unfold xIndex
  cases asN i with
  | none => rfl
  | some n =>
    dsimp only
    cases P.underlying t with
    | none => rfl
    | some d =>
      cases d <;> try rfl
      · dsimp only; cases x <;> try rfl
        dsimp only; split <;> rfl
      · rename_i m e
        dsimp only
        cases sizeOfT P e <;> cases x <;> try rfl
        dsimp only
        split
        · exact re_orBad _ _ _
        · rfl
theorem re_typeAssert (x : AV) (t : TypeId) (ok : Bool) (s s1 : St) : xTypeAssert P s1 x t ok = (xTypeAssert P s x t ok).re s1 := by
  unfold xTypeAssert
  cases isIface P t with
  | none => rfl
  | some b =>
    cases b <;> cases x <;> try rfl
    · dsimp only
      split
      · rfl
      · cases ok
        · rfl
        · dsimp only; split <;> rfl
    · dsimp only; split <;> rfl
theorem re_slice (t : TypeId) (x : AV) (l h m : Option AV) (s s1 : St) : xSlice P s1 t x l h m = (xSlice P s t x l h m).re s1 := by
  unfold xSlice
  cases P.underlying t with
  | none => rfl
  | some d =>
    cases d <;> try rfl
    · dsimp only
      cases x <;> cases m <;> try rfl
      dsimp only
      split
      · split <;> rfl
      · rfl
    · rename_i e
      dsimp only
      cases P.underlying e with
      | none => cases x <;> rfl
      | some d =>
        cases d <;> try (cases x <;> rfl)
        cases x <;> try rfl
        dsimp only
        split
        · exact re_orBad _ _ _
        · rfl
    · dsimp only
      split
      · exact re_orBad _ _ _
      · rfl
    · dsimp only
      rename_i n e
      cases sizeOfT P e <;> cases x <;> try rfl
      exact re_orBad _ _ _
theorem re_build (t : TypeId) (ps : List (Nat × AV)) (s s1 : St) : xBuild P s1 t ps = (xBuild P s t ps).re s1 := by
  unfold xBuild
  cases zeroCells P t with
  | none => rfl
  | some z =>
    dsimp only
    cases P.underlying t with
    | none => rfl
    | some d =>
      cases d <;> try rfl
      · dsimp only
        split
        · split <;> rfl
        · rfl
      · dsimp only; split <;> rfl
theorem re_bin {op : BinOp} {ty : TypeId} {c : Bool} {x y : AV} (s s1 : St) : binA P op ty c s1 x y = binA P op ty c s x y := rfl

theorem blind_any {o : Op} (hb : blindK o = true) {t : Tm} {v : AV} (s1 : St) (h : execA P t o s = .val v s) : execA P t o s1 = .val v s1 := by
  have fin : ∀ r : NX, r = .val v s → r.re s1 = .val v s1 := fun r e => by rw [e]; rfl
  cases o <;> first | (cases hb; done) | skip
  · cases h; rfl
  · cases h; rfl
  · exact (re_pick _ _ _ s s1).trans (fin _ h)
  · exact (re_build _ _ s s1).trans (fin _ h)
  · exact (re_nilCheck _ s s1).trans (fin _ h)
  · exact (re_orBad _ s s1).trans (fin _ h)
  · exact (re_un _ _ s s1).trans (fin _ h)
  · exact (re_makeInterface _ _ s s1).trans (fin _ h)
  · exact (re_makeFunc _ _ _ s s1).trans (fin _ h)
  · exact (re_slice _ _ _ _ _ s s1).trans (fin _ h)
  · exact (re_fieldAddr _ _ _ s s1).trans (fin _ h)
  · exact (re_field _ _ _ s s1).trans (fin _ h)
  · exact (re_indexAddr _ _ _ s s1).trans (fin _ h)
  · exact (re_index _ _ _ s s1).trans (fin _ h)
  · exact (re_typeAssert _ _ _ s s1).trans (fin _ h)
  · exact (re_extract _ _ s s1).trans (fin _ h)

theorem same_load {t : TypeId} {a : AV} {v : AV} {s' : St} (h : xLoad P s t a = .val v s') : s' = s := by
  unfold xLoad at h
  split at h
  · cases e : loadV P s t _ _ <;> rw [e] at h <;> cases h; rfl
  · cases h
theorem same_lookup {t : TypeId} {x i : AV} {ok : Bool} {v : AV} {s' : St} (h : xLookup P s t x i ok = .val v s') : s' = s := by
  unfold xLookup at h
  have fnd : ∀ {e : TypeId} {r : Option (Nat × AV)}, xFound P s e ok r = .val v s' → s' = s := by
    intro e r h
    unfold xFound at h
    (repeat' split at h) <;> first | (cases h; done) | (cases h; rfl)
  (repeat' split at h) <;> first | (cases h; done) | exact fnd h
theorem same_entry {x : AV} {v : AV} {s' : St} (h : xEntry s x = .val v s') : s' = s := by
  unfold xEntry at h
  (repeat' split at h) <;> first | (cases h; done) | (cases h; rfl)
theorem same_convert {a b : TypeId} (hb : ∃ d, P.underlying b = some d ∧ ∀ e, d ≠ .slice e) {x : AV} {v : AV} {s' : St} (h : xConvert P s a b x = .val v s') : s' = s := by
  obtain ⟨d, hd, hne⟩ := hb
  unfold xConvert at h
  rw [hd] at h
  (repeat' split at h) <;> first | (cases h; done) | (cases h; rfl) | skip
  all_goals first
    | (rename_i e1 e2 _ _ _; cases e2; exact absurd rfl (hne _))
    | (simp_all)
theorem same_len {ts : Array TypeId} {x : AV} {v : AV} {s' : St} (h : xLen P s ts x = .val v s') : s' = s := by
  unfold xLen at h
  (repeat' split at h) <;> first | (cases h; done) | (cases h; rfl)
theorem same_cap {ts : Array TypeId} {x : AV} {v : AV} {s' : St} (h : xCap P s ts x = .val v s') : s' = s := by
  unfold xCap at h
  (repeat' split at h) <;> first | (cases h; done) | (cases h; rfl)
theorem same_minmax {f : Int → Int → Bool} {l : List AV} {v : AV} {s' : St} (h : xMinMax s f l = .val v s') : s' = s := by
  unfold xMinMax at h
  (repeat' split at h) <;> first | (cases h; done) | (cases h; rfl)
theorem quiet_same {o : Op} (hc : clsOf P o = 0) {t : Tm} {v : AV} {s' : St} (h : execA P t o s = .val v s') : s' = s := by
  by_cases hb : blindK o = true
  · have re : ∀ r r' : NX, r' = r.re s → r' = .val v s' → s' = s := fun r r' e e' => by
      rw [e'] at e
      cases r <;> cases e
      rfl
    cases o <;> first | (cases hb; done) | skip
    · cases h; rfl
    · cases h; rfl
    · exact re _ _ (re_pick _ _ _ s s) h
    · exact re _ _ (re_build _ _ s s) h
    · exact re _ _ (re_nilCheck _ s s) h
    · exact re _ _ (re_orBad _ s s) h
    · exact re _ _ (re_un _ _ s s) h
    · exact re _ _ (re_makeInterface _ _ s s) h
    · exact re _ _ (re_makeFunc _ _ _ s s) h
    · exact re _ _ (re_slice _ _ _ _ _ s s) h
    · exact re _ _ (re_fieldAddr _ _ _ s s) h
    · exact re _ _ (re_field _ _ _ s s) h
    · exact re _ _ (re_indexAddr _ _ _ s s) h
    · exact re _ _ (re_index _ _ _ s s) h
    · exact re _ _ (re_typeAssert _ _ _ s s) h
    · exact re _ _ (re_extract _ _ s s) h
  · cases o <;> first | (exact absurd rfl hb) | (cases hc; done) | skip
    · exact same_load h
    · rename_i a b x
      simp only [clsOf] at hc
      split at hc
      · cases hc
      · rename_i d hne hd
        exact same_convert ⟨d, hd, fun e he => hne _ he⟩ h
      · cases hc
    · rename_i r
      cases r <;> cases hc
    · exact same_lookup h
    · exact same_entry h
    · rename_i c
      obtain ⟨callee, args, ts⟩ := c
      cases callee with
      | value f => cases hc
      | invoke r n => cases hc
      | builtin b =>
        cases b <;> first | (cases hc; done) | skip
        all_goals
          simp only [execA, xCall, xBuiltin] at h
          first
            | exact same_minmax h
            | (split at h
               · first | exact same_len h | exact same_cap h
               · cases h)

/-! ### What an operation looks at -/
theorem mem_tmpsOf {o : Op} {k : Tmp} : k ∈ tmpsOf o ↔ Operand.tmp k ∈ o.operands.toList := by
  unfold tmpsOf
  rw [List.mem_filterMap]
  constructor
  · rintro ⟨x, hx, e⟩
    cases x <;> cases e
    exact hx
  · exact fun h => ⟨_, h, rfl⟩
theorem evalA_congr {t t' : Tm} {x : Operand} (h : ∀ k, x = .tmp k → tget t k = tget t' k) : evalA t x = evalA t' x := by
  cases x with
  | tmp k => exact h k rfl
  | _ => rfl
theorem evalL_congr {t t' : Tm} : ∀ {l : List Operand}, (∀ x ∈ l, evalA t x = evalA t' x) → evalL t l = evalL t' l
  | [], _ => rfl
  | x :: l, h => by
    simp only [evalL, List.map_cons]
    rw [h x (by simp)]
    exact congrArg _ (evalL_congr fun y hy => h y (by simp [hy]))
theorem evalP_congr {t t' : Tm} : ∀ {l : List (Nat × Operand)}, (∀ p ∈ l, evalA t p.2 = evalA t' p.2) → evalP t l = evalP t' l
  | [], _ => rfl
  | (i, x) :: l, h => by
    simp only [evalP]
    rw [h (i, x) (by simp), evalP_congr fun y hy => h y (by simp [hy])]
theorem evalO_congr {t t' : Tm} {o : Option Operand} (h : ∀ x, o = some x → evalA t x = evalA t' x) : evalO t o = evalO t' o := by
  cases o with
  | none => rfl
  | some x => simp only [evalO, h x rfl]
theorem execA_congr {t t' : Tm} {o : Op} (h : ∀ k ∈ tmpsOf o, tget t k = tget t' k) : execA P t o s = execA P t' o s := by
  have e : ∀ x ∈ o.operands.toList, evalA t x = evalA t' x := fun x hx => evalA_congr fun k hk => h k (mem_tmpsOf.2 (hk ▸ hx))
  clear h
  cases o with
  | move x => simp only [execA]; rw [e x (by simp [Op.operands])]
  | assign x => simp only [execA]; rw [e x (by simp [Op.operands])]
  | pick c a b => simp only [execA]; rw [e c (by simp [Op.operands]), e a (by simp [Op.operands]), e b (by simp [Op.operands])]
  | alloc elem => rfl
  | box elem x => simp only [execA]; rw [e x (by simp [Op.operands])]
  | build ty ps => simp only [execA]; rw [evalP_congr (fun p hp => e p.2 (by simp only [Op.operands]; exact List.mem_map_of_mem hp))]
  | buildSlice ty n ps => simp only [execA]; rw [evalP_congr (fun p hp => e p.2 (by simp only [Op.operands]; exact List.mem_map_of_mem hp))]
  | insert ty m k x => simp only [execA]; rw [e m (by simp [Op.operands]), e k (by simp [Op.operands]), e x (by simp [Op.operands])]
  | load ty a => simp only [execA]; rw [e a (by simp [Op.operands])]
  | store ty a x => simp only [execA]; rw [e a (by simp [Op.operands]), e x (by simp [Op.operands])]
  | ready g => rfl
  | waits g => rfl
  | nilCheck x => simp only [execA]; rw [e x (by simp [Op.operands])]
  | binOp op ty x y z => simp only [execA]; rw [e x (by simp [Op.operands]), e y (by simp [Op.operands])]
  | unOp op ty x => simp only [execA]; rw [e x (by simp [Op.operands])]
  | convert a b x => simp only [execA]; rw [e x (by simp [Op.operands])]
  | sliceToArrayPointer ty x => rfl
  | makeInterface ty x => simp only [execA]; rw [e x (by simp [Op.operands])]
  | makeFunc fn a b => simp only [execA]; rw [evalL_congr (l := a.toList) (fun x hx => e x (by simp [Op.operands]; left; simpa using hx)), evalL_congr (l := b.toList) (fun x hx => e x (by simp [Op.operands]; right; simpa using hx))]
  | makeMap ty r => simp only [execA]; rw [evalO_congr (fun x hx => e x (by subst hx; simp [Op.operands]))]
  | makeChan ty x => rfl
  | makeSlice ty a b => simp only [execA]; rw [e a (by simp [Op.operands]), e b (by simp [Op.operands])]
  | slice ty x l hh m => simp only [execA]; rw [e x (by simp [Op.operands]), evalO_congr (fun y hy => e y (by subst hy; simp [Op.operands])), evalO_congr (o := hh) (fun y hy => e y (by subst hy; simp [Op.operands])), evalO_congr (o := m) (fun y hy => e y (by subst hy; simp [Op.operands]))]
  | fieldAddr ty x f => simp only [execA]; rw [e x (by simp [Op.operands])]
  | field ty x f => simp only [execA]; rw [e x (by simp [Op.operands])]
  | indexAddr ty x i => simp only [execA]; rw [e x (by simp [Op.operands]), e i (by simp [Op.operands])]
  | index ty x i => simp only [execA]; rw [e x (by simp [Op.operands]), e i (by simp [Op.operands])]
  | lookup ty x i ok => simp only [execA]; rw [e x (by simp [Op.operands]), e i (by simp [Op.operands])]
  | mapUpdate ty m k x => simp only [execA]; rw [e m (by simp [Op.operands]), e k (by simp [Op.operands]), e x (by simp [Op.operands])]
  | mapEntry ty m k => simp only [execA]; rw [e m (by simp [Op.operands]), e k (by simp [Op.operands])]
  | entryStore ty m k x => simp only [execA]; rw [e m (by simp [Op.operands]), e k (by simp [Op.operands]), e x (by simp [Op.operands])]
  | range ty x => simp only [execA]; rw [e x (by simp [Op.operands])]
  | next x b => simp only [execA]; rw [e x (by simp [Op.operands])]
  | entry x => simp only [execA]; rw [e x (by simp [Op.operands])]
  | typeAssert x a b ok => simp only [execA]; rw [e x (by simp [Op.operands])]
  | extract x i => simp only [execA]; rw [e x (by simp [Op.operands])]
  | call c =>
    obtain ⟨callee, args, ts⟩ := c
    have ea : evalL t args.toList = evalL t' args.toList := evalL_congr fun x hx => e x (by simp [Op.operands, Call.operands]; right; simpa using hx)
    cases callee with
    | value f =>
      have ef := e f (by simp [Op.operands, Call.operands])
      simp only [execA, xCall, ea, ef]
    | invoke r n =>
      have ef := e r (by simp [Op.operands, Call.operands])
      simp only [execA, xCall, ea, ef]
    | builtin b => simp only [execA, xCall, ea]
  | go c => rfl
  | defer c => rfl
  | panic x => rfl
  | send a b => rfl
  | recv a b c => rfl
  | select a b => rfl
theorem allocA_congr {t t' : Tm} {o : Op} (h : ∀ k ∈ tmpsOf o, tget t k = tget t' k) (id : Nat) : allocA P t o id = allocA P t' o id := by
  have e : ∀ x ∈ o.operands.toList, evalA t x = evalA t' x := fun x hx => evalA_congr fun k hk => h k (mem_tmpsOf.2 (hk ▸ hx))
  clear h
  cases o <;> try rfl
  · rename_i elem x
    simp only [allocA]; rw [e x (by simp [Op.operands])]
  · rename_i ty n ps
    simp only [allocA]; rw [evalP_congr (fun p hp => e p.2 (by simp only [Op.operands]; exact List.mem_map_of_mem hp))]
  · rename_i ty r
    cases r <;> rfl
  · rename_i ty a b
    simp only [allocA]; rw [e a (by simp [Op.operands]), e b (by simp [Op.operands])]

theorem only_get (t : Tm) : ∀ (ks : List Tmp) (k : Tmp), tget (only ks t) k = if k ∈ ks then tget t k else .junk
  | [], k => by
    rw [if_neg (by simp)]
    exact QD.get_full _ _
  | j :: ks, k => by
    show tget (tset (only ks t) j (tget t j)) k = _
    rw [tget_tset, only_get t ks]
    by_cases h : k = j
    · subst h; simp
    · simp [h]
theorem only_TR {n : Nat} {ks : List Tmp} {t : Tm} {c : Array Value} (hn : n ≤ c.size) (h : ∀ k ∈ ks, VR σ ρ (tget t k) (c.getD k undef)) : TR σ ρ n (only ks t) c := by
  refine ⟨hn, fun k => ?_⟩
  rw [only_get]
  split
  · exact h k (by assumption)
  · trivial

/-! ### What must come before -/
inductive Path (ops : Array Oper) (i : Nat) : Nat → Prop
  | edge {j : Nat} {o : Oper} {e : Edge} : ops[j]? = some o → e ∈ o.after → Region.binds .any e = true → e.on = i → Path ops i j
  | step {j : Nat} {o : Oper} {e : Edge} : ops[j]? = some o → e ∈ o.after → Region.binds .any e = true → Path ops i e.on → Path ops i j
theorem testBit_two_pow_self' (i j : Nat) : (2 ^ i).testBit j = decide (i = j) := by rw [Nat.testBit_two_pow]
theorem before_path (ops : Array Oper) {i j : Nat} (h : befB (Region.before ops) i j = true) : Path ops i j := by
  have inner : ∀ (acc : Array Nat) (es : List Edge) (s0 : Nat) (i : Nat),
      (es.foldl (fun s e => if Region.binds .any e then s ||| 2 ^ e.on ||| acc.getD e.on 0 else s) s0).testBit i = true →
      s0.testBit i = true ∨ ∃ e ∈ es, Region.binds .any e = true ∧ (e.on = i ∨ (acc.getD e.on 0).testBit i = true) := by
    intro acc es
    induction es with
    | nil => exact fun s0 i h => .inl h
    | cons e es ih =>
      intro s0 i h
      rw [List.foldl_cons] at h
      rcases ih _ i h with h | ⟨e', he', hb, hh⟩
      · split at h
        · rename_i hb
          rw [Nat.testBit_or, Nat.testBit_or, testBit_two_pow_self'] at h
          simp only [Bool.or_eq_true, decide_eq_true_eq] at h
          rcases h with (h | h) | h
          · exact .inl h
          · exact .inr ⟨e, by simp, hb, .inl h⟩
          · exact .inr ⟨e, by simp, hb, .inr h⟩
        · exact .inl h
      · exact .inr ⟨e', by simp [he'], hb, hh⟩
  have outer : ∀ (l : List Oper) (pre : List Oper) (acc : Array Nat), ops.toList = pre ++ l → acc.size = pre.length → (∀ i j, (acc.getD j 0).testBit i = true → Path ops i j) →
      ∀ i j, ((l.foldl (fun acc o => acc.push (o.after.foldl (fun s e => if Region.binds .any e then s ||| 2 ^ e.on ||| acc.getD e.on 0 else s) 0)) acc).getD j 0).testBit i = true → Path ops i j := by
    intro l
    induction l with
    | nil => exact fun pre acc _ _ h => h
    | cons o l ih =>
      intro pre acc hops hsz hacc
      rw [List.foldl_cons]
      refine ih (pre ++ [o]) _ (by simp [hops]) (by simp [hsz]) fun i j h => ?_
      have ho : ops[pre.length]? = some o := by
        have : ops.toList[pre.length]? = some o := by rw [hops]; simp
        simpa using this
      rw [Array.getD_eq_getD_getElem?] at h
      rcases Nat.lt_trichotomy j acc.size with hj | hj | hj
      · rw [Array.getElem?_push_lt hj, ← Array.getElem?_eq_getElem hj, ← Array.getD_eq_getD_getElem?] at h
        exact hacc i j h
      · subst hj
        rw [Array.getElem?_push_size] at h
        simp only [Option.getD_some] at h
        rw [← Array.foldl_toList] at h
        rcases inner acc o.after.toList 0 i h with h | ⟨e, he, hb, hh⟩
        · simp at h
        · rw [hsz]
          rcases hh with rfl | hh
          · exact .edge ho (by simpa using he) hb rfl
          · exact .step ho (by simpa using he) hb (hacc i _ hh)
      · rw [Array.getElem?_eq_none (by simp; omega)] at h
        simp at h
  unfold befB at h
  unfold Region.before at h
  rw [← Array.foldl_toList] at h
  exact outer ops.toList [] #[] rfl rfl (fun i j h => by simp [Array.getD] at h) i j h

/-- What is listed holds, with each operation, those that must come before. -/
def Down (ops : Array Oper) (L : Nat → Prop) : Prop := ∀ j o, L j → ops[j]? = some o → ∀ e ∈ o.after, Region.binds .any e = true → L e.on
theorem Down.path {ops : Array Oper} {L : Nat → Prop} (h : Down ops L) {i j : Nat} (hp : Path ops i j) : L j → L i := by
  induction hp with
  | edge ho he hb hi => exact fun hj => hi ▸ h _ _ hj ho _ he hb
  | step ho he hb _ ih => exact fun hj => ih (h _ _ hj ho _ he hb)
/-- All that must come before an operation that is ready is listed. -/
theorem Down.ready {ops : Array Oper} {L : Nat → Prop} (h : Down ops L) {i j : Nat} (hp : Path ops i j) (hr : ∀ o, ops[j]? = some o → ∀ e ∈ o.after, Region.binds .any e = true → L e.on) : L i := by
  cases hp with
  | edge ho he hb hi => exact hi ▸ hr _ ho _ he hb
  | step ho he hb hp => exact h.path hp (hr _ ho _ he hb)
end Go.AX
set_option linter.unusedVariables false
set_option linter.unusedSimpArgs false
namespace Go.AX
open Go
variable {P : Program} {σ : Sg} {ρ : Ren} {s : St} {w : World}

def MadeAt (P : Program) (σ : Sg) (ρ : Ren) (w : World) (id : Nat) (v : AV) (ob : AObj) (res : Result Next) : Prop :=
  ∃ cv x w', res = .ok (.value cv) w' ∧ w'.heap = w.heap.push x ∧ w'.os = w.os ∧ w'.output = w.output ∧ w'.tape = w.tape ∧ VR σ ρ v cv ∧ ObjR P σ ρ id ⟨w.heap.size, 0, 0⟩ ob x ∧ ob.isRom = false

theorem row_obj {c : List AV} {cs : Array Value} {e : TypeId} {id sz : Nat} (hv : VRL σ ρ c cs.toList) : ObjR P σ ρ id ⟨sz, 0, 0⟩ (.cells c.length c c.length Q.e e false) (.cells cs e) := by
  refine ⟨cs, (0, 0), rfl, fun i hi => ?_, ?_, rfl⟩
  · obtain ⟨x, hx⟩ : ∃ x, c[i]? = some x := ⟨_, List.getElem?_eq_getElem hi⟩
    obtain ⟨y, hy, hvr⟩ := VRL.get hv hx
    refine ⟨y, by simpa using hy, cell_of (x := x) ?_ hvr⟩
    rw [cellAt_e, show Nat.mod i c.length = i from Nat.mod_eq_of_lt hi]
    exact hx
  · have := hv.length
    simp at this ⊢; omega

theorem buildSlice_at (hσ : Plain σ) {t' e : TypeId} {len sz id : Nat} {z cs : List AV} {parts : List (Nat × AV)} {cparts : Array (Nat × Value)} (he : elemOfT P t' = some e) (hz : zeroCells P e = some z) (hsz : sizeOfT P e = some sz)
    (hp : VRP σ ρ parts cparts.toList) (hcond : (z.length.beq sz && (len * sz).ble 16777216) = true) (hf : fillA (fun i => some (i * sz, sz)) (rep z len) parts = some cs) {ρ' : Ren} (hle : ρ.le ρ') (hid : ρ' id = some ⟨w.heap.size, 0, 0⟩) :
    MadeAt P σ ρ' w id (.sl id 0 len (.k len)) (.cells cs.length cs cs.length Q.e e false) ((vOf (Instr.buildSlice t' len cparts)).run P w) := by
  obtain ⟨h1, h2⟩ := Bool.and_eq_true_iff.1 hcond
  have h1 := Nat.eq_of_beq_eq_true h1
  have h2 := Nat.le_of_ble_eq_true h2
  obtain ⟨zv, z1, z2⟩ := zeroCells_run hσ (ρ := ρ) (w := w) hz
  have hzs : zv.cells.size = sz := by have := z2.length; simp at this; omega
  have hrep := rep_VRL z2 len
  rw [← zeros_eq, hzs] at hrep
  obtain ⟨out, g1, g2⟩ := fillA_run hσ hp hrep hf
  have hle2 := VRL.mono hle _ g2
  refine ⟨.slice (some ⟨w.heap.size, 0, none⟩) len len, .cells out e, { w with heap := w.heap.push (.cells out e) }, vOf_run ?_, rfl, rfl, rfl, rfl, ⟨⟨w.heap.size, 0, 0⟩, len, hid, ⟨rfl, Nat.le_refl _⟩, rfl⟩, row_obj hle2, rfl⟩
  simp only [Instr.buildSlice, Sem.run_bind, underlying_run (elemOf_run he), Result.andThen_ok, sizeOf_run hsz]
  rw [if_neg (by show ¬ (len * sz > 16777216); omega)]
  by_cases h0 : len * sz = 0
  · have e0 : (Array.range (len * sz)).map (fun x => (#[] : Array Value)[x % (#[] : Array Value).size]!) = (Array.range (len * sz)).map (fun i => zv.cells[i % sz]!) := by
      have r0 : ∀ f : Nat → Value, (Array.range 0).map f = #[] := fun f => Array.ext' (by simp)
      rw [h0, r0, r0]
    rw [if_pos h0]
    rw [Sem.run_bind, Sem.run_pure, Result.andThen_ok]
    rw [e0, g1]
    simp [newRow_run]
  · rw [if_neg h0]
    simp only [Sem.run_bind, z1, Result.andThen_ok, Sem.run_pure, hzs]
    simp [g1, newRow_run]
theorem makeSlice_at (hσ : Plain σ) {t' e : TypeId} {l n sz by_ id : Nat} {z : List AV} {al ac : AV} {ca cc : Value} (he : elemOfT P t' = some e) (hl : asN al = some l) (hn : asN ac = some n) (hz : zeroCells P e = some z) (hsz : sizeOfT P e = some sz)
    (hby : bytesOfT P e = some by_) (ha : VR σ ρ al ca) (hc : VR σ ρ ac cc) (hcond : (l.ble n && n.ble 4611686018427387904 && (by_ * n).ble 281474976710656 && z.length.beq sz) = true) {ρ' : Ren} (hle : ρ.le ρ') (hid : ρ' id = some ⟨w.heap.size, 0, 0⟩) :
    MadeAt P σ ρ' w id (.sl id 0 l (.k n)) (.cells (n * sz) z sz Q.e e false) ((vOf (Instr.makeSlice t' ca cc)).run P w) := by
  obtain ⟨hcond, h4⟩ := Bool.and_eq_true_iff.1 hcond
  obtain ⟨hcond, h3⟩ := Bool.and_eq_true_iff.1 hcond
  obtain ⟨h1, h2⟩ := Bool.and_eq_true_iff.1 hcond
  have h1 := Nat.le_of_ble_eq_true h1
  have h2 := Nat.le_of_ble_eq_true h2
  have h3 := Nat.le_of_ble_eq_true h3
  have h4 := Nat.eq_of_beq_eq_true h4
  obtain ⟨k1, rfl⟩ := asN_VR ha hl
  obtain ⟨k2, rfl⟩ := asN_VR hc hn
  obtain ⟨i, hi, hib⟩ := info_of_bytes hby
  obtain ⟨zv, hzv, hzr⟩ := zeroCells_run hσ (ρ := ρ) (w := w) hz
  have e1 := wrap64_small l (by omega)
  have e2 := wrap64_small n (by omega)
  let cells : Array Value := (Array.range (n * sz)).map (fun j => zv.cells[j % zv.cells.size]!)
  have hcells : ∀ zc : Array Value, (n * sz ≠ 0 → zc = zv.cells) → (Array.range (n * sz)).map (fun j => zc[j % zc.size]!) = cells := by
    intro zc hzc
    by_cases h0 : n * sz = 0
    · simp [cells, h0]
    · rw [hzc h0]
  have hrun : (Instr.makeSlice t' (.int k1 l) (.int k2 n)).run P w = .ok (.slice (some ⟨w.heap.size, 0, none⟩) l n) { w with heap := w.heap.push (.cells cells e) } := by
    have t1 : ¬ ((n : Int) < 0) := by omega
    have t2 : ¬ ((i.bytes : Int) * n > 2 ^ 48) := by
      rw [hib]
      have this : ((by_ * n : Nat) : Int) ≤ ((281474976710656 : Nat) : Int) := Int.ofNat_le.2 h3
      rw [Int.natCast_mul] at this
      show ¬ ((by_ : Int) * n > (281474976710656 : Int))
      omega
    simp only [Instr.makeSlice, Sem.run_bind, underlying_run (elemOf_run he), Result.andThen_ok, asInt, asIntOf, Sem.run_pure, typeInfo_run hi, e1, e2]
    simp only [t1, t2, decide_false, Bool.or_self, Bool.false_or]
    have t3 : ¬ ((l : Int) < 0) := by omega
    have t4 : ¬ ((l : Int) > n) := by omega
    simp only [t3, t4, decide_false, Bool.or_self, Bool.false_eq_true, if_false]
    simp only [Int.toNat_natCast]
    by_cases h0 : n * sz = 0
    · simp only [Sem.run_bind, run_askRoom, Result.andThen_ok, sizeOf_run hsz, h0, if_true, Sem.run_pure, newRow_run]
      have r0 : ∀ f : Nat → Value, (Array.range 0).map f = #[] := fun f => Array.ext' (by simp)
      have rc : cells = #[] := by show (Array.range (n * sz)).map _ = #[]; rw [h0, r0]
      rw [rc, r0]
    · simp only [Sem.run_bind, run_askRoom, Result.andThen_ok, sizeOf_run hsz, h0, if_false, hzv, Sem.run_pure, newRow_run]
      rfl
  refine ⟨.slice (some ⟨w.heap.size, 0, none⟩) l n, .cells cells e, { w with heap := w.heap.push (.cells cells e) }, ?_, rfl, rfl, rfl, rfl, ⟨⟨w.heap.size, 0, 0⟩, n, hid, ⟨rfl, h1⟩, rfl⟩, ?_, rfl⟩
  · exact vOf_run hrun
  refine ⟨cells, (0, 0), rfl, fun j hj => ?_, by simp [cells], rfl⟩
  obtain ⟨x, hx, y, hy, hr⟩ := zeros_row hzr h4 hj
  exact ⟨y, by rw [Nat.zero_add]; exact hy, cell_of (x := x) (by rw [cellAt_e]; exact hx) (VR.mono hle _ hr)⟩
theorem MadeAt.cast {id : Nat} {v : AV} {ob : AObj} {m m' : Sem Next} (e : m = m') (h : MadeAt P σ ρ w id v ob (m.run P w)) : MadeAt P σ ρ w id v ob (m'.run P w) := e ▸ h
theorem allocA_ok (hσ : Plain σ) (hR : Rel P σ ρ s w) {nt : Nat} {t : Tm} {a : Act} (hT : TR σ ρ nt t a.tmps) {o : Oper} {id : Nat} {v : AV} {ob : AObj} (h : allocA P t o.op id = some (v, ob))
    {ρ' : Ren} (hle : ρ.le ρ') (hid : ρ' id = some ⟨w.heap.size, 0, 0⟩) : MadeAt P σ ρ' w id v ob ((execOp a.eval o).run P w) := by
  have ptr : VR σ ρ' (.ptr id 0) (.pointer (some ⟨w.heap.size, 0, none⟩)) := ⟨⟨w.heap.size, 0, 0⟩, hid, rfl⟩
  obtain ⟨dst, op, ty, pos, after, guard⟩ := o
  have ev := fun x => evalA_VR hR hT x
  cases op <;> first | (cases h; done) | skip
  · rename_i elem
    simp only [allocA] at h
    split at h
    · rename_i c hc
      cases h
      obtain ⟨z, hz, hv⟩ := zeroCells_run hσ (ρ := ρ') (w := w) hc
      refine ⟨_, .cells z.cells elem, { w with heap := w.heap.push (.cells z.cells elem) }, vOf_run (v := .pointer (some ⟨w.heap.size, 0, none⟩)) ?_, rfl, rfl, rfl, rfl, ptr, row_obj hv, rfl⟩
      simp [Instr.alloc, hz, newVar_run]
    · cases h
  · rename_i elem x
    simp only [allocA] at h
    split at h
    · rename_i c hc
      cases h
      have hv := cellsA_VRL hσ (VR.mono hle _ (ev x)) hc
      refine ⟨_, .cells (a.eval x).cells elem, { w with heap := w.heap.push (.cells (a.eval x).cells elem) }, vOf_run (v := .pointer (some ⟨w.heap.size, 0, none⟩)) ?_, rfl, rfl, rfl, rfl, ptr, row_obj hv, rfl⟩
      simp [Instr.box, newVar_run]
    · cases h
  · rename_i t' len parts
    simp only [allocA] at h
    split at h
    · rename_i e he
      split at h
      · rename_i z sz hz hsz
        split at h
        · rename_i cs hcond hf
          cases h
          have hp := evalP_VRP hR hT parts.toList
          have hp' : VRP σ ρ (evalP t parts.toList) (parts.map fun p => (p.1, a.eval p.2)).toList := by
            rw [Array.toList_map]; exact hp
          have hm := buildSlice_at (P := P) (w := w) hσ he hz hsz hp' hcond hf hle hid
          exact MadeAt.cast rfl hm
        · cases h
      · cases h
    · cases h
  · rename_i t' r
    cases r with
    | some x => cases h
    | none =>
      cases h
      exact ⟨_, .map #[] 0, { w with heap := w.heap.push (.map #[] 0) }, vOf_run (v := .map (some w.heap.size)) (by simp [Instr.makeMap]), rfl, rfl, rfl, rfl, ⟨⟨w.heap.size, 0, 0⟩, hid, rfl⟩, ⟨[], rfl, rfl⟩, rfl⟩
  · rename_i t' al ac
    simp only [allocA] at h
    have ha := ev al
    have hc := ev ac
    split at h
    · rename_i e he
      split at h
      · rename_i l n hl hn
        split at h
        · rename_i z sz by_ hz hsz hby
          split at h
          · rename_i hcond
            cases h
            exact makeSlice_at hσ he hl hn hz hsz hby ha hc hcond hle hid
          · cases h
        · cases h
      · cases h
    · cases h
end Go.AX
set_option linter.unusedVariables false
set_option linter.unusedSimpArgs false
namespace Go.AX
open Go
variable {P : Program} {σ : Sg}

structure Cfg where
  t : Tm
  s : St
  sn : List St
  pe : Pend

/-- A guard, in the executor's run. -/
def Gd (ops : Array Oper) (t : Tm) (o : Oper) (b : Bool) : Prop := match o.guard with
  | none => b = true
  | some (g, want) => ∃ d, (ops[g]?).bind (·.dst) = some d ∧ ((AV.asB (tget t d) = .tt ∧ b = want) ∨ (AV.asB (tget t d) = .ff ∧ b = !want) ∨ (AV.asB (tget t d) = .un ∧ b = false))

inductive StepD (P : Program) (self : Self) (ops : Array Oper) (as : List Nat) (base : Nat) (js : List Nat) (j : Nat) (o : Oper) (c : Cfg) : Cfg → Prop
  | quiet {u : AV} : Gd ops c.t o true → clsOf P o.op = 0 → execA P c.t o.op c.s = .val u c.s → StepD P self ops as base js j o c ⟨putA c.t o.dst u, c.s, c.sn, c.pe⟩
  | alloc {u : AV} {ob : AObj} : Gd ops c.t o true → clsOf P o.op = 1 → allocA P c.t o.op (base + rankOf j as) = some (u, ob) → StepD P self ops as base js j o c ⟨putA c.t o.dst u, c.s, c.sn, (j, ob) :: c.pe⟩
  | act {u : AV} {s' : St} : Gd ops c.t o true → clsOf P o.op = 2 → Ran P self c.t o.op (absorb as base c.pe js c.s) u s' → StepD P self ops as base js j o c ⟨putA c.t o.dst u, s', s' :: c.sn, c.pe⟩
  | skip : Gd ops c.t o false → clsOf P o.op ≠ 2 → StepD P self ops as base js j o c ⟨putA c.t o.dst undefA, c.s, c.sn, c.pe⟩
  | skipE : Gd ops c.t o false → clsOf P o.op = 2 → StepD P self ops as base js j o c ⟨putA c.t o.dst undefA, absorb as base c.pe js c.s, absorb as base c.pe js c.s :: c.sn, c.pe⟩

theorem clsOf_le (o : Op) : clsOf P o = 0 ∨ clsOf P o = 1 ∨ clsOf P o = 2 := by
  unfold clsOf
  (repeat' split) <;> simp

theorem fquiet_ok {o : Op} (hc : clsOf P o = 0) {t : Tm} {s : St} {u : AV} (h : (fquiet P o).get t s = .mk u) : execA P t o s = .val u s := by
  unfold fquiet at h
  split at h
  · rename_i x hx
    dsimp only at h
    rw [fopn_eq] at h
    cases h
    unfold isMove at hx
    split at hx
    · cases hx; rfl
    · cases hx; rfl
    · cases hx
  · split at h
    · rename_i f hf
      exact fval_ok hf h
    · dsimp only at h
      cases e : execA P t o s with
      | val v s' =>
        rw [e] at h
        cases h
        rw [quiet_same hc e]
      | _ => rw [e] at h; cases h

section
variable {self : Self} (hB : ∀ f args s v s', self.call f args s = .ok v s' → ∃ fn c, P.funcs[f]? = some fn ∧ fn.body = some c)
  {ops : Array Oper} {as js : List Nat} {base j : Nat} {o : Oper} {rest : DReg} {K : KD} {v : AV} {sE : St}
include hB
theorem dstep_ok {c : Cfg} (hg : Gd ops c.t o true) (h : (dstep P as js j o rest).run self base c.t c.s c.sn c.pe K = .ok v sE) :
    ∃ c', StepD P self ops as base js j o c c' ∧ rest.run self base c'.t c'.s c'.sn c'.pe K = .ok v sE := by
  unfold dstep at h
  dsimp only at h
  split at h
  · rename_i hc
    dsimp only at h
    cases e : (fquiet P o.op).get c.t c.s with
    | no => rw [e] at h; cases h
    | mk u =>
      rw [e] at h
      change rest.go self base ((fput o.dst).put c.t u) c.s c.sn c.pe K = _ at h
      rw [fput_eq] at h
      exact ⟨_, .quiet hg hc (fquiet_ok hc e), h⟩
  · rename_i hc
    dsimp only at h
    cases e : allocA P c.t o.op (Nat.add base (rankOf j as)) with
    | none => rw [e] at h; cases h
    | some p =>
      obtain ⟨u, ob⟩ := p
      rw [e] at h
      change rest.go self base ((fput o.dst).put c.t u) c.s c.sn ((j, ob) :: c.pe) K = _ at h
      rw [fput_eq] at h
      exact ⟨_, .alloc hg hc e, h⟩
  · rename_i h0 h1
    have hc : clsOf P o.op = 2 := by
      rcases clsOf_le (P := P) o.op with h' | h' | h'
      · exact absurd h' h0
      · exact absurd h' h1
      · exact h'
    dsimp only at h
    cases e : (fop P o.op).run self c.t (absorb as base c.pe js c.s) with
    | bad => rw [e] at h; cases h
    | ok u s' =>
      rw [e] at h
      change rest.go self base ((fput o.dst).put c.t u) s' (s' :: c.sn) c.pe K = _ at h
      rw [fput_eq] at h
      exact ⟨_, .act hg hc (fop_ok hB e), h⟩
omit hB in
theorem dskip_ok {c : Cfg} (hg : Gd ops c.t o false) (h : (dskip P as js o rest).run self base c.t c.s c.sn c.pe K = .ok v sE) :
    ∃ c', StepD P self ops as base js j o c c' ∧ rest.run self base c'.t c'.s c'.sn c'.pe K = .ok v sE := by
  unfold dskip at h
  dsimp only at h
  split at h
  · rename_i hc
    change rest.go self base ((fput o.dst).put c.t undefA) c.s c.sn c.pe K = _ at h
    rw [fput_eq] at h
    exact ⟨_, .skip hg (by omega), h⟩
  · rename_i hc
    change rest.go self base ((fput o.dst).put c.t undefA) c.s c.sn c.pe K = _ at h
    rw [fput_eq] at h
    exact ⟨_, .skip hg (by omega), h⟩
  · rename_i h0 h1
    have hc : clsOf P o.op = 2 := by
      rcases clsOf_le (P := P) o.op with h' | h' | h'
      · exact absurd h' h0
      · exact absurd h' h1
      · exact h'
    change rest.go self base ((fput o.dst).put c.t undefA) (absorb as base c.pe js c.s) (absorb as base c.pe js c.s :: c.sn) c.pe K = _ at h
    rw [fput_eq] at h
    exact ⟨_, .skipE hg hc, h⟩
theorem dguard_ok {c : Cfg} (h : (dguard P ops as js j o rest).run self base c.t c.s c.sn c.pe K = .ok v sE) :
    ∃ c', StepD P self ops as base js j o c c' ∧ rest.run self base c'.t c'.s c'.sn c'.pe K = .ok v sE := by
  unfold dguard at h
  split at h
  · rename_i hg
    exact dstep_ok hB (by unfold Gd; rw [hg]) h
  · rename_i g want hg
    split at h
    · rename_i d hd
      change (guardD want (tget c.t d) _ _).run self base c.t c.s c.sn c.pe K = .ok v sE at h
      have gd : ∀ b, ((AV.asB (tget c.t d) = .tt ∧ b = want) ∨ (AV.asB (tget c.t d) = .ff ∧ b = !want) ∨ (AV.asB (tget c.t d) = .un ∧ b = false)) → Gd ops c.t o b := fun b hb => by
        unfold Gd; rw [hg]; exact ⟨d, hd, hb⟩
      unfold guardD at h
      cases hb : AV.asB (tget c.t d) with
      | no => rw [hb] at h; cases h
      | tt =>
        rw [hb] at h
        cases want
        · exact dskip_ok (gd _ (.inl ⟨hb, rfl⟩)) h
        · exact dstep_ok hB (gd _ (.inl ⟨hb, rfl⟩)) h
      | ff =>
        rw [hb] at h
        cases want
        · exact dstep_ok hB (gd _ (.inr (.inl ⟨hb, rfl⟩))) h
        · exact dskip_ok (gd _ (.inr (.inl ⟨hb, rfl⟩))) h
      | un =>
        rw [hb] at h
        exact dskip_ok (gd _ (.inr (.inr ⟨hb, rfl⟩))) h
    · cases h
theorem dregL_ok {b : Array Nat} : ∀ (l : List Oper) (j : Nat) (c : Cfg), (dregL P ops b as l j).run self base c.t c.s c.sn c.pe K = .ok v sE →
    ∃ C : Nat → Cfg, C 0 = c ∧ (∀ i o, l[i]? = some o → StepD P self ops as base (newAt b as (esA P ops 2 (j + i)) (j + i)) (j + i) o (C i) (C (i + 1))) ∧ K (C l.length).t (C l.length).s (C l.length).sn (C l.length).pe = .ok v sE
  | [], j, c, h => ⟨fun _ => c, rfl, fun i o h => by simp at h, h⟩
  | o :: l, j, c, h => by
    obtain ⟨c', hs, h⟩ := dguard_ok hB h
    obtain ⟨C, h0, h1, h2⟩ := dregL_ok l (j + 1) c' h
    refine ⟨fun i => match i with | 0 => c | i + 1 => C i, rfl, fun i o' hi => ?_, h2⟩
    cases i with
    | zero =>
      simp at hi
      subst hi
      dsimp only
      rw [h0]
      exact hs
    | succ i =>
      have := h1 i o' (by simpa using hi)
      rw [show j + 1 + i = j + (i + 1) by omega] at this
      exact this
end
end Go.AX
set_option linter.unusedVariables false
set_option linter.unusedSimpArgs false
namespace Go.AX
open Go
variable {P : Program} {σ : Sg}

/-! ### Objects that wait -/
def Side (P : Program) (σ : Sg) (ρ : Ren) (w : World) (s : St) (B0 : Nat) (id : Nat → Nat) (PE : Nat → Option AObj) (X : Nat → Prop) : Prop :=
  (∀ j ob, X j → PE j = some ob → ∃ loc x, ρ (id j) = some loc ∧ w.heap[loc.blk]? = some x ∧ ObjR P σ ρ (id j) loc ob x ∧ B0 ≤ loc.blk ∧ ob.isRom = false ∧ ∀ b o l, s.h.get b = some o → ρ b = some l → l.blk ≠ loc.blk) ∧
  (∀ j j' ob ob' l l', X j → X j' → PE j = some ob → PE j' = some ob' → ρ (id j) = some l → ρ (id j') = some l' → l.blk = l'.blk → j = j')

section side
variable {ρ ρ' ρ0 : Ren} {w w' w0 : World} {s s' s0 : St} {B0 : Nat} {id : Nat → Nat} {PE : Nat → Option AObj} {X : Nat → Prop}
theorem Side.weaken {Y : Nat → Prop} (h : Side P σ ρ w s B0 id PE X) (hY : ∀ j ob, Y j → PE j = some ob → X j) : Side P σ ρ w s B0 id PE Y :=
  ⟨fun j ob hj e => h.1 j ob (hY j ob hj e) e, fun j j' ob ob' l l' hj hj' e e' => h.2 j j' ob ob' l l' (hY _ _ hj e) (hY _ _ hj' e') e e'⟩
theorem Side.step (h : Side P σ ρ w s B0 id PE X) (ho : Own ρ ρ' s s' w) (hf : Frm ρ s w w') : Side P σ ρ' w' s' B0 id PE X := by
  refine ⟨fun j ob hj e => ?_, fun j j' ob ob' l l' hj hj' e e' hl hl' he => ?_⟩
  · obtain ⟨loc, x, h1, h2, h3, h4, h5, h6⟩ := h.1 j ob hj e
    have hlt : loc.blk < w.heap.size := (Array.getElem?_eq_some_iff.1 h2).1
    refine ⟨loc, x, ho.le _ _ h1, ?_, h3.mono ho.le, h4, h5, fun b o l hb hl he => ?_⟩
    · rw [hf.keep _ hlt (fun b o l hb _ hl => h6 b o l hb hl)]; exact h2
    · rcases ho.all b o l hb hl with ⟨b0, o0, l0, g0, e0, eq0⟩ | hge
      · exact h6 b0 o0 l0 g0 e0 (eq0.trans he)
      · omega
  · obtain ⟨loc, x, h1, _⟩ := h.1 j ob hj e
    obtain ⟨loc', x', h1', _⟩ := h.1 j' ob' hj' e'
    have a1 := ho.le _ _ h1
    have a2 := ho.le _ _ h1'
    rw [hl] at a1; cases a1
    rw [hl'] at a2; cases a2
    exact h.2 j j' ob ob' _ _ hj hj' e e' h1 h1' he
/-- One that waits is taken in. -/
theorem Side.take (h : Side P σ ρ w s B0 id PE X) (hR : Rel P σ ρ s w) {j : Nat} {ob : AObj} (hj : X j) (e : PE j = some ob) (hid : id j < s.nx) :
    Rel P σ ρ (s.put (id j) ob) w ∧ Side P σ ρ w (s.put (id j) ob) B0 id PE (fun i => X i ∧ i ≠ j) ∧ (Own ρ0 ρ s0 s w0 → w0.heap.size ≤ B0 → Own ρ0 ρ s0 (s.put (id j) ob) w0) := by
  obtain ⟨loc, x, h1, h2, h3, h4, h5, h6⟩ := h.1 j ob hj e
  refine ⟨⟨fun b o hb => ?_, fun b b' o o' l l' hb hb' hl hl' he => ?_, hR.fresh, hR.glob, fun b o hb => ?_⟩, ⟨fun i obi hi ei => ?_, fun i i' o o' l l' hi hi' => h.2 i i' o o' l l' hi.1 hi'.1⟩, fun ho hB => ⟨ho.le, ho.nx, fun b o l hb hr hl => ?_, ho.same, fun b o l hb hl => ?_⟩⟩
  · rw [put_get] at hb
    split at hb
    · rename_i he; subst he; cases hb; exact ⟨loc, x, h1, h2, h3⟩
    · exact hR.obj _ _ hb
  · rw [put_get] at hb hb'
    split at hb
    · rename_i a1; subst a1; cases hb
      rw [h1] at hl; cases hl
      split at hb'
      · rename_i a2; exact a2.symm
      · exact absurd he.symm (h6 _ _ _ hb' hl')
    · split at hb'
      · rename_i a2; subst a2; cases hb'
        rw [h1] at hl'; cases hl'
        exact absurd he (h6 _ _ _ hb hl)
      · exact hR.inj _ _ _ _ _ _ hb hb' hl hl' he
  · rw [put_get] at hb
    split at hb
    · rename_i a1; subst a1; exact hid
    · exact hR.dom _ _ hb
  · obtain ⟨loci, xi, g1, g2, g3, g4, g5, g6⟩ := h.1 i obi hi.1 ei
    refine ⟨loci, xi, g1, g2, g3, g4, g5, fun b o l hb hl he => ?_⟩
    rw [put_get] at hb
    split at hb
    · rename_i a1; subst a1
      rw [h1] at hl; cases hl
      exact hi.2 (h.2 i j obi ob _ _ hi.1 hj ei e g1 h1 he.symm)
    · exact g6 _ _ _ hb hl he
  · rw [put_get] at hb
    split at hb
    · rename_i a1; subst a1
      rw [h1] at hl; cases hl
      exact .inr (by omega)
    · exact ho.own _ _ _ hb hr hl
  · rw [put_get] at hb
    split at hb
    · rename_i a1; subst a1
      rw [h1] at hl; cases hl
      exact .inr (by omega)
    · exact ho.all _ _ _ hb hl
theorem absorb_nx (as : List Nat) (base : Nat) (pe : Pend) : ∀ (js : List Nat) (s : St), (absorb as base pe js s).nx = s.nx
  | [], s => rfl
  | j :: js, s => by
    simp only [absorb]
    split
    · rw [absorb_nx as base pe js]; rfl
    · exact absorb_nx as base pe js s
theorem absorb_congr {as : List Nat} {base : Nat} {pe pe' : Pend} : ∀ {js : List Nat} {s : St}, (∀ j ∈ js, pget j pe = pget j pe') → absorb as base pe js s = absorb as base pe' js s
  | [], s, _ => rfl
  | j :: js, s, h => by
    simp only [absorb]
    rw [h j (by simp)]
    split
    · exact absorb_congr fun i hi => h i (by simp [hi])
    · exact absorb_congr fun i hi => h i (by simp [hi])
theorem Side.absorb {as : List Nat} {base : Nat} {pe : Pend} : ∀ {js : List Nat} {s : St} {X : Nat → Prop}, js.Nodup → (∀ j ∈ js, X j) → (∀ j, j ∈ js → base + rankOf j as < s.nx) → Rel P σ ρ s w → Side P σ ρ w s B0 (fun j => base + rankOf j as) (fun j => pget j pe) X →
    Rel P σ ρ (absorb as base pe js s) w ∧ Side P σ ρ w (absorb as base pe js s) B0 (fun j => base + rankOf j as) (fun j => pget j pe) (fun i => X i ∧ i ∉ js) ∧ (Own ρ0 ρ s0 s w0 → w0.heap.size ≤ B0 → Own ρ0 ρ s0 (absorb as base pe js s) w0)
  | [], s, X, _, _, _, hR, hS => ⟨hR, hS.weaken fun j ob h _ => h.1, fun h _ => h⟩
  | j :: js, s, X, hn, hX, hid, hR, hS => by
    obtain ⟨hn1, hn2⟩ := List.nodup_cons.1 hn
    simp only [Go.AX.absorb]
    split
    · rename_i ob hob
      obtain ⟨hR1, hS1, ho1⟩ := hS.take (s0 := s0) (ρ0 := ρ0) (w0 := w0) hR (hX j (by simp)) hob (hid j (by simp))
      obtain ⟨hR2, hS2, ho2⟩ := Side.absorb (s := s.put (base + rankOf j as) ob) hn2 (fun i hi => ⟨hX i (by simp [hi]), fun e => hn1 (e ▸ hi)⟩) (fun i hi => hid i (by simp [hi])) hR1 hS1
      exact ⟨hR2, hS2.weaken fun i _ h _ => ⟨⟨h.1, fun e => h.2 (by simp [e])⟩, fun e => h.2 (by simp [e])⟩, fun h hB => ho2 (ho1 h hB) hB⟩
    · rename_i hob
      obtain ⟨hR2, hS2, ho2⟩ := Side.absorb hn2 (fun i hi => hX i (by simp [hi])) (fun i hi => hid i (by simp [hi])) hR hS
      exact ⟨hR2, hS2.weaken fun i _ h _ => ⟨h.1, fun e => h.2 (by simp [e])⟩, ho2⟩
end side

/-! ### The places of one kind -/
section places
variable {ops : Array Oper}
theorem mem_esA {c n i : Nat} : i ∈ esA P ops c n ↔ i < n ∧ clsAt P ops i = c := by
  unfold esA
  rw [List.mem_filter, List.mem_range, Nat.beq_eq]
theorem esA_succ (c n : Nat) : esA P ops c (n + 1) = esA P ops c n ++ (if clsAt P ops n = c then [n] else []) := by
  unfold esA
  rw [List.range_succ, List.filter_append]
  congr 1
  by_cases h : clsAt P ops n = c
  · rw [if_pos h]; simp [h]
  · rw [if_neg h]
    have : Nat.beq (clsAt P ops n) c = false := by
      cases e : Nat.beq (clsAt P ops n) c with
      | false => rfl
      | true => exact absurd (Nat.eq_of_beq_eq_true e) h
    simp [this]
theorem esA_nodup (c n : Nat) : (esA P ops c n).Nodup := List.Pairwise.filter _ List.nodup_range
theorem esA_prefix (c : Nat) : ∀ {m n : Nat}, m ≤ n → ∃ r, esA P ops c n = esA P ops c m ++ r
  | m, 0, h => ⟨[], by rw [show m = 0 by omega]; simp⟩
  | m, n+1, h => by
    by_cases he : m = n + 1
    · exact ⟨[], by rw [he]; simp⟩
    · obtain ⟨r, hr⟩ := esA_prefix c (show m ≤ n by omega)
      exact ⟨r ++ _, by rw [esA_succ, hr, List.append_assoc]⟩
theorem esA_at {c j n : Nat} (hj : j < n) (hc : clsAt P ops j = c) : (esA P ops c n)[(esA P ops c j).length]? = some j := by
  obtain ⟨r, hr⟩ := esA_prefix (P := P) (ops := ops) c (show j + 1 ≤ n by omega)
  rw [hr, esA_succ, if_pos hc]
  simp
theorem cntLt_eq (j : Nat) : ∀ l : List Nat, cntLt j l = (l.filter fun e => decide (e < j)).length
  | [] => rfl
  | e :: l => by
    simp only [cntLt]
    by_cases h : e < j
    · have : Nat.blt e j = true := by rw [Nat.blt_eq]; exact h
      rw [this]
      simp [h, cntLt_eq j l]
    · have : Nat.blt e j = false := by
        cases e' : Nat.blt e j with
        | false => rfl
        | true => rw [Nat.blt_eq] at e'; exact absurd e' h
      rw [this]
      simp [h, cntLt_eq j l]
theorem cntLt_esA {c j n : Nat} (hj : j ≤ n) : cntLt j (esA P ops c n) = (esA P ops c j).length := by
  rw [cntLt_eq]
  congr 1
  obtain ⟨r, hr⟩ := esA_prefix (P := P) (ops := ops) c hj
  unfold esA
  rw [List.filter_filter]
  have : ∀ n, j ≤ n → (List.range n).filter (fun a => decide (a < j) && Nat.beq (clsAt P ops a) c) = (List.range j).filter (fun i => Nat.beq (clsAt P ops i) c) := by
    intro n
    induction n with
    | zero => intro h; rw [show j = 0 by omega]; rfl
    | succ n ih =>
      intro h
      by_cases he : j = n + 1
      · subst he
        refine List.filter_congr fun x hx => ?_
        simp [List.mem_range.1 hx]
      · rw [List.range_succ, List.filter_append, ih (by omega)]
        have : ¬ n < j := by omega
        simp [this]
  exact this n hj
end places

/-! ### The executor's run -/
section run
variable {self : Self} {ops : Array Oper} {as : List Nat} {base : Nat} {b : Array Nat} {C : Nat → Cfg}
  (hC : ∀ j o, ops[j]? = some o → StepD P self ops as base (newAt b as (esA P ops 2 j) j) j o (C j) (C (j + 1)))
include hC
theorem run_tmp {k : Tmp} {i : Nat} : ∀ {j : Nat}, i ≤ j → j ≤ ops.size → (∀ m o, i ≤ m → m < j → ops[m]? = some o → o.dst ≠ some k) → tget (C j).t k = tget (C i).t k
  | 0, h, _, _ => by rw [show i = 0 by omega]
  | j+1, h, hj, hn => by
    by_cases he : i = j + 1
    · rw [he]
    · have ih := run_tmp (j := j) (show i ≤ j by omega) (by omega) fun m o h1 h2 => hn m o h1 (by omega)
      rw [← ih]
      obtain ⟨o, ho⟩ : ∃ o, ops[j]? = some o := ⟨_, Array.getElem?_eq_getElem (by omega)⟩
      have hne := hn j o (by omega) (by omega) ho
      have hst : ∃ u, (C (j+1)).t = putA (C j).t o.dst u := by
        have := hC j o ho
        generalize C (j+1) = c' at *
        cases this <;> exact ⟨_, rfl⟩
      obtain ⟨u, hu⟩ := hst
      rw [hu]
      cases hd : o.dst with
      | none => rfl
      | some d =>
        rw [hd] at hne
        simp only [putA, tget_tset]
        rw [if_neg (fun e => hne (by rw [e]))]
theorem run_sn (h0 : (C 0).sn = [(C 0).s]) : ∀ {j : Nat}, j ≤ ops.size → ∃ r, (C j).sn = (C j).s :: r ∧ r.length = (esA P ops 2 j).length
  | 0, _ => ⟨[], h0, rfl⟩
  | j+1, hj => by
    obtain ⟨r, h1, h2⟩ := run_sn h0 (j := j) (by omega)
    obtain ⟨o, ho⟩ : ∃ o, ops[j]? = some o := ⟨_, Array.getElem?_eq_getElem (by omega)⟩
    have hcl : clsAt P ops j = clsOf P o.op := by unfold clsAt; rw [ho]
    have := hC j o ho
    rw [esA_succ, hcl]
    generalize C (j+1) = c' at *
    cases this with
    | quiet _ hc _ => exact ⟨r, h1, by rw [if_neg (by omega)]; simpa using h2⟩
    | alloc _ hc _ => exact ⟨r, h1, by rw [if_neg (by omega)]; simpa using h2⟩
    | act _ hc _ => exact ⟨_, rfl, by rw [if_pos hc, h1]; simp [h2]⟩
    | skip _ hc => exact ⟨r, h1, by rw [if_neg hc]; simpa using h2⟩
    | skipE _ hc => exact ⟨_, rfl, by rw [if_pos hc, h1]; simp [h2]⟩
theorem run_ext {i : Nat} : ∀ {j : Nat}, i ≤ j → j ≤ ops.size → ∃ e, (C j).sn = e ++ (C i).sn
  | 0, h, _ => ⟨[], by rw [show i = 0 by omega]; rfl⟩
  | j+1, h, hj => by
    by_cases he : i = j + 1
    · exact ⟨[], by rw [he]; rfl⟩
    · obtain ⟨e, ih⟩ := run_ext (j := j) (show i ≤ j by omega) (by omega)
      obtain ⟨o, ho⟩ : ∃ o, ops[j]? = some o := ⟨_, Array.getElem?_eq_getElem (by omega)⟩
      have := hC j o ho
      generalize C (j+1) = c' at *
      cases this with
      | quiet _ hc _ => exact ⟨e, ih⟩
      | alloc _ hc _ => exact ⟨e, ih⟩
      | @act u s' _ hc _ => exact ⟨s' :: e, by rw [List.cons_append, ← ih]⟩
      | skip _ hc => exact ⟨e, ih⟩
      | skipE _ hc => exact ⟨absorb as base (C j).pe (newAt b as (esA P ops 2 j) j) (C j).s :: e, by rw [List.cons_append, ← ih]⟩
theorem run_at (h0 : (C 0).sn = [(C 0).s]) {j : Nat} (hj : j ≤ ops.size) : (C ops.size).sn.reverse[(esA P ops 2 j).length]? = some (C j).s := by
  obtain ⟨e, he⟩ := run_ext hC hj (Nat.le_refl _)
  obtain ⟨r, h1, h2⟩ := run_sn hC h0 hj
  rw [he, h1, List.reverse_append, List.reverse_cons, ← h2]
  simp
theorem run_pe_step {i j : Nat} {o : Oper} (ho : ops[j]? = some o) (hne : i ≠ j) : pget i (C (j+1)).pe = pget i (C j).pe := by
  have := hC j o ho
  generalize C (j+1) = c' at *
  cases this <;> try rfl
  simp only [pget]
  rw [show Nat.beq j i = false from by
    cases e : Nat.beq j i with
    | false => rfl
    | true => exact absurd (Nat.eq_of_beq_eq_true e).symm hne]
theorem run_pe_none (h0 : (C 0).pe = []) {i : Nat} : ∀ {j : Nat}, j ≤ i → j ≤ ops.size → pget i (C j).pe = none
  | 0, _, _ => by rw [h0]; rfl
  | j+1, h, hj => by
    obtain ⟨o, ho⟩ : ∃ o, ops[j]? = some o := ⟨_, Array.getElem?_eq_getElem (by omega)⟩
    rw [run_pe_step hC ho (by omega)]
    exact run_pe_none h0 (by omega) (by omega)
theorem run_pe_same {i : Nat} : ∀ {j : Nat}, i < j → j ≤ ops.size → pget i (C j).pe = pget i (C (i+1)).pe
  | 0, h, _ => by omega
  | j+1, h, hj => by
    by_cases he : i = j
    · rw [he]
    · obtain ⟨o, ho⟩ : ∃ o, ops[j]? = some o := ⟨_, Array.getElem?_eq_getElem (by omega)⟩
      rw [run_pe_step hC ho he]
      exact run_pe_same (by omega) (by omega)
end run
end Go.AX
set_option linter.unusedVariables false
set_option linter.unusedSimpArgs false
namespace Go.AX
open Go
variable {P : Program} {σ : Sg}

theorem Path.trans {ops : Array Oper} {i j k : Nat} (h : Path ops i j) (h' : Path ops j k) : Path ops i k := by
  induction h' with
  | edge ho he hb hi => exact .step ho he hb (hi ▸ h)
  | step ho he hb _ ih => exact .step ho he hb ih

/-! ### What was looked at -/
structure Fit (ops : Array Oper) : Prop where
  apart : ∀ {j o m p d}, ops[j]? = some o → ops[m]? = some p → p.dst = some d → m ≠ j → o.dst ≠ some d ∧ (d ∈ tmpsOf o.op → befB (Region.before ops) m j = true ∨ befB (Region.before ops) j m = true)
  guard : ∀ {j o g want}, ops[j]? = some o → o.guard = some (g, want) → befB (Region.before ops) g j = true
  back : ∀ {j o} {e : Edge}, ops[j]? = some o → e ∈ o.after → Region.binds .any e = true → e.on < j

theorem Fit.lt {ops : Array Oper} (h : Fit ops) {i j : Nat} (hp : Path ops i j) : i < j := by
  induction hp with
  | edge ho he hb hi => exact hi ▸ h.back ho he hb
  | step ho he hb _ ih => exact Nat.lt_trans ih (h.back ho he hb)

theorem readsB_at {ops : Array Oper} {b : Array Nat} : ∀ {l : List Oper} {j i : Nat} {o : Oper}, readsB ops b l j = true → l[i]? = some o →
    (ops.toList.zipIdx.all (apartB b o (j + i)) = true) ∧ (match o.guard with | some (g, _) => befB b g (j + i) && ((ops[g]?).bind (·.dst)).isSome | none => true) = true ∧ (o.after.toList.all fun e => !(Region.binds .any e) || Nat.blt e.on (j + i)) = true
  | [], _, _, _, _, h => by simp at h
  | o :: l, j, 0, o', h, hi => by
    simp at hi; subst hi
    simp only [readsB] at h
    obtain ⟨h, _⟩ := Bool.and_eq_true_iff.1 h
    obtain ⟨h, h3⟩ := Bool.and_eq_true_iff.1 h
    obtain ⟨h1, h2⟩ := Bool.and_eq_true_iff.1 h
    exact ⟨h1, h2, h3⟩
  | o :: l, j, i+1, o', h, hi => by
    simp only [readsB] at h
    obtain ⟨_, h⟩ := Bool.and_eq_true_iff.1 h
    have := readsB_at h (i := i) (by simpa using hi)
    rw [show Nat.succ j + i = j + (i + 1) by omega] at this
    exact this
theorem fit_of {ops : Array Oper} (h : readsB ops (Region.before ops) ops.toList 0 = true) : Fit ops := by
  have at' : ∀ {j o}, ops[j]? = some o → _ := fun {j o} (ho : ops[j]? = some o) => readsB_at h (i := j) (o := o) (by simpa using ho)
  refine ⟨fun {j o m p d} ho hp hd hne => ?_, fun {j o g want} ho hg => ?_, fun {j o e} ho he hb => ?_⟩
  · have h1 := (at' ho).1
    rw [List.all_eq_true] at h1
    have := h1 (p, m) (by rw [List.mem_zipIdx_iff_getElem?]; simpa using hp)
    rw [Nat.zero_add] at this
    unfold apartB at this
    rw [hd] at this
    dsimp only at this
    have hb : Nat.beq m j = false := by
      cases e : Nat.beq m j with
      | false => rfl
      | true => exact absurd (Nat.eq_of_beq_eq_true e) hne
    rw [hb] at this
    dsimp only at this
    obtain ⟨h1, h2⟩ := Bool.and_eq_true_iff.1 this
    refine ⟨fun e => ?_, fun hm => ?_⟩
    · rw [e] at h1
      simp at h1
    · have hc : (tmpsOf o.op).contains d = true := by simpa using hm
      rw [hc] at h2
      simpa using h2
  · have h2 := (at' ho).2.1
    rw [hg, Nat.zero_add] at h2
    exact (Bool.and_eq_true_iff.1 h2).1
  · have h3 := (at' ho).2.2
    rw [List.all_eq_true, Nat.zero_add] at h3
    have := h3 e (by simpa using he)
    rw [hb] at this
    simpa [Nat.blt_eq] using this

theorem chain_at {ops : Array Oper} : ∀ {l : List Nat}, chainB (Region.before ops) l = true → ∀ {i m x y : Nat}, i < m → l[i]? = some x → l[m]? = some y → Path ops x y
  | [], _, _, _, _, _, _, h, _ => by simp at h
  | [_], _, i, m, _, _, hlt, h, h' => by
    have := (List.getElem?_eq_some_iff.1 h').1
    simp at this
    omega
  | e :: e' :: l, h, i, m, x, y, hlt, hx, hy => by
    obtain ⟨h1, h2⟩ := Bool.and_eq_true_iff.1 (show (befB (Region.before ops) e e' && chainB (Region.before ops) (e' :: l)) = true from h)
    cases m with
    | zero => omega
    | succ m =>
      cases i with
      | succ i => exact chain_at h2 (show i < m by omega) (by simpa using hx) (by simpa using hy)
      | zero =>
        simp at hx; subst hx
        cases m with
        | zero => simp at hy; subst hy; exact before_path ops h1
        | succ m => exact (before_path ops h1).trans (chain_at h2 (show 0 < m + 1 by omega) (x := e') (by simp) (by simpa using hy))

/-! ### The windows -/
theorem loOf_le {b : Array Nat} {j k : Nat} : ∀ {es : List Nat} {r acc : Nat}, (∀ m e, es[m]? = some e → befB b e j = true → r + m + 1 ≤ k) → acc ≤ k → loOf b j es r acc ≤ k
  | [], r, acc, _, h => h
  | e :: es, r, acc, h, ha => by
    simp only [loOf]
    refine loOf_le (fun m e' hm hb => by have := h (m + 1) e' (by simpa using hm) hb; omega) ?_
    cases hb : befB b e j with
    | true => exact h 0 e (by simp) hb
    | false => exact ha
theorem hiOf_ge {b : Array Nat} {j : Nat} : ∀ {es : List Nat} {r k : Nat}, (∀ m e, m < k → es[m]? = some e → befB b j e = false) → k ≤ es.length → r + k ≤ hiOf b j es r
  | [], r, k, _, hk => by simp at hk; subst hk; simp [hiOf]
  | e :: es, r, 0, _, _ => by
    simp only [hiOf]
    cases befB b j e with
    | true => simp
    | false =>
      have := hiOf_ge (b := b) (j := j) (es := es) (r := Nat.succ r) (k := 0) (fun m e h => by omega) (by omega)
      simp only
      omega
  | e :: es, r, k+1, h, hk => by
    simp only [hiOf]
    rw [h 0 e (by omega) (by simp)]
    have := hiOf_ge (b := b) (j := j) (es := es) (r := Nat.succ r) (k := k) (fun m e' hm he => h (m + 1) e' (by omega) (by simpa using he)) (by simpa using hk)
    simp only
    omega
theorem mem_rangeL {x : Nat} : ∀ {n lo : Nat}, x ∈ rangeL lo n ↔ lo ≤ x ∧ x < lo + n
  | 0, lo => by simp [rangeL]
  | n+1, lo => by
    simp only [rangeL, List.mem_cons]
    rw [mem_rangeL (n := n) (lo := Nat.succ lo)]
    omega
theorem mem_looks {ops : Array Oper} {b : Array Nat} {es : List Nat} {o : Oper} {k : Nat} : ∀ {l : List Oper} {j i : Nat}, l[i]? = some o → clsOf P o.op = 0 → blindK o.op = false →
    loOf b (j + i) es 0 0 ≤ k → k ≤ hiOf b (j + i) es 0 → k ≠ cntLt (j + i) es → (stableB ops o (j + i) = true ∧ ⟨o, k⟩ ∈ looksOf P ops b es l j) ∨ ⟨o, Nat.succ es.length⟩ ∈ looksOf P ops b es l j
  | [], _, _, h, _, _, _, _, _ => by simp at h
  | o' :: l, j, 0, h, hc, hb, h1, h2, h3 => by
    simp at h; subst h
    simp only [looksOf]
    rw [hc, hb]
    rw [Nat.add_zero] at *
    have hm : k ∈ (rangeL (loOf b j es 0 0) (Nat.succ (hiOf b j es 0) - loOf b j es 0 0)).filter fun k => !(Nat.beq k (cntLt j es)) := by
      rw [List.mem_filter, mem_rangeL]
      refine ⟨⟨h1, by omega⟩, ?_⟩
      cases e : Nat.beq k (cntLt j es) with
      | false => rfl
      | true => exact absurd (Nat.eq_of_beq_eq_true e) h3
    cases hs : stableB ops o' j with
    | true => exact .inl ⟨rfl, List.mem_append_left _ (List.mem_map.2 ⟨k, hm, rfl⟩)⟩
    | false => exact .inr (List.mem_append_left _ (List.mem_map.2 ⟨k, hm, rfl⟩))
  | o' :: l, j, i+1, h, hc, hb, h1, h2, h3 => by
    rw [show j + (i + 1) = Nat.succ j + i by omega] at *
    simp only [looksOf]
    rcases mem_looks (l := l) (j := Nat.succ j) (i := i) (by simpa using h) hc hb h1 h2 h3 with ⟨h4, h5⟩ | h5
    · exact .inl ⟨h4, List.mem_append_right _ h5⟩
    · exact .inr (List.mem_append_right _ h5)
theorem looksOK_at {ops : Array Oper} {t : Tm} {sn : List St} : ∀ {l : List Look}, looksOK P ops t sn l = true → ∀ x ∈ l, lookOK P ops t sn x = true
  | [], _, x, h => by cases h
  | y :: l, h, x, hx => by
    obtain ⟨h1, h2⟩ := Bool.and_eq_true_iff.1 (show (lookOK P ops t sn y && looksOK P ops t sn l) = true from h)
    rcases List.mem_cons.1 hx with rfl | hx
    · exact h1
    · exact looksOK_at h2 x hx

theorem rank_lt {j : Nat} : ∀ {l : List Nat}, j ∈ l → rankOf j l < l.length
  | [], h => by cases h
  | i :: l, h => by
    simp only [rankOf]
    by_cases e : i = j
    · subst e; rw [Nat.beq_refl]; simp
    · have : Nat.beq i j = false := by
        cases e' : Nat.beq i j with
        | false => rfl
        | true => exact absurd (Nat.eq_of_beq_eq_true e') e
      rw [this]
      have : j ∈ l := by rcases List.mem_cons.1 h with h | h; exact absurd h.symm e; exact h
      have := rank_lt this
      simp only [List.length_cons]
      omega
theorem rank_inj {i j : Nat} : ∀ {l : List Nat}, i ∈ l → j ∈ l → rankOf i l = rankOf j l → i = j
  | [], h, _, _ => by cases h
  | x :: l, hi, hj, e => by
    have ne : ∀ {a c : Nat}, a ≠ c → Nat.beq a c = false := fun {a c} h => by
      cases e' : Nat.beq a c with
      | false => rfl
      | true => exact absurd (Nat.eq_of_beq_eq_true e') h
    simp only [rankOf] at e
    by_cases e1 : x = i
    · by_cases e2 : x = j
      · omega
      · rw [e1, Nat.beq_refl, ne (by omega)] at e
        simp at e
    · by_cases e2 : x = j
      · rw [e2, Nat.beq_refl, ne (by omega)] at e
        simp at e
      · rw [ne e1, ne e2] at e
        have hi' : i ∈ l := by rcases List.mem_cons.1 hi with h | h; exact absurd h.symm e1; exact h
        have hj' : j ∈ l := by rcases List.mem_cons.1 hj with h | h; exact absurd h.symm e2; exact h
        exact rank_inj hi' hj' (by simpa using e)
end Go.AX
set_option linter.unusedVariables false
set_option linter.unusedSimpArgs false
namespace Go.AX
open Go
variable {P : Program} {σ : Sg}

/-- Taken in before k of the acting ones are done. -/
def Absd (b : Array Nat) (es : List Nat) (k j : Nat) : Prop := ∃ i e, i < k ∧ es[i]? = some e ∧ befB b j e = true

structure Inv (P : Program) (σ : Sg) (ops : Array Oper) (C : Nat → Cfg) (nt : Nat) (ρ0 : Ren) (s0 : St) (w0 : World) (a0 : Act) (L : Nat → Prop) (k : Nat) (s : St) (ρ : Ren) (a : Act) (w : World) : Prop where
  down : Down ops L
  es : ∀ i e, (esA P ops 2 ops.size)[i]? = some e → (L e ↔ i < k)
  kle : k ≤ (esA P ops 2 ops.size).length
  st : (C ops.size).sn.reverse[k]? = some s
  rel : Rel P σ ρ s w
  own : Own ρ0 ρ s0 s w0
  nx : s0.nx + (esA P ops 1 ops.size).length ≤ s.nx
  side : Side P σ ρ w s w0.heap.size (fun j => s0.nx + rankOf j (esA P ops 1 ops.size)) (fun j => pget j (C ops.size).pe) (fun j => L j ∧ j ∈ esA P ops 1 ops.size ∧ ¬ Absd (Region.before ops) (esA P ops 2 ops.size) k j)
  non : ∀ j, j ∈ esA P ops 1 ops.size → ¬ L j → ρ (s0.nx + rankOf j (esA P ops 1 ops.size)) = none
  size : nt ≤ a.tmps.size
  wr : ∀ j o d, ops[j]? = some o → o.dst = some d → L j → VR σ ρ (tget (C ops.size).t d) (a.tmps.getD d undef)
  un : ∀ d, (∀ j o, ops[j]? = some o → o.dst = some d → ¬ L j) → VR σ ρ (tget (C 0).t d) (a.tmps.getD d undef)
  frm : Frm ρ0 s0 w0 w
  dfr : a.defers = a0.defers

section step
variable {self : Self} {ops : Array Oper} {C : Nat → Cfg} {nt : Nat} {ρ0 ρ : Ren} {s0 s : St} {w0 w : World} {a0 a : Act} {L : Nat → Prop} {k : Nat}
  (hC : ∀ j o, ops[j]? = some o → StepD P self ops (esA P ops 1 ops.size) s0.nx (newAt (Region.before ops) (esA P ops 1 ops.size) (esA P ops 2 j) j) j o (C j) (C (j + 1)))
  (hF : Fit ops)
include hC hF

theorem Inv.seen (h : Inv P σ ops C nt ρ0 s0 w0 a0 L k s ρ a w) {i : Nat} {o : Oper} (ho : ops[i]? = some o) (hi : ¬ L i) (hb : ∀ m, Path ops m i → L m) :
    ∀ d ∈ tmpsOf o.op, VR σ ρ (tget (C i).t d) (a.tmps.getD d undef) := by
  intro d hd
  have hlt : i < ops.size := (Array.getElem?_eq_some_iff.1 ho).1
  by_cases hw : ∃ (j : Nat) (o' : Oper), ops[j]? = some o' ∧ o'.dst = some d
  · obtain ⟨j, o', hj, hjd⟩ := hw
    have uniq : ∀ (m : Nat) (p : Oper), ops[m]? = some p → p.dst = some d → m = j := fun m p hp hpd => by
      by_cases e : m = j
      · exact e
      · exact absurd hjd (hF.apart hj hp hpd e).1
    by_cases e : j = i
    · subst e
      rw [run_tmp hC (Nat.zero_le _) (Nat.le_of_lt hlt) fun m p _ hm hp hpd => by have := uniq m p hp hpd; omega]
      exact h.un d fun m p hp hpd => by rw [uniq m p hp hpd]; exact hi
    · rcases (hF.apart ho hj hjd e).2 hd with hb' | hb'
      · have hp := before_path ops hb'
        have hl := hF.lt hp
        have := h.wr j o' d hj hjd (hb j hp)
        rw [run_tmp hC (Nat.le_of_lt hlt) (Nat.le_refl _) fun m p hm _ hp hpd => by have := uniq m p hp hpd; omega] at this
        exact this
      · have hp := before_path ops hb'
        have hl := hF.lt hp
        rw [run_tmp hC (Nat.zero_le _) (Nat.le_of_lt hlt) fun m p _ hm hp hpd => by have := uniq m p hp hpd; omega]
        exact h.un d fun m p hp' hpd => by rw [uniq m p hp' hpd]; exact fun hL => hi (h.down.path hp hL)
  · have no : ∀ (m : Nat) (p : Oper), ops[m]? = some p → p.dst ≠ some d := fun m p hp hpd => hw ⟨m, p, hp, hpd⟩
    rw [run_tmp hC (Nat.zero_le _) (Nat.le_of_lt hlt) fun m p _ _ hp => no m p hp]
    exact h.un d fun m p hp hpd => absurd hpd (no m p hp)

/-- The place of a guard holds at the end what it held then. -/
theorem guard_end {i : Nat} {o : Oper} (ho : ops[i]? = some o) {g : Nat} {want : Bool} (hg : o.guard = some (g, want)) {d : Tmp} (hd : (ops[g]?).bind (·.dst) = some d) :
    tget (C ops.size).t d = tget (C i).t d ∧ Path ops g i ∧ ∃ og : Oper, ops[g]? = some og ∧ og.dst = some d := by
  have hlt : i < ops.size := (Array.getElem?_eq_some_iff.1 ho).1
  have hp := before_path ops (hF.guard ho hg)
  have hl := hF.lt hp
  obtain ⟨og, hog, hogd⟩ : ∃ og : Oper, ops[g]? = some og ∧ og.dst = some d := by
    cases e : ops[g]? with
    | none => rw [e] at hd; cases hd
    | some og => rw [e] at hd; exact ⟨og, rfl, hd⟩
  refine ⟨run_tmp hC (Nat.le_of_lt hlt) (Nat.le_refl _) fun m p hm _ hp hpd => ?_, hp, og, hog, hogd⟩
  by_cases e : m = g
  · omega
  · exact absurd hogd (hF.apart hog hp hpd e).1

theorem Inv.wanted (h : Inv P σ ops C nt ρ0 s0 w0 a0 L k s ρ a w) {i : Nat} {o : Oper} (ho : ops[i]? = some o) (hb : ∀ m, Path ops m i → L m) {bb : Bool} (hg : Gd ops (C i).t o bb) :
    Region.wanted o (yielded ops a.tmps) = bb := by
  unfold Gd at hg
  split at hg
  · rename_i hn
    unfold Region.wanted
    rw [hn, hg]
  · rename_i g want hn
    obtain ⟨d, hd, hv⟩ := hg
    obtain ⟨he, hp, og, hog, hogd⟩ := guard_end hC hF ho hn hd
    have hvr := h.wr g og d hog hogd (hb g hp)
    rw [he] at hvr
    have hT : TR σ ρ nt (only [d] (C i).t) a.tmps := only_TR h.size fun k hk => by simp at hk; subst hk; exact hvr
    have ht : tget (only [d] (C i).t) d = tget (C i).t d := by rw [only_get]; simp
    have key : (guardEl want (tget (only [d] (C i).t) d) ⟨fun _ _ s _ => .ok (.bool true) s⟩ ⟨fun _ _ s _ => .ok (.bool false) s⟩).run ⟨fun _ _ _ => .bad, fun _ _ _ => .bad, 0, fun _ => none, false⟩ (only [d] (C i).t) s (fun _ _ => .bad) = .ok (.bool bb) s := by
      rw [ht]
      unfold guardEl
      rcases hv with ⟨e, rfl⟩ | ⟨e, rfl⟩ | ⟨e, rfl⟩
      · rw [e]; cases bb <;> rfl
      · rw [e]; cases want <;> rfl
      · rw [e]
    rcases guard_wanted hT hn hd key with ⟨h1, h2⟩ | ⟨h1, h2⟩
    · rw [h1]; cases bb
      · cases h2
      · rfl
    · rw [h1]; cases bb
      · rfl
      · cases h2

/-- The temporaries after. -/
theorem Inv.temps (h : Inv P σ ops C nt ρ0 s0 w0 a0 L k s ρ a w) {i : Nat} {o : Oper} (ho : ops[i]? = some o) (hd : dstOK nt o = true) {ρ' : Ren} (hle : ρ.le ρ') {u : AV} {cv : Value} (hu : (C (i + 1)).t = putA (C i).t o.dst u) (hv : VR σ ρ' u cv) :
    nt ≤ (a.put o.dst cv).tmps.size ∧
    (∀ j o' d, ops[j]? = some o' → o'.dst = some d → (L j ∨ j = i) → VR σ ρ' (tget (C ops.size).t d) ((a.put o.dst cv).tmps.getD d undef)) ∧
    (∀ d, (∀ j o', ops[j]? = some o' → o'.dst = some d → ¬ (L j ∨ j = i)) → VR σ ρ' (tget (C 0).t d) ((a.put o.dst cv).tmps.getD d undef)) := by
  have hlt : i < ops.size := (Array.getElem?_eq_some_iff.1 ho).1
  have hsz := h.size
  have keep : ∀ d, o.dst ≠ some d → (a.put o.dst cv).tmps.getD d undef = a.tmps.getD d undef := fun d hne => by
    cases e : o.dst with
    | none => rfl
    | some d' =>
      rw [e] at hne
      show (a.tmps.setIfInBounds d' cv).getD d undef = _
      rw [Array.getD_eq_getD_getElem?, Array.getElem?_setIfInBounds_ne (fun e => hne (by rw [e])), ← Array.getD_eq_getD_getElem?]
  refine ⟨?_, fun j o' d hj hjd hL => ?_, fun d hn => ?_⟩
  · cases e : o.dst with
    | none => exact hsz
    | some d => show nt ≤ (a.tmps.setIfInBounds d cv).size; rw [Array.size_setIfInBounds]; exact hsz
  · by_cases e : o.dst = some d
    · have hdl : d < a.tmps.size := by
        unfold dstOK at hd
        rw [e] at hd
        have : d < nt := by simpa [Nat.blt_eq] using hd
        omega
      have hN : tget (C ops.size).t d = u := by
        rw [run_tmp hC (show i + 1 ≤ ops.size by omega) (Nat.le_refl _) fun m p hm _ hp hpd => ?_, hu, e]
        · simp only [putA, tget_tset]; rw [if_pos trivial]
        · exact absurd e (hF.apart ho hp hpd (by omega)).1
      rw [hN, e]
      show VR σ ρ' u ((a.tmps.setIfInBounds d cv).getD d undef)
      rw [Array.getD_eq_getD_getElem?, Array.getElem?_setIfInBounds_self_of_lt hdl]
      exact hv
    · rw [keep d e]
      have hji : j ≠ i := fun e' => by
        subst e'
        rw [ho] at hj; cases hj
        exact e hjd
      exact VR.mono hle _ (h.wr j o' d hj hjd (hL.resolve_right hji))
  · rw [keep d fun e => hn i o ho e (.inr rfl)]
    exact VR.mono hle _ (h.un d fun j o' hj hjd hL => hn j o' hj hjd (.inl hL))

/-- An operation that reads at most gives the same, wherever it comes. -/
theorem Inv.look (h : Inv P σ ops C nt ρ0 s0 w0 a0 L k s ρ a w) (h0 : (C 0).sn = [(C 0).s]) (hch : chainB (Region.before ops) (esA P ops 2 ops.size) = true)
    (hlooks : looksOK P ops (C ops.size).t (C ops.size).sn.reverse (looksOf P ops (Region.before ops) (esA P ops 2 ops.size) ops.toList 0) = true)
    {i : Nat} {o : Oper} (ho : ops[i]? = some o) (hi : ¬ L i) (hb : ∀ m, Path ops m i → L m) (hg : Gd ops (C i).t o true) (hc : clsOf P o.op = 0) {u : AV} (he : execA P (C i).t o.op (C i).s = .val u (C i).s)
    (hu : (C (i + 1)).t = putA (C i).t o.dst u) :
    ∃ u', execA P (C i).t o.op s = .val u' s ∧ (C (i + 1)).t = putA (C i).t o.dst u' := by
  have hlt : i < ops.size := (Array.getElem?_eq_some_iff.1 ho).1
  cases hbl : blindK o.op with
  | true => exact ⟨u, blind_any hbl s he, hu⟩
  | false =>
    have hat := run_at hC h0 (Nat.le_of_lt hlt)
    have hcnt := cntLt_esA (P := P) (ops := ops) (c := 2) (Nat.le_of_lt hlt)
    by_cases hk : k = (esA P ops 2 i).length
    · have := h.st
      rw [hk, hat] at this
      cases this
      exact ⟨u, he, hu⟩
    · have hlo : loOf (Region.before ops) i (esA P ops 2 ops.size) 0 0 ≤ k := loOf_le (fun m e hm hbf => by
        have := (h.es m e hm).1 (hb e (before_path ops hbf)); omega) (Nat.zero_le _)
      have hhi : k ≤ hiOf (Region.before ops) i (esA P ops 2 ops.size) 0 := by
        have := hiOf_ge (b := Region.before ops) (j := i) (es := esA P ops 2 ops.size) (r := 0) (k := k) (fun m e hm he' => by
          cases hbf : befB (Region.before ops) i e with
          | false => rfl
          | true => exact absurd (h.down.path (before_path ops hbf) ((h.es m e he').2 hm)) hi) h.kle
        omega
      have hm := mem_looks (P := P) (b := Region.before ops) (ops := ops) (es := esA P ops 2 ops.size) (k := k) (l := ops.toList) (j := 0) (i := i) (o := o) (by simpa using ho) hc hbl (by simpa using hlo) (by simpa using hhi) (by rw [Nat.zero_add, hcnt]; exact hk)
      rw [Nat.zero_add] at hm
      have hwt : wantedT ops (C ops.size).t o = .tt := by
        unfold Gd at hg
        unfold wantedT
        split at hg
        · rename_i hn; rw [hn]
        · rename_i g want hn
          obtain ⟨d, hd, hv⟩ := hg
          obtain ⟨hee, _⟩ := guard_end hC hF ho hn hd
          rw [hn]
          dsimp only
          rw [hd]
          dsimp only
          rw [hee]
          rcases hv with ⟨e, rfl⟩ | ⟨e, e'⟩ | ⟨e, e'⟩
          · rw [e]
          · rw [e]; cases want
            · rfl
            · cases e'
          · cases e'
      rcases hm with ⟨hst, hm⟩ | hm
      · have hl := looksOK_at hlooks _ hm
        unfold lookOK at hl
        rw [hwt] at hl
        dsimp only at hl
        rw [h.st] at hl
        dsimp only at hl
        have hcg : execA P (C ops.size).t o.op s = execA P (C i).t o.op s := execA_congr fun d hd => by
          refine run_tmp hC (Nat.le_of_lt hlt) (Nat.le_refl _) fun m p hm _ hp hpd => ?_
          unfold stableB at hst
          rw [List.all_eq_true] at hst
          have := hst (p, m) (by rw [List.mem_zipIdx_iff_getElem?]; simpa using hp)
          dsimp only at this
          rw [hpd] at this
          have nb : Nat.blt m i = false := by
            cases e : Nat.blt m i with
            | false => rfl
            | true => rw [Nat.blt_eq] at e; omega
          rw [nb] at this
          have hcd : (tmpsOf o.op).contains d = true := by simpa using hd
          simp [hcd] at this
          exact absurd hd this
        rw [hcg] at hl
        cases e : execA P (C i).t o.op s with
        | val v s2 =>
          rw [e] at hl
          dsimp only at hl
          have hs2 := quiet_same hc e
          subst hs2
          refine ⟨v, rfl, ?_⟩
          cases hd : o.dst with
          | none => rw [hu, hd]; rfl
          | some d =>
            rw [hd] at hl
            have hv := beqA_eq (show beqA v (tget (C ops.size).t d) = true from hl)
            have hN : tget (C ops.size).t d = u := by
              rw [run_tmp hC (show i + 1 ≤ ops.size by omega) (Nat.le_refl _) fun m p hm _ hp hpd => ?_, hu, hd]
              · simp only [putA, tget_tset]; rw [if_pos trivial]
              · exact absurd hd (hF.apart ho hp hpd (by omega)).1
            rw [hu, hd, hv, hN]
        | _ => rw [e] at hl; cases hl
      · have hl := looksOK_at hlooks _ hm
        unfold lookOK at hl
        rw [hwt] at hl
        dsimp only at hl
        obtain ⟨r, h1, h2⟩ := run_sn hC h0 (Nat.le_refl ops.size)
        rw [List.getElem?_eq_none (by rw [List.length_reverse, h1]; simp [h2])] at hl
        cases hl
end step
end Go.AX
set_option linter.unusedVariables false
set_option linter.unusedSimpArgs false
namespace Go.AX
open Go
variable {P : Program} {σ : Sg}

section step
variable {self : Self} (hS : SelfOK P σ self) (hN : NoNum P) (hσ : Plain σ) {ops : Array Oper} {C : Nat → Cfg} {nt : Nat} {ρ0 ρ : Ren} {s0 s : St} {w0 w : World} {a0 a : Act} {L : Nat → Prop} {k : Nat}
  (hC : ∀ j o, ops[j]? = some o → StepD P self ops (esA P ops 1 ops.size) s0.nx (newAt (Region.before ops) (esA P ops 1 ops.size) (esA P ops 2 j) j) j o (C j) (C (j + 1)))
  (hF : Fit ops)
include hC hF

theorem Inv.down' (h : Inv P σ ops C nt ρ0 s0 w0 a0 L k s ρ a w) {i : Nat} {o : Oper} (ho : ops[i]? = some o) (hr : ∀ e ∈ o.after, Region.binds .any e = true → L e.on) : Down ops fun j => L j ∨ j = i := by
  intro j o' hj hj' e he hb
  rcases hj with hj | rfl
  · exact .inl (h.down j o' hj hj' e he hb)
  · rw [ho] at hj'; cases hj'
    exact .inl (hr e he hb)

/-- After an operation that is not an acting one, and that makes nothing that waits. -/
theorem Inv.calm (h : Inv P σ ops C nt ρ0 s0 w0 a0 L k s ρ a w) {i : Nat} {o : Oper} (ho : ops[i]? = some o) (hi : ¬ L i) (hr : ∀ e ∈ o.after, Region.binds .any e = true → L e.on) (hd : dstOK nt o = true)
    (hc : clsOf P o.op ≠ 2) (hpe : i ∈ esA P ops 1 ops.size → pget i (C ops.size).pe = none) {ρ' : Ren} {w' : World} {u : AV} {cv : Value} (hu : (C (i + 1)).t = putA (C i).t o.dst u) (hv : VR σ ρ' u cv)
    (hR : Rel P σ ρ' s w') (hO : Own ρ ρ' s s w) (hf : Frm ρ s w w') : Inv P σ ops C nt ρ0 s0 w0 a0 (fun j => L j ∨ j = i) k s ρ' (a.put o.dst cv) w' := by
  obtain ⟨t1, t2, t3⟩ := h.temps hC hF ho hd hO.le hu hv
  have hcl : clsAt P ops i = clsOf P o.op := by unfold clsAt; rw [ho]
  refine ⟨h.down' hC hF ho hr, fun m e he => ?_, h.kle, h.st, hR, Own.trans h.frm h.own hO, h.nx, ?_, fun j hj hL => ?_, t1, t2, t3, Frm.trans h.frm h.own hf, (put_defers _ _ _).trans h.dfr⟩
  · have hei : e ≠ i := fun e' => by
      have := (mem_esA.1 (List.mem_of_getElem? he)).2
      rw [e', hcl] at this
      exact hc this
    rw [← h.es m e he]
    exact ⟨fun h => h.resolve_right hei, .inl⟩
  · refine (h.side.step hO hf).weaken fun j ob hj e => ⟨hj.1.resolve_right fun e' => ?_, hj.2⟩
    subst e'
    rw [hpe hj.2.1] at e
    cases e
  · have hlt : s0.nx + rankOf j (esA P ops 1 ops.size) < s.nx := by
      have := rank_lt hj
      have := h.nx
      omega
    rw [hO.same _ hlt]
    exact h.non j hj fun hl => hL (.inl hl)

/-- After an operation that makes an object. -/
theorem Inv.make (h : Inv P σ ops C nt ρ0 s0 w0 a0 L k s ρ a w) {i : Nat} {o : Oper} (ho : ops[i]? = some o) (hi : ¬ L i) (hr : ∀ e ∈ o.after, Region.binds .any e = true → L e.on) (hd : dstOK nt o = true)
    (hc : clsOf P o.op = 1) {u : AV} {ob : AObj} (hpe : pget i (C ops.size).pe = some ob) {w' : World} {x : Obj} {cv : Value} (hu : (C (i + 1)).t = putA (C i).t o.dst u)
    {id : Nat} (hid : id = s0.nx + rankOf i (esA P ops 1 ops.size)) {ρ' : Ren} (hρ : ρ' = fun b => if b = id then some ⟨w.heap.size, 0, 0⟩ else ρ b)
    (hv : VR σ ρ' u cv) (hx : ObjR P σ ρ' id ⟨w.heap.size, 0, 0⟩ ob x) (hrom : ob.isRom = false)
    (hw : w'.heap = w.heap.push x) (w1 : w'.os = w.os) (w2 : w'.output = w.output) (w3 : w'.tape = w.tape) : Inv P σ ops C nt ρ0 s0 w0 a0 (fun j => L j ∨ j = i) k s ρ' (a.put o.dst cv) w' := by
  have hlt : i < ops.size := (Array.getElem?_eq_some_iff.1 ho).1
  have hcl : clsAt P ops i = clsOf P o.op := by unfold clsAt; rw [ho]
  have hia : i ∈ esA P ops 1 ops.size := mem_esA.2 ⟨hlt, by rw [hcl, hc]⟩
  have hnone : ρ id = none := by rw [hid]; exact h.non i hia hi
  have hle : ρ.le ρ' := fun b l hb => by
    rw [hρ]
    dsimp only
    rw [if_neg (fun e => by rw [e, hnone] at hb; cases hb)]
    exact hb
  have hsm : ∀ b, b ≠ id → ρ' b = ρ b := fun b hb => by rw [hρ]; exact if_neg hb
  have hget : ∀ {b : Nat} {ob : AObj}, s.h.get b = some ob → b ≠ id := fun {b ob} hb e => by
    obtain ⟨l, _, hl, _⟩ := h.rel.obj b ob hb
    rw [e, hnone] at hl
    cases hl
  have hold : ∀ {b o l}, s.h.get b = some o → ρ' b = some l → ρ b = some l := fun {b o l} hb hl => by rw [← hsm b (hget hb)]; exact hl
  obtain ⟨t1, t2, t3⟩ := h.temps hC hF ho hd hle hu hv
  have hfr : Frm ρ s w w' := Frm.push hw w1 w2 w3
  have hkeep : ∀ {B : Nat} {y : Obj}, w.heap[B]? = some y → w'.heap[B]? = some y := fun {B y} hB => by
    have hlt := (Array.getElem?_eq_some_iff.1 hB).1
    rw [hw, Array.getElem?_push_lt hlt, ← Array.getElem?_eq_getElem hlt]
    exact hB
  have hidlt : id < s.nx := by
    have := rank_lt hia
    have := h.nx
    omega
  have hbase : s0.nx ≤ id := by omega
  have hown : Own ρ0 ρ' s0 s w0 := ⟨h.own.le.trans hle, h.own.nx, fun b o l hb hr hl => h.own.own b o l hb hr (hold hb hl), fun b hb => by rw [hsm b (by omega)]; exact h.own.same b hb, fun b o l hb hl => h.own.all b o l hb (hold hb hl)⟩
  have hg1000 : ∀ g, g < 1000 → g ≠ id := fun g hg e => by
    have := h.rel.glob g hg
    rw [e, hnone] at this
    cases this
  refine ⟨h.down' hC hF ho hr, fun m e he => ?_, h.kle, h.st, ⟨fun b ob hb => ?_, fun b b' o o' l l' hb hb' hl hl' => h.rel.inj b b' o o' l l' hb hb' (hold hb hl) (hold hb' hl'), fun b hb => ?_, fun g hg => ?_, h.rel.dom⟩, hown, h.nx, ⟨fun j obj hj e => ?_, fun j j' oj oj' l l' hj hj' e e' hl hl' he => ?_⟩, fun j hj hL => ?_, t1, t2, t3, Frm.trans h.frm h.own hfr, (put_defers _ _ _).trans h.dfr⟩
  · have hei : e ≠ i := fun e' => by
      have := (mem_esA.1 (List.mem_of_getElem? he)).2
      rw [e', hcl] at this
      omega
    rw [← h.es m e he]
    exact ⟨fun h => h.resolve_right hei, .inl⟩
  · obtain ⟨l, y, h1, h2, h3⟩ := h.rel.obj b ob hb
    exact ⟨l, y, hle _ _ h1, hkeep h2, h3.mono hle⟩
  · rw [hsm b (by omega)]
    exact h.rel.fresh b hb
  · rw [hsm g (hg1000 g hg)]
    exact h.rel.glob g hg
  · by_cases e' : j = i
    · subst e'
      have e : pget j (C ops.size).pe = some obj := e
      rw [hpe] at e
      cases e
      refine ⟨⟨w.heap.size, 0, 0⟩, x, ?_, by rw [hw]; simp, by have := hx; rw [hid] at this; exact this, h.frm.size, hrom, fun b o l hb hl he => ?_⟩
      · show ρ' (s0.nx + rankOf j (esA P ops 1 ops.size)) = _
        rw [← hid, hρ]; exact if_pos rfl
      · obtain ⟨l', y, h1, h2, _⟩ := h.rel.obj b o hb
        rw [hold hb hl] at h1; cases h1
        have := (Array.getElem?_eq_some_iff.1 h2).1
        simp only at he
        omega
    · obtain ⟨loc, y, h1, h2, h3, h4, h5, h6⟩ := h.side.1 j obj ⟨hj.1.resolve_right e', hj.2⟩ e
      exact ⟨loc, y, hle _ _ h1, hkeep h2, h3.mono hle, h4, h5, fun b o l hb hl => h6 b o l hb (hold hb hl)⟩
  · have blk : ∀ {j oj l}, (L j ∨ j = i) → j ∈ esA P ops 1 ops.size → ¬ Absd (Region.before ops) (esA P ops 2 ops.size) k j → pget j (C ops.size).pe = some oj → ρ' (s0.nx + rankOf j (esA P ops 1 ops.size)) = some l →
        (j = i ∧ l.blk = w.heap.size) ∨ (j ≠ i ∧ ρ (s0.nx + rankOf j (esA P ops 1 ops.size)) = some l ∧ l.blk < w.heap.size) := fun {j oj l} h1 h2 h3 h4 h5 => by
      by_cases e' : j = i
      · left
        refine ⟨e', ?_⟩
        rw [e', ← hid, hρ] at h5
        dsimp only at h5
        rw [if_pos rfl] at h5
        cases h5
        rfl
      · right
        obtain ⟨loc, y, g1, g2, _⟩ := h.side.1 j oj ⟨h1.resolve_right e', h2, h3⟩ h4
        have := hle _ _ g1
        dsimp only at this
        rw [h5] at this
        cases this
        exact ⟨e', g1, (Array.getElem?_eq_some_iff.1 g2).1⟩
    rcases blk hj.1 hj.2.1 hj.2.2 e hl with ⟨e1, b1⟩ | ⟨n1, r1, b1⟩
    · rcases blk hj'.1 hj'.2.1 hj'.2.2 e' hl' with ⟨e2, b2⟩ | ⟨n2, r2, b2⟩
      · omega
      · omega
    · rcases blk hj'.1 hj'.2.1 hj'.2.2 e' hl' with ⟨e2, b2⟩ | ⟨n2, r2, b2⟩
      · omega
      · exact h.side.2 j j' oj oj' l l' ⟨hj.1.resolve_right n1, hj.2⟩ ⟨hj'.1.resolve_right n2, hj'.2⟩ e e' r1 r2 he
  · have hji : j ≠ i := fun e => hL (.inr e)
    rw [hsm _ (fun e => hji (rank_inj hj hia (by omega)))]
    exact h.non j hj fun hl => hL (.inl hl)

/-- What an acting operation finds. -/
theorem Inv.meet (h : Inv P σ ops C nt ρ0 s0 w0 a0 L k s ρ a w) (h0 : (C 0).sn = [(C 0).s]) (hch : chainB (Region.before ops) (esA P ops 2 ops.size) = true)
    {i : Nat} {o : Oper} (ho : ops[i]? = some o) (hi : ¬ L i) (hb : ∀ m, Path ops m i → L m) (hc : clsOf P o.op = 2) :
    (esA P ops 2 ops.size)[k]? = some i ∧ (esA P ops 2 i).length = k ∧ (C i).s = s ∧ (C ops.size).sn.reverse[k + 1]? = some (C (i + 1)).s := by
  have hlt : i < ops.size := (Array.getElem?_eq_some_iff.1 ho).1
  have hcl : clsAt P ops i = 2 := by unfold clsAt; rw [ho]; exact hc
  have hat := esA_at (P := P) (ops := ops) hlt hcl
  have hk : (esA P ops 2 i).length = k := by
    rcases Nat.lt_trichotomy (esA P ops 2 i).length k with h1 | h1 | h1
    · exact absurd ((h.es _ _ hat).2 h1) hi
    · exact h1
    · have h2 := (List.getElem?_eq_some_iff.1 hat).1
      obtain ⟨e, he⟩ : ∃ e, (esA P ops 2 ops.size)[k]? = some e := ⟨_, List.getElem?_eq_getElem (by omega)⟩
      have := hb e (chain_at hch h1 he hat)
      have := (h.es k e he).1 this
      omega
  refine ⟨hk ▸ hat, hk, ?_, ?_⟩
  · have h1 := run_at hC h0 (Nat.le_of_lt hlt)
    rw [hk, h.st] at h1
    cases h1
    rfl
  · have h1 := run_at hC h0 (show i + 1 ≤ ops.size by omega)
    rw [esA_succ, if_pos hcl] at h1
    rw [← h1]
    simp [hk]

theorem Inv.took (h : Inv P σ ops C nt ρ0 s0 w0 a0 L k s ρ a w) (h0 : (C 0).sn = [(C 0).s]) (hp0 : (C 0).pe = []) (hch : chainB (Region.before ops) (esA P ops 2 ops.size) = true)
    {i : Nat} {o : Oper} (ho : ops[i]? = some o) (hi : ¬ L i) (hb : ∀ m, Path ops m i → L m) (hc : clsOf P o.op = 2) {A : St} (hA : A = absorb (esA P ops 1 ops.size) s0.nx (C i).pe (newAt (Region.before ops) (esA P ops 1 ops.size) (esA P ops 2 i) i) (C i).s) :
    Rel P σ ρ A w ∧ Own ρ0 ρ s0 A w0 ∧ A.nx = s.nx ∧ Side P σ ρ w A w0.heap.size (fun j => s0.nx + rankOf j (esA P ops 1 ops.size)) (fun j => pget j (C ops.size).pe) (fun j => (L j ∨ j = i) ∧ j ∈ esA P ops 1 ops.size ∧ ¬ Absd (Region.before ops) (esA P ops 2 ops.size) (k + 1) j) := by
  obtain ⟨hat, hk, hs, _⟩ := h.meet hC hF h0 hch ho hi hb hc
  have hlt : i < ops.size := (Array.getElem?_eq_some_iff.1 ho).1
  have hmem : ∀ {j}, j ∈ newAt (Region.before ops) (esA P ops 1 ops.size) (esA P ops 2 i) i → j ∈ esA P ops 1 ops.size ∧ befB (Region.before ops) j i = true ∧ ∀ e ∈ esA P ops 2 i, befB (Region.before ops) j e = false := fun {j} hj => by
    unfold newAt at hj
    rw [List.mem_filter] at hj
    obtain ⟨h1, h2⟩ := hj
    obtain ⟨h2, h3⟩ := Bool.and_eq_true_iff.1 h2
    refine ⟨h1, h2, fun e he => ?_⟩
    cases hb : befB (Region.before ops) j e with
    | false => rfl
    | true =>
      have : (esA P ops 2 i).any (fun e' => befB (Region.before ops) j e') = true := List.any_eq_true.2 ⟨e, he, hb⟩
      rw [this] at h3
      cases h3
  rw [hs, absorb_congr (pe' := (C ops.size).pe) (fun j hj => by
    have hji := hF.lt (before_path ops (hmem hj).2.1)
    rw [run_pe_same hC hji (Nat.le_of_lt hlt), run_pe_same hC (show j < ops.size by omega) (Nat.le_refl _)])] at hA
  subst hA
  obtain ⟨r1, r2, r3⟩ := Side.absorb (ρ0 := ρ0) (s0 := s0) (w0 := w0) (s := s) (js := newAt (Region.before ops) (esA P ops 1 ops.size) (esA P ops 2 i) i) (List.Pairwise.filter _ (esA_nodup 1 ops.size)) (fun j hj => by
    obtain ⟨h1, h2, h3⟩ := hmem hj
    refine ⟨hb j (before_path ops h2), h1, ?_⟩
    rintro ⟨m, e, hm, he, hbe⟩
    have : e ∈ esA P ops 2 i := by
      obtain ⟨r, hr⟩ := esA_prefix (P := P) (ops := ops) 2 (Nat.le_of_lt hlt)
      rw [hr, List.getElem?_append_left (by omega)] at he
      exact List.mem_of_getElem? he
    rw [h3 e this] at hbe
    cases hbe) (fun j hj => by
    have := rank_lt (hmem hj).1
    have := h.nx
    omega) h.rel h.side
  refine ⟨r1, r3 h.own (Nat.le_refl _), absorb_nx _ _ _ _ _, r2.weaken fun j ob hj e => ?_⟩
  obtain ⟨h1, h2, h3⟩ := hj
  have hji : j ≠ i := fun e' => by
    have := (mem_esA.1 h2).2
    unfold clsAt at this
    rw [e', ho] at this
    dsimp only at this
    omega
  refine ⟨⟨h1.resolve_right hji, h2, fun ⟨m, e, hm, he, hbe⟩ => h3 ⟨m, e, by omega, he, hbe⟩⟩, fun hj => ?_⟩
  exact h3 ⟨k, i, by omega, hat, (hmem hj).2.1⟩

/-- After an acting operation. -/
theorem Inv.acted (h : Inv P σ ops C nt ρ0 s0 w0 a0 L k s ρ a w) (h0 : (C 0).sn = [(C 0).s]) (hp0 : (C 0).pe = []) (hch : chainB (Region.before ops) (esA P ops 2 ops.size) = true)
    {i : Nat} {o : Oper} (ho : ops[i]? = some o) (hi : ¬ L i) (hr : ∀ e ∈ o.after, Region.binds .any e = true → L e.on) (hb : ∀ m, Path ops m i → L m) (hd : dstOK nt o = true) (hc : clsOf P o.op = 2)
    {A : St} (hA : A = absorb (esA P ops 1 ops.size) s0.nx (C i).pe (newAt (Region.before ops) (esA P ops 1 ops.size) (esA P ops 2 i) i) (C i).s)
    {ρ' : Ren} {w' : World} {u : AV} {cv : Value} (hu : (C (i + 1)).t = putA (C i).t o.dst u) (hv : VR σ ρ' u cv)
    (hR : Rel P σ ρ' (C (i + 1)).s w') (hO : Own ρ ρ' A (C (i + 1)).s w) (hf : Frm ρ A w w') : Inv P σ ops C nt ρ0 s0 w0 a0 (fun j => L j ∨ j = i) (k + 1) (C (i + 1)).s ρ' (a.put o.dst cv) w' := by
  obtain ⟨hat, hk, hs, hst⟩ := h.meet hC hF h0 hch ho hi hb hc
  obtain ⟨a1, a2, a3, a4⟩ := h.took hC hF h0 hp0 hch ho hi hb hc hA
  obtain ⟨t1, t2, t3⟩ := h.temps hC hF ho hd hO.le hu hv
  have hkl := (List.getElem?_eq_some_iff.1 hat).1
  have hnx := hO.nx
  have hnx2 := h.nx
  refine ⟨h.down' hC hF ho hr, fun m e he => ?_, by omega, hst, hR, Own.trans h.frm a2 hO, by omega, a4.step hO hf, fun j hj hL => ?_, t1, t2, t3, Frm.trans h.frm a2 hf, (put_defers _ _ _).trans h.dfr⟩
  · have hm := h.es m e he
    have hml := (List.getElem?_eq_some_iff.1 he).1
    by_cases e' : m = k
    · subst e'
      rw [hat] at he; cases he
      exact ⟨fun _ => by omega, fun _ => .inr rfl⟩
    · have hei : e ≠ i := fun e'' => by
        subst e''
        exact e' ((List.getElem?_inj hml (esA_nodup (P := P) (ops := ops) 2 ops.size)).1 (he.trans hat.symm))
      constructor
      · intro hL
        have := hm.1 (hL.resolve_right hei)
        omega
      · intro hlt
        exact .inl (hm.2 (by omega))
  · have hlt : s0.nx + rankOf j (esA P ops 1 ops.size) < A.nx := by
      have := rank_lt hj
      omega
    rw [hO.same _ hlt]
    exact h.non j hj fun hl => hL (.inl hl)
end step
end Go.AX
set_option linter.unusedVariables false
set_option linter.unusedSimpArgs false
namespace Go.AX
open Go
variable {P : Program} {σ : Sg}

section step
variable {self : Self} (hS : SelfOK P σ self) (hN : NoNum P) (hσ : Plain σ) {ops : Array Oper} {C : Nat → Cfg} {nt : Nat} {ρ0 ρ : Ren} {s0 s : St} {w0 w : World} {a0 a : Act} {L : Nat → Prop} {k : Nat}
  (hC : ∀ j o, ops[j]? = some o → StepD P self ops (esA P ops 1 ops.size) s0.nx (newAt (Region.before ops) (esA P ops 1 ops.size) (esA P ops 2 j) j) j o (C j) (C (j + 1)))
  (hF : Fit ops)
include hS hN hσ hC hF

theorem Inv.step {n : Nat} {rdc : Option Nat} {Q : Exit → Act → World → Prop} {next : Act → World → Prop} (h : Inv P σ ops C nt ρ0 s0 w0 a0 L k s ρ a w) (h0 : (C 0).sn = [(C 0).s]) (hp0 : (C 0).pe = []) (hch : chainB (Region.before ops) (esA P ops 2 ops.size) = true)
    (hlooks : looksOK P ops (C ops.size).t (C ops.size).sn.reverse (looksOf P ops (Region.before ops) (esA P ops 2 ops.size) ops.toList 0) = true)
    {i : Nat} {o : Oper} (ho : ops[i]? = some o) (hi : ¬ L i) (hr : ∀ e ∈ o.after, Region.binds .any e = true → L e.on) (hd : dstOK nt o = true)
    (hnext : ∀ k' s' ρ' a' w', Inv P σ ops C nt ρ0 s0 w0 a0 (fun j => L j ∨ j = i) k' s' ρ' a' w' → next a' w') : wpOpIn (Fd rdc) n P ops Q i next a w := by
  have hb : ∀ m, Path ops m i → L m := fun m hp => h.down.ready hp fun o' ho' => by rw [ho] at ho'; cases ho'; exact hr
  have hlt : i < ops.size := (Array.getElem?_eq_some_iff.1 ho).1
  have hcl : clsAt P ops i = clsOf P o.op := by unfold clsAt; rw [ho]
  have hT : TR σ ρ nt (only (tmpsOf o.op) (C i).t) a.tmps := only_TR h.size (h.seen hC hF ho hi hb)
  have hcong : ∀ s, execA P (only (tmpsOf o.op) (C i).t) o.op s = execA P (C i).t o.op s := fun s => execA_congr fun d hd => by rw [only_get, if_pos hd]
  have hst := hC i o ho
  have hpeN : pget i (C ops.size).pe = pget i (C (i + 1)).pe := run_pe_same hC hlt (Nat.le_refl _)
  have hpe0 : pget i (C i).pe = none := run_pe_none hC hp0 (Nat.le_refl _) (Nat.le_of_lt hlt)
  unfold wpOpIn
  rw [ho]
  dsimp only
  generalize hc' : C (i + 1) = c' at hst
  cases hst with
  | @quiet u hg hc he =>
    rw [if_pos (h.wanted hC hF ho hb hg)]
    obtain ⟨u', he', hu'⟩ := h.look hC hF h0 hch hlooks ho hi hb hg hc he (by rw [hc'])
    refine ran_ok hS hN hσ h.rel hT (.inl ((hcong s).trans he')) fun cv ρ' w' hv h1 h2 h3 => ?_
    refine hnext k s ρ' _ w' (h.calm hC hF ho hi hr hd (by omega) (fun hia => ?_) hu' hv h1 h2 h3)
    have := (mem_esA.1 hia).2
    omega
  | @alloc u ob hg hc he =>
    rw [if_pos (h.wanted hC hF ho hb hg)]
    have he' : allocA P (only (tmpsOf o.op) (C i).t) o.op (s0.nx + rankOf i (esA P ops 1 ops.size)) = some (u, ob) := (allocA_congr (fun d hd => by rw [only_get, if_pos hd]) _).trans he
    have hia : i ∈ esA P ops 1 ops.size := mem_esA.2 ⟨hlt, by rw [hcl, hc]⟩
    have hnone := h.non i hia hi
    obtain ⟨cv, x, w', hres, hw, w1, w2, w3, hv, hx, hrom⟩ := allocA_ok hσ h.rel hT he'
      (ρ' := fun b => if b = s0.nx + rankOf i (esA P ops 1 ops.size) then some ⟨w.heap.size, 0, 0⟩ else ρ b) (fun b l hb => by
        dsimp only
        rw [if_neg (fun e => by rw [e, hnone] at hb; cases hb)]
        exact hb) (if_pos rfl)
    refine ⟨fun _ _ => trivial, ?_⟩
    rw [Oper.semAt_eq _ _ _ (fun c e => by rw [e] at hc; cases hc), hres]
    refine hnext k s _ _ w' (h.make hC hF ho hi hr hd hc (u := u) (ob := ob) ?_ (by rw [hc']) rfl rfl hv hx hrom hw w1 w2 w3)
    rw [hpeN, hc']
    simp [pget, Nat.beq_refl]
  | @act u s' hg hc he =>
    rw [if_pos (h.wanted hC hF ho hb hg)]
    obtain ⟨a1, a2, a3, a4⟩ := h.took hC hF h0 hp0 hch ho hi hb hc rfl
    have he' : Ran P self (only (tmpsOf o.op) (C i).t) o.op (absorb (esA P ops 1 ops.size) s0.nx (C i).pe (newAt (Region.before ops) (esA P ops 1 ops.size) (esA P ops 2 i) i) (C i).s) u s' := by
      rcases he with he | ⟨f, args, he, h2⟩ | ⟨l, args, he, h2⟩
      · exact .inl ((hcong _).trans he)
      · exact .inr (.inl ⟨f, args, (hcong _).trans he, h2⟩)
      · exact .inr (.inr ⟨l, args, (hcong _).trans he, h2⟩)
    refine ran_ok hS hN hσ a1 hT he' fun cv ρ' w' hv h1 h2 h3 => ?_
    have hs' : s' = (C (i + 1)).s := by rw [hc']
    rw [hs'] at h1 h2
    exact hnext (k + 1) (C (i + 1)).s ρ' _ w' (h.acted hC hF h0 hp0 hch ho hi hr hb hd hc rfl (by rw [hc']) hv h1 h2 h3)
  | skip hg hc =>
    rw [if_neg (by rw [h.wanted hC hF ho hb hg]; simp)]
    refine ⟨fun _ _ => trivial, hnext k s ρ _ w (h.calm hC hF ho hi hr hd hc (fun _ => ?_) (u := undefA) (by rw [hc']) ⟨[], rfl, rfl⟩ h.rel (Own.refl _ _ _) (Frm.refl _ _ _))⟩
    rw [hpeN, hc']
    exact hpe0
  | skipE hg hc =>
    rw [if_neg (by rw [h.wanted hC hF ho hb hg]; simp)]
    obtain ⟨a1, a2, a3, a4⟩ := h.took hC hF h0 hp0 hch ho hi hb hc rfl
    have hs' : absorb (esA P ops 1 ops.size) s0.nx (C i).pe (newAt (Region.before ops) (esA P ops 1 ops.size) (esA P ops 2 i) i) (C i).s = (C (i + 1)).s := by rw [hc']
    refine ⟨fun _ _ => trivial, hnext (k + 1) (C (i + 1)).s ρ _ w (h.acted hC hF h0 hp0 hch ho hi hr hb hd hc rfl (u := undefA) (by rw [hc']) ⟨[], rfl, rfl⟩ (by rw [← hs']; exact a1) (by rw [← hs']; exact Own.refl _ _ _) (Frm.refl _ _ _))⟩

/-! ### All of it -/
omit hS hN hσ hC hF in
theorem count_lt {p q : Nat → Bool} : ∀ {l : List Nat} {i : Nat}, (∀ x ∈ l, q x = true → p x = true) → i ∈ l → p i = true → q i = false → l.countP q < l.countP p
  | [], _, _, h, _, _ => by cases h
  | x :: l, i, hpq, hi, hp, hq => by
    have le : ∀ l : List Nat, (∀ x ∈ l, q x = true → p x = true) → l.countP q ≤ l.countP p := fun l h => by
      induction l with
      | nil => simp
      | cons x l ih =>
        have := ih fun y hy => h y (by simp [hy])
        rw [List.countP_cons, List.countP_cons]
        have hx := h x (by simp)
        cases hqx : q x with
        | false => simp; omega
        | true => rw [hx hqx]; simp; omega
    rw [List.countP_cons, List.countP_cons]
    rcases List.mem_cons.1 hi with rfl | hi
    · rw [hp, hq]
      have := le l fun y hy => hpq y (by simp [hy])
      simp
      omega
    · have := count_lt (l := l) (fun y hy => hpq y (by simp [hy])) hi hp hq
      have hx := hpq x (by simp)
      cases hqx : q x with
      | false => simp; omega
      | true => rw [hx hqx]; simp; omega
omit hS hN hσ hC in
theorem all_listed {listed : Array Bool} (hz : listed.size = ops.size) (hr : Region.ready .any ops listed = []) : ∀ j, j < ops.size → listed.getD j false = true := by
  intro j
  induction j using Nat.strongRecOn with
  | ind j ih =>
    intro hj
    have hjz : j < listed.size := by omega
    cases e : listed.getD j false with
    | true => rfl
    | false =>
      obtain ⟨o, ho⟩ : ∃ o, ops[j]? = some o := ⟨_, Array.getElem?_eq_getElem hj⟩
      have : j ∈ Region.ready .any ops listed := mem_ready.2 ⟨by
        rw [Array.getD_eq_getD_getElem?, Array.getElem?_eq_getElem hjz] at e ⊢
        simpa using e, o, ho, fun ed hed hb => ih ed.on (hF.back ho hed hb) (Nat.lt_trans (hF.back ho hed hb) hj)⟩
      rw [hr] at this
      cases this

theorem draw_any {n : Nat} {rdc : Option Nat} {Q : Exit → Act → World → Prop} (h0 : (C 0).sn = [(C 0).s]) (hp0 : (C 0).pe = []) (hch : chainB (Region.before ops) (esA P ops 2 ops.size) = true)
    (hlooks : looksOK P ops (C ops.size).t (C ops.size).sn.reverse (looksOf P ops (Region.before ops) (esA P ops 2 ops.size) ops.toList 0) = true) (hall : ops.toList.all (dstOK nt) = true)
    (hend : ∀ L k s ρ a w, Inv P σ ops C nt ρ0 s0 w0 a0 L k s ρ a w → (∀ j, j < ops.size → L j) → Q .normal a w) :
    ∀ (fuel : Nat) (listed : Array Bool) (k : Nat) (s : St) (ρ : Ren) (a : Act) (w : World), listed.size = ops.size → (List.range ops.size).countP (fun j => !listed.getD j false) ≤ fuel → Inv P σ ops C nt ρ0 s0 w0 a0 (fun j => listed.getD j false = true) k s ρ a w →
    wpAnyIn (Fd rdc) n P .any ops Q fuel listed a w := by
  intro fuel
  induction fuel with
  | zero =>
    intro listed k s ρ a w hz hc h
    have hl : ∀ j, j < ops.size → listed.getD j false = true := fun j hj => by
      have := List.countP_eq_zero.1 (Nat.le_zero.1 hc) j (List.mem_range.2 hj)
      simpa using this
    refine ⟨?_, hend _ k s ρ a w h hl⟩
    cases hr : Region.ready .any ops listed with
    | nil => rfl
    | cons j l =>
      have hj : j ∈ Region.ready .any ops listed := by rw [hr]; simp
      obtain ⟨h1, o, ho, _⟩ := mem_ready.1 hj
      have hjs : j < ops.size := (Array.getElem?_eq_some_iff.1 ho).1
      have h2 := hl j hjs
      rw [Array.getD_eq_getD_getElem?, Array.getElem?_eq_getElem (by omega)] at h1 h2
      simp at h1 h2
      rw [h1] at h2
      cases h2
  | succ fuel ih =>
    intro listed k s ρ a w hz hc h
    refine ⟨fun hr => hend _ k s ρ a w h (all_listed hF hz hr), fun i hi => ?_⟩
    obtain ⟨h1, o, ho, hr⟩ := mem_ready.1 hi
    have his : i < ops.size := (Array.getElem?_eq_some_iff.1 ho).1
    have hiz : i < listed.size := by omega
    have hif : listed.getD i false = false := by
      rw [Array.getD_eq_getD_getElem?, Array.getElem?_eq_getElem hiz] at h1 ⊢
      simpa using h1
    have hd : dstOK nt o = true := by
      rw [List.all_eq_true] at hall
      exact hall o (by
        have : ops.toList[i]? = some o := by simpa using ho
        exact List.mem_of_getElem? this)
    have hset : ∀ j, (listed.setIfInBounds i true).getD j false = if j = i then true else listed.getD j false := fun j => by
      by_cases e : j = i
      · subst e
        rw [if_pos rfl, Array.getD_eq_getD_getElem?, Array.getElem?_setIfInBounds_self_of_lt hiz]
        rfl
      · rw [if_neg e, Array.getD_eq_getD_getElem?, Array.getElem?_setIfInBounds_ne (fun e' => e e'.symm), ← Array.getD_eq_getD_getElem?]
    refine h.step hS hN hσ hC hF h0 hp0 hch hlooks ho (by rw [hif]; simp) hr hd fun k' s' ρ' a' w' h' => ih _ k' s' ρ' a' w' (by simpa using hz) ?_ ?_
    · have := count_lt (p := fun j => !listed.getD j false) (q := fun j => !(listed.setIfInBounds i true).getD j false) (l := List.range ops.size) (i := i) (fun x _ hx => by
        rw [hset] at hx
        split at hx
        · simp at hx
        · exact hx) (List.mem_range.2 his) (by rw [hif]; rfl) (by rw [hset, if_pos rfl]; rfl)
      omega
    · have : (fun j => (listed.setIfInBounds i true).getD j false = true) = fun j => listed.getD j false = true ∨ j = i := funext fun j => propext (by
        rw [hset]
        split
        · simp_all
        · simp_all)
      rw [this]
      exact h'
end step

theorem fdraw_ok {self : Self} (hS : SelfOK P σ self) (hN : NoNum P) (hm : P.follows .mixedOrders = true) (hσ : Plain σ) {ρ : Ren} {s : St} {w : World} {id : Nat} {ops : Array Oper} {nt : Nat} {k : KT} {v : AV} {sE : St} {n : Nat} {rdc : Option Nat} {Q : Exit → Act → World → Prop}
    {t : Tm} {a : Act} (hall : ops.toList.all (dstOK nt) = true) (h : (fdraw P ops).run self t s k = .ok v sE) (hR : Rel P σ ρ s w) (hT : TR σ ρ nt t a.tmps)
    (hk : ∀ (ρ1 : Ren) (t1 : Tm) (s1 : St) (w1 : World) (a1 : Act), k t1 s1 = .ok v sE → Rel P σ ρ1 s1 w1 → TR σ ρ1 nt t1 a1.tmps → a1.defers = a.defers → Own ρ ρ1 s s1 w → Frm ρ s w w1 → Q .normal a1 w1) :
    (Code.region id ops true).wpIn (Fd rdc) n P Q a w := by
  refine wpIn_region_any hm ?_
  unfold fdraw at h
  dsimp only at h
  split at h
  · rename_i hok
    obtain ⟨hch, hrd⟩ := Bool.and_eq_true_iff.1 (show (chainB (Region.before ops) (esA P ops 2 ops.size) && readsB ops (Region.before ops) ops.toList 0) = true from hok)
    have hF := fit_of hrd
    obtain ⟨C, hC0, hC, hend⟩ := dregL_ok (P := P) (self := self) hS.body (ops := ops) (as := esA P ops 1 ops.size) (base := s.nx) (b := Region.before ops) ops.toList 0 ⟨t, ⟨s.h, Nat.add s.nx (esA P ops 1 ops.size).length⟩, [⟨s.h, Nat.add s.nx (esA P ops 1 ops.size).length⟩], []⟩ h
    have hC' : ∀ j o, ops[j]? = some o → StepD P self ops (esA P ops 1 ops.size) s.nx (newAt (Region.before ops) (esA P ops 1 ops.size) (esA P ops 2 j) j) j o (C j) (C (j + 1)) := fun j o ho => by
      have := hC j o (by simpa using ho)
      rw [Nat.zero_add] at this
      exact this
    rw [show ops.toList.length = ops.size by simp] at hend
    let js := (esA P ops 1 ops.size).filter fun a => !((esA P ops 2 ops.size).any fun e => befB (Region.before ops) a e)
    have hde : looksOK P ops (C ops.size).t (C ops.size).sn.reverse (looksOf P ops (Region.before ops) (esA P ops 2 ops.size) ops.toList 0) = true ∧ k (C ops.size).t (absorb (esA P ops 1 ops.size) s.nx (C ops.size).pe js (C ops.size).s) = .ok v sE := by
      unfold dend at hend
      split at hend
      · rename_i hl
        rw [hl]
        exact ⟨rfl, hend⟩
      · split at hend
        · rename_i hl
          exact ⟨hl, hend⟩
        · cases hend
    have c0s : (C 0).s = ⟨s.h, s.nx + (esA P ops 1 ops.size).length⟩ := by rw [hC0]; rfl
    have c0n : (C 0).sn = [(C 0).s] := by rw [hC0]
    have c0p : (C 0).pe = [] := by rw [hC0]
    have c0t : (C 0).t = t := by rw [hC0]
    have hinv : Inv P σ ops C nt ρ s w a (fun j => (Array.replicate ops.size false).getD j false = true) 0 ⟨s.h, s.nx + (esA P ops 1 ops.size).length⟩ ρ a { w with drawn := w.drawn + 1 } := by
      have no : ∀ j, ¬ (Array.replicate ops.size false).getD j false = true := fun j => by
        rw [Array.getD_eq_getD_getElem?]
        by_cases hj : j < ops.size
        · rw [Array.getElem?_eq_getElem (by simpa using hj)]; simp
        · rw [Array.getElem?_eq_none (by simpa using hj)]; simp
      refine ⟨fun j _ hj => absurd hj (no j), fun i e _ => ⟨fun hL => absurd hL (no e), fun h => absurd h (Nat.not_lt_zero _)⟩, Nat.zero_le _, ?_, ⟨hR.obj, hR.inj, fun b hb => hR.fresh b (by have := Nat.le_trans (Nat.le_add_right s.nx _) hb; exact this), hR.glob, fun b o hb => Nat.lt_of_lt_of_le (hR.dom b o hb) (Nat.le_add_right _ _)⟩,
        ⟨Ren.le_refl _, Nat.le_add_right _ _, fun b o l hb hr hl => .inl ⟨b, o, l, hb, hr, hl, rfl⟩, fun _ _ => rfl, fun b o l hb hl => .inl ⟨b, o, l, hb, hl, rfl⟩⟩, Nat.le_refl _, ⟨fun j ob hj => absurd hj.1 (no j), fun j j' ob ob' l l' hj => absurd hj.1 (no j)⟩, fun j hj _ => hR.fresh _ (Nat.le_add_right _ _), hT.1, fun j o d _ _ hL => absurd hL (no j), fun d _ => by rw [c0t]; exact hT.2 d,
        ⟨Nat.le_refl _, fun _ _ _ => rfl, rfl, rfl, rfl⟩, rfl⟩
      have := run_at hC' c0n (Nat.zero_le ops.size)
      rw [c0s] at this
      exact this
    refine draw_any hS hN hσ hC' hF c0n c0p hch hde.1 hall (fun L k' s' ρ' a' w' h' hL => ?_) ops.size _ 0 _ ρ a _ (by simp) (by
      have := List.countP_le_length (p := fun j => !(Array.replicate ops.size false).getD j false) (l := List.range ops.size)
      simpa using this) hinv
    have hk' : k' = (esA P ops 2 ops.size).length := by
      have hkl := h'.kle
      rcases Nat.lt_or_ge k' (esA P ops 2 ops.size).length with hlt | hge
      · have he := List.getElem?_eq_getElem hlt
        have hm := (mem_esA.1 (List.mem_of_getElem? he)).1
        have := (h'.es _ _ he).1 (hL _ hm)
        omega
      · omega
    have hs' : (C ops.size).s = s' := by
      have h1 := run_at hC' c0n (Nat.le_refl ops.size)
      rw [← hk', h'.st] at h1
      cases h1
      rfl
    obtain ⟨r1, r2, r3⟩ := Side.absorb (P := P) (σ := σ) (ρ0 := ρ) (s0 := s) (w0 := w) (as := esA P ops 1 ops.size) (base := s.nx) (pe := (C ops.size).pe) (s := s') (js := js) (List.Pairwise.filter _ (esA_nodup 1 ops.size)) (fun j hj => by
      obtain ⟨h1, h2⟩ := List.mem_filter.1 hj
      refine ⟨hL j (mem_esA.1 h1).1, h1, ?_⟩
      rintro ⟨m, e, hm, he, hbe⟩
      have : (esA P ops 2 ops.size).any (fun e => befB (Region.before ops) j e) = true := List.any_eq_true.2 ⟨e, List.mem_of_getElem? he, hbe⟩
      rw [this] at h2
      cases h2) (fun j hj => by
      have := rank_lt (List.mem_filter.1 hj).1
      have := h'.nx
      omega) h'.rel h'.side
    have hfin := hde.2
    rw [hs'] at hfin
    refine hk ρ' (C ops.size).t _ w' a' hfin r1 ⟨h'.size, fun d => ?_⟩ h'.dfr (r3 h'.own (Nat.le_refl _)) h'.frm
    by_cases hw : ∃ (j : Nat) (o : Oper), ops[j]? = some o ∧ o.dst = some d
    · obtain ⟨j, o, hj, hd⟩ := hw
      exact h'.wr j o d hj hd (hL j (Array.getElem?_eq_some_iff.1 hj).1)
    · rw [run_tmp hC' (Nat.zero_le _) (Nat.le_refl _) fun m p _ _ hp hpd => hw ⟨m, p, hp, hpd⟩]
      exact h'.un d fun j o hj hd => absurd ⟨j, o, hj, hd⟩ hw
  · cases h
end Go.AX
set_option linter.unusedVariables false
set_option linter.unusedSimpArgs false
namespace Go.AX
open Go
variable {P : Program} {σ : Sg} {ρ : Ren} {s : St} {w : World}

theorem fregion_ok {self : Self} (hS : SelfOK P σ self) (hN : NoNum P) (hm : P.follows .mixedOrders = true) (hσ : Plain σ) {id : Nat} {ops : Array Oper} {draw : Bool} {nt : Nat} {k : KT} {v : AV} {sE : St} {n : Nat} {rdc : Option Nat} {Q : Exit → Act → World → Prop}
    {t : Tm} {a : Act} (h : (fregion P nt ops draw).run self t s k = .ok v sE) (hR : Rel P σ ρ s w) (hT : TR σ ρ nt t a.tmps)
    (hk : ∀ (ρ1 : Ren) (t1 : Tm) (s1 : St) (w1 : World) (a1 : Act), k t1 s1 = .ok v sE → Rel P σ ρ1 s1 w1 → TR σ ρ1 nt t1 a1.tmps → a1.defers = a.defers → Own ρ ρ1 s s1 w → Frm ρ s w w1 → Q .normal a1 w1) :
    (Code.region id ops draw).wpIn (Fd rdc) n P Q a w := by
  unfold fregion at h
  split at h
  · rename_i hall
    refine wpIn_region ?_
    rw [List.range_eq_range', show ops.size = ops.toList.length by simp]
    exact fregL_ok hS hN hσ ops.toList 0 rfl hall ρ t s w a h hR hT hk
  · rename_i hall
    exact fdraw_ok hS hN hm hσ hall h hR hT hk
  · cases h

def exitOf : X → Exit
  | .norm => .normal
  | .ret => .ret
  | .exit id => .exit id
def RdR (ρ : Ren) : Option Nat → Option Nat → Prop
  | none, none => True
  | some l, some x => ∃ loc, ρ l = some loc ∧ x = loc.blk
  | _, _ => False
def DsR (ρ : Ren) : List Nat → List Deferred → Prop
  | [], ds => ds = []
  | d :: l, ds => ∃ loc rest, ρ d = some loc ∧ ds = { target := .collected loc.blk, args := #[] } :: rest ∧ DsR ρ l rest
theorem RdR.mono {ρ' : Ren} (h : ρ.le ρ') : ∀ {a b : Option Nat}, RdR ρ a b → RdR ρ' a b
  | none, none, _ => trivial
  | some l, some x, ⟨loc, h1, h2⟩ => ⟨loc, h _ _ h1, h2⟩
theorem DsR.mono {ρ' : Ren} (h : ρ.le ρ') : ∀ {a : List Nat} {b : List Deferred}, DsR ρ a b → DsR ρ' a b
  | [], _, e => e
  | d :: l, _, ⟨loc, rest, h1, h2, h3⟩ => ⟨loc, rest, h _ _ h1, h2, DsR.mono h h3⟩

/-- What is asked of the code's continuation. -/
def KOK (P : Program) (σ : Sg) (nt : Nat) (k : K) (v : AV) (sE : St) (Q : Exit → Act → World → Prop) (ρ : Ren) (s : St) (w : World) : Prop :=
  ∀ (x : X) (ρ1 : Ren) (t1 : Tm) (s1 : St) (ds1 : List Nat) (w1 : World) (a1 : Act), k x t1 s1 ds1 = .ok v sE → Rel P σ ρ1 s1 w1 → TR σ ρ1 nt t1 a1.tmps → DsR ρ1 ds1 a1.defers → Own ρ ρ1 s s1 w → Frm ρ s w w1 → Q (exitOf x) a1 w1
theorem KOK.trans {nt : Nat} {k : K} {v : AV} {sE : St} {Q : Exit → Act → World → Prop} {ρ1 : Ren} {s1 : St} {w1 : World} (h : KOK P σ nt k v sE Q ρ s w) (ho : Own ρ ρ1 s s1 w) (hf : Frm ρ s w w1) : KOK P σ nt k v sE Q ρ1 s1 w1 :=
  fun x ρ2 t2 s2 ds2 w2 a2 h2 hR2 hT2 hd2 ho2 hf2 => h x ρ2 t2 s2 ds2 w2 a2 h2 hR2 hT2 hd2 (Own.trans hf ho ho2) (Frm.trans hf ho hf2)

/-- The same, of every outcome where several orders are run. -/
def KOKm (P : Program) (σ : Sg) (mu : Bool) (nt : Nat) (k : K) (v : AV) (sE : St) (Q : Exit → Act → World → Prop) (ρ : Ren) (s : St) (w : World) : Prop :=
  ∀ v' s', (mu = true ∨ (v' = v ∧ s' = sE)) → KOK P σ nt k v' s' Q ρ s w
theorem KOKm.here {mu : Bool} {nt : Nat} {k : K} {v : AV} {sE : St} {Q : Exit → Act → World → Prop} (h : KOKm P σ mu nt k v sE Q ρ s w) : KOK P σ nt k v sE Q ρ s w := h v sE (.inr ⟨rfl, rfl⟩)
theorem KOKm.at {mu : Bool} {nt : Nat} {k : K} {v v' : AV} {sE s' : St} {Q : Exit → Act → World → Prop} (h : KOKm P σ mu nt k v sE Q ρ s w) (hv : mu = true ∨ (v' = v ∧ s' = sE)) : KOKm P σ mu nt k v' s' Q ρ s w := by
  rcases hv with hv | ⟨rfl, rfl⟩
  · exact fun v2 s2 _ => h v2 s2 (.inl hv)
  · exact h
theorem KOKm.trans {mu : Bool} {nt : Nat} {k : K} {v : AV} {sE : St} {Q : Exit → Act → World → Prop} {ρ1 : Ren} {s1 : St} {w1 : World} (h : KOKm P σ mu nt k v sE Q ρ s w) (ho : Own ρ ρ1 s s1 w) (hf : Frm ρ s w w1) : KOKm P σ mu nt k v sE Q ρ1 s1 w1 :=
  fun v' s' hv => (h v' s' hv).trans ho hf

def CodeOK (P : Program) (σ : Sg) (self : Self) (nt : Nat) (c : Code) (fc : FCode) : Prop :=
  ∀ (rd rdc : Option Nat) (t : Tm) (s : St) (ds : List Nat) (k : K) (v : AV) (sE : St), fc.run self rd t s ds k = .ok v sE →
    ∀ (ρ : Ren) (w : World) (a : Act) (n : Nat) (Q : Exit → Act → World → Prop), Rel P σ ρ s w → TR σ ρ nt t a.tmps → RdR ρ rd rdc → DsR ρ ds a.defers → KOKm P σ self.mu nt k v sE Q ρ s w → c.wpIn (Fd rdc) n P Q a w

end Go.AX
set_option linter.unusedVariables false
set_option linter.unusedSimpArgs false
namespace Go.AX
open Go
variable {P : Program} {σ σ' : Sg} {ρ ρ' : Ren} {s s' : St} {w w' : World}

theorem fnR.back (hle : ρ.le ρ') : ∀ {g f0 f : Fn}, fnR ρ g f0 → fnR ρ' g f → fnR ρ g f
  | .yield l, f0, f, ⟨x0, hx0, _⟩, ⟨x, hx, e⟩ => by
    have := hle _ _ hx0
    rw [hx] at this
    cases this
    exact ⟨_, hx0, e⟩
  | .func _, _, _, _, e => e
  | .method _, _, _, _, e => e
  | .methodOf _ _, _, _, _, e => e
  | .via _ _ _ _, _, _, _, e => e
mutual
theorem VR.back (hv : σ.v = σ'.v) (hle : ρ.le ρ') : ∀ (a : AV) {v0 v : Value}, VR σ ρ a v0 → VR σ' ρ' a v → VR σ ρ a v
  | .bool _, _, _, _, e => e
  | .int _ _, _, _, _, e => e
  | .str _, _, _, _, e => e
  | .ptr _ _, _, _, ⟨l0, h0, _⟩, ⟨l, hl, e⟩ => by
    have := hle _ _ h0
    rw [hl] at this; cases this
    exact ⟨_, h0, e⟩
  | .nilp, _, _, _, e => e
  | .sl _ _ _ _, _, _, ⟨l0, c0, h0, _⟩, ⟨l, c, hl, hc, e⟩ => by
    have := hle _ _ h0
    rw [hl] at this; cases this
    exact ⟨_, c, h0, hc, e⟩
  | .nils, _, _, _, e => e
  | .emp, _, _, _, e => e
  | .map _, _, _, ⟨l0, h0, _⟩, ⟨l, hl, e⟩ => by
    have := hle _ _ h0
    rw [hl] at this; cases this
    exact ⟨_, h0, e⟩
  | .nilm, _, _, _, e => e
  | .func _ a b, _, _, ⟨f0, x0, y0, hf0, ha0, hb0, _⟩, ⟨f, x, y, hf, ha, hb, e⟩ => ⟨f, x, y, hf0.back hle hf, VRL.back hv hle a ha0 ha, VRL.back hv hle b hb0 hb, e⟩
  | .nilf, _, _, _, e => e
  | .iface _ a, _, _, ⟨x0, h0, _⟩, ⟨x, hx, e⟩ => ⟨x, VR.back hv hle a h0 hx, e⟩
  | .nili, _, _, _, e => e
  | .agg cs, _, _, ⟨l0, h0, _⟩, ⟨l, hl, e⟩ => ⟨l, VRL.back hv hle cs h0 hl, e⟩
  | .tup cs, _, _, ⟨l0, h0, _⟩, ⟨l, hl, e⟩ => ⟨l, VRL.back hv hle cs h0 hl, e⟩
  | .sym i, _, v, _, e => by simp only [VR] at e ⊢; rw [e, hv]
  | .key _ _, _, _, ⟨l0, h0, _⟩, ⟨l, hl, e⟩ => by
    have := hle _ _ h0
    rw [hl] at this; cases this
    exact ⟨_, h0, e⟩
  | .junk, _, _, _, _ => trivial
theorem VRL.back (hv : σ.v = σ'.v) (hle : ρ.le ρ') : ∀ (a : List AV) {v0 v : List Value}, VRL σ ρ a v0 → VRL σ' ρ' a v → VRL σ ρ a v
  | [], _, _, _, e => e
  | a :: as, _, _, ⟨v0, vs0, _, h10, h20⟩, ⟨v, vs, e, h1, h2⟩ => ⟨v, vs, e, VR.back hv hle a h10 h1, VRL.back hv hle as h20 h2⟩
end
mutual
/-- The same under other hidden cells. -/
theorem VR.sg (hv : σ.v = σ'.v) : ∀ (a : AV) {v : Value}, VR σ ρ a v → VR σ' ρ a v
  | .bool _, _, e => e
  | .int _ _, _, e => e
  | .str _, _, e => e
  | .ptr _ _, _, e => e
  | .nilp, _, e => e
  | .sl _ _ _ _, _, e => e
  | .nils, _, e => e
  | .emp, _, e => e
  | .map _, _, e => e
  | .nilm, _, e => e
  | .func _ a b, _, ⟨f, x, y, hf, ha, hb, e⟩ => ⟨f, x, y, hf, VRL.sg hv a ha, VRL.sg hv b hb, e⟩
  | .nilf, _, e => e
  | .iface _ a, _, ⟨x, hx, e⟩ => ⟨x, VR.sg hv a hx, e⟩
  | .nili, _, e => e
  | .agg cs, _, ⟨l, hl, e⟩ => ⟨l, VRL.sg hv cs hl, e⟩
  | .tup cs, _, ⟨l, hl, e⟩ => ⟨l, VRL.sg hv cs hl, e⟩
  | .sym i, v, e => by simp only [VR] at e ⊢; rw [e, hv]
  | .key _ _, _, e => e
  | .junk, _, _ => trivial
theorem VRL.sg (hv : σ.v = σ'.v) : ∀ (a : List AV) {v : List Value}, VRL σ ρ a v → VRL σ' ρ a v
  | [], _, e => e
  | a :: as, _, ⟨v, vs, e, h1, h2⟩ => ⟨v, vs, e, VR.sg hv a h1, VRL.sg hv as h2⟩
end
theorem MEL.back (hv : σ.v = σ'.v) (hle : ρ.le ρ') : ∀ {es : List ME} {l0 l : List MapEntry}, MEL σ ρ es l0 → MEL σ' ρ' es l → MEL σ ρ es l
  | [], _, _, _, e => e
  | e :: es, _, _, ⟨x0, xs0, _, ⟨a0, b0, _⟩, h0⟩, ⟨x, xs, e', ⟨a, b, c⟩, h⟩ => ⟨x, xs, e', ⟨VR.back hv hle _ a0 a, VR.back hv hle _ b0 b, c⟩, MEL.back hv hle h0 h⟩
theorem MEL.sg (hv : σ.v = σ'.v) : ∀ {es : List ME} {l : List MapEntry}, MEL σ ρ es l → MEL σ' ρ es l
  | [], _, e => e
  | e :: es, _, ⟨x, xs, e', ⟨a, b, c⟩, h⟩ => ⟨x, xs, e', ⟨VR.sg hv _ a, VR.sg hv _ b, c⟩, MEL.sg hv h⟩

/-- What lies in a world, as hidden cells. -/
def fill (σ : Sg) (ρ : Ren) (w : World) : Sg := ⟨σ.v, fun b i => match ρ b with
  | some l => (match w.heap[l.blk]? with
    | some (.cells c _ _) => c.getD (l.base + i) undef
    | _ => undef)
  | none => undef⟩
theorem fill_cell {b i : Nat} {l : Loc} {c : Array Value} {e : TypeId} {fr : Nat × Nat} {y : Value} (hl : ρ b = some l) (ho : w.heap[l.blk]? = some (.cells c e fr)) (hy : c[l.base + i]? = some y) : (fill σ ρ w).u b i = y := by
  show (match ρ b with | some l => (match w.heap[l.blk]? with | some (.cells c _ _) => c.getD (l.base + i) undef | _ => undef) | none => undef) = y
  rw [hl]
  dsimp only
  rw [ho]
  dsimp only
  rw [Array.getD_eq_getD_getElem?, hy]
  rfl
/-- Objects that rounds may look at. -/
def AObj.still : AObj → Bool
  | .cells .. => true
  | .rom _ => true
  | .map .. => true
  | _ => false
theorem sameObj_still {o o' : AObj} (h : sameObj o o' = true) : o.still = true := by
  cases o <;> first | rfl | (cases o' <;> cases h)
theorem ObjR.filled {o : AObj} (hs : o.still = true) {b : Nat} {l : Loc} {x : Obj} (hl : ρ b = some l) (hx : w.heap[l.blk]? = some x) (h : ObjR P σ ρ b l o x) : ObjR P (fill σ ρ w) ρ b l o x := by
  cases o with
  | cells n z p m e ext =>
    obtain ⟨c, fr, rfl, h1, h2, h3⟩ := h
    refine ⟨c, fr, rfl, fun i hi => ?_, h2, h3⟩
    obtain ⟨y, hy, hr⟩ := h1 i hi
    refine ⟨y, hy, ?_⟩
    split
    · rename_i a ha
      rw [ha] at hr
      exact VR.sg (σ := σ) (σ' := fill σ ρ w) rfl _ hr
    · exact (fill_cell hl hx hy).symm
  | rom z =>
    obtain ⟨c, e, fr, rfl, h1, h2⟩ := h
    exact ⟨c, e, fr, rfl, VRL.sg (σ := σ) (σ' := fill σ ρ w) rfl _ h1, h2⟩
  | map es c =>
    obtain ⟨l', h1, rfl⟩ := h
    exact ⟨l', MEL.sg (σ := σ) (σ' := fill σ ρ w) rfl h1, rfl⟩
  | _ => cases hs
/-- What a round left as it was is what it was. -/
theorem ObjR.back {o : AObj} (hs : o.still = true) (hle : ρ.le ρ') {b : Nat} {l : Loc} {x0 x : Obj} (hl : ρ b = some l) (hx : w.heap[l.blk]? = some x0) (h0 : ObjR P σ ρ b l o x0) (h : ObjR P (fill σ ρ w) ρ' b l o x) : ObjR P σ ρ b l o x := by
  cases o with
  | cells n z p m e ext =>
    obtain ⟨c0, fr0, rfl, h10, h20, h30⟩ := h0
    obtain ⟨c, fr, rfl, h1, h2, h3⟩ := h
    refine ⟨c, fr, rfl, fun i hi => ?_, h2, h3⟩
    obtain ⟨y0, hy0, hr0⟩ := h10 i hi
    obtain ⟨y, hy, hr⟩ := h1 i hi
    refine ⟨y, hy, ?_⟩
    split
    · rename_i a ha
      rw [ha] at hr hr0
      exact VR.back (σ := σ) (σ' := fill σ ρ w) rfl hle _ hr0 hr
    · rename_i ha
      rw [ha] at hr hr0
      dsimp only at hr hr0
      rw [hr, fill_cell hl hx hy0, hr0]
  | rom z =>
    obtain ⟨c0, e0, fr0, rfl, h10, h20⟩ := h0
    obtain ⟨c, e, fr, rfl, h1, h2⟩ := h
    exact ⟨c, e, fr, rfl, VRL.back (σ := σ) (σ' := fill σ ρ w) rfl hle _ h10 h1, h2⟩
  | map es c =>
    obtain ⟨l0, h10, rfl⟩ := h0
    obtain ⟨l', h1, rfl⟩ := h
    exact ⟨l', MEL.back (σ := σ) (σ' := fill σ ρ w) rfl hle h10 h1, rfl⟩
  | _ => cases hs

/-! ### Cells overwritten -/
/-- The last value that is laid down for a cell. -/
def lookL (b j : Nat) : Ups → Option AV
  | [] => none
  | u :: l => match lookL b j l with
    | some v => some v
    | none => if u.1 = (b, j) then some u.2 else none
noncomputable def after (b p : Nat) : Ups → Q AV → Q AV
  | [], m => m
  | u :: l, m => after b p l (if u.1.1 = b then m.set (keyOf p u.1.2) u.2 else m)
theorem after_get {b p j : Nat} : ∀ (l : Ups) (m : Q AV), (after b p l m).get (keyOf p j) = (match lookL b j l with | some v => some v | none => m.get (keyOf p j))
  | [], m => rfl
  | u :: l, m => by
    simp only [after]
    rw [after_get l]
    simp only [lookL]
    cases lookL b j l with
    | some v => rfl
    | none =>
      dsimp only
      by_cases h1 : u.1.1 = b
      · rw [if_pos h1, cell_get_set]
        by_cases h2 : j = u.1.2
        · rw [if_pos h2, if_pos (by rw [← h1, h2])]
        · rw [if_neg h2, if_neg (fun e => h2 (by rw [e]))]
      · rw [if_neg h1, if_neg (fun e => h1 (by rw [e]))]
theorem apply1_cells {h : Q AObj} {u : (Nat × Nat) × AV} {b n p : Nat} {z : List AV} {m : Q AV} {e : TypeId} {x : Bool} (hb : h.get b = some (.cells n z p m e x)) :
    (apply1 h u).get b = some (.cells n z p (if u.1.1 = b then m.set (keyOf p u.1.2) u.2 else m) e x) := by
  unfold apply1
  by_cases h1 : u.1.1 = b
  · rw [h1, hb]
    dsimp only
    rw [Q.get_set, if_pos rfl, if_pos rfl]
  · rw [if_neg h1]
    split
    · rw [Q.get_set, if_neg (fun e => h1 e.symm)]; exact hb
    · exact hb
theorem applyAll_cells {b n p : Nat} {z : List AV} {e : TypeId} {x : Bool} : ∀ {ups : Ups} {h : Q AObj} {m : Q AV}, h.get b = some (.cells n z p m e x) → (applyAll ups h).get b = some (.cells n z p (after b p ups m) e x)
  | [], _, _, hb => hb
  | u :: l, h, m, hb => applyAll_cells (ups := l) (apply1_cells (u := u) hb)
/-- No cell of another is touched. -/
theorem apply1_ne {h : Q AObj} {u : (Nat × Nat) × AV} {b : Nat} (hne : u.1.1 ≠ b) : (apply1 h u).get b = h.get b := by
  unfold apply1
  split
  · rw [Q.get_set, if_neg (fun e => hne e.symm)]
  · rfl
theorem applyAll_ne {b : Nat} : ∀ {ups : Ups} {h : Q AObj}, (∀ u ∈ ups, u.1.1 ≠ b) → (applyAll ups h).get b = h.get b
  | [], _, _ => rfl
  | u :: l, h, hn => (applyAll_ne (ups := l) (h := apply1 h u) fun v hv => hn v (by simp [hv])).trans (apply1_ne (hn u (by simp)))
theorem applyAll_none {b : Nat} : ∀ {ups : Ups} {h : Q AObj}, h.get b = none → (applyAll ups h).get b = none
  | [], _, hb => hb
  | u :: l, h, hb => applyAll_none (ups := l) (by
    unfold apply1
    split
    · rename_i n z p m e x hu
      rw [Q.get_set, if_neg (fun e => by rw [e, hu] at hb; cases hb)]
      exact hb
    · exact hb)
theorem lookL_append {b j : Nat} : ∀ (l l' : Ups), lookL b j (l ++ l') = (match lookL b j l' with | some v => some v | none => lookL b j l)
  | [], l' => by cases h : lookL b j l' <;> simp [lookL, h]
  | u :: l, l' => by
    simp only [List.cons_append, lookL]
    rw [lookL_append l l']
    cases lookL b j l' <;> rfl
theorem lookL_none {b j : Nat} : ∀ {l : Ups}, (∀ u ∈ l, u.1 ≠ (b, j)) → lookL b j l = none
  | [], _ => rfl
  | u :: l, h => by
    simp only [lookL]
    rw [lookL_none (l := l) fun v hv => h v (by simp [hv]), if_neg (h u (by simp))]
/-- Of several parts, apart, the value of the one that has the cell. -/
theorem lookL_flat {b j : Nat} {U : ME → Ups} {has : ME → Prop} (hU : ∀ e u, u ∈ U e → u.1 = (b, j) → has e) : ∀ {l : List ME} {e : ME}, e ∈ l → (∀ e' ∈ l, has e' → U e' = U e) → has e → lookL b j (l.flatMap U) = lookL b j (U e) ∨ lookL b j (U e) = none ∧ lookL b j (l.flatMap U) = none
  | [], _, h, _, _ => by cases h
  | a :: l, e, he, hu, hh => by
    rw [List.flatMap_cons, lookL_append]
    by_cases hn : ∃ e' ∈ l, has e'
    · obtain ⟨e', he', hh'⟩ := hn
      have ih := lookL_flat hU he' (fun e'' h'' hh'' => (hu e'' (by simp [h'']) hh'').trans (hu e' (by simp [he']) hh').symm) hh'
      rw [hu e' (by simp [he']) hh'] at ih
      rcases ih with ih | ⟨ih1, ih2⟩
      · rw [ih]
        cases h1 : lookL b j (U e) with
        | some v => exact .inl rfl
        | none =>
          dsimp only
          by_cases ha : has a
          · rw [hu a (by simp) ha, h1]; exact .inl rfl
          · rw [lookL_none fun u hu' e => ha (hU a u hu' e)]; exact .inl rfl
      · rw [ih2]
        dsimp only
        by_cases ha : has a
        · rw [hu a (by simp) ha]; exact .inl rfl
        · rw [ih1, lookL_none fun u hu' e => ha (hU a u hu' e)]; exact .inl rfl
    · have h1 : lookL b j (l.flatMap U) = none := lookL_none fun u hu' e => by
        obtain ⟨e', he', hue⟩ := List.mem_flatMap.1 hu'
        exact hn ⟨e', he', hU e' u hue e⟩
      rw [h1]
      dsimp only
      rcases List.mem_cons.1 he with rfl | he
      · exact .inl rfl
      · exact absurd ⟨e, he, hh⟩ hn
end Go.AX
set_option linter.unusedVariables false
set_option linter.unusedSimpArgs false
namespace Go.AX
open Go
variable {P : Program} {σ : Sg} {ρ : Ren} {s : St} {w : World}

theorem nextIt_some {b : Code} {it : Tmp} (h : nextIt b = some it) : ∃ id ops rest o0 l, b = .seq (.region id ops false) rest ∧ ops.toList = o0 :: l ∧ o0.op = .next (.tmp it) false ∧ o0.guard = none := by
  unfold nextIt at h
  split at h
  · rename_i id ops rest
    split at h
    · rename_i o ho
      split at h
      · rename_i it' hop hg
        cases h
        have : ops.toList[0]? = some o := by simpa using ho
        cases hl : ops.toList with
        | nil => rw [hl] at this; simp at this
        | cons o1 l =>
          rw [hl] at this
          simp at this
          subst this
          exact ⟨id, ops, rest, o1, l, rfl, hl, hop, hg⟩
      · cases h
    · cases h
  · cases h

/-- The executor's way through the loop's head. -/
theorem head_run {self : Self} {nt : Nat} {id : Nat} {ops : Array Oper} {rest : Code} {o0 : Oper} {l : List Oper} {it : Tmp} (hl : ops.toList = o0 :: l) (hop : o0.op = .next (.tmp it) false) (hg : o0.guard = none)
    {rd : Option Nat} {t : Tm} {S : St} {ds : List Nat} {k : K} {v : AV} {sE : St} (h : (fcode P nt (.seq (.region id ops false) rest)).run self rd t S ds k = .ok v sE) :
    ops.toList.all (dstOK nt) = true ∧ ∃ u s1, xNext S (tget t it) false = .val u s1 ∧ (fregL P ops l).run self (putA t o0.dst u) s1 (fun t s => (fcode P nt rest).go self rd t s ds k) = .ok v sE := by
  change (fregion P nt ops false).run self t S (fun t s => (fcode P nt rest).go self rd t s ds k) = .ok v sE at h
  unfold fregion at h
  split at h
  · rename_i hall
    refine ⟨hall, ?_⟩
    rw [hl] at h
    change (fguard P ops o0 (fregL P ops l)).run self t S _ = .ok v sE at h
    unfold fguard at h
    rw [hg] at h
    dsimp only at h
    unfold fstep at h
    have hmv : isMove o0.op = none := by rw [hop]; rfl
    have hfv : fval P o0.op = none := by rw [hop]; rfl
    rw [hmv] at h
    dsimp only at h
    rw [hfv] at h
    dsimp only at h
    have hfop : (fop P o0.op).run self t S = nxR self S (xNext S (tget t it) false) := by rw [hop]; rfl
    rw [hfop] at h
    cases e : xNext S (tget t it) false with
    | val u s1 =>
      rw [e] at h
      change (fregL P ops l).go self ((fput o0.dst).put t u) s1 _ = .ok v sE at h
      rw [fput_eq] at h
      exact ⟨u, s1, rfl, h⟩
    | call f a => have := plain_xNext (s := S) (x := tget t it) (b := false); rw [e] at this; cases this
    | round f a => have := plain_xNext (s := S) (x := tget t it) (b := false); rw [e] at this; cases this
    | bad => rw [e] at h; cases h
  · contradiction
  · cases h

/-- What follows the iterator's step. -/
theorem head_ok {self : Self} (hS : SelfOK P σ self) (hN : NoNum P) (hσ : Plain σ) {nt : Nat} {id : Nat} {ops : Array Oper} {rest : Code} (hrest : CodeOK P σ self nt rest (fcode P nt rest)) {o0 : Oper} {l : List Oper} {it : Tmp}
    (hl : ops.toList = o0 :: l) (hop : o0.op = .next (.tmp it) false) (hg : o0.guard = none) (hall : ops.toList.all (dstOK nt) = true)
    {rd rdc : Option Nat} {t : Tm} {s1 : St} {ds : List Nat} {k : K} {v u : AV} {sE : St} (h : (fregL P ops l).run self (putA t o0.dst u) s1 (fun t s => (fcode P nt rest).go self rd t s ds k) = .ok v sE)
    {a : Act} {w2 : World} {cv : Value} {n : Nat} {Q : Exit → Act → World → Prop} (hres : (Instr.next (a.eval (.tmp it)) false o0.type).run P w = .ok cv w2)
    (hv : VR σ ρ u cv) (hR : Rel P σ ρ s1 w2) (hT : TR σ ρ nt t a.tmps) (hrd : RdR ρ rd rdc) (hD : DsR ρ ds a.defers) (hk : KOKm P σ self.mu nt k v sE Q ρ s1 w2) :
    (Code.seq (.region id ops false) rest).wpIn (Fd rdc) n P Q a w := by
  refine wpIn_seq (wpIn_region ?_)
  have hsz : ops.size = l.length + 1 := by
    have := congrArg List.length hl
    simpa using this
  rw [List.range_eq_range', hsz, List.range'_succ, wpOpsIn_cons]
  have h0 : ops[0]? = some o0 := by
    have : ops.toList[0]? = some o0 := by rw [hl]; rfl
    simpa using this
  unfold wpOpIn
  rw [h0]
  dsimp only
  rw [if_pos (by unfold Region.wanted; rw [hg])]
  rw [hl] at hall
  simp only [List.all_cons, Bool.and_eq_true] at hall
  have hd' : ∀ j, o0.dst = some j → j < nt := fun j e => by
    have := hall.1
    unfold dstOK at this; rw [e] at this; simpa [Nat.blt_eq] using this
  refine ⟨fun _ _ => trivial, ?_⟩
  rw [Oper.semAt_eq _ _ _ (fun c e => by rw [hop] at e; cases e)]
  have hx : (execOp a.eval o0).run P w = .ok (.value cv) w2 := by
    unfold execOp
    rw [hop]
    dsimp only
    rw [Sem.run_bind, hres]
    rfl
  rw [hx]
  show wpOpsIn (Fd rdc) n P ops _ (List.range' (0 + 1) l.length) (a.put o0.dst cv) w2
  refine fregL_ok hS hN hσ l 1 (by rw [hl]; rfl) hall.2 ρ _ s1 w2 _ h hR (hT.put hd' hv) fun ρ1 t1 s2 w1 a1 h1 hR1 hT1 hd1 ho hf => ?_
  refine hrest rd rdc t1 s2 ds k v sE h1 ρ1 w1 a1 n Q hR1 hT1 (hrd.mono ho.le) ?_ (hk.trans ho hf)
  rw [hd1, put_defers]
  exact hD.mono ho.le
end Go.AX
set_option linter.unusedVariables false
set_option linter.unusedSimpArgs false
namespace Go.AX
open Go
variable {P : Program} {σ : Sg} {ρ : Ren} {s : St} {w : World}
attribute [local irreducible] keyOf

theorem pickH_get {h : Q AObj} : ∀ {l : List Nat} {q q' : Q AObj}, pickH h l q = some q' → ∀ b, (b ∈ l → ∃ o, h.get b = some o ∧ q'.get b = some o) ∧ (b ∉ l → q'.get b = q.get b)
  | [], q, q', e, b => by cases e; exact ⟨fun h => (by cases h), fun _ => rfl⟩
  | c :: l, q, q', e, b => by
    simp only [pickH] at e
    split at e
    · rename_i o ho
      obtain ⟨h1, h2⟩ := pickH_get e b
      by_cases hb : b ∈ l
      · exact ⟨fun _ => h1 hb, fun hn => absurd (List.mem_cons_of_mem _ hb) hn⟩
      · rw [Q.get_set] at h2
        by_cases hc : b = c
        · subst hc
          exact ⟨fun _ => ⟨o, ho, by rw [h2 hb, if_pos rfl]⟩, fun hn => absurd (List.mem_cons_self ..) hn⟩
        · exact ⟨fun hm => by rcases List.mem_cons.1 hm with h | h; exact absurd h hc; exact absurd h hb, fun _ => by rw [h2 hb, if_neg hc]⟩
    · cases e

/-- What a part of a row holds. -/
theorem partM_get {z : List AV} {p n : Nat} {m : Q AV} : ∀ {l : List Nat} {q q' : Q AV}, partM z p m n l q = some q' → ∀ i, (i ∈ l → i < n ∧ ∃ v, cellAt z p m i = some v ∧ q'.get (keyOf 0 i) = some v) ∧ (i ∉ l → q'.get (keyOf 0 i) = q.get (keyOf 0 i))
  | [], q, q', e, i => by cases e; exact ⟨fun h => (by cases h), fun _ => rfl⟩
  | c :: l, q, q', e, i => by
    simp only [partM] at e
    split at e
    · rename_i v hlt hv
      obtain ⟨h1, h2⟩ := partM_get e i
      rw [cell_get_set] at h2
      by_cases hb : i ∈ l
      · exact ⟨fun _ => h1 hb, fun hn => absurd (List.mem_cons_of_mem _ hb) hn⟩
      · by_cases hc : i = c
        · subst hc
          exact ⟨fun _ => ⟨by simpa [Nat.blt_eq] using hlt, v, hv, by rw [h2 hb, if_pos rfl]⟩, fun hn => absurd (List.mem_cons_self ..) hn⟩
        · exact ⟨fun hm => by rcases List.mem_cons.1 hm with h | h; exact absurd h hc; exact absurd h hb, fun _ => by rw [h2 hb, if_neg hc]⟩
    · cases e
theorem partsH_get {h : Q AObj} {k : AV} : ∀ {l : List (Nat × Nat)} {q q' : Q AObj}, partNodup l = true → partsH h k l q = some q' → ∀ b,
    (∀ st, (b, st) ∈ l → ∃ n z p m e x m', h.get b = some (.cells n z p m e x) ∧ partM z p m n (footOf k st) Q.e = some m' ∧ q'.get b = some (.cells n [] 0 m' e x)) ∧ ((∀ st, (b, st) ∉ l) → q'.get b = q.get b)
  | [], q, q', _, e, b => by cases e; exact ⟨fun st h => by (cases h), fun _ => rfl⟩
  | (c, st) :: l, q, q', hn, e, b => by
    obtain ⟨hn1, hn2⟩ := Bool.and_eq_true_iff.1 (show (l.all (fun q => !(Nat.beq c q.1)) && partNodup l) = true from hn)
    simp only [partsH] at e
    split at e
    · rename_i n z p m el x ho
      split at e
      · rename_i m' hm'
        obtain ⟨h1, h2⟩ := partsH_get hn2 e b
        rw [Q.get_set] at h2
        have hcl : ∀ st', (c, st') ∉ l := fun st' hm => by
          rw [List.all_eq_true] at hn1
          have := hn1 _ hm
          simp [Nat.beq_refl] at this
        refine ⟨fun st' hm => ?_, fun hnot => ?_⟩
        · rcases List.mem_cons.1 hm with e' | hm
          · cases e'
            exact ⟨n, z, p, m, el, x, m', ho, hm', by rw [h2 hcl, if_pos rfl]⟩
          · exact h1 st' hm
        · rw [h2 fun st' hm => hnot st' (List.mem_cons_of_mem _ hm), if_neg fun e' => hnot st (by rw [e']; exact List.mem_cons_self ..)]
      · cases e
    · cases e

theorem rangeL_nodup : ∀ (n lo : Nat), (rangeL lo n).Nodup
  | 0, lo => List.nodup_nil
  | n+1, lo => by
    simp only [rangeL]
    exact List.nodup_cons.2 ⟨fun h => by have := (mem_rangeL.1 h).1; omega, rangeL_nodup n _⟩
theorem footOf_nodup (k : AV) (st : Nat) : (footOf k st).Nodup := by
  unfold footOf
  split
  · exact rangeL_nodup _ _
  · exact List.nodup_nil
theorem zip_mem {b : Nat} {l : List Nat} {vs : List AV} {u : (Nat × Nat) × AV} (h : u ∈ (l.map fun i => (b, i)).zip vs) : u.1.1 = b ∧ u.1.2 ∈ l := by
  obtain ⟨⟨x, y⟩, v⟩ := u
  have := (List.of_mem_zip h).1
  obtain ⟨i, hi, e⟩ := List.mem_map.1 this
  cases e
  exact ⟨rfl, hi⟩
theorem partGet_eq (m : Q AV) (i : Nat) : partGet m i = m.get (keyOf 0 i) := by unfold partGet; rfl
theorem newVs_look {b nx : Nat} {m : Q AV} {l : List Nat} {vs : List AV} (h : newVs nx m l = some vs) (hn : l.Nodup) : vs.length = l.length ∧ ∀ i ∈ l, ∃ v, partGet m i = some v ∧ idsLt nx v = true ∧ lookL b i ((l.map fun i => (b, i)).zip vs) = some v := by
  induction l generalizing vs with
  | nil =>
    simp only [newVs, Option.some.injEq] at h
    subst h
    refine ⟨rfl, ?_⟩
    intro i hi
    exact absurd hi List.not_mem_nil
  | cons c l ih =>
    obtain ⟨hn1, hn2⟩ := List.nodup_cons.1 hn
    simp only [newVs] at h
    split at h
    · rename_i v hv
      split at h
      · rename_i us hid hus
        simp only [Option.some.injEq] at h
        subst h
        obtain ⟨h1, h2⟩ := ih hus hn2
        refine ⟨by simp [h1], ?_⟩
        intro i hi
        simp only [List.map_cons, List.zip_cons_cons, lookL]
        by_cases hl : i ∈ l
        · obtain ⟨v', g1, g2, g3⟩ := h2 i hl
          exact ⟨v', g1, g2, by rw [g3]⟩
        · rcases List.mem_cons.1 hi with e | hi
          · subst e
            refine ⟨v, hv, hid, ?_⟩
            rw [lookL_none fun u hu e => hl (by have := (zip_mem hu).2; rw [e] at this; exact this)]
            simp
          · exact absurd hi hl
      · contradiction
    · contradiction
theorem cellsOf_mem {k : AV} : ∀ {part : List (Nat × Nat)} {c : Nat × Nat}, c ∈ cellsOf part k → ∃ st, (c.1, st) ∈ part ∧ c.2 ∈ footOf k st
  | [], c, h => by cases h
  | (b, st) :: l, c, h => by
    simp only [cellsOf] at h
    rcases List.mem_append.1 h with h | h
    · obtain ⟨i, hi, e⟩ := List.mem_map.1 h
      cases e
      exact ⟨st, List.mem_cons_self .., hi⟩
    · obtain ⟨st', h1, h2⟩ := cellsOf_mem h
      exact ⟨st', List.mem_cons_of_mem _ h1, h2⟩
theorem newParts_get {h h' : Q AObj} {nx : Nat} {k : AV} : ∀ {part : List (Nat × Nat)} {vs : List AV}, newParts h h' nx k part = some vs → partNodup part = true → vs.length = (cellsOf part k).length ∧
    ∀ b st, (b, st) ∈ part → ∃ n z p m e x m', h.get b = some (.cells n z p m e x) ∧ h'.get b = some (.cells n [] 0 m' e x) ∧ hiOK (footOf k st) m'.hi = true ∧
      ∀ i ∈ footOf k st, ∃ v, partGet m' i = some v ∧ idsLt nx v = true ∧ lookL b i ((cellsOf part k).zip vs) = some v
  | [], vs, e, _ => by cases e; exact ⟨rfl, fun b st h => (by cases h)⟩
  | (c, st) :: l, vs, e, hn => by
    obtain ⟨hn1, hn2⟩ := Bool.and_eq_true_iff.1 (show (l.all (fun q => !(Nat.beq c q.1)) && partNodup l) = true from hn)
    have hcl : ∀ st', (c, st') ∉ l := fun st' hm => by
      rw [List.all_eq_true] at hn1
      have := hn1 _ hm
      simp [Nat.beq_refl] at this
    simp only [newParts] at e
    split at e
    · rename_i n z p m el x n' z' p' m' el' x' hb hb'
      split at e
      · rename_i v1 u1 hc hv1 hu1
        cases e
        simp only [Bool.and_eq_true] at hc
        obtain ⟨⟨⟨⟨⟨c1, c2⟩, c3⟩, c4⟩, c5⟩, c6⟩ := hc
        have e1 := Nat.eq_of_beq_eq_true c1
        have e2 := Nat.eq_of_beq_eq_true c2
        have e3 := Nat.eq_of_beq_eq_true c3
        have e4 := sameB_eq' c4
        have e5 : z' = [] := by cases z' with | nil => rfl | cons => cases c5
        subst e1 e2 e3 e4 e5
        obtain ⟨g1, g2⟩ := newVs_look (b := c) hv1 (footOf_nodup k st)
        obtain ⟨g3, g4⟩ := newParts_get hu1 hn2
        have hlen : ((footOf k st).map fun i => (c, i)).length = v1.length := by simp [g1]
        simp only [cellsOf]
        rw [List.zip_append hlen]
        refine ⟨by simp [g1, g3], fun b st' hm => ?_⟩
        rcases List.mem_cons.1 hm with e' | hm
        · cases e'
          refine ⟨n, z, p, m, el, x, m', hb, hb', c6, fun i hi => ?_⟩
          obtain ⟨v, k1, k2, k3⟩ := g2 i hi
          refine ⟨v, k1, k2, ?_⟩
          rw [lookL_append, lookL_none fun u hu e => ?_]
          · exact k3
          · obtain ⟨st', h1, _⟩ := cellsOf_mem (List.of_mem_zip hu).1
            rw [e] at h1
            exact hcl st' h1
        · obtain ⟨n, z, p, m, el, x, m', k1, k2, k3, k4⟩ := g4 b st' hm
          refine ⟨n, z, p, m, el, x, m', k1, k2, k3, fun i hi => ?_⟩
          obtain ⟨v, q1, q2, q3⟩ := k4 i hi
          exact ⟨v, q1, q2, by rw [lookL_append, q3]⟩
      · cases e
    · cases e
where
  sameB_eq' {a b : Bool} (h : sameB a b = true) : a = b := by cases a <;> cases b <;> first | rfl | cases h
/-- What is not listed beyond a table is not known. -/
theorem getHi_out {ks : List Nat} {j : Nat} (hj : j ∉ ks) : ∀ {l : HL (Option AV)}, hiOK ks l = true → getHi l (keyOf 0 j) = none
  | .nil d, h => by
    cases d with
    | none => rfl
    | some _ => cases h
  | .cons k x l, h => by
    obtain ⟨h1, h2⟩ := Bool.and_eq_true_iff.1 (show (ks.any (fun i => Nat.beq (keyOf 0 i) k) && hiOK ks l) = true from h)
    simp only [getHi]
    have hne : Nat.beq (keyOf 0 j) k = false := by
      cases e : Nat.beq (keyOf 0 j) k with
      | false => rfl
      | true =>
        obtain ⟨i, hi, he⟩ := List.any_eq_true.1 h1
        have a1 := Nat.eq_of_beq_eq_true e
        have a2 := Nat.eq_of_beq_eq_true he
        exact absurd (keyOf_inj (a1.trans a2.symm) ▸ hi) hj
    rw [hne]
    exact getHi_out hj h2

theorem foot_inj {k k' : AV} {st i n n' : Nat} (h : natKey k = some n) (h' : natKey k' = some n') (hi : i ∈ footOf k st) (hi' : i ∈ footOf k' st) : n = n' := by
  have key : ∀ {k : AV} {n : Nat}, natKey k = some n → i ∈ footOf k st → 0 < st ∧ n = i / st := by
    intro k n h hi
    unfold natKey at h
    split at h
    · cases h
      have hm := mem_rangeL.1 (show i ∈ rangeL (Nat.mul st n) st from hi)
      have h1 : st * n ≤ i := hm.1
      have h2 : i < st * n + st := hm.2
      have hst : 0 < st := by omega
      refine ⟨hst, ?_⟩
      exact (Nat.div_eq_of_lt_le (by rw [Nat.mul_comm]; exact h1) (by rw [Nat.add_mul, Nat.one_mul, Nat.mul_comm]; exact h2)).symm
    · cases h
  rw [(key h hi).2, (key h' hi').2]
theorem headOK_get {since last : Nat} : ∀ {es : List ME}, headOK since last es = true → since ≤ last ∧ (∀ e ∈ es, e.born < since ∧ ∃ n, natKey e.k = some n) ∧ (∀ e ∈ es, ∀ e' ∈ es, e.born = e'.born → e = e') ∧ (∀ e ∈ es, ∀ e' ∈ es, natKey e.k = natKey e'.k → e = e')
  | [], h => ⟨Nat.le_of_ble_eq_true h, fun e h => absurd h List.not_mem_nil, fun e h => absurd h List.not_mem_nil, fun e h => absurd h List.not_mem_nil⟩
  | a :: l, h => by
    simp only [headOK] at h
    obtain ⟨h1, h2⟩ := Bool.and_eq_true_iff.1 h
    obtain ⟨g1, g2, g3, g4⟩ := headOK_get h2
    split at h1
    · rename_i n hn
      obtain ⟨k1, k2⟩ := Bool.and_eq_true_iff.1 h1
      have k1 : a.born < since := by simpa [Nat.blt_eq] using k1
      have hd : ∀ e' ∈ l, a.born ≠ e'.born ∧ natKey a.k ≠ natKey e'.k := by
        intro e' he'
        have := List.all_eq_true.1 k2 e' he'
        obtain ⟨q1, q2⟩ := Bool.and_eq_true_iff.1 this
        refine ⟨fun e => (by rw [e, Nat.beq_refl] at q1; cases q1), fun e => ?_⟩
        rw [← e, hn] at q2
        dsimp only at q2
        rw [Nat.beq_refl] at q2
        cases q2
      refine ⟨g1, ?_, ?_, ?_⟩
      · intro e he
        rcases List.mem_cons.1 he with rfl | he
        · exact ⟨k1, n, hn⟩
        · exact g2 e he
      · intro e he e' he' heq
        rcases List.mem_cons.1 he with rfl | hel
        · rcases List.mem_cons.1 he' with rfl | he'
          · rfl
          · exact absurd heq (hd e' he').1
        · rcases List.mem_cons.1 he' with rfl | hel'
          · exact absurd heq.symm (hd e hel).1
          · exact g3 e hel e' hel' heq
      · intro e he e' he' heq
        rcases List.mem_cons.1 he with rfl | hel
        · rcases List.mem_cons.1 he' with rfl | he'
          · rfl
          · exact absurd heq (hd e' he').2
        · rcases List.mem_cons.1 he' with rfl | hel'
          · exact absurd heq.symm (hd e hel).2
          · exact g4 e hel e' hel' heq
    · cases h1
end Go.AX
set_option linter.unusedVariables false
set_option linter.unusedSimpArgs false
namespace Go.AX
open Go
variable {P : Program} {σ : Sg} {ρ : Ren} {s : St} {w : World}
attribute [local irreducible] keyOf

theorem cellAt_after {z : List AV} {p b i : Nat} {m : Q AV} {ups : Ups} : cellAt z p (after b p ups m) i = (match lookL b i ups with | some v => some v | none => cellAt z p m i) := by
  unfold cellAt
  rw [after_get]
  cases lookL b i ups <;> rfl

/-- The rounds, one by one. -/
theorem prounds_get {f : ME → Option Ups} : ∀ {es : List ME} {ups : Ups}, prounds f es = some ups → (∀ e ∈ es, ∃ u, f e = some u) ∧ ups = es.flatMap fun e => (f e).getD []
  | [], ups, h => by
    simp only [prounds, Option.some.injEq] at h
    subst h
    exact ⟨fun e h => absurd h List.not_mem_nil, rfl⟩
  | e :: l, ups, h => by
    simp only [prounds] at h
    split at h
    · rename_i u us hu hus
      simp only [Option.some.injEq] at h
      subst h
      obtain ⟨g1, g2⟩ := prounds_get hus
      refine ⟨?_, ?_⟩
      · intro e' he'
        rcases List.mem_cons.1 he' with rfl | hl
        · exact ⟨u, hu⟩
        · exact g1 e' hl
      · rw [List.flatMap_cons, ← g2, hu]; rfl
    · cases h

/-- What has been written behind the entries of the stamps D. -/
noncomputable def upsD (es : List ME) (U : ME → Ups) (D : List Nat) : Ups := (es.filter fun e => D.contains e.born).flatMap U
noncomputable def stD (es : List ME) (U : ME → Ups) (s : St) (r : Nat) (D : List Nat) : St := ⟨(applyAll (upsD es U D) s.h).del r, s.nx⟩

structure MInv (P : Program) (σ : Sg) (nt : Nat) (es : List ME) (U : ME → Ups) (since : Nat) (r m : Nat) (lr lm : Loc) (tj : Tm) (ρ : Ren) (s : St) (w0 : World) (ds : List Nat) (D : List Nat) (a : Act) (w : World) : Prop where
  rel : Rel P σ ρ (stD es U s r D) w
  it : ∃ last, since ≤ last ∧ w.heap[lr.blk]? = some (.mapIter (some lm.blk) since D.toArray last)
  frm : Frm ρ s w0 w
  tm : TR σ ρ nt tj a.tmps
  dfr : DsR ρ ds a.defers
  nodup : D.Nodup
  sub : ∀ d ∈ D, ∃ e ∈ es, e.born = d

theorem stD_get {es : List ME} {U : ME → Ups} {r : Nat} {D : List Nat} {b : Nat} : (stD es U s r D).h.get b = if b = r then none else (applyAll (upsD es U D) s.h).get b := Q.get_del _ _ _
/-- Every object that is there was there, and of the same kind. -/
theorem applyAll_some {b : Nat} {o : AObj} : ∀ {ups : Ups} {h : Q AObj}, (applyAll ups h).get b = some o → ∃ o0, h.get b = some o0 ∧ o0.isRom = o.isRom
  | [], h, e => ⟨o, e, rfl⟩
  | u :: l, h, e => by
    obtain ⟨o1, h1, h2⟩ := applyAll_some (ups := l) (h := apply1 h u) e
    unfold apply1 at h1
    split at h1
    · rename_i n z p m el x hu
      rw [Q.get_set] at h1
      split at h1
      · rename_i hb
        simp only [Option.some.injEq] at h1
        subst h1
        exact ⟨.cells n z p m el x, by rw [hb]; exact hu, h2⟩
      · exact ⟨o1, h1, h2⟩
    · exact ⟨o1, h1, h2⟩
theorem stD_some {es : List ME} {U : ME → Ups} {r : Nat} {D : List Nat} {b : Nat} {o : AObj} (h : (stD es U s r D).h.get b = some o) : b ≠ r ∧ ∃ o0, s.h.get b = some o0 ∧ o0.isRom = o.isRom := by
  rw [stD_get] at h
  split at h
  · cases h
  · exact ⟨by assumption, applyAll_some h⟩
theorem stD_own {es : List ME} {U : ME → Ups} {r : Nat} {D : List Nat} : Own ρ ρ s (stD es U s r D) w := by
  refine ⟨Ren.le_refl _, Nat.le_refl _, ?_, fun _ _ => rfl, ?_⟩
  · intro b o l hb hr hl
    obtain ⟨_, o0, h0, h1⟩ := stD_some hb
    exact .inl ⟨b, o0, l, h0, by rw [h1]; exact hr, hl, rfl⟩
  · intro b o l hb hl
    obtain ⟨_, o0, h0, h1⟩ := stD_some hb
    exact .inl ⟨b, o0, l, h0, hl, rfl⟩
theorem find_born {es : List ME} {e : ME} (he : e ∈ es) (hd : ∀ a ∈ es, ∀ b ∈ es, a.born = b.born → a = b) : es.find? (fun x => Nat.beq x.born e.born) = some e := by
  cases h : es.find? (fun x => Nat.beq x.born e.born) with
  | none =>
    have := List.find?_eq_none.1 h e he
    simp [Nat.beq_refl] at this
  | some x =>
    have h1 := List.mem_of_find?_eq_some h
    have h2 := List.find?_some h
    rw [hd x h1 e he (Nat.eq_of_beq_eq_true h2)]
theorem part_same {part : List (Nat × Nat)} (hn : partNodup part = true) {b st st' : Nat} (h : (b, st) ∈ part) (h' : (b, st') ∈ part) : st = st' := by
  induction part with
  | nil => exact absurd h List.not_mem_nil
  | cons a l ih =>
    obtain ⟨c, sc⟩ := a
    obtain ⟨hn1, hn2⟩ := Bool.and_eq_true_iff.1 (show (l.all (fun q => !(Nat.beq c q.1)) && partNodup l) = true from hn)
    have hcl : ∀ q, (c, q) ∉ l := fun q hm => by
      have := List.all_eq_true.1 hn1 _ hm
      simp [Nat.beq_refl] at this
    rcases List.mem_cons.1 h with e | k1
    · rcases List.mem_cons.1 h' with e' | k2
      · cases e; cases e'; rfl
      · cases e; exact absurd k2 (hcl _)
    · rcases List.mem_cons.1 h' with e' | k2
      · cases e'; exact absurd k1 (hcl _)
      · exact ih hn2 k1 k2
/-- The cells of an entry that was not taken are as they were. -/
theorem upsD_none {es : List ME} {U : ME → Ups} {part : List (Nat × Nat)} {D : List Nat} (hU : ∀ e ∈ es, ∀ u ∈ U e, u.1 ∈ cellsOf part e.k) (hn : partNodup part = true) (hkey : ∀ e ∈ es, ∃ n, natKey e.k = some n)
    (hk : ∀ e ∈ es, ∀ e' ∈ es, natKey e.k = natKey e'.k → e = e') {e : ME} (he : e ∈ es) (hD : e.born ∉ D) {b st i : Nat} (hb : (b, st) ∈ part) (hi : i ∈ footOf e.k st) : lookL b i (upsD es U D) = none := by
  refine lookL_none fun u hu e1 => ?_
  obtain ⟨e', he', hue⟩ := List.mem_flatMap.1 hu
  obtain ⟨hes, hDe⟩ := List.mem_filter.1 he'
  have hc := hU e' hes u hue
  rw [e1] at hc
  obtain ⟨st', h1, h2⟩ := cellsOf_mem hc
  have := part_same hn hb h1
  subst this
  obtain ⟨n, hn1⟩ := hkey e he
  obtain ⟨n', hn2⟩ := hkey e' hes
  have := foot_inj hn1 hn2 hi h2
  subst this
  have := hk e he e' hes (hn1.trans hn2.symm)
  subst this
  exact hD (by simpa using hDe)
theorem look_filter {b i : Nat} {U : ME → Ups} {p q : ME → Bool} : ∀ {es : List ME}, (∀ e ∈ es, p e = q e ∨ lookL b i (U e) = none) → lookL b i ((es.filter p).flatMap U) = lookL b i ((es.filter q).flatMap U)
  | [], _ => rfl
  | a :: l, h => by
    have ih := look_filter (es := l) (p := p) (q := q) (U := U) (b := b) (i := i) fun e he => h e (List.mem_cons_of_mem _ he)
    have one : ∀ r : ME → Bool, lookL b i (((a :: l).filter r).flatMap U) = (match lookL b i ((l.filter r).flatMap U) with | some v => some v | none => if r a then lookL b i (U a) else none) := by
      intro r
      by_cases hr : r a = true
      · rw [List.filter_cons_of_pos hr, List.flatMap_cons, lookL_append, if_pos hr]
        try (cases lookL b i ((l.filter r).flatMap U) <;> rfl)
      · rw [List.filter_cons_of_neg hr, if_neg hr]
        try (cases lookL b i ((l.filter r).flatMap U) <;> rfl)
    rw [one p, one q, ih]
    rcases h a (List.mem_cons_self ..) with e | e
    · rw [e]
    · rw [e]; simp
theorem upsD_step {es : List ME} {U : ME → Ups} {part : List (Nat × Nat)} {D : List Nat} (hU : ∀ e ∈ es, ∀ u ∈ U e, u.1 ∈ cellsOf part e.k) (hn : partNodup part = true) (hkey : ∀ e ∈ es, ∃ n, natKey e.k = some n)
    (hk : ∀ e ∈ es, ∀ e' ∈ es, natKey e.k = natKey e'.k → e = e') (hborn : ∀ a ∈ es, ∀ b ∈ es, a.born = b.born → a = b) {e : ME} (he : e ∈ es) {b st i : Nat} (hb : (b, st) ∈ part) :
    (i ∉ footOf e.k st → lookL b i (upsD es U (D ++ [e.born])) = lookL b i (upsD es U D)) ∧
    (i ∈ footOf e.k st → ∀ v, lookL b i (U e) = some v → lookL b i (upsD es U (D ++ [e.born])) = some v) := by
  have other : ∀ e' ∈ es, ∀ u ∈ U e', u.1 = (b, i) → i ∈ footOf e'.k st := by
    intro e' he' u hu e1
    have hc := hU e' he' u hu
    rw [e1] at hc
    obtain ⟨st', h1, h2⟩ := cellsOf_mem hc
    have := part_same hn hb h1
    subst this
    exact h2
  have same : ∀ e' ∈ es, i ∈ footOf e.k st → i ∈ footOf e'.k st → e' = e := by
    intro e' he' h1 h2
    obtain ⟨n, hn1⟩ := hkey e he
    obtain ⟨n', hn2⟩ := hkey e' he'
    have := foot_inj hn1 hn2 h1 h2
    subst this
    exact (hk e he e' he' (hn1.trans hn2.symm)).symm
  refine ⟨fun hi => look_filter ?_, fun hi v hv => ?_⟩
  · intro e' he'
    by_cases h : e'.born = e.born
    · have := hborn e' he' e he h
      subst this
      exact .inr (lookL_none fun u hu e1 => hi (other e' he' u hu e1))
    · left
      simp [h]
  · have hmem : e ∈ es.filter fun x => (D ++ [e.born]).contains x.born := List.mem_filter.2 ⟨he, by simp⟩
    have hhas : ∃ u ∈ U e, u.1 = (b, i) := Classical.byContradiction fun hno => by
      rw [lookL_none fun u hu e1 => hno ⟨u, hu, e1⟩] at hv
      cases hv
    rcases lookL_flat (b := b) (j := i) (U := U) (has := fun x => ∃ u ∈ U x, u.1 = (b, i)) (fun x u hu e1 => ⟨u, hu, e1⟩) hmem (fun e' he' ⟨u, hu, e1⟩ => by
      rw [same e' (List.mem_filter.1 he').1 hi (other e' (List.mem_filter.1 he').1 u hu e1)]) hhas with h | ⟨h1, _⟩
    · exact h.trans hv
    · rw [hv] at h1; cases h1
end Go.AX
set_option linter.unusedVariables false
set_option linter.unusedSimpArgs false
namespace Go.AX
open Go
variable {P : Program} {σ : Sg} {ρ ρ' : Ren} {s s' : St} {w w' : World}

theorem eqLeaf_eq {a b : Option AV} (h : eqLeaf a b = true) : a = b := by
  unfold eqLeaf at h
  split at h
  · rfl
  · rw [beqA_eq h]
  · cases h
theorem eqTr_eq : ∀ (d : Nat) (t u : ETr AV d), eqTr d t u = true → t = u
  | 0, t, u, h => eqLeaf_eq h
  | d+1, t, u, h => by
    cases t with
    | e => cases u with
      | e => rfl
      | n _ _ _ _ => cases h
    | n a b c e => cases u with
      | e => cases h
      | n a' b' c' e' =>
        have h : (eqTr d a a' && eqTr d b b' && eqTr d c c' && eqTr d e e') = true := h
        obtain ⟨h, h4⟩ := Bool.and_eq_true_iff.1 h
        obtain ⟨h, h3⟩ := Bool.and_eq_true_iff.1 h
        obtain ⟨h1, h2⟩ := Bool.and_eq_true_iff.1 h
        rw [eqTr_eq d _ _ h1, eqTr_eq d _ _ h2, eqTr_eq d _ _ h3, eqTr_eq d _ _ h4]
theorem eqTr_get {n : Nat} {m m' : Q AV} (h : eqTr 8 m.t m'.t = true) (hn : n ≤ 65536) {i : Nat} (hi : i < n) : m.get i = m'.get i := by
  unfold Q.get
  rw [EQ.of_lo (by omega)]
  show (EPth.of AV 8 i).g m.t = (EPth.of AV 8 i).g m'.t
  rw [eqTr_eq 8 _ _ h]
theorem sameME_eq : ∀ {l m : List ME}, sameME l m = true → l = m
  | [], [], _ => rfl
  | [], _ :: _, h => by cases h
  | _ :: _, [], h => by cases h
  | a :: l, b :: m, h => by
    simp only [sameME, Bool.and_eq_true] at h
    obtain ⟨⟨⟨h1, h2⟩, h3⟩, h4⟩ := h
    obtain ⟨ak, av, ab⟩ := a
    obtain ⟨bk, bv, bb⟩ := b
    rw [sameME_eq h4]
    have e1 := beqA_eq h1
    have e2 := beqA_eq h2
    have e3 := Nat.eq_of_beq_eq_true h3
    simp only at e1 e2 e3
    rw [e1, e2, e3]
theorem sameB_eq {a b : Bool} (h : sameB a b = true) : a = b := by cases a <;> cases b <;> first | rfl | cases h
theorem sameObj_rom {o o' : AObj} (h : sameObj o o' = true) : o.isRom = o'.isRom := by
  cases o <;> cases o' <;> first | rfl | cases h
theorem sameCells_get {z z' : List AV} {p p' : Nat} {m m' : Q AV} : ∀ {l : List Nat}, sameCells z p m z' p' m' l = true → ∀ {i}, i ∈ l → cellAt z p m i = cellAt z' p' m' i
  | [], _, i, h => absurd h List.not_mem_nil
  | a :: l, h, i, hi => by
    obtain ⟨h1, h2⟩ := Bool.and_eq_true_iff.1 (show (eqLeaf (cellAt z p m a) (cellAt z' p' m' a) && sameCells z p m z' p' m' l) = true from h)
    rcases List.mem_cons.1 hi with rfl | hi
    · exact eqLeaf_eq h1
    · exact sameCells_get h2 hi
theorem sameObj_R {o o' : AObj} (h : sameObj o o' = true) {b : Nat} {l : Loc} {x : Obj} (hr : ObjR P σ ρ b l o' x) : ObjR P σ ρ b l o x := by
  cases o with
  | cells n z p m e ext =>
    cases o' with
    | cells n' z' p' m' e' ext' =>
      simp only [sameObj, Bool.and_eq_true] at h
      obtain ⟨⟨⟨h1, h3⟩, h4⟩, h5⟩ := h
      have e1 := Nat.eq_of_beq_eq_true h1
      have e3 := Nat.eq_of_beq_eq_true h3
      have e4 := sameB_eq h4
      subst e1 e3 e4
      obtain ⟨c, fr, rfl, g1, g2, g3⟩ := hr
      refine ⟨c, fr, rfl, fun i hi => ?_, g2, g3⟩
      have hc : cellAt z p m i = cellAt z' p' m' i := by
        rcases Bool.or_eq_true_iff.1 h5 with q5 | q5
        · unfold sameTab at q5
          simp only [Bool.and_eq_true] at q5
          obtain ⟨⟨⟨h2, k5, h8⟩, h6⟩, h7⟩ := q5
          have e2 := Nat.eq_of_beq_eq_true h2
          have e6 := all2_eq (fun a b => beqA_eq) h6
          have k5 := Nat.le_of_ble_eq_true k5
          subst e2 e6
          cases p with
          | zero =>
            rcases Bool.or_eq_true_iff.1 h8 with h' | h'
            · rw [Nat.blt_eq] at h'; omega
            · have := Nat.eq_of_beq_eq_true h'; omega
          | succ p =>
            unfold cellAt
            rw [show keyOf (p + 1) i = i from rfl, eqTr_get h7 k5 hi]
        · exact sameCells_get (Bool.and_eq_true_iff.1 q5).2 (mem_rangeL.2 ⟨Nat.zero_le _, by omega⟩)
      rw [hc]
      exact g1 i hi
    | _ => cases h
  | rom z =>
    cases o' with
    | rom z' =>
      have e := all2_eq (fun a b => beqA_eq) (show all2 beqA z z' = true from h)
      subst e
      exact hr
    | _ => cases h
  | map es c =>
    cases o' with
    | map es' c' =>
      simp only [sameObj, Bool.and_eq_true] at h
      rw [Nat.eq_of_beq_eq_true h.1, sameME_eq h.2]
      exact hr
    | _ => cases h
  | _ => cases o' <;> cases h
end Go.AX
set_option linter.unusedVariables false
set_option linter.unusedSimpArgs false
namespace Go.AX
open Go
variable {P : Program} {σ σ' : Sg} {ρ ρ' : Ren} {s s' : St} {w w' : World}
attribute [local irreducible] keyOf

theorem TR.sg (hv : σ.v = σ'.v) {n : Nat} {t : Tm} {c : Array Value} (h : TR σ ρ n t c) : TR σ' ρ n t c := ⟨h.1, fun k => VR.sg hv _ (h.2 k)⟩
theorem ObjR.filled' {o : AObj} {b : Nat} {l : Loc} {x : Obj} (hl : ρ b = some l) (hx : w.heap[l.blk]? = some x) (h : ObjR P σ ρ b l o x) : ObjR P (fill σ ρ w) ρ b l o x := by
  cases o with
  | cells n z p m e ext => exact ObjR.filled rfl hl hx h
  | rom z => exact ObjR.filled rfl hl hx h
  | map es c => exact ObjR.filled rfl hl hx h
  | iter m _ _ _ => cases m <;> exact h
  | siter _ _ => exact h
  | loop st pe nt tm ps asg body df =>
    obtain ⟨fn, tmps, x', h1, h2, h3⟩ := h
    exact ⟨fn, tmps, x', TR.sg (σ := σ) (σ' := fill σ ρ w) rfl h1, h2, h3⟩
  | deferred => exact h
  | iterU _ _ _ _ => exact h
  | iterN _ _ _ => exact h.elim
  | iterE => exact h.elim
  | iterK _ _ _ _ _ _ => exact h
  | iterM _ _ _ _ => exact h.elim

theorem apply1_map {h : Q AObj} {u : (Nat × Nat) × AV} {b : Nat} {es : List ME} {c : Nat} (hb : h.get b = some (.map es c)) : (apply1 h u).get b = some (.map es c) := by
  unfold apply1
  split
  · rename_i n z p m e x hu
    rw [Q.get_set]
    split
    · rename_i he; rw [he, hu] at hb; cases hb
    · exact hb
  · exact hb
theorem applyAll_map {b : Nat} {es : List ME} {c : Nat} : ∀ {ups : Ups} {h : Q AObj}, h.get b = some (.map es c) → (applyAll ups h).get b = some (.map es c)
  | [], _, hb => hb
  | u :: l, h, hb => applyAll_map (ups := l) (apply1_map hb)

theorem VR_ids {nx : Nat} (hv : σ.v = σ'.v) (hs : ∀ b, b < nx → ρ' b = ρ b) {a : AV} {y : Value} (hi : idsLt nx a = true) (h : VR σ' ρ' a y) : VR σ ρ a y := by
  cases a with
  | bool _ => exact h
  | int _ _ => exact h
  | str _ => exact h
  | ptr b o =>
    obtain ⟨l, h1, h2⟩ := h
    have hb : b < nx := by simpa [idsLt, Nat.blt_eq] using hi
    exact ⟨l, by rw [← hs b hb]; exact h1, h2⟩
  | nilp => exact h
  | sl b o n c =>
    obtain ⟨l, c', h1, h2⟩ := h
    have hb : b < nx := by simpa [idsLt, Nat.blt_eq] using hi
    exact ⟨l, c', by rw [← hs b hb]; exact h1, h2⟩
  | nils => exact h
  | emp => cases hi
  | map b =>
    obtain ⟨l, h1, h2⟩ := h
    have hb : b < nx := by simpa [idsLt, Nat.blt_eq] using hi
    exact ⟨l, by rw [← hs b hb]; exact h1, h2⟩
  | nilm => exact h
  | func _ _ _ => cases hi
  | nilf => exact h
  | iface _ _ => cases hi
  | nili => exact h
  | agg _ => cases hi
  | tup _ => cases hi
  | sym _ => cases hi
  | key _ _ => cases hi
  | junk => cases hi

theorem DsR.back (hle : ρ.le ρ') : ∀ {ds : List Nat} {x y : List Deferred}, DsR ρ ds x → DsR ρ' ds y → DsR ρ ds y
  | [], _, _, _, e => e
  | d :: l, _, _, ⟨loc, rest, h1, _, h3⟩, ⟨loc', rest', g1, g2, g3⟩ => by
    have := hle _ _ h1
    rw [g1] at this
    cases this
    exact ⟨_, rest', h1, g2, DsR.back hle h3 g3⟩

theorem eqNats_eq : ∀ {a b : List Nat}, eqNats a b = true → a = b
  | [], [], _ => rfl
  | [], _ :: _, h => by cases h
  | _ :: _, [], h => by cases h
  | a :: l, b :: m, h => by
    obtain ⟨h1, h2⟩ := Bool.and_eq_true_iff.1 (show (Nat.beq a b && eqNats l m) = true from h)
    rw [Nat.eq_of_beq_eq_true h1, eqNats_eq h2]
theorem sameIds_get {h h' : Q AObj} : ∀ {l : List Nat}, sameIds h h' l = true → ∀ b ∈ l, ∃ o o', h.get b = some o ∧ h'.get b = some o' ∧ sameObj o o' = true
  | [], _, b, hb => absurd hb List.not_mem_nil
  | a :: l, hh, b, hb => by
    obtain ⟨h1, h2⟩ := Bool.and_eq_true_iff.1 (show ((match h.get a, h'.get a with | some o, some o' => sameObj o o' | _, _ => false) && sameIds h h' l) = true from hh)
    rcases List.mem_cons.1 hb with rfl | hb
    · split at h1
      · rename_i o o' g1 g2; exact ⟨o, o', g1, g2, h1⟩
      · cases h1
    · exact sameIds_get h2 b hb
theorem zip_fst_mem {c : List (Nat × Nat)} {vs : List AV} {u : (Nat × Nat) × AV} (h : u ∈ c.zip vs) : u.1 ∈ c := by
  obtain ⟨x, y⟩ := u
  exact (List.of_mem_zip h).1
theorem Q.get_eq_hi {m : Q AV} {i : Nat} : m.get (keyOf 0 i) = getHi m.hi (keyOf 0 i) := by
  have h : ¬ keyOf 0 i < 65536 := by
    have : keyOf 0 i = i + 65536 := by unfold keyOf; rfl
    omega
  unfold Q.get
  rw [EQ.of_hi h]
end Go.AX
set_option linter.unusedVariables false
set_option linter.unusedSimpArgs false
namespace Go.AX
open Go
variable {P : Program} {σ : Sg} {ρ : Ren} {s : St} {w w0 : World}
attribute [local irreducible] keyOf

/-- What is known of a loop's start. -/
structure LInv (P : Program) (σ : Sg) (ρ : Ren) (s : St) (w0 : World) (h : Hint) (h0 : Q AObj) (es : List ME) (U : ME → Ups) (r m since last clock : Nat) (lr lm : Loc) : Prop where
  rel : Rel P σ ρ s w0
  it : s.h.get r = some (.iter (some m) since [] last)
  mp : s.h.get m = some (.map es clock)
  lr : ρ r = some lr
  lm : ρ m = some lm
  part : partNodup h.part = true
  pick : pickH s.h h.ro (Q.e.set m (.map es clock)) = some h0
  hU : ∀ e ∈ es, ∀ u ∈ U e, u.1 ∈ cellsOf h.part e.k
  key : ∀ e ∈ es, ∃ n, natKey e.k = some n
  kinj : ∀ e ∈ es, ∀ e' ∈ es, natKey e.k = natKey e'.k → e = e'
  binj : ∀ a ∈ es, ∀ b ∈ es, a.born = b.born → a = b

variable {h : Hint} {h0 q : Q AObj} {es : List ME} {U : ME → Ups} {r m since last clock nt : Nat} {lr lm : Loc} {tj : Tm} {ds D : List Nat} {a : Act} {e : ME}

theorem notin_part {part : List (Nat × Nat)} {b : Nat} (hb : ∀ st, (b, st) ∉ part) (hU : ∀ e ∈ es, ∀ u ∈ U e, u.1 ∈ cellsOf part e.k) : ∀ u ∈ upsD es U D, u.1.1 ≠ b := by
  intro u hu e1
  obtain ⟨e, he, hue⟩ := List.mem_flatMap.1 hu
  obtain ⟨st, h1, _⟩ := cellsOf_mem (hU e (List.mem_filter.1 he).1 u hue)
  rw [e1] at h1
  exact hb st h1

/-- What a round's heap holds. -/
theorem LInv.round (L : LInv P σ ρ s w0 h h0 es U r m since last clock lr lm) (hq : partsH s.h e.k h.part h0 = some q) {b : Nat} {o : AObj} (hb : q.get b = some o) :
    (∃ st n z p mm el x m', (b, st) ∈ h.part ∧ s.h.get b = some (.cells n z p mm el x) ∧ partM z p mm n (footOf e.k st) Q.e = some m' ∧ o = .cells n [] 0 m' el x) ∨
    ((∀ st, (b, st) ∉ h.part) ∧ s.h.get b = some o ∧ (b = m ∨ b ∈ h.ro)) := by
  obtain ⟨g1, g2⟩ := partsH_get L.part hq b
  by_cases hp : ∃ st, (b, st) ∈ h.part
  · obtain ⟨st, hst⟩ := hp
    obtain ⟨n, z, p, mm, el, x, m', k1, k2, k3⟩ := g1 st hst
    rw [hb] at k3
    cases k3
    exact .inl ⟨st, n, z, p, mm, el, x, m', hst, k1, k2, rfl⟩
  · have hp' : ∀ st, (b, st) ∉ h.part := fun st hm => hp ⟨st, hm⟩
    refine .inr ⟨hp', ?_⟩
    rw [g2 hp'] at hb
    obtain ⟨p1, p2⟩ := pickH_get L.pick b
    by_cases hro : b ∈ h.ro
    · obtain ⟨o', k1, k2⟩ := p1 hro
      rw [hb] at k2
      cases k2
      exact ⟨k1, .inr hro⟩
    · rw [p2 hro, Q.get_set] at hb
      split at hb
      · rename_i he
        cases hb
        subst he
        exact ⟨L.mp, .inl rfl⟩
      · rw [Q.get_e] at hb; cases hb

theorem LInv.ne (L : LInv P σ ρ s w0 h h0 es U r m since last clock lr lm) {b : Nat} {o : AObj} {lb : Loc} (hb : s.h.get b = some o) (hl : ρ b = some lb) (hne : b ≠ r) : lb.blk ≠ lr.blk :=
  fun he => hne (L.rel.inj _ _ _ _ _ _ hb L.it hl L.lr he)
theorem LInv.rm (L : LInv P σ ρ s w0 h h0 es U r m since last clock lr lm) : m ≠ r := fun he => by
  have h1 := L.it
  have h2 := L.mp
  rw [he, h1] at h2
  cases h2

/-- Where an object lies in the world between rounds. -/
theorem LInv.at (L : LInv P σ ρ s w0 h h0 es U r m since last clock lr lm) (I : MInv P σ nt es U since r m lr lm tj ρ s w0 ds D a w) {b : Nat} {o : AObj} (hb : s.h.get b = some o) (hne : b ≠ r) :
    ∃ lb x, ρ b = some lb ∧ w.heap[lb.blk]? = some x ∧ lb.blk ≠ lr.blk ∧ ((∀ st, (b, st) ∉ h.part) → ObjR P σ ρ b lb o x) ∧
      (∀ n z p mm el ex, o = .cells n z p mm el ex → ObjR P σ ρ b lb (.cells n z p (after b p (upsD es U D) mm) el ex) x) := by
  have hin : ∃ o', (stD es U s r D).h.get b = some o' := by
    rw [stD_get, if_neg hne]
    cases hc : (applyAll (upsD es U D) s.h).get b with
    | some o' => exact ⟨o', rfl⟩
    | none =>
      exfalso
      cases o with
      | cells n z p mm el ex => rw [applyAll_cells hb] at hc; cases hc
      | _ =>
        have hk : ∀ (ups : Ups) (h1 : Q AObj) (o1 : AObj), h1.get b = some o1 → ∃ o2, (applyAll ups h1).get b = some o2 := by
          intro ups
          induction ups with
          | nil => intro h1 o1 g; exact ⟨o1, g⟩
          | cons u l ih =>
            intro h1 o1 g
            have : ∃ o3, (apply1 h1 u).get b = some o3 := by
              unfold apply1
              split
              · rw [Q.get_set]
                split
                · exact ⟨_, rfl⟩
                · exact ⟨_, g⟩
              · exact ⟨_, g⟩
            obtain ⟨o3, g3⟩ := this
            exact ih _ _ g3
        obtain ⟨o2, g2⟩ := hk (upsD es U D) s.h _ hb
        rw [hc] at g2; cases g2
  obtain ⟨o', ho'⟩ := hin
  obtain ⟨lb, x, h1, h2, h3⟩ := I.rel.obj b o' ho'
  refine ⟨lb, x, h1, h2, L.ne hb h1 hne, fun hp => ?_, fun n z p mm el ex he => ?_⟩
  · rw [stD_get, if_neg hne, applyAll_ne (notin_part hp L.hU), hb] at ho'
    cases ho'
    exact h3
  · subst he
    rw [stD_get, if_neg hne, applyAll_cells hb] at ho'
    cases ho'
    exact h3

/-- The state that a round begins with. -/
theorem LInv.begin (L : LInv P σ ρ s w0 h h0 es U r m since last clock lr lm) (I : MInv P σ nt es U since r m lr lm tj ρ s w0 ds D a w) (he : e ∈ es) (hD : e.born ∉ D) (hq : partsH s.h e.k h.part h0 = some q)
    {H : Q AObj} (hH : ∀ b, H.get b = if b = r then some (.iterU m since e.born clock) else q.get b) {w2 : World}
    (hw : w2.heap = w.heap.setIfInBounds lr.blk (.mapIter (some lm.blk) since (D ++ [e.born]).toArray clock)) : Rel P (fill σ ρ w) ρ ⟨H, s.nx⟩ w2 := by
  obtain ⟨lx, hlx, hit⟩ := I.it
  have hlt : lr.blk < w.heap.size := by
    rcases Nat.lt_or_ge lr.blk w.heap.size with h' | h'
    · exact h'
    · rw [Array.getElem?_eq_none h'] at hit; cases hit
  have hbase : lr.base = 0 := by
    obtain ⟨l', x, hl', _, hx⟩ := L.rel.obj _ _ L.it
    rw [L.lr] at hl'; cases hl'
    obtain ⟨_, _, hb, _⟩ := hx
    exact hb
  have hin : ∀ b o, H.get b = some o → ∃ o', s.h.get b = some o' := by
    intro b o hb
    rw [hH] at hb
    split at hb
    · rename_i e1; subst e1; exact ⟨_, L.it⟩
    · rcases L.round hq hb with ⟨st, n, z, p, mm, el, x, m', _, k, _⟩ | ⟨_, k, _⟩
      · exact ⟨_, k⟩
      · exact ⟨_, k⟩
  have hkeep : ∀ B, B ≠ lr.blk → w2.heap[B]? = w.heap[B]? := fun B hB => by rw [hw, Array.getElem?_setIfInBounds_ne (fun e => hB e.symm)]
  refine ⟨fun b o hb => ?_, fun b b' o o' l l' hb hb' hl hl' he => ?_, L.rel.fresh, L.rel.glob, fun b o hb => ?_⟩
  · rw [hH] at hb
    split at hb
    · rename_i e1
      subst e1
      cases hb
      refine ⟨lr, _, L.lr, ?_, lm, D, L.lm, hbase, rfl⟩
      rw [hw, Array.getElem?_setIfInBounds_self_of_lt hlt]
    · rename_i hne
      rcases L.round hq hb with ⟨st, n, z, p, mm, el, x, m', hst, k1, k2, rfl⟩ | ⟨hp, k1, k2⟩
      · obtain ⟨lb, y, g1, g2, g3, _, g5⟩ := L.at I k1 hne
        have g5 := g5 _ _ _ _ _ _ rfl
        refine ⟨lb, y, g1, (hkeep _ g3).trans g2, ?_⟩
        obtain ⟨c, fr, rfl, c1, c2, c3⟩ := g5
        refine ⟨c, fr, rfl, fun i hi => ?_, c2, c3⟩
        obtain ⟨v, hv, hr⟩ := c1 i hi
        refine ⟨v, hv, ?_⟩
        obtain ⟨p1, p2⟩ := partM_get k2 i
        by_cases hf : i ∈ footOf e.k st
        · obtain ⟨_, u, hu1, hu2⟩ := p1 hf
          have e1 : cellAt [] 0 m' i = some u := by unfold cellAt; rw [hu2]
          rw [cellAt_after, upsD_none L.hU L.part L.key L.kinj he hD hst hf] at hr
          dsimp only at hr
          rw [hu1] at hr
          rw [e1]
          exact VR.sg (σ := σ) (σ' := fill σ ρ w) rfl _ hr
        · have e1 : cellAt [] 0 m' i = none := by unfold cellAt; rw [p2 hf, Q.get_e]; simp
          rw [e1]
          exact (fill_cell g1 g2 hv).symm
      · obtain ⟨lb, y, g1, g2, g3, g4, _⟩ := L.at I k1 hne
        exact ⟨lb, y, g1, (hkeep _ g3).trans g2, ObjR.filled' g1 g2 (g4 hp)⟩
  · obtain ⟨_, h1⟩ := hin b o hb
    obtain ⟨_, h2⟩ := hin b' o' hb'
    exact L.rel.inj _ _ _ _ _ _ h1 h2 hl hl' he
  · obtain ⟨_, h1⟩ := hin b o hb
    exact L.rel.dom _ _ h1
end Go.AX
set_option linter.unusedVariables false
set_option linter.unusedSimpArgs false
namespace Go.AX
open Go
variable {P : Program} {σ : Sg} {ρ ρ1 : Ren} {s s1 : St} {w w0 w1 w2 : World}
attribute [local irreducible] keyOf
variable {h : Hint} {h0 q : Q AObj} {es : List ME} {U : ME → Ups} {r m since last clock nt : Nat} {lr lm : Loc} {tj t1 : Tm} {ds ds1 D : List Nat} {a a1 : Act} {e : ME}

theorem LInv.finish (L : LInv P σ ρ s w0 h h0 es U r m since last clock lr lm) (I : MInv P σ nt es U since r m lr lm tj ρ s w0 ds D a w) (he : e ∈ es) (hD : e.born ∉ D) (hq : partsH s.h e.k h.part h0 = some q)
    {H : Q AObj} (hH : ∀ b, H.get b = if b = r then some (.iterU m since e.born clock) else q.get b)
    (hw : w2.heap = w.heap.setIfInBounds lr.blk (.mapIter (some lm.blk) since (D ++ [e.born]).toArray clock)) (hos : w2.os = w.os) (hout : w2.output = w.output) (htp : w2.tape = w.tape) (hsc : since ≤ clock)
    {vs : List AV} (hUe : U e = (cellsOf h.part e.k).zip vs) {keep : List Tmp}
    (hR1 : Rel P (fill σ ρ w) ρ1 s1 w1) (hT1 : TR (fill σ ρ w) ρ1 nt t1 a1.tmps) (hD1 : DsR ρ1 ds1 a1.defers) (ho : Own ρ ρ1 ⟨H, s.nx⟩ s1 w2) (hf : Frm ρ ⟨H, s.nx⟩ w2 w1)
    (htj : ∀ k, k ∉ keep → tget tj k = .junk) (hds : ds = ds1) (htm : sameTm keep tj t1 = true) (hid : sameIds s.h s1.h (m :: h.ro) = true) (hnp : newParts s.h s1.h s.nx e.k h.part = some vs) :
    MInv P σ nt es U since r m lr lm tj ρ s w0 ds (D ++ [e.born]) a1 w1 := by
  obtain ⟨lx, hlx, hit⟩ := I.it
  have hlt : lr.blk < w.heap.size := by
    rcases Nat.lt_or_ge lr.blk w.heap.size with h' | h'
    · exact h'
    · rw [Array.getElem?_eq_none h'] at hit; cases hit
  have hkeep : ∀ B, B ≠ lr.blk → w2.heap[B]? = w.heap[B]? := fun B hB => by rw [hw, Array.getElem?_setIfInBounds_ne (fun e => hB e.symm)]
  have hsz : w2.heap.size = w.heap.size := by rw [hw, Array.size_setIfInBounds]
  -- what the round's state owns
  have hown : ∀ b o, H.get b = some o → o.isRom = false → b ≠ r ∧ ∃ o0, s.h.get b = some o0 ∧ o0.isRom = false := by
    intro b o hb hr
    rw [hH] at hb
    split at hb
    · cases hb; cases hr
    · rename_i hne
      refine ⟨hne, ?_⟩
      rcases L.round hq hb with ⟨st, n, z, p, mm, el, x, m', _, k, _⟩ | ⟨_, k, _⟩
      · exact ⟨_, k, rfl⟩
      · exact ⟨_, k, hr⟩
  have hstep : ∀ B, B < w.heap.size → B ≠ lr.blk → (∀ b o l, H.get b = some o → o.isRom = false → ρ b = some l → l.blk ≠ B) → w1.heap[B]? = w.heap[B]? := fun B hB hne hno =>
    (hf.keep B (by rw [hsz]; exact hB) hno).trans (hkeep B hne)
  have hitr : w1.heap[lr.blk]? = some (.mapIter (some lm.blk) since (D ++ [e.born]).toArray clock) := by
    rw [hf.keep lr.blk (by rw [hsz]; exact hlt) ?_, hw, Array.getElem?_setIfInBounds_self_of_lt hlt]
    intro b o l hb hr hl he
    obtain ⟨hne, o0, h1, _⟩ := hown b o hb hr
    exact L.ne h1 hl hne he
  obtain ⟨_, hpart⟩ := newParts_get hnp L.part
  refine ⟨⟨fun b o hb => ?_, fun b b' o o' l l' hb hb' hl hl' he => ?_, L.rel.fresh, L.rel.glob, fun b o hb => ?_⟩, ⟨clock, hsc, hitr⟩, ⟨?_, fun B hB hno => ?_, ?_, ?_, ?_⟩, ⟨hT1.1, fun k => ?_⟩, ?_, ?_, ?_⟩
  · obtain ⟨hne, o0, h1, h2⟩ := stD_some hb
    obtain ⟨lb, y, g1, g2, g3, g4, g5⟩ := L.at I h1 hne
    have hlt' : lb.blk < w.heap.size := by
      rcases Nat.lt_or_ge lb.blk w.heap.size with h' | h'
      · exact h'
      · rw [Array.getElem?_eq_none h'] at g2; cases g2
    rw [stD_get, if_neg hne] at hb
    by_cases hp : ∃ st, (b, st) ∈ h.part
    · obtain ⟨st, hst⟩ := hp
      obtain ⟨n, z, p, mm, el, x, m'', k1, k2, k3, k4⟩ := hpart b st hst
      rw [applyAll_cells k1] at hb
      cases hb
      have g5 := g5 n z p mm el x (by rw [h1] at k1; cases k1; rfl)
      obtain ⟨c0, fr0, rfl, c1, c2, c3⟩ := g5
      obtain ⟨lb', y', q1, q2, q3⟩ := hR1.obj _ _ k2
      rw [ho.le _ _ g1] at q1
      cases q1
      obtain ⟨c, fr, rfl, d1, d2, d3⟩ := q3
      refine ⟨lb, _, g1, q2, c, fr, rfl, fun i hi => ?_, d2, d3⟩
      obtain ⟨y0, hy0, hr0⟩ := c1 i hi
      obtain ⟨y1, hy1, hr1⟩ := d1 i hi
      refine ⟨y1, hy1, ?_⟩
      obtain ⟨s1', s2'⟩ := upsD_step (D := D) (i := i) L.hU L.part L.key L.kinj L.binj he hst
      rw [cellAt_after]
      by_cases hfo : i ∈ footOf e.k st
      · obtain ⟨v, v1, v2, v3⟩ := k4 i hfo
        rw [s2' hfo v (by rw [hUe]; exact v3)]
        dsimp only
        have e1 : cellAt [] 0 m'' i = some v := by unfold cellAt; rw [← partGet_eq, v1]
        rw [e1] at hr1
        exact VR_ids (σ := σ) (σ' := fill σ ρ w) rfl (fun b hb => ho.same b hb) v2 hr1
      · rw [s1' hfo]
        have e1 : cellAt [] 0 m'' i = none := by unfold cellAt; rw [Q.get_eq_hi, getHi_out hfo k3]; simp
        rw [e1] at hr1
        dsimp only at hr1
        rw [fill_cell g1 g2 hy0] at hr1
        rw [cellAt_after] at hr0
        rw [hr1]
        exact hr0
    · have hp' : ∀ st, (b, st) ∉ h.part := fun st hm => hp ⟨st, hm⟩
      rw [applyAll_ne (notin_part hp' L.hU), h1] at hb
      cases hb
      by_cases hro : b ∈ m :: h.ro
      · obtain ⟨o1, o2, k1, k2, k3⟩ := sameIds_get hid b hro
        rw [h1] at k1
        cases k1
        obtain ⟨lb', y', q1, q2, q3⟩ := hR1.obj _ _ k2
        rw [ho.le _ _ g1] at q1
        cases q1
        exact ⟨lb, y', g1, q2, ObjR.back (sameObj_still k3) ho.le g1 g2 (g4 hp') (sameObj_R k3 q3)⟩
      · refine ⟨lb, y, g1, ?_, g4 hp'⟩
        rw [hstep lb.blk hlt' g3 ?_]
        · exact g2
        · intro b' o' l' hb' hr' hl' he'
          obtain ⟨hne', o0', k1, _⟩ := hown b' o' hb' hr'
          have := L.rel.inj _ _ _ _ _ _ k1 h1 hl' g1 he'
          subst this
          rw [hH, if_neg hne] at hb'
          rcases L.round hq hb' with ⟨st, _, _, _, _, _, _, _, k, _⟩ | ⟨_, _, k⟩
          · exact hp' st k
          · rcases k with rfl | k
            · exact hro (List.mem_cons_self ..)
            · exact hro (List.mem_cons_of_mem _ k)
  · obtain ⟨_, _, h1, _⟩ := stD_some hb
    obtain ⟨_, _, h2, _⟩ := stD_some hb'
    exact L.rel.inj _ _ _ _ _ _ h1 h2 hl hl' he
  · obtain ⟨_, _, h1, _⟩ := stD_some hb
    exact L.rel.dom _ _ h1
  · have h1 := I.frm.size
    have h2 := hf.size
    omega
  · have hne : B ≠ lr.blk := fun e1 => hno r _ lr L.it rfl L.lr e1.symm
    rw [hstep B (Nat.lt_of_lt_of_le hB I.frm.size) hne ?_]
    · exact I.frm.keep B hB hno
    · intro b o l hb hr hl
      obtain ⟨_, o0, k1, k2⟩ := hown b o hb hr
      exact hno b o0 l k1 k2 hl
  · rw [hf.os, hos, I.frm.os]
  · rw [hf.out, hout, I.frm.out]
  · rw [hf.tape, htp, I.frm.tape]
  · by_cases hk : k ∈ keep
    · have e1 := beqA_eq (List.all_eq_true.1 htm k hk)
      have h1 := hT1.2 k
      rw [← e1] at h1
      exact VR.back (σ := σ) (σ' := fill σ ρ w) rfl ho.le _ (I.tm.2 k) h1
    · rw [htj k hk]; trivial
  · rw [← hds] at hD1
    exact DsR.back ho.le I.dfr hD1
  · rw [List.nodup_append]
    refine ⟨I.nodup, by simp, fun x hx y hy => ?_⟩
    simp only [List.mem_singleton] at hy
    subst hy
    intro e1
    exact hD (e1 ▸ hx)
  · intro d hd
    rcases List.mem_append.1 hd with hd | hd
    · exact I.sub d hd
    · simp only [List.mem_singleton] at hd
      exact ⟨e, he, hd.symm⟩
end Go.AX
set_option linter.unusedVariables false
set_option linter.unusedSimpArgs false
namespace Go.AX
open Go
variable {P : Program} {σ : Sg} {ρ : Ren} {s : St} {w : World}
attribute [local irreducible] keyOf

theorem pround_get {ib : FCode} {self : Self} {rd : Option Nat} {h : Hint} {h0 : Q AObj} {keep : List Tmp} {tj : Tm} {ds : List Nat} {r m since clock : Nat} {e : ME} {u : Ups}
    (hp : pround ib self rd h h0 keep tj s ds r m since clock e = some u) : ∃ q vs sE, partsH s.h e.k h.part h0 = some q ∧
      ib.run self rd tj ⟨q.set r (.iterN m since e.born), s.nx⟩ ds (kround h keep tj s ds r m since clock e) = .ok (.tup vs) sE ∧ u = (cellsOf h.part e.k).zip vs := by
  unfold pround at hp
  split at hp
  · rename_i q hq
    split at hp
    · rename_i vs sE hr
      cases hp
      exact ⟨q, vs, sE, hq, hr, rfl⟩
    · cases hp
  · cases hp

theorem xNext_N {H : Q AObj} {nx r m since stamp clock : Nat} {es : List ME} {e : ME} (hr : H.get r = some (.iterN m since stamp)) (hm : H.get m = some (.map es clock)) (hf : es.find? (fun e => Nat.beq e.born stamp) = some e) :
    xNext ⟨H, nx⟩ (.ptr r 0) false = .val (.tup [.bool true, e.k, e.v]) ⟨H.set r (.iterU m since stamp clock), nx⟩ := by
  simp only [xNext, hr, hm, hf]
  rfl
theorem xNext_E {H : Q AObj} {nx r : Nat} (hr : H.get r = some .iterE) : xNext ⟨H, nx⟩ (.ptr r 0) false = .val (.tup [.bool false]) ⟨H.del r, nx⟩ := by
  simp only [xNext, hr]

theorem ploop_ok {self : Self} (hA : ∀ σ, Plain σ → SelfOK P σ self) (hN : NoNum P) (hσ : Plain σ) {nt : Nat} {id : Nat} {ops : Array Oper} {rest : Code} (hrest : ∀ σ, Plain σ → CodeOK P σ self nt rest (fcode P nt rest))
    {o0 : Oper} {l : List Oper} {it : Tmp} (hl : ops.toList = o0 :: l) (hop : o0.op = .next (.tmp it) false) (hg : o0.guard = none) {h : Hint} {r o : Nat} {keep : List Tmp} {rd rdc : Option Nat} {t : Tm} {ds : List Nat} {k : K} {v : AV} {sE : St}
    (hrun : ploop (fcode P nt (.seq (.region id ops false) rest)) keep h r self rd k t s ds = .ok v sE) (hit : tget t it = .ptr r o) {a : Act} {n : Nat} {QQ : Exit → Act → World → Prop}
    (hR : Rel P σ ρ s w) (hT : TR σ ρ nt t a.tmps) (hrd : RdR ρ rd rdc) (hD : DsR ρ ds a.defers) (hmu : self.mu = false) (hk : KOKm P σ self.mu nt k v sE QQ ρ s w) :
    (Code.loop (.seq (.region id ops false) rest)).wpIn (Fd rdc) n P QQ a w := by
  unfold ploop at hrun
  split at hrun
  case h_2 => cases hrun
  rename_i m since last hsr
  split at hrun
  case h_2 => cases hrun
  rename_i es clock hsm
  split at hrun
  case h_2 => cases hrun
  rename_i h0 hb hpick
  split at hrun
  case h_2 => cases hrun
  rename_i ups hups
  obtain ⟨hb1, hb3⟩ := Bool.and_eq_true_iff.1 hb
  obtain ⟨hb1, hb2⟩ := Bool.and_eq_true_iff.1 hb1
  have hsc : since ≤ clock := Nat.le_of_ble_eq_true hb2
  obtain ⟨hsl, hkb, hbinj, hkinj⟩ := headOK_get hb1
  obtain ⟨hrounds, hupsE⟩ := prounds_get hups
  obtain ⟨lr, xr, hlr, hxr, hor⟩ := hR.obj _ _ hsr
  obtain ⟨lm, hlm, hbase, rfl⟩ := hor
  obtain ⟨lm', xm, hlm', hxm, hom⟩ := hR.obj _ _ hsm
  rw [hlm] at hlm'; cases hlm'
  generalize hf : pround (fcode P nt (.seq (.region id ops false) rest)) self rd h h0 keep (only keep t) s ds r m since clock = f at *
  have hUe : ∀ e ∈ es, ∃ q vs sE, partsH s.h e.k h.part h0 = some q ∧
      (fcode P nt (.seq (.region id ops false) rest)).run self rd (only keep t) ⟨q.set r (.iterN m since e.born), s.nx⟩ ds (kround h keep (only keep t) s ds r m since clock e) = .ok (.tup vs) sE ∧ (f e).getD [] = (cellsOf h.part e.k).zip vs := by
    intro e he
    obtain ⟨u, hu⟩ := hrounds e he
    rw [← hf] at hu
    obtain ⟨q, vs, sE, g1, g2, g3⟩ := pround_get hu
    refine ⟨q, vs, sE, g1, g2, ?_⟩
    rw [← hf, hu]
    exact g3
  have L : LInv P σ ρ s w h h0 es (fun e => (f e).getD []) r m since last clock lr lm := by
    refine ⟨hR, hsr, hsm, hlr, hlm, hb3, hpick, fun e he u hu => ?_, fun e he => (hkb e he).2, hkinj, hbinj⟩
    obtain ⟨q, vs, sE, _, _, g3⟩ := hUe e he
    rw [g3] at hu
    exact zip_fst_mem hu
  have hmr : m ≠ r := L.rm
  have htj : ∀ k, k ∉ keep → tget (only keep t) k = .junk := fun k hk => by rw [only_get, if_neg hk]
  have hTj : TR σ ρ nt (only keep t) a.tmps := ⟨hT.1, fun k => by
    rw [only_get]
    split
    · exact hT.2 k
    · trivial⟩
  -- the iterator's place
  have hplace : ∀ {S : St} {u : AV} {s1 : St}, xNext S (tget (only keep t) it) false = .val u s1 → it ∈ keep ∧ o = 0 := by
    intro S u s1 hx
    rw [only_get] at hx
    split at hx
    · rename_i hk
      rw [hit] at hx
      refine ⟨hk, ?_⟩
      unfold xNext at hx
      split at hx
      · rename_i e1; cases e1; rfl
      · cases hx
    · cases hx
  have hin0 : MInv P σ nt es (fun e => (f e).getD []) since r m lr lm (only keep t) ρ s w ds [] a w := by
    refine ⟨?_, ⟨last, hsl, hxr⟩, Frm.refl _ _ _, hTj, hD, List.nodup_nil, fun d hd => absurd hd List.not_mem_nil⟩
    refine Rel.sub hR (fun b o' hb => ?_) rfl
    rw [stD_get] at hb
    split at hb
    · cases hb
    · have : upsD es (fun e => (f e).getD []) [] = [] := by unfold upsD; simp
      rw [this] at hb
      exact hb
  have main : ∀ (j : Nat) (D : List Nat) (a1 : Act) (w1 : World), MInv P σ nt es (fun e => (f e).getD []) since r m lr lm (only keep t) ρ s w ds D a1 w1 → es.length < D.length + j →
      Code.roundsIn (Fd rdc) n P (.seq (.region id ops false) rest) QQ j a1 w1 := by
    intro j
    induction j with
    | zero =>
      intro D a1 w1 I hlen
      exfalso
      have := nodup_le (m := es.map (·.born)) I.nodup fun x hx => by
        obtain ⟨e, he, h1⟩ := I.sub x hx
        exact List.mem_map.2 ⟨e, he, h1⟩
      rw [List.length_map] at this
      omega
    | succ j ih =>
      intro D a1 w1 I hlen
      rw [roundsIn_succ]
      obtain ⟨lx, hlx, hitw⟩ := I.it
      obtain ⟨lm2, xm2, g1, g2, g3, _, _⟩ := L.at I hsm hmr
      rw [hlm] at g1; cases g1
      have hmw : ∃ ml, MEL σ ρ es ml ∧ w1.heap[lm.blk]? = some (.map ml.toArray clock) := by
        have hget : (stD es (fun e => (f e).getD []) s r D).h.get m = some (.map es clock) := by
          rw [stD_get, if_neg hmr]
          exact applyAll_map hsm
        obtain ⟨l', x', q1, q2, ml, q3, rfl⟩ := I.rel.obj _ _ hget
        rw [hlm] at q1; cases q1
        exact ⟨ml, q3, q2⟩
      obtain ⟨ml, hml, hmw⟩ := hmw
      have hborn : ∀ x ∈ ml, x.born < since := fun x hx => by
        obtain ⟨e, he, h1⟩ := MEL_mem hml x hx
        rw [h1.2.2]
        exact (hkb e he).1
      obtain ⟨wd, d1, d2, d3, d4, hcase⟩ := next_any (P := P) hitw hmw hborn hlx o0.type
      have heval : it ∈ keep ∧ o = 0 → a1.eval (.tmp it) = .pointer (some ⟨lr.blk, 0, none⟩) := by
        intro ⟨hk1, ho⟩
        have := I.tm.2 it
        rw [only_get, if_pos hk1, hit, ho] at this
        obtain ⟨l', q1, q2⟩ := this
        rw [hlr] at q1; cases q1
        have e1 : a1.eval (.tmp it) = a1.tmps.getD it undef := rfl
        rw [e1, q2, hbase]
      rcases hcase with ⟨x, hx, hxD, hnext⟩ | ⟨hall, hnext⟩
      · obtain ⟨e, he, hm1, hm2, hm3⟩ := MEL_mem hml x hx
        rw [hm3] at hxD hnext
        obtain ⟨q, vs, sE1, hq, hgo, hu⟩ := hUe e he
        obtain ⟨hall, u, s1, hxn, hreg⟩ := head_run hl hop hg hgo
        have hpl := hplace hxn
        -- what the executor's step gives
        have hqm : q.get m = some (.map es clock) := by
          have hnp : ∀ st, (m, st) ∉ h.part := fun st hm => by
            obtain ⟨n, z, p, mm, el, xx, m', k1, _⟩ := (partsH_get L.part hq m).1 st hm
            rw [hsm] at k1; cases k1
          rw [(partsH_get L.part hq m).2 hnp]
          obtain ⟨p1, p2⟩ := pickH_get hpick m
          by_cases hro : m ∈ h.ro
          · obtain ⟨o', k1, k2⟩ := p1 hro
            rw [hsm] at k1; cases k1
            exact k2
          · rw [p2 hro, Q.get_set, if_pos rfl]
        have hxe : u = .tup [.bool true, e.k, e.v] ∧ s1 = ⟨(q.set r (.iterN m since e.born)).set r (.iterU m since e.born clock), s.nx⟩ := by
          rw [only_get, if_pos hpl.1, hit, hpl.2] at hxn
          rw [xNext_N (by rw [Q.get_set, if_pos rfl]) (by rw [Q.get_set, if_neg hmr]; exact hqm) (find_born he hbinj)] at hxn
          cases hxn
          exact ⟨rfl, rfl⟩
        obtain ⟨rfl, rfl⟩ := hxe
        have hσ' : Plain (fill σ ρ w1) := hσ
        have hH : ∀ b, ((q.set r (.iterN m since e.born)).set r (.iterU m since e.born clock)).get b = if b = r then some (.iterU m since e.born clock) else q.get b := by
          intro b
          rw [Q.get_set, Q.get_set]
          split <;> rfl
        have hwd : ({ wd with heap := wd.heap.setIfInBounds lr.blk (.mapIter (some lm.blk) since (D ++ [e.born]).toArray clock) } : World).heap = w1.heap.setIfInBounds lr.blk (.mapIter (some lm.blk) since (D ++ [e.born]).toArray clock) := by
          show wd.heap.setIfInBounds _ _ = _
          rw [d1]
        have hbeg := L.begin I he hxD hq hH hwd
        refine head_ok (hA _ hσ') hN hσ' (hrest _ hσ') hl hop hg hall hreg (by rw [heval hpl]; exact hnext) ?_ hbeg (TR.sg (σ := σ) (σ' := fill σ ρ w1) rfl I.tm) hrd I.dfr ?_
        · exact ⟨[.bool true, x.key, x.val], ⟨_, _, rfl, rfl, _, _, rfl, VR.sg (σ := σ) (σ' := fill σ ρ w1) rfl _ hm1, _, _, rfl, VR.sg (σ := σ) (σ' := fill σ ρ w1) rfl _ hm2, rfl⟩, rfl⟩
        · intro v' s' hv xx ρ1 t1 s1 ds1 w2 a2 hkr hR1 hT1 hD1 ho1 hf1
          obtain ⟨rfl, rfl⟩ : v' = _ ∧ s' = _ := hv.resolve_left (by rw [hmu]; simp)
          unfold kround at hkr
          split at hkr
          · split at hkr
            · rename_i vs' hc hnp
              cases hkr
              obtain ⟨hc1, hc4⟩ := Bool.and_eq_true_iff.1 hc
              obtain ⟨hc1, hc3⟩ := Bool.and_eq_true_iff.1 hc1
              obtain ⟨hc1, hc2⟩ := Bool.and_eq_true_iff.1 hc1
              have I' := L.finish I he hxD hq hH hwd d2 d3 d4 hsc hu hR1 hT1 hD1 ho1 hf1 htj (eqNats_eq hc1) hc2 hc3 hnp
              exact ih (D ++ [e.born]) a2 w2 I' (by rw [List.length_append]; simp only [List.length_singleton]; omega)
            · cases hkr
          · cases hkr
      · obtain ⟨hall', u, s1, hxn, hreg⟩ := head_run hl hop hg (show (fcode P nt (.seq (.region id ops false) rest)).run self rd (only keep t) ⟨(applyAll ups s.h).set r .iterE, s.nx⟩ ds (kend k) = .ok v sE from hrun)
        have hpl := hplace hxn
        have hxe : u = .tup [.bool false] ∧ s1 = ⟨((applyAll ups s.h).set r .iterE).del r, s.nx⟩ := by
          rw [only_get, if_pos hpl.1, hit, hpl.2] at hxn
          rw [xNext_E (by rw [Q.get_set, if_pos rfl])] at hxn
          cases hxn
          exact ⟨rfl, rfl⟩
        obtain ⟨rfl, rfl⟩ := hxe
        have hfil : (es.filter fun e => D.contains e.born) = es := by
          rw [List.filter_eq_self]
          intro e he
          obtain ⟨x, hx, h1⟩ := MEL_mem' hml e he
          have := hall x hx
          rw [h1.2.2] at this
          simpa using this
        have hupsD : upsD es (fun e => (f e).getD []) D = ups := by
          unfold upsD
          rw [hfil, ← hupsE]
        have hgets : ∀ b, (((applyAll ups s.h).set r .iterE).del r).get b = (stD es (fun e => (f e).getD []) s r D).h.get b := by
          intro b
          rw [stD_get, Q.get_del, Q.get_set, hupsD]
          split
          · rfl
          · rfl
        have hR1 : Rel P σ ρ ⟨((applyAll ups s.h).set r .iterE).del r, s.nx⟩ wd := by
          have := Rel.congr I.rel (s' := ⟨((applyAll ups s.h).set r .iterE).del r, s.nx⟩) hgets rfl
          exact ⟨fun b o' hb => by rw [d1]; exact this.obj b o' hb, this.inj, this.fresh, this.glob, this.dom⟩
        have hO : Own ρ ρ s ⟨((applyAll ups s.h).set r .iterE).del r, s.nx⟩ w := by
          have hO := stD_own (ρ := ρ) (w := w) (es := es) (U := fun e => (f e).getD []) (s := s) (r := r) (D := D)
          exact ⟨hO.le, Nat.le_refl _, fun b o' l' hb => hO.own b o' l' ((hgets b).symm.trans hb), fun _ _ => rfl, fun b o' l' hb => hO.all b o' l' ((hgets b).symm.trans hb)⟩
        have hF : Frm ρ s w wd := ⟨by rw [d1]; exact I.frm.size, fun B hB hno => by rw [d1]; exact I.frm.keep B hB hno, d2.trans I.frm.os, d3.trans I.frm.out, d4.trans I.frm.tape⟩
        refine head_ok (hA _ hσ) hN hσ (hrest _ hσ) hl hop hg hall' hreg (by rw [heval hpl]; exact hnext) ?_ hR1 I.tm hrd I.dfr ?_
        · exact ⟨[.bool false], ⟨_, _, rfl, rfl, rfl⟩, rfl⟩
        · intro v' s' hv xx ρ1 t1 s1 ds1 w2 a2 hkr hR2 hT2 hD2 ho2 hf2
          unfold kend at hkr
          have hk' := (hk v' s' hv).trans hO hF
          cases xx with
          | norm => cases hkr
          | ret => exact hk' .ret ρ1 t1 s1 ds1 w2 a2 hkr hR2 hT2 hD2 ho2 hf2
          | exit id' => exact hk' (.exit id') ρ1 t1 s1 ds1 w2 a2 hkr hR2 hT2 hD2 ho2 hf2
  exact wpIn_loop_rounds (es.length + 1) (main (es.length + 1) [] a w hin0 (by simp))
end Go.AX
