/- What the executor answers, the machine does; facts on calls. -/
import Derived.Test.YtlflbbgilgjghaaGreatDoorAxc
set_option linter.all false
set_option linter.unusedVariables false
set_option linter.unusedSimpArgs false
set_option linter.unusedVariables false
set_option linter.unusedSimpArgs false
namespace Go.AX
open Go
variable {P : Program} {σ : Sg} {ρ : Ren} {s : St} {w : World}

/-- A block that is no row of cells is turned, and given up. -/
theorem Rel.drop (hR : Rel P σ ρ s w) {b : Nat} {o0 : AObj} {l : Loc} {x : Obj} (hb : s.h.get b = some o0) (hr : o0.isRom = false) (hl : ρ b = some l) :
    Rel P σ ρ ⟨s.h.del b, s.nx⟩ { w with heap := w.heap.setIfInBounds l.blk x } ∧ Own ρ ρ s ⟨s.h.del b, s.nx⟩ w ∧ Frm ρ s w { w with heap := w.heap.setIfInBounds l.blk x } := by
  have hk : ∀ B, B ≠ l.blk → ({ w with heap := w.heap.setIfInBounds l.blk x } : World).heap[B]? = w.heap[B]? := fun B hB => by
    simp only []
    rw [Array.getElem?_setIfInBounds_ne (Ne.symm hB)]
  have hdel : ∀ b' o, (s.h.del b).get b' = some o → b' ≠ b ∧ s.h.get b' = some o := fun b' o h => by
    rw [Q.get_del] at h
    split at h
    · cases h
    · exact ⟨by assumption, h⟩
  refine ⟨⟨fun b' o h => ?_, fun b1 b2 o1 o2 l1 l2 h1 h2 => hR.inj _ _ _ _ _ _ (hdel _ _ h1).2 (hdel _ _ h2).2, hR.fresh, hR.glob, fun b' o h => hR.dom _ _ (hdel _ _ h).2⟩,
    Own.sub (fun b' o h => (hdel b' o h).2) rfl, Frm.put hb hr hl hk (by simp) rfl rfl rfl⟩
  obtain ⟨hne, h⟩ := hdel _ _ h
  obtain ⟨l', x', hl', hx', hr'⟩ := hR.obj _ _ h
  exact ⟨l', x', hl', by rw [hk _ (fun e => hne (hR.inj _ _ _ _ _ _ h hb hl' hl e))]; exact hx', hr'⟩

section code
variable {self : Self} (hS : SelfOK P σ self) (hN : NoNum P) (hm : P.follows .mixedOrders = true) (hσ : Plain σ)
include hS hN hm hσ

theorem endRange_ok {nt l : Nat} {ds : List Nat} {t : Tm} {k : K} {v : AV} {sE : St} {rdc : Option Nat} {n : Nat} {Q : Exit → Act → World → Prop} {a : Act} {x : Loc} (h : endRange l ds t s k = .ok v sE) (hR : Rel P σ ρ s w)
    (hT : TR σ ρ nt t a.tmps) (hD : DsR ρ ds a.defers) (hl : ρ l = some x) (hk : KOK P σ nt k v sE Q ρ s w) (cv : Value) :
    rangePost (Fd rdc) n P x.blk Q a (.returned cv) w := by
  unfold endRange at h
  split at h
  · cases h
  · rename_i st pe nt' tm ps asg body df hst hb
    obtain ⟨l', o, hl', ho, fn, tmps, x', htm, hdf, rfl⟩ := hR.obj _ _ hb
    rw [hl] at hl'; cases hl'
    have hn : ∀ c e f, (Obj.loop { state := st, pending := pe, fn := fn, tmps := tmps, params := ps.toArray, assign := asg, body := body, defers := x'.blk }) ≠ .cells c e f := fun _ _ _ => by simp
    have hend : (Instr.endLoop x.blk).run P w = .ok pe { w with heap := w.heap.setIfInBounds x.blk (.loop { state := .exhausted, pending := pe, fn := fn, tmps := tmps, params := ps.toArray, assign := asg, body := body, defers := x'.blk }) } := by
      have hst2 : ¬ st = LoopState.busy := hst
      simp [Instr.endLoop, Instr.getLoop, getObj_run ho hn, setObj_run ho hn, hst2]
    obtain ⟨g1, g2, g3⟩ := hR.drop (x := .loop { state := .exhausted, pending := pe, fn := fn, tmps := tmps, params := ps.toArray, assign := asg, body := body, defers := x'.blk }) hb rfl hl
    refine ⟨pe, _, hend, ?_⟩
    split at h
    · exact hk .norm ρ t _ ds _ a h g1 hT hD g2 g3
    · exact wpIn_ret (hk .ret ρ t _ ds _ a h g1 hT hD g2 g3)
    · exact wpIn_exit (hk (.exit _) ρ t _ ds _ a h g1 hT hD g2 g3)
    · cases h
  · cases h

theorem callRange_ok {nt l : Nat} {f : Operand} {ds : List Nat} {t : Tm} {k : K} {v : AV} {sE : St} {rdc : Option Nat} {n : Nat} {Q : Exit → Act → World → Prop} {a a' : Act} {x : Loc} (h : callRange P f l ds self t s k = .ok v sE) (hR : Rel P σ ρ s w)
    (hT : TR σ ρ nt t a.tmps) (ha : a'.tmps = a.tmps) (hD : DsR ρ ds a'.defers) (hl : ρ l = some x) (hk : KOK P σ nt k v sE Q ρ s w) :
    ∃ d f' args, (resolve a.eval (rangeCall f x.blk) 0).run P w = .ok d w ∧ (invoke d.target d.args).run P w = .ok (.enter f' args) w ∧ CallsIn (Fd rdc) (n - 1) P f' args w (rangePost (Fd rdc) n P x.blk Q a') := by
  unfold callRange at h
  split at h
  · rename_i g first cap he
    have hv := evalA_VR hR hT f
    rw [he] at hv
    obtain ⟨fn', fx, fy, hf, hx, hy, e⟩ := hv
    have hargs : VRL σ ρ (first ++ [AV.func (.yield l) [] []]) (fx ++ [Value.func (.yield x.blk) #[] #[]]) :=
      VRL.append hx ⟨_, [], rfl, ⟨.yield x.blk, [], [], ⟨x, hl, rfl⟩, rfl, rfl, rfl⟩, rfl⟩
    have ho := invokeA_outc (s := s) hN hR (args := first ++ [AV.func (.yield l) [] []]) (cargs := (fx ++ [Value.func (.yield x.blk) #[] #[]]).toArray) hf (by simpa using hargs) (ccap := fy.toArray) (by simpa using hy)
    split at h
    · rename_i f' args hi
      rw [hi] at ho
      obtain ⟨cargs, hres, hca⟩ := ho
      refine ⟨⟨.fn fn' fy.toArray, (fx ++ [Value.func (.yield x.blk) #[] #[]]).toArray⟩, f', cargs, ?_, hres, ?_⟩
      · have ea : (#[Operand.const (Value.func (.yield x.blk) #[] #[])] : Array Operand).map a.eval = #[Value.func (.yield x.blk) #[] #[]] := by simp [Act.eval]
        have e9 : fx.toArray ++ #[Value.func (.yield x.blk) #[] #[]] = (fx ++ [Value.func (.yield x.blk) #[] #[]]).toArray := by apply Array.ext'; simp
        simp only [resolve, rangeCall, ea, e, Deferred.ofValue, Sem.run_pure, e9]
      · cases hc : self.call f' args s with
        | bad => rw [hc] at h; cases h
        | ok u s1 =>
          rw [hc] at h
          refine CallsIn.mono (F := Fence.wide) (hS.call _ _ _ _ _ hc (n - 1) ρ w cargs hR hca) fun e w' he => ?_
          cases e with
          | returned cv =>
            obtain ⟨ρ', h0, h1, h2, h3⟩ := he
            exact endRange_ok hS hN hm hσ (a := a') h h1 (by rw [ha]; exact hT.mono h2.le) (hD.mono h2.le) (h2.le _ _ hl) (hk.trans h2 h3) cv
          | panicked c => exact he.elim
          | outgrown => exact he.elim
    · cases h
  · cases h

theorem frange_ok {nt : Nat} (f : Operand) (ps : Array Tmp) (asg body : Code) : CodeOK P σ self nt (.rangeFunc f ps asg body) (frange P nt f ps asg body) := by
  intro rd rdc t s ds k v sE h ρ w a n Q hR hT hrd hD hk
  refine wpIn_rangeFunc fun fn _ => ?_
  cases rd with
  | none =>
    cases rdc with
    | some x => exact hrd.elim
    | none =>
      change callRange P f (Nat.succ s.nx) (s.nx :: ds) self t ((s.new .deferred).new (.loop .ready none nt t ps.toList asg body s.nx)) k = .ok v sE at h
      let w1 : World := { w with heap := w.heap.push (.deferred (some [])) }
      let L : Obj := .loop { state := .ready, pending := none, fn := fn, tmps := a.tmps, params := ps, assign := asg, body := body, defers := w.heap.size }
      let w2 : World := { w1 with heap := w1.heap.push L }
      have hR1 : Rel P σ (ρ.put s.nx ⟨w.heap.size, 0, 0⟩) (s.new .deferred) w1 := hR.new rfl rfl rfl
      have ho1 : Own ρ (ρ.put s.nx ⟨w.heap.size, 0, 0⟩) s (s.new .deferred) w := Own.new hR rfl
      have hf1 : Frm ρ s w w1 := Frm.push rfl rfl rfl rfl
      have hnx : (s.new .deferred).nx = s.nx + 1 := rfl
      have hp1 : (ρ.put s.nx ⟨w.heap.size, 0, 0⟩) s.nx = some ⟨w.heap.size, 0, 0⟩ := by simp [Ren.put]
      have hsz : w1.heap.size = w.heap.size + 1 := by simp [w1]
      have hR2 : Rel P σ ((ρ.put s.nx ⟨w.heap.size, 0, 0⟩).put (s.new .deferred).nx ⟨w.heap.size + 1, 0, 0⟩) ((s.new .deferred).new (.loop .ready none nt t ps.toList asg body s.nx)) w2 := by
        refine hR1.new hsz.symm rfl ⟨fn, a.tmps, ⟨w.heap.size, 0, 0⟩, ?_, ?_, ?_⟩
        · exact (hT.mono ho1.le).mono (hR1.le_put _)
        · exact hR1.le_put _ _ _ hp1
        · simp [L]
      have ho2 := Own.new hR1 (o := .loop .ready none nt t ps.toList asg body s.nx) (l := ⟨w.heap.size + 1, 0, 0⟩) hsz.symm
      have hf2 : Frm (ρ.put s.nx ⟨w.heap.size, 0, 0⟩) (s.new .deferred) w1 w2 := Frm.push rfl rfl rfl rfl
      have ho := Own.trans hf1 ho1 ho2
      have hf := Frm.trans hf1 ho1 hf2
      obtain ⟨d, f', args, g1, g2, g3⟩ := callRange_ok (rdc := none) (n := n) (Q := Q) hS hN hm hσ (a := a) (a' := { a with defers := { target := .collected w.heap.size, args := #[] } :: a.defers }) (x := ⟨w.heap.size + 1, 0, 0⟩) h hR2
        (hT.mono ho.le) rfl ⟨⟨w.heap.size, 0, 0⟩, a.defers, ho2.le _ _ hp1, rfl, hD.mono ho.le⟩ (if_pos rfl) (hk.here.trans ho hf)
      refine ⟨w.heap.size + 1, [{ target := .collected w.heap.size, args := #[] }], w2, d, w2, f', args, w2, ?_, g1, fun _ _ => trivial, g2, fun h => by simp [Fd, Fence.wide] at h, g3⟩
      show (Instr.enterLoop fn a.tmps ps asg body none).run P w = _
      simp [Instr.enterLoop, newObj, Sem.run, w2, w1, L]
  | some l0 =>
    cases rdc with
    | none => exact hrd.elim
    | some x0 =>
      obtain ⟨loc, hloc, rfl⟩ := hrd
      change (match s.h.get l0 with
        | some (.loop _ _ _ _ _ _ _ df) => callRange P f s.nx ds self t (s.new (.loop .ready none nt t ps.toList asg body df)) k
        | _ => .bad) = .ok v sE at h
      split at h
      · rename_i st pe nt0 tm0 ps0 asg0 body0 df hb
        obtain ⟨l', o, hl', ho', fn0, tmps0, x', htm, hdf, rfl⟩ := hR.obj _ _ hb
        rw [hloc] at hl'; cases hl'
        have hn : ∀ c e f, (Obj.loop { state := st, pending := pe, fn := fn0, tmps := tmps0, params := ps0.toArray, assign := asg0, body := body0, defers := x'.blk }) ≠ .cells c e f := fun _ _ _ => by simp
        let L : Obj := .loop { state := .ready, pending := none, fn := fn, tmps := a.tmps, params := ps, assign := asg, body := body, defers := x'.blk }
        let w2 : World := { w with heap := w.heap.push L }
        have hR2 : Rel P σ (ρ.put s.nx ⟨w.heap.size, 0, 0⟩) (s.new (.loop .ready none nt t ps.toList asg body df)) w2 :=
          hR.new rfl rfl ⟨fn, a.tmps, x', hT.mono (hR.le_put _), hR.le_put _ _ _ hdf, by simp [L]⟩
        have ho := Own.new hR (o := .loop .ready none nt t ps.toList asg body df) (l := ⟨w.heap.size, 0, 0⟩) rfl
        have hf : Frm ρ s w w2 := Frm.push rfl rfl rfl rfl
        obtain ⟨d, f', args, g1, g2, g3⟩ := callRange_ok (rdc := some loc.blk) (n := n) (Q := Q) hS hN hm hσ (a := a) (a' := a) (x := ⟨w.heap.size, 0, 0⟩) h hR2
          (hT.mono ho.le) rfl (hD.mono ho.le) (by simp [Ren.put]) (hk.here.trans ho hf)
        refine ⟨w.heap.size, [], w2, d, w2, f', args, w2, ?_, g1, fun _ _ => trivial, g2, fun h => by simp [Fd, Fence.wide] at h, g3⟩
        show (Instr.enterLoop fn a.tmps ps asg body (some loc.blk)).run P w = _
        simp [Instr.enterLoop, Instr.getLoop, getObj_run ho' hn, newObj, Sem.run, w2, L]
      · cases h

theorem floop_ok {nt : Nat} {c : Code} {fc : FCode} (hc : CodeOK P σ self nt c fc) {rd rdc : Option Nat} {k : K} {v : AV} {sE : St} {n : Nat} {Q : Exit → Act → World → Prop} : ∀ (m : Nat) (ρ : Ren) (t : Tm) (s : St) (ds : List Nat) (w : World) (a : Act),
    floop fc self rd k m t s ds = .ok v sE → Rel P σ ρ s w → TR σ ρ nt t a.tmps → RdR ρ rd rdc → DsR ρ ds a.defers → KOKm P σ self.mu nt k v sE Q ρ s w → Code.roundsIn (Fd rdc) n P c Q m a w
  | 0, ρ, t, s, ds, w, a, h, _, _, _, _, _ => by cases h
  | m+1, ρ, t, s, ds, w, a, h, hR, hT, hrd, hD, hk => by
    change fc.go self rd t s ds (fun x t s ds => X.el (floop fc self rd k m t s ds) (k .ret t s ds) (fun id => k (.exit id) t s ds) x) = .ok v sE at h
    refine hc rd rdc t s ds _ v sE h ρ w a n _ hR hT hrd hD fun v' s' hv x ρ1 t1 s1 ds1 w1 a1 h1 hR1 hT1 hD1 ho hf => ?_
    cases x with
    | norm => exact floop_ok hc m ρ1 t1 s1 ds1 w1 a1 h1 hR1 hT1 (hrd.mono ho.le) hD1 ((hk.at hv).trans ho hf)
    | ret => exact hk v' s' hv .ret ρ1 t1 s1 ds1 w1 a1 h1 hR1 hT1 hD1 ho hf
    | exit id => exact hk v' s' hv (.exit id) ρ1 t1 s1 ds1 w1 a1 h1 hR1 hT1 hD1 ho hf

end code
theorem kloop_ok {self : Self} (hS : SelfOK P σ self) (hN : NoNum P) (hm : P.follows .mixedOrders = true) (hσ : Plain σ) {nt : Nat} {c : Code} {fc : FCode} (hc : CodeOK P σ self nt c fc) {kd : IntKind} {r : Nat} {rd rdc : Option Nat} {k : K} {v : AV} {sE : St} {n : Nat} {Q : Exit → Act → World → Prop} {t : Tm} {ds : List Nat} {a : Act}
    (h : kloop fc kd r self rd k t s ds = .ok v sE) (hR : Rel P σ ρ s w) (hT : TR σ ρ nt t a.tmps) (hrd : RdR ρ rd rdc) (hD : DsR ρ ds a.defers) (hk : KOKm P σ self.mu nt k v sE Q ρ s w) : (Code.loop c).wpIn (Fd rdc) n P Q a w := by
  unfold kloop at h
  split at h
  case h_2 => cases h
  rename_i m since last hb
  split at h
  case h_2 => cases h
  rename_i es clock hbm
  split at h
  case h_2 => cases h
  rename_i ks hks hle
  have hle := Nat.le_of_ble_eq_true hle
  obtain ⟨l, x, hl, hx, M, hM, hz, rfl⟩ := hR.obj _ _ hb
  have hR' : Rel P σ ρ (s.put r (.iterK m since kd ks [] last)) w := hR.upd hb hl (fun _ _ => rfl) hx ⟨M, [], hM, hz, hle, List.nodup_nil, rfl, rfl⟩
  have ho : Own ρ ρ s (s.put r (.iterK m since kd ks [] last)) w := Own.put hb rfl
  exact wpIn_loop_rounds self.fuel (floop_ok hS hN hm hσ hc self.fuel ρ t _ ds w a h hR' hT hrd hD (hk.trans ho (Frm.refl _ _ _)))
theorem allWays_get {f : ME → CRes} : ∀ {l : List ME} {v : AV} {s : St}, allWays f l = .ok v s → ∀ e ∈ l, ∃ v' s', f e = .ok v' s'
  | [], _, _, h, e, he => absurd he List.not_mem_nil
  | [a], v, s, h, e, he => by
    rcases List.mem_cons.1 he with rfl | he
    · exact ⟨v, s, h⟩
    · exact absurd he List.not_mem_nil
  | a :: b :: l, v, s, h, e, he => by
    simp only [allWays] at h
    split at h
    · rename_i v' s' h1
      rcases List.mem_cons.1 he with rfl | he
      · exact ⟨v', s', h1⟩
      · exact allWays_get h e he
    · cases h
theorem bornOK_get {since last : Nat} : ∀ {es : List ME}, bornOK since last es = true → since ≤ last ∧ (∀ e ∈ es, e.born < since) ∧ (∀ e ∈ es, ∀ e' ∈ es, e.born = e'.born → e = e')
  | [], h => ⟨Nat.le_of_ble_eq_true h, fun e h => absurd h List.not_mem_nil, fun e h => absurd h List.not_mem_nil⟩
  | a :: l, h => by
    simp only [bornOK] at h
    obtain ⟨h, h3⟩ := Bool.and_eq_true_iff.1 h
    obtain ⟨h1, h2⟩ := Bool.and_eq_true_iff.1 h
    obtain ⟨g1, g2, g3⟩ := bornOK_get h3
    have k1 : a.born < since := by simpa [Nat.blt_eq] using h1
    have hd : ∀ e' ∈ l, a.born ≠ e'.born := fun e' he' e => by
      have := List.all_eq_true.1 h2 e' he'
      rw [e, Nat.beq_refl] at this
      cases this
    refine ⟨g1, ?_, ?_⟩
    · intro e he
      rcases List.mem_cons.1 he with rfl | he
      · exact k1
      · exact g2 e he
    · intro e he e' he' heq
      rcases List.mem_cons.1 he with rfl | hel
      · rcases List.mem_cons.1 he' with rfl | he'
        · rfl
        · exact absurd heq (hd e' he')
      · rcases List.mem_cons.1 he' with rfl | hel'
        · exact absurd heq.symm (hd e hel)
        · exact g3 e hel e' hel' heq
theorem xNext_M {H : Q AObj} {nx r m since stamp clock : Nat} {seen : List Nat} {es : List ME} {e : ME} (hr : H.get r = some (.iterM m since seen stamp)) (hm : H.get m = some (.map es clock)) (hf : es.find? (fun e => Nat.beq e.born stamp) = some e) :
    xNext ⟨H, nx⟩ (.ptr r 0) false = .val (.tup [.bool true, e.k, e.v]) ⟨H.set r (.iter (some m) since (seen ++ [stamp]) clock), nx⟩ := by
  simp only [xNext, hr, hm, hf]
  rfl
/-- A loop over a map, in each of its orders. -/
theorem bloop_ok {self : Self} (hA : SelfOK P σ self) (hN : NoNum P) (hσ : Plain σ) (hmu : self.mu = true) {nt : Nat} {id : Nat} {ops : Array Oper} {rest : Code} (hc : CodeOK P σ self nt (.seq (.region id ops false) rest) (fcode P nt (.seq (.region id ops false) rest)))
    (hrest : CodeOK P σ self nt rest (fcode P nt rest)) {o0 : Oper} {l : List Oper} {it : Tmp} (hl : ops.toList = o0 :: l) (hop : o0.op = .next (.tmp it) false) (hg : o0.guard = none)
    {rd rdc : Option Nat} {k : K} {n : Nat} {QQ : Exit → Act → World → Prop} : ∀ (j : Nat) (v : AV) (sE : St) (ρ : Ren) (t : Tm) (s : St) (ds : List Nat) (w : World) (a : Act),
    bloop (fcode P nt (.seq (.region id ops false) rest)) it self rd k j t s ds = .ok v sE → Rel P σ ρ s w → TR σ ρ nt t a.tmps → RdR ρ rd rdc → DsR ρ ds a.defers →
    KOKm P σ self.mu nt k v sE QQ ρ s w → Code.roundsIn (Fd rdc) n P (.seq (.region id ops false) rest) QQ j a w
  | 0, v, sE, ρ, t, s, ds, w, a, h, _, _, _, _, _ => by cases h
  | j+1, v, sE, ρ, t, s, ds, w, a, h, hR, hT, hrd, hD, hk => by
    rw [roundsIn_succ]
    change (match tget t it with
      | .ptr r 0 => (match s.h.get r with
        | some (.iter (some m) since seen last) => (match s.h.get m with
          | some (.map es clock) => (match bornOK since last es with
            | true => (match leftOf seen es with
              | e :: e' :: l => allWays (fun e => (fcode P nt (.seq (.region id ops false) rest)).go self rd t ⟨s.h.set r (.iterM m since seen e.born), s.nx⟩ ds (fun x t s ds => X.el (bloop (fcode P nt (.seq (.region id ops false) rest)) it self rd k j t s ds) (k .ret t s ds) (fun id => k (.exit id) t s ds) x)) (e :: e' :: l)
              | _ => (fcode P nt (.seq (.region id ops false) rest)).go self rd t s ds (fun x t s ds => X.el (bloop (fcode P nt (.seq (.region id ops false) rest)) it self rd k j t s ds) (k .ret t s ds) (fun id => k (.exit id) t s ds) x))
            | false => .bad)
          | _ => .bad)
        | _ => .bad)
      | _ => .bad) = CRes.ok v sE at h
    -- the rounds that follow
    have cont : ∀ {ρ' : Ren} {s' : St} {w' : World} (v' : AV) (sE' : St), Own ρ ρ' s s' w → Frm ρ s w w' →
        KOKm P σ self.mu nt (fun x t s ds => X.el (bloop (fcode P nt (.seq (.region id ops false) rest)) it self rd k j t s ds) (k .ret t s ds) (fun id => k (.exit id) t s ds) x) v' sE' (Exit.then (Code.roundsIn (Fd rdc) n P (.seq (.region id ops false) rest) QQ j) QQ) ρ' s' w' := by
      intro ρ' s' w' v' sE' ho hf v2 s2 _ x ρ1 t1 s1 ds1 w1 a1 h1 hR1 hT1 hD1 ho1 hf1
      have hk2 : KOKm P σ self.mu nt k v2 s2 QQ ρ s w := hk.at (.inl hmu)
      have ho2 := Own.trans hf ho ho1
      have hf2 := Frm.trans hf ho hf1
      cases x with
      | norm => exact bloop_ok hA hN hσ hmu hc hrest hl hop hg j v2 s2 ρ1 t1 s1 ds1 w1 a1 h1 hR1 hT1 (hrd.mono ho2.le) hD1 (hk2.trans ho2 hf2)
      | ret => exact hk2.here .ret ρ1 t1 s1 ds1 w1 a1 h1 hR1 hT1 hD1 ho2 hf2
      | exit id => exact hk2.here (.exit id) ρ1 t1 s1 ds1 w1 a1 h1 hR1 hT1 hD1 ho2 hf2
    split at h
    case h_2 => cases h
    rename_i r hit
    split at h
    case h_2 => cases h
    rename_i m since seen last hsr
    split at h
    case h_2 => cases h
    rename_i es clock hsm
    split at h
    case h_2 => cases h
    rename_i hborn
    obtain ⟨hsl, hbs, hbinj⟩ := bornOK_get hborn
    split at h
    · rename_i e e' l' hleft
      obtain ⟨lr, xr, hlr, hxr, lm, hlm, hbase, rfl⟩ := hR.obj _ _ hsr
      obtain ⟨lm', xm, hlm', hxm, ml, hml, rfl⟩ := hR.obj _ _ hsm
      rw [hlm] at hlm'; cases hlm'
      have hmr : m ≠ r := fun e1 => by rw [e1, hsr] at hsm; cases hsm
      have hball : ∀ x ∈ ml, x.born < since := fun x hx => by
        obtain ⟨e, he, h1⟩ := MEL_mem hml x hx
        rw [h1.2.2]
        exact hbs e he
      have heval : a.eval (.tmp it) = .pointer (some ⟨lr.blk, 0, none⟩) := by
        have := hT.2 it
        rw [hit] at this
        obtain ⟨l1, q1, q2⟩ := this
        rw [hlr] at q1; cases q1
        have e1 : a.eval (.tmp it) = a.tmps.getD it undef := rfl
        rw [e1, q2, hbase]
      obtain ⟨wd, d1, d2, d3, d4, hcase⟩ := next_any (P := P) hxr hxm hball hsl o0.type
      rcases hcase with ⟨x, hx, hxD, hnext⟩ | ⟨hall, _⟩
      · obtain ⟨e1, he1, hm1, hm2, hm3⟩ := MEL_mem hml x hx
        rw [hm3] at hxD hnext
        have hmem : e1 ∈ e :: e' :: l' := by
          rw [← hleft]
          unfold leftOf
          rw [List.mem_filter, any_beq]
          exact ⟨he1, by simpa using hxD⟩
        obtain ⟨v', s', hgo⟩ := allWays_get h e1 hmem
        obtain ⟨hall, u, s1, hxn, hreg⟩ := head_run hl hop hg hgo
        rw [hit, xNext_M (by rw [Q.get_set, if_pos rfl]) (by rw [Q.get_set, if_neg hmr]; exact hsm) (find_born he1 hbinj)] at hxn
        cases hxn
        have hlt := hR.lt hsr hlr
        have hk' : ∀ B, B ≠ lr.blk → ({ wd with heap := wd.heap.setIfInBounds lr.blk (.mapIter (some lm.blk) since (seen ++ [e1.born]).toArray clock) } : World).heap[B]? = w.heap[B]? := fun B hB => by
          simp only []
          rw [Array.getElem?_setIfInBounds_ne (Ne.symm hB), d1]
        have hR1 : Rel P σ ρ (s.put r (.iter (some m) since (seen ++ [e1.born]) clock)) { wd with heap := wd.heap.setIfInBounds lr.blk (.mapIter (some lm.blk) since (seen ++ [e1.born]).toArray clock) } := by
          refine hR.upd hsr hlr hk' (x := .mapIter (some lm.blk) since (seen ++ [e1.born]).toArray clock) ?_ ⟨lm, hlm, hbase, rfl⟩
          simp only []
          rw [Array.getElem?_setIfInBounds_self_of_lt (by rw [d1]; exact hlt)]
        have hgets : ∀ b, ((s.h.set r (.iterM m since seen e1.born)).set r (.iter (some m) since (seen ++ [e1.born]) clock)).get b = (s.put r (.iter (some m) since (seen ++ [e1.born]) clock)).h.get b := by
          intro b
          rw [Q.get_set, Q.get_set, put_get]
          split <;> rfl
        have hR2 := Rel.congr hR1 (s' := ⟨(s.h.set r (.iterM m since seen e1.born)).set r (.iter (some m) since (seen ++ [e1.born]) clock), s.nx⟩) hgets rfl
        have hO1 : Own ρ ρ s (s.put r (.iter (some m) since (seen ++ [e1.born]) clock)) w := Own.put hsr rfl
        have hO : Own ρ ρ s ⟨(s.h.set r (.iterM m since seen e1.born)).set r (.iter (some m) since (seen ++ [e1.born]) clock), s.nx⟩ w :=
          ⟨hO1.le, Nat.le_refl _, fun b o' l' hb => hO1.own b o' l' ((hgets b).symm.trans hb), fun _ _ => rfl, fun b o' l' hb => hO1.all b o' l' ((hgets b).symm.trans hb)⟩
        have hF : Frm ρ s w { wd with heap := wd.heap.setIfInBounds lr.blk (.mapIter (some lm.blk) since (seen ++ [e1.born]).toArray clock) } := Frm.put hsr rfl hlr hk' (by simp [d1]) d2 d3 d4
        refine head_ok hA hN hσ hrest hl hop hg hall hreg (by rw [heval]; exact hnext) ?_ hR2 hT hrd hD (cont v' s' hO hF)
        exact ⟨[.bool true, x.key, x.val], ⟨_, _, rfl, rfl, _, _, rfl, hm1, _, _, rfl, hm2, rfl⟩, rfl⟩
      · exfalso
        have hmem : e ∈ leftOf seen es := by rw [hleft]; exact List.mem_cons_self ..
        unfold leftOf at hmem
        rw [List.mem_filter, any_beq] at hmem
        obtain ⟨x, hx, h1⟩ := MEL_mem' hml e hmem.1
        have h2 := hall x hx
        rw [h1.2.2] at h2
        have h3 := hmem.2
        simp [h2] at h3
    · exact hc rd rdc t s ds _ v sE h ρ w a n _ hR hT hrd hD (cont v sE (Own.refl _ _ _) (Frm.refl _ _ _))

theorem loop_ok {self : Self} (hA : ∀ σ, Plain σ → SelfOK P σ self) (hN : NoNum P) (hm : P.follows .mixedOrders = true) (nt : Nat) {c : Code} (hc : ∀ σ, Plain σ → CodeOK P σ self nt c (fcode P nt c))
    (hs : ∀ x y, c = .seq x y → ∀ σ, Plain σ → CodeOK P σ self nt y (fcode P nt y)) : ∀ σ, Plain σ → CodeOK P σ self nt (.loop c) (fcode P nt (.loop c)) := by
  intro σ hσ rd rdc t s ds k v sE h ρ w a n Q hR hT hrd hD hk
  change (match nextIt c with
      | none => (⟨fun self rd t s ds k => floop (fcode P nt c) self rd k self.fuel t s ds⟩ : FCode)
      | some it => mloop (fcode P nt c) (keepOf nt c) it).run self rd t s ds k = .ok v sE at h
  have plain : floop (fcode P nt c) self rd k self.fuel t s ds = .ok v sE → (Code.loop c).wpIn (Fd rdc) n P Q a w := fun h =>
    wpIn_loop_rounds self.fuel (floop_ok (hA σ hσ) hN hm hσ (hc σ hσ) self.fuel ρ t s ds w a h hR hT hrd hD hk)
  cases hni : nextIt c with
  | none =>
    rw [hni] at h
    exact plain h
  | some it =>
    rw [hni] at h
    unfold mloop at h
    dsimp only at h
    split at h
    · rename_i p hp
      obtain ⟨id, ops, rest, o0, l, rfl, hl, hop, hg⟩ := nextIt_some hni
      unfold hintAt at hp
      split at hp
      · rename_i r o hit
        split at hp
        · rename_i hh hhint
          cases hp
          dsimp only at h
          split at h
          · split at h
            · cases h
            · rename_i hmu
              exact ploop_ok hA hN hσ (hs _ _ rfl) hl hop hg h hit hR hT hrd hD hmu hk
          · exact kloop_ok (hA σ hσ) hN hm hσ (hc σ hσ) h hR hT hrd hD hk
          · split at h
            · rename_i hmu
              exact wpIn_loop_rounds self.fuel (bloop_ok (hA σ hσ) hN hσ hmu (hc σ hσ) (hs _ _ rfl σ hσ) hl hop hg self.fuel v sE ρ t s ds w a h hR hT hrd hD hk)
            · cases h
        · cases hp
      · cases hp
    · exact plain h

theorem fcode_ok {self : Self} (hA : ∀ σ, Plain σ → SelfOK P σ self) (hN : NoNum P) (hm : P.follows .mixedOrders = true) (nt : Nat) : ∀ (c : Code) (σ : Sg) (hσ : Plain σ), CodeOK P σ self nt c (fcode P nt c)
  | .skip => fun σ hσ rd rdc t s ds k v sE h ρ w a n Q hR hT hrd hD hk => wpIn_skip (hk.here .norm ρ t s ds w a h hR hT hD (Own.refl _ _ _) (Frm.refl _ _ _))
  | .region id ops draw => fun σ hσ rd rdc t s ds k v sE h ρ w a n Q hR hT hrd hD hk => by
    change (fregion P nt ops draw).run self t s (fun t s => k .norm t s ds) = .ok v sE at h
    exact fregion_ok (hA σ hσ) hN hm hσ h hR hT fun ρ1 t1 s1 w1 a1 h1 hR1 hT1 hd1 ho hf => hk.here .norm ρ1 t1 s1 ds w1 a1 h1 hR1 hT1 (by rw [hd1]; exact hD.mono ho.le) ho hf
  | .seq x y => fun σ hσ rd rdc t s ds k v sE h ρ w a n Q hR hT hrd hD hk => by
    change (fcode P nt x).run self rd t s ds (kseq (fcode P nt y) self rd k) = .ok v sE at h
    refine wpIn_seq (fcode_ok hA hN hm nt x σ hσ rd rdc t s ds _ v sE h ρ w a n _ hR hT hrd hD fun v' s' hv e ρ1 t1 s1 ds1 w1 a1 h1 hR1 hT1 hD1 ho hf => ?_)
    cases e with
    | norm => exact fcode_ok hA hN hm nt y σ hσ rd rdc t1 s1 ds1 k v' s' h1 ρ1 w1 a1 n Q hR1 hT1 (hrd.mono ho.le) hD1 ((hk.at hv).trans ho hf)
    | ret => exact hk v' s' hv .ret ρ1 t1 s1 ds1 w1 a1 h1 hR1 hT1 hD1 ho hf
    | exit id => exact hk v' s' hv (.exit id) ρ1 t1 s1 ds1 w1 a1 h1 hR1 hT1 hD1 ho hf
  | .cond c x y => fun σ hσ rd rdc t s ds k v sE h ρ w a n Q hR hT hrd hD hk => by
    change (condEl ((fopn c).get t) (fcode P nt x) (fcode P nt y)).run self rd t s ds k = .ok v sE at h
    rw [fopn_eq] at h
    have hv := evalA_VR hR hT c
    unfold condEl at h
    cases hb : AV.asB (evalA t c) with
    | no => rw [hb] at h; cases h
    | un => rw [hb] at h; cases h
    | tt =>
      rw [hb] at h
      rw [asB_tt hb] at hv
      exact wpIn_cond_true hv (fcode_ok hA hN hm nt x σ hσ rd rdc t s ds k v sE h ρ w a n Q hR hT hrd hD hk)
    | ff =>
      rw [hb] at h
      rw [asB_ff hb] at hv
      exact wpIn_cond_false hv (fcode_ok hA hN hm nt y σ hσ rd rdc t s ds k v sE h ρ w a n Q hR hT hrd hD hk)
  | .block id c => fun σ hσ rd rdc t s ds k v sE h ρ w a n Q hR hT hrd hD hk => by
    change (fcode P nt c).run self rd t s ds (kblock id k) = .ok v sE at h
    refine wpIn_block (fcode_ok hA hN hm nt c σ hσ rd rdc t s ds _ v sE h ρ w a n _ hR hT hrd hD fun v' s' hv e ρ1 t1 s1 ds1 w1 a1 h1 hR1 hT1 hD1 ho hf => ?_)
    cases e with
    | norm => exact hk v' s' hv .norm ρ1 t1 s1 ds1 w1 a1 h1 hR1 hT1 hD1 ho hf
    | ret => exact hk v' s' hv .ret ρ1 t1 s1 ds1 w1 a1 h1 hR1 hT1 hD1 ho hf
    | exit i =>
      change Bool.rec (motive := fun _ => CRes) (k (.exit i) t1 s1 ds1) (k .norm t1 s1 ds1) (Nat.beq i id) = .ok v' s' at h1
      show Exit.inBlock id Q (.exit i) a1 w1
      unfold Exit.inBlock
      cases hb : Nat.beq i id with
      | true =>
        rw [hb] at h1
        dsimp only
        rw [if_pos (Nat.eq_of_beq_eq_true hb)]
        exact hk v' s' hv .norm ρ1 t1 s1 ds1 w1 a1 h1 hR1 hT1 hD1 ho hf
      | false =>
        rw [hb] at h1
        dsimp only
        rw [if_neg (Nat.ne_of_beq_eq_false hb)]
        exact hk v' s' hv (.exit i) ρ1 t1 s1 ds1 w1 a1 h1 hR1 hT1 hD1 ho hf
  | .loop (.seq x y) => fun σ hσ => loop_ok hA hN hm nt (fun σ hσ => fcode_ok hA hN hm nt (.seq x y) σ hσ) (fun x' y' e => by cases e; exact fun σ hσ => fcode_ok hA hN hm nt y σ hσ) σ hσ
  | .loop .skip => fun σ hσ => loop_ok hA hN hm nt (fun σ hσ => fcode_ok hA hN hm nt .skip σ hσ) (fun x' y' e => by cases e) σ hσ
  | .loop (.region id ops draw) => fun σ hσ => loop_ok hA hN hm nt (fun σ hσ => fcode_ok hA hN hm nt (.region id ops draw) σ hσ) (fun x' y' e => by cases e) σ hσ
  | .loop (.cond c x y) => fun σ hσ => loop_ok hA hN hm nt (fun σ hσ => fcode_ok hA hN hm nt (.cond c x y) σ hσ) (fun x' y' e => by cases e) σ hσ
  | .loop (.block id c) => fun σ hσ => loop_ok hA hN hm nt (fun σ hσ => fcode_ok hA hN hm nt (.block id c) σ hσ) (fun x' y' e => by cases e) σ hσ
  | .loop (.loop c) => fun σ hσ => loop_ok hA hN hm nt (fun σ hσ => fcode_ok hA hN hm nt (.loop c) σ hσ) (fun x' y' e => by cases e) σ hσ
  | .loop (.rangeFunc f ps asg body) => fun σ hσ => loop_ok hA hN hm nt (fun σ hσ => fcode_ok hA hN hm nt (.rangeFunc f ps asg body) σ hσ) (fun x' y' e => by cases e) σ hσ
  | .loop (.exit id) => fun σ hσ => loop_ok hA hN hm nt (fun σ hσ => fcode_ok hA hN hm nt (.exit id) σ hσ) (fun x' y' e => by cases e) σ hσ
  | .loop (.scope c) => fun σ hσ => loop_ok hA hN hm nt (fun σ hσ => fcode_ok hA hN hm nt (.scope c) σ hσ) (fun x' y' e => by cases e) σ hσ
  | .loop (.label c) => fun σ hσ => loop_ok hA hN hm nt (fun σ hσ => fcode_ok hA hN hm nt (.label c) σ hσ) (fun x' y' e => by cases e) σ hσ
  | .loop (.goto c) => fun σ hσ => loop_ok hA hN hm nt (fun σ hσ => fcode_ok hA hN hm nt (.goto c) σ hσ) (fun x' y' e => by cases e) σ hσ
  | .loop .ret => fun σ hσ => loop_ok hA hN hm nt (fun σ hσ => fcode_ok hA hN hm nt .ret σ hσ) (fun x' y' e => by cases e) σ hσ
  | .loop (.refuse c) => fun σ hσ => loop_ok hA hN hm nt (fun σ hσ => fcode_ok hA hN hm nt (.refuse c) σ hσ) (fun x' y' e => by cases e) σ hσ
  | .rangeFunc f ps asg body => fun σ hσ => frange_ok (hA σ hσ) hN hm hσ f ps asg body
  | .exit id => fun σ hσ rd rdc t s ds k v sE h ρ w a n Q hR hT hrd hD hk => wpIn_exit (hk.here (.exit id) ρ t s ds w a h hR hT hD (Own.refl _ _ _) (Frm.refl _ _ _))
  | .scope c => fun σ hσ rd rdc t s ds k v sE h => by cases h
  | .label l => fun σ hσ rd rdc t s ds k v sE h => by cases h
  | .goto l => fun σ hσ rd rdc t s ds k v sE h => by cases h
  | .ret => fun σ hσ rd rdc t s ds k v sE h ρ w a n Q hR hT hrd hD hk => wpIn_ret (hk.here .ret ρ t s ds w a h hR hT hD (Own.refl _ _ _) (Frm.refl _ _ _))
  | .refuse x => fun σ hσ rd rdc t s ds k v sE h => by cases h

/-! ### A function -/
theorem putArgs_get : ∀ (l : List AV) (k : Nat) (t : Tm) (j : Nat), tget (putArgs l k t) j = if k ≤ j ∧ j < k + l.length then (l[j - k]?).getD undefA else tget t j
  | [], k, t, j => by
    rw [if_neg (by rw [List.length_nil]; omega)]; rfl
  | v :: l, k, t, j => by
    show tget (putArgs l (Nat.succ k) (tset t k v)) j = _
    rw [putArgs_get l]
    simp only [List.length_cons, Nat.succ_eq_add_one]
    by_cases h1 : k + 1 ≤ j ∧ j < k + 1 + l.length
    · rw [if_pos h1, if_pos (by omega), show j - k = (j - (k + 1)) + 1 by omega, List.getElem?_cons_succ]
    · rw [if_neg h1, tget_tset]
      by_cases h2 : j = k
      · subst h2; rw [if_pos rfl, if_pos (by omega)]; simp
      · rw [if_neg h2, if_neg (by omega)]
theorem initTm_TR {args : List AV} {cargs : Array Value} (h : VRL σ ρ args cargs.toList) (n : Nat) : TR σ ρ n (initTm args) (cargs ++ Array.replicate (n - cargs.size) undef) := by
  have hl := h.length
  refine ⟨by rw [Array.size_append, Array.size_replicate]; omega, fun k => ?_⟩
  unfold initTm
  rw [putArgs_get]
  simp only [Nat.zero_le, Nat.zero_add, true_and, Nat.sub_zero]
  by_cases hk : k < args.length
  · rw [if_pos hk, List.getElem?_eq_getElem hk]
    obtain ⟨y, hy, hv⟩ := VRL.get h (List.getElem?_eq_getElem hk)
    have hk' : k < cargs.size := by simpa [hl] using hk
    rw [Array.getD_eq_getD_getElem?, Array.getElem?_append_left hk']
    rw [Array.getElem?_toList] at hy
    rw [hy]
    exact hv
  · rw [if_neg hk]
    have e : tget (QD.full undefA 4) k = undefA := QD.get_full _ _
    rw [e, Array.getD_eq_getD_getElem?, Array.getElem?_append_right (by simp at hl; omega)]
    have : ((Array.replicate (n - cargs.size) undef)[k - cargs.size]?).getD undef = undef := by
      rw [Array.getElem?_replicate]
      split <;> rfl
    rw [this]
    exact ⟨[], rfl, rfl⟩

def resOne (tmps : Array Value) : ResultVar → Sem Value
  | .tmp t => pure (tmps.getD t undef)
  | .cell a t => do loadVar t (← asAddr (tmps.getD a undef))
theorem resA_run (hR : Rel P σ ρ s w) {n : Nat} {t : Tm} {c : Array Value} (hT : TR σ ρ n t c) : ∀ {rs : List ResultVar} {vs : List AV}, resA P t s rs = some vs → ∃ cvs, (rs.mapM (resOne c)).run P w = .ok cvs w ∧ VRL σ ρ vs cvs
  | [], vs, h => by cases h; exact ⟨[], by simp, rfl⟩
  | r :: rs, vs, h => by
    simp only [resA] at h
    split at h
    · rename_i us hu
      obtain ⟨cvs, h1, h2⟩ := resA_run hR hT hu
      have one : ∀ v cv, (resOne c r).run P w = .ok cv w → VR σ ρ v cv → v :: us = vs → ∃ cvs, ((r :: rs).mapM (resOne c)).run P w = .ok cvs w ∧ VRL σ ρ vs cvs := fun v cv g1 g2 e => by
        subst e
        exact ⟨cv :: cvs, by simp [List.mapM_cons, g1, h1], cv, cvs, rfl, g2, h2⟩
      split at h
      · rename_i k
        cases h
        exact one _ _ rfl (hT.2 k) rfl
      · rename_i a ty
        split at h
        · rename_i b o he
          have hv := hT.2 a
          rw [he] at hv
          obtain ⟨l, hl, hv⟩ := hv
          split at h
          · rename_i v hv'
            cases h
            obtain ⟨cv, g1, g2⟩ := loadV_run hR hl hv'
            exact one v cv (by simp [resOne, hv, asAddr, g1]) g2 rfl
          · cases h
        · cases h
    · cases h
theorem results_run (hR : Rel P σ ρ s w) {n : Nat} {t : Tm} {c : Array Value} (hT : TR σ ρ n t c) {fn : Func} {vs : List AV} (h : resA P t s fn.results.toList = some vs) : ∃ cv, (results fn c).run P w = .ok cv w ∧ VR σ ρ (tupOf vs) cv := by
  obtain ⟨cvs, h1, h2⟩ := resA_run hR hT h
  have e : (results fn c).run P w = .ok (if h : cvs.toArray.size = 1 then cvs.toArray[0] else .tuple cvs.toArray) w := by
    have e1 : results fn c = (do let vs ← fn.results.mapM (resOne c); pure (if h : vs.size = 1 then vs[0] else .tuple vs)) := by
      unfold results
      congr 1
    rw [e1, Array.mapM_eq_mapM_toList]
    simp [h1]
  refine ⟨_, e, ?_⟩
  unfold tupOf
  split
  · obtain ⟨y, l, rfl, hy, e⟩ := h2
    cases e
    exact hy
  · rename_i hne
    have hlen := h2.length
    have : ¬ cvs.toArray.size = 1 := by
      intro e1
      have : vs.length = 1 := by simpa [hlen] using e1
      obtain ⟨v, rfl⟩ := List.length_eq_one_iff.1 this
      exact hne v rfl
    rw [dif_neg this]
    exact ⟨cvs, h2, rfl⟩

theorem isTmps_res : ∀ {rs : List ResultVar} {l : List Operand}, isTmps rs = some l → ∀ (t : Tm) (s : St), resA P t s rs = some (evalL t l)
  | [], l, h, t, s => by cases h; rfl
  | .tmp k :: rs, l, h, t, s => by
    simp only [isTmps] at h
    split at h
    · rename_i ks hk
      cases h
      simp only [resA, isTmps_res hk t s, evalL, List.map_cons, evalA]
    · cases h
  | .cell a ty :: rs, l, h, t, s => by cases h
theorem fres_ok {rs : List ResultVar} {t : Tm} {v : AV} (h : (fres P rs).get t s = .mk v) : ∃ vs, resA P t s rs = some vs ∧ v = tupOf vs := by
  unfold fres at h
  split at h
  · rename_i o ho
    cases h
    refine ⟨_, isTmps_res ho t s, ?_⟩
    simp [evalL, tupOf, fopn_eq]
  · rename_i l hno hl
    cases h
    refine ⟨_, isTmps_res hl t s, ?_⟩
    rw [fargs_eq]
    unfold tupOf
    split
    · rename_i v hv
      simp only [evalL] at hv
      have := congrArg List.length hv
      simp only [List.length_map, List.length_cons, List.length_nil] at this
      obtain ⟨o, rfl⟩ := List.length_eq_one_iff.1 this
      exact (hno o rfl).elim
    · rfl
  · have h := OV.ofO_mk h
    split at h
    · rename_i l hl
      cases h
      exact ⟨l, hl, rfl⟩
    · cases h

theorem delAll_ok {fn : Func} {R : Ending → World → Prop} {F : Fence} {n : Nat} {tmps : Array Value} : ∀ (ds : List Nat) (defers : List Deferred) (s : St) (w : World), Rel P σ ρ s w → DsR ρ ds defers → dsOK s.h ds = true →
    (∀ w', Rel P σ ρ ⟨delAll s.h ds, s.nx⟩ w' → Own ρ ρ s ⟨delAll s.h ds, s.nx⟩ w → Frm ρ s w w' → LeavesIn F n P fn tmps R [] .returning w') → LeavesInM F n P fn tmps R defers .returning w
  | [], defers, s, w, hR, hD, _, hk => by
    cases hD
    exact hk w hR (Own.refl _ _ _) (Frm.refl _ _ _)
  | d :: ds, defers, s, w, hR, hD, hok, hk => by
    obtain ⟨loc, rest, hloc, rfl, hD'⟩ := hD
    simp only [dsOK] at hok
    split at hok
    · rename_i hb
      obtain ⟨l', o, hl', ho, rfl⟩ := hR.obj _ _ hb
      rw [hloc] at hl'; cases hl'
      have hn : ∀ c e f, (Obj.deferred (some [])) ≠ .cells c e f := fun _ _ _ => by simp
      obtain ⟨g1, g2, g3⟩ := hR.drop (x := .deferred none) hb rfl hloc
      refine ⟨by simp, .inl ⟨loc.blk, _, rfl, ?_, delAll_ok ds rest ⟨s.h.del d, s.nx⟩ _ g1 hD' hok fun w' h1 h2 h3 => hk w' h1 (Own.trans g3 g2 h2) (Frm.trans g3 g2 h3)⟩⟩
      simp [Instr.takeDeferred, getObj_run ho hn, setObj_run ho hn]
    · cases hok

/-- The function's end, as the machine has it. -/
theorem finish_ok {fn : Func} {n : Nat} {v : AV} {s1 s' : St} {t1 : Tm} {ds1 : List Nat} {ρ1 : Ren} {w1 : World} {a1 : Act} {x : X} {R : Ending → World → Prop} (h1 : finish (fres P fn.results.toList) x t1 s1 ds1 = .ok v s')
    (hR1 : Rel P σ ρ1 s1 w1) (hT1 : TR σ ρ1 fn.ntmps t1 a1.tmps) (hD1 : DsR ρ1 ds1 a1.defers)
    (hR : ∀ cv w', VR σ ρ1 v cv → Rel P σ ρ1 s' w' → Own ρ1 ρ1 s1 s' w1 → Frm ρ1 s1 w1 w' → R (.returned cv) w') : bodyPostM Fence.wide n P fn R (exitOf x) a1 w1 := by
  have fin1 : ∀ (s2 : St) (w2 : World), finish1 (fres P fn.results.toList) t1 s2 = .ok v s' → Rel P σ ρ1 s2 w2 → Own ρ1 ρ1 s1 s2 w1 → Frm ρ1 s1 w1 w2 → LeavesIn Fence.wide n P fn a1.tmps R [] .returning w2 := by
    intro s2 w2 h2 hR2 ho2 hf2
    unfold finish1 at h2
    cases hg : (fres P fn.results.toList).get t1 s2 with
    | no => rw [hg] at h2; cases h2
    | mk u =>
      rw [hg] at h2
      cases h2
      obtain ⟨vs, hvs, rfl⟩ := fres_ok hg
      obtain ⟨cv, hc1, hc2⟩ := results_run hR2 hT1 hvs
      exact ⟨cv, hc1, hR cv w2 hc2 hR2 ho2 hf2⟩
  have fin2 : finish2 (fres P fn.results.toList) t1 s1 ds1 = .ok v s' → LeavesInM Fence.wide n P fn a1.tmps R a1.defers .returning w1 := by
    intro h2
    cases ds1 with
    | nil =>
      have : a1.defers = [] := hD1
      rw [this]
      exact fin1 s1 w1 h2 hR1 (Own.refl _ _ _) (Frm.refl _ _ _)
    | cons d ds =>
      change (match dsOK s1.h (d :: ds) with | true => finish1 (fres P fn.results.toList) t1 ⟨delAll s1.h (d :: ds), s1.nx⟩ | false => .bad) = .ok v s' at h2
      split at h2
      · rename_i hok
        exact delAll_ok (d :: ds) a1.defers s1 w1 hR1 hD1 hok fun w' g1 g2 g3 => fin1 _ w' h2 g1 g2 g3
      · cases h2
  cases x with
  | norm => exact fin2 h1
  | ret => exact fin2 h1
  | exit id => cases h1

theorem cfun_ok {self : Self} (hmu : self.mu = false) (hAll : ∀ σ, Plain σ → SelfOK P σ self) (hN : NoNum P) (hm : P.follows .mixedOrders = true) (hσ : Plain σ) {f : FuncId} {args : List AV} {v : AV} {s' : St} (h : (cfun P f).run self args s = .ok v s') :
    (∃ fn c, P.funcs[f]? = some fn ∧ fn.body = some c) ∧ ∀ (n : Nat) (ρ : Ren) (w : World) (cargs : Array Value), Rel P σ ρ s w → VRL σ ρ args cargs.toList → CallsIn Fence.wide n P f cargs w (Ret P σ ρ s w v s') := by
  unfold cfun at h
  split at h
  · rename_i fn hf
    split at h
    · rename_i c hb
      refine ⟨⟨fn, c, hf, hb⟩, fun n ρ w cargs hR hA => ?_⟩
      change (fcode P fn.ntmps c).run self none (initTm args) s [] (finish (fres P fn.results.toList)) = .ok v s' at h
      refine callsIn_of_wp_marks hf hb trivial ?_
      have key := fcode_ok hAll hN hm fn.ntmps c σ hσ none none (initTm args) s [] (finish (fres P fn.results.toList)) v s' h ρ w { tmps := cargs ++ Array.replicate (fn.ntmps - cargs.size) undef, defers := [] } n
        (bodyPostM Fence.wide n P fn (Ret P σ ρ s w v s')) hR (initTm_TR hA _) trivial rfl ?_
      · exact key
      · intro v' s2' hv x ρ1 t1 s1 ds1 w1 a1 h1 hR1 hT1 hD1 ho hf'
        obtain ⟨rfl, rfl⟩ : v = v' ∧ s' = s2' := (hv.resolve_left (by rw [hmu]; simp)).imp Eq.symm Eq.symm
        exact finish_ok h1 hR1 hT1 hD1 fun cv w2 g0 g1 g2 g3 => ⟨ρ1, g0, g1, Own.trans hf' ho g2, Frm.trans hf' ho g3⟩
    · cases h
  · cases h
/-- A function's body, whatever its order: each outcome is of the kind that is looked for. -/
theorem cfunM_ok {self : Self} (hAll : ∀ σ, Plain σ → SelfOK P σ self) (hN : NoNum P) (hm : P.follows .mixedOrders = true) (hσ : Plain σ) {f : FuncId} {args : List AV} {fn : Func} {c : Code} (hf : P.funcs[f]? = some fn) (hb : fn.body = some c) {k : K} {v : AV} {s' : St}
    (h : (fcode P fn.ntmps c).run self none (initTm args) s [] k = .ok v s') {n : Nat} {w : World} {cargs : Array Value} (hR : Rel P σ ρ s w) (hA : VRL σ ρ args cargs.toList) {R : Ending → World → Prop}
    (hk : ∀ x ρ1 t1 s1 ds1 w1 v' s2, k x t1 s1 ds1 = .ok v' s2 → Own ρ ρ1 s s1 w → Frm ρ s w w1 → ∃ u s3, finish (fres P fn.results.toList) x t1 s1 ds1 = .ok u s3 ∧
      ∀ cv w', VR σ ρ1 u cv → Rel P σ ρ1 s3 w' → Own ρ1 ρ1 s1 s3 w1 → Frm ρ1 s1 w1 w' → R (.returned cv) w') : CallsIn Fence.wide n P f cargs w R := by
  refine callsIn_of_wp_marks hf hb trivial ?_
  refine fcode_ok hAll hN hm fn.ntmps c σ hσ none none (initTm args) s [] k v s' h ρ w { tmps := cargs ++ Array.replicate (fn.ntmps - cargs.size) undef, defers := [] } n (bodyPostM Fence.wide n P fn R) hR (initTm_TR hA _) trivial rfl ?_
  intro v' s2 _ x ρ1 t1 s1 ds1 w1 a1 h1 hR1 hT1 hD1 ho hf'
  obtain ⟨u, s3, g1, g2⟩ := hk x ρ1 t1 s1 ds1 w1 v' s2 h1 ho hf'
  exact finish_ok g1 hR1 hT1 hD1 g2

/-! ### A round -/
theorem setPs_ok {nt : Nat} : ∀ {ps : List Tmp} {vs : List AV} {t t' : Tm} {cs : List Value} {c : Array Value}, setPs nt ps vs t = some t' → VRL σ ρ vs cs → TR σ ρ nt t c →
    ps.length = cs.length ∧ TR σ ρ nt t' ((ps.zip cs).foldl (fun tmps x => tmps.setIfInBounds x.1 x.2) c)
  | [], [], t, t', cs, c, h, hv, hT => by cases h; cases hv; exact ⟨rfl, hT⟩
  | [], _ :: _, t, t', cs, c, h, hv, hT => by cases h
  | _ :: _, [], t, t', cs, c, h, hv, hT => by cases h
  | p :: ps, v :: vs, t, t', cs, c, h, hv, hT => by
    simp only [setPs] at h
    split at h
    · rename_i hlt
      obtain ⟨cv, cs, rfl, h1, h2⟩ := hv
      have hT' := TR.put (a := ⟨c, []⟩) hT (d := some p) (fun k e => by cases e; simpa [Nat.blt_eq] using hlt) h1
      obtain ⟨g1, g2⟩ := setPs_ok (c := c.setIfInBounds p cv) h h2 hT'
      exact ⟨by simp [g1], g2⟩
    · cases h

theorem roundF_ok {self : Self} (hmu : self.mu = false) (hAll : ∀ σ, Plain σ → SelfOK P σ self) (hN : NoNum P) (hm : P.follows .mixedOrders = true) (hσ : Plain σ) {l : Nat} {args : List AV} {v : AV} {s' : St} (h : roundF P self l args s = .ok v s') {n : Nat} {x : Loc} {cargs : Array Value} (hR : Rel P σ ρ s w) (hl : ρ l = some x)
    (hA : VRL σ ρ args cargs.toList) : ∃ f tmps asg body, (Instr.yield x.blk cargs).run P w = .ok (.round x.blk f tmps asg body) w ∧ RoundIn Fence.wide n P x.blk f tmps asg body w (Ret P σ ρ s w v s') := by
  unfold roundF at h
  split at h
  · rename_i st pe nt tm ps asg body df hb
    obtain ⟨l', o, hl', ho, fn, tmps, x', htm, hdf, rfl⟩ := hR.obj _ _ hb
    rw [hl] at hl'; cases hl'
    have hn : ∀ c e f, (Obj.loop { state := st, pending := pe, fn := fn, tmps := tmps, params := ps.toArray, assign := asg, body := body, defers := x'.blk }) ≠ .cells c e f := fun _ _ _ => by simp
    split at h
    · rename_i t ht
      obtain ⟨hlen, hT⟩ := setPs_ok ht hA htm
      refine ⟨fn, (ps.toArray.zip cargs).foldl (fun tmps x => tmps.setIfInBounds x.1 x.2) tmps, asg, body, ?_, ?_⟩
      · have : cargs.size = ps.length := by rw [hlen]; simp
        simp [Instr.yield, Instr.getLoop, getObj_run ho hn, this]
      · refine roundIn_of_wpIn (F := Fence.wide) trivial ?_
        have e0 : (ps.toArray.zip cargs).foldl (fun tmps x => tmps.setIfInBounds x.1 x.2) tmps = (ps.zip cargs.toList).foldl (fun tmps x => tmps.setIfInBounds x.1 x.2) tmps := by
          rw [← Array.foldl_toList]
          simp
        have hT0 : TR σ ρ nt t ((ps.toArray.zip cargs).foldl (fun tmps x => tmps.setIfInBounds x.1 x.2) tmps) := by rw [e0]; exact hT
        refine fcode_ok hAll hN hm nt asg σ hσ (some l) (some x.blk) t s [] _ v s' h ρ w { tmps := _, defers := [] } n _ hR hT0 ⟨x, hl, rfl⟩ rfl fun v' s2' hv e ρ1 t1 s1 ds1 w1 a1 h1 hR1 hT1 hD1 ho1 hf1 => ?_
        obtain ⟨rfl, rfl⟩ : v = v' ∧ s' = s2' := (hv.resolve_left (by rw [hmu]; simp)).imp Eq.symm Eq.symm
        cases e with
        | ret => cases h1
        | exit id => cases h1
        | norm =>
          simp only [beginRound] at h1
          split at h1
          · rename_i pe1 nt1 tm1 ps1 asg1 b1 df1 hb1
            obtain ⟨l1, o1, hl1, ho1', fn1, tmps1, x1', htm1, hdf1, rfl⟩ := hR1.obj _ _ hb1
            have hl0 := ho1.le _ _ hl
            rw [hl0] at hl1; cases hl1
            have hn1 : ∀ c e f, (Obj.loop { state := .ready, pending := pe1, fn := fn1, tmps := tmps1, params := ps1.toArray, assign := asg1, body := b1, defers := x1'.blk }) ≠ .cells c e f := fun _ _ _ => by simp
            have hrun : (Instr.beginRound x.blk).run P w1 = .ok () { w1 with heap := w1.heap.setIfInBounds x.blk (.loop { state := .busy, pending := pe1, fn := fn1, tmps := tmps1, params := ps1.toArray, assign := asg1, body := b1, defers := x1'.blk }) } := by
              simp [Instr.beginRound, Instr.getLoop, getObj_run ho1' hn1, setObj_run ho1' hn1]
            obtain ⟨_, _, _, hres, _, hR2, ho2, hf2⟩ := came_obj (σ := σ) (v := undefA) (cv := undef) (res := .ok (.value undef) { w1 with heap := w1.heap.setIfInBounds x.blk (.loop { state := .busy, pending := pe1, fn := fn1, tmps := tmps1, params := ps1.toArray, assign := asg1, body := b1, defers := x1'.blk }) })
              hR1 hb1 rfl hl0 rfl (o := .loop .busy pe1 nt1 tm1 ps1 asg1 b1 df1) ⟨fn1, tmps1, x1', htm1, hdf1, rfl⟩ (.inl rfl) ⟨[], rfl, rfl⟩
            rcases hres with hres | ⟨hres, _⟩ <;> cases hres
            refine ⟨_, hrun, ?_⟩
            have ho12 := Own.trans hf1 ho1 ho2
            have hf12 := Frm.trans hf1 ho1 hf2
            refine fcode_ok hAll hN hm nt body σ hσ (some l) (some x.blk) t1 _ ds1 _ v s' h1 _ _ a1 n _ hR2 (hT1.mono ho2.le) ⟨x, ho2.le _ _ hl0, rfl⟩ (hD1.mono ho2.le) fun v' s2' hv e ρ3 t3 s3 ds3 w3 a3 h3 hR3 hT3 hD3 ho3 hf3 => ?_
            obtain ⟨rfl, rfl⟩ : v = v' ∧ s' = s2' := (hv.resolve_left (by rw [hmu]; simp)).imp Eq.symm Eq.symm
            unfold endRound at h3
            split at h3
            · rename_i st3 pe3 nt3 tm3 ps3 asg3 b3 df3 hb3
              obtain ⟨l3, o3, hl3, ho3', fn3, tmps3, x3', htm3, hdf3, rfl⟩ := hR3.obj _ _ hb3
              have hl0' := ho3.le _ _ (ho2.le _ _ hl0)
              rw [hl0'] at hl3; cases hl3
              have hn3 : ∀ c e f, (Obj.loop { state := st3, pending := pe3, fn := fn3, tmps := tmps3, params := ps3.toArray, assign := asg3, body := b3, defers := x3'.blk }) ≠ .cells c e f := fun _ _ _ => by simp
              have fin : ∀ (j : Option Code) (st' : LoopState), st' = (if j.isNone then .ready else .done) → CRes.ok (.bool j.isNone) (s3.put l (.loop st' j nt3 tm3 ps3 asg3 b3 df3)) = .ok v s' →
                  ∃ v0 w0, (Instr.endRound x.blk j).run P w3 = .ok v0 w0 ∧ Ret P σ ρ s w v s' (.returned v0) w0 := by
                intro j st' hst he
                cases he
                obtain ⟨_, _, _, hres, _, hR4, ho4, hf4⟩ := came_obj (σ := σ) (v := undefA) (cv := undef) (res := .ok (.value undef) { w3 with heap := w3.heap.setIfInBounds x.blk (.loop { state := st', pending := j, fn := fn3, tmps := tmps3, params := ps3.toArray, assign := asg3, body := b3, defers := x3'.blk }) })
                  hR3 hb3 rfl hl0' rfl (o := .loop st' j nt3 tm3 ps3 asg3 b3 df3) ⟨fn3, tmps3, x3', htm3, hdf3, rfl⟩ (.inl rfl) ⟨[], rfl, rfl⟩
                rcases hres with hres | ⟨hres, _⟩ <;> cases hres
                refine ⟨.bool j.isNone, _, ?_, _, rfl, hR4, Own.trans hf12 ho12 (Own.trans hf3 ho3 ho4), Frm.trans hf12 ho12 (Frm.trans hf3 ho3 hf4)⟩
                subst hst
                simp [Instr.endRound, Instr.getLoop, getObj_run ho3' hn3, setObj_run ho3' hn3]
              cases e with
              | norm => exact fin none .ready rfl h3
              | ret => exact fin (some .ret) .done rfl h3
              | exit id => exact fin (some (.exit id)) .done rfl h3
            · cases h3
          · cases h1
    · cases h
  · cases h

theorem selfF_ok (hN : NoNum P) (hm : P.follows .mixedOrders = true) (fuel : Nat) : ∀ n σ, Plain σ → SelfOK P σ (selfF P fuel n)
  | 0, _, _ => ⟨fun _ _ _ _ _ h => (by cases h), fun _ _ _ _ _ h => (by cases h), fun _ _ _ _ _ h => (by cases h)⟩
  | n+1, σ, hσ =>
    have hA := selfF_ok hN hm fuel n
    ⟨fun f args s v s' h => (cfun_ok (by cases n <;> rfl) hA hN hm hσ h).1, fun f args s v s' h => (cfun_ok (by cases n <;> rfl) hA hN hm hσ h).2, fun l args s v s' h n' ρ w x cargs hR hl hA' => roundF_ok (by cases n <;> rfl) hA hN hm hσ h hR hl hA'⟩
end Go.AX
set_option linter.unusedVariables false
set_option linter.unusedSimpArgs false
namespace Go.AX
open Go
noncomputable section

/-- A state, listed. -/
abbrev Lst := List (Nat × AObj)
def litH (l : Lst) : Q AObj := List.rec (motive := fun _ => Q AObj) Q.e (fun p _ ih => ih.set p.1 p.2) l
def litSt (l : Lst) (nx : Nat) : St := ⟨litH l, nx⟩
def matchH (h : Q AObj) : Lst → Bool
  | [] => true
  | (b, o) :: l => (match h.get b with | some o' => sameObj o o' | none => false) && matchH h l

structure Fact where
  f : FuncId
  args : List AV
  pre : Lst
  nx : Nat
  v : AV
  post : Lst
  nx' : Nat
def Fact.hit (F : Fact) (args : List AV) (s : St) : Bool := Nat.beq F.nx s.nx && all2 beqA F.args args && matchH s.h F.pre
def tryF (f : FuncId) (args : List AV) (s : St) (r : CRes) : List Fact → CRes
  | [] => r
  | F :: l => match Nat.beq F.f f with
    | true => (match F.hit args s with
      | true => .ok F.v (litSt F.post F.nx')
      | false => tryF f args s r l)
    | false => tryF f args s r l

/-- Ways of their own for some calls. -/
abbrev Orc := FuncId → List AV → St → Option CRes
def noOrc : Orc := fun _ _ _ => none
def orcEl (o : Option CRes) (r : CRes) : CRes := Option.rec (motive := fun _ => CRes) r (fun r => r) o

variable (P : Program)
def selfX (orc : Orc) (fs : List Fact) (hints : Nat → Option Hint) (fuel : Nat) (n : Nat) : Self :=
  Nat.rec (motive := fun _ => Self) ⟨fun _ _ _ => .bad, fun _ _ _ => .bad, fuel, hints, false⟩ (fun _ ih => ⟨fun f args s => orcEl (orc f args s) (tryF f args s ((cfun P f).run ih args s) fs), fun l args s => roundF P ih l args s, fuel, hints, false⟩) n
def Fact.fits (F : Fact) (r : CRes) : Bool := match r with
  | .ok v s => beqA F.v v && Nat.beq F.nx' s.nx && matchH s.h F.post
  | .bad => false
def Fact.check (orc : Orc) (fs : List Fact) (hints : Nat → Option Hint) (fuel n : Nat) (F : Fact) : Bool := F.fits ((selfX P orc fs hints fuel n).call F.f F.args (litSt F.pre F.nx))
/-- A function's end: is it what is looked for? -/
def finishF (F : Fact) (fr : FVal) : K := fun x t s ds => match F.fits (finish fr x t s ds) with | true => .ok (.tup []) s | false => .bad
def Self.many (sf : Self) : Self := ⟨sf.call, sf.round, sf.fuel, sf.hint, true⟩
def isOk (r : CRes) : Bool := match r with | .ok _ _ => true | .bad => false
/-- The same where maps are looked through in each of their orders. -/
def Fact.checkM (orc : Orc) (fs : List Fact) (hints : Nat → Option Hint) (fuel n : Nat) (F : Fact) : Bool := match P.funcs[F.f]? with
  | some fn => (match fn.body with
    | some c => isOk ((fcode P fn.ntmps c).go (selfX P orc fs hints fuel n).many none (initTm F.args) (litSt F.pre F.nx) [] (finishF F (fres P fn.results.toList)))
    | none => false)
  | none => false

end

variable {P : Program} {σ : Sg} {ρ ρ' : Ren} {s s' : St} {w w' : World}

theorem litH_get : ∀ {l : Lst} {b : Nat} {o : AObj}, (litH l).get b = some o → (b, o) ∈ l
  | [], b, o, h => by
    have : (Q.e : Q AObj).get b = some o := h
    rw [Q.get_e] at this
    cases this
  | (b', o') :: l, b, o, h => by
    have : ((litH l).set b' o').get b = some o := h
    rw [Q.get_set] at this
    split at this
    · rename_i e; cases this; subst e; simp
    · exact List.mem_cons_of_mem _ (litH_get this)
theorem matchH_at {h : Q AObj} : ∀ {l : Lst}, matchH h l = true → ∀ {b o}, (b, o) ∈ l → ∃ o', h.get b = some o' ∧ sameObj o o' = true
  | [], _, _, _, hm => by cases hm
  | (b', o') :: l, hh, b, o, hm => by
    simp only [matchH, Bool.and_eq_true] at hh
    rcases List.mem_cons.1 hm with e | hm
    · cases e
      have h1 := hh.1
      split at h1
      · rename_i o'' ho; exact ⟨o'', ho, h1⟩
      · cases h1
    · exact matchH_at hh.2 hm

/-- s holds what is listed. -/
structure Holds (l : Lst) (nx : Nat) (s : St) : Prop where
  get : ∀ b o, (litSt l nx).h.get b = some o → ∃ o', s.h.get b = some o' ∧ sameObj o o' = true
  nx : s.nx = nx
theorem holds_of {l : Lst} {nx : Nat} (h : matchH s.h l = true) (hn : Nat.beq nx s.nx = true) : Holds l nx s :=
  ⟨fun b o hb => matchH_at h (litH_get hb), (Nat.eq_of_beq_eq_true hn).symm⟩
theorem Holds.rel {l : Lst} {nx : Nat} (h : Holds l nx s) (hR : Rel P σ ρ s w) : Rel P σ ρ (litSt l nx) w := by
  have hnx : (litSt l nx).nx = s.nx := h.nx.symm
  refine ⟨fun b o hb => ?_, fun b b' o o' l1 l2 hb hb' => ?_, fun b hb => hR.fresh b (by rw [← hnx]; exact hb), hR.glob, fun b o hb => ?_⟩
  · obtain ⟨o', h1, h2⟩ := h.get b o hb
    obtain ⟨loc, x, g1, g2, g3⟩ := hR.obj b o' h1
    exact ⟨loc, x, g1, g2, sameObj_R h2 g3⟩
  · obtain ⟨_, h1, _⟩ := h.get b o hb
    obtain ⟨_, h2, _⟩ := h.get b' o' hb'
    exact hR.inj _ _ _ _ _ _ h1 h2
  · obtain ⟨_, h1, _⟩ := h.get b o hb
    rw [hnx]
    exact hR.dom _ _ h1
theorem Holds.own {l : Lst} {nx : Nat} (h : Holds l nx s) (ho : Own ρ ρ' (litSt l nx) s' w) : Own ρ ρ' s s' w := by
  have hnx : (litSt l nx).nx = s.nx := h.nx.symm
  refine ⟨ho.le, by rw [← hnx]; exact ho.nx, fun b o lo hb hr hl => ?_, fun b hb => ho.same b (by rw [hnx]; exact hb), fun b o lo hb hl => ?_⟩
  · rcases ho.own b o lo hb hr hl with ⟨b0, o0, l0, g0, r0, e0, eq0⟩ | hge
    · obtain ⟨o1, h1, h2⟩ := h.get b0 o0 g0
      exact .inl ⟨b0, o1, l0, h1, by rw [← sameObj_rom h2]; exact r0, e0, eq0⟩
    · exact .inr hge
  · rcases ho.all b o lo hb hl with ⟨b0, o0, l0, g0, e0, eq0⟩ | hge
    · obtain ⟨o1, h1, _⟩ := h.get b0 o0 g0
      exact .inl ⟨b0, o1, l0, h1, e0, eq0⟩
    · exact .inr hge
theorem Holds.frm {l : Lst} {nx : Nat} (h : Holds l nx s) (hf : Frm ρ (litSt l nx) w w') : Frm ρ s w w' :=
  ⟨hf.size, fun B hB hn => hf.keep B hB fun b o lo hb hr hl => by
    obtain ⟨o1, h1, h2⟩ := h.get b o hb
    exact hn b o1 lo h1 (by rw [← sameObj_rom h2]; exact hr) hl, hf.os, hf.out, hf.tape⟩
/-- What comes out, listed. -/
theorem Holds.out {l : Lst} {nx : Nat} (h : Holds l nx s') (ho : Own ρ ρ' s s' w) : Own ρ ρ' s (litSt l nx) w := by
  have hnx : (litSt l nx).nx = s'.nx := h.nx.symm
  refine ⟨ho.le, by rw [hnx]; exact ho.nx, fun b o lo hb hr hl => ?_, ho.same, fun b o lo hb hl => ?_⟩
  · obtain ⟨o1, h1, h2⟩ := h.get b o hb
    exact ho.own b o1 lo h1 (by rw [← sameObj_rom h2]; exact hr) hl
  · obtain ⟨o1, h1, _⟩ := h.get b o hb
    exact ho.all b o1 lo h1 hl

structure FactOK (P : Program) (σ : Sg) (F : Fact) : Prop where
  body : ∃ fn c, P.funcs[F.f]? = some fn ∧ fn.body = some c
  call : ∀ (n : Nat) (ρ : Ren) (w : World) (cargs : Array Value), Rel P σ ρ (litSt F.pre F.nx) w → VRL σ ρ F.args cargs.toList →
    CallsIn Fence.wide n P F.f cargs w (Ret P σ ρ (litSt F.pre F.nx) w F.v (litSt F.post F.nx'))

theorem Fact.ok {F : Fact} {sf : Self} (hS : SelfOK P σ sf) (h : F.fits (sf.call F.f F.args (litSt F.pre F.nx)) = true) : FactOK P σ F := by
  unfold Fact.fits at h
  split at h
  · rename_i v s1 hr
    simp only [Bool.and_eq_true] at h
    obtain ⟨⟨h1, h2⟩, h3⟩ := h
    have e1 := beqA_eq h1
    subst e1
    have hh := holds_of h3 h2
    refine ⟨hS.body _ _ _ _ _ hr, fun n ρ w cargs hR hA => CallsIn.mono (F := Fence.wide) (hS.call _ _ _ _ _ hr n ρ w cargs hR hA) fun e w' he => ?_⟩
    cases e with
    | returned cv =>
      obtain ⟨ρ', g0, g1, g2, g3⟩ := he
      exact ⟨ρ', g0, hh.rel g1, hh.out g2, g3⟩
    | panicked c => exact he
    | outgrown => exact he
  · cases h

theorem tryF_ok {f : FuncId} {args : List AV} {r : CRes} {v : AV} : ∀ {fs : List Fact}, tryF f args s r fs = .ok v s' → r = .ok v s' ∨ ∃ F ∈ fs, F.f = f ∧ F.hit args s = true ∧ v = F.v ∧ s' = litSt F.post F.nx'
  | [], h => .inl h
  | F :: l, h => by
    simp only [tryF] at h
    split at h
    · rename_i hf
      split at h
      · rename_i hh
        cases h
        exact .inr ⟨F, by simp, Nat.eq_of_beq_eq_true hf, hh, rfl, rfl⟩
      · rcases tryF_ok h with h | ⟨G, hG, h⟩
        · exact .inl h
        · exact .inr ⟨G, by simp [hG], h⟩
    · rcases tryF_ok h with h | ⟨G, hG, h⟩
      · exact .inl h
      · exact .inr ⟨G, by simp [hG], h⟩

/-- What such a way answers, the machine does. -/
def OrcOK (P : Program) (orc : Orc) : Prop := ∀ σ, Plain σ → ∀ f args s v s', orc f args s = some (.ok v s') → (∃ fn c, P.funcs[f]? = some fn ∧ fn.body = some c) ∧
  ∀ (n : Nat) (ρ : Ren) (w : World) (cargs : Array Value), Rel P σ ρ s w → VRL σ ρ args cargs.toList → CallsIn Fence.wide n P f cargs w (Ret P σ ρ s w v s')
theorem noOrc_ok : OrcOK P noOrc := fun _ _ _ _ _ _ _ h => by cases h

theorem selfX_mu (orc : Orc) (fs : List Fact) (hints : Nat → Option Hint) (fuel n : Nat) : (selfX P orc fs hints fuel n).mu = false := by cases n <;> rfl
theorem selfX_ok (hN : NoNum P) (hm : P.follows .mixedOrders = true) {orc : Orc} (horc : OrcOK P orc) {fs : List Fact} (hfs : ∀ σ, Plain σ → ∀ F ∈ fs, FactOK P σ F) (hints : Nat → Option Hint) (fuel : Nat) : ∀ n σ, Plain σ → SelfOK P σ (selfX P orc fs hints fuel n)
  | 0, _, _ => ⟨fun _ _ _ _ _ h => (by cases h), fun _ _ _ _ _ h => (by cases h), fun _ _ _ _ _ h => (by cases h)⟩
  | n+1, σ, hσ => by
    have hS := selfX_ok hN hm horc hfs hints fuel n
    have hmu := selfX_mu (P := P) orc fs hints fuel n
    have key : ∀ f args s v s', (selfX P orc fs hints fuel (n+1)).call f args s = .ok v s' → orc f args s = some (.ok v s') ∨ tryF f args s ((cfun P f).run (selfX P orc fs hints fuel n) args s) fs = .ok v s' := by
      intro f args s v s' h
      change orcEl (orc f args s) (tryF f args s ((cfun P f).run (selfX P orc fs hints fuel n) args s) fs) = .ok v s' at h
      cases ho : orc f args s with
      | none => rw [ho] at h; exact .inr h
      | some r =>
        rw [ho] at h
        have h : r = .ok v s' := h
        exact .inl (by rw [h])
    refine ⟨fun f args s v s' h => ?_, fun f args s v s' h => ?_, fun l args s v s' h n' ρ w x cargs hR hl hA => roundF_ok hmu hS hN hm hσ h hR hl hA⟩
    · rcases key f args s v s' h with h | h
      · exact (horc σ hσ f args s v s' h).1
      · rcases tryF_ok h with h | ⟨F, hF, rfl, _⟩
        · exact (cfun_ok hmu hS hN hm hσ h).1
        · exact (hfs σ hσ F hF).body
    · rcases key f args s v s' h with h | h
      · exact (horc σ hσ f args s v s' h).2
      · rcases tryF_ok h with h | ⟨F, hF, rfl, hh, rfl, rfl⟩
        · exact (cfun_ok hmu hS hN hm hσ h).2
        · intro n' ρ w cargs hR hA
          unfold Fact.hit at hh
          simp only [Bool.and_eq_true] at hh
          obtain ⟨⟨h1, h2⟩, h3⟩ := hh
          have e := all2_eq (fun a b => beqA_eq) h2
          subst e
          have hold := holds_of h3 h1
          refine CallsIn.mono (F := Fence.wide) ((hfs σ hσ F hF).call n' ρ w cargs (hold.rel hR) hA) fun e w' he => ?_
          cases e with
          | returned cv =>
            obtain ⟨ρ', g0, g1, g2, g3⟩ := he
            exact ⟨ρ', g0, g1, hold.own g2, hold.frm g3⟩
          | panicked c => exact he
          | outgrown => exact he
/-- A fact that was checked. -/
theorem Fact.checked (hN : NoNum P) (hm : P.follows .mixedOrders = true) {orc : Orc} (horc : OrcOK P orc) {fs : List Fact} (hfs : ∀ σ, Plain σ → ∀ F ∈ fs, FactOK P σ F) {hints : Nat → Option Hint} {fuel n : Nat} {F : Fact} (h : F.check P orc fs hints fuel n = true) : ∀ σ, Plain σ → FactOK P σ F :=
  fun σ hσ => Fact.ok (selfX_ok hN hm horc hfs hints fuel n σ hσ) h
theorem Self.many_ok {sf : Self} (h : SelfOK P σ sf) : SelfOK P σ sf.many := ⟨h.body, h.call, h.round⟩
theorem Fact.checkedM (hN : NoNum P) (hm : P.follows .mixedOrders = true) {orc : Orc} (horc : OrcOK P orc) {fs : List Fact} (hfs : ∀ σ, Plain σ → ∀ F ∈ fs, FactOK P σ F) {hints : Nat → Option Hint} {fuel n : Nat} {F : Fact} (h : F.checkM P orc fs hints fuel n = true) : ∀ σ, Plain σ → FactOK P σ F := by
  intro σ hσ
  unfold Fact.checkM at h
  split at h
  case h_2 => cases h
  rename_i fn hf
  split at h
  case h_2 => cases h
  rename_i c hb
  refine ⟨⟨fn, c, hf, hb⟩, fun n' ρ w cargs hR hA => ?_⟩
  have hrun : ∃ v s', (fcode P fn.ntmps c).run (selfX P orc fs hints fuel n).many none (initTm F.args) (litSt F.pre F.nx) [] (finishF F (fres P fn.results.toList)) = .ok v s' := by
    unfold isOk at h
    split at h
    · rename_i v s' hr; exact ⟨v, s', hr⟩
    · cases h
  obtain ⟨v, s', hrun⟩ := hrun
  refine cfunM_ok (fun σ hσ => Self.many_ok (selfX_ok hN hm horc hfs hints fuel n σ hσ)) hN hm hσ hf hb hrun hR hA ?_
  intro x ρ1 t1 s1 ds1 w1 v' s2 hk ho hf'
  unfold finishF at hk
  split at hk
  case h_2 => cases hk
  rename_i hfit
  unfold Fact.fits at hfit
  split at hfit
  case h_2 => cases hfit
  rename_i u s3 hfin
  simp only [Bool.and_eq_true] at hfit
  obtain ⟨⟨h1, h2⟩, h3⟩ := hfit
  have e1 := beqA_eq h1
  have hh := holds_of h3 h2
  refine ⟨u, s3, hfin, fun cv w' g0 g1 g2 g3 => ?_⟩
  rw [← e1] at g0
  exact ⟨ρ1, g0, hh.rel g1, hh.out (Own.trans hf' ho g2), Frm.trans hf' ho g3⟩
end Go.AX
