/- Calls that have ways of their own, at this program. -/
import Derived.Test.YtlflbbgilgjghaaGreatDoorAxd
import Derived.Sort.LotA
import Derived.Sort.Row
import Derived.Test.YtlflbbgilgjghaaGreatDoorAxe
import Derived.KernelRfl
import Derived.Test.YtlflbbgilgjghaaGreatDoorAxb
import Derived.Test.YtlflbbgilgjghaaGreatDoorProg
set_option linter.all false
set_option linter.unusedVariables false
set_option linter.unusedSimpArgs false
set_option linter.unusedVariables false
set_option linter.unusedSimpArgs false
namespace Go.AX
open Go
noncomputable section
def keyIds (kd : IntKind) : List AV → Option (List Nat)
  | [] => some []
  | v :: l => match v, keyIds kd l with
    | .key k id, some r => (match kindEq k kd with | true => some (id :: r) | false => none)
    | _, _ => none
def insN (x : Nat) : List Nat → List Nat
  | [] => [x]
  | y :: l => match Nat.ble x y with | true => x :: y :: l | false => y :: insN x l
def sortN : List Nat → List Nat
  | [] => []
  | x :: l => insN x (sortN l)
/-- The call's answer, where the row holds the keys that an iterator gave. -/
def sortA (it : Nat → Option Nat) (kd : IntKind) (args : List AV) (s : St) : Option CRes := match args with
  | [.sl b 0 n c, .int .i64 (.ofNat 0), .int .i64 (.ofNat n')] => (match it b with
    | some r => (match s.h.get r, s.h.get b, readCells s b 0 n with
      | some (.iterK m since kd' ks ids last), some (.cells nn z p mm e x), some vs => (match keyIds kd vs with
        | some ids' => (match Nat.beq n n' && kindEq kd kd' && eqNats ids ids' && Nat.beq ids.length ks.length && Nat.ble n nn && Nat.blt n 4611686018427387904 with
          | true => some (.ok (.tup []) (s.put b (.cells nn z p (setL p mm 0 ((sortN (ks.map (·.1))).map fun n => .int kd (.ofNat n))) e x)))
          | false => some .bad)
        | none => some .bad)
      | _, _, _ => some .bad)
    | none => none)
  | _ => none
end

theorem insN_perm (x : Nat) : ∀ l, (insN x l).Perm (x :: l)
  | [] => .refl _
  | y :: l => by
    unfold insN
    split
    · exact .refl _
    · exact ((insN_perm x l).cons y).trans (.swap x y l)
theorem sortN_perm : ∀ l, (sortN l).Perm l
  | [] => .refl _
  | x :: l => (insN_perm x _).trans ((sortN_perm l).cons x)
theorem insN_sorted {x : Nat} : ∀ {l : List Nat}, l.Pairwise (· ≤ ·) → (insN x l).Pairwise (· ≤ ·)
  | [], _ => by unfold insN; exact List.pairwise_singleton _ _
  | y :: l, h => by
    obtain ⟨h1, h2⟩ := List.pairwise_cons.1 h
    unfold insN
    split
    · rename_i hb
      have hb := Nat.le_of_ble_eq_true hb
      refine List.pairwise_cons.2 ⟨fun z hz => ?_, h⟩
      rcases List.mem_cons.1 hz with rfl | hz
      · exact hb
      · exact Nat.le_trans hb (h1 z hz)
    · rename_i hb
      have hb : ¬ x ≤ y := fun h' => by rw [Nat.ble_eq_true_of_le h'] at hb; cases hb
      refine List.pairwise_cons.2 ⟨fun z hz => ?_, insN_sorted h2⟩
      rcases List.mem_cons.1 ((insN_perm x l).mem_iff.1 hz) with rfl | hz
      · omega
      · exact h1 z hz
theorem sortN_sorted : ∀ l : List Nat, (sortN l).Pairwise (· ≤ ·)
  | [] => List.Pairwise.nil
  | x :: l => insN_sorted (sortN_sorted l)
theorem perm_of_sub {α : Type} [DecidableEq α] : ∀ {l m : List α}, l.Nodup → (∀ x ∈ l, x ∈ m) → l.length = m.length → l.Perm m
  | [], m, _, _, h => by
    have : m = [] := List.length_eq_zero_iff.1 h.symm
    subst this; exact .refl _
  | x :: l, m, hn, hs, h => by
    obtain ⟨h1, h2⟩ := List.nodup_cons.1 hn
    have hm := hs x (List.mem_cons_self ..)
    have ih := perm_of_sub (l := l) (m := m.erase x) h2 (fun y hy => (List.mem_erase_of_ne (fun e => h1 (by rw [← e]; exact hy))).2 (hs y (List.mem_cons_of_mem _ hy)))
      (by rw [List.length_erase_of_mem hm]; simp only [List.length_cons] at h; omega)
    exact (ih.cons x).trans (List.perm_cons_erase hm).symm

variable {P : Program} {σ : Sg} {ρ : Ren} {s s' : St} {w : World}
/-- What the row's numbers are. -/
theorem keys_vals {kd : IntKind} : ∀ {vs : List AV} {ids : List Nat} {cs : List Value}, keyIds kd vs = some ids → VRL σ ρ vs cs → cs.length = ids.length ∧ ∃ ns : List Nat, ns.length = ids.length ∧ cs = ns.map (fun n => Value.int kd (Int.ofNat n)) ∧
    ∀ (j id : Nat), ids[j]? = some id → ∃ l : Loc, ρ id = some l ∧ ns[j]? = some l.blk
  | [], ids, cs, h, hv => by
    cases h
    cases hv
    exact ⟨rfl, [], rfl, rfl, fun j id h => by simp at h⟩
  | v :: vs, ids, _, h, ⟨c, cs, rfl, h1, h2⟩ => by
    simp only [keyIds] at h
    split at h
    · rename_i k id r hr
      split at h
      · rename_i hk
        cases h
        obtain ⟨g1, ns, g2, g3, g4⟩ := keys_vals hr h2
        obtain ⟨l, hl, rfl⟩ := h1
        have hk : k = kd := by cases k <;> cases kd <;> first | rfl | cases hk
        subst hk
        refine ⟨by simp [g1], l.blk :: ns, by simp [g2], by simp [g3], fun j i hj => ?_⟩
        cases j with
        | zero => simp at hj; subst hj; exact ⟨l, hl, rfl⟩
        | succ j => simp at hj; obtain ⟨l', a1, a2⟩ := g4 j i hj; exact ⟨l', a1, by simpa using a2⟩
      · cases h
    · cases h
theorem keyL_pairs {ks : List (Nat × Nat)} : ∀ {D ids : List Nat}, KeyL ρ ks D ids → ∀ ns : List Nat, ns.length = ids.length → (∀ (j id : Nat), ids[j]? = some id → ∃ l : Loc, ρ id = some l ∧ ns[j]? = some l.blk) → ∀ q ∈ ns.zip D, q ∈ ks
  | [], ids, h, ns, _, _, q, hq => by simp at hq
  | d :: D, _, ⟨i, l, rest, rfl, h1, h2, h3⟩, ns, hn, hj, q, hq => by
    cases ns with
    | nil => simp at hn
    | cons a ns =>
      obtain ⟨l', e1, e2⟩ := hj 0 i rfl
      rw [h1] at e1; cases e1
      simp at e2; subst e2
      simp only [List.zip_cons_cons] at hq
      rcases List.mem_cons.1 hq with rfl | hq
      · exact h2
      · exact keyL_pairs h3 ns (by simpa using hn) (fun j id hh => by simpa using hj (j + 1) id (by simpa using hh)) q hq
theorem zip_nodup {α β : Type} : ∀ {l : List α} {m : List β}, m.Nodup → (l.zip m).Nodup
  | [], _, _ => by simp
  | a :: l, [], _ => by simp
  | a :: l, b :: m, h => by
    obtain ⟨h1, h2⟩ := List.nodup_cons.1 h
    rw [List.zip_cons_cons, List.nodup_cons]
    exact ⟨fun hm => h1 (List.of_mem_zip hm).2, zip_nodup h2⟩
theorem map_fst_zip' : ∀ {l m : List Nat}, l.length = m.length → (l.zip m).map (·.1) = l
  | [], [], _ => rfl
  | a :: l, b :: m, h => by simp [map_fst_zip' (l := l) (m := m) (by simpa using h)]

theorem listGet {α : Type} [Inhabited α] {l : List α} {i : Nat} (h : i < l.length) : l.toArray[i]! = l[i] := by simp [h]
theorem sortA_ok {kd : IntKind} {f : FuncId} (hbody : ∃ fn c, P.funcs[f]? = some fn ∧ fn.body = some c)
    (hW : ∀ (blk off cap : Nat) (d : Array Int) (w : World), Sort.Holds (Value.int kd) w blk off d → d.size < 4611686018427387904 →
      Calls P f #[.slice (some ⟨blk, off, none⟩) d.size cap, .int .i64 0, .int .i64 d.size] w fun e w' => e = .returned (.tuple #[]) ∧ ∃ n, w' = Sort.putRow (Value.int kd) (Sort.ahead w n) blk off (Sort.insertionSort Sort.ltInt d 0 d.size))
    {srt : Nat → Option Nat} {args : List AV} {v : AV} (h : sortA srt kd args s = some (.ok v s')) (n : Nat) {cargs : Array Value} (hR : Rel P σ ρ s w) (hA : VRL σ ρ args cargs.toList) : CallsIn Fence.wide n P f cargs w (Ret P σ ρ s w v s') := by
  unfold sortA at h
  split at h
  case h_2 => cases h
  rename_i b len c len'
  split at h
  case h_2 => cases h
  rename_i r hr
  split at h
  case h_2 => cases h
  rename_i m since kd' ks ids last nn z p mm el ext vs hit hb hvs
  split at h
  case h_2 => cases h
  rename_i ids' hids
  split at h
  case h_2 => cases h
  rename_i hc
  cases h
  obtain ⟨hc, hbig⟩ := Bool.and_eq_true_iff.1 hc
  obtain ⟨hc, hle⟩ := Bool.and_eq_true_iff.1 hc
  obtain ⟨hc, hlen⟩ := Bool.and_eq_true_iff.1 hc
  obtain ⟨hc, hide⟩ := Bool.and_eq_true_iff.1 hc
  obtain ⟨hn, _⟩ := Bool.and_eq_true_iff.1 hc
  have hn := Nat.eq_of_beq_eq_true hn
  have hide := eqNats_eq hide
  have hlen := Nat.eq_of_beq_eq_true hlen
  have hle := Nat.le_of_ble_eq_true hle
  have hbig : len < 4611686018427387904 := by simpa [Nat.blt_eq] using hbig
  subst hn hide
  obtain ⟨lr, xr, hlr, hxr, M, D, hM, hz, _, hnd, hkl, rfl⟩ := hR.obj _ _ hit
  obtain ⟨lb, xb, hlb, hxb, cc, fr, rfl, hcells, hsz, hext⟩ := hR.obj _ _ hb
  -- the arguments
  obtain ⟨a0, ar, e0, ⟨lb', cap, hlb', _, rfl⟩, a1, ar1, rfl, hv1, a2, ar2, rfl, hv2, e3⟩ := hA
  rw [hlb] at hlb'; cases hlb'
  simp only [VR] at hv1 hv2
  subst hv1 hv2
  have e3 : ar2 = [] := e3
  subst e3
  have hcargs : cargs = #[.slice (some ⟨lb.blk, lb.base + 0, none⟩) len cap, .int .i64 0, .int .i64 len] := by
    apply Array.ext'
    rw [e0]; rfl
  -- the row's numbers
  obtain ⟨hvl, hvg⟩ := readCells_get hvs
  have hrow : ∃ cs : List Value, VRL σ ρ vs cs ∧ cs.length = len ∧ ∀ i, i < len → cc[lb.base + i]? = cs[i]? := by
    have hy : ∀ i, i < len → ∃ y, cc[lb.base + i]? = some y := fun i hi => by
      obtain ⟨y, h1, _⟩ := hcells i (by omega)
      exact ⟨y, h1⟩
    refine ⟨(List.range len).map fun i => cc.getD (lb.base + i) undef, ?_, by simp, fun i hi => ?_⟩
    · refine VRL.of_get (by simp [hvl]) fun i x hx => ?_
      have hi : i < len := by
        rcases Nat.lt_or_ge i vs.length with h' | h'
        · omega
        · rw [List.getElem?_eq_none h'] at hx; cases hx
      obtain ⟨y, h1, h2⟩ := hcells i (by omega)
      have hread := hvg i hi
      rw [hx] at hread
      unfold readCell at hread
      rw [hb] at hread
      dsimp only at hread
      split at hread
      · rw [Nat.zero_add] at hread
        rw [hread] at h2
        refine ⟨y, ?_, h2⟩
        rw [List.getElem?_map, List.getElem?_range hi]
        simp [Array.getD_eq_getD_getElem?, h1]
      · cases hread
    · obtain ⟨y, h1⟩ := hy i hi
      rw [h1, List.getElem?_map, List.getElem?_range hi]
      simp [Array.getD_eq_getD_getElem?, h1]
  obtain ⟨cs, hcs, hcl, hcg⟩ := hrow
  obtain ⟨g1, ns, g2, g3, g4⟩ := keys_vals hids hcs
  have hidl : ids.length = len := by omega
  have hnl : ns.length = len := by omega
  have hDl := KeyL.length hkl
  have hpairs := keyL_pairs hkl ns g2 g4
  have hperm : ns.Perm (ks.map (·.1)) := by
    have := perm_of_sub (zip_nodup (l := ns) hnd) hpairs (by rw [List.length_zip]; omega)
    have := this.map (·.1)
    rwa [map_fst_zip' (by omega)] at this
  let d : Array Int := (ns.map Int.ofNat).toArray
  have hds : d.size = len := by simp [d, hnl]
  have hdg : ∀ (i : Nat) (hi : i < len), d[i]! = Int.ofNat (ns[i]'(by omega)) := fun i hi => by
    simp only [d]
    rw [listGet (by simp; omega)]
    simp
  have hH : Sort.Holds (Value.int kd) w lb.blk (lb.base + 0) d := by
    intro j hj
    rw [hds] at hj
    have hcj : cc[lb.base + j]? = some (Value.int kd d[j]!) := by
      rw [hcg j hj, g3, List.getElem?_map, List.getElem?_eq_getElem (by omega), hdg j hj]
      rfl
    refine ⟨?_, ?_⟩
    · simp only [World.cell?, hxb, Nat.add_zero, Option.isSome_none, Bool.false_eq_true, if_false, hcj]
    · obtain ⟨f1, f2⟩ := fr
      have : lb.base + j < cc.size := by omega
      simp only [World.frozen?, hxb]
      cases ext <;> simp at hext ⊢ <;> omega
  have hcall := hW lb.blk (lb.base + 0) cap d w hH (by omega)
  rw [hds] at hcall
  rw [hcargs]
  refine callsIn_wide.2 (hcall.mono fun e w' he => ?_)
  obtain ⟨rfl, q, rfl⟩ := he
  -- what the sorted row is
  let t : List Nat := sortN (ks.map (·.1))
  have htp : t.Perm ns := (sortN_perm _).trans hperm.symm
  have htl : t.length = len := by rw [htp.length_eq, hnl]
  have hsort : Sort.insertionSort Sort.ltInt d 0 len = (t.map Int.ofNat).toArray := by
    obtain ⟨k1, k2⟩ := Sort.insertionSort_holds (lt := Sort.ltInt) Sort.swo_ltInt d 0 len (Nat.zero_le _) (by omega)
    have hanti : ∀ x y, Sort.ltInt x y = false → Sort.ltInt y x = false → x = y := fun x y h1 h2 => by
      simp [Sort.ltInt] at h1 h2
      omega
    rw [← hds] at k1 k2
    have u1 := Sort.sorted_unique_holds (lt := Sort.ltInt) Sort.swo_ltInt hanti d _ k1 k2
    have hext0 : ∀ a : Array Int, (a.extract 0 a.size).toList = a.toList := fun a => by simp
    have u2 := Sort.sorted_unique_holds (lt := Sort.ltInt) Sort.swo_ltInt hanti d (t.map Int.ofNat).toArray ⟨by simp [hds, htl], fun i hi => by
      rcases hi with hi | hi
      · omega
      · rw [Array.getElem!_eq_getD, Array.getElem!_eq_getD, Array.getD_eq_getD_getElem?, Array.getD_eq_getD_getElem?, Array.getElem?_eq_none (by simp; omega), Array.getElem?_eq_none hi], by
      rw [hext0, show d.size = (t.map Int.ofNat).toArray.size by simp [hds, htl], hext0]
      simpa [d] using htp.map Int.ofNat⟩ (fun i j _ hij hj => by
        rw [hds] at hj
        rw [listGet (by simp; omega), listGet (by simp; omega)]
        have := List.pairwise_iff_getElem.1 (sortN_sorted (ks.map (·.1))) i j (by show i < t.length; omega) (by show j < t.length; omega) hij
        simp only [List.getElem_map, Sort.ltInt, decide_eq_false_iff_not, Int.not_lt]
        exact Int.ofNat_le.2 this)
    apply Array.ext'
    rw [← hds, u1, ← u2]
  rw [hsort]
  have hlt := hR.lt hb hlb
  have hk : ∀ B, B ≠ lb.blk → (Sort.putRow (Value.int kd) (Sort.ahead w q) lb.blk (lb.base + 0) (t.map Int.ofNat).toArray).heap[B]? = w.heap[B]? := fun B hB => by
    simp only [Sort.putRow, Sort.mapBlock, Sort.heap_ahead]
    rw [Array.getElem?_modify, if_neg (fun h => hB h.symm)]
  have hx' : (Sort.putRow (Value.int kd) (Sort.ahead w q) lb.blk (lb.base + 0) (t.map Int.ofNat).toArray).heap[lb.blk]? = some (.cells (Sort.putCells (Value.int kd) (lb.base + 0) (t.map Int.ofNat).toArray cc) el fr) := by
    simp only [Sort.putRow, Sort.mapBlock, Sort.heap_ahead]
    rw [Array.getElem?_modify, if_pos rfl, hxb]
    rfl
  refine ⟨ρ, ⟨[], rfl, rfl⟩, hR.upd hb hlb hk hx' ?_, Own.put hb rfl, Frm.put hb rfl hlb hk (by simp) rfl rfl rfl⟩
  refine ⟨_, fr, rfl, fun i hi => ?_, by simpa [Sort.putCells] using hsz, by simpa [Sort.putCells] using hext⟩
  obtain ⟨y, h1, h2⟩ := hcells i hi
  have hlt' : lb.base + i < cc.size := by omega
  have hval : (Sort.putCells (Value.int kd) (lb.base + 0) (t.map Int.ofNat).toArray cc)[lb.base + i]? = some (if i < len then Value.int kd ((t.map Int.ofNat).toArray[i]!) else y) := by
    simp only [Sort.putCells, Nat.add_zero]
    rw [Array.getElem?_mapIdx, h1]
    simp only [Option.map_some, Option.some.injEq]
    have : (t.map Int.ofNat).toArray.size = len := by simp [htl]
    rw [this]
    by_cases hil : i < len
    · rw [if_pos (by omega), if_pos hil, show lb.base + i - lb.base = i by omega]
    · rw [if_neg (by omega), if_neg hil]
  refine ⟨_, hval, ?_⟩
  unfold cellAt at h2 ⊢
  rw [setL_get]
  by_cases hil : i < len
  · have hti : i < t.length := by omega
    rw [if_pos ⟨Nat.zero_le _, by rw [List.length_map]; show i < 0 + t.length; omega⟩, if_pos hil]
    rw [Nat.sub_zero, List.getElem?_map, List.getElem?_eq_getElem hti]
    dsimp only [Option.map_some]
    rw [listGet (by simp; omega)]
    simp only [List.getElem_map]
    rfl
  · rw [if_neg (by rw [List.length_map]; show ¬ (0 ≤ i ∧ i < 0 + t.length); omega), if_neg hil]
    exact h2
end Go.AX
set_option linter.unusedVariables false
set_option linter.unusedSimpArgs false
namespace Go.AX
open Go Go.Proofs
noncomputable section
def isWord (v : AV) : Bool := match v with | .int .u64 (.ofNat x) => Nat.blt x 18446744073709551616 | _ => false
def wordN (v : AV) : Nat := match v with | .int _ (.ofNat x) => x | _ => 0
def byteA (x k : Nat) : AV := .int .u8 (.ofNat (Nat.mod (Nat.div x (Nat.pow 2 (Nat.mul k 8))) 256))
def wordB (v : AV) : List AV := let x := wordN v; [byteA x 0, byteA x 1, byteA x 2, byteA x 3, byteA x 4, byteA x 5, byteA x 6, byteA x 7]
/-- The bytes of the words that are not 0, from a place on. -/
def bytesM : Nat → List AV → Q AV → Q AV
  | _, [], q => q
  | j, v :: l, q => match wordN v with
    | 0 => bytesM (Nat.add j 8) l q
    | _ => bytesM (Nat.add j 8) l (setL 1 q j (wordB v))
def bytesA (args : List AV) (s : St) : Option CRes := match args with
  | [.sl b o n c] => (match s.h.get b with
    | some (.cells nn z p m e x) => (match readCells s b o n with
      | some vs => (match vs.all isWord && Nat.blt n 1000000 with
        | true => some (.ok (.sl s.nx 0 (n * 8) (.k (n * 8))) (s.new (.cells (n * 8) [.int .u8 0] 1 (bytesM 0 vs Q.e) 5 false)))
        | false => some .bad)
      | none => some .bad)
    | _ => some .bad)
  | _ => some .bad
end

theorem wordB_get (v : AV) {k : Nat} (h : k < 8) : (wordB v)[k]? = some (byteA (wordN v) k) := by
  unfold wordB
  match k, h with
  | 0, _ => rfl
  | 1, _ => rfl
  | 2, _ => rfl
  | 3, _ => rfl
  | 4, _ => rfl
  | 5, _ => rfl
  | 6, _ => rfl
  | 7, _ => rfl
theorem wordB_length (v : AV) : (wordB v).length = 8 := rfl
theorem bytesM_get : ∀ (l : List AV) (j : Nat) (q : Q AV) (i : Nat), (bytesM j l q).get (keyOf 1 i) = if j ≤ i then (match l[(i - j) / 8]? with | some v => (if wordN v = 0 then q.get (keyOf 1 i) else some (byteA (wordN v) ((i - j) % 8))) | none => q.get (keyOf 1 i)) else q.get (keyOf 1 i)
  | [], j, q, i => by simp [bytesM]
  | v :: l, j, q, i => by
    have step : ∀ q' : Q AV, (bytesM (Nat.add j 8) l q').get (keyOf 1 i) = if j + 8 ≤ i then (match (v :: l)[(i - j) / 8]? with | some v => (if wordN v = 0 then q'.get (keyOf 1 i) else some (byteA (wordN v) ((i - j) % 8))) | none => q'.get (keyOf 1 i)) else q'.get (keyOf 1 i) := by
      intro q'
      rw [bytesM_get l (Nat.add j 8) q' i]
      show (if j + 8 ≤ i then _ else _) = _
      by_cases h : j + 8 ≤ i
      · rw [if_pos h, if_pos h, show (i - j) / 8 = (i - Nat.add j 8) / 8 + 1 by show _ = (i - (j + 8)) / 8 + 1; omega, List.getElem?_cons_succ, show (i - Nat.add j 8) % 8 = (i - j) % 8 by show (i - (j + 8)) % 8 = _; omega]
      · rw [if_neg h, if_neg h]
    have here : j ≤ i → ¬ j + 8 ≤ i → (v :: l)[(i - j) / 8]? = some v ∧ i - j < 8 ∧ (i - j) % 8 = i - j := fun h1 h2 => ⟨by rw [show (i - j) / 8 = 0 by omega]; rfl, by omega, by omega⟩
    have h0 : ∀ (hz : wordN v = 0), bytesM j (v :: l) q = bytesM (Nat.add j 8) l q := fun hz => by
      rw [bytesM]
      split
      · rfl
      · rename_i h; exact absurd hz h
    have h1 : ∀ (hz : wordN v ≠ 0), bytesM j (v :: l) q = bytesM (Nat.add j 8) l (setL 1 q j (wordB v)) := fun hz => by
      rw [bytesM]
      split
      · rename_i e; exact absurd e hz
      · rfl
    by_cases hz : wordN v = 0
    · rw [h0 hz, step]
      by_cases a1 : j + 8 ≤ i
      · have a2 : j ≤ i := by omega
        rw [if_pos a1, if_pos a2]
      · rw [if_neg a1]
        by_cases a2 : j ≤ i
        · rw [if_pos a2, (here a2 a1).1]
          dsimp only
          rw [if_pos hz]
        · rw [if_neg a2]
    · rw [h1 hz, step, setL_get, wordB_length]
      by_cases a1 : j + 8 ≤ i
      · have a2 : j ≤ i := by omega
        have a3 : ¬ (j ≤ i ∧ i < j + 8) := by omega
        rw [if_pos a1, if_pos a2, if_neg a3]
      · rw [if_neg a1]
        by_cases a2 : j ≤ i
        · obtain ⟨b1, b2, b3⟩ := here a2 a1
          have a3 : j ≤ i ∧ i < j + 8 := by omega
          rw [if_pos a2, if_pos a3, b1]
          dsimp only
          rw [if_neg hz, wordB_get v b2, b3]
        · have a3 : ¬ (j ≤ i ∧ i < j + 8) := by omega
          rw [if_neg a2, if_neg a3]
theorem lget {α : Type} [Inhabited α] {l : List α} {i : Nat} (h : i < l.length) : l.toArray[i]! = l[i] := by simp [h]
variable {σ : Sg} {ρ : Ren} {s s' : St} {w : World}
theorem bytesA_ok {args : List AV} {v : AV} (h : bytesA args s = some (.ok v s')) (n : Nat) {cargs : Array Value} (hR : Rel Tryz.prog σ ρ s w) (hA : VRL σ ρ args cargs.toList) : CallsIn Fence.wide n Tryz.prog 482 cargs w (Ret Tryz.prog σ ρ s w v s') := by
  unfold bytesA at h
  split at h
  case h_2 => cases h
  rename_i b o len c
  split at h
  case h_2 => cases h
  rename_i nn z p mm e ext hb
  split at h
  case h_2 => cases h
  rename_i vs hvs
  split at h
  case h_2 => cases h
  rename_i hc
  cases h
  obtain ⟨hall, hbig⟩ := Bool.and_eq_true_iff.1 hc
  have hbig : len < 1000000 := by simpa [Nat.blt_eq] using hbig
  obtain ⟨lb, xb, hlb, hxb, cc, fr, rfl, hcells, hsz, hext⟩ := hR.obj _ _ hb
  obtain ⟨a0, ar, e0, ⟨lb', cap, hlb', _, rfl⟩, e3⟩ := hA
  rw [hlb] at hlb'; cases hlb'
  have e3 : ar = [] := e3
  subst e3
  have hcargs : cargs = #[.slice (some ⟨lb.blk, lb.base + o, none⟩) len cap] := by
    apply Array.ext'
    rw [e0]
  obtain ⟨hvl, hvg⟩ := readCells_get hvs
  have hle : o + len ≤ nn := by
    unfold readCells at hvs
    rw [hb] at hvs
    dsimp only at hvs
    split at hvs
    · rename_i h1; exact Nat.le_of_ble_eq_true h1
    · cases hvs
  have hword : ∀ i (hi : i < len), ∃ x, vs[i]? = some (.int .u64 (.ofNat x)) ∧ x < 18446744073709551616 ∧ cc[lb.base + o + i]? = some (.int .u64 (.ofNat x)) := fun i hi => by
    have h1 : vs[i]? = some (vs[i]'(by omega)) := List.getElem?_eq_getElem (by omega)
    have h2 := List.all_eq_true.1 hall _ (List.getElem_mem (l := vs) (n := i) (by omega))
    unfold isWord at h2
    split at h2
    · rename_i x hx
      rw [hx] at h1
      refine ⟨x, h1, by simpa [Nat.blt_eq] using h2, ?_⟩
      obtain ⟨y, g1, g2⟩ := hcells (o + i) (by omega)
      have hread := hvg i hi
      rw [h1] at hread
      unfold readCell at hread
      rw [hb] at hread
      dsimp only at hread
      split at hread
      · rw [hread] at g2
        rw [Nat.add_assoc, g1]
        exact congrArg some g2
      · cases hread
    · cases h2
  let d : Array Int := (vs.map fun v => Int.ofNat (wordN v)).toArray
  have hds : d.size = len := by simp [d, hvl]
  have hdg : ∀ i, i < len → ∀ x, vs[i]? = some (.int .u64 (.ofNat x)) → d[i]! = Int.ofNat x := fun i hi x hx => by
    simp only [d]
    have hl : i < (vs.map fun v => Int.ofNat (wordN v)).length := by rw [List.length_map]; omega
    rw [lget hl]
    rw [List.getElem?_eq_getElem (by omega)] at hx
    simp only [Option.some.injEq] at hx
    rw [List.getElem_map, hx]
    rfl
  have hH : Sort.Holds (Value.int .u64) w lb.blk (lb.base + o) d := by
    intro j hj
    rw [hds] at hj
    obtain ⟨x, h1, _, h3⟩ := hword j hj
    refine ⟨?_, ?_⟩
    · simp only [World.cell?, hxb, Option.isSome_none, Bool.false_eq_true, if_false, h3, hdg j hj x h1]
    · obtain ⟨f1, f2⟩ := fr
      have : lb.base + o + j < cc.size := by omega
      simp only [World.frozen?, hxb]
      cases ext <;> simp at hext ⊢ <;> omega
  have hcall := Tryz.bytesOf_walk lb.blk (lb.base + o) cap d w hH (fun i hi => by
    rw [hds] at hi
    obtain ⟨x, h1, h2, _⟩ := hword i hi
    rw [hdg i hi x h1]
    exact ⟨Int.natCast_nonneg _, Int.ofNat_lt.2 h2⟩) (by omega)
  rw [hds] at hcall
  rw [hcargs]
  refine callsIn_wide.2 (hcall.mono fun e w' he => ?_)
  obtain ⟨rfl, rfl⟩ := he
  have hle1 := hR.le_put ⟨w.heap.size, 0, 0⟩
  refine ⟨ρ.put s.nx ⟨w.heap.size, 0, 0⟩, ⟨⟨w.heap.size, 0, 0⟩, len * 8, if_pos rfl, ⟨rfl, Nat.le_refl _⟩, rfl⟩, hR.new (l := ⟨w.heap.size, 0, 0⟩) (x := .cells (bytesTo d (len * 8)) 5 (0, 0)) rfl rfl ?_, Own.new hR rfl, Frm.push (x := .cells (bytesTo d (len * 8)) 5 (0, 0)) rfl rfl rfl rfl⟩
  refine ⟨_, _, rfl, fun i hi => ?_, by rw [bytesTo_size, hds]; exact Nat.le_of_eq (Nat.zero_add _), rfl⟩
  rw [Nat.zero_add]
  refine ⟨_, bytesTo_get (by rw [hds]; exact hi), ?_⟩
  rw [if_pos hi]
  obtain ⟨x, g1, g2, _⟩ := hword (i / 8) (by omega)
  have hb : Go.Proofs.byteOf d i = Int.ofNat (x / 2 ^ (i % 8 * 8) % 256) := by
    unfold Go.Proofs.byteOf
    rw [hdg (i / 8) (by omega) x g1]
    rfl
  unfold cellAt
  rw [bytesM_get, if_pos (Nat.zero_le _), Nat.sub_zero, g1]
  dsimp only
  by_cases hz : wordN (.int .u64 (.ofNat x)) = 0
  · have hx : x = 0 := hz
    rw [if_pos hz, Q.get_e]
    have : ([AV.int .u8 0] : List AV)[Nat.mod i 1]? = some (.int .u8 0) := by
      have : Nat.mod i 1 = 0 := Nat.mod_one i
      rw [this]; rfl
    rw [this]
    dsimp only
    show Value.int .u8 _ = .int .u8 0
    rw [hb, hx]
    simp
  · rw [if_neg hz]
    dsimp only
    show Value.int .u8 _ = .int .u8 _
    rw [hb]
    rfl
end Go.AX
set_option linter.unusedVariables false
namespace Go.AX
open Go Go.Proofs
noncomputable section
def lookN {α : Type} (l : List (Nat × α)) (r : Nat) : Option α := List.rec (motive := fun _ => Option α) none (fun p _ ih => Bool.rec (motive := fun _ => Option α) ih (some p.2) (Nat.beq p.1 r)) l
def orcT (srt : List (Nat × Nat)) : Orc := fun f args s =>
  Bool.rec (motive := fun _ => Option CRes) (Bool.rec (motive := fun _ => Option CRes) (Bool.rec (motive := fun _ => Option CRes) none (sortA (lookN srt) .i64 args s) (Nat.beq f 519)) (sortA (lookN srt) .u64 args s) (Nat.beq f 346)) (bytesA args s) (Nat.beq f 482)
def u (n : Nat) : AV := .int .u64 (.ofNat n)
def i (n : Nat) : AV := .int .i64 (.ofNat n)
def b (n : Nat) : AV := .int .u8 (.ofNat n)
def w (n : Nat) : AV := .int .u32 (.ofNat n)
def S (l : List Nat) : AV := .str (l.map UInt8.ofNat)
/-- A table, from runs of cells. -/
def runs (m : Q AV) (l : List (Nat × List AV)) : Q AV := l.foldl (fun m q => setL 1 m q.1 q.2) m
def T (l : List (Nat × List AV)) : Q AV := runs Q.e l
def _root_.Go.AX.AObj.upd (o : AObj) (l : List (Nat × List AV)) : AObj := match o with
  | .cells n z p m e x => .cells n z p (runs m l) e x
  | o => o
end
theorem orcT_ok (srt : List (Nat × Nat)) : OrcOK Tryz.prog (orcT srt) := by
  intro σ hσ f args s v s' h
  unfold orcT at h
  cases h1 : Nat.beq f 482 with
  | true =>
    rw [h1] at h
    have e := Nat.eq_of_beq_eq_true h1
    subst e
    exact ⟨⟨_, _, Tryz.func482, rfl⟩, fun n ρ w cargs hR hA => bytesA_ok h n hR hA⟩
  | false =>
    rw [h1] at h
    dsimp only at h
    cases h2 : Nat.beq f 346 with
    | true =>
      rw [h2] at h
      have e := Nat.eq_of_beq_eq_true h2
      subst e
      refine ⟨⟨_, _, Tryz.func346, rfl⟩, fun n ρ w cargs hR hA => sortA_ok ⟨_, _, Tryz.func346, rfl⟩ (fun blk off cap d w hH hs => ?_) h n hR hA⟩
      exact Tryz.insertionSort_u64 blk off cap 0 d.size d w hH (Nat.zero_le _) (Nat.le_refl _) hs
    | false =>
      rw [h2] at h
      dsimp only at h
      cases h3 : Nat.beq f 519 with
      | true =>
        rw [h3] at h
        have e := Nat.eq_of_beq_eq_true h3
        subst e
        refine ⟨⟨_, _, Tryz.func519, rfl⟩, fun n ρ w cargs hR hA => sortA_ok ⟨_, _, Tryz.func519, rfl⟩ (fun blk off cap d w hH hs => ?_) h n hR hA⟩
        exact Tryz.insertionSort_i64 blk off cap 0 d.size d w hH (Nat.zero_le _) (Nat.le_refl _) hs
      | false =>
        rw [h3] at h
        cases h
theorem fsNil {P : Program} : ∀ σ, Plain σ → ∀ F ∈ ([] : List Fact), FactOK P σ F := fun _ _ _ h => absurd h List.not_mem_nil
theorem fsCons {P : Program} {F : Fact} {l : List Fact} (h : ∀ σ, Plain σ → FactOK P σ F) (t : ∀ σ, Plain σ → ∀ G ∈ l, FactOK P σ G) : ∀ σ, Plain σ → ∀ G ∈ F :: l, FactOK P σ G := fun σ hσ G hG => by
  rcases List.mem_cons.1 hG with rfl | hG
  · exact h σ hσ
  · exact t σ hσ G hG
set_option maxRecDepth 1000000
theorem mixedT : Tryz.prog.follows .mixedOrders = true := by kernel_rfl
end Go.AX
namespace Go.AX
open Go Go.Proofs
set_option maxRecDepth 1000000
theorem noNumAll : Tryz.prog.funcs.toList.all (fun fn => !(fn.name == "runtime.NumGoroutine")) = true := by kernel_rfl
theorem noNumT : NoNum Tryz.prog := by
  intro f fn h
  have h1 : fn ∈ Tryz.prog.funcs.toList := by
    have := Array.mem_of_getElem? h
    simpa using this
  have := List.all_eq_true.1 noNumAll fn h1
  simpa using this
end Go.AX
