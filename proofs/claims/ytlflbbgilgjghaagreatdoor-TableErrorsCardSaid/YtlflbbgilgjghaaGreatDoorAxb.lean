/- The abstract executor: append, every operation; the code. -/
import Derived.Test.YtlflbbgilgjghaaGreatDoorAxa
set_option linter.all false
set_option linter.unusedVariables false
set_option linter.unusedSimpArgs false
set_option linter.unusedVariables false
namespace Go.AX
open Go
variable {P : Program} {σ : Sg} {ρ : Ren} {s : St} {w : World}

/-! ### Aggregates out of parts -/
/-- Parts, read. -/
def VRP (σ : Sg) (ρ : Ren) : List (Nat × AV) → List (Nat × Value) → Prop
  | [], l => l = []
  | (i, a) :: as, l => ∃ v vs, l = (i, v) :: vs ∧ VR σ ρ a v ∧ VRP σ ρ as vs

theorem fold_set (off : Nat) : ∀ (vs : List Value) (n0 : Nat) (cs : Array Value), off + n0 + vs.length ≤ cs.size →
    (vs.zipIdx n0).foldl (fun cs x => cs.setIfInBounds (off + x.2) x.1) cs = (cs.toList.take (off + n0) ++ vs ++ cs.toList.drop (off + n0 + vs.length)).toArray
  | [], n0, cs, h => by simp
  | v :: vs, n0, cs, h => by
    rw [List.zipIdx_cons, List.foldl_cons, fold_set off vs (n0 + 1) _ (by simp at h ⊢; omega)]
    simp only [List.length_cons] at h
    congr 1
    simp only [Array.toList_setIfInBounds]
    rw [List.take_set, List.drop_set_of_lt (by omega)]
    have hlt : off + n0 < cs.toList.length := by simp; omega
    rw [show off + (n0 + 1) = off + n0 + 1 by omega]
    have e1 : (cs.toList.take (off + n0 + 1)).set (off + n0) v = cs.toList.take (off + n0) ++ [v] := by
      have hl : (cs.toList.take (off + n0)).length = off + n0 := by rw [List.length_take]; omega
      rw [List.take_succ_eq_append_getElem hlt, List.set_append, if_neg (by omega), hl, Nat.sub_self]
      rfl
    rw [e1]
    simp only [List.length_cons, List.append_assoc, List.cons_append, List.nil_append]
    rw [show off + n0 + 1 + vs.length = off + n0 + (vs.length + 1) by omega]

theorem VRL.setRange {l c : List AV} {vs cv : List Value} {off : Nat} (hl : VRL σ ρ l vs) (hc : VRL σ ρ c cv) : VRL σ ρ (AX.setRange l off c) (vs.take off ++ cv ++ vs.drop (off + cv.length)) := by
  unfold AX.setRange
  rw [← hc.length]
  exact VRL.append (VRL.append (VRL.take _ hl) hc) (VRL.drop _ hl)

theorem fillA_run (hσ : Plain σ) {place : Nat → Option (Nat × Nat)} : ∀ {parts : List (Nat × AV)} {cparts : List (Nat × Value)} {cells r : List AV} {vs : Array Value},
    VRP σ ρ parts cparts → VRL σ ρ cells vs.toList → fillA place cells parts = some r → ∃ out, Instr.fill place vs cparts = some out ∧ VRL σ ρ r out.toList
  | [], cparts, cells, r, vs, hp, hc, h => by cases hp; cases h; exact ⟨vs, rfl, hc⟩
  | (i, a) :: parts, cparts, cells, r, vs, ⟨v, cps, h0, hv, hp⟩, hc, h => by
    subst h0
    simp only [fillA] at h
    split at h
    · rename_i off size c hpl hca
      split at h
      · rename_i hcond
        obtain ⟨h1, h2⟩ := Bool.and_eq_true_iff.1 hcond
        have h1 := Nat.eq_of_beq_eq_true h1
        have h2 := Nat.le_of_ble_eq_true h2
        have hcv := cellsA_VRL hσ hv hca
        have hlen := hcv.length
        have hlen2 := hc.length
        simp only [Array.length_toList] at hlen hlen2
        have hval : v.cells.zipIdx.foldl (fun cs x => cs.setIfInBounds (off + x.2) x.1) vs = (vs.toList.take off ++ v.cells.toList ++ vs.toList.drop (off + v.cells.toList.length)).toArray := by
          have := fold_set off v.cells.toList 0 vs (by simp; omega)
          rw [← Array.foldl_toList, Array.toList_zipIdx]
          simpa using this
        obtain ⟨out, g1, g2⟩ := fillA_run hσ (vs := (vs.toList.take off ++ v.cells.toList ++ vs.toList.drop (off + v.cells.toList.length)).toArray) hp (by simpa using VRL.setRange hc hcv) h
        refine ⟨out, ?_, g2⟩
        simp only [Instr.fill, hpl]
        rw [if_neg (by simp; omega)]
        rw [← g1]
        congr 1
      · cases h
    · cases h

theorem op_build (hσ : Plain σ) {t : TypeId} {parts : List (Nat × AV)} {cparts : Array (Nat × Value)} {v : AV} {s' : St} (hR : Rel P σ ρ s w) (hp : VRP σ ρ parts cparts.toList) (h : xBuild P s t parts = .val v s') :
    Came P σ ρ s w v s' ((vOf (Instr.build t cparts)).run P w) := by
  unfold xBuild at h
  split at h
  · rename_i z hz
    obtain ⟨zv, z1, z2⟩ := zeroCells_run hσ (ρ := ρ) (w := w) hz
    split at h
    · rename_i fs hu
      split at h
      · rename_i l hall hf
        cases h
        obtain ⟨out, g1, g2⟩ := fillA_run hσ hp z2 hf
        refine .same hR (cv := .agg out) (vOf_run ?_) ⟨out.toList, g2, by simp⟩
        unfold allSized at hall
        rw [hu] at hall
        simp only at hall
        -- the places
        have hplaces : ∀ fl : List Field, (∀ f, f ∈ fl → (P.info? f.type).isSome = true) → (fl.mapM (m := Sem) fun f => do pure (f.offset, ← sizeOf f.type)).run P w = .ok (fl.map fun f => (f.offset, (sizeOfT P f.type).getD 0)) w := by
          intro fl
          induction fl with
          | nil => intro _; simp
          | cons f fl ih =>
            intro hfl
            have h1 := hfl f (List.mem_cons_self ..)
            obtain ⟨i, hi⟩ := Option.isSome_iff_exists.1 h1
            have hs : sizeOfT P f.type = some i.size := by simp [sizeOfT, hi]
            rw [List.mapM_cons]
            simp only [Sem.run_bind, sizeOf_run hs, Result.andThen_ok, Sem.run_pure, ih (fun g hg => hfl g (List.mem_cons_of_mem _ hg)), List.map_cons, hs, Option.getD_some]
        have hm : (fs.mapM (m := Sem) fun f => do pure (f.offset, ← sizeOf f.type)).run P w = .ok (fs.map fun f => (f.offset, (sizeOfT P f.type).getD 0)) w := by
          have := hplaces fs.toList (fun f hf => by
            rw [Array.all_eq_true_iff_forall_mem] at hall
            exact hall f (Array.mem_toList_iff.1 hf))
          rw [Array.mapM_eq_mapM_toList]
          simp only [Sem.run_map, this, Result.andThen_ok]
          congr 1
          apply Array.ext'; simp
        have hpl : (fun i => (fs.map fun f => (f.offset, (sizeOfT P f.type).getD 0))[i]?) = structPlace P t := by
          funext i
          unfold structPlace fieldOf
          rw [hu]
          simp only [Array.getElem?_map]
          cases hfi : fs[i]? with
          | none => rfl
          | some f =>
            have h1 : (P.info? f.type).isSome = true := by
              rw [Array.all_eq_true_iff_forall_mem] at hall
              exact hall f (Array.mem_of_getElem? hfi)
            obtain ⟨inf, hi⟩ := Option.isSome_iff_exists.1 h1
            simp [sizeOfT, hi]
        simp only [Instr.build, Sem.run_bind, z1, Result.andThen_ok, underlying_run hu, hm]
        rw [show (fun x => (fs.map fun f => (f.offset, (sizeOfT P f.type).getD 0))[x]?) = structPlace P t from hpl]
        simp [g1]
      · cases h
    · rename_i n e hu
      split at h
      · rename_i sz hsz
        split at h
        · rename_i l hf
          cases h
          obtain ⟨out, g1, g2⟩ := fillA_run hσ hp z2 hf
          refine .same hR (cv := .agg out) (vOf_run ?_) ⟨out.toList, g2, by simp⟩
          simp [Instr.build, z1, underlying_run hu, sizeOf_run hsz, g1]
        · cases h
      · cases h
    · cases h
  · cases h

theorem rep_VRL {z : List AV} {zv : List Value} (hz : VRL σ ρ z zv) : ∀ n, VRL σ ρ (rep z n) (List.flatten (List.replicate n zv))
  | 0 => rfl
  | n+1 => by
    rw [List.replicate_succ, List.flatten_cons]
    exact VRL.append hz (rep_VRL hz n)
theorem zeros_eq (zc : Array Value) (n : Nat) : ((Array.range (n * zc.size)).map (fun i => zc[i % zc.size]!)).toList = List.flatten (List.replicate n zc.toList) := by
  induction n with
  | zero => simp
  | succ n ih =>
    apply List.ext_getElem?
    intro i
    rw [List.replicate_succ', List.flatten_append, ← ih]
    by_cases hi : i < n * zc.size
    · rw [List.getElem?_append_left (by simpa using hi)]
      simp only [Array.toList_map, List.getElem?_map, Array.toList_range]
      rw [List.getElem?_range (by rw [Nat.succ_mul]; omega), List.getElem?_range hi]
    · have hl : ((Array.range (n * zc.size)).map (fun i => zc[i % zc.size]!)).toList.length = n * zc.size := by simp
      rw [List.getElem?_append_right (by rw [hl]; omega), hl]
      simp only [List.flatten_cons, List.flatten_nil, List.append_nil, Array.toList_map, List.getElem?_map, Array.toList_range, Array.getElem?_toList]
      by_cases h2 : i < (n + 1) * zc.size
      · rw [List.getElem?_range h2]
        simp only [Option.map_some]
        rw [Nat.succ_mul] at h2
        have hlt : i - n * zc.size < zc.size := by omega
        have hm : i % zc.size = i - n * zc.size := by
          have : i = (i - n * zc.size) + zc.size * n := by rw [Nat.mul_comm zc.size n]; omega
          rw [this, Nat.add_mul_mod_self_left, Nat.mod_eq_of_lt (by omega)]
          rw [Nat.mul_comm zc.size n]; omega
        rw [hm, getElem!_pos zc _ hlt, Array.getElem?_eq_getElem hlt]
      · have : (List.range ((n + 1) * zc.size))[i]? = none := List.getElem?_eq_none (by simp; omega)
        rw [this]
        rw [Nat.succ_mul] at h2
        rw [Array.getElem?_eq_none (by omega)]
        rfl

theorem op_buildSlice (hσ : Plain σ) {t : TypeId} {len : Nat} {parts : List (Nat × AV)} {cparts : Array (Nat × Value)} {v : AV} {s' : St} (hR : Rel P σ ρ s w) (hp : VRP σ ρ parts cparts.toList)
    (h : xBuildSlice P s t len parts = .val v s') : Came P σ ρ s w v s' ((vOf (Instr.buildSlice t len cparts)).run P w) := by
  unfold xBuildSlice at h
  split at h
  · rename_i e he
    split at h
    · rename_i z sz hz hsz
      split at h
      · rename_i cs hcond hf
        cases h
        obtain ⟨h1, h2⟩ := Bool.and_eq_true_iff.1 hcond
        have h1 := Nat.eq_of_beq_eq_true h1
        have h2 := Nat.le_of_ble_eq_true h2
        obtain ⟨zv, z1, z2⟩ := zeroCells_run hσ (ρ := ρ) (w := w) hz
        have hzs : zv.cells.size = sz := by have := z2.length; simp at this; omega
        have hrep := rep_VRL z2 len
        rw [← zeros_eq, hzs] at hrep
        obtain ⟨out, g1, g2⟩ := fillA_run hσ hp hrep hf
        refine came_row hR g2 (w' := { w with heap := w.heap.push (.cells out e) }) rfl rfl rfl rfl (cv := .slice (some ⟨w.heap.size, 0, none⟩) len len) (vOf_run ?_) ⟨⟨w.heap.size, 0, 0⟩, len, by simp [Ren.put], ⟨rfl, Nat.le_refl _⟩, by simp⟩
        simp only [Instr.buildSlice, Sem.run_bind, underlying_run (elemOf_run he), Result.andThen_ok, sizeOf_run hsz]
        rw [if_neg (by show ¬ (len * sz > 16777216); omega)]
        by_cases h0 : len * sz = 0
        · have e0 : (Array.range (len * sz)).map (fun x => (#[] : Array Value)[x % (#[] : Array Value).size]!) = (Array.range (len * sz)).map (fun i => zv.cells[i % sz]!) := by
            have r0 : ∀ f : Nat → Value, (Array.range 0).map f = #[] := fun f => Array.ext' (by simp)
            rw [h0, r0, r0]
          rw [if_pos h0]
          rw [Sem.run_bind, Sem.run_pure, Result.andThen_ok]
          rw [e0, g1]
          simp [newRow_run]
        · rw [if_neg h0]
          simp only [Sem.run_bind, z1, Result.andThen_ok, Sem.run_pure, hzs]
          simp [g1, newRow_run]
      · cases h
    · cases h
  · cases h
end Go.AX
set_option linter.unusedVariables false
namespace Go.AX
open Go
variable {P : Program} {σ : Sg} {ρ : Ren} {s : St} {w : World}

/-- Storing a number of cells in a block. -/
theorem storeCells_blk {B : Nat} {e : TypeId} {fr : Nat × Nat} {off : Nat} : ∀ (ys : List Value) (i0 : Nat) (c : Array Value) (w : World), w.heap[B]? = some (.cells c e fr) → off + i0 + ys.length ≤ c.size →
    (fr.1 = fr.2 ∨ c.size ≤ fr.1) → (∀ y ∈ ys, y.oneCell' = true) →
    ∃ w' c', (storeCells ⟨B, off, none⟩ ys i0).run P w = .ok () w' ∧ w'.heap[B]? = some (.cells c' e fr) ∧ c'.size = c.size ∧ w'.heap.size = w.heap.size ∧ (∀ B', B' ≠ B → w'.heap[B']? = w.heap[B']?) ∧
      (∀ j, c'[j]? = if off + i0 ≤ j ∧ j < off + i0 + ys.length then ys[j - (off + i0)]? else c[j]?) ∧ w'.os = w.os ∧ w'.output = w.output ∧ w'.tape = w.tape
  | [], i0, c, w, hB, _, _, _ => ⟨w, c, by simp [storeCells], hB, rfl, rfl, fun _ _ => rfl, fun j => by rw [if_neg (by simp)], rfl, rfl, rfl⟩
  | y :: ys, i0, c, w, hB, hsz, hfr, hone => by
    simp only [List.length_cons] at hsz
    have hlt : off + i0 < c.size := by omega
    have hcell : w.cell? ⟨B, off + i0, none⟩ = some c[off + i0] := by simp [World.cell?, hB, hlt]
    have hnf : w.frozen? ⟨B, off + i0, none⟩ = false := by
      obtain ⟨f1, f2⟩ := fr
      simp only [World.frozen?, hB]
      simp at hfr ⊢; omega
    have h1 : (store ⟨B, off + i0, none⟩ y).run P w = .ok () (w.setCell ⟨B, off + i0, none⟩ y) := by
      rw [run_store _ _ _ _ _ (hone y (List.mem_cons_self ..))]
      simp [hcell, hnf]
    have hB' : (w.setCell ⟨B, off + i0, none⟩ y).heap[B]? = some (.cells (c.setIfInBounds (off + i0) y) e fr) := by
      simp only [World.setCell]
      rw [Array.getElem?_modify]
      simp [hB]
    obtain ⟨w', c', g1, g2, g3, g4, g5, g6, g7, g8, g9⟩ := storeCells_blk (off := off) ys (i0 + 1) _ _ hB' (by simp; omega) (by simpa using hfr) (fun z hz => hone z (List.mem_cons_of_mem _ hz))
    refine ⟨w', c', ?_, g2, by simpa using g3, by rw [g4, setCell_heap_size], fun B' hne => ?_, fun j => ?_, g7, g8, g9⟩
    · simp only [storeCells, Sem.run_bind, add_none]
      rw [h1]
      simpa using g1
    · rw [g5 B' hne]
      simp only [World.setCell]
      rw [Array.getElem?_modify, if_neg (fun h => hne h.symm)]
    · rw [g6 j]
      simp only [List.length_cons]
      by_cases hj : j = off + i0
      · subst hj
        rw [if_neg (by omega), if_pos (by omega)]
        simp [hlt]
      · by_cases hin : off + (i0 + 1) ≤ j ∧ j < off + (i0 + 1) + ys.length
        · rw [if_pos hin, if_pos (by omega)]
          rw [show j - (off + i0) = (j - (off + (i0 + 1))) + 1 by omega]
          simp
        · rw [if_neg hin, if_neg (by omega), Array.getElem?_setIfInBounds_ne (by omega)]

/-- A block is given up for one at the same place. -/
theorem Rel.move (hR : Rel P σ ρ s w) {b : Nat} {o0 o : AObj} {l l' : Loc} {w' : World} {x : Obj} (hb : s.h.get b = some o0) (hr0 : o0.isRom = false) (hl : ρ b = some l) (hl' : l'.blk = l.blk)
    (hk : ∀ B, B ≠ l.blk → w'.heap[B]? = w.heap[B]?) (ho : w'.heap[l.blk]? = some x) (hr : ObjR P σ (ρ.put s.nx l') s.nx l' o x) (hz : w'.heap.size = w.heap.size) (h1 : w'.os = w.os) (h2 : w'.output = w.output) (h3 : w'.tape = w.tape) :
    Rel P σ (ρ.put s.nx l') ((St.mk (s.h.del b) s.nx).new o) w' ∧ Own ρ (ρ.put s.nx l') s ((St.mk (s.h.del b) s.nx).new o) w ∧ Frm ρ s w w' := by
  have hle := hR.le_put l'
  have hnew : (ρ.put s.nx l') s.nx = some l' := by simp [Ren.put]
  have hget : ∀ j, ((St.mk (s.h.del b) s.nx).new o).h.get j = if j = s.nx then some o else if j = b then none else s.h.get j := fun j => by
    rw [new_get]
    simp only [Q.get_del]
  have hold : ∀ {b1 o1 l1}, s.h.get b1 = some o1 → (ρ.put s.nx l') b1 = some l1 → b1 ≠ s.nx ∧ ρ b1 = some l1 := fun {b1 o1 l1} h h1 => by
    have := hR.dom _ _ h
    have hne : b1 ≠ s.nx := by omega
    exact ⟨hne, by simpa [Ren.put, hne] using h1⟩
  refine ⟨⟨fun b' o' h => ?_, fun b1 b2 o1 o2 l1 l2 g1 g2 e1 e2 he => ?_, fun b1 h => ?_, fun g hg => hle _ _ (hR.glob g hg), fun b' o' h => ?_⟩, ⟨hle, Nat.le_succ _, fun b' o' l1 h h1 h2 => ?_, fun b' h => if_neg (by omega), fun b' o' l1 h h2 => ?_⟩, .put hb hr0 hl hk hz h1 h2 h3⟩
  · rw [hget] at h
    split at h
    · rename_i he; subst he; cases h
      exact ⟨l', x, hnew, by rw [hl']; exact ho, hr⟩
    · split at h
      · cases h
      · rename_i hn1 hn2
        obtain ⟨l1, x1, hl1, hx1, hr1⟩ := hR.obj _ _ h
        exact ⟨l1, x1, hle _ _ hl1, by rw [hk _ (fun he => hn2 (hR.inj _ _ _ _ _ _ h hb hl1 hl he))]; exact hx1, hr1.mono hle⟩
  · rw [hget] at g1 g2
    split at g1
    · rename_i a1
      subst a1
      rw [hnew] at e1; cases e1
      split at g2
      · rename_i a2; exact a2.symm
      · split at g2
        · cases g2
        · rename_i n1 n2
          exact absurd (hR.inj _ _ _ _ _ _ g2 hb (hold g2 e2).2 hl (by rw [← he, hl'])) n2
    · split at g1
      · cases g1
      · rename_i m1 m2
        split at g2
        · rename_i a2
          subst a2
          rw [hnew] at e2; cases e2
          exact absurd (hR.inj _ _ _ _ _ _ g1 hb (hold g1 e1).2 hl (by rw [he, hl'])) m2
        · split at g2
          · cases g2
          · exact hR.inj _ _ _ _ _ _ g1 g2 (hold g1 e1).2 (hold g2 e2).2 he
  · have : ((St.mk (s.h.del b) s.nx).new o).nx = s.nx + 1 := rfl
    rw [this] at h
    simp only [Ren.put]
    rw [if_neg (by omega)]
    exact hR.fresh _ (by omega)
  · have hnx : ((St.mk (s.h.del b) s.nx).new o).nx = s.nx + 1 := rfl
    rw [hget] at h
    rw [hnx]
    split at h
    · omega
    · split at h
      · cases h
      · have := hR.dom _ _ h; omega
  · rw [hget] at h
    split at h
    · rename_i he; subst he
      rw [hnew] at h2; cases h2
      exact .inl ⟨b, o0, l, hb, hr0, hl, hl'.symm⟩
    · split at h
      · cases h
      · exact .inl ⟨b', o', l1, h, h1, (hold h h2).2, rfl⟩
  · rw [hget] at h
    split at h
    · rename_i he; subst he
      rw [hnew] at h2; cases h2
      exact .inl ⟨b, o0, l, hb, hl, hl'.symm⟩
    · split at h
      · cases h
      · exact .inl ⟨b', o', l1, h, (hold h h2).2, rfl⟩

/-! ### The model's append -/
theorem growBy_le (newLen : Nat) : ∀ (r c : Nat), 256 ≤ c → c ≤ newLen → Builtin.growBy newLen r c ≤ 3 * newLen
  | 0, c, _, h => by simp [Builtin.growBy]; omega
  | r+1, c, h1, h2 => by
    simp only [Builtin.growBy]
    split
    · omega
    · rename_i hlt
      by_cases hle : c + (c + 768) / 4 ≤ newLen
      · exact growBy_le newLen r _ (by omega) hle
      · have : ∀ r d, newLen ≤ d → Builtin.growBy newLen r d = d := by
          intro r d hd
          cases r with
          | zero => rfl
          | succ r => simp only [Builtin.growBy]; rw [if_pos hd]
        rw [this _ _ (by omega)]
        omega
theorem nextslicecap_le {need old : Nat} (h : old < need) : Builtin.nextslicecap need old ≤ 4 * need := by
  unfold Builtin.nextslicecap
  split
  · omega
  · split
    · omega
    · have := growBy_le need 4 old (by omega) (by omega)
      omega

theorem lenA_run {x : AV} {cx : Value} {n : Nat} (hx : VR σ ρ x cx) (h : lenA x = some n) : (Builtin.lenOf cx).run P w = .ok n w := by
  unfold lenA at h
  split at h
  · cases h; obtain ⟨l, c, _, _, rfl⟩ := hx; simp [Builtin.lenOf]
  · cases h; simp only [VR] at hx; subst hx; simp [Builtin.lenOf]
  · cases h; obtain ⟨a, c, rfl⟩ := hx; simp [Builtin.lenOf]
  · cases h; simp only [VR] at hx; subst hx; simp [Builtin.lenOf]; rfl
  · cases h

section
variable {ts : Array TypeId} {st xt e : TypeId} {es by_ : Nat} {ty : TypeId}
theorem notInt {t : TypeId} (h : isIntT P t = some false) : (∃ e, P.underlying t = some (.slice e)) ∨ P.underlying t = some .string := by
  unfold isIntT at h
  split at h
  · cases h
  · rename_i e hd; exact .inl ⟨e, hd⟩
  · rename_i hd; exact .inr hd
  · cases h

theorem append_fit (h0 : ts[0]? = some st) (h1 : ts[1]? = some xt) (hst : P.underlying st = some (.slice e)) (hxt : isIntT P xt = some false) (hes : sizeOfT P e = some es)
    {base : Option Addr} {xl cap yl : Nat} {cy : Value} {w w' : World} {new : Array Value} (hy : (Builtin.lenOf cy).run P w = .ok yl w) (hle : xl + yl ≤ cap)
    (hf : (Builtin.firstCells es yl cy).run P w = .ok new w)
    (hstore : ∀ a, base = some a → (storeCells (a.add (xl * es)) new.toList).run P w = .ok () w') (hnone : base = none → w' = w) :
    (Builtin.append_ ts ty #[.slice base xl cap, cy]).run P w = .ok (.slice base (xl + yl) cap) w' := by
  have hn : xl + yl ≤ cap := hle
  cases base with
  | none =>
    cases hnone rfl
    rcases notInt hxt with ⟨_, hd⟩ | hd <;>
      simp [Builtin.append_, h0, h1, underlying_run hst, underlying_run hd, sizeOf_run hes, hy, hn, hf]
  | some a =>
    rcases notInt hxt with ⟨_, hd⟩ | hd <;>
      simp [Builtin.append_, h0, h1, underlying_run hst, underlying_run hd, sizeOf_run hes, hy, hn, hf, hstore a rfl]

/-- The world after a draw for an append's row. -/
def grown (w : World) (need cap : Nat) (e : TypeId) : Nat := (Question.appendCap need cap e).cut (w.tape w.drawn (.appendCap need cap e))
theorem grown_le (w : World) (need cap : Nat) (e : TypeId) : need ≤ grown w need cap e := by show need ≤ need + _ % _; omega

theorem append_grow (h0 : ts[0]? = some st) (h1 : ts[1]? = some xt) (hst : P.underlying st = some (.slice e)) (hxt : isIntT P xt = some false) (hes : sizeOfT P e = some es) (hby : bytesOfT P e = some by_)
    {base : Option Addr} {xl cap yl : Nat} {cy zv : Value} {w : World} {old new : Array Value} (hy : (Builtin.lenOf cy).run P w = .ok yl w) (hlt : cap < xl + yl)
    (hbig : (xl + yl) * (4 * by_ + 1) ≤ 281474976710656) (hz : ∀ w' : World, (zeroValue e).run P w' = .ok zv w')
    (hold : (Builtin.firstCells es xl (.slice base xl cap)).run P w.drew = .ok old w.drew)
    (hnew : (Builtin.firstCells es yl cy).run P w.drew = .ok new w.drew) :
    (Builtin.append_ ts ty #[.slice base xl cap, cy]).run P w = .ok (.slice (some ⟨w.heap.size, 0, none⟩) (xl + yl) (grown w (xl + yl) cap e))
      (w.drew.alloc (.cells (old ++ (new ++ Builtin.zeroCells zv.cells (grown w (xl + yl) cap e - (xl + yl)))) e)) := by
  obtain ⟨i, hi, hib⟩ := info_of_bytes hby
  have hn : ¬ (xl + yl ≤ cap) := by omega
  have hb : (xl + yl) * (4 * by_) ≤ 281474976710656 ∧ xl + yl ≤ 281474976710656 := by
    rw [Nat.mul_add, Nat.mul_one] at hbig; omega
  have h63 : ¬ (9223372036854775807 < ((xl : Int) + (yl : Int))) := by omega
  have h48 : ¬ (281474976710656 < Builtin.nextslicecap (xl + yl) cap * i.bytes) := by
    have h2 := nextslicecap_le hlt
    have h3 : Builtin.nextslicecap (xl + yl) cap * i.bytes ≤ 4 * (xl + yl) * i.bytes := Nat.mul_le_mul_right _ h2
    rw [hib] at h3 ⊢
    have h4 : 4 * (xl + yl) * by_ = (xl + yl) * (4 * by_) := by rw [Nat.mul_comm 4, Nat.mul_assoc]
    omega
  have hq : (Question.appendCap (xl + yl) cap e).forced = false := rfl
  rcases notInt hxt with ⟨_, hd⟩ | hd <;>
    (simp [Builtin.append_, h0, h1, underlying_run hst, underlying_run hd, sizeOf_run hes, typeInfo_run hi, hy, hn, h63, h48, hq, hold, hnew, hz, newRow_run]
     exact ⟨rfl, rfl⟩)
end

theorem append_zeros {ts : Array TypeId} {st xt e : TypeId} {es N : Nat} {ty : TypeId} (h0 : ts[0]? = some st) (h1 : ts[1]? = some xt) (hst : P.underlying st = some (.slice e)) {kk k : IntKind} (hxk : P.underlying xt = some (.int kk)) (hes : sizeOfT P e = some es)
    {i : TypeInfo} (hi : P.info? e = some i) {zv : Value} (hzs : zv.cells.size = es) (hpos : 0 < N) (hwrap : IntKind.i64.wrap ((N : Nat) : Int) = ((N : Nat) : Int)) (hN : N ≤ 281474976710656) (hmul : N * i.bytes ≤ 281474976710656)
    (hzv : ∀ w' : World, (zeroValue e).run P w' = .ok zv w') :
    (Builtin.append_ ts ty #[.slice none 0 0, .int k ((N : Nat) : Int)]).run P w = .ok (.slice (some ⟨w.heap.size, 0, none⟩) (0 + N) (grown w (0 + N) 0 e))
      (w.drew.alloc (.cells (([] : List Value).toArray ++ ((Builtin.zeroCells zv.cells N).toList.toArray ++ Builtin.zeroCells zv.cells (grown w (0 + N) 0 e - (0 + N)))) e)) := by
  have hq' : (Question.appendCap N 0 e).forced = false := rfl
  have hw0 : ¬ (((N : Nat) : Int) < 0) := by omega
  have hw1 : ¬ ((281474976710656 : Int) < ((N : Nat) : Int) * (i.bytes : Int)) := by
    rw [← Int.natCast_mul]; omega
  have hn1 : Builtin.nextslicecap N 0 = N := by simp [Builtin.nextslicecap]; omega
  have hn2 : ¬ (281474976710656 < N * i.bytes) := by omega
  have hcap : ¬ (9223372036854775807 < ((N : Nat) : Int)) := by omega
  have hne : ¬ N = 0 := by omega
  have hemp : es = 0 → Builtin.zeroCells zv.cells N = #[] := by
    intro h
    have h2 : zv.cells.size = 0 := by omega
    apply Array.ext'
    simp [Builtin.zeroCells, h2]
  by_cases hz0 : es = 0
  · rw [hemp hz0]
    subst hz0
    simp [Builtin.append_, h0, h1, underlying_run hst, underlying_run hxk, sizeOf_run hes, typeInfo_run hi, asInt, asIntOf, hwrap, hw0, hw1, hn1, hn2, hne, hcap, hq', hzv, Builtin.firstCells, newRow_run]
    exact ⟨rfl, rfl⟩
  · simp [Builtin.append_, h0, h1, underlying_run hst, underlying_run hxk, sizeOf_run hes, typeInfo_run hi, asInt, asIntOf, hwrap, hw0, hw1, hn1, hn2, hne, hcap, hq', hzv, Builtin.firstCells, newRow_run]
    rw [if_neg (fun h => by rcases Nat.mul_eq_zero.1 h with h | h <;> omega)]
    rfl

theorem came_grown (hR : Rel P σ ρ s w) {s1 : St} (hs : ∀ b o, s1.h.get b = some o → s.h.get b = some o) (hn : s1.nx = s.nx) {xl yl es p cap : Nat} {z : List AV} {m : Q AV} {e : TypeId} {old new : List Value} {zc : Array Value}
    (ho : old.length = xl * es) (hw : new.length = yl * es) (hold : ∀ i, i < xl * es → ∃ x, cellAt z p m i = some x ∧ ∃ y, old[i]? = some y ∧ VR σ ρ x y)
    (hnew : ∀ i, i < yl * es → ∃ x, cellAt z p m (xl * es + i) = some x ∧ ∃ y, new[i]? = some y ∧ VR σ ρ x y) (hz : zc.size = es) (hes : sizeOfT P e = some es) (hc : xl + yl ≤ cap) {res : Result Next}
    (hres : res = .ok (.value (.slice (some ⟨w.heap.size, 0, none⟩) (xl + yl) cap)) (w.drew.alloc (.cells (old.toArray ++ (new.toArray ++ Builtin.zeroCells zc (cap - (xl + yl)))) e))) :
    Came P σ ρ s w (.sl s.nx 0 (xl + yl) (.rest 0)) (s1.new (.cells ((xl + yl) * es) z p m e true)) res := by
  have hR1 := hR.sub hs hn
  have hle := hR.le_put ⟨w.heap.size, 0, cap⟩
  have hsz : (old.toArray ++ (new.toArray ++ Builtin.zeroCells zc (cap - (xl + yl)))).size = cap * es := by
    simp only [Array.size_append, List.size_toArray, ho, hw, Builtin.zeroCells, Array.size_map, Array.size_range, hz]
    rw [← Nat.add_assoc, ← Nat.add_mul, ← Nat.add_mul]
    congr 1; omega
  have key := Rel.new hR1 (o := .cells ((xl + yl) * es) z p m e true) (x := .cells (old.toArray ++ (new.toArray ++ Builtin.zeroCells zc (cap - (xl + yl)))) e) (l := ⟨w.heap.size, 0, cap⟩)
    (w' := w.drew.alloc (.cells (old.toArray ++ (new.toArray ++ Builtin.zeroCells zc (cap - (xl + yl)))) e)) rfl rfl ?_
  · rw [hn] at key
    refine ⟨_, _, _, .inl hres, ⟨⟨w.heap.size, 0, cap⟩, cap, by simp [Ren.put], ⟨rfl, hc⟩, by simp⟩, key, ?_, Frm.push (w' := w.drew.alloc _) rfl rfl rfl rfl⟩
    have h1 : Own ρ ρ s s1 w := Own.sub hs hn
    have h2 := Own.new hR1 (o := .cells ((xl + yl) * es) z p m e true) (l := ⟨w.heap.size, 0, cap⟩) rfl
    rw [hn] at h2
    exact Own.trans (Frm.refl _ _ _) h1 h2
  · refine ⟨_, (0, 0), rfl, fun i hi => ?_, by rw [hsz, Nat.zero_add]; exact Nat.mul_le_mul_right _ hc, .inl rfl, es, hes, by rw [hsz]; simp⟩
    rw [hn]
    simp only [Nat.zero_add]
    by_cases h : i < xl * es
    · obtain ⟨x, hx, y, hy, hr⟩ := hold i h
      exact ⟨y, by rw [Array.getElem?_append_left (by simpa [ho] using h)]; simpa using hy, cell_of hx (VR.mono hle _ hr)⟩
    · rw [Nat.add_mul] at hi
      obtain ⟨x, hx, y, hy, hr⟩ := hnew (i - xl * es) (by omega)
      rw [show xl * es + (i - xl * es) = i by omega] at hx
      refine ⟨y, ?_, cell_of hx (VR.mono hle _ hr)⟩
      rw [Array.getElem?_append_right (by simp [ho]; omega), Array.getElem?_append_left (by simp [ho, hw]; omega)]
      simpa [ho] using hy

theorem came_fit (hR : Rel P σ ρ s w) {b n p0 : Nat} {z0 : List AV} {m0 : Q AV} {l : Loc} {xl yl es p cap j : Nat} {z : List AV} {m : Q AV} {e : TypeId} {new : List Value} (hb : s.h.get b = some (.cells n z0 p0 m0 e true)) (hl : ρ b = some l)
    (hes : sizeOfT P e = some es) (hcap : cap + j = l.cap) (hfit : xl + yl ≤ cap) (hw : new.length = yl * es) (hone : ∀ y ∈ new, y.oneCell' = true)
    (hold : ∀ i, i < xl * es → ∃ x, cellAt z p m i = some x ∧ ∃ y, w.cell? ⟨l.blk, l.base + j * es + i, none⟩ = some y ∧ VR σ ρ x y)
    (hnew : ∀ i, i < yl * es → ∃ x, cellAt z p m (xl * es + i) = some x ∧ ∃ y, new[i]? = some y ∧ VR σ ρ x y) :
    ∃ w', (storeCells ((⟨l.blk, l.base + j * es, none⟩ : Addr).add (xl * es)) new).run P w = .ok () w' ∧
      Came P σ ρ s w (.sl s.nx 0 (xl + yl) (.rest 0)) ((St.mk (s.h.del b) s.nx).new (.cells ((xl + yl) * es) z p m e true)) (.ok (.value (.slice (some ⟨l.blk, l.base + j * es, none⟩) (xl + yl) cap)) w') := by
  obtain ⟨l', o, hl', ho, hr⟩ := hR.obj _ _ hb
  rw [hl] at hl'; cases hl'
  obtain ⟨c, fr, rfl, hc, hsz, hfr, es', hes', hcs⟩ := hr
  rw [hes] at hes'; cases hes'
  have hmul : l.cap * es = cap * es + j * es := by rw [← hcap, Nat.add_mul]
  have hmul2 : (xl + yl) * es ≤ cap * es := Nat.mul_le_mul_right _ hfit
  have hmul3 : (xl + yl) * es = xl * es + yl * es := Nat.add_mul ..
  obtain ⟨w', c', g1, g2, g3, g4, g5, g6, g7, g8, g9⟩ := storeCells_blk (P := P) (off := l.base + j * es + xl * es) new 0 c w ho (by omega) hfr hone
  refine ⟨w', by rw [add_none]; exact g1, ?_⟩
  have key := hR.move (l' := ⟨l.blk, l.base + j * es, cap⟩) (o := .cells ((xl + yl) * es) z p m e true) hb rfl hl rfl g5 g2 ?_ g4 g7 g8 g9
  · obtain ⟨k1, k2, k3⟩ := key
    exact ⟨_, _, _, .inl rfl, ⟨⟨l.blk, l.base + j * es, cap⟩, cap, by simp [Ren.put], ⟨rfl, hfit⟩, by simp⟩, k1, k2, k3⟩
  · have hle := hR.le_put ⟨l.blk, l.base + j * es, cap⟩
    refine ⟨c', fr, rfl, fun i hi => ?_, by show l.base + j * es + _ ≤ _; omega, by rw [g3]; exact hfr, es, hes, by show c'.size = l.base + j * es + cap * es; omega⟩
    show ∃ y, c'[l.base + j * es + i]? = some y ∧ _
    by_cases h : i < xl * es
    · obtain ⟨x, hx, y, hy, hr⟩ := hold i h
      refine ⟨y, ?_, cell_of hx (VR.mono hle _ hr)⟩
      rw [g6, if_neg (by omega)]
      simpa [World.cell?, ho] using hy
    · obtain ⟨x, hx, y, hy, hr⟩ := hnew (i - xl * es) (by omega)
      rw [show xl * es + (i - xl * es) = i by omega] at hx
      refine ⟨y, ?_, cell_of hx (VR.mono hle _ hr)⟩
      rw [g6, if_pos (by omega), ← hy]
      congr 1; omega

theorem setL_get {p : Nat} : ∀ (vs : List AV) (m : Q AV) (i j : Nat), (setL p m i vs).get (keyOf p j) = if i ≤ j ∧ j < i + vs.length then vs[j - i]? else m.get (keyOf p j)
  | [], m, i, j => by simp only [setL, List.length_nil]; rw [if_neg (by omega)]
  | v :: vs, m, i, j => by
    simp only [setL]
    rw [setL_get vs _ _ j, cell_get_set]
    simp only [List.length_cons, Nat.succ_eq_add_one]
    by_cases h : j = i
    · subst h; rw [if_neg (by omega), if_pos rfl, if_pos (by omega)]; simp
    · by_cases h2 : i + 1 ≤ j ∧ j < i + 1 + vs.length
      · rw [if_pos h2, if_pos (by omega), show j - i = (j - (i + 1)) + 1 by omega]; simp
      · rw [if_neg h2, if_neg h, if_neg (by omega)]

theorem all_one (hσ : Plain σ) : ∀ {l : List AV} {vs : List Value}, VRL σ ρ l vs → l.all scalarA = true → ∀ y ∈ vs, y.oneCell' = true
  | [], vs, h, _, y, hy => by cases h; cases hy
  | a :: as, _, ⟨v, vs, e, h1, h2⟩, hs, y, hy => by
    subst e
    simp only [List.all_cons, Bool.and_eq_true] at hs
    rcases List.mem_cons.1 hy with rfl | hy
    · exact scalar_one hσ h1 hs.1
    · exact all_one hσ h2 hs.2 y hy

theorem byte_scalar (l : List UInt8) : (l.map byteAV).all scalarA = true := by
  rw [List.all_map]; exact List.all_eq_true.2 (fun b _ => rfl)

theorem firstA_len (hR : Rel P σ ρ s w) {es n : Nat} {x : AV} {cx : Value} {l : List AV} (hx : VR σ ρ x cx) (hn : lenA x = some n) (h : firstA s es n x = some l) :
    ∃ vs : List Value, VRL σ ρ l vs ∧ (Builtin.firstCells es n cx).run P w = .ok vs.toArray w ∧ vs.length = n * es := by
  obtain ⟨vs, h1, h2, h3⟩ := firstA_run hR hx h
  refine ⟨vs, h1, h2, ?_⟩
  by_cases hu : ∃ u, x = .str u
  · obtain ⟨u, rfl⟩ := hu
    have hlen := h1.length
    simp only [firstA] at h
    split at h
    · cases h
      simp only [lenA, Option.some.injEq] at hn
      subst hn
      simpa using hlen.symm
    · cases h
  · exact h3 (fun u hu' => hu ⟨u, hu'⟩)

/-- The world after a draw says the same. -/
theorem Rel.drew (hR : Rel P σ ρ s w) : Rel P σ ρ s w.drew := ⟨hR.obj, hR.inj, hR.fresh, hR.glob, hR.dom⟩

theorem flat_get {l : List AV} {n i : Nat} (h : l.length = n) (hi : i < n) : cellAt l n Q.e i = l[i]? := by
  simp only [cellAt_e]
  rw [show Nat.mod i n = i from Nat.mod_eq_of_lt hi]

theorem op_append (hσ : Plain σ) {ts : Array TypeId} {x y : AV} {cx cy : Value} {ty : TypeId} {v : AV} {s' : St} (hR : Rel P σ ρ s w) (hx : VR σ ρ x cx) (hy : VR σ ρ y cy) (h : xAppend P s ts x y = .val v s') :
    Came P σ ρ s w v s' ((vOf (Builtin.append_ ts ty #[cx, cy])).run P w) := by
  unfold xAppend at h
  split at h
  · rename_i st h0
    split at h
    · rename_i e he
      have hst := elemOf_run he
      split at h
      · rename_i xt es by_ h1 hes hby
        split at h
        · rename_i hxt
          split at h
          · rename_i n z hn hz
            split at h
            · rename_i hcond
              cases h
              obtain ⟨c1, c2⟩ := Bool.and_eq_true_iff.1 hcond
              have c1 := Nat.le_of_ble_eq_true c1
              have c2 := Nat.eq_of_beq_eq_true c2
              simp only [VR] at hx; subst hx
              obtain ⟨k, rfl⟩ := asN_VR hy hn
              obtain ⟨zv, hzv, hzr⟩ := zeroCells_run hσ (ρ := ρ) (w := w) hz
              obtain ⟨i, hi, hib⟩ := info_of_bytes hby
              have hzv' : ∀ w' : World, (zeroValue e).run P w' = .ok zv w' := by
                intro w'
                obtain ⟨zv', hzv', _⟩ := zeroCells_run hσ (ρ := ρ) (w := w') hz
                simp only [zeroValue, Sem.run_bind, typeInfo_run hi, Result.andThen_ok] at hzv hzv' ⊢
                cases hz0 : i.zero with
                | none => simp [hz0] at hzv
                | some u => simp [hz0] at hzv ⊢; exact hzv
              have hzs : zv.cells.size = es := by have := hzr.length; simp at this; omega
              obtain ⟨kk, hxk⟩ : ∃ kk, P.underlying xt = some (.int kk) := by
                unfold isIntT at hxt
                split at hxt <;> cases hxt
                rename_i kk hkk
                exact ⟨kk, hkk⟩
              have hb : (n + 1) * (2 * by_) ≤ 281474976710656 ∧ n + 1 ≤ 281474976710656 := by
                rw [Nat.mul_add, Nat.mul_one] at c1; omega
              have hwrap : IntKind.i64.wrap ((n + 1 : Nat) : Int) = ((n + 1 : Nat) : Int) := wrap64_small _ (by omega)
              have hmul : (n + 1) * i.bytes ≤ 281474976710656 := by
                rw [hib]
                have : (n + 1) * (2 * by_) = 2 * ((n + 1) * by_) := by rw [Nat.mul_left_comm]
                omega
              have zl : (Builtin.zeroCells zv.cells (n + 1)).toList.length = (n + 1) * es := by simp [Builtin.zeroCells, hzs]
              have hrun : (Builtin.append_ ts ty #[.slice none 0 0, .int k ((n + 1 : Nat) : Int)]).run P w = .ok (.slice (some ⟨w.heap.size, 0, none⟩) (0 + (n + 1)) (grown w (0 + (n + 1)) 0 e))
                  (w.drew.alloc (.cells (([] : List Value).toArray ++ ((Builtin.zeroCells zv.cells (n + 1)).toList.toArray ++ Builtin.zeroCells zv.cells (grown w (0 + (n + 1)) 0 e - (0 + (n + 1))))) e)) := by
                rw [append_zeros h0 h1 hst hxk hes hi hzs (by omega) hwrap hb.2 (by omega) hzv']
              
              have key := came_grown hR (s1 := s) (fun _ _ h => h) rfl (xl := 0) (yl := n + 1) (es := es) (p := es) (z := z) (m := Q.e) (e := e) (old := []) (new := (Builtin.zeroCells zv.cells (n + 1)).toList) (zc := zv.cells)
                (by simp) zl (fun i hi => by simp at hi) (fun i hi => ?_) hzs hes (grown_le w _ 0 e) (vOf_run hrun)
              · simpa using key
              · obtain ⟨x, hx, y, hy, hr⟩ := zeros_row hzr c2 hi
                refine ⟨x, by simp only [cellAt_e, Nat.zero_mul, Nat.zero_add]; exact hx, y, ?_, hr⟩
                rw [← hy]
                simp only [Builtin.zeroCells, hzs, Array.getElem?_toList]
            · cases h
          · cases h
        · rename_i hxt
          split at h
          · rename_i xl yl hxl hyl
            split at h
            · rename_i z hbig hz
              have hbig := Nat.le_of_ble_eq_true hbig
              obtain ⟨i, hi, hib⟩ := info_of_bytes hby
              obtain ⟨zv, hzv, hzr⟩ := zeroCells_run hσ (ρ := ρ) (w := w) hz
              have hzv' : ∀ w' : World, (zeroValue e).run P w' = .ok zv w' := by
                intro w'
                obtain ⟨zv', hzv', _⟩ := zeroCells_run hσ (ρ := ρ) (w := w') hz
                simp only [zeroValue, Sem.run_bind, typeInfo_run hi, Result.andThen_ok] at hzv hzv' ⊢
                cases hz0 : i.zero with
                | none => simp [hz0] at hzv
                | some u => simp [hz0] at hzv ⊢; exact hzv
              split at h
              · rename_i v1 s1 hlen ha
                cases h
                have hlen := Nat.eq_of_beq_eq_true hlen
                have hzs : zv.cells.size = es := by have := hzr.length; simp at this; omega
                have hyrun := lenA_run (P := P) (w := w) hy hyl
                unfold appendA at ha
                rw [hxl, hyl] at ha
                simp only at ha
                -- a new row
                have fresh : ∀ (base : Option Addr) (cap : Nat) (vs : List Value) (s1 : St) (p : Nat) (zz : List AV) (m : Q AV) (news : List Value), cx = .slice base xl cap → cap < xl + yl →
                    (Builtin.firstCells es xl (.slice base xl cap)).run P w.drew = .ok vs.toArray w.drew → (Builtin.firstCells es yl cy).run P w.drew = .ok news.toArray w.drew →
                    vs.length = xl * es → news.length = yl * es → (∀ b o, s1.h.get b = some o → s.h.get b = some o) → s1.nx = s.nx →
                    (∀ i, i < xl * es → ∃ x, cellAt zz p m i = some x ∧ ∃ y, vs[i]? = some y ∧ VR σ ρ x y) →
                    (∀ i, i < yl * es → ∃ x, cellAt zz p m (xl * es + i) = some x ∧ ∃ y, news[i]? = some y ∧ VR σ ρ x y) →
                    Came P σ ρ s w (.sl s.nx 0 (xl + yl) (.rest 0)) (s1.new (.cells ((xl + yl) * es) zz p m e true)) ((vOf (Builtin.append_ ts ty #[cx, cy])).run P w) := by
                  intro base cap vs s1 p zz m news hcx hlt h2 h3 h4 h5 h6 h7 h8 h9
                  subst hcx
                  refine came_grown hR h6 h7 h4 h5 h8 h9 hzs hes (grown_le w (xl + yl) cap e) (vOf_run ?_)
                  rw [append_grow h0 h1 hst hxt hes hby hyrun hlt hbig hzv' h2 h3]
                have appFreshOk : ∀ (base : Option Addr) (cap : Nat), cx = .slice base xl cap → cap < xl + yl → appFresh s e es x y xl yl = some (v, s') →
                    Came P σ ρ s w v s' ((vOf (Builtin.append_ ts ty #[cx, cy])).run P w) := by
                  intro base cap hcx hlt hf
                  unfold appFresh at hf
                  split at hf
                  · rename_i l l' hl hl'
                    cases hf
                    obtain ⟨vs, a1, a2, a3⟩ := firstA_len hR.drew hx hxl hl
                    obtain ⟨us, b1, b2, b3⟩ := firstA_len hR.drew hy hyl hl'
                    have e1 := a1.length
                    have e2 := b1.length
                    have e3 : (l ++ l').length = (xl + yl) * es := by rw [List.length_append, Nat.add_mul]; omega
                    have e4 : (xl + yl) * es = xl * es + yl * es := Nat.add_mul ..
                    refine fresh base cap vs s _ _ _ us hcx hlt (by rw [← hcx]; exact a2) b2 a3 b3 (fun _ _ h => h) rfl (fun i hi => ?_) (fun i hi => ?_)
                    · rw [flat_get e3 (by omega), List.getElem?_append_left (by omega)]
                      obtain ⟨y, hy, hr⟩ := VRL.get a1 (List.getElem?_eq_getElem (l := l) (i := i) (by omega))
                      exact ⟨_, List.getElem?_eq_getElem _, y, hy, hr⟩
                    · rw [flat_get e3 (by omega), List.getElem?_append_right (by omega), show xl * es + i - l.length = i by omega]
                      obtain ⟨y, hy, hr⟩ := VRL.get b1 (List.getElem?_eq_getElem (l := l') (i := i) (by omega))
                      exact ⟨_, List.getElem?_eq_getElem _, y, hy, hr⟩
                  · cases hf
                have appNewOk : ∀ (base : Option Addr) (cap : Nat), cx = .slice base xl cap → cap < xl + yl → appNew s e es x y xl yl = some (v, s') →
                    Came P σ ρ s w v s' ((vOf (Builtin.append_ ts ty #[cx, cy])).run P w) := by
                  intro base cap hcx hlt hf
                  unfold appNew at hf
                  split at hf
                  · split at hf
                    · rename_i r hr
                      cases hf
                      unfold appWhole at hr
                      split at hr
                      · rename_i b ylen ycap
                        split at hr
                        · rename_i n z0 p0 m0 e0 ext0 hb
                          split at hr
                          · rename_i hle
                            cases hr
                            obtain ⟨hle, hvis⟩ := Bool.and_eq_true_iff.1 hle
                            have hle := Nat.le_of_ble_eq_true hle
                            obtain ⟨L, cc, hL, hcc, rfl⟩ := hy
                            obtain ⟨L', o, hL', ho, c, fr, rfl, hc, hsz, _⟩ := hR.obj _ _ hb
                            rw [hL] at hL'; cases hL'
                            simp only [lenA, Option.some.injEq] at hyl
                            subst hyl
                            have hnew : (Builtin.firstCells es ylen (.slice (some ⟨L.blk, L.base + 0, none⟩) ylen cc)).run P w.drew = .ok ((c.toList.drop L.base).take (ylen * es)).toArray w.drew := by
                              have hcells : ∀ j y, ((c.toList.drop L.base).take (ylen * es))[j]? = some y → w.drew.cell? ((⟨L.blk, L.base + 0, none⟩ : Addr).add (0 + j)) = some y := by
                                intro j y hj
                                rw [List.getElem?_take] at hj
                                split at hj
                                · rw [List.getElem?_drop] at hj
                                  rw [add_none]
                                  simp only [World.cell?, World.drew, ho, Nat.add_zero, Nat.zero_add]
                                  simpa using hj
                                · cases hj
                              have := loadCells_run (P := P) (w := w.drew) (a := ⟨L.blk, L.base + 0, none⟩) (ylen * es) 0 _ #[] (by rw [List.length_take, List.length_drop, Array.length_toList]; omega) hcells
                              simpa [Builtin.firstCells, loadCells] using this
                            have hold : (Builtin.firstCells es 0 (.slice base 0 cap)).run P w.drew = .ok ([] : List Value).toArray w.drew := by
                              cases base <;> simp [Builtin.firstCells, loadCells, loadCellsFrom]
                            have hn9 : ∀ i, i < ylen * es → ∃ x, cellAt z0 p0 m0 (0 * es + i) = some x ∧ ∃ y, ((c.toList.drop L.base).take (ylen * es))[i]? = some y ∧ VR σ ρ x y := by
                              intro i hi
                              obtain ⟨y, hy, hr⟩ := hc i (by omega)
                              obtain ⟨x, hx⟩ := cellAt_vis hvis m0 i
                              rw [hx] at hr
                              refine ⟨x, by simpa using hx, y, ?_, hr⟩
                              rw [List.getElem?_take_of_lt hi, List.getElem?_drop]
                              simpa using hy
                            have key := fresh base cap [] s p0 z0 m0 ((c.toList.drop L.base).take (ylen * es)) hcx hlt hold hnew (by simp) (by rw [List.length_take, List.length_drop, Array.length_toList]; omega) (fun _ _ h => h) rfl (fun i hi => by simp at hi) hn9
                            simpa using key
                          · cases hr
                        · cases hr
                      · cases hr
                    · exact appFreshOk base cap hcx hlt hf
                  · exact appFreshOk base cap hcx hlt hf
                rcases yl with _ | n
                · -- nothing
                  dsimp only at ha
                  have hf : (Builtin.firstCells es 0 cy).run P w = .ok #[] w := by
                    unfold lenA at hyl
                    split at hyl
                    · obtain ⟨L, c, _, _, rfl⟩ := hy
                      simp [Builtin.firstCells, loadCells, loadCellsFrom]
                    · simp only [VR] at hy; subst hy; simp [Builtin.firstCells]
                    · obtain ⟨a, c, rfl⟩ := hy
                      simp [Builtin.firstCells, loadCells, loadCellsFrom]
                    · simp only [VR] at hy; subst hy
                      simp [Builtin.firstCells]
                    · cases hyl
                  have same : ∀ (base : Option Addr) (cap : Nat), cx = .slice base xl cap → xl ≤ cap → Came P σ ρ s w x s ((vOf (Builtin.append_ ts ty #[cx, cy])).run P w) := by
                    intro base cap hcx hle
                    subst hcx
                    refine .same hR (vOf_run (append_fit h0 h1 hst hxt hes hyrun (by omega) hf (w' := w) (fun a _ => by simp [storeCells]) (fun _ => rfl))) ?_
                    simpa using hx
                  split at ha
                  · cases ha
                  · rename_i x' hns
                    cases ha
                    unfold lenA at hxl
                    split at hxl
                    · cases hxl
                      obtain ⟨L, c, hL, hc, hcx⟩ := hx
                      refine same _ _ hcx ?_
                      rename_i cp
                      cases cp with
                      | k n => simp only [capOK] at hc; omega
                      | rest j => simp only [capOK] at hc; omega
                    · cases hxl
                      exact same _ _ hx (Nat.le_refl _)
                    · cases hxl
                      obtain ⟨a, c, hcx⟩ := hx
                      exact same _ _ hcx (Nat.zero_le _)
                    · exact (hns _ rfl).elim
                    · cases hxl
                · dsimp only at ha
                  split at ha
                  · -- a known capacity
                    rename_i b o xlen c
                    have hx0 := hx
                    obtain ⟨L, cc, hL, hc, hcx⟩ := hx
                    simp only [lenA, Option.some.injEq] at hxl
                    subst hxl
                    obtain ⟨rfl, hle⟩ := hc
                    split at ha
                    · rename_i hfit
                      have hfit := Nat.le_of_ble_eq_true hfit
                      split at ha
                      · rename_i l hl
                        split at ha
                        · rename_i s1 hs1
                          cases ha
                          obtain ⟨vs, b1, b2, b3⟩ := firstA_len hR hy hyl hl
                          obtain ⟨w', c1, c2, c3, c4⟩ := hR.writeCells hσ hL b1 hs1
                          subst hcx
                          refine ⟨_, w', ρ, .inl (vOf_run (append_fit h0 h1 hst hxt hes hyrun hfit b2 (w' := w') (fun a ha => ?_) (fun h => by cases h))), ⟨L, _, hL, ⟨rfl, hfit⟩, rfl⟩, c2, c3, c4⟩
                          cases ha
                          rw [add_none, Nat.add_assoc]
                          simpa using c1
                        · cases ha
                      · cases ha
                    · rename_i hfit
                      have hlt : cc < xlen + (n + 1) := by
                        rcases Nat.lt_or_ge cc (xlen + (n + 1)) with h | h
                        · exact h
                        · rw [Nat.ble_eq_true_of_le h] at hfit; cases hfit
                      exact appNewOk _ _ hcx hlt ha
                  · -- an unknown one
                    rename_i b o xlen j
                    have hx0 := hx
                    obtain ⟨L, cc, hL, hc, hcx⟩ := hx
                    have hxl0 := hxl
                    simp only [lenA, Option.some.injEq] at hxl
                    subst hxl
                    obtain ⟨hc1, hc2⟩ := hc
                    have main : ∀ (nn p0 : Nat) (z0 : List AV) (m0 : Q AV) (ll : List AV) (p : Nat) (zz : List AV) (m : Q AV), s.h.get b = some (.cells nn z0 p0 m0 e true) → o = j * es →
                        firstA s es (n + 1) y = some ll → ll.all scalarA = true → (∀ i, i < xlen * es → ∃ x, cellAt zz p m i = some x ∧ readCell s b (o + i) = some x) →
                        (∀ i, i < (n + 1) * es → cellAt zz p m (xlen * es + i) = ll[i]?) →
                        Came P σ ρ s w (.sl s.nx 0 (xlen + (n + 1)) (.rest 0)) ((St.mk (s.h.del b) s.nx).new (.cells ((xlen + (n + 1)) * es) zz p m e true)) ((vOf (Builtin.append_ ts ty #[cx, cy])).run P w) := by
                      intro nn p0 z0 m0 ll p zz m hb ho hll hsc hold hnew
                      subst ho
                      obtain ⟨vs, b1, b2, b3⟩ := firstA_len hR hy hyl hll
                      obtain ⟨vs', b1', b2', b3'⟩ := firstA_len hR.drew hy hyl hll
                      have len1 := b1.length
                      have len1' := b1'.length
                      have hold' : ∀ i, i < xlen * es → ∃ x, cellAt zz p m i = some x ∧ ∃ y, w.cell? ⟨L.blk, L.base + j * es + i, none⟩ = some y ∧ VR σ ρ x y := by
                        intro i hi
                        obtain ⟨x, hx, hrd⟩ := hold i hi
                        obtain ⟨l, y, hl, hy, hr⟩ := hR.cell hrd
                        rw [hL] at hl; cases hl
                        exact ⟨x, hx, y, by rw [Nat.add_assoc]; exact hy, hr⟩
                      have hnew' : ∀ (us : List Value), VRL σ ρ ll us → us.length = (n + 1) * es → ∀ i, i < (n + 1) * es → ∃ x, cellAt zz p m (xlen * es + i) = some x ∧ ∃ y, us[i]? = some y ∧ VR σ ρ x y := by
                        intro us hus hul i hi
                        have := hus.length
                        obtain ⟨y, hy, hr⟩ := VRL.get hus (List.getElem?_eq_getElem (l := ll) (i := i) (by omega))
                        exact ⟨_, by rw [hnew i hi]; exact List.getElem?_eq_getElem _, y, hy, hr⟩
                      by_cases hfit : xlen + (n + 1) ≤ cc
                      · obtain ⟨w', g1, g2⟩ := came_fit hR hb hL hes hc1 hfit b3 (all_one hσ b1 hsc) hold' (hnew' vs b1 b3)
                        subst hcx
                        rw [vOf_run (append_fit h0 h1 hst hxt hes hyrun hfit b2 (w' := w') (fun a ha => by cases ha; simpa using g1) (fun h => by cases h))]
                        exact g2
                      · -- the old cells
                        have hcellsEx : ∃ olds : List Value, olds.length = xlen * es ∧ ∀ i, i < xlen * es → ∃ y, olds[i]? = some y ∧ w.cell? ⟨L.blk, L.base + j * es + i, none⟩ = some y := by
                          have : ∀ k, k ≤ xlen * es → ∃ olds : List Value, olds.length = k ∧ ∀ i, i < k → ∃ y, olds[i]? = some y ∧ w.cell? ⟨L.blk, L.base + j * es + i, none⟩ = some y := by
                            intro k
                            induction k with
                            | zero => intro _; exact ⟨[], rfl, fun i hi => by omega⟩
                            | succ k ih =>
                              intro hk
                              obtain ⟨olds, ho1, ho2⟩ := ih (by omega)
                              obtain ⟨_, _, y, hy, _⟩ := hold' k (by omega)
                              refine ⟨olds ++ [y], by simp [ho1], fun i hi => ?_⟩
                              by_cases h : i < k
                              · obtain ⟨y', h1, h2⟩ := ho2 i h
                                exact ⟨y', by rw [List.getElem?_append_left (by omega)]; exact h1, h2⟩
                              · have : i = k := by omega
                                subst this
                                exact ⟨y, by rw [List.getElem?_append_right (by omega), ho1]; simp, hy⟩
                          exact this _ (Nat.le_refl _)
                        obtain ⟨olds, ho1, ho2⟩ := hcellsEx
                        have hrunOld : (Builtin.firstCells es xlen (.slice (some ⟨L.blk, L.base + j * es, none⟩) xlen cc)).run P w.drew = .ok olds.toArray w.drew := by
                          have hcs : ∀ k y, olds[k]? = some y → w.drew.cell? ((⟨L.blk, L.base + j * es, none⟩ : Addr).add (0 + k)) = some y := by
                            intro k y hk
                            have hlt : k < xlen * es := by rw [← ho1]; exact (List.getElem?_eq_some_iff.1 hk).1
                            obtain ⟨y', h1, h2⟩ := ho2 k hlt
                            rw [hk] at h1; cases h1
                            rw [add_none, Nat.zero_add]; exact h2
                          have := loadCells_run (P := P) (w := w.drew) (a := ⟨L.blk, L.base + j * es, none⟩) (xlen * es) 0 olds #[] ho1 hcs
                          simpa [Builtin.firstCells, loadCells] using this
                        refine fresh _ cc olds (St.mk (s.h.del b) s.nx) p zz m vs' hcx (by omega) hrunOld b2' ho1 b3' (fun b' o h => ?_) rfl (fun i hi => ?_) (hnew' vs' b1' b3')
                        · simp only [Q.get_del] at h
                          split at h
                          · cases h
                          · exact h
                        · obtain ⟨x, hx, y, hy, hr⟩ := hold' i hi
                          obtain ⟨y', h1, h2⟩ := ho2 i hi
                          rw [hy] at h2; cases h2
                          exact ⟨x, hx, y, h1, hr⟩
                    split at ha
                    · split at ha
                      · rename_i nn z0 p0 m0 e0 ll hb hll
                        split at ha
                        · rename_i q1 q2 q3
                          cases ha
                          obtain ⟨q1, qv⟩ := Bool.and_eq_true_iff.1 q1
                          have q1 := Nat.le_of_ble_eq_true q1
                          have q2 := Nat.eq_of_beq_eq_true q2
                          subst q2
                          obtain ⟨us, u1, _, u3⟩ := firstA_len hR hy hyl hll
                          have hlen := u1.length
                          refine main nn p0 z0 m0 ll p0 z0 (setL p0 m0 (xlen * es) ll) hb (by simp) hll q3 (fun i hi => ?_) (fun i hi => ?_)
                          · have hrd : readCell s b (0 + i) = cellAt z0 p0 m0 i := by
                              simp only [readCell, hb, Nat.zero_add]
                              rw [show Nat.blt i nn = true by rw [Nat.blt_eq]; omega]
                            have hv : visZ z0 p0 = true := by
                              rcases Bool.or_eq_true_iff.1 qv with h' | h'
                              · exact h'
                              · have := Nat.eq_of_beq_eq_true h'; omega
                            obtain ⟨x, hx⟩ := cellAt_vis hv m0 i
                            refine ⟨x, ?_, by rw [hrd]; exact hx⟩
                            simp only [cellAt, setL_get] at hx ⊢
                            rw [if_neg (by omega)]
                            exact hx
                          · have hg : i < ll.length := by omega
                            simp only [cellAt, setL_get]
                            rw [if_pos (by omega), show xlen * es + i - xlen * es = i by omega, List.getElem?_eq_getElem hg]
                        · cases ha
                      · cases ha
                    · split at ha
                      · rename_i nn z0 p0 m0 e0 l ll hb hl hll
                        split at ha
                        · rename_i q1 q3
                          cases ha
                          obtain ⟨q1, q2⟩ := Bool.and_eq_true_iff.1 q1
                          have q1 := Nat.eq_of_beq_eq_true q1
                          have q2 := Nat.eq_of_beq_eq_true q2
                          subst q1
                          obtain ⟨us, u1, _, u3⟩ := firstA_len hR hy hyl hll
                          obtain ⟨ts', t1, _, t3⟩ := firstA_len hR hx0 hxl0 hl
                          have hlen := u1.length
                          have hlen' := t1.length
                          have hsum : (l ++ ll).length = (xlen + (n + 1)) * es := by rw [List.length_append, Nat.add_mul]; omega
                          have hsum2 : (xlen + (n + 1)) * es = xlen * es + (n + 1) * es := Nat.add_mul ..
                          refine main nn p0 z0 m0 ll _ _ _ hb q2 hll q3 (fun i hi => ?_) (fun i hi => ?_)
                          · rw [flat_get hsum (by omega), List.getElem?_append_left (by omega)]
                            obtain ⟨g1, g2⟩ := readCells_get hl
                            refine ⟨_, List.getElem?_eq_getElem (by omega), ?_⟩
                            rw [g2 i hi]
                            exact List.getElem?_eq_getElem _
                          · rw [flat_get hsum (by omega), List.getElem?_append_right (by omega), show xlen * es + i - l.length = i by omega]
                        · cases ha
                      · cases ha
                  · -- nil
                    simp only [VR] at hx
                    simp only [lenA, Option.some.injEq] at hxl
                    subst hxl
                    exact appNewOk none 0 hx (by omega) ha
                  · cases ha
              · cases h
            · cases h
          · cases h
        · cases h
      · cases h
    · cases h
  · cases h
end Go.AX
set_option linter.unusedVariables false
namespace Go.AX
open Go
variable {P : Program} {σ : Sg} {ρ : Ren} {s : St} {w : World}

/-! ### copy, clear -/
theorem op_copy (hσ : Plain σ) {ts : Array TypeId} {x y : AV} {cx cy : Value} {ty : TypeId} {v : AV} {s' : St} (hR : Rel P σ ρ s w) (hx : VR σ ρ x cx) (hy : VR σ ρ y cy) (h : xCopy P s ts x y = .val v s') :
    Came P σ ρ s w v s' ((vOf (Builtin.copy_ ts ty #[cx, cy])).run P w) := by
  unfold xCopy at h
  split at h
  · rename_i t ht
    split at h
    · rename_i e he
      have hu := elemOf_run he
      split at h
      · rename_i xl yl es hxl hyl hes
        dsimp only at h
        split at h
        · rename_i l hl
          obtain ⟨vs, h1, h2, _⟩ := firstA_run hR hy hl
          have hly := lenA_run (P := P) (w := w) hy hyl
          split at h
          · rename_i b o n c
            obtain ⟨L, cc, hL, hcc, rfl⟩ := hx
            split at h
            · rename_i s1 hs1
              cases h
              obtain ⟨w', g1, g2, g3, g4⟩ := Rel.writeCells hσ hR hL h1 hs1
              simp only [lenA, Option.some.injEq] at hxl
              subst hxl
              refine ⟨.int .i64 (Nat.min yl n), w', ρ, .inl (vOf_run ?_), rfl, g2, g3, g4⟩
              simp [Builtin.copy_, ht, underlying_run hu, hly, sizeOf_run hes, h2, g1, goInt]
            · cases h
          · cases h
            simp only [VR] at hx
            subst hx
            simp only [lenA, Option.some.injEq] at hxl
            subst hxl
            refine .same hR (cv := .int .i64 (Nat.min yl 0 : Nat)) (vOf_run ?_) rfl
            have h2' : (Builtin.firstCells es 0 cy).run P w = .ok vs.toArray w := by simpa using h2
            simp [Builtin.copy_, ht, underlying_run hu, hly, sizeOf_run hes, h2', goInt]
          · cases h
        · cases h
      · cases h
    · cases h
  · cases h

theorem zeroCells_rep {z : List AV} {zc : Array Value} (hz : VRL σ ρ z zc.toList) (n : Nat) : VRL σ ρ (rep z n) (Builtin.zeroCells zc n).toList := by
  have e : (Builtin.zeroCells zc n).toList = List.flatten (List.replicate n zc.toList) := by
    unfold Builtin.zeroCells
    exact zeros_eq zc n
  rw [e]
  exact rep_VRL hz n

theorem op_clear (hσ : Plain σ) {ts : Array TypeId} {x : AV} {cx : Value} {ty : TypeId} {v : AV} {s' : St} (hR : Rel P σ ρ s w) (hx : VR σ ρ x cx) (h : xClear P s ts x = .val v s') :
    Came P σ ρ s w v s' ((vOf (Builtin.clear_ ts ty #[cx])).run P w) := by
  unfold xClear at h
  split at h
  · rename_i t ht
    split at h
    · rename_i k e hu
      split at h
      · rename_i r
        obtain ⟨L, hL, rfl⟩ := hx
        split at h
        · rename_i es clock hb
          cases h
          obtain ⟨L', o, hL', ho, l, hl, rfl⟩ := hR.obj _ _ hb
          rw [hL] at hL'; cases hL'
          have hn : ∀ c e f, (Obj.map l.toArray clock) ≠ .cells c e f := fun _ _ _ => by simp
          refine came_obj (o := .map [] clock) (x := .map #[] clock) (w' := { w with heap := w.heap.setIfInBounds L.blk (.map #[] clock) }) hR hb rfl hL rfl ⟨[], rfl, rfl⟩ (.inl (vOf_run (v := .tuple #[]) ?_)) ⟨[], rfl, rfl⟩
          simp [Builtin.clear_, ht, underlying_run hu, getObj_run ho hn, setObj_run ho hn]
        · cases h
      · cases h
        simp only [VR] at hx
        subst hx
        exact .same hR (cv := .tuple #[]) (vOf_run (by simp [Builtin.clear_, ht, underlying_run hu])) ⟨[], rfl, rfl⟩
      · cases h
    · rename_i e hu
      split at h
      · cases h
        simp only [VR] at hx
        subst hx
        exact .same hR (cv := .tuple #[]) (vOf_run (by simp [Builtin.clear_, ht, underlying_run hu])) ⟨[], rfl, rfl⟩
      · cases h
        obtain ⟨a, c, rfl⟩ := hx
        exact .same hR (cv := .tuple #[]) (vOf_run (by simp [Builtin.clear_, ht, underlying_run hu])) ⟨[], rfl, rfl⟩
      · rename_i b o n c
        obtain ⟨L, cc, hL, hcc, rfl⟩ := hx
        split at h
        · rename_i z hz
          obtain ⟨zv, hzv, hzr⟩ := zeroCells_run (ρ := ρ) (w := w) hσ hz
          split at h
          · rename_i s1 hs1
            cases h
            obtain ⟨w', g1, g2, g3, g4⟩ := Rel.writeCells hσ hR hL (zeroCells_rep hzr n) hs1
            refine ⟨.tuple #[], w', ρ, .inl (vOf_run ?_), ⟨[], rfl, rfl⟩, g2, g3, g4⟩
            cases n with
            | zero =>
              have : w' = w := by
                simp [Builtin.zeroCells, storeCells] at g1
                exact g1.symm
              subst this
              simp [Builtin.clear_, ht, underlying_run hu]
            | succ n => simp [Builtin.clear_, ht, underlying_run hu, hzv, g1]
          · cases h
        · cases h
      · cases h
    · cases h
  · cases h

/-! ### Operands -/
theorem evalA_VR {n : Nat} {t : Tm} {a : Act} (hR : Rel P σ ρ s w) (hT : TR σ ρ n t a.tmps) (x : Operand) : VR σ ρ (evalA t x) (a.eval x) := by
  cases x with
  | tmp k => exact hT.2 k
  | const v => exact abst_VR v
  | global g =>
    simp only [evalA]
    split
    · rename_i h
      rw [Nat.blt_eq] at h
      show ∃ l, ρ g = some l ∧ _
      exact ⟨_, hR.glob g h, by simp [Act.eval]⟩
    · trivial
  | func f =>
    show ∃ fn' x y, fnR ρ (.func f) fn' ∧ VRL σ ρ [] x ∧ VRL σ ρ [] y ∧ _ = Value.func fn' x.toArray y.toArray
    exact ⟨.func f, [], [], rfl, rfl, rfl, rfl⟩
theorem evalL_VRL {n : Nat} {t : Tm} {a : Act} (hR : Rel P σ ρ s w) (hT : TR σ ρ n t a.tmps) : ∀ l : List Operand, VRL σ ρ (evalL t l) (l.map a.eval)
  | [] => rfl
  | x :: l => ⟨_, _, rfl, evalA_VR hR hT x, evalL_VRL hR hT l⟩
theorem evalO_VRO {n : Nat} {t : Tm} {a : Act} (hR : Rel P σ ρ s w) (hT : TR σ ρ n t a.tmps) : ∀ o : Option Operand, VRO σ ρ (evalO t o) (o.map a.eval)
  | none => by simp [evalO, VRO]
  | some x => evalA_VR hR hT x
theorem evalP_VRP {n : Nat} {t : Tm} {a : Act} (hR : Rel P σ ρ s w) (hT : TR σ ρ n t a.tmps) : ∀ l : List (Nat × Operand), VRP σ ρ (evalP t l) (l.map fun p => (p.1, a.eval p.2))
  | [] => rfl
  | (i, x) :: l => ⟨_, _, rfl, evalA_VR hR hT x, evalP_VRP hR hT l⟩

/-! ### Methods -/
def PlcR (σ : Sg) (ρ : Ren) : Plc → Place → Prop
  | .v x, p => ∃ v, p = .val v ∧ VR σ ρ x v
  | .loc b o, p => ∃ l, ρ b = some l ∧ p = .var ⟨l.blk, l.base + o, none⟩
theorem gotA_run (hR : Rel P σ ρ s w) {t : TypeId} {x : Plc} {p : Place} {y : AV} (hp : PlcR σ ρ x p) (h : gotA P s t x = some y) : ∃ v, (p.get t).run P w = .ok v w ∧ VR σ ρ y v := by
  cases x with
  | v x =>
    obtain ⟨v, rfl, hv⟩ := hp
    cases h
    exact ⟨v, rfl, hv⟩
  | loc b o =>
    obtain ⟨l, hl, rfl⟩ := hp
    exact loadV_run hR hl h
theorem followA_run (hR : Rel P σ ρ s w) : ∀ {path : List FieldStep} {t xt : TypeId} {x x' : Plc} {p : Place}, PlcR σ ρ x p → followA P s path t x = some (xt, x') →
    ∃ p', (follow path t p).run P w = .ok (xt, p') w ∧ PlcR σ ρ x' p'
  | [], t, xt, x, x', p, hp, h => by
    cases h
    exact ⟨p, rfl, hp⟩
  | st :: rest, t, xt, x, x', p, hp, h => by
    simp only [followA] at h
    split at h
    · rename_i off ft hf
      obtain ⟨fields, fd, n, hu, hfd, rfl, rfl, hn⟩ := fieldAt_run hf
      split at h
      · rename_i hd
        split at h
        · rename_i b o hg
          obtain ⟨v, h1, h2⟩ := gotA_run hR hp hg
          obtain ⟨l, hl, rfl⟩ := h2
          obtain ⟨p', k1, k2⟩ := followA_run hR (x := .loc b (o + fd.offset)) (p := .var ⟨l.blk, l.base + (o + fd.offset), none⟩) ⟨l, hl, rfl⟩ h
          refine ⟨p', ?_, k2⟩
          simp only [follow, Sem.run_bind, underlying_run hu, Result.andThen_ok, hfd, hd, if_true, h1, asAddr, Sem.run_pure, fieldPlace, sizeOf_run hn]
          simpa [add_none, Nat.add_assoc] using k1
        · cases h
      · rename_i hd
        split at h
        · rename_i b o
          obtain ⟨l, hl, rfl⟩ := hp
          obtain ⟨p', k1, k2⟩ := followA_run hR (x := .loc b (o + fd.offset)) (p := .var ⟨l.blk, l.base + (o + fd.offset), none⟩) ⟨l, hl, rfl⟩ h
          refine ⟨p', ?_, k2⟩
          simp [follow, underlying_run hu, hfd, hd, fieldPlace, sizeOf_run hn, add_none, Nat.add_assoc, k1]
        · rename_i cs
          obtain ⟨v, rfl, hv⟩ := hp
          obtain ⟨l, hl, rfl⟩ := hv
          split at h
          · rename_i y hy
            obtain ⟨cv, g1, g2⟩ := part_run (w := w) hl hy
            obtain ⟨p', k1, k2⟩ := followA_run hR (x := .v y) (p := .val cv) ⟨cv, rfl, g2⟩ h
            refine ⟨p', ?_, k2⟩
            simp [follow, underlying_run hu, hfd, hd, g1, k1]
          · cases h
        · cases h
    · cases h

theorem methodA_run (hR : Rel P σ ρ s w) {t : TypeId} {x : AV} {v : Value} {name : String} {f : FuncId} {r : AV} (hv : VR σ ρ x v) (h : methodA P s t x name = some (f, r)) :
    ∀ n, ∃ cr, (method (n + 1) t v name).run P w = .ok (f, cr) w ∧ VR σ ρ r cr := by
  intro n
  unfold methodA at h
  split at h
  · cases h
  · rename_i m hm
    unfold findMethod at hm
    split at hm
    · rename_i i hi
      split at h
      · cases h
      · rename_i xt x' hx'
        obtain ⟨p', k1, k2⟩ := followA_run hR (x := .v x) (p := .val v) ⟨v, rfl, hv⟩ hx'
        split at h
        · cases h
        · rename_i f' pr hf
          have go : ∀ cr, (receiverAt xt p' pr (if m.path.isEmpty then some ((name.splitOn ".").getLastD name) else none)).run P w = .ok cr w →
              (method (n + 1) t v name).run P w = .ok (f', cr) w := fun cr hc => by
            simp only [method, Sem.run_bind, typeInfo_run hi, Result.andThen_ok, hm, k1, hf, hc, Sem.run_pure]
          split at h
          · rename_i e hu
            split at h
            · rename_i r' hr
              cases h
              obtain ⟨cv, g1, g2⟩ := gotA_run hR k2 hr
              exact ⟨cv, go _ (by simp only [receiverAt, Sem.run_bind, underlying_run hu, Result.andThen_ok, g1]), g2⟩
            · cases h
          · cases h
          · rename_i d hnp hu
            split at h
            · rename_i b o
              cases h
              obtain ⟨l, hl, rfl⟩ := k2
              refine ⟨.pointer (some ⟨l.blk, l.base + o, none⟩), go _ ?_, ⟨l, hl, rfl⟩⟩
              simp only [receiverAt, Sem.run_bind, underlying_run hu, Result.andThen_ok]
              cases d <;> simp_all
            · cases h
          · rename_i d hnp hu
            split at h
            · rename_i r' hr
              cases h
              obtain ⟨cv, g1, g2⟩ := gotA_run hR k2 hr
              refine ⟨cv, go _ ?_, g2⟩
              simp only [receiverAt, Sem.run_bind, underlying_run hu, Result.andThen_ok]
              cases d <;> simp_all
            · cases h
          · cases h
    · cases hm

/-! ### Every operation -/
/-- No function of the program bears the name that the model treats apart. -/
def NoNum (P : Program) : Prop := ∀ (f : FuncId) (fn : Func), P.funcs[f]? = some fn → (fn.name == "runtime.NumGoroutine") = false

theorem nilAhead_plain {t : TypeId} {name : String} (h : plainMethod P t name = true) (v : Value) (n : Nat) : (nilAhead (n + 1) t v name).run P w = .ok (some false) w := by
  unfold plainMethod findMethod at h
  split at h
  · rename_i m hm
    split at hm
    · rename_i i hi
      split at h
      · rename_i hp hf
        simp [nilAhead, typeInfo_run hi, hm, hp, followBlind, hf]
      · cases h
    · cases hm
  · cases h
theorem exec_nilCheck {d : Option Tmp} {x : Operand} {ty : TypeId} {pos : String} {af : Array Edge} {gd : Option (Nat × Bool)} {ev : Operand → Value} {y v : AV} {s' : St} (hR : Rel P σ ρ s w) (hx : VR σ ρ y (ev x))
    (h : xNilCheck P s y = .val v s') : Came P σ ρ s w v s' ((execOp ev ⟨d, .nilCheck x, ty, pos, af, gd⟩).run P w) := by
  have fin : ∀ cv, VR σ ρ y cv → (execOp ev ⟨d, .nilCheck x, ty, pos, af, gd⟩).run P w = .ok (.value cv) w → s' = s → v = y → Came P σ ρ s w v s' ((execOp ev ⟨d, .nilCheck x, ty, pos, af, gd⟩).run P w) := by
    intro cv h1 h2 h3 h4
    subst h3 h4
    exact .same hR h2 h1
  unfold xNilCheck at h
  split at h
  · rename_i b o
    cases h
    obtain ⟨l, hl, e⟩ := hx
    exact fin _ ⟨l, hl, rfl⟩ (by simp [execOp, e]) rfl rfl
  · cases h
    obtain ⟨f, a, b, hf, ha, hb, e⟩ := hx
    cases hf
    exact fin _ ⟨_, a, b, rfl, ha, hb, rfl⟩ (by simp [execOp, e]) rfl rfl
  · cases h
    obtain ⟨f, a, b, hf, ha, hb, e⟩ := hx
    have hf' := hf
    obtain ⟨z, hz, rfl⟩ := hf
    exact fin _ ⟨_, a, b, hf', ha, hb, rfl⟩ (by simp [execOp, e]) rfl rfl
  · rename_i name t v' cap
    split at h
    · rename_i hp
      cases h
      obtain ⟨f, a, b, hf, ha, hb, e⟩ := hx
      cases hf
      have ha' := ha
      obtain ⟨z, zs, rfl, hz, hzs⟩ := ha
      obtain ⟨z', hz', rfl⟩ := hz
      cases hzs
      refine fin _ ⟨_, _, b, rfl, ha', hb, rfl⟩ ?_ rfl rfl
      have hn := nilAhead_plain (w := w) hp z' (P.types.size + 99)
      simp only [execOp, e, List.getElem?_toArray]
      simp [Made.depth, hn]
    · cases h
  · cases h
    obtain ⟨z, hz, e⟩ := hx
    exact fin _ ⟨z, hz, rfl⟩ (by simp [execOp, e]) rfl rfl
  · cases h

theorem callFuncA_run (hN : NoNum P) {f g : FuncId} {args bs : List AV} (h : callFuncA P f args = .call g bs) (cargs : Array Value) :
    g = f ∧ bs = args ∧ (callFunc f cargs).run P w = .ok (.enter f cargs) w := by
  unfold callFuncA at h
  split at h
  · rename_i fn hf
    split at h
    · rename_i c hb
      cases h
      refine ⟨rfl, rfl, ?_⟩
      have hn : ¬ fn.name = "runtime.NumGoroutine" := by simpa using hN _ _ hf
      simp [callFunc, hf, hn, hb]
    · cases h
  · cases h
theorem callFuncA_not {f : FuncId} {args : List AV} : (∀ v s', callFuncA P f args ≠ .val v s') ∧ (∀ l a, callFuncA P f args ≠ .round l a) := by
  unfold callFuncA
  constructor <;> intros <;> split <;> (try split) <;> simp

/-- A call of a function, a round of a loop over a function. -/
def CameC (P : Program) (σ : Sg) (ρ : Ren) (w : World) (f : FuncId) (args : List AV) (res : Result Next) : Prop :=
  ∃ cargs, res = .ok (.enter f cargs) w ∧ VRL σ ρ args cargs.toList
def CameR (P : Program) (σ : Sg) (ρ : Ren) (w : World) (l : Nat) (args : List AV) (res : Result Next) : Prop :=
  ∃ x cargs, ρ l = some x ∧ res = (Instr.yield x.blk cargs).run P w ∧ VRL σ ρ args cargs.toList
/-- What an outcome says. -/
def Outc (P : Program) (σ : Sg) (ρ : Ren) (s : St) (w : World) (r : NX) (res : Result Next) : Prop :=
  match r with
  | .val v s' => Came P σ ρ s w v s' res
  | .call f args => CameC P σ ρ w f args res
  | .round l args => CameR P σ ρ w l args res
  | .bad => True

theorem callFuncA_outc (hN : NoNum P) {f : FuncId} {args : List AV} {cargs : Array Value} (ha : VRL σ ρ args cargs.toList) : Outc P σ ρ s w (callFuncA P f args) ((callFunc f cargs).run P w) := by
  cases h : callFuncA P f args with
  | val v s' => exact absurd h (callFuncA_not.1 v s')
  | call g bs =>
    obtain ⟨rfl, rfl, e⟩ := callFuncA_run (w := w) hN h cargs
    exact ⟨cargs, e, ha⟩
  | round l a => exact absurd h (callFuncA_not.2 l a)
  | bad => trivial
theorem callMethodA_outc (hN : NoNum P) (hR : Rel P σ ρ s w) {x : AV} {cx : Value} {name : String} {args : List AV} {cargs : Array Value} (hx : VR σ ρ x cx) (ha : VRL σ ρ args cargs.toList) :
    Outc P σ ρ s w (callMethodA P s x name args) ((callMethod cx name cargs).run P w) := by
  unfold callMethodA
  split
  · rename_i t v
    obtain ⟨z, hz, rfl⟩ := hx
    split
    · rename_i f r hm
      obtain ⟨cr, h1, h2⟩ := methodA_run hR hz hm (P.types.size + 99)
      have e : (callMethod (.iface t z) name cargs).run P w = (callFunc f (#[cr] ++ cargs)).run P w := by
        simp only [callMethod, Sem.run_bind, run_program, Result.andThen_ok, Made.depth]
        rw [show P.types.size + 100 = P.types.size + 99 + 1 from rfl, h1]
        rfl
      rw [e]
      exact callFuncA_outc hN (by
        rw [Array.toList_append]
        exact ⟨cr, cargs.toList, by simp, h2, ha⟩)
    · trivial
  · trivial
theorem invokeA_outc (hN : NoNum P) (hR : Rel P σ ρ s w) {g : Fn} {fn : Fn} {args cap : List AV} {cargs ccap : Array Value} (hf : fnR ρ g fn) (ha : VRL σ ρ args cargs.toList) (hc : VRL σ ρ cap ccap.toList) :
    Outc P σ ρ s w (invokeA P g args cap s) ((invoke (.fn fn ccap) cargs).run P w) := by
  unfold invokeA
  split
  · cases hf
    exact callFuncA_outc hN (by rw [Array.toList_append]; exact VRL.append ha hc)
  · cases hf
    rename_i name
    split
    · rename_i r rest
      obtain ⟨v, vs, e, h1, h2⟩ := ha
      have e1 : cargs = #[v] ++ vs.toArray := by
        apply Array.ext'; simp [e]
      subst e1
      have e2 : (invoke (.fn (.method name) ccap) (#[v] ++ vs.toArray)).run P w = (callMethod v name vs.toArray).run P w := by
        simp [invoke]
      rw [e2]
      exact callMethodA_outc hN hR h1 (by simpa using h2)
    · trivial
  · cases hf
    rename_i t name
    split
    · rename_i r rest
      obtain ⟨v, vs, e, h1, h2⟩ := ha
      have e1 : cargs = #[v] ++ vs.toArray := by
        apply Array.ext'; simp [e]
      subst e1
      split
      · rename_i ms hu
        have e2 : (invoke (.fn (.methodOf t name) ccap) (#[v] ++ vs.toArray)).run P w = (callMethod v name vs.toArray).run P w := by
          simp [invoke, underlying_run hu]
        rw [e2]
        exact callMethodA_outc hN hR h1 (by simpa using h2)
      · rename_i d hni hu
        have e2 : (invoke (.fn (.methodOf t name) ccap) (#[v] ++ vs.toArray)).run P w = (callMethod (.iface t v) name vs.toArray).run P w := by
          simp only [invoke, Sem.run_bind]
          simp [underlying_run hu]
        rw [e2]
        exact callMethodA_outc hN hR ⟨v, h1, rfl⟩ (by simpa using h2)
      · trivial
    · trivial
  · trivial
  · obtain ⟨x, hx, rfl⟩ := hf
    exact ⟨x, cargs, hx, rfl, ha⟩
end Go.AX
set_option linter.unusedVariables false
set_option linter.unusedSimpArgs false
namespace Go.AX
open Go
variable {P : Program} {σ : Sg} {ρ : Ren} {s : St} {w : World}

/-- An outcome that is no call. -/
def NX.plain : NX → Bool | .call .. => false | .round .. => false | _ => true
theorem Outc.of {r : NX} {res : Result Next} (hp : r.plain = true) (h : ∀ v s', r = .val v s' → Came P σ ρ s w v s' res) : Outc P σ ρ s w r res := by
  cases r with
  | val v s' => exact h v s' rfl
  | call f a => cases hp
  | round l a => cases hp
  | bad => trivial
theorem plain_orBad {o : Option AV} : (orBad o s).plain = true := by cases o <;> rfl
theorem plain_orBadS {o : Option St} : (orBadS o).plain = true := by cases o <;> rfl
theorem plain_found {e : TypeId} {ok : Bool} {r : Option (Nat × AV)} : (xFound P s e ok r).plain = true := by unfold xFound; (repeat' split) <;> rfl
theorem plain_nextS {r : Nat} {l : List UInt8} {p : Nat} : (xNextS s r l p).plain = true := by unfold xNextS; (repeat' split) <;> rfl
theorem plain_nextK {r m a p : Nat} {kd : IntKind} {l : List (Nat × Nat)} {i : List Nat} : (xNextK s r m a kd l i p).plain = true := by unfold xNextK; (repeat' split) <;> rfl
theorem plain_xAlloc {e : TypeId} : (xAlloc P s e).plain = true := by
  unfold xAlloc; (try dsimp only); (repeat' split) <;> first | rfl | exact plain_orBad | exact plain_orBadS | exact plain_found | exact plain_nextS | exact plain_nextK
theorem plain_xBox {e : TypeId} {x : AV} : (xBox s e x).plain = true := by
  unfold xBox; (try dsimp only); (repeat' split) <;> first | rfl | exact plain_orBad | exact plain_orBadS | exact plain_found | exact plain_nextS | exact plain_nextK
theorem plain_xBuild {t : TypeId} {ps : List (Nat × AV)} : (xBuild P s t ps).plain = true := by
  unfold xBuild; (try dsimp only); (repeat' split) <;> first | rfl | exact plain_orBad | exact plain_orBadS | exact plain_found | exact plain_nextS | exact plain_nextK
theorem plain_xBuildSlice {t : TypeId} {n : Nat} {ps : List (Nat × AV)} : (xBuildSlice P s t n ps).plain = true := by
  unfold xBuildSlice; (try dsimp only); (repeat' split) <;> first | rfl | exact plain_orBad | exact plain_orBadS | exact plain_found | exact plain_nextS | exact plain_nextK
theorem plain_xLoad {t : TypeId} {a : AV} : (xLoad P s t a).plain = true := by
  unfold xLoad; (try dsimp only); (repeat' split) <;> first | rfl | exact plain_orBad | exact plain_orBadS | exact plain_found | exact plain_nextS | exact plain_nextK
theorem plain_xStore {t : TypeId} {a x : AV} : (xStore P s t a x).plain = true := by
  unfold xStore; (try dsimp only); (repeat' split) <;> first | rfl | exact plain_orBad | exact plain_orBadS | exact plain_found | exact plain_nextS | exact plain_nextK
theorem plain_xNilCheck {x : AV} : (xNilCheck P s x).plain = true := by
  unfold xNilCheck; (try dsimp only); (repeat' split) <;> first | rfl | exact plain_orBad | exact plain_orBadS | exact plain_found | exact plain_nextS | exact plain_nextK
theorem plain_xUn {op : UnOp} {x : AV} : (xUn s op x).plain = true := by
  unfold xUn; (try dsimp only); (repeat' split) <;> first | rfl | exact plain_orBad | exact plain_orBadS | exact plain_found | exact plain_nextS | exact plain_nextK
theorem plain_xConvert {a b : TypeId} {x : AV} : (xConvert P s a b x).plain = true := by
  unfold xConvert; (try dsimp only); (repeat' split) <;> first | rfl | exact plain_orBad | exact plain_orBadS | exact plain_found | exact plain_nextS | exact plain_nextK
theorem plain_xMakeInterface {t : TypeId} {x : AV} : (xMakeInterface P s t x).plain = true := by
  unfold xMakeInterface; (try dsimp only); (repeat' split) <;> first | rfl | exact plain_orBad | exact plain_orBadS | exact plain_found | exact plain_nextS | exact plain_nextK
theorem plain_xMakeMap {t : TypeId} {r : Option AV} : (xMakeMap P s t r).plain = true := by
  unfold xMakeMap; (try dsimp only); (repeat' split) <;> first | rfl | exact plain_orBad | exact plain_orBadS | exact plain_found | exact plain_nextS | exact plain_nextK
theorem plain_xMakeSlice {t : TypeId} {l c : AV} : (xMakeSlice P s t l c).plain = true := by
  unfold xMakeSlice; (try dsimp only); (repeat' split) <;> first | rfl | exact plain_orBad | exact plain_orBadS | exact plain_found | exact plain_nextS | exact plain_nextK
theorem plain_xSlice {t : TypeId} {x : AV} {l h m : Option AV} : (xSlice P s t x l h m).plain = true := by
  unfold xSlice; (try dsimp only); (repeat' split) <;> first | rfl | exact plain_orBad | exact plain_orBadS | exact plain_found | exact plain_nextS | exact plain_nextK
theorem plain_xFieldAddr {t : TypeId} {x : AV} {f : Nat} : (xFieldAddr P s t x f).plain = true := by
  unfold xFieldAddr; (try dsimp only); (repeat' split) <;> first | rfl | exact plain_orBad | exact plain_orBadS | exact plain_found | exact plain_nextS | exact plain_nextK
theorem plain_xField {t : TypeId} {x : AV} {f : Nat} : (xField P s t x f).plain = true := by
  unfold xField; (try dsimp only); (repeat' split) <;> first | rfl | exact plain_orBad | exact plain_orBadS | exact plain_found | exact plain_nextS | exact plain_nextK
theorem plain_xIndexAddr {t : TypeId} {x i : AV} : (xIndexAddr P s t x i).plain = true := by
  unfold xIndexAddr; (try dsimp only); (repeat' split) <;> first | rfl | exact plain_orBad | exact plain_orBadS | exact plain_found | exact plain_nextS | exact plain_nextK
theorem plain_xIndex {t : TypeId} {x i : AV} : (xIndex P s t x i).plain = true := by
  unfold xIndex; (try dsimp only); (repeat' split) <;> first | rfl | exact plain_orBad | exact plain_orBadS | exact plain_found | exact plain_nextS | exact plain_nextK
theorem plain_xLookup {t : TypeId} {x i : AV} {ok : Bool} : (xLookup P s t x i ok).plain = true := by
  unfold xLookup; (try dsimp only); (repeat' split) <;> first | rfl | exact plain_orBad | exact plain_orBadS | exact plain_found | exact plain_nextS | exact plain_nextK
theorem plain_xMapUpd {t : TypeId} {m k x : AV} : (xMapUpd P s t m k x).plain = true := by
  unfold xMapUpd; (try dsimp only); (repeat' split) <;> first | rfl | exact plain_orBad | exact plain_orBadS | exact plain_found | exact plain_nextS | exact plain_nextK
theorem plain_xRange {t : TypeId} {x : AV} : (xRange P s t x).plain = true := by
  unfold xRange; (try dsimp only); (repeat' split) <;> first | rfl | exact plain_orBad | exact plain_orBadS | exact plain_found | exact plain_nextS | exact plain_nextK
theorem plain_xNext {x : AV} {b : Bool} : (xNext s x b).plain = true := by
  unfold xNext; (try dsimp only); (repeat' split) <;> first | rfl | exact plain_orBad | exact plain_orBadS | exact plain_found | exact plain_nextS | exact plain_nextK
theorem plain_xTypeAssert {x : AV} {t : TypeId} {b : Bool} : (xTypeAssert P s x t b).plain = true := by
  unfold xTypeAssert; (try dsimp only); (repeat' split) <;> first | rfl | exact plain_orBad | exact plain_orBadS | exact plain_found | exact plain_nextS | exact plain_nextK
theorem plain_xExtract {x : AV} {i : Nat} : (xExtract s x i).plain = true := by
  unfold xExtract; (try dsimp only); (repeat' split) <;> first | rfl | exact plain_orBad | exact plain_orBadS | exact plain_found | exact plain_nextS | exact plain_nextK
theorem plain_xEntry {x : AV} : (xEntry s x).plain = true := by
  unfold xEntry; (try dsimp only); (repeat' split) <;> first | rfl | exact plain_orBad | exact plain_orBadS | exact plain_found | exact plain_nextS | exact plain_nextK
theorem plain_xMapEntry {t : TypeId} {m k : AV} : (xMapEntry P s t m k).plain = true := by
  unfold xMapEntry; (try dsimp only); (repeat' split) <;> first | rfl | exact plain_orBad | exact plain_orBadS | exact plain_found | exact plain_nextS | exact plain_nextK
theorem plain_xEntryStore {m k x : AV} : (xEntryStore s m k x).plain = true := by
  unfold xEntryStore; (try dsimp only); (repeat' split) <;> first | rfl | exact plain_orBad | exact plain_orBadS | exact plain_found | exact plain_nextS | exact plain_nextK
theorem plain_xPick {c a b : AV} : (xPick s c a b).plain = true := by
  unfold xPick; (try dsimp only); (repeat' split) <;> first | rfl | exact plain_orBad | exact plain_orBadS | exact plain_found | exact plain_nextS | exact plain_nextK
theorem plain_xMakeFunc {f : Fn} {a b : List AV} : (xMakeFunc s f a b).plain = true := by
  unfold xMakeFunc; (try dsimp only); (repeat' split) <;> first | rfl | exact plain_orBad | exact plain_orBadS | exact plain_found | exact plain_nextS | exact plain_nextK
theorem plain_xAppend {ts : Array TypeId} {x y : AV} : (xAppend P s ts x y).plain = true := by
  unfold xAppend; (try dsimp only); (repeat' split) <;> first | rfl | exact plain_orBad | exact plain_orBadS | exact plain_found | exact plain_nextS | exact plain_nextK
theorem plain_xLen {ts : Array TypeId} {x : AV} : (xLen P s ts x).plain = true := by
  unfold xLen; (try dsimp only); (repeat' split) <;> first | rfl | exact plain_orBad | exact plain_orBadS | exact plain_found | exact plain_nextS | exact plain_nextK
theorem plain_xCap {ts : Array TypeId} {x : AV} : (xCap P s ts x).plain = true := by
  unfold xCap; (try dsimp only); (repeat' split) <;> first | rfl | exact plain_orBad | exact plain_orBadS | exact plain_found | exact plain_nextS | exact plain_nextK
theorem plain_xCopy {ts : Array TypeId} {x y : AV} : (xCopy P s ts x y).plain = true := by
  unfold xCopy; (try dsimp only); (repeat' split) <;> first | rfl | exact plain_orBad | exact plain_orBadS | exact plain_found | exact plain_nextS | exact plain_nextK
theorem plain_xClear {ts : Array TypeId} {x : AV} : (xClear P s ts x).plain = true := by
  unfold xClear; (try dsimp only); (repeat' split) <;> first | rfl | exact plain_orBad | exact plain_orBadS | exact plain_found | exact plain_nextS | exact plain_nextK
theorem plain_xDelete {ts : Array TypeId} {x y : AV} : (xDelete P s ts x y).plain = true := by
  unfold xDelete; (try dsimp only); (repeat' split) <;> first | rfl | exact plain_orBad | exact plain_orBadS | exact plain_found | exact plain_nextS | exact plain_nextK
theorem plain_xMinMax {f : Int → Int → Bool} {l : List AV} : (xMinMax s f l).plain = true := by
  unfold xMinMax; (try dsimp only); (repeat' split) <;> first | rfl | exact plain_orBad | exact plain_orBadS | exact plain_found | exact plain_nextS | exact plain_nextK

theorem builtin_outc (hσ : Plain σ) (hR : Rel P σ ρ s w) {b : Builtin} {ts : Array TypeId} {args : List AV} {cargs : List Value} {ty : TypeId} {cs : Array Bool} (ha : VRL σ ρ args cargs) :
    Outc P σ ρ s w (xBuiltin P s b ts args) ((builtin b ts ty cs cargs.toArray).run P w) := by
  unfold xBuiltin
  split
  · split
    · obtain ⟨x, l, rfl, hx, y, l', rfl, hy, e⟩ := ha
      cases e
      exact .of plain_xAppend fun v s' h => op_append hσ hR hx hy h
    · trivial
  · split
    · obtain ⟨x, l, rfl, hx, e⟩ := ha
      cases e
      exact .of plain_xLen fun v s' h => op_len hR hx h
    · trivial
  · split
    · obtain ⟨x, l, rfl, hx, e⟩ := ha
      cases e
      exact .of plain_xCap fun v s' h => op_cap hR hx h
    · trivial
  · split
    · obtain ⟨x, l, rfl, hx, y, l', rfl, hy, e⟩ := ha
      cases e
      exact .of plain_xCopy fun v s' h => op_copy hσ hR hx hy h
    · trivial
  · split
    · obtain ⟨x, l, rfl, hx, e⟩ := ha
      cases e
      exact .of plain_xClear fun v s' h => op_clear hσ hR hx h
    · trivial
  · split
    · obtain ⟨x, l, rfl, hx, y, l', rfl, hy, e⟩ := ha
      cases e
      exact .of plain_xDelete fun v s' h => op_delete hR hx hy h
    · trivial
  · exact .of plain_xMinMax fun v s' h => op_max hR ha h
  · exact .of plain_xMinMax fun v s' h => op_min hR ha h
  · trivial

theorem isConst_eq (x : Operand) : isC x = Region.isConst x := by cases x <;> rfl

theorem call_outc (hN : NoNum P) (hσ : Plain σ) (hR : Rel P σ ρ s w) {n : Nat} {t : Tm} {a : Act} (hT : TR σ ρ n t a.tmps) (c : Call) (ty : TypeId) :
    Outc P σ ρ s w (xCall P t s c) ((do let d ← resolve a.eval c ty; invoke d.target d.args : Sem Next).run P w) := by
  obtain ⟨callee, args, ats⟩ := c
  have hargs := evalL_VRL hR hT args.toList
  have e0 : args.map a.eval = (args.toList.map a.eval).toArray := by apply Array.ext'; simp
  unfold xCall
  cases callee with
  | value f =>
    dsimp only
    split
    · rename_i fn first cap he
      have hv := evalA_VR hR hT f
      rw [he] at hv
      obtain ⟨fn', x, y, hf, hx, hy, e⟩ := hv
      have e2 : (do let d ← resolve a.eval ⟨.value f, args, ats⟩ ty; invoke d.target d.args : Sem Next).run P w = (invoke (.fn fn' y.toArray) (x.toArray ++ args.map a.eval)).run P w := by
        simp [resolve, e, Deferred.ofValue]
      rw [e2]
      exact invokeA_outc hN hR hf (by rw [Array.toList_append, e0]; exact VRL.append hx hargs) hy
    · trivial
  | invoke r name =>
    dsimp only
    have e2 : (do let d ← resolve a.eval ⟨.invoke r name, args, ats⟩ ty; invoke d.target d.args : Sem Next).run P w = (callMethod (a.eval r) name (args.map a.eval)).run P w := by
      rw [e0]
      simp only [resolve, e0]
      have e3 : (#[a.eval r] ++ (args.toList.map a.eval).toArray).extract 1 (#[a.eval r] ++ (args.toList.map a.eval).toArray).size = (args.toList.map a.eval).toArray := by
        apply Array.ext'
        simp [List.extract, List.take_of_length_le]
      simp only [Sem.run_bind, Sem.run_pure, Result.andThen_ok, invoke]
      rw [e3]
      simp
    rw [e2]
    exact callMethodA_outc hN hR (evalA_VR hR hT r) (by rw [e0]; exact hargs)
  | builtin b =>
    dsimp only
    show Outc P σ ρ s w _ (Sem.run P (builtin b ats ty _ (args.map a.eval)) w)
    rw [e0]
    exact builtin_outc hσ hR hargs

theorem exec_outc (hN : NoNum P) (hσ : Plain σ) (hR : Rel P σ ρ s w) {n : Nat} {t : Tm} {a : Act} (hT : TR σ ρ n t a.tmps) (o : Oper) :
    Outc P σ ρ s w (execA P t o.op s) ((execOp a.eval o).run P w) := by
  obtain ⟨dst, op, ty, pos, after, guard⟩ := o
  have ev := fun x => evalA_VR hR hT x
  cases op with
  | move x => exact .same hR rfl (ev x)
  | assign x => exact .same hR rfl (ev x)
  | pick c x y =>
    refine .of plain_xPick fun v s' h => ?_
    have hc := ev c
    simp only [execA] at h
    unfold xPick at h
    split at h
    · rename_i e
      cases h
      rw [e] at hc
      exact .same hR (cv := a.eval x) (by simp only [execOp]; rw [show a.eval c = .bool true from hc]; rfl) (ev x)
    · rename_i e
      cases h
      rw [e] at hc
      exact .same hR (cv := a.eval y) (by simp only [execOp]; rw [show a.eval c = .bool false from hc]; rfl) (ev y)
    · cases h
  | alloc elem => exact .of plain_xAlloc fun v s' h => op_alloc hσ hR h
  | box elem x => exact .of plain_xBox fun v s' h => op_box hσ hR (ev x) h
  | build t' parts =>
    refine .of plain_xBuild fun v s' h => op_build hσ hR ?_ h
    have := evalP_VRP hR hT parts.toList
    simpa using this
  | buildSlice t' len parts =>
    refine .of plain_xBuildSlice fun v s' h => op_buildSlice hσ hR ?_ h
    have := evalP_VRP hR hT parts.toList
    simpa using this
  | insert t' m k x => exact .of plain_xMapUpd fun v s' h => op_mapUpd hR (ev m) (ev k) (ev x) h
  | load t' x => exact .of plain_xLoad fun v s' h => op_load hR (ev x) h
  | store t' x y => exact .of plain_xStore fun v s' h => op_store hσ hR (ev x) (ev y) h
  | ready g => trivial
  | waits g => trivial
  | nilCheck x => exact .of plain_xNilCheck fun v s' h => exec_nilCheck hR (ev x) h
  | binOp op ty' x y z =>
    refine .of plain_orBad fun v s' h => ?_
    simp only [execA] at h
    cases e : binA P op ty' (isC x || isC y) s (evalA t x) (evalA t y) with
    | none => rw [e] at h; cases h
    | some r => rw [e] at h; cases h; exact op_bin hR (ev x) (ev y) e
  | unOp op t' x => exact .of plain_xUn fun v s' h => op_un hR (ev x) h
  | convert src dst' x => exact .of plain_xConvert fun v s' h => op_convert hR (ev x) h
  | sliceToArrayPointer t' x => trivial
  | makeInterface t' x => exact .of plain_xMakeInterface fun v s' h => op_makeInterface hR (ev x) h
  | makeFunc fn first cap =>
    refine .of plain_xMakeFunc fun v s' h => ?_
    have h1 := evalL_VRL hR hT first.toList
    have h2 := evalL_VRL hR hT cap.toList
    simp only [execA] at h
    have e : (execOp a.eval ⟨dst, .makeFunc fn first cap, ty, pos, after, guard⟩).run P w = .ok (.value (.func fn (first.toList.map a.eval).toArray (cap.toList.map a.eval).toArray)) w := by
      simp [execOp, Instr.makeFunc]
      constructor <;> (apply Array.ext'; simp)
    unfold xMakeFunc at h
    split at h
    · cases h
    · rename_i hny
      cases h
      refine .same hR e ⟨fn, _, _, ?_, h1, h2, rfl⟩
      cases fn with
      | yield l => exact absurd rfl (hny l)
      | _ => rfl
  | makeMap t' r =>
    refine .of plain_xMakeMap fun v s' h => op_makeMap hR ?_ h
    cases r with
    | none => trivial
    | some x => exact ev x
  | makeChan t' x => trivial
  | makeSlice t' l c => exact .of plain_xMakeSlice fun v s' h => op_makeSlice hσ hR (ev l) (ev c) h
  | slice t' x lo hi mx => exact .of plain_xSlice fun v s' h => op_slice hR (ev x) (evalO_VRO hR hT lo) (evalO_VRO hR hT hi) (evalO_VRO hR hT mx) h
  | fieldAddr t' x f => exact .of plain_xFieldAddr fun v s' h => op_fieldAddr hR (ev x) h
  | field t' x f => exact .of plain_xField fun v s' h => op_field hR (ev x) h
  | indexAddr t' x i => exact .of plain_xIndexAddr fun v s' h => op_indexAddr hR (ev x) (ev i) h
  | index t' x i => exact .of plain_xIndex fun v s' h => op_index hR (ev x) (ev i) h
  | lookup t' x i ok => exact .of plain_xLookup fun v s' h => op_lookup hR (ev x) (ev i) h
  | mapUpdate t' m k x => exact .of plain_xMapUpd fun v s' h => op_mapUpd hR (ev m) (ev k) (ev x) h
  | mapEntry t' m k => exact .of plain_xMapEntry fun v s' h => op_mapEntry hR (ev m) (ev k) h
  | entryStore t' m st x => exact .of plain_xEntryStore fun v s' h => op_entryStore hR (ev m) (ev st) (ev x) h
  | range t' x => exact .of plain_xRange fun v s' h => op_range hR (ev x) h
  | next it isS => exact .of plain_xNext fun v s' h => op_next hR (ev it) h
  | entry it => exact .of plain_xEntry fun v s' h => op_entry hR (ev it) h
  | typeAssert x xt as_ ok => exact .of plain_xTypeAssert fun v s' h => op_typeAssert hR (ev x) h
  | extract x i => exact .of plain_xExtract fun v s' h => op_extract hR (ev x) h
  | call c => exact call_outc hN hσ hR hT c ty
  | go c => trivial
  | defer c => trivial
  | panic x => trivial
  | send c x => trivial
  | recv a b c => trivial
  | select a b => trivial
end Go.AX
set_option linter.unusedVariables false
namespace Go.AX
open Go
noncomputable section

/-! ### Views of a value -/
inductive CRes | ok (v : AV) (s : St) | bad
inductive OV | no | mk (v : AV)
inductive OI | no | mk (k : IntKind) (n : Int)
inductive OP | no | mk (b o : Nat)
inductive OB | no | tt | ff | un
inductive OS | no | mk (b o len : Nat) (cap : Cap)
inductive ON | no | mk (n : Nat)
def OV.el (k : AV → CRes) (x : OV) : CRes := OV.rec (motive := fun _ => CRes) .bad k x
def OI.el (k : IntKind → Int → OV) (x : OI) : OV := OI.rec (motive := fun _ => OV) .no k x
def OP.el (k : Nat → Nat → OV) (x : OP) : OV := OP.rec (motive := fun _ => OV) .no k x
def ON.el (z : Int) (k : Nat → Int) (x : ON) : Int := ON.rec (motive := fun _ => Int) z k x
def OV.ofO (x : Option AV) : OV := Option.rec (motive := fun _ => OV) .no OV.mk x

def AV.asI (v : AV) : OI := AV.rec (motive_1 := fun _ => OI) (motive_2 := fun _ => OI) (fun _ => .no) (fun k n => .mk k n) (fun _ => .no) (fun _ _ => .no) .no (fun _ _ _ _ => .no) .no .no (fun _ => .no) .no (fun _ _ _ _ _ => .no) .no (fun _ _ _ => .no) .no (fun _ _ => .no) (fun _ _ => .no) (fun _ => .no) (fun _ _ => .no) .no .no (fun _ _ _ _ => .no) v
def AV.asP (v : AV) : OP := AV.rec (motive_1 := fun _ => OP) (motive_2 := fun _ => OP) (fun _ => .no) (fun _ _ => .no) (fun _ => .no) (fun b o => .mk b o) .no (fun _ _ _ _ => .no) .no .no (fun _ => .no) .no (fun _ _ _ _ _ => .no) .no (fun _ _ _ => .no) .no (fun _ _ => .no) (fun _ _ => .no) (fun _ => .no) (fun _ _ => .no) .no .no (fun _ _ _ _ => .no) v
def AV.asB (v : AV) : OB := AV.rec (motive_1 := fun _ => OB) (motive_2 := fun _ => OB) (fun b => Bool.rec (motive := fun _ => OB) .ff .tt b) (fun _ _ => .no) (fun _ => .no) (fun _ _ => .no) .no (fun _ _ _ _ => .no) .no .no (fun _ => .no) .no (fun _ _ _ _ _ => .no) .no (fun _ _ _ => .no) .no (fun _ _ => .no) (fun l _ => List.rec (motive := fun _ => OB) .un (fun _ _ _ => .no) l) (fun _ => .no) (fun _ _ => .no) .no .no (fun _ _ _ _ => .no) v
def AV.asS (v : AV) : OS := AV.rec (motive_1 := fun _ => OS) (motive_2 := fun _ => OS) (fun _ => .no) (fun _ _ => .no) (fun _ => .no) (fun _ _ => .no) .no (fun b o n c => .mk b o n c) .no .no (fun _ => .no) .no (fun _ _ _ _ _ => .no) .no (fun _ _ _ => .no) .no (fun _ _ => .no) (fun _ _ => .no) (fun _ => .no) (fun _ _ => .no) .no .no (fun _ _ _ _ => .no) v
def AV.force (v : AV) : (AV → CRes) → CRes := AV.rec (motive_1 := fun _ => ((AV → CRes) → CRes)) (motive_2 := fun _ => ((AV → CRes) → CRes)) (fun b q => q (.bool b)) (fun k n q => q (.int k n)) (fun s q => q (.str s)) (fun b o q => q (.ptr b o)) (fun q => q .nilp) (fun b o n c q => q (.sl b o n c)) (fun q => q .nils) (fun q => q .emp) (fun r q => q (.map r)) (fun q => q .nilm) (fun f a b _ _ q => q (.func f a b)) (fun q => q .nilf) (fun t v _ q => q (.iface t v)) (fun q => q .nili) (fun c _ q => q (.agg c)) (fun c _ q => q (.tup c)) (fun i q => q (.sym i)) (fun k i q => q (.key k i)) (fun q => q .junk) (fun k => .bad) (fun _ _ _ _ _ => .bad) v
def AV.isPI (v : AV) : Bool := AV.rec (motive_1 := fun _ => Bool) (motive_2 := fun _ => Bool) (fun _ => false) (fun _ _ => false) (fun _ => false) (fun _ _ => true) false (fun _ _ _ _ => false) false false (fun _ => false) false (fun _ _ _ _ _ => false) false (fun _ _ _ => true) false (fun _ _ => false) (fun _ _ => false) (fun _ => false) (fun _ _ => false) false false (fun _ _ _ _ => false) v
def AV.isSc (v : AV) : Bool := AV.rec (motive_1 := fun _ => Bool) (motive_2 := fun _ => Bool) (fun _ => true) (fun _ _ => true) (fun _ => true) (fun _ _ => true) true (fun _ _ _ _ => true) true true (fun _ => true) true (fun _ _ _ _ _ => true) true (fun _ _ _ => true) true (fun _ _ => false) (fun _ _ => false) (fun _ => true) (fun _ _ => true) (false) true (fun _ _ _ _ => true) v
def AV.asNil (v : AV) : OB := AV.rec (motive_1 := fun _ => OB) (motive_2 := fun _ => OB) (fun _ => .no) (fun _ _ => .no) (fun _ => .no) (fun _ _ => .ff) (.tt) (fun _ _ _ _ => .no) .no .no (fun _ => .no) .no (fun _ _ _ _ _ => .no) .no (fun _ _ _ => .no) .no (fun _ _ => .no) (fun _ _ => .no) (fun _ => .no) (fun _ _ => .no) .no .no (fun _ _ _ _ => .no) v
def AV.asT (v : AV) : List AV := AV.rec (motive_1 := fun _ => (List AV)) (motive_2 := fun _ => (List AV)) (fun _ => []) (fun _ _ => []) (fun _ => []) (fun _ _ => []) [] (fun _ _ _ _ => []) [] [] (fun _ => []) [] (fun _ _ _ _ _ => []) [] (fun _ _ _ => []) [] (fun _ _ => []) (fun l _ => l) (fun _ => []) (fun _ _ => []) [] [] (fun _ _ _ _ => []) v

def nthF (l : List AV) : Nat → Option AV :=
  List.rec (motive := fun _ => Nat → Option AV) (fun _ => none) (fun a _ ih i => Nat.rec (motive := fun _ => Option AV) (some a) (fun i _ => ih i) i) l
def cellF (z : List AV) (p : Nat) (m : Q AV) (i : Nat) : Option AV := Option.rec (motive := fun _ => Option AV) (nthF z (Nat.mod i p)) some (m.get (keyOf p i))
def AObj.rdF (o : AObj) : Nat → Option AV :=
  AObj.rec (motive := fun _ => Nat → Option AV) (fun n z p m _ _ i => Bool.rec (motive := fun _ => Option AV) none (cellF z p m i) (Nat.blt i n)) (fun z i => nthF z i)
    (fun _ _ _ => none) (fun _ _ _ _ _ => none) (fun _ _ _ => none) (fun _ _ _ _ _ _ _ _ _ => none) (fun _ => none) (fun _ _ _ _ _ => none) (fun _ _ _ _ => none) (fun _ => none) (fun _ _ _ _ _ _ _ => none) (fun _ _ _ _ _ => none) o
def readF (s : St) (b i : Nat) : OV := OV.ofO (Option.rec (motive := fun _ => Option AV) none (fun o => AObj.rdF o i) (s.h.get b))

/-- One cell written. -/
def AObj.wrF (o : AObj) : Nat → AV → (AObj → CRes) → CRes :=
  AObj.rec (motive := fun _ => Nat → AV → (AObj → CRes) → CRes) (fun n z p m e x i v k => Bool.rec (motive := fun _ => CRes) .bad (k (.cells n z p (m.set (keyOf p i) v) e x)) (Nat.blt i n)) (fun _ _ _ _ => .bad)
    (fun _ _ _ _ _ => .bad) (fun _ _ _ _ _ _ _ => .bad) (fun _ _ _ _ _ => .bad) (fun _ _ _ _ _ _ _ _ _ _ _ => .bad) (fun _ _ _ => .bad) (fun _ _ _ _ _ _ _ => .bad) (fun _ _ _ _ _ _ => .bad) (fun _ _ _ => .bad) (fun _ _ _ _ _ _ _ _ _ => .bad) (fun _ _ _ _ _ _ _ => .bad) o
def OP.elC (k : Nat → Nat → CRes) (x : OP) : CRes := OP.rec (motive := fun _ => CRes) .bad k x
def storeF (s : St) (a x : AV) : CRes :=
  OP.elC (fun b i => Bool.rec (motive := fun _ => CRes) .bad (Option.rec (motive := fun _ => CRes) .bad (fun o => AObj.wrF o i x (fun o => .ok undefA ⟨s.h.set b o, s.nx⟩)) (s.h.get b)) (AV.isSc x)) (AV.asP a)

/-- A number, worked out. -/
def natV (n : Nat) (k : Nat → OV) : OV := Nat.rec (motive := fun _ => OV) (k 0) (fun m _ => k (Nat.succ m)) n
def natC (n : Nat) (k : Nat → CRes) : CRes := Nat.rec (motive := fun _ => CRes) (k 0) (fun m _ => k (Nat.succ m)) n

def iNat (n : Int) : ON := Int.rec (motive := fun _ => ON) ON.mk (fun _ => .no) n
def kN (k : IntKind) : Nat := IntKind.rec (motive := fun _ => Nat) 0 1 2 3 4 5 6 7 k
def wrapF (k : IntKind) : Nat → Int := IntKind.rec (motive := fun _ => Nat → Int) (fun m => IntKind.wrap .i8 (.ofNat m)) (fun m => IntKind.wrap .i16 (.ofNat m)) (fun m => IntKind.wrap .i32 (.ofNat m))
  (fun m => Bool.rec (motive := fun _ => Int) (IntKind.wrap .i64 (.ofNat m)) (.ofNat m) (Nat.blt m 9223372036854775808))
  (fun m => .ofNat (Nat.mod m 256)) (fun m => .ofNat (Nat.mod m 65536)) (fun m => .ofNat (Nat.mod m 4294967296)) (fun m => .ofNat (Nat.mod m 18446744073709551616)) k
def ON.elV (k : Nat → OV) (x : ON) : OV := ON.rec (motive := fun _ => OV) .no k x
def ON.elB (z : Bool) (k : Nat → Bool) (x : ON) : Bool := ON.rec (motive := fun _ => Bool) z k x
def int2 (z : Int) (f : Nat → Nat → Int) (a b : Int) : Int := ON.el z (fun x => ON.el z (fun y => f x y) (iNat b)) (iNat a)
def int2B (z : Bool) (f : Nat → Nat → Bool) (a b : Int) : Bool := ON.elB z (fun x => ON.elB z (fun y => f x y) (iNat b)) (iNat a)
/-- Two operands that are not negative. -/
def int2V (f : Nat → Nat → OV) (a b : Int) : OV := ON.elV (fun x => ON.elV (fun y => f x y) (iNat b)) (iNat a)
structure FI where
  f : IntKind → Int → Int → OV
def eqN (a b : Int) : Bool := int2B (eqI a b) Nat.beq a b
def ltN (a b : Int) : Bool := int2B (ltI a b) Nat.blt a b
def notB (b : Bool) : Bool := Bool.rec (motive := fun _ => Bool) true false b
def fint (op : BinOp) : FI := match op with
  | .add => ⟨fun k a b => .mk (.int k (int2 (k.wrap (a + b)) (fun x y => wrapF k (Nat.add x y)) a b))⟩
  | .sub => ⟨fun k a b => .mk (.int k (int2 (k.wrap (a - b)) (fun x y => Bool.rec (motive := fun _ => Int) (k.wrap (.ofNat x - .ofNat y)) (wrapF k (Nat.sub x y)) (Nat.ble y x)) a b))⟩
  | .mul => ⟨fun k a b => .mk (.int k (int2 (k.wrap (a * b)) (fun x y => wrapF k (Nat.mul x y)) a b))⟩
  | .quo => ⟨fun k a b => int2V (fun x y => Nat.rec (motive := fun _ => OV) .no (fun y _ => .mk (.int k (wrapF k (Nat.div x (Nat.succ y))))) y) a b⟩
  | .rem => ⟨fun k a b => int2V (fun x y => Nat.rec (motive := fun _ => OV) .no (fun y _ => .mk (.int k (.ofNat (Nat.mod x (Nat.succ y))))) y) a b⟩
  | .eql => ⟨fun _ a b => .mk (.bool (eqN a b))⟩
  | .neq => ⟨fun _ a b => .mk (.bool (notB (eqN a b)))⟩
  | .lss => ⟨fun _ a b => .mk (.bool (ltN a b))⟩
  | .leq => ⟨fun _ a b => .mk (.bool (notB (ltN b a)))⟩
  | .gtr => ⟨fun _ a b => .mk (.bool (ltN b a))⟩
  | .geq => ⟨fun _ a b => .mk (.bool (notB (ltN a b)))⟩
  | .xor => ⟨fun k a b => .mk (.int k (int2 (xorI k a b) (fun x y => wrapF k (Nat.xor (Nat.mod x (pow2 k)) (Nat.mod y (pow2 k)))) a b))⟩
  | .and => ⟨fun k a b => .mk (.int k (int2 (andI k a b) (fun x y => wrapF k (Nat.land (Nat.mod x (pow2 k)) (Nat.mod y (pow2 k)))) a b))⟩
  | .or => ⟨fun k a b => .mk (.int k (int2 (orI k a b) (fun x y => wrapF k (Nat.lor (Nat.mod x (pow2 k)) (Nat.mod y (pow2 k)))) a b))⟩
  | op => ⟨fun k a b => OV.ofO (intOp op k a b)⟩
def sameK (k k' : IntKind) (x : OV) : OV := Bool.rec (motive := fun _ => OV) .no x (Nat.beq (kN k) (kN k'))
def binF (g : FI) (x y : AV) : OV := OI.el (fun k a => OI.el (fun k' b => sameK k k' (g.f k a b)) (AV.asI y)) (AV.asI x)
def shlF (x y : AV) : OV := OI.el (fun k a => OI.el (fun _ b => int2V (fun x y => .mk (.int k (wrapF k (Nat.mul x (Nat.pow 2 (Nat.min y k.bits)))))) a b) (AV.asI y)) (AV.asI x)
def shrF (x y : AV) : OV := OI.el (fun k a => OI.el (fun _ b => int2V (fun x y => .mk (.int k (.ofNat (Nat.div x (Nat.pow 2 (Nat.min y k.bits)))))) a b) (AV.asI y)) (AV.asI x)
def OB.el (n t f u : OV) (x : OB) : OV := OB.rec (motive := fun _ => OV) n t f u x
def eqPF (n : Bool) (x y : AV) : OV := OB.el .no (OB.el .no (.mk (.bool n)) (.mk (.bool (notB n))) .no (AV.asNil y)) (OB.el .no (.mk (.bool (notB n))) .no .no (AV.asNil y)) .no (AV.asNil x)
def ptrAdd (off : Nat) (x : AV) : OV := OP.el (fun b o => natV (Nat.add o off) (fun o => .mk (.ptr b o))) (AV.asP x)
def loadF (s : St) (x : AV) : OV := OP.el (fun b o => readF s b o) (AV.asP x)
def OS.el (k : Nat → Nat → Nat → Cap → OV) (x : OS) : OV := OS.rec (motive := fun _ => OV) .no k x
def idxF (sz : Nat) (x ix : AV) : OV := OI.el (fun _ i => ON.elV (fun i => OS.el (fun b o n _ => Bool.rec (motive := fun _ => OV) .no (natV (Nat.add o (Nat.mul i sz)) (fun o => .mk (.ptr b o))) (Nat.blt i n)) (AV.asS x)) (iNat i)) (AV.asI ix)
def idxAF (n sz : Nat) (x ix : AV) : OV := OI.el (fun _ i => ON.elV (fun i => OP.el (fun b o => Bool.rec (motive := fun _ => OV) .no (natV (Nat.add o (Nat.mul i sz)) (fun o => .mk (.ptr b o))) (Nat.blt i n)) (AV.asP x)) (iNat i)) (AV.asI ix)
def pickF (c a b : AV) : OV := OB.el .no (.mk a) (.mk b) .no (AV.asB c)
def convF (k : IntKind) (x : AV) : OV := OI.el (fun _ n => .mk (.int k (ON.el (k.wrap n) (fun m => wrapF k m) (iNat n)))) (AV.asI x)
def notF (x : AV) : OV := OB.el .no (.mk (.bool false)) (.mk (.bool true)) .no (AV.asB x)
def extF (i : Nat) (x : AV) : OV := OV.ofO (nthF (AV.asT x) i)
def NX.toV (r : NX) : OV := NX.rec (motive := fun _ => OV) (fun v _ => .mk v) (fun _ _ => .no) (fun _ _ => .no) .no r

end
end Go.AX
set_option linter.unusedVariables false
namespace Go.AX
open Go
noncomputable section

/-- How a loop over a map is to be run in whatever order: what its rounds only look at, and of which great rows each writes the cells of its key. -/
structure Hint where
  ro : List Nat
  part : List (Nat × Nat)
  mode : Nat
  kd : IntKind

structure Self where
  call : FuncId → List AV → St → CRes
  round : Nat → List AV → St → CRes
  fuel : Nat
  hint : Nat → Option Hint
  mu : Bool

abbrev K := X → Tm → St → List Nat → CRes
abbrev KT := Tm → St → CRes

def CRes.el (k : AV → St → CRes) (r : CRes) : CRes := CRes.rec (motive := fun _ => CRes) k .bad r
def nxR (self : Self) (s : St) (r : NX) : CRes :=
  NX.rec (motive := fun _ => CRes) (fun v s' => .ok v s') (fun f args => self.call f args s) (fun l args => self.round l args s) .bad r

/-- An operand, a place to write, an operation, a region, a piece of code: made ready once. -/
structure FOpn where
  get : Tm → AV
structure FPut where
  put : Tm → AV → Tm
structure FOp where
  run : Self → Tm → St → CRes
structure FReg where
  run : Self → Tm → St → KT → CRes
structure FCode where
  run : Self → Option Nat → Tm → St → List Nat → K → CRes
structure CF where
  run : Self → List AV → St → CRes

def fopn (o : Operand) : FOpn := match o with
  | .tmp k => ⟨fun t => (QP.of AV 4 k).g t⟩
  | .const v => ⟨fun _ => abst v⟩
  | .global g => (match Nat.blt g 1000 with | true => ⟨fun _ => .ptr g 0⟩ | false => ⟨fun _ => .junk⟩)
  | .func f => ⟨fun _ => .func (.func f) [] []⟩
def fput (d : Option Tmp) : FPut := match d with
  | none => ⟨fun t _ => t⟩
  | some d => ⟨fun t v => (QP.of AV 4 d).u v t⟩

variable (P : Program)

/-- An operation that only hands on an operand. -/
def isMove (o : Op) : Option Operand := match o with
  | .move x => some x
  | .assign x => some x
  | _ => none

/-- Operations without effect, by ways of their own. -/
structure FVal where
  get : Tm → St → OV
def fval (o : Op) : Option FVal := match o with
  | .pick c a b => let c := fopn c; let a := fopn a; let b := fopn b; some ⟨fun t s => pickF (c.get t) (a.get t) (b.get t)⟩
  | .nilCheck x => let g := fopn x; some ⟨fun t s => Bool.rec (motive := fun _ => OV) (NX.toV (xNilCheck P s (g.get t))) (.mk (g.get t)) (AV.isPI (g.get t))⟩
  | .binOp op ty x y _ => let gx := fopn x; let gy := fopn y
    (match P.underlying ty with
    | some (.int _) => (match op with
      | .shl => some ⟨fun t s => shlF (gx.get t) (gy.get t)⟩
      | .shr => some ⟨fun t s => shrF (gx.get t) (gy.get t)⟩
      | op => let g := fint op; some ⟨fun t s => binF g (gx.get t) (gy.get t)⟩)
    | some (.pointer _) => (match op with
      | .eql => some ⟨fun t s => eqPF true (gx.get t) (gy.get t)⟩
      | .neq => some ⟨fun t s => eqPF false (gx.get t) (gy.get t)⟩
      | _ => none)
    | _ => none)
  | .fieldAddr st x f => (match fieldAt P st f with
    | some (off, _) => let g := fopn x; some ⟨fun t s => ptrAdd off (g.get t)⟩
    | none => none)
  | .load ty a => (match isAggT P ty with
    | some false => let g := fopn a; some ⟨fun t s => loadF s (g.get t)⟩
    | _ => none)
  | .indexAddr ty x ix => (match elemAt P ty with
    | some (none, sz) => let gx := fopn x; let gi := fopn ix; some ⟨fun t s => idxF sz (gx.get t) (gi.get t)⟩
    | some (some n, sz) => let gx := fopn x; let gi := fopn ix; some ⟨fun t s => idxAF n sz (gx.get t) (gi.get t)⟩
    | none => none)
  | .convert src dst x => (match P.underlying src, P.underlying dst with
    | some (.int _), some (.int k) => let g := fopn x; some ⟨fun t s => convF k (g.get t)⟩
    | _, _ => none)
  | .unOp .not _ x => let g := fopn x; some ⟨fun t s => notF (g.get t)⟩
  | .extract x i => let g := fopn x; some ⟨fun t s => extF i (g.get t)⟩
  | _ => none

/-- Is it a type of one cell that is no aggregate? -/
def oneT (t : TypeId) : Bool := match isAggT P t, sizeOfT P t with | some false, some 1 => true | _, _ => false
structure FArgs where
  get : Tm → List AV
def fargs (l : List Operand) : FArgs := List.rec (motive := fun _ => FArgs) ⟨fun _ => []⟩ (fun o _ ih => let g := fopn o; ⟨fun t => g.get t :: ih.get t⟩) l
def fop (o : Op) : FOp := match o with
  | .call ⟨.value (.func f), args, _⟩ => let g := fargs args.toList; ⟨fun self t s => self.call f (g.get t) s⟩
  | .alloc e => ⟨fun self t s => nxR self s (xAlloc P s e)⟩
  | .box e x => ⟨fun self t s => nxR self s (xBox s e (evalA t x))⟩
  | .build ty parts => ⟨fun self t s => nxR self s (xBuild P s ty (evalP t parts.toList))⟩
  | .buildSlice ty len parts => ⟨fun self t s => nxR self s (xBuildSlice P s ty len (evalP t parts.toList))⟩
  | .load ty a => ⟨fun self t s => nxR self s (xLoad P s ty (evalA t a))⟩
  | .store ty a x => (match oneT P ty with
    | true => let a := fopn a; let x := fopn x; ⟨fun self t s => storeF s (a.get t) (x.get t)⟩
    | false => ⟨fun self t s => nxR self s (xStore P s ty (evalA t a) (evalA t x))⟩)
  | .nilCheck x => ⟨fun self t s => nxR self s (xNilCheck P s (evalA t x))⟩
  | .binOp op ty x y z => ⟨fun self t s => nxR self s (orBad (binA P op ty (isC x || isC y) s (evalA t x) (evalA t y)) s)⟩
  | .unOp op z x => ⟨fun self t s => nxR self s (xUn s op (evalA t x))⟩
  | .convert src dst x => ⟨fun self t s => nxR self s (xConvert P s src dst (evalA t x))⟩
  | .makeInterface ty x => ⟨fun self t s => nxR self s (xMakeInterface P s ty (evalA t x))⟩
  | .makeSlice ty l c => ⟨fun self t s => nxR self s (xMakeSlice P s ty (evalA t l) (evalA t c))⟩
  | .slice ty x lo hi mx => ⟨fun self t s => nxR self s (xSlice P s ty (evalA t x) (evalO t lo) (evalO t hi) (evalO t mx))⟩
  | .index ty x ix => ⟨fun self t s => nxR self s (xIndex P s ty (evalA t x) (evalA t ix))⟩
  | .lookup ty x ix ok => ⟨fun self t s => nxR self s (xLookup P s ty (evalA t x) (evalA t ix) ok)⟩
  | .mapUpdate ty m k x => ⟨fun self t s => nxR self s (xMapUpd P s ty (evalA t m) (evalA t k) (evalA t x))⟩
  | .range ty x => ⟨fun self t s => nxR self s (xRange P s ty (evalA t x))⟩
  | .next it isS => ⟨fun self t s => nxR self s (xNext s (evalA t it) isS)⟩
  | .extract x i => ⟨fun self t s => nxR self s (xExtract s (evalA t x) i)⟩
  | .entry it => ⟨fun self t s => nxR self s (xEntry s (evalA t it))⟩
  | o => ⟨fun self t s => nxR self s (execA P t o s)⟩

/-- Go on with one region or the other. -/
def badR : FReg := ⟨fun _ _ _ _ => .bad⟩
def guardEl (want : Bool) (v : AV) (x y : FReg) : FReg :=
  OB.rec (motive := fun _ => FReg) badR (Bool.rec (motive := fun _ => FReg) y x want) (Bool.rec (motive := fun _ => FReg) x y want) y (AV.asB v)

def FReg.go (r : FReg) (self : Self) (t : Tm) (s : St) (k : KT) : CRes := r.run self t s k

def fstep (o : Oper) (rest : FReg) : FReg :=
  match isMove o.op with
  | some x => let g := fopn x; ⟨fun self t s k => AV.force (g.get t) (fun v => rest.go self ((fput o.dst).put t v) s k)⟩
  | none => match fval P o.op with
    | some f => ⟨fun self t s k => OV.el (fun v => rest.go self ((fput o.dst).put t v) s k) (f.get t s)⟩
    | none => ⟨fun self t s k => CRes.el (fun v s' => rest.go self ((fput o.dst).put t v) s' k) ((fop P o.op).run self t s)⟩
def fskip (o : Oper) (rest : FReg) : FReg := ⟨fun self t s k => rest.go self ((fput o.dst).put t undefA) s k⟩
def fguard (ops : Array Oper) (o : Oper) (rest : FReg) : FReg :=
  match o.guard with
  | none => fstep P o rest
  | some (j, want) => (match (ops[j]?).bind (·.dst) with
    | some d => let x := fstep P o rest; let y := fskip o rest; ⟨fun self t s k => (guardEl want ((QP.of AV 4 d).g t) x y).go self t s k⟩
    | none => fskip o rest)
def fregL (ops : Array Oper) (l : List Oper) : FReg :=
  List.rec (motive := fun _ => FReg) ⟨fun _ t s k => k t s⟩ (fun o _ ih => fguard P ops o ih) l

/-! ### Regions that draw their order -/
/-- 0: reads at most · 1: makes one object, out of its operands · 2: all else. -/
def clsOf (o : Op) : Nat := match o with
  | .alloc _ | .box .. | .buildSlice .. | .makeMap _ none | .makeSlice .. => 1
  | .move _ | .assign _ | .pick .. | .load .. | .nilCheck _ | .binOp .. | .unOp .. | .makeInterface .. | .makeFunc .. | .slice .. | .fieldAddr .. | .field .. | .indexAddr .. | .index .. | .lookup .. | .entry _
  | .typeAssert .. | .extract .. | .build .. => 0
  | .convert _ dst _ => (match P.underlying dst with | some (.slice _) => 2 | some _ => 0 | none => 2)
  | .call ⟨.builtin .len, _, _⟩ | .call ⟨.builtin .cap, _, _⟩ | .call ⟨.builtin .min, _, _⟩ | .call ⟨.builtin .max, _, _⟩ => 0
  | _ => 2
/-- Does it look at no object? -/
def blindK (o : Op) : Bool := match o with
  | .move _ | .assign _ | .pick .. | .nilCheck _ | .binOp .. | .unOp .. | .makeInterface .. | .makeFunc .. | .slice .. | .fieldAddr .. | .field .. | .indexAddr .. | .index .. | .typeAssert .. | .extract .. | .build .. => true
  | _ => false
def allocA (t : Tm) (o : Op) (id : Nat) : Option (AV × AObj) := match o with
  | .alloc elem => (match zeroCells P elem with
    | some c => some (.ptr id 0, .cells c.length c c.length Q.e elem false)
    | none => none)
  | .box elem x => (match cellsA (evalA t x) with
    | some c => some (.ptr id 0, .cells c.length c c.length Q.e elem false)
    | none => none)
  | .buildSlice ty len parts => (match elemOfT P ty with
    | some e => (match zeroCells P e, sizeOfT P e with
      | some z, some sz => (match Nat.beq z.length sz && Nat.ble (len * sz) 16777216, fillA (fun i => some (i * sz, sz)) (rep z len) (evalP t parts.toList) with
        | true, some cs => some (.sl id 0 len (.k len), .cells cs.length cs cs.length Q.e e false)
        | _, _ => none)
      | _, _ => none)
    | none => none)
  | .makeMap _ none => some (.map id, .map [] 0)
  | .makeSlice ty l c => (match elemOfT P ty with
    | some e => (match asN (evalA t l), asN (evalA t c) with
      | some l, some c => (match zeroCells P e, sizeOfT P e, bytesOfT P e with
        | some z, some sz, some by_ =>
          (match Nat.ble l c && Nat.ble c 4611686018427387904 && Nat.ble (by_ * c) 281474976710656 && Nat.beq z.length sz with
          | true => some (.sl id 0 l (.k c), .cells (c * sz) z sz Q.e e false)
          | false => none)
        | _, _, _ => none)
      | _, _ => none)
    | none => none)
  | _ => none
/-- The kind of the operation that stands at a place. -/
def clsAt (ops : Array Oper) (i : Nat) : Nat := match ops[i]? with | some o => clsOf P o.op | none => 3
/-- The places before n of one kind. -/
def esA (ops : Array Oper) (c n : Nat) : List Nat := (List.range n).filter fun i => Nat.beq (clsAt P ops i) c
/-- Must operation i come before operation j? -/
def befB (b : Array Nat) (i j : Nat) : Bool := Nat.testBit (b.getD j 0) i
def chainB (b : Array Nat) : List Nat → Bool
  | [] => true
  | [_] => true
  | i :: j :: l => befB b i j && chainB b (j :: l)
/-- The number of the first of es that must come behind j. -/
def hiOf (b : Array Nat) (j : Nat) : List Nat → Nat → Nat
  | [], r => r
  | e :: es, r => match befB b j e with | true => r | false => hiOf b j es (Nat.succ r)
/-- Behind how many of es it must come. -/
def loOf (b : Array Nat) (j : Nat) : List Nat → Nat → Nat → Nat
  | [], _, acc => acc
  | e :: es, r, acc => loOf b j es (Nat.succ r) (match befB b e j with | true => Nat.succ r | false => acc)
def cntLt (j : Nat) : List Nat → Nat
  | [] => 0
  | e :: es => match Nat.blt e j with | true => Nat.succ (cntLt j es) | false => cntLt j es
def tmpsOf (o : Op) : List Tmp := o.operands.toList.filterMap fun | .tmp t => some t | _ => none
/-- The operations' places are apart, and whether an operation sees what another makes is fixed: one of the two must come before the other. -/
def apartB (b : Array Nat) (o : Oper) (j : Nat) (p : Oper × Nat) : Bool := match p.1.dst with
  | none => true
  | some d => (match Nat.beq p.2 j with
    | true => true
    | false => (match o.dst with | some d' => !(Nat.beq d d') | none => true) && (!((tmpsOf o.op).contains d) || befB b p.2 j || befB b j p.2))
def readsB (ops : Array Oper) (b : Array Nat) : List Oper → Nat → Bool
  | [], _ => true
  | o :: l, j => ops.toList.zipIdx.all (apartB b o j) &&
    (match o.guard with | some (g, _) => befB b g j && ((ops[g]?).bind (·.dst)).isSome | none => true) &&
    (o.after.toList.all fun e => !(Region.binds .any e) || Nat.blt e.on j) &&
    readsB ops b l (Nat.succ j)
/-- Does no operation from number j on write what this one looks at? -/
def stableB (ops : Array Oper) (o : Oper) (j : Nat) : Bool := ops.toList.zipIdx.all fun p => Nat.blt p.2 j || (match p.1.dst with | some d => !((tmpsOf o.op).contains d) | none => true)
/-- The places of the list that are first behind one of es. -/
def newAt (b : Array Nat) (as : List Nat) (seen : List Nat) (e : Nat) : List Nat := as.filter fun a => befB b a e && !(seen.any fun e' => befB b a e')

/-- An object that waits, by its operation's number. -/
abbrev Pend := List (Nat × AObj)
def pget (j : Nat) : Pend → Option AObj
  | [] => none
  | (i, o) :: l => match Nat.beq i j with | true => some o | false => pget j l
/-- The rank of j in the list. -/
def rankOf (j : Nat) : List Nat → Nat
  | [] => 0
  | i :: l => match Nat.beq i j with | true => 0 | false => Nat.succ (rankOf j l)
def absorb (as : List Nat) (base : Nat) (pend : Pend) : List Nat → St → St
  | [], s => s
  | j :: js, s => match pget j pend with
    | some o => absorb as base pend js (s.put (Nat.add base (rankOf j as)) o)
    | none => absorb as base pend js s

abbrev KD := Tm → St → List St → Pend → CRes
structure DReg where
  run : Self → Nat → Tm → St → List St → Pend → KD → CRes
def DReg.go (r : DReg) (self : Self) (base : Nat) (t : Tm) (s : St) (sn : List St) (pe : Pend) (k : KD) : CRes := r.run self base t s sn pe k
def badD : DReg := ⟨fun _ _ _ _ _ _ _ => .bad⟩
def guardD (want : Bool) (v : AV) (x y : DReg) : DReg :=
  OB.rec (motive := fun _ => DReg) badD (Bool.rec (motive := fun _ => DReg) y x want) (Bool.rec (motive := fun _ => DReg) x y want) y (AV.asB v)
/-- An operation that reads at most. -/
def fquiet (o : Op) : FVal := match isMove o with
  | some x => let g := fopn x; ⟨fun t _ => .mk (g.get t)⟩
  | none => (match fval P o with
    | some f => f
    | none => ⟨fun t s => NX.toV (execA P t o s)⟩)
def OAV.el (k : AV → AObj → CRes) (x : Option (AV × AObj)) : CRes := Option.rec (motive := fun _ => CRes) .bad (fun p => k p.1 p.2) x
def dstep (as js : List Nat) (j : Nat) (o : Oper) (rest : DReg) : DReg :=
  let p := fput o.dst
  match clsOf P o.op with
  | 0 => let f := fquiet P o.op; ⟨fun self base t s sn pe k => OV.el (fun v => rest.go self base (p.put t v) s sn pe k) (f.get t s)⟩
  | 1 => let r := rankOf j as; ⟨fun self base t s sn pe k => OAV.el (fun v ob => rest.go self base (p.put t v) s sn ((j, ob) :: pe) k) (allocA P t o.op (Nat.add base r))⟩
  | _ => let f := fop P o.op; ⟨fun self base t s sn pe k => CRes.el (fun v s' => rest.go self base (p.put t v) s' (s' :: sn) pe k) (f.run self t (absorb as base pe js s))⟩
def dskip (as js : List Nat) (o : Oper) (rest : DReg) : DReg :=
  let p := fput o.dst
  match clsOf P o.op with
  | 0 => ⟨fun self base t s sn pe k => rest.go self base (p.put t undefA) s sn pe k⟩
  | 1 => ⟨fun self base t s sn pe k => rest.go self base (p.put t undefA) s sn pe k⟩
  | _ => ⟨fun self base t s sn pe k => rest.go self base (p.put t undefA) (absorb as base pe js s) ((absorb as base pe js s) :: sn) pe k⟩
def dguard (ops : Array Oper) (as js : List Nat) (j : Nat) (o : Oper) (rest : DReg) : DReg :=
  match o.guard with
  | none => dstep P as js j o rest
  | some (g, want) => (match (ops[g]?).bind (·.dst) with
    | some d => let x := dstep P as js j o rest; let y := dskip P as js o rest; ⟨fun self base t s sn pe k => (guardD want ((QP.of AV 4 d).g t) x y).go self base t s sn pe k⟩
    | none => badD)
/-- The operations from number j on. -/
def dregL (ops : Array Oper) (b : Array Nat) (as : List Nat) : List Oper → Nat → DReg
  | [], _ => ⟨fun _ _ t s sn pe k => k t s sn pe⟩
  | o :: l, j => dguard P ops as (newAt b as (esA P ops 2 j) j) j o (dregL ops b as l (Nat.succ j))

/-- A further look: the operation j, behind k of the m acting ones. -/
structure Look where
  o : Oper
  k : Nat
def rangeL (lo : Nat) : Nat → List Nat
  | 0 => []
  | n+1 => lo :: rangeL (Nat.succ lo) n
def looksOf (ops : Array Oper) (b : Array Nat) (es : List Nat) : List Oper → Nat → List Look
  | [], _ => []
  | o :: l, j => (match clsOf P o.op, blindK o.op with
      | 0, false => let lo := loOf b j es 0 0; let hi := hiOf b j es 0; let c := cntLt j es
        (match stableB ops o j with
          | true => ((rangeL lo (Nat.succ hi - lo)).filter fun k => !(Nat.beq k c)).map fun k => ⟨o, k⟩
          | false => ((rangeL lo (Nat.succ hi - lo)).filter fun k => !(Nat.beq k c)).map fun k => ⟨o, Nat.succ es.length⟩)
      | _, _ => []) ++ looksOf ops b es l (Nat.succ j)
def wantedT (ops : Array Oper) (t : Tm) (o : Oper) : OB := match o.guard with
  | none => .tt
  | some (g, want) => (match (ops[g]?).bind (·.dst) with
    | some d => (match AV.asB (tget t d), want with
      | .tt, true => .tt
      | .ff, false => .tt
      | .no, _ => .no
      | _, _ => .ff)
    | none => .no)
def lookOK (ops : Array Oper) (t : Tm) (snA : List St) (x : Look) : Bool :=
  match wantedT ops t x.o with
  | .ff => true
  | .tt => (match snA[x.k]? with
    | some s => (match execA P t x.o.op s with
      | .val v _ => (match x.o.dst with | some d => beqA v (tget t d) | none => true)
      | _ => false)
    | none => false)
  | _ => false
def looksOK (ops : Array Oper) (t : Tm) (snA : List St) : List Look → Bool
  | [] => true
  | x :: l => lookOK P ops t snA x && looksOK ops t snA l
/-- The end of such a region. -/
def dend (ops : Array Oper) (as js : List Nat) (base : Nat) (looks : List Look) (kt : KT) : KD := fun t s sn pe =>
  match looks with
  | [] => kt t (absorb as base pe js s)
  | looks => (match looksOK P ops t sn.reverse looks with
    | true => kt t (absorb as base pe js s)
    | false => .bad)
def drawOK (ops : Array Oper) (b : Array Nat) (es : List Nat) : Bool := chainB b es && readsB ops b ops.toList 0
def fdraw (ops : Array Oper) : FReg :=
  let b := Region.before ops
  let as := esA P ops 1 ops.size
  let es := esA P ops 2 ops.size
  match drawOK ops b es with
  | true =>
    let r := dregL P ops b as ops.toList 0
    let js := as.filter fun a => !(es.any fun e => befB b a e)
    let looks := looksOf P ops b es ops.toList 0
    let n := as.length
    ⟨fun self t s k => r.go self s.nx t ⟨s.h, Nat.add s.nx n⟩ [⟨s.h, Nat.add s.nx n⟩] [] (dend P ops as js s.nx looks k)⟩
  | false => badR
def dstOK (nt : Nat) (o : Oper) : Bool := match o.dst with | some d => Nat.blt d nt | none => true
def fregion (nt : Nat) (ops : Array Oper) (draw : Bool) : FReg :=
  match draw, ops.toList.all (dstOK nt) with
  | false, true => fregL P ops ops.toList
  | true, true => fdraw P ops
  | _, false => badR

def FCode.go (c : FCode) (self : Self) (rd : Option Nat) (t : Tm) (s : St) (ds : List Nat) (k : K) : CRes := c.run self rd t s ds k
def X.el (a b : CRes) (f : Nat → CRes) (x : X) : CRes := X.rec (motive := fun _ => CRes) a b f x
def badC : FCode := ⟨fun _ _ _ _ _ _ => .bad⟩
def condEl (v : AV) (x y : FCode) : FCode := OB.rec (motive := fun _ => FCode) badC x y badC (AV.asB v)

def kseq (y : FCode) (self : Self) (rd : Option Nat) (k : K) : K := fun x t s ds => X.el (y.go self rd t s ds k) (k .ret t s ds) (fun id => k (.exit id) t s ds) x
def kblock (id : Nat) (k : K) : K := fun x t s ds => X.el (k .norm t s ds) (k .ret t s ds) (fun i => Bool.rec (motive := fun _ => CRes) (k (.exit i) t s ds) (k .norm t s ds) (Nat.beq i id)) x
def floop (c : FCode) (self : Self) (rd : Option Nat) (k : K) (n : Nat) : Tm → St → List Nat → CRes :=
  Nat.rec (motive := fun _ => Tm → St → List Nat → CRes) (fun _ _ _ => .bad)
    (fun _ ih t s ds => c.go self rd t s ds (fun x t s ds => X.el (ih t s ds) (k .ret t s ds) (fun id => k (.exit id) t s ds) x)) n

/-! ### The same -/
/-- Two leaves, the same. -/
def eqLeaf (a b : Option AV) : Bool := match a, b with
  | none, none => true
  | some a, some b => beqA a b
  | _, _ => false
/-- Two tables are the same. -/
def eqTr : (d : Nat) → ETr AV d → ETr AV d → Bool
  | 0, a, b => eqLeaf a b
  | d+1, t, u => E4.rec (motive := fun _ => Bool) (E4.rec (motive := fun _ => Bool) true (fun _ _ _ _ => false) u)
      (fun a b c e => E4.rec (motive := fun _ => Bool) false (fun a' b' c' e' => eqTr d a a' && eqTr d b b' && eqTr d c c' && eqTr d e e') u) t
def sameME : List ME → List ME → Bool
  | [], [] => true
  | a :: l, b :: m => beqA a.k b.k && beqA a.v b.v && Nat.beq a.born b.born && sameME l m
  | _, _ => false
def sameB (a b : Bool) : Bool := match a, b with | true, true => true | false, false => true | _, _ => false
/-- Two rows are built the same. -/
def sameTab (n : Nat) (z : List AV) (p : Nat) (m : Q AV) (z' : List AV) (p' : Nat) (m' : Q AV) : Bool := Nat.beq p p' && (Nat.ble n 65536 && (Nat.blt 0 p || Nat.beq n 0)) && all2 beqA z z' && eqTr 8 m.t m'.t
/-- Two rows' cells are the same, one by one. -/
def sameCells (z : List AV) (p : Nat) (m : Q AV) (z' : List AV) (p' : Nat) (m' : Q AV) : List Nat → Bool
  | [] => true
  | i :: l => eqLeaf (cellAt z p m i) (cellAt z' p' m' i) && sameCells z p m z' p' m' l
/-- Two objects hold the same. -/
def sameObj (o o' : AObj) : Bool := match o, o' with
  | .cells n z p m e x, .cells n' z' p' m' e' x' => Nat.beq n n' && Nat.beq e e' && sameB x x' && (sameTab n z p m z' p' m' || (Nat.ble n 64 && sameCells z p m z' p' m' (rangeL 0 n)))
  | .rom z, .rom z' => all2 beqA z z'
  | .map es c, .map es' c' => Nat.beq c c' && sameME es es'
  | _, _ => false
/-- The temporaries of a list alone. -/
def only (ks : List Tmp) (t : Tm) : Tm := ks.foldr (fun k acc => tset acc k (tget t k)) (QD.full .junk 4)

/-! ### Loops over maps, in whatever order -/
/-- The iterator's place, if the code begins with its step. -/
def nextIt (b : Code) : Option Tmp := match b with
  | .seq (.region _ ops false) _ => (match ops[0]? with
    | some o => (match o.op, o.guard with
      | .next (.tmp it) false, none => some it
      | _, _ => none)
    | none => none)
  | _ => none
def codeDsts : Code → List Tmp
  | .region _ ops _ => ops.toList.filterMap (·.dst)
  | .seq a b => codeDsts a ++ codeDsts b
  | .cond _ a b => codeDsts a ++ codeDsts b
  | .block _ b => codeDsts b
  | .loop b => codeDsts b
  | .rangeFunc _ ps a b => ps.toList ++ codeDsts a ++ codeDsts b
  | _ => []
def keepOf (nt : Nat) (b : Code) : List Tmp := (List.range nt).filter fun j => !((codeDsts b).any (Nat.beq j))

def eqNats : List Nat → List Nat → Bool
  | [], [] => true
  | a :: l, b :: m => Nat.beq a b && eqNats l m
  | _, _ => false
def sameTm (keep : List Tmp) (t t' : Tm) : Bool := keep.all fun j => beqA (tget t j) (tget t' j)
/-- The objects of a list of numbers, into a table. -/
def pickH (h : Q AObj) : List Nat → Q AObj → Option (Q AObj)
  | [], q => some q
  | b :: l, q => (match h.get b with | some o => pickH h l (q.set b o) | none => none)
def footOf (k : AV) (st : Nat) : List Nat := match k with | .int _ (.ofNat n) => rangeL (Nat.mul st n) st | _ => []
/-- The cells of a part, listed. -/
def partM (z : List AV) (p : Nat) (m : Q AV) (n : Nat) : List Nat → Q AV → Option (Q AV)
  | [], q => some q
  | i :: l, q => (match Nat.blt i n, cellAt z p m i with | true, some v => partM z p m n l (q.set (keyOf 0 i) v) | _, _ => none)
def partsH (h : Q AObj) (k : AV) : List (Nat × Nat) → Q AObj → Option (Q AObj)
  | [], q => some q
  | (b, st) :: l, q => (match h.get b with
    | some (.cells n z p m e x) => (match partM z p m n (footOf k st) Q.e with | some m' => partsH h k l (q.set b (.cells n [] 0 m' e x)) | none => none)
    | _ => none)
/-- The keys of the list beyond a table. -/
def hiOK (ks : List Nat) : HL (Option AV) → Bool
  | .nil d => (match d with | none => true | some _ => false)
  | .cons k _ l => ks.any (fun i => Nat.beq (keyOf 0 i) k) && hiOK ks l
def idsLt (nx : Nat) (v : AV) : Bool := match v with
  | .bool _ | .int .. | .str _ | .nilp | .nils | .nilm | .nilf | .nili => true
  | .ptr b _ => Nat.blt b nx
  | .sl b _ _ _ => Nat.blt b nx
  | .map b => Nat.blt b nx
  | _ => false
@[irreducible] def partGet (m : Q AV) (i : Nat) : Option AV := m.get (keyOf 0 i)
/-- The new values of a part's cells. -/
def newVs (nx : Nat) (m : Q AV) : List Nat → Option (List AV)
  | [] => some []
  | i :: l => (match partGet m i with
    | some v => (match idsLt nx v, newVs nx m l with | true, some vs => some (v :: vs) | _, _ => none)
    | none => none)
def nilL (l : List AV) : Bool := match l with | [] => true | _ => false

/-- The cells of a round, in order. -/
def cellsOf (part : List (Nat × Nat)) (k : AV) : List (Nat × Nat) := match part with
  | [] => []
  | (b, st) :: l => ((footOf k st).map fun i => (b, i)) ++ cellsOf l k
def newParts (h h' : Q AObj) (nx : Nat) (k : AV) : List (Nat × Nat) → Option (List AV)
  | [] => some []
  | (b, st) :: l => (match h.get b, h'.get b with
    | some (.cells n _ _ _ e x), some (.cells n' z' p' m' e' x') =>
      (match Nat.beq n n' && Nat.beq p' 0 && Nat.beq e e' && sameB x x' && nilL z' && hiOK (footOf k st) m'.hi, newVs nx m' (footOf k st), newParts h h' nx k l with
      | true, some vs, some us => some (vs ++ us)
      | _, _, _ => none)
    | _, _ => none)
def sameIds (h h' : Q AObj) : List Nat → Bool
  | [] => true
  | b :: l => (match h.get b, h'.get b with | some o, some o' => sameObj o o' | _, _ => false) && sameIds h h' l
def sameIt (m since born clock : Nat) (o : Option AObj) : Bool := match o with
  | some (.iterU m' since' born' clock') => Nat.beq m m' && Nat.beq since since' && Nat.beq born born' && Nat.beq clock clock'
  | _ => false
def kround (h : Hint) (keep : List Tmp) (tj : Tm) (s : St) (ds : List Nat) (r m since clock : Nat) (e : ME) : K := fun x t' s' ds' => match x with
  | .norm => (match eqNats ds ds' && sameTm keep tj t' && sameIds s.h s'.h (m :: h.ro) && sameIt m since e.born clock (s'.h.get r), newParts s.h s'.h s.nx e.k h.part with
    | true, some vs => .ok (.tup vs) s'
    | _, _ => .bad)
  | _ => .bad
abbrev Ups := List ((Nat × Nat) × AV)
def tupL (v : AV) : Option (List AV) := match v with | .tup l => some l | _ => none
def pround (ib : FCode) (self : Self) (rd : Option Nat) (h : Hint) (h0 : Q AObj) (keep : List Tmp) (tj : Tm) (s : St) (ds : List Nat) (r m since clock : Nat) (e : ME) : Option Ups :=
  match partsH s.h e.k h.part h0 with
  | some q => (match ib.go self rd tj ⟨q.set r (.iterN m since e.born), s.nx⟩ ds (kround h keep tj s ds r m since clock e) with
    | .ok (.tup vs) _ => some ((cellsOf h.part e.k).zip vs)
    | _ => none)
  | none => none
def prounds (f : ME → Option Ups) : List ME → Option Ups
  | [] => some []
  | e :: l => (match f e, prounds f l with | some u, some us => some (u ++ us) | _, _ => none)
def apply1 (h : Q AObj) (u : (Nat × Nat) × AV) : Q AObj := match h.get u.1.1 with
  | some (.cells n z p m e x) => h.set u.1.1 (.cells n z p (m.set (keyOf p u.1.2) u.2) e x)
  | _ => h
def applyAll (ups : Ups) (h : Q AObj) : Q AObj := ups.foldl apply1 h
def natKey (k : AV) : Option Nat := match k with | .int _ (.ofNat n) => some n | _ => none
def headOK (since last : Nat) : List ME → Bool
  | [] => Nat.ble since last
  | e :: l => (match natKey e.k with
    | some n => Nat.blt e.born since && l.all (fun e' => !(Nat.beq e.born e'.born) && (match natKey e'.k with | some n' => !(Nat.beq n n') | none => false))
    | none => false) && headOK since last l
/-- The great rows are apart. -/
def partNodup : List (Nat × Nat) → Bool
  | [] => true
  | (b, _) :: l => l.all (fun q => !(Nat.beq b q.1)) && partNodup l
def kend (k : K) : K := fun x t s ds => match x with | .norm => .bad | .ret => k .ret t s ds | .exit id => k (.exit id) t s ds
/-- A loop over a map in whatever order: each round by itself, then the end. -/
def ploop (ib : FCode) (keep : List Tmp) (h : Hint) (r : Nat) (self : Self) (rd : Option Nat) (k : K) (t : Tm) (s : St) (ds : List Nat) : CRes :=
  match s.h.get r with
  | some (.iter (some m) since [] last) => (match s.h.get m with
    | some (.map es clock) => (match headOK since last es && Nat.ble since clock && partNodup h.part, pickH s.h h.ro (Q.e.set m (.map es clock)) with
      | true, some h0 => (match prounds (pround ib self rd h h0 keep (only keep t) s ds r m since clock) es with
        | some ups => ib.go self rd (only keep t) ⟨(applyAll ups s.h).set r .iterE, s.nx⟩ ds (kend k)
        | none => .bad)
      | _, _ => .bad)
    | _ => .bad)
  | _ => .bad
def hintAt (self : Self) (v : AV) : Option (Nat × Hint) := match v with
  | .ptr r _ => (match self.hint r with | some h => some (r, h) | none => none)
  | _ => none
/-- The keys of a map's entries, each with its stamp. -/
def keysAll (kd : IntKind) : List ME → Option (List (Nat × Nat))
  | [] => some []
  | e :: es => (match e.k, keysAll kd es with | .int k (.ofNat n), some l => (match kindEq k kd with | true => some ((n, e.born) :: l) | false => none) | _, _ => none)
/-- A loop over a map whose keys are told by numbers of their own. -/
def kloop (ib : FCode) (kd : IntKind) (r : Nat) (self : Self) (rd : Option Nat) (k : K) (t : Tm) (s : St) (ds : List Nat) : CRes :=
  match s.h.get r with
  | some (.iter (some m) since [] last) => (match s.h.get m with
    | some (.map es _) => (match keysAll kd es, Nat.ble since last with
      | some ks, true => floop ib self rd k self.fuel t (s.put r (.iterK m since kd ks [] last)) ds
      | _, _ => .bad)
    | _ => .bad)
  | _ => .bad
/-- Several ways, each of which must come to an end. -/
def allWays (f : ME → CRes) : List ME → CRes
  | [] => .bad
  | [e] => f e
  | e :: e' :: l => (match f e with | .ok _ _ => allWays f (e' :: l) | .bad => .bad)
def bornOK (since last : Nat) : List ME → Bool
  | [] => Nat.ble since last
  | e :: l => Nat.blt e.born since && l.all (fun e' => !(Nat.beq e.born e'.born)) && bornOK since last l
/-- A loop over a map in each of its orders. -/
def bloop (c : FCode) (it : Tmp) (self : Self) (rd : Option Nat) (k : K) (n : Nat) : Tm → St → List Nat → CRes :=
  Nat.rec (motive := fun _ => Tm → St → List Nat → CRes) (fun _ _ _ => .bad)
    (fun _ ih t s ds => match tget t it with
      | .ptr r 0 => (match s.h.get r with
        | some (.iter (some m) since seen last) => (match s.h.get m with
          | some (.map es clock) => (match bornOK since last es with
            | true => (match leftOf seen es with
              | e :: e' :: l => allWays (fun e => c.go self rd t ⟨s.h.set r (.iterM m since seen e.born), s.nx⟩ ds (fun x t s ds => X.el (ih t s ds) (k .ret t s ds) (fun id => k (.exit id) t s ds) x)) (e :: e' :: l)
              | _ => c.go self rd t s ds (fun x t s ds => X.el (ih t s ds) (k .ret t s ds) (fun id => k (.exit id) t s ds) x))
            | false => .bad)
          | _ => .bad)
        | _ => .bad)
      | _ => .bad) n
def mloop (ib : FCode) (keep : List Tmp) (it : Tmp) : FCode := ⟨fun self rd t s ds k => match hintAt self (tget t it) with
  | some p => (match p.2.mode with
    | 0 => (match self.mu with | true => .bad | false => ploop ib keep p.2 p.1 self rd k t s ds)
    | 1 => kloop ib p.2.kd p.1 self rd k t s ds
    | _ => (match self.mu with | true => bloop ib it self rd k self.fuel t s ds | false => .bad))
  | none => floop ib self rd k self.fuel t s ds⟩

/-- The end of a range over a function: the loop's record, and what is to be done then. -/
def endRange (l : Nat) (ds : List Nat) (t : Tm) (s : St) (k : K) : CRes :=
  match s.h.get l with
  | some (.loop .busy ..) => .bad
  | some (.loop _ pe ..) => (match pe with
    | none => k .norm t ⟨s.h.del l, s.nx⟩ ds
    | some .ret => k .ret t ⟨s.h.del l, s.nx⟩ ds
    | some (.exit id) => k (.exit id) t ⟨s.h.del l, s.nx⟩ ds
    | some _ => .bad)
  | _ => .bad
def callRange (f : Operand) (l : Nat) (ds : List Nat) (self : Self) (t : Tm) (s : St) (k : K) : CRes :=
  match evalA t f with
  | .func g first cap => (match invokeA P g (first ++ [.func (.yield l) [] []]) cap s with
    | .call f args => CRes.el (fun _ s => endRange l ds t s k) (self.call f args s)
    | _ => .bad)
  | _ => .bad
def frange (nt : Nat) (f : Operand) (ps : Array Tmp) (asg body : Code) : FCode :=
  ⟨fun self rd t s ds k => match rd with
    | none => callRange P f (Nat.succ s.nx) (s.nx :: ds) self t
        ((s.new .deferred).new (.loop .ready none nt t ps.toList asg body s.nx)) k
    | some l0 => (match s.h.get l0 with
      | some (.loop _ _ _ _ _ _ _ df) => callRange P f s.nx ds self t (s.new (.loop .ready none nt t ps.toList asg body df)) k
      | _ => .bad)⟩

def fcode (nt : Nat) (c : Code) : FCode :=
  Code.rec (motive := fun _ => FCode)
    ⟨fun self rd t s ds k => k .norm t s ds⟩
    (fun id ops draw => let r := fregion P nt ops draw; ⟨fun self rd t s ds k => r.go self t s (fun t s => k .norm t s ds)⟩)
    (fun a b ia ib => ⟨fun self rd t s ds k => ia.go self rd t s ds (kseq ib self rd k)⟩)
    (fun c a b ia ib => ⟨fun self rd t s ds k => (condEl ((fopn c).get t) ia ib).go self rd t s ds k⟩)
    (fun id b ib => ⟨fun self rd t s ds k => ib.go self rd t s ds (kblock id k)⟩)
    (fun b ib => match nextIt b with
      | none => ⟨fun self rd t s ds k => floop ib self rd k self.fuel t s ds⟩
      | some it => mloop ib (keepOf nt b) it)
    (fun f ps asg body _ _ => frange P nt f ps asg body)
    (fun id => ⟨fun self rd t s ds k => k (.exit id) t s ds⟩)
    (fun b ib => badC)
    (fun _ => badC)
    (fun _ => badC)
    ⟨fun self rd t s ds k => k .ret t s ds⟩
    (fun _ => badC)
    c

def putArgs (l : List AV) : Nat → Tm → Tm := List.rec (motive := fun _ => Nat → Tm → Tm) (fun _ t => t) (fun v _ ih k t => ih (Nat.succ k) (tset t k v)) l
def initTm (args : List AV) : Tm := putArgs args 0 (QD.full undefA 4)

def resA (t : Tm) (s : St) : List ResultVar → Option (List AV)
  | [] => some []
  | r :: l => match resA t s l with
    | some vs => (match r with
      | .tmp k => some (tget t k :: vs)
      | .cell a ty => (match tget t a with
        | .ptr b o => (match loadV P s ty b o with | some v => some (v :: vs) | none => none)
        | _ => none))
    | none => none
def tupOf (l : List AV) : AV := match l with | [v] => v | l => .tup l
def isTmps (rs : List ResultVar) : Option (List Operand) := match rs with
  | [] => some []
  | .tmp k :: l => (match isTmps l with | some ks => some (.tmp k :: ks) | none => none)
  | _ => none
/-- The results. -/
def fres (rs : List ResultVar) : FVal := match isTmps rs with
  | some [o] => let g := fopn o; ⟨fun t s => .mk (g.get t)⟩
  | some l => let g := fargs l; ⟨fun t s => .mk (.tup (g.get t))⟩
  | none => ⟨fun t s => OV.ofO (match resA P t s rs with | some l => some (tupOf l) | none => none)⟩
def delAll (h : Q AObj) : List Nat → Q AObj
  | [] => h
  | d :: ds => delAll (h.del d) ds
/-- Are the blocks for deferred calls still there, and empty? -/
def dsOK (h : Q AObj) : List Nat → Bool
  | [] => true
  | d :: ds => match h.get d with | some .deferred => dsOK (h.del d) ds | _ => false
def finish1 (fr : FVal) (t : Tm) (s : St) : CRes := OV.el (fun v => .ok v s) (fr.get t s)
def finish2 (fr : FVal) (t : Tm) (s : St) (ds : List Nat) : CRes :=
  List.rec (motive := fun _ => CRes) (finish1 fr t s) (fun _ _ _ => match dsOK s.h ds with | true => finish1 fr t ⟨delAll s.h ds, s.nx⟩ | false => .bad) ds
def finish (fr : FVal) : K := fun x t s ds => X.el (finish2 fr t s ds) (finish2 fr t s ds) (fun _ => .bad) x

def cfun (f : FuncId) : CF := match P.funcs[f]? with
  | some fn => (match fn.body with
    | some c => let b := fcode P fn.ntmps c; let fr := fres P fn.results.toList; ⟨fun self args s => b.go self none (initTm args) s [] (finish fr)⟩
    | none => ⟨fun _ _ _ => .bad⟩)
  | none => ⟨fun _ _ _ => .bad⟩

def setPs (nt : Nat) : List Tmp → List AV → Tm → Option Tm
  | [], [], t => some t
  | p :: ps, v :: vs, t => (match Nat.blt p nt with | true => setPs nt ps vs (tset t p v) | false => none)
  | _, _, _ => none
def endRound (l : Nat) : K := fun x _ s ds =>
  match s.h.get l with
  | some (.loop _ _ nt tm ps asg body df) => (match x with
    | .norm => .ok (.bool true) (s.put l (.loop .ready none nt tm ps asg body df))
    | .ret => .ok (.bool false) (s.put l (.loop .done (some .ret) nt tm ps asg body df))
    | .exit id => .ok (.bool false) (s.put l (.loop .done (some (.exit id)) nt tm ps asg body df)))
  | _ => .bad
def beginRound (l : Nat) (self : Self) (body : Code) (nt : Nat) : K := fun x t s ds =>
  match x with
  | .norm => (match s.h.get l with
    | some (.loop .ready pe nt' tm ps asg b df) => (fcode P nt body).go self (some l) t (s.put l (.loop .busy pe nt' tm ps asg b df)) ds (endRound l)
    | _ => .bad)
  | _ => .bad
def roundF (self : Self) (l : Nat) (args : List AV) (s : St) : CRes :=
  match s.h.get l with
  | some (.loop _ _ nt tm ps asg body _) => (match setPs nt ps args tm with
    | some t => (fcode P nt asg).go self (some l) t s [] (beginRound P l self body nt)
    | none => .bad)
  | _ => .bad

def selfF (fuel : Nat) (n : Nat) : Self :=
  Nat.rec (motive := fun _ => Self) ⟨fun _ _ _ => .bad, fun _ _ _ => .bad, fuel, fun _ => none, false⟩ (fun _ ih => ⟨fun f args s => (cfun P f).run ih args s, fun l args s => roundF P ih l args s, fuel, fun _ => none, false⟩) n

end
end Go.AX
set_option linter.unusedVariables false
set_option linter.unusedSimpArgs false
namespace Go.AX
open Go
variable {P : Program} {σ : Sg} {ρ : Ren} {s : St} {w : World}

theorem fopn_eq (o : Operand) (t : Tm) : (fopn o).get t = evalA t o := by
  cases o with
  | tmp k => rfl
  | const v => rfl
  | global g => simp only [fopn, evalA]; cases Nat.blt g 1000 <;> rfl
  | func f => rfl
theorem fput_eq (d : Option Tmp) (t : Tm) (v : AV) : (fput d).put t v = putA t d v := by cases d <;> rfl
theorem fargs_eq (t : Tm) : ∀ l : List Operand, (fargs l).get t = evalL t l
  | [] => rfl
  | o :: l => by
    have e := fargs_eq t l
    simp only [evalL, List.map_cons] at e ⊢
    show (fopn o).get t :: (fargs l).get t = _
    rw [e, fopn_eq]
theorem force_eq (v : AV) (k : AV → CRes) : AV.force v k = k v := by cases v <;> rfl

theorem asI_mk {x : AV} {k : IntKind} {n : Int} (h : AV.asI x = .mk k n) : x = .int k n := by cases x <;> cases h; rfl
theorem asP_mk {x : AV} {b o : Nat} (h : AV.asP x = .mk b o) : x = .ptr b o := by cases x <;> cases h; rfl
theorem asS_mk {x : AV} {b o n : Nat} {c : Cap} (h : AV.asS x = .mk b o n c) : x = .sl b o n c := by cases x <;> cases h; rfl
theorem asB_tt {x : AV} (h : AV.asB x = .tt) : x = .bool true := by
  cases x with
  | bool b => cases b <;> first | rfl | cases h
  | tup l => cases l <;> cases h
  | _ => cases h
theorem asB_ff {x : AV} (h : AV.asB x = .ff) : x = .bool false := by
  cases x with
  | bool b => cases b <;> first | rfl | cases h
  | tup l => cases l <;> cases h
  | _ => cases h
theorem asB_un {x : AV} (h : AV.asB x = .un) : x = .tup [] := by
  cases x with
  | bool b => cases b <;> cases h
  | tup l => cases l <;> first | rfl | cases h
  | _ => cases h
theorem asNil_tt {x : AV} (h : AV.asNil x = .tt) : x = .nilp := by cases x <;> first | rfl | cases h
theorem asNil_ff {x : AV} (h : AV.asNil x = .ff) : ∃ b o, x = .ptr b o := by
  cases x <;> first | exact ⟨_, _, rfl⟩ | cases h

theorem OI.el_mk {k : IntKind → Int → OV} {x : OI} {v : AV} (h : OI.el k x = .mk v) : ∃ i n, x = .mk i n ∧ k i n = .mk v := by
  cases x with
  | no => cases h
  | mk i n => exact ⟨i, n, rfl, h⟩
theorem OP.el_mk {k : Nat → Nat → OV} {x : OP} {v : AV} (h : OP.el k x = .mk v) : ∃ b o, x = .mk b o ∧ k b o = .mk v := by
  cases x with
  | no => cases h
  | mk b o => exact ⟨b, o, rfl, h⟩
theorem OS.el_mk {k : Nat → Nat → Nat → Cap → OV} {x : OS} {v : AV} (h : OS.el k x = .mk v) : ∃ b o n c, x = .mk b o n c ∧ k b o n c = .mk v := by
  cases x with
  | no => cases h
  | mk b o n c => exact ⟨b, o, n, c, rfl, h⟩
theorem ON.elV_mk {k : Nat → OV} {x : ON} {v : AV} (h : ON.elV k x = .mk v) : ∃ n, x = .mk n ∧ k n = .mk v := by
  cases x with
  | no => cases h
  | mk n => exact ⟨n, rfl, h⟩
theorem iNat_mk {x : Int} {n : Nat} (h : iNat x = .mk n) : x = .ofNat n := by cases x <;> cases h; rfl
theorem OV.ofO_mk {x : Option AV} {v : AV} (h : OV.ofO x = .mk v) : x = some v := by
  cases x with
  | none => cases h
  | some y => cases h; rfl
theorem natV_eq (n : Nat) (k : Nat → OV) : natV n k = k n := by cases n <;> rfl
theorem natC_eq (n : Nat) (k : Nat → CRes) : natC n k = k n := by cases n <;> rfl
theorem wrapF_eq (k : IntKind) (m : Nat) : wrapF k m = wrapN k m := by
  cases k
  case i64 =>
    show Bool.rec (motive := fun _ => Int) (IntKind.wrap .i64 (.ofNat m)) (.ofNat m) (Nat.blt m 9223372036854775808) = _
    simp only [wrapN]
    cases Nat.blt m 9223372036854775808 <;> rfl
  all_goals rfl
theorem int2_eq {z : Int} {f : Nat → Nat → Int} {a b : Int} : int2 z f a b = (match a, b with | .ofNat x, .ofNat y => f x y | _, _ => z) := by
  cases a <;> cases b <;> rfl
theorem int2B_eq {z : Bool} {f : Nat → Nat → Bool} {a b : Int} : int2B z f a b = (match a, b with | .ofNat x, .ofNat y => f x y | _, _ => z) := by
  cases a <;> cases b <;> rfl
theorem notB_eq (b : Bool) : notB b = not b := by cases b <;> rfl
theorem eqN_eq (a b : Int) : eqN a b = eqI a b := by cases a <;> cases b <;> rfl
theorem ltN_eq (a b : Int) : ltN a b = ltI a b := by cases a <;> cases b <;> rfl
theorem kN_eq {k k' : IntKind} (h : Nat.beq (kN k) (kN k') = true) : kindEq k k' = true := by cases k <;> cases k' <;> first | rfl | cases h
theorem sameK_mk {k k' : IntKind} {x : OV} {v : AV} (h : sameK k k' x = .mk v) : kindEq k k' = true ∧ x = .mk v := by
  unfold sameK at h
  cases e : Nat.beq (kN k) (kN k') with
  | false => rw [e] at h; cases h
  | true => rw [e] at h; exact ⟨kN_eq e, h⟩

theorem fint_ok {op : BinOp} (h1 : op ≠ .shl) (h2 : op ≠ .shr) {k : IntKind} {a b : Int} {v : AV} (h : (fint op).f k a b = .mk v) : intOp op k a b = some v := by
  cases op
  case shl => exact absurd rfl h1
  case shr => exact absurd rfl h2
  case add => cases h; simp only [intOp, addI, int2_eq, wrapF_eq]; cases a <;> cases b <;> rfl
  case sub =>
    cases h; simp only [intOp, subI, int2_eq, wrapF_eq]
    cases a <;> cases b <;> simp only []
    rename_i x y
    cases Nat.ble y x <;> rfl
  case mul => cases h; simp only [intOp, mulI, int2_eq, wrapF_eq]; cases a <;> cases b <;> rfl
  case quo =>
    obtain ⟨x, hx, h⟩ := ON.elV_mk h
    obtain ⟨y, hy, h⟩ := ON.elV_mk h
    rw [iNat_mk hx, iNat_mk hy]
    cases y with
    | zero => cases h
    | succ y => cases h; simp only [intOp, wrapF_eq]
  case rem =>
    obtain ⟨x, hx, h⟩ := ON.elV_mk h
    obtain ⟨y, hy, h⟩ := ON.elV_mk h
    rw [iNat_mk hx, iNat_mk hy]
    cases y with
    | zero => cases h
    | succ y => cases h; simp only [intOp]
  case and => cases h; simp only [intOp, andI, int2_eq, wrapF_eq]; cases a <;> cases b <;> rfl
  case or => cases h; simp only [intOp, orI, int2_eq, wrapF_eq]; cases a <;> cases b <;> rfl
  case xor => cases h; simp only [intOp, xorI, int2_eq, wrapF_eq]; cases a <;> cases b <;> rfl
  case andNot => exact OV.ofO_mk h
  case eql => cases h; simp only [intOp, eqN_eq]
  case neq => cases h; simp only [intOp, eqN_eq, notB_eq]
  case lss => cases h; simp only [intOp, ltN_eq]
  case leq => cases h; simp only [intOp, ltN_eq, notB_eq]
  case gtr => cases h; simp only [intOp, ltN_eq]
  case geq => cases h; simp only [intOp, ltN_eq, notB_eq]

theorem binF_ok {op : BinOp} (h1 : op ≠ .shl) (h2 : op ≠ .shr) {ty : TypeId} {c : Bool} {x y v : AV} (h : binF (fint op) x y = .mk v) : binA P op ty c s x y = some v := by
  obtain ⟨k, a, hx, h⟩ := OI.el_mk h
  obtain ⟨k', b, hy, h⟩ := OI.el_mk h
  obtain ⟨hk, h⟩ := sameK_mk h
  rw [asI_mk hx, asI_mk hy]
  have := fint_ok h1 h2 h
  simp only [binA]
  cases op <;> first | exact absurd rfl h1 | exact absurd rfl h2 | (simp only [hk]; exact this)
theorem shlF_ok {ty : TypeId} {c : Bool} {x y v : AV} (h : shlF x y = .mk v) : binA P .shl ty c s x y = some v := by
  obtain ⟨k, a, hx, h⟩ := OI.el_mk h
  obtain ⟨k', b, hy, h⟩ := OI.el_mk h
  obtain ⟨m, hm, h⟩ := ON.elV_mk h
  obtain ⟨n, hn, h⟩ := ON.elV_mk h
  rw [asI_mk hx, asI_mk hy, iNat_mk hm, iNat_mk hn]
  cases h
  simp only [binA, shiftOp, wrapF_eq]
theorem shrF_ok {ty : TypeId} {c : Bool} {x y v : AV} (h : shrF x y = .mk v) : binA P .shr ty c s x y = some v := by
  obtain ⟨k, a, hx, h⟩ := OI.el_mk h
  obtain ⟨k', b, hy, h⟩ := OI.el_mk h
  obtain ⟨m, hm, h⟩ := ON.elV_mk h
  obtain ⟨n, hn, h⟩ := ON.elV_mk h
  rw [asI_mk hx, asI_mk hy, iNat_mk hm, iNat_mk hn]
  cases h
  simp only [binA, shiftOp]
theorem eqPF_ok {op : BinOp} {n : Bool} (hop : (op = .eql ∧ n = true) ∨ (op = .neq ∧ n = false)) {ty e : TypeId} (hu : P.underlying ty = some (.pointer e)) {c : Bool} {x y v : AV} (h : eqPF n x y = .mk v) :
    binA P op ty c s x y = some v := by
  unfold eqPF at h
  cases hx : AV.asNil x <;> rw [hx] at h <;> try (cases h; done)
  all_goals
    cases hy : AV.asNil y <;> rw [hy] at h <;> try (cases h; done)
  all_goals
    cases h
    first | rw [asNil_tt hx] | (obtain ⟨_, _, rfl⟩ := asNil_ff hx)
    first | rw [asNil_tt hy] | (obtain ⟨_, _, rfl⟩ := asNil_ff hy)
    rcases hop with ⟨rfl, rfl⟩ | ⟨rfl, rfl⟩ <;> simp only [binA, hu, eqX, eqA, notB_eq] <;> rfl

theorem nthF_eq : ∀ (l : List AV) (i : Nat), nthF l i = l[i]?
  | [], i => by simp [nthF]
  | a :: l, 0 => rfl
  | a :: l, i+1 => by
    have := nthF_eq l i
    simp only [List.getElem?_cons_succ, ← this]
    rfl
theorem cellF_eq (z : List AV) (p : Nat) (m : Q AV) (i : Nat) : cellF z p m i = cellAt z p m i := by
  unfold cellF cellAt
  cases m.get (keyOf p i) with
  | none => exact nthF_eq _ _
  | some v => rfl
theorem readF_ok {b i : Nat} {v : AV} (h : readF s b i = .mk v) : readCell s b i = some v := by
  have h := OV.ofO_mk h
  unfold readCell
  cases hb : s.h.get b with
  | none => rw [hb] at h; cases h
  | some o =>
    rw [hb] at h
    cases o with
    | cells n z p m e x =>
      change Bool.rec (motive := fun _ => Option AV) none (cellF z p m i) (Nat.blt i n) = some v at h
      simp only
      cases hlt : Nat.blt i n with
      | false => rw [hlt] at h; cases h
      | true => rw [hlt, cellF_eq] at h; exact h
    | rom z =>
      change nthF z i = some v at h
      rw [nthF_eq] at h
      exact h
    | _ => cases h

theorem ptrAdd_mk {off : Nat} {x v : AV} (h : ptrAdd off x = .mk v) : ∃ b o, x = .ptr b o ∧ v = .ptr b (o + off) := by
  obtain ⟨b, o, hx, h⟩ := OP.el_mk h
  rw [natV_eq] at h
  cases h
  exact ⟨b, o, asP_mk hx, rfl⟩
theorem asT_nth {x v : AV} {i : Nat} (h : (AV.asT x)[i]? = some v) : ∃ l, x = .tup l ∧ l[i]? = some v := by
  cases x with
  | tup l => exact ⟨l, rfl, h⟩
  | _ => simp [AV.asT] at h

/-- What a ready operation yields is what the operation yields, and nothing else turns. -/
theorem fval_ok {o : Op} {f : FVal} (hf : fval P o = some f) {t : Tm} {v : AV} (h : f.get t s = .mk v) : execA P t o s = .val v s := by
  cases o with
  | pick c a b =>
    cases hf
    change pickF ((fopn c).get t) ((fopn a).get t) ((fopn b).get t) = .mk v at h
    simp only [fopn_eq] at h
    unfold pickF at h
    simp only [execA]
    cases hc : AV.asB (evalA t c) <;> rw [hc] at h <;> try (cases h; done)
    · cases h; rw [asB_tt hc]; rfl
    · cases h; rw [asB_ff hc]; rfl
  | nilCheck x =>
    cases hf
    change Bool.rec (motive := fun _ => OV) (NX.toV (xNilCheck P s ((fopn x).get t))) (.mk ((fopn x).get t)) (AV.isPI ((fopn x).get t)) = .mk v at h
    simp only [fopn_eq] at h
    simp only [execA]
    generalize evalA t x = y at h ⊢
    cases hp : AV.isPI y with
    | true =>
      rw [hp] at h
      cases h
      cases v <;> first | rfl | cases hp
    | false =>
      rw [hp] at h
      cases e : xNilCheck P s y with
      | val v' s' =>
        change NX.toV (xNilCheck P s y) = .mk v at h
        rw [e] at h
        cases h
        have : s' = s := by
          unfold xNilCheck at e
          (repeat' split at e) <;> first | (cases e; done) | (cases e; rfl)
        rw [this]
      | call f a => change NX.toV (xNilCheck P s y) = .mk v at h; rw [e] at h; cases h
      | round f a => change NX.toV (xNilCheck P s y) = .mk v at h; rw [e] at h; cases h
      | bad => change NX.toV (xNilCheck P s y) = .mk v at h; rw [e] at h; cases h
  | binOp op ty x y z =>
    simp only [fval] at hf
    simp only [execA]
    have fin : ∀ c, binA P op ty c s (evalA t x) (evalA t y) = some v → orBad (binA P op ty c s (evalA t x) (evalA t y)) s = .val v s := fun c e => by rw [e]; rfl
    split at hf
    · split at hf
      · cases hf
        change shlF ((fopn x).get t) ((fopn y).get t) = .mk v at h
        rw [fopn_eq, fopn_eq] at h
        exact fin _ (shlF_ok h)
      · cases hf
        change shrF ((fopn x).get t) ((fopn y).get t) = .mk v at h
        rw [fopn_eq, fopn_eq] at h
        exact fin _ (shrF_ok h)
      · rename_i h1 h2
        cases hf
        change binF (fint op) ((fopn x).get t) ((fopn y).get t) = .mk v at h
        rw [fopn_eq, fopn_eq] at h
        exact fin _ (binF_ok (fun e => h1 e) (fun e => h2 e) h)
    · rename_i e hu
      split at hf
      · cases hf
        change eqPF true ((fopn x).get t) ((fopn y).get t) = .mk v at h
        rw [fopn_eq, fopn_eq] at h
        exact fin _ (eqPF_ok (.inl ⟨rfl, rfl⟩) hu h)
      · cases hf
        change eqPF false ((fopn x).get t) ((fopn y).get t) = .mk v at h
        rw [fopn_eq, fopn_eq] at h
        exact fin _ (eqPF_ok (.inr ⟨rfl, rfl⟩) hu h)
      · cases hf
    · cases hf
  | fieldAddr st x f =>
    simp only [fval] at hf
    split at hf
    · rename_i off ft hfa
      cases hf
      change ptrAdd off ((fopn x).get t) = .mk v at h
      rw [fopn_eq] at h
      obtain ⟨b, o, hx, rfl⟩ := ptrAdd_mk h
      simp only [execA, hx, xFieldAddr, hfa]
    · cases hf
  | load ty a =>
    simp only [fval] at hf
    split at hf
    · rename_i hag
      cases hf
      change loadF s ((fopn a).get t) = .mk v at h
      rw [fopn_eq] at h
      obtain ⟨b, o, hx, h⟩ := OP.el_mk h
      simp only [execA, asP_mk hx, xLoad, loadV, hag, readF_ok h, orBad]
    · cases hf
  | indexAddr ty x ix =>
    simp only [fval] at hf
    split at hf
    · rename_i sz he
      cases hf
      change idxF sz ((fopn x).get t) ((fopn ix).get t) = .mk v at h
      rw [fopn_eq, fopn_eq] at h
      obtain ⟨k, i, hi, h⟩ := OI.el_mk h
      obtain ⟨m, hm, h⟩ := ON.elV_mk h
      obtain ⟨b, o, n, c, hx, h⟩ := OS.el_mk h
      simp only [execA, xIndexAddr, asI_mk hi, iNat_mk hm, asN, he, asS_mk hx]
      cases hlt : Nat.blt m n with
      | false => rw [hlt] at h; cases h
      | true => rw [hlt] at h; dsimp only at h; rw [natV_eq] at h; cases h; rfl
    · rename_i n sz he
      cases hf
      change idxAF n sz ((fopn x).get t) ((fopn ix).get t) = .mk v at h
      rw [fopn_eq, fopn_eq] at h
      obtain ⟨k, i, hi, h⟩ := OI.el_mk h
      obtain ⟨m, hm, h⟩ := ON.elV_mk h
      obtain ⟨b, o, hx, h⟩ := OP.el_mk h
      simp only [execA, xIndexAddr, asI_mk hi, iNat_mk hm, asN, he, asP_mk hx]
      cases hlt : Nat.blt m n with
      | false => rw [hlt] at h; cases h
      | true => rw [hlt] at h; dsimp only at h; rw [natV_eq] at h; cases h; rfl
    · cases hf
  | convert src dst x =>
    simp only [fval] at hf
    split at hf
    · rename_i k1 k2 h1 h2
      cases hf
      change convF k2 ((fopn x).get t) = .mk v at h
      rw [fopn_eq] at h
      obtain ⟨k, n, hx, h⟩ := OI.el_mk h
      cases h
      simp only [execA, xConvert, h1, h2, asI_mk hx]
      cases n with
      | ofNat m => simp only [wrapI, ← wrapF_eq]; rfl
      | negSucc m => rfl
    · cases hf
  | unOp op ty x =>
    cases op <;> simp only [fval] at hf <;> try (cases hf; done)
    cases hf
    change notF ((fopn x).get t) = .mk v at h
    rw [fopn_eq] at h
    unfold notF at h
    simp only [execA]
    cases hc : AV.asB (evalA t x) <;> rw [hc] at h <;> try (cases h; done)
    · cases h; rw [asB_tt hc]; rfl
    · cases h; rw [asB_ff hc]; rfl
  | extract x i =>
    cases hf
    change extF i ((fopn x).get t) = .mk v at h
    rw [fopn_eq] at h
    have h := OV.ofO_mk h
    rw [nthF_eq] at h
    obtain ⟨l, hl, h⟩ := asT_nth h
    simp only [execA, hl, xExtract, h]
  | _ => cases hf

theorem storeF_ok {ty : TypeId} (ht : sizeOfT P ty = some 1) {a x v : AV} {s' : St} (h : storeF s a x = .ok v s') : xStore P s ty a x = .val v s' := by
  unfold storeF at h
  cases ha : AV.asP a with
  | no => rw [ha] at h; cases h
  | mk b i =>
    rw [ha] at h
    change Bool.rec (motive := fun _ => CRes) .bad (Option.rec (motive := fun _ => CRes) .bad (fun o => AObj.wrF o i x (fun o => .ok undefA ⟨s.h.set b o, s.nx⟩)) (s.h.get b)) (AV.isSc x) = .ok v s' at h
    cases hs : AV.isSc x with
    | false => rw [hs] at h; cases h
    | true =>
      rw [hs] at h
      dsimp only at h
      cases hb : s.h.get b with
      | none => rw [hb] at h; cases h
      | some o =>
        rw [hb] at h
        cases o with
        | cells n z p m e ext =>
          change Bool.rec (motive := fun _ => CRes) .bad (CRes.ok undefA ⟨s.h.set b (.cells n z p (m.set (keyOf p i) x) e ext), s.nx⟩) (Nat.blt i n) = .ok v s' at h
          cases hlt : Nat.blt i n with
          | false => rw [hlt] at h; cases h
          | true =>
            rw [hlt] at h
            cases h
            have hc : cellsA x = some [x] := by cases x <;> first | rfl | cases hs
            have hsc : scalarA x = true := by cases x <;> first | rfl | cases hs
            have hle : Nat.ble (Nat.add i 1) n = true := hlt
            rw [asP_mk ha]
            simp only [xStore, hc, ht, List.length_cons, List.length_nil]
            simp [writeCells, hb, hle, hsc, orBadS, setL, St.put]
        | _ => cases h

/-- A ready operation that may act: what it comes to. -/
def Ran (P : Program) (self : Self) (t : Tm) (o : Op) (s : St) (v : AV) (s' : St) : Prop :=
  execA P t o s = .val v s' ∨ (∃ f args, execA P t o s = .call f args ∧ self.call f args s = .ok v s') ∨ (∃ l args, execA P t o s = .round l args ∧ self.round l args s = .ok v s')
theorem nxR_ok {self : Self} {t : Tm} {o : Op} {r : NX} (hr : execA P t o s = r) {v : AV} {s' : St} (h : nxR self s r = .ok v s') : Ran P self t o s v s' := by
  cases r with
  | val v' s1 => cases h; exact .inl hr
  | call f a => exact .inr (.inl ⟨f, a, hr, h⟩)
  | round l a => exact .inr (.inr ⟨l, a, hr, h⟩)
  | bad => cases h
theorem oneT_size {ty : TypeId} (h : oneT P ty = true) : sizeOfT P ty = some 1 := by
  unfold oneT at h
  split at h
  · assumption
  · cases h
theorem fop_ok {self : Self} (hself : ∀ f args s v s', self.call f args s = .ok v s' → ∃ fn c, P.funcs[f]? = some fn ∧ fn.body = some c) {o : Op} {t : Tm} {v : AV} {s' : St}
    (h : (fop P o).run self t s = .ok v s') : Ran P self t o s v s' := by
  unfold fop at h
  split at h
  · rename_i f args ats
    dsimp only at h
    rw [fargs_eq] at h
    obtain ⟨fn, c, h1, h2⟩ := hself _ _ _ _ _ h
    refine .inr (.inl ⟨f, evalL t args.toList, ?_, h⟩)
    simp [execA, xCall, evalA, invokeA, callFuncA, h1, h2]
  all_goals first
    | exact nxR_ok rfl h
    | skip
  split at h
  · rename_i hone
    dsimp only at h
    rw [fopn_eq, fopn_eq] at h
    exact .inl (storeF_ok (oneT_size hone) h)
  · exact nxR_ok rfl h
end Go.AX
set_option linter.unusedVariables false
set_option linter.unusedSimpArgs false
namespace Go.AX
open Go
variable {P : Program} {σ : Sg} {ρ : Ren} {s : St} {w : World}

abbrev Fd (rd : Option Nat) : Fence := { Fence.wide with round := rd }

/-- What a call leaves. -/
def Ret (P : Program) (σ : Sg) (ρ : Ren) (s : St) (w : World) (v : AV) (s' : St) : Ending → World → Prop
  | .returned cv, w' => ∃ ρ', VR σ ρ' v cv ∧ Rel P σ ρ' s' w' ∧ Own ρ ρ' s s' w ∧ Frm ρ s w w'
  | _, _ => False

structure SelfOK (P : Program) (σ : Sg) (sf : Self) : Prop where
  body : ∀ f args s v s', sf.call f args s = .ok v s' → ∃ fn c, P.funcs[f]? = some fn ∧ fn.body = some c
  call : ∀ f args s v s', sf.call f args s = .ok v s' → ∀ (n : Nat) (ρ : Ren) (w : World) (cargs : Array Value), Rel P σ ρ s w → VRL σ ρ args cargs.toList →
    CallsIn Fence.wide n P f cargs w (Ret P σ ρ s w v s')
  round : ∀ l args s v s', sf.round l args s = .ok v s' → ∀ (n : Nat) (ρ : Ren) (w : World) (x : Loc) (cargs : Array Value), Rel P σ ρ s w → ρ l = some x → VRL σ ρ args cargs.toList →
    ∃ f tmps asg body, (Instr.yield x.blk cargs).run P w = .ok (.round x.blk f tmps asg body) w ∧ RoundIn Fence.wide n P x.blk f tmps asg body w (Ret P σ ρ s w v s')

theorem ran_ok {self : Self} (hS : SelfOK P σ self) (hN : NoNum P) (hσ : Plain σ) (hR : Rel P σ ρ s w) {nt : Nat} {t : Tm} {a : Act} (hT : TR σ ρ nt t a.tmps) {o : Oper} {v : AV} {s' : St}
    (h : Ran P self t o.op s v s') {n : Nat} {rdc : Option Nat} {next : Act → World → Prop} {Q : Exit → Act → World → Prop}
    (hnext : ∀ cv ρ' w', VR σ ρ' v cv → Rel P σ ρ' s' w' → Own ρ ρ' s s' w → Frm ρ s w w' → next (a.put o.dst cv) w') : o.wpIn (Fd rdc) n P a w next Q := by
  have hd : ∀ c, o.op ≠ .defer c := by
    intro c e
    rcases h with h | ⟨_, _, h, _⟩ | ⟨_, _, h, _⟩ <;> rw [e] at h <;> cases h
  have ho := exec_outc hN hσ hR hT o
  refine ⟨fun _ _ => trivial, ?_⟩
  rw [Oper.semAt_eq _ _ _ hd]
  rcases h with h | ⟨f, args, h, hc⟩ | ⟨l, args, h, hc⟩
  · rw [h] at ho
    obtain ⟨cv, w', ρ', hres, hv, h1, h2, h3⟩ := ho
    rcases hres with hres | ⟨hres, rfl⟩
    · rw [hres]; exact hnext _ _ _ hv h1 h2 h3
    · rw [hres]; exact hnext _ _ _ hv h1 h2 h3
  · rw [h] at ho
    obtain ⟨cargs, hres, hv⟩ := ho
    rw [hres]
    refine ⟨fun h => by simp [Fd, Fence.wide] at h, ?_⟩
    refine CallsIn.mono (F := Fence.wide) (hS.call _ _ _ _ _ hc (n - 1) ρ w cargs hR hv) fun e w' he => ?_
    cases e with
    | returned cv =>
      obtain ⟨ρ', h0, h1, h2, h3⟩ := he
      exact hnext _ _ _ h0 h1 h2 h3
    | panicked c => exact he.elim
    | outgrown => exact he.elim
  · rw [h] at ho
    obtain ⟨x, cargs, hl, hres, hv⟩ := ho
    obtain ⟨f, tmps, asg, body, hy, hr⟩ := hS.round _ _ _ _ _ hc (n - 1) ρ w x cargs hR hl hv
    rw [hres, hy]
    refine ⟨fun h => by simp [Fd, Fence.wide] at h, ?_⟩
    refine RoundIn.mono (F := Fence.wide) hr fun e w' he => ?_
    cases e with
    | returned cv =>
      obtain ⟨ρ', h0, h1, h2, h3⟩ := he
      exact hnext _ _ _ h0 h1 h2 h3
    | panicked c => exact he.elim
    | outgrown => exact he.elim

theorem TR.mono {ρ' : Ren} (h : ρ.le ρ') {n : Nat} {t : Tm} {c : Array Value} (hT : TR σ ρ n t c) : TR σ ρ' n t c := ⟨hT.1, fun k => VR.mono h _ (hT.2 k)⟩
theorem TR.put {n : Nat} {t : Tm} {a : Act} (hT : TR σ ρ n t a.tmps) {d : Option Tmp} (hd : ∀ k, d = some k → k < n) {v : AV} {cv : Value} (hv : VR σ ρ v cv) : TR σ ρ n (putA t d v) (a.put d cv).tmps := by
  cases d with
  | none => exact hT
  | some d =>
    have hlt : d < a.tmps.size := Nat.lt_of_lt_of_le (hd d rfl) hT.1
    have hsz := hT.1
    refine ⟨by simpa [Act.put] using hsz, fun k => ?_⟩
    simp only [putA, tget_tset, Act.put]
    by_cases hk : k = d
    · subst hk
      rw [if_pos rfl, Array.getD_eq_getD_getElem?, Array.getElem?_setIfInBounds_self_of_lt hlt]
      exact hv
    · rw [if_neg hk, Array.getD_eq_getD_getElem?, Array.getElem?_setIfInBounds_ne (fun e => hk e.symm), ← Array.getD_eq_getD_getElem?]
      exact hT.2 k
theorem put_defers (a : Act) (d : Option Tmp) (v : Value) : (a.put d v).defers = a.defers := by cases d <;> rfl

/-- A guard, as the executor and as the model see it. -/
theorem guard_wanted {n : Nat} {t : Tm} {a : Act} (hT : TR σ ρ n t a.tmps) {ops : Array Oper} {o : Oper} {j : Nat} {want : Bool} (hg : o.guard = some (j, want)) {d : Tmp} (hd : (ops[j]?).bind (·.dst) = some d) {x y : FReg} {self : Self}
    {s : St} {k : KT} {v : AV} {sE : St} (h : (guardEl want (tget t d) x y).run self t s k = .ok v sE) :
    (Region.wanted o (yielded ops a.tmps) = true ∧ x.run self t s k = .ok v sE) ∨ (Region.wanted o (yielded ops a.tmps) = false ∧ y.run self t s k = .ok v sE) := by
  have hv := hT.2 d
  have hy : ∀ b, tget t d = .bool b → yielded ops a.tmps j = some b := fun b e => by
    rw [e] at hv
    simp only [VR] at hv
    have hlt : d < a.tmps.size := by
      rcases Nat.lt_or_ge d a.tmps.size with h' | h'
      · exact h'
      · rw [Array.getD_eq_getD_getElem?, Array.getElem?_eq_none h'] at hv; cases hv
    unfold yielded
    rw [hd]
    rw [Array.getD_eq_getD_getElem?, Array.getElem?_eq_getElem hlt] at hv
    simp only [Option.bind_some, Array.getElem?_eq_getElem hlt]
    simp only [Option.getD_some] at hv
    rw [hv]
  unfold guardEl at h
  unfold Region.wanted
  rw [hg]
  dsimp only
  cases hb : AV.asB (tget t d) with
  | no => rw [hb] at h; cases h
  | tt =>
    rw [hy _ (asB_tt hb)]
    rw [hb] at h
    cases want
    · exact .inr ⟨rfl, h⟩
    · exact .inl ⟨rfl, h⟩
  | ff =>
    rw [hy _ (asB_ff hb)]
    rw [hb] at h
    cases want
    · exact .inl ⟨rfl, h⟩
    · exact .inr ⟨rfl, h⟩
  | un =>
    rw [hb] at h
    refine .inr ⟨?_, h⟩
    have e := asB_un hb
    rw [e] at hv
    obtain ⟨l, hl, hv⟩ := hv
    cases hl
    have hn : yielded ops a.tmps j = none := by
      unfold yielded
      rw [hd]
      simp only [Option.bind_some]
      rw [Array.getD_eq_getD_getElem?] at hv
      cases hx : a.tmps[d]? with
      | none => rfl
      | some z => rw [hx] at hv; simp only [Option.getD_some] at hv; subst hv; rfl
    rw [hn]
    cases want <;> rfl

section region
variable {self : Self} (hS : SelfOK P σ self) (hN : NoNum P) (hσ : Plain σ) {ops : Array Oper} {nt : Nat} {k : KT} {v : AV} {sE : St} {n : Nat} {rdc : Option Nat} {Q : Exit → Act → World → Prop}
include hS hN hσ

/-- What the rest of a region is asked for. -/
def RestOK (P : Program) (σ : Sg) (self : Self) (nt : Nat) (k : KT) (v : AV) (sE : St) (rest : FReg) (next : Act → World → Prop) (ρ : Ren) (s : St) (w : World) (a : Act) : Prop :=
  ∀ (ρ1 : Ren) (t1 : Tm) (s1 : St) (w1 : World) (a1 : Act), rest.run self t1 s1 k = .ok v sE → Rel P σ ρ1 s1 w1 → TR σ ρ1 nt t1 a1.tmps → a1.defers = a.defers → Own ρ ρ1 s s1 w → Frm ρ s w w1 → next a1 w1

theorem fstep_ok {o : Oper} (hd : dstOK nt o = true) {rest : FReg} {t : Tm} {a : Act} {next : Act → World → Prop} (h : (fstep P o rest).run self t s k = .ok v sE) (hR : Rel P σ ρ s w) (hT : TR σ ρ nt t a.tmps)
    (hrest : RestOK P σ self nt k v sE rest next ρ s w a) : o.wpIn (Fd rdc) n P a w next Q := by
  have hd' : ∀ j, o.dst = some j → j < nt := fun j e => by
    unfold dstOK at hd; rw [e] at hd; simpa [Nat.blt_eq] using hd
  have val : ∀ u, execA P t o.op s = .val u s → rest.run self (putA t o.dst u) s k = .ok v sE → o.wpIn (Fd rdc) n P a w next Q := fun u e hr =>
    ran_ok hS hN hσ hR hT (.inl e) fun cv ρ' w' hv h1 h2 h3 =>
      hrest ρ' _ s w' _ hr h1 ((hT.mono h2.le).put hd' hv) (put_defers _ _ _) h2 h3
  unfold fstep at h
  split at h
  · rename_i x hx
    dsimp only at h
    rw [force_eq, fopn_eq, fput_eq] at h
    refine val (evalA t x) ?_ h
    unfold isMove at hx
    split at hx
    · rename_i he; cases hx; rw [he]; rfl
    · rename_i he; cases hx; rw [he]; rfl
    · cases hx
  · split at h
    · rename_i f hf
      dsimp only at h
      cases e : f.get t s with
      | no => rw [e] at h; cases h
      | mk u =>
        rw [e] at h
        change rest.go self ((fput o.dst).put t u) s k = _ at h
        rw [fput_eq] at h
        exact val u (fval_ok hf e) h
    · dsimp only at h
      cases e : (fop P o.op).run self t s with
      | bad => rw [e] at h; cases h
      | ok u s1 =>
        rw [e] at h
        change rest.go self ((fput o.dst).put t u) s1 k = _ at h
        rw [fput_eq] at h
        exact ran_ok hS hN hσ hR hT (fop_ok hS.body e) fun cv ρ' w' hv h1 h2 h3 =>
          hrest ρ' _ s1 w' _ h h1 ((hT.mono h2.le).put hd' hv) (put_defers _ _ _) h2 h3

omit hS hN hσ in
theorem fskip_ok {o : Oper} (hd : dstOK nt o = true) {rest : FReg} {t : Tm} {a : Act} {next : Act → World → Prop} (h : (fskip o rest).run self t s k = .ok v sE) (hR : Rel P σ ρ s w) (hT : TR σ ρ nt t a.tmps)
    (hrest : RestOK P σ self nt k v sE rest next ρ s w a) : next (a.put o.dst undef) w := by
  have hd' : ∀ j, o.dst = some j → j < nt := fun j e => by
    unfold dstOK at hd; rw [e] at hd; simpa [Nat.blt_eq] using hd
  change rest.go self ((fput o.dst).put t undefA) s k = _ at h
  rw [fput_eq] at h
  exact hrest ρ _ s w _ h hR (hT.put hd' ⟨[], rfl, rfl⟩) (put_defers _ _ _) (Own.refl _ _ _) (Frm.refl _ _ _)

theorem fguard_ok {o : Oper} (hd : dstOK nt o = true) {rest : FReg} {t : Tm} {a : Act} {next : Act → World → Prop} (h : (fguard P ops o rest).run self t s k = .ok v sE) (hR : Rel P σ ρ s w) (hT : TR σ ρ nt t a.tmps)
    (hrest : RestOK P σ self nt k v sE rest next ρ s w a) :
    if Region.wanted o (yielded ops a.tmps) then o.wpIn (Fd rdc) n P a w next Q else (∀ f, o.about P w a.eval = some f → (Fd rdc).fn f) ∧ next (a.put o.dst undef) w := by
  unfold fguard at h
  split at h
  · rename_i hg
    have hw : Region.wanted o (yielded ops a.tmps) = true := by unfold Region.wanted; rw [hg]
    rw [if_pos hw]
    exact fstep_ok hS hN hσ hd h hR hT hrest
  · rename_i j want hg
    split at h
    · rename_i d hj
      dsimp only at h
      rcases guard_wanted hT hg hj (h : (guardEl want (tget t d) (fstep P o rest) (fskip o rest)).run self t s k = .ok v sE) with ⟨hw, h⟩ | ⟨hw, h⟩
      · rw [if_pos hw]
        exact fstep_ok hS hN hσ hd h hR hT hrest
      · rw [if_neg (by simp [hw])]
        exact ⟨fun _ _ => trivial, fskip_ok hd h hR hT hrest⟩
    · rename_i hj
      have hw : Region.wanted o (yielded ops a.tmps) = false := by
        have hy : yielded ops a.tmps j = none := by unfold yielded; rw [hj]; rfl
        unfold Region.wanted
        rw [hg]
        dsimp only
        rw [hy]
        cases want <;> rfl
      rw [if_neg (by simp [hw])]
      exact ⟨fun _ _ => trivial, fskip_ok hd h hR hT hrest⟩

theorem fregL_ok : ∀ (l : List Oper) (i : Nat), ops.toList.drop i = l → l.all (dstOK nt) = true → ∀ (ρ : Ren) (t : Tm) (s : St) (w : World) (a : Act), (fregL P ops l).run self t s k = .ok v sE → Rel P σ ρ s w → TR σ ρ nt t a.tmps →
    (∀ (ρ1 : Ren) (t1 : Tm) (s1 : St) (w1 : World) (a1 : Act), k t1 s1 = .ok v sE → Rel P σ ρ1 s1 w1 → TR σ ρ1 nt t1 a1.tmps → a1.defers = a.defers → Own ρ ρ1 s s1 w → Frm ρ s w w1 → Q .normal a1 w1) →
    wpOpsIn (Fd rdc) n P ops Q (List.range' i l.length) a w
  | [], i, hl, _, ρ, t, s, w, a, h, hR, hT, hk => hk ρ t s w a h hR hT rfl (Own.refl _ _ _) (Frm.refl _ _ _)
  | o :: l, i, hl, hall, ρ, t, s, w, a, h, hR, hT, hk => by
    have hi : ops[i]? = some o := by
      have : ops.toList[i]? = some o := by
        have h0 := congrArg (·[0]?) hl
        simpa [List.getElem?_drop] using h0
      simpa using this
    have hl' : ops.toList.drop (i + 1) = l := by
      rw [← List.drop_drop, hl]; rfl
    simp only [List.all_cons, Bool.and_eq_true] at hall
    rw [List.length_cons, List.range'_succ, wpOpsIn_cons]
    unfold wpOpIn
    rw [hi]
    exact fguard_ok hS hN hσ hall.1 h hR hT fun ρ1 t1 s1 w1 a1 h1 hR1 hT1 hd1 ho1 hf1 =>
      fregL_ok l (i + 1) hl' hall.2 ρ1 t1 s1 w1 a1 h1 hR1 hT1 fun ρ2 t2 s2 w2 a2 h2 hR2 hT2 hd2 ho2 hf2 =>
        hk ρ2 t2 s2 w2 a2 h2 hR2 hT2 (hd2.trans hd1) (Own.trans hf1 ho1 ho2) (Frm.trans hf1 ho1 hf2)
end region
end Go.AX
