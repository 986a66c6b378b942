/- Two functions walked: the insertion sort, bytesOf. -/
import Derived.Test.YtlflbbgilgjghaaGreatDoorProg
import Derived.Sort.WalkA
import Derived.Deep.OwnRows
import Derived.KernelRfl
set_option linter.all false
set_option linter.unusedVariables false
set_option linter.unusedSimpArgs false
namespace Go.Proofs
open Go.RowKit Go.Sort

set_option maxHeartbeats 1000000 in
theorem Tryz.isNaN_u64 (x : Int) (w : World) : Calls Tryz.prog 470 #[.int .u64 x] w fun e w' => e = .returned (.bool false) ∧ w' = w := by
  go_enter Tryz.func470, Tryz.ntmps470
  go_wp2
  go_ret
  exact ⟨by simp, rfl⟩
set_option maxHeartbeats 1000000 in
theorem Tryz.less_u64 (x y : Int) (w : World) : Calls Tryz.prog 352 #[.int .u64 x, .int .u64 y] w fun e w' => e = .returned (.bool (Sort.ltInt x y)) ∧ w' = w := by
  go_enter Tryz.func352, Tryz.ntmps352
  go_wp2_with (go_at_call 470; refine (Tryz.isNaN_u64 _ _).mono ?_; rintro e w' ⟨rfl, rfl⟩)
  go_ret
  exact ⟨rfl, rfl⟩
theorem Tryz.insertionSort_u64 (blk off cap a b : Nat) (d : Array Int) (w : World) (hH : Holds (Value.int .u64) w blk off d) (hab : a ≤ b) (hb : b ≤ d.size) (hsz : d.size < 4611686018427387904) :
    Calls Tryz.prog 346 #[.slice (some ⟨blk, off, none⟩) d.size cap, .int .i64 a, .int .i64 b] w fun e w' =>
      e = .returned (.tuple #[]) ∧ ∃ n, w' = putRow (Value.int .u64) (Sort.ahead w n) blk off (Sort.insertionSort ltInt d a b) := by
  go_enter Tryz.func346, Tryz.ntmps346
  go_wp2
  go_loopw [6] (fun vi wr => ∃ (i n : Nat) (dk : Array Int), vi = .int .i64 i ∧ a < i ∧ i ≤ b + 1 ∧ dk.size = d.size ∧ wr = putRow (Value.int .u64) (Sort.ahead w n) blk off dk ∧
      insOuter ltInt a b i dk = insOuter ltInt a b (a + 1) d) (fun vi _ => b + 1 - (intOf vi).toNat)
  case atStart => exact ⟨a + 1, 0, d, by go_num, by omega, by omega, rfl, (putRow_self _ _ _ _ _ hH).symm, rfl⟩
  case round =>
    obtain ⟨i, n, dk, rfl, hai, hib, hsk, hwr, hO⟩ := hrel
    have HO : Hid (insOuter ltInt a b i dk = insOuter ltInt a b (a + 1) d) := hO
    clear hO
    go_wp2
    · go_loopw [7] (fun vj wr2 => ∃ (j m : Nat) (dj : Array Int), vj = .int .i64 j ∧ a ≤ j ∧ j ≤ i ∧ dj.size = d.size ∧ wr2 = putRow (Value.int .u64) (Sort.ahead w m) blk off dj ∧
          insInner ltInt a j dj = insInner ltInt a i dk) (fun vj _ => (intOf vj).toNat)
      case atStart => exact ⟨i, n, dk, rfl, by omega, Nat.le_refl _, hsk, rfl, rfl⟩
      case round =>
        obtain ⟨j, m, dj, rfl, haj, hji, hsj, hw2, hI⟩ := hrel
        have hlt : i < b := by assumption
        obtain ⟨G, hG⟩ : ∃ G : Nat → Int, ∀ t, G t = dj[t]! := ⟨fun t => dj[t]!, fun _ => rfl⟩
        have hcw : ∀ t, t < d.size → wr.cell? ⟨blk, off + t, none⟩ = some (.int .u64 (G t)) := fun t ht => by
          rw [hw2, hG]; exact cell?_putRow _ _ _ _ d dj (holds_ahead _ _ _ _ _ _ hH) hsj t (by omega)
        have hfw : ∀ t, t < d.size → wr.frozen? ⟨blk, off + t, none⟩ = false := fun t ht => by
          rw [hw2, frozen?_putRow]; exact ((holds_ahead _ _ m _ _ _ hH) t ht).2
        have HW : Hid (wr = putRow (Value.int .u64) (Sort.ahead w m) blk off dj) := hw2
        have HG : Hid (∀ t, G t = dj[t]!) := hG
        have HI : Hid (insInner ltInt a j dj = insInner ltInt a i dk) := hI
        clear hw2 hG hI hH
        have out : (j ≤ a ∨ ltInt dj[j]! dj[j - 1]! = false) → ∀ q, ∃ i' n' dk', Value.int .i64 ((i : Int) + 1) = .int .i64 (i' : Nat) ∧ a < i' ∧ i' ≤ b + 1 ∧ dk'.size = d.size ∧
            wr.drewN q = putRow (Value.int .u64) (Sort.ahead w n') blk off dk' ∧ insOuter ltInt a b i' dk' = insOuter ltInt a b (a + 1) d := fun hs q =>
          ⟨i + 1, m + q, dj, by go_num, by omega, by omega, hsj, by rw [HW.out]; exact putRow_drewN _ _ _ _ _ _ _,
            by rw [← HO.out, insOuter_go _ _ _ _ _ hlt, ← HI.out, insInner_stop _ _ _ _ hs]⟩
        have OUT : Hid _ := out
        clear out
        go_wp2
        by_cases hja : a < j
        · go_quiet (first | (go_at_call 352; refine Calls.quiet_of_same (Tryz.less_u64 _ _ _)))
          go_wp2
          · have hl : ltInt (G j) (G (j - 1)) = true := by assumption
            go_region
            all_goals go_wp2
            go_roundw
            case rel =>
              refine ⟨j - 1, m + (nq + 1), swp dj j (j - 1), by congr 1; omega, by omega, by omega, by rw [size_swp]; exact hsj, ?_, ?_⟩
              · rw [HW.out, HG.out, HG.out]
                exact swap_worldA _ w m (nq + 1) blk off dj j (j - 1) (by omega) (by omega)
              · rw [← HI.out, insInner_go ltInt a j dj hja (by rw [← HG.out, ← HG.out]; exact hl)]
            case measure => simp [intOf]; omega
          · have hl : ltInt (G j) (G (j - 1)) = false := by assumption
            go_roundw
            case rel => exact OUT.out (Or.inr (by rw [← HG.out, ← HG.out]; exact hl)) nq
            case measure => simp [intOf]; omega
        · go_quiet (first | (go_at_call 352; refine Calls.quiet_of_same (Tryz.less_u64 _ _ _)))
          go_wp2
          go_roundw
          case rel => exact OUT.out (Or.inl (by omega)) nq
          case measure => simp [intOf]; omega
    · have hge : ¬ i < b := by assumption
      go_end0
      exact ⟨rfl, n, by unfold Sort.insertionSort; rw [← HO.out, insOuter_stop _ _ _ _ _ hge]⟩

set_option maxHeartbeats 1000000 in
theorem Tryz.isNaN_i64 (x : Int) (w : World) : Calls Tryz.prog 572 #[.int .i64 x] w fun e w' => e = .returned (.bool false) ∧ w' = w := by
  go_enter Tryz.func572, Tryz.ntmps572
  go_wp2
  go_ret
  exact ⟨by simp, rfl⟩
set_option maxHeartbeats 1000000 in
theorem Tryz.less_i64 (x y : Int) (w : World) : Calls Tryz.prog 525 #[.int .i64 x, .int .i64 y] w fun e w' => e = .returned (.bool (Sort.ltInt x y)) ∧ w' = w := by
  go_enter Tryz.func525, Tryz.ntmps525
  go_wp2_with (go_at_call 572; refine (Tryz.isNaN_i64 _ _).mono ?_; rintro e w' ⟨rfl, rfl⟩)
  go_ret
  exact ⟨rfl, rfl⟩
theorem Tryz.insertionSort_i64 (blk off cap a b : Nat) (d : Array Int) (w : World) (hH : Holds (Value.int .i64) w blk off d) (hab : a ≤ b) (hb : b ≤ d.size) (hsz : d.size < 4611686018427387904) :
    Calls Tryz.prog 519 #[.slice (some ⟨blk, off, none⟩) d.size cap, .int .i64 a, .int .i64 b] w fun e w' =>
      e = .returned (.tuple #[]) ∧ ∃ n, w' = putRow (Value.int .i64) (Sort.ahead w n) blk off (Sort.insertionSort ltInt d a b) := by
  go_enter Tryz.func519, Tryz.ntmps519
  go_wp2
  go_loopw [6] (fun vi wr => ∃ (i n : Nat) (dk : Array Int), vi = .int .i64 i ∧ a < i ∧ i ≤ b + 1 ∧ dk.size = d.size ∧ wr = putRow (Value.int .i64) (Sort.ahead w n) blk off dk ∧
      insOuter ltInt a b i dk = insOuter ltInt a b (a + 1) d) (fun vi _ => b + 1 - (intOf vi).toNat)
  case atStart => exact ⟨a + 1, 0, d, by go_num, by omega, by omega, rfl, (putRow_self _ _ _ _ _ hH).symm, rfl⟩
  case round =>
    obtain ⟨i, n, dk, rfl, hai, hib, hsk, hwr, hO⟩ := hrel
    have HO : Hid (insOuter ltInt a b i dk = insOuter ltInt a b (a + 1) d) := hO
    clear hO
    go_wp2
    · go_loopw [7] (fun vj wr2 => ∃ (j m : Nat) (dj : Array Int), vj = .int .i64 j ∧ a ≤ j ∧ j ≤ i ∧ dj.size = d.size ∧ wr2 = putRow (Value.int .i64) (Sort.ahead w m) blk off dj ∧
          insInner ltInt a j dj = insInner ltInt a i dk) (fun vj _ => (intOf vj).toNat)
      case atStart => exact ⟨i, n, dk, rfl, by omega, Nat.le_refl _, hsk, rfl, rfl⟩
      case round =>
        obtain ⟨j, m, dj, rfl, haj, hji, hsj, hw2, hI⟩ := hrel
        have hlt : i < b := by assumption
        obtain ⟨G, hG⟩ : ∃ G : Nat → Int, ∀ t, G t = dj[t]! := ⟨fun t => dj[t]!, fun _ => rfl⟩
        have hcw : ∀ t, t < d.size → wr.cell? ⟨blk, off + t, none⟩ = some (.int .i64 (G t)) := fun t ht => by
          rw [hw2, hG]; exact cell?_putRow _ _ _ _ d dj (holds_ahead _ _ _ _ _ _ hH) hsj t (by omega)
        have hfw : ∀ t, t < d.size → wr.frozen? ⟨blk, off + t, none⟩ = false := fun t ht => by
          rw [hw2, frozen?_putRow]; exact ((holds_ahead _ _ m _ _ _ hH) t ht).2
        have HW : Hid (wr = putRow (Value.int .i64) (Sort.ahead w m) blk off dj) := hw2
        have HG : Hid (∀ t, G t = dj[t]!) := hG
        have HI : Hid (insInner ltInt a j dj = insInner ltInt a i dk) := hI
        clear hw2 hG hI hH
        have out : (j ≤ a ∨ ltInt dj[j]! dj[j - 1]! = false) → ∀ q, ∃ i' n' dk', Value.int .i64 ((i : Int) + 1) = .int .i64 (i' : Nat) ∧ a < i' ∧ i' ≤ b + 1 ∧ dk'.size = d.size ∧
            wr.drewN q = putRow (Value.int .i64) (Sort.ahead w n') blk off dk' ∧ insOuter ltInt a b i' dk' = insOuter ltInt a b (a + 1) d := fun hs q =>
          ⟨i + 1, m + q, dj, by go_num, by omega, by omega, hsj, by rw [HW.out]; exact putRow_drewN _ _ _ _ _ _ _,
            by rw [← HO.out, insOuter_go _ _ _ _ _ hlt, ← HI.out, insInner_stop _ _ _ _ hs]⟩
        have OUT : Hid _ := out
        clear out
        go_wp2
        by_cases hja : a < j
        · go_quiet (first | (go_at_call 525; refine Calls.quiet_of_same (Tryz.less_i64 _ _ _)))
          go_wp2
          · have hl : ltInt (G j) (G (j - 1)) = true := by assumption
            go_region
            all_goals go_wp2
            go_roundw
            case rel =>
              refine ⟨j - 1, m + (nq + 1), swp dj j (j - 1), by congr 1; omega, by omega, by omega, by rw [size_swp]; exact hsj, ?_, ?_⟩
              · rw [HW.out, HG.out, HG.out]
                exact swap_worldA _ w m (nq + 1) blk off dj j (j - 1) (by omega) (by omega)
              · rw [← HI.out, insInner_go ltInt a j dj hja (by rw [← HG.out, ← HG.out]; exact hl)]
            case measure => simp [intOf]; omega
          · have hl : ltInt (G j) (G (j - 1)) = false := by assumption
            go_roundw
            case rel => exact OUT.out (Or.inr (by rw [← HG.out, ← HG.out]; exact hl)) nq
            case measure => simp [intOf]; omega
        · go_quiet (first | (go_at_call 525; refine Calls.quiet_of_same (Tryz.less_i64 _ _ _)))
          go_wp2
          go_roundw
          case rel => exact OUT.out (Or.inl (by omega)) nq
          case measure => simp [intOf]; omega
    · have hge : ¬ i < b := by assumption
      go_end0
      exact ⟨rfl, n, by unfold Sort.insertionSort; rw [← HO.out, insOuter_stop _ _ _ _ _ hge]⟩
end Go.Proofs
namespace Go.Proofs
open Go.RowKit Go.Sort
def byteOf (d : Array Int) (j : Nat) : Int := (d[j / 8]!.toNat / 2 ^ (j % 8 * 8) % 256 : Nat)
def bytesTo (d : Array Int) (i : Nat) : Array Value := (Array.range (d.size * 8)).map fun j => Value.int .u8 (if j < i then byteOf d j else 0)
theorem bytesTo_get {d : Array Int} {i j : Nat} (h : j < d.size * 8) : (bytesTo d i)[j]? = some (Value.int .u8 (if j < i then byteOf d j else 0)) := by
  unfold bytesTo
  rw [Array.getElem?_map, Array.getElem?_range]
  simp [h]
theorem bytesTo_size {d : Array Int} {i : Nat} : (bytesTo d i).size = d.size * 8 := by simp [bytesTo]
theorem bytesTo_zero {d : Array Int} : madeCells #[Value.int .u8 0] (d.size * 8) = bytesTo d 0 := by
  unfold madeCells bytesTo
  congr 1
  funext j
  simp [Nat.mod_one]
theorem cell?_alloc_of {w : World} {o : Obj} {a : Addr} {v : Value} (h : w.cell? a = some v) : (w.alloc o).cell? a = some v := by
  have hlt : a.block < w.heap.size := by
    rcases Nat.lt_or_ge a.block w.heap.size with h' | h'
    · exact h'
    · unfold World.cell? at h
      rw [Array.getElem?_eq_none h'] at h
      cases h
  unfold World.cell? at h ⊢
  simp only [World.alloc]
  rw [Array.getElem?_push_lt hlt, ← Array.getElem?_eq_getElem hlt]
  exact h
theorem set_bytes {w : World} {d : Array Int} {i : Nat} (h : i < d.size * 8) : (w.alloc (.cells (bytesTo d i) 5)).setCell ⟨w.heap.size, i, none⟩ (.int .u8 (byteOf d i)) = w.alloc (.cells (bytesTo d (i + 1)) 5) := by
  have hc : (bytesTo d i).setIfInBounds i (.int .u8 (byteOf d i)) = bytesTo d (i + 1) := by
    apply Array.ext_getElem?
    intro j
    rcases Nat.lt_or_ge j (d.size * 8) with hj | hj
    · rw [bytesTo_get hj]
      by_cases hji : j = i
      · subst hji
        rw [Array.getElem?_setIfInBounds_self_of_lt (by rw [bytesTo_size]; exact hj), if_pos (by omega)]
      · rw [Array.getElem?_setIfInBounds_ne (fun e => hji e.symm), bytesTo_get hj]
        by_cases h1 : j < i
        · rw [if_pos h1, if_pos (by omega)]
        · rw [if_neg h1, if_neg (by omega)]
    · rw [Array.getElem?_eq_none (by simp [bytesTo_size]; exact hj), Array.getElem?_eq_none (by rw [bytesTo_size]; exact hj)]
  unfold World.setCell World.alloc
  simp only []
  congr 1
  apply Array.ext_getElem?
  intro k
  rw [Array.getElem?_modify]
  by_cases hk : w.heap.size = k
  · subst hk
    rw [if_pos rfl, Array.getElem?_push_size, Array.getElem?_push_size]
    simp [hc]
  · rw [if_neg hk]
    simp only [Array.getElem?_push, hk]
    rw [if_neg (fun e => hk e.symm), if_neg (fun e => hk e.symm)]
theorem Tryz.info5 : (Tryz.prog.info? 5).map (fun i => (i.zero, i.size, i.bytes)) = some (some (.int .u8 0), 1, 1) := by kernel_rfl
theorem Tryz.bytesOf_walk (blk off cap : Nat) (d : Array Int) (w : World) (hH : Holds (Value.int .u64) w blk off d) (hpos : ∀ i, i < d.size → 0 ≤ d[i]! ∧ d[i]! < 18446744073709551616) (hsz : d.size < 1000000) :
    Calls Tryz.prog 482 #[.slice (some ⟨blk, off, none⟩) d.size cap] w fun e w' =>
      e = .returned (.slice (some ⟨w.heap.size, 0, none⟩) (d.size * 8) (d.size * 8)) ∧ w' = w.alloc (.cells (bytesTo d (d.size * 8)) 5) := by
  have hmk := run_make_row' (P := Tryz.prog) 365 5 (.int .u8 0) 1 Tryz.underlying365 Tryz.info5 rfl .i64 .i64 (d.size * 8) (by omega) (by omega)
  have ec : ((d.size * 8 : Nat) : Int) = (d.size : Int) * 8 := by omega
  rw [ec] at hmk
  go_enter Tryz.func482, Tryz.ntmps482
  go_wp2
  go_loopw [11] (fun vi wr => ∃ i : Nat, vi = .int .i64 i ∧ i ≤ d.size * 8 ∧ wr = w.alloc (.cells (bytesTo d i) 5)) (fun vi _ => d.size * 8 - (intOf vi).toNat)
  case atStart => exact ⟨0, rfl, by omega, by rw [bytesTo_zero]⟩
  case round =>
    obtain ⟨i, rfl, hi, hwr⟩ := hrel
    by_cases hlt : i < d.size * 8
    · obtain ⟨D, hD⟩ : ∃ D : Nat, d[i / 8]! = (D : Int) := ⟨d[i / 8]!.toNat, by have := (hpos (i / 8) (by omega)).1; omega⟩
      have hDb : D < 18446744073709551616 := by have := (hpos (i / 8) (by omega)).2; omega
      have hcw : wr.cell? ⟨blk, off + i / 8, none⟩ = some (.int .u64 (D : Int)) := by
        rw [hwr, cell?_alloc_of (hH (i / 8) (by omega)).1, hD]
      have hcs : wr.cell? ⟨w.heap.size, i, none⟩ = some (.int .u8 0) := by
        rw [hwr]
        simp only [World.cell?, World.alloc]
        rw [Array.getElem?_push_size]
        simp only [Option.isSome_none, Bool.false_eq_true, if_false]
        rw [bytesTo_get hlt]
        simp
      have hfs : wr.frozen? ⟨w.heap.size, i, none⟩ = false := by
        rw [hwr]
        simp only [World.frozen?, World.alloc]
        rw [Array.getElem?_push_size]
        simp
      have HW : Hid (wr = w.alloc (.cells (bytesTo d i) 5)) := hwr
      clear hwr
      go_wp2
      refine ⟨⟨i + 1, by congr 1, by omega, ?_⟩, ?_⟩
      · rw [HW.out]
        have e1 : (D : Int) / 2 ^ (i % 8 * 8) % 256 = byteOf d i := by
          unfold byteOf
          rw [hD]
          simp
        rw [e1]
        exact set_bytes hlt
      · simp [intOf]
        omega
    · have hie : i = d.size * 8 := by omega
      subst hie
      go_wp2
      go_ret
      exact ⟨rfl, rfl⟩
end Go.Proofs
