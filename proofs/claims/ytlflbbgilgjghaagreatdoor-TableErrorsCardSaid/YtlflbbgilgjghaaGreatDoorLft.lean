/- The row, step by step. -/
import Derived.Test.YtlflbbgilgjghaaGreatDoorTop
import Derived.Test.YtlflbbgilgjghaaGreatDoorRows
import Derived.ChangeSame
import Derived.ChangeVars
import Derived.JoinedOf
import Derived.RowKit
import Derived.LaidLaws
import Derived.LaidHandle
import Derived.Stop.Joined
import Derived.Stop.LaidErr
import Derived.MakeChecks
import Derived.Lib.LaidTab
import Derived.Carry
import Derived.OpenShut
import Derived.Deep.DeepLaidRun
import Derived.Test.YtlflbbgilgjghaaGreatDoorClo
set_option linter.all false
set_option linter.unusedVariables false
set_option linter.unusedSimpArgs false
namespace Go.Proofs.YtlflbbgilgjghaaGreatDoor
open Go Go.ChangeShapes Go.WideShapes Go.RowKit
set_option maxRecDepth 1000000
theorem own0 : ownKnob Tryz.prog.godebug = none := by kernel_rfl
theorem gNib : Tryz.prog.globalNamed "bedrock/crc.nibbles" = some 3 := by kernel_rfl
theorem gPay : Tryz.prog.globalNamed "bedrock/sizeclass.payload" = some 0 := by kernel_rfl
theorem tNib : (Tryz.prog.globals[3]?).map (·.type) = some 686 := by kernel_rfl
theorem tPay : (Tryz.prog.globals[0]?).map (·.type) = some 533 := by kernel_rfl
theorem cNib : Tryz.prog.cellsOf 686 = 16 := by kernel_rfl
theorem cPay : Tryz.prog.cellsOf 533 = 5 := by kernel_rfl
theorem c22 : Tryz.prog.cellsOf 22 = 1 := by kernel_rfl
theorem c3 : Tryz.prog.cellsOf 3 = 1 := by kernel_rfl
theorem plainLaid : (Rows.tableErrorsRow.laid.all fun x => x.2.handleName?.isNone) = true := by kernel_rfl
theorem laid_block {P : Program} {W : World} {name : String} {d : DataW Unit} {rest : List (String × DataW Unit)} {g : Nat} {cs : Array Value} (h : laidMet P ((name, d) :: rest) W) (hg : P.globalNamed name = some g) (hv : W.var? P name = some cs) (hpos : 0 < cs.size) :
    ∃ t, W.heap[g]? = some (.cells cs t (0, 0)) := by
  obtain ⟨ps, ⟨g', t', cs', fuel, p, q, hg', ht', hvar, hd, _, rfl⟩, _, hrow⟩ := h
  obtain rfl := Option.some.inj (hg.symm.trans hg')
  obtain rfl := Option.some.inj (hv.symm.trans hvar)
  have hm : MemPlace.cell g 0 ∈ MemPlace.row ⟨g, 0, none⟩ cs.size ++ p ++ q := by
    refine List.mem_append_left _ (List.mem_append_left _ ?_)
    unfold MemPlace.row
    exact List.mem_map.2 ⟨0, List.mem_range.2 hpos, rfl⟩
  obtain ⟨⟨c, t, hh⟩, _⟩ := hrow g 0 hm
  refine ⟨t, ?_⟩
  have hv' := hv
  simp only [World.var?, hg, Option.bind_some, hh, Option.some.injEq] at hv'
  rw [hh, hv']
theorem tabs_of {W : World} (hL : laidMetH Tryz.prog Rows.tableErrorsRow.laid W) :
    (∃ t, W.heap[0]? = some (.cells (AX.pays.map fun n => Value.int .i64 (.ofNat n)).toArray t (0, 0))) ∧ (∃ t, W.heap[3]? = some (.cells (AX.nibs.map fun n => Value.int .u32 (.ofNat n)).toArray t (0, 0))) := by
  rw [MakeChecks.laidMetH_plain _ _ _ plainLaid] at hL
  have h1 : laidMet Tryz.prog (("bedrock/crc.nibbles", Lib.tabData .u32 (AX.nibs.map Int.ofNat)) :: ("bedrock/sizeclass.payload", Lib.tabData .i64 (AX.pays.map Int.ofNat)) :: [("unicode/utf8.first", Rows.laid_unicode_utf8_first), ("unicode/utf8.acceptRanges", Rows.laid_unicode_utf8_acceptRanges)]) W := hL
  have h2 := h1.tail
  have v1 := Lib.tabIs_of_head gNib tNib Tryz.underlying686 Tryz.underlying22 c22 cNib h1
  have v2 := Lib.tabIs_of_head gPay tPay Tryz.underlying533 Tryz.underlying3 c3 cPay h2
  exact ⟨laid_block h2 gPay v2 (by decide), laid_block h1 gNib v1 (by decide)⟩

/-! ### A world that meets the condition -/
mutual
def flatD : DataW Unit → List Value
  | .agg l => flatL l
  | .lit (.int k n) => [.int k n]
  | _ => []
def flatL : List (DataW Unit) → List Value
  | [] => []
  | d :: l => flatD d ++ flatL l
end
noncomputable def layAt (g : Nat) (d : DataW Unit) (h : Array Obj) : Array Obj := h.modify g fun
  | .cells _ t frozen => .cells (flatD d).toArray t frozen
  | o => o
noncomputable def laidWorld (os : Os) : World :=
  let w0 := World.holding Tryz.prog os ⟨#[], #[], []⟩
  { w0 with heap := layAt 0 Rows.laid_bedrock_sizeclass_payload (layAt 1 Rows.laid_unicode_utf8_first (layAt 2 Rows.laid_unicode_utf8_acceptRanges (layAt 3 Rows.laid_bedrock_crc_nibbles w0.heap))) }
theorem laidWorld_met (os : Os) (args : Array Value) : laidMetH Tryz.prog Rows.tableErrorsRow.laid ((laidWorld os).forCall (fun _ _ => 0) ⟨#[], args, []⟩).memory := by
  rw [MakeChecks.laidMetH_plain _ _ _ plainLaid]
  exact laidMet_of_run3 8 (by kernel_rfl) (by kernel_rfl) (by kernel_rfl)
end Go.Proofs.YtlflbbgilgjghaaGreatDoor
namespace Go.Proofs.YtlflbbgilgjghaaGreatDoor
open Go Go.ChangeShapes Go.WideShapes Go.RowKit
open Go.ChangeMaps (open_string shut_string)
set_option maxRecDepth 1000000
theorem readable9 : Tryz.prog.readableRec 9 = true := by kernel_rfl
theorem readable22 : Tryz.prog.readableRec 22 = true := by kernel_rfl
theorem readable23 : Tryz.prog.readableRec 23 = true := by kernel_rfl
theorem sized9 : 9 < Tryz.prog.types.size := of_decide_eq_true (by kernel_rfl)
theorem sized22 : 22 < Tryz.prog.types.size := of_decide_eq_true (by kernel_rfl)
theorem sized23 : 23 < Tryz.prog.types.size := of_decide_eq_true (by kernel_rfl)
theorem results3 : Tryz.f3.resultTypes = #[4] := by kernel_rfl
theorem inits3 : Tryz.prog.inits.idxOf? 3 = none := by kernel_rfl
theorem c23 : Tryz.prog.cellsOf 23 = 2 := by kernel_rfl
section
variable {H : Type} {enc : TypeId × Value → H} {W : World} {sp : Nat → Bool} {held : Bool} {b0 : Nat} {r : Reach} {base : Nat}
/-- An array of two numbers, opened. -/
theorem open_pair {v : Value} {d : DataW H} {ps : List MemPlace} (hval : Value.okWide Tryz.prog W r b0 23 v) (hd : DataW.Trod enc Tryz.prog W base sp held 23 v d ps) : ∃ a b, v = .agg #[.int .u32 a, .int .u32 b] := by
  unfold Value.okWide at hval
  rw [Tryz.underlying23] at hval
  obtain ⟨⟨cs⟩, rfl, hsz, _⟩ := hval
  rw [c23] at hsz
  obtain ⟨fuel, hf⟩ := hd
  obtain ⟨xs, m, _, _, hlen, hxl, hat⟩ := DataW.trod_array Tryz.underlying23 hf
  rw [c22] at hat
  obtain ⟨x, y, rfl⟩ : ∃ x y, cs = [x, y] := by
    match cs, hsz with
    | [x, y], _ => exact ⟨x, y, rfl⟩
  have h0 := hat 0 (by omega)
  have h1 := hat 1 (by omega)
  obtain ⟨x0, x1, rfl⟩ : ∃ x0 x1, xs = [x0, x1] := by
    match xs, hxl with
    | [x0, x1], _ => exact ⟨x0, x1, rfl⟩
  have h0 : DataW.trod enc Tryz.prog W base sp held m 22 [x] = some x0 := h0
  have h1 : DataW.trod enc Tryz.prog W base sp held m 22 [y] = some x1 := h1
  obtain ⟨a, e0, _⟩ := DataW.trod_int Tryz.underlying22 h0
  obtain ⟨b, e1, _⟩ := DataW.trod_int Tryz.underlying22 h1
  simp only [List.cons.injEq, and_true] at e0 e1
  exact ⟨a, b, by rw [e0, e1]⟩
end
theorem lifted (hF : ∀ σ, AX.Plain σ → AX.FactOK Tryz.prog σ AX.F2) (os : Os) (started : os.Started) (H : Type) (enc : TypeId × Value → H) :
    ReturnsInHanded {} Tryz.checked os 3 .any (fun w args => (Rows.tableErrorsSpec.pre enc Tryz.prog Tryz.f3 [] false w args ∧ laidMetH Tryz.prog Rows.tableErrorsRow.laid w) ∧ sizedMet enc Tryz.prog Tryz.f3 (OpenSpec.ofChange Rows.tableErrorsSpec) false w args)
      (Rows.tableErrorsSpec.post enc Tryz.prog Tryz.f3 false true false false) := by
  refine returnsInHanded_of_change_and (C := Tryz.checked) (X := fun w _ => laidMetH Tryz.prog Rows.tableErrorsRow.laid w) (fun _ _ _ hh h => h.of_heap hh) own0 started inits3 Tryz.func3
    (ChangeSpec.witness_at (enc := enc) (C := Tryz.checked) (os := os) (X := fun w _ => laidMetH Tryz.prog Rows.tableErrorsRow.laid w) false (laidWorld os) #[.string ByteArray.empty, .int .u32 0, .agg #[.int .u32 0, .int .u32 0]] 8 rfl (by kernel_rfl) (by kernel_rfl) (by kernel_rfl) (by kernel_rfl) (by kernel_rfl) (laidWorld_met os _)) ?_
  intro W base args ds gs before hval0 hW _ _ hL _
  have hval : ∀ (j : Nat) t v, Tryz.f3.params[j]? = some t → args[j]? = some v → Value.okWide Tryz.prog W .any base t v := hval0
  have hW' := hW
  obtain ⟨p, q, hA0, hV, rfl, hfz, hnd⟩ := hW
  have hA : DataW.TrodAll enc Tryz.prog W 0 (fun _ => true) true Tryz.f3.params.toList args.toList ds p := hA0
  rw [Tryz.params3] at hA hval
  obtain ⟨v0, v1, v2, d0, d1, d2, p0, p1, p2, rfl, rfl, rfl, h0, h1, h2⟩ := trodAll_three hA
  obtain ⟨rfl, rfl⟩ := trodVars_none hV
  have hk0 := h0
  have hk1 := h1
  have hk2 := h2
  obtain ⟨s, rfl, _, _, _⟩ := open_string Tryz.underlying9 (hval 0 9 v0 rfl rfl) h0
  obtain ⟨x, rfl, _, _, _⟩ := open_int Tryz.underlying22 (hval 1 22 v1 rfl rfl) h1
  obtain ⟨a, b, rfl⟩ := open_pair (hval 2 23 v2 rfl rfl) h2
  clear hA0 hval0
  simp only [List.append_nil] at hW'
  have hlt : ∀ y ∈ p0 ++ p1 ++ p2, y.block < W.heap.size := fun y hy => by simpa using hW'.lt y hy
  obtain ⟨⟨t0, g0⟩, ⟨t3, g3⟩⟩ := tabs_of hL
  refine (AX.top_of hF g0 g3 s x a b).mono fun e W' ⟨he, hb⟩ => ?_
  subst he
  refine ⟨_, rfl, _, _, _, [], p0 ++ (p1 ++ p2), [], hW', ?_, ?_, rfl, hb.frame _, fun h => by cases h⟩
  · have e1 : (Rows.tableErrorsSpec.fn H ([d0, d1, d2] ++ [])).results = [.lit (.bool true)] := rfl
    rw [e1, results3]
    exact trodAll_mk1 (shut_bool Tryz.underlying4 true)
  · have e1 : (Rows.tableErrorsSpec.fn H ([d0, d1, d2] ++ [])).args = [d0, d1, d2] := rfl
    rw [e1, Tryz.params3]
    exact trodAll_mk3 (Below.trod closed0.1 readable9 sized9 hk0 hb (fun y hy => hlt y (by simp [hy]))) (Below.trod closed0.1 readable22 sized22 hk1 hb (fun y hy => hlt y (by simp [hy]))) (Below.trod closed0.1 readable23 sized23 hk2 hb (fun y hy => hlt y (by simp [hy])))
end Go.Proofs.YtlflbbgilgjghaaGreatDoor
