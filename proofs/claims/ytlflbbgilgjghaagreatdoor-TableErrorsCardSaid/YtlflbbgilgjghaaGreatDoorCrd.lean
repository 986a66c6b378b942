/- The tie and the card, from the fact. -/
import Derived.Test.YtlflbbgilgjghaaGreatDoorRow
import Derived.Test.YtlflbbgilgjghaaGreatDoorGoe
import Derived.Test.YtlflbbgilgjghaaGreatDoorTea
import Derived.Test.YtlflbbgilgjghaaGreatDoorTeb
import Derived.Test.YtlflbbgilgjghaaGreatDoorTec
import Derived.LaidByTextLater
import Derived.SevenTiedAt
set_option linter.all false
set_option linter.unusedVariables false
set_option linter.unusedSimpArgs false
namespace Go.Proofs.YtlflbbgilgjghaaGreatDoor
open Go
set_option maxRecDepth 1000000
theorem pin0 : Tryz.pinned.checked.prog.pinnedFits "unicode/utf8.first" = true := by kernel_rfl
theorem noOwn0 : Tryz.pinned.checked.prog.headLifts.contains "ownunsafe" = false := by kernel_rfl
theorem fits0 : Tryz.pinned.checked.prog.listedFits [("bedrock/crc.nibbles", Rows.laid_bedrock_crc_nibbles), ("bedrock/sizeclass.payload", Rows.laid_bedrock_sizeclass_payload), ("unicode/utf8.first", Rows.laid_unicode_utf8_first), ("unicode/utf8.acceptRanges", Rows.laid_unicode_utf8_acceptRanges)] = true := by
  unfold Program.listedFits
  rw [noOwn0]
  kernel_rfl
theorem tie0 : Tryz.prog.laidByTextLater [("bedrock/crc.nibbles", Rows.laid_bedrock_crc_nibbles), ("bedrock/sizeclass.payload", Rows.laid_bedrock_sizeclass_payload), ("unicode/utf8.acceptRanges", Rows.laid_unicode_utf8_acceptRanges)] [.data, .data, .data] true :=
  Program.laidByTextLater_by_run 400 8 t0 t1 t2 t3 t4 t5 t6 t7 t8
theorem rowTie0 : Rows.tableErrorsRow.laidByTextAt .later Tryz.pinned [.data, .data, .pinned, .data] true :=
  OpenClaim.laidByTextAt_pinned rfl rfl tie0 rfl rfl rfl rfl (fun y hy _e => by
    simp only [Rows.tableErrorsRow, List.zip_cons_cons, List.zip_nil_right, List.mem_cons, List.mem_nil_iff, or_false] at hy
    rcases hy with rfl | rfl | rfl | rfl
    · cases _e
    · cases _e
    · exact ⟨pin0, by kernel_rfl⟩
    · cases _e) fits0
theorem wf0 : Rows.tableErrorsRow.wfByText (OpenSpec.ofChange Rows.tableErrorsSpec) = true := by kernel_rfl
theorem main0 : Tryz.pinned.checked.prog.mainIs = some (true, "6d92da087de401a84b15584ebdbc9e97107e2b4e771d4c15e36ee676a6c06361".toList) := by kernel_rfl
theorem looks0 : (true == Tryz.prog.looks []) = true := by kernel_rfl
theorem stand9 : Tryz.prog.wantsStandIn 9 = false := by kernel_rfl
theorem stand22 : Tryz.prog.wantsStandIn 22 = false := by kernel_rfl
theorem stand23 : Tryz.prog.wantsStandIn 23 = false := by kernel_rfl
theorem card_of (hF : ∀ σ, AX.Plain σ → AX.FactOK Tryz.prog σ AX.F2) : Claim7.holds Tryz.pinned (.plain (OpenSpec.ofChange Rows.tableErrorsSpec))
    { stood := { row := Rows.tableErrorsRow, standIns := [], harness := (true, "6d92da087de401a84b15584ebdbc9e97107e2b4e771d4c15e36ee676a6c06361"), looks := true }, kinds := [], alts := [], laidByText := true, laidKinds := [.data, .data, .pinned, .data], laidTests := true, laidLooks := .later } :=
  Claim7.holds_tied_plain_at .later [] [.data, .data, .pinned, .data] true (true, "6d92da087de401a84b15584ebdbc9e97107e2b4e771d4c15e36ee676a6c06361") true
    (said_of hF) (fun _ h => by cases h) wf0 (fun _ h => by cases h) rowTie0 rfl ⟨rfl, rfl⟩ main0 rfl
    (fun f fn hf hfn => by
      obtain rfl : f = 3 := (Option.some.inj (named3.symm.trans hf)).symm
      obtain rfl : fn = Tryz.f3 := (Option.some.inj (Tryz.func3.symm.trans hfn)).symm
      refine ⟨eq_of_beq looks0, fun j t ht => ?_⟩
      rw [Tryz.params3] at ht
      match j, ht with
      | 0, ht => cases ht; exact stand9
      | 1, ht => cases ht; exact stand22
      | 2, ht => cases ht; exact stand23
      | j + 3, ht => simp at ht)
    goes0
end Go.Proofs.YtlflbbgilgjghaaGreatDoor
