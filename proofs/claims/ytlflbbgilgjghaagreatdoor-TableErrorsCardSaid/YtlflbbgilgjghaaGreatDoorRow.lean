/- The row holds. -/
import Derived.Test.YtlflbbgilgjghaaGreatDoorClo
import Derived.Test.YtlflbbgilgjghaaGreatDoorCls
import Derived.Test.YtlflbbgilgjghaaGreatDoorLft
set_option linter.all false
set_option linter.unusedVariables false
set_option linter.unusedSimpArgs false
namespace Go.Proofs.YtlflbbgilgjghaaGreatDoor
open Go
theorem band {a b : Bool} (h : a = true) (k : b = true) : (a && b) = true := by rw [h, k]; rfl
theorem joined0 : joinedFacts Tryz.prog 3 Tryz.f3 Rows.tableErrorsSpec Rows.tableErrorsRow = true := by
  unfold joinedFacts
  refine band ?_ k32
  refine band ?_ k31
  refine band ?_ k30
  refine band ?_ (by kernel_rfl)
  refine band ?_ k28
  refine band ?_ k27
  refine band ?_ k26
  refine band ?_ k25
  refine band ?_ k24
  refine band ?_ k23
  refine band ?_ k22
  refine band ?_ k21
  refine band ?_ k20
  refine band ?_ k19
  refine band ?_ k18
  refine band ?_ k17
  refine band ?_ k16
  refine band ?_ k15
  refine band ?_ k14
  refine band ?_ k13
  refine band ?_ k12
  refine band ?_ k11
  refine band ?_ k10
  refine band ?_ k9
  refine band ?_ k8
  refine band ?_ k7
  refine band ?_ k6
  refine band ?_ k5
  refine band ?_ k4
  refine band ?_ closed0.2.1
  refine band ?_ closed0.1
  exact k1
theorem isInst0 : Tryz.f3.isInstance Tryz.pinned.checked.prog Rows.tableErrorsRow.origin Rows.tableErrorsRow.targs := of_decide_eq_true (by kernel_rfl)
theorem isWrap0 : Tryz.f3.isWrapper Tryz.pinned.checked.prog Rows.tableErrorsRow.wrapper Rows.tableErrorsRow.mainSum := by unfold Func.isWrapper; rw [if_neg (of_decide_eq_false (by kernel_rfl))]; exact ⟨rfl, rfl⟩
theorem named3 : Tryz.pinned.checked.prog.funcNamed Rows.tableErrorsRow.func = some 3 := by kernel_rfl
theorem said_of (hF : ∀ σ, AX.Plain σ → AX.FactOK Tryz.prog σ AX.F2) : Rows.TableErrorsSaid :=
  OpenClaim.holds_of_wide 3 Tryz.f3 rfl rfl rfl rfl rfl rfl rfl ⟨rfl, rfl, rfl, rfl, rfl⟩ rfl rfl rfl rfl rfl named3 Tryz.func3 joined0 isInst0 isWrap0
    (fun os started H enc _ => lifted hF os started H enc)
end Go.Proofs.YtlflbbgilgjghaaGreatDoor
