/- No text starts a goroutine. -/
import Derived.Test.YtlflbbgilgjghaaGreatDoorRows
import GoSem.ClaimGoes
import Derived.KernelRfl
set_option linter.all false
set_option linter.unusedVariables false
set_option linter.unusedSimpArgs false
namespace Go.Proofs.YtlflbbgilgjghaaGreatDoor
open Go
set_option maxRecDepth 1000000
theorem goesAll : Tryz.prog.funcs.toList.any Func.goes = false := by kernel_rfl
theorem named3' : Tryz.pinned.checked.prog.funcNamed Rows.tableErrorsRow.func = some 3 := by kernel_rfl
theorem goes_none {P : Program} (h : P.funcs.toList.any Func.goes = false) (f : FuncId) : P.goes f = false := by
  have h1 : ∀ fn ∈ P.funcs.toList, fn.goes = false := by
    intro fn hfn
    cases e : fn.goes with
    | false => rfl
    | true =>
      have : P.funcs.toList.any Func.goes = true := List.any_eq_true.2 ⟨fn, hfn, e⟩
      rw [h] at this; cases this
  have h2 : P.funcs.any Func.goes = false := by rw [← Array.any_toList]; exact h
  unfold Program.goes
  rw [h2, Bool.and_false, Bool.or_false, List.any_eq_false]
  intro g _
  cases hg : P.funcs[g]? with
  | none => simp
  | some fn =>
    have hm : fn ∈ P.funcs.toList := by simpa using Array.mem_of_getElem? hg
    simp [h1 fn hm]
theorem goesBy_of {c : OpenClaim} {P : Program} {f : FuncId} (hs : c.start = .entering) (hn : P.funcNamed c.func = some f) (h : P.goes f = false) : false = c.goesBy P := by
  unfold OpenClaim.goesBy Program.goesAt Program.goesFrom
  rw [hs, hn]
  simp [h]
theorem goes0 : false = Rows.tableErrorsRow.goesBy Tryz.pinned.checked.prog := goesBy_of rfl named3' (goes_none goesAll 3)
end Go.Proofs.YtlflbbgilgjghaaGreatDoor
