/- Answers of calls: F77158, F82487, F80218, F88037. -/
import Derived.Test.YtlflbbgilgjghaaGreatDoorData
import Derived.Test.YtlflbbgilgjghaaGreatDoorAxf
set_option linter.all false
set_option linter.unusedVariables false
set_option linter.unusedSimpArgs false
set_option maxRecDepth 10000000
namespace Go.AX
open Go Go.Proofs
theorem F77158_check : F77158.check Tryz.prog (orcT [(16875, 16869), (16965, 16959), (17452, 17446)]) [] (lookN [(16863, ⟨[16862, 13733, 13729], [], 0, .i64⟩), (16869, ⟨[], [], 1, .u64⟩), (16959, ⟨[], [], 1, .i64⟩), (17146, ⟨[1010, 1004, 17111, 17139], [(1002, 8), (1003, 2)], 0, .i64⟩), (17147, ⟨[], [], 0, .i64⟩), (17300, ⟨[1010, 1004, 17277, 17293], [(1002, 8), (1003, 2)], 0, .i64⟩), (17430, ⟨[1010, 1004, 16861, 17316, 17313, 17322, 17319, 16054], [(1002, 8), (1003, 2)], 0, .i64⟩), (17446, ⟨[], [], 1, .u64⟩), (17455, ⟨[13733, 13725, 2901, 2899], [], 0, .i64⟩)]) 100000 100 = true := by kernel_rfl
theorem F77158_ok : ∀ σ, Plain σ → FactOK Tryz.prog σ F77158 := Fact.checked noNumT mixedT (orcT_ok _) fsNil F77158_check
end Go.AX
set_option maxRecDepth 10000000
namespace Go.AX
open Go Go.Proofs
theorem F82487_check : F82487.check Tryz.prog (orcT []) [] (lookN []) 100000 100 = true := by kernel_rfl
theorem F82487_ok : ∀ σ, Plain σ → FactOK Tryz.prog σ F82487 := Fact.checked noNumT mixedT (orcT_ok _) fsNil F82487_check
end Go.AX
set_option maxRecDepth 10000000
namespace Go.AX
open Go Go.Proofs
theorem F80218_check : F80218.check Tryz.prog (orcT []) [F82487] (lookN []) 100000 100 = true := by kernel_rfl
theorem F80218_ok : ∀ σ, Plain σ → FactOK Tryz.prog σ F80218 := Fact.checked noNumT mixedT (orcT_ok _) (fsCons F82487_ok fsNil) F80218_check
end Go.AX
set_option maxRecDepth 10000000
namespace Go.AX
open Go Go.Proofs
theorem F88037_check : F88037.check Tryz.prog (orcT []) [] (lookN []) 100000 100 = true := by kernel_rfl
theorem F88037_ok : ∀ σ, Plain σ → FactOK Tryz.prog σ F88037 := Fact.checked noNumT mixedT (orcT_ok _) fsNil F88037_check
end Go.AX
