/- Answers of calls: F107549, F110517, F111485, F98356. -/
import Derived.Test.YtlflbbgilgjghaaGreatDoorData
import Derived.Test.YtlflbbgilgjghaaGreatDoorAxf
import Derived.Test.YtlflbbgilgjghaaGreatDoorFctak
set_option linter.all false
set_option linter.unusedVariables false
set_option linter.unusedSimpArgs false
set_option maxRecDepth 10000000
namespace Go.AX
open Go Go.Proofs
theorem F107549_check : F107549.check Tryz.prog (orcT []) [] (lookN [(22532, ⟨[18551, 18547, 22519, 22479, 22483, 22487, 22491], [(18545, 8), (18546, 2)], 0, .i64⟩), (23279, ⟨[18551, 18547, 23048, 23080, 23112, 23144, 23176, 23208, 23240, 23260], [(18545, 8), (18546, 2)], 0, .i64⟩)]) 100000 100 = true := by kernel_rfl
theorem F107549_ok : ∀ σ, Plain σ → FactOK Tryz.prog σ F107549 := Fact.checked noNumT mixedT (orcT_ok _) fsNil F107549_check
end Go.AX
set_option maxRecDepth 10000000
namespace Go.AX
open Go Go.Proofs
theorem F110517_check : F110517.check Tryz.prog (orcT []) [] (lookN []) 100000 100 = true := by kernel_rfl
theorem F110517_ok : ∀ σ, Plain σ → FactOK Tryz.prog σ F110517 := Fact.checked noNumT mixedT (orcT_ok _) fsNil F110517_check
end Go.AX
set_option maxRecDepth 10000000
namespace Go.AX
open Go Go.Proofs
theorem F111485_check : F111485.check Tryz.prog (orcT [(23587, 23578)]) [] (lookN [(23578, ⟨[], [], 1, .i64⟩), (24126, ⟨[18551, 18547, 24069, 24101, 24117], [(18545, 8), (18546, 2)], 0, .i64⟩), (24193, ⟨[18551, 18547, 24152, 24160, 24156, 24168, 24164, 24176, 24172], [(18545, 8), (18546, 2)], 0, .i64⟩)]) 100000 100 = true := by kernel_rfl
theorem F111485_ok : ∀ σ, Plain σ → FactOK Tryz.prog σ F111485 := Fact.checked noNumT mixedT (orcT_ok _) fsNil F111485_check
end Go.AX
set_option maxRecDepth 10000000
namespace Go.AX
open Go Go.Proofs
theorem F98356_check : F98356.check Tryz.prog (orcT []) [F99271, F105465, F107549, F110517, F111485] (lookN []) 100000 100 = true := by kernel_rfl
theorem F98356_ok : ∀ σ, Plain σ → FactOK Tryz.prog σ F98356 := Fact.checked noNumT mixedT (orcT_ok _) (fsCons F99271_ok (fsCons F105465_ok (fsCons F107549_ok (fsCons F110517_ok (fsCons F111485_ok fsNil))))) F98356_check
end Go.AX
