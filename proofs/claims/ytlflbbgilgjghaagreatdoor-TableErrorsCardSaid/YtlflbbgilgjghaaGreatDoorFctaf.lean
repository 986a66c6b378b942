/- Answers of calls: F49064, F39100, F55382, F52483. -/
import Derived.Test.YtlflbbgilgjghaaGreatDoorData
import Derived.Test.YtlflbbgilgjghaaGreatDoorAxf
import Derived.Test.YtlflbbgilgjghaaGreatDoorFctae
set_option linter.all false
set_option linter.unusedVariables false
set_option linter.unusedSimpArgs false
set_option maxRecDepth 10000000
namespace Go.AX
open Go Go.Proofs
theorem F49064_check : F49064.check Tryz.prog (orcT []) [F51620] (lookN [(12144, ⟨[12143, 6755, 6751], [], 0, .i64⟩)]) 100000 100 = true := by kernel_rfl
theorem F49064_ok : ∀ σ, Plain σ → FactOK Tryz.prog σ F49064 := Fact.checked noNumT mixedT (orcT_ok _) (fsCons F51620_ok fsNil) F49064_check
end Go.AX
set_option maxRecDepth 10000000
namespace Go.AX
open Go Go.Proofs
theorem F39100_check : F39100.check Tryz.prog (orcT []) [F39845, F44875, F49064] (lookN []) 100000 100 = true := by kernel_rfl
theorem F39100_ok : ∀ σ, Plain σ → FactOK Tryz.prog σ F39100 := Fact.checked noNumT mixedT (orcT_ok _) (fsCons F39845_ok (fsCons F44875_ok (fsCons F49064_ok fsNil))) F39100_check
end Go.AX
set_option maxRecDepth 10000000
namespace Go.AX
open Go Go.Proofs
theorem F55382_check : F55382.check Tryz.prog (orcT [(12972, 12960)]) [] (lookN [(12960, ⟨[], [], 1, .u64⟩), (13576, ⟨[1010, 1004, 13485, 13517, 13549, 13565], [(1002, 8), (1003, 2)], 0, .i64⟩), (13667, ⟨[1010, 1004, 13598, 13602, 13618, 13610, 13614, 13630, 13622, 13626, 13642, 13634, 13638], [(1002, 8), (1003, 2)], 0, .i64⟩)]) 100000 100 = true := by kernel_rfl
theorem F55382_ok : ∀ σ, Plain σ → FactOK Tryz.prog σ F55382 := Fact.checked noNumT mixedT (orcT_ok _) fsNil F55382_check
end Go.AX
set_option maxRecDepth 10000000
namespace Go.AX
open Go Go.Proofs
theorem F52483_check : F52483.check Tryz.prog (orcT [(12248, 12227), (12494, 12485), (13704, 13683)]) [F55382] (lookN [(12227, ⟨[], [], 1, .u64⟩), (12485, ⟨[], [], 1, .i64⟩), (12954, ⟨[1010, 1004, 12845, 12857, 12885, 12913, 12921, 12925, 12937], [(1002, 8), (1003, 2)], 0, .i64⟩), (13683, ⟨[], [], 1, .u64⟩), (13712, ⟨[6755, 6747, 2901, 2899], [], 0, .i64⟩)]) 100000 100 = true := by kernel_rfl
theorem F52483_ok : ∀ σ, Plain σ → FactOK Tryz.prog σ F52483 := Fact.checked noNumT mixedT (orcT_ok _) (fsCons F55382_ok fsNil) F52483_check
end Go.AX
