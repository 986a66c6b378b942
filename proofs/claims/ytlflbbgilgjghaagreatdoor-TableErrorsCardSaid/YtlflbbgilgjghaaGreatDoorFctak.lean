/- Answers of calls: F95511, F99343, F99271, F105465. -/
import Derived.Test.YtlflbbgilgjghaaGreatDoorData
import Derived.Test.YtlflbbgilgjghaaGreatDoorAxf
import Derived.Test.YtlflbbgilgjghaaGreatDoorFctaj
set_option linter.all false
set_option linter.unusedVariables false
set_option linter.unusedSimpArgs false
set_option maxRecDepth 10000000
namespace Go.AX
open Go Go.Proofs
theorem F95511_check : F95511.check Tryz.prog (orcT []) [F96174] (lookN []) 100000 100 = true := by kernel_rfl
theorem F95511_ok : ∀ σ, Plain σ → FactOK Tryz.prog σ F95511 := Fact.checked noNumT mixedT (orcT_ok _) (fsCons F96174_ok fsNil) F95511_check
end Go.AX
set_option maxRecDepth 10000000
namespace Go.AX
open Go Go.Proofs
theorem F99343_check : F99343.check Tryz.prog (orcT []) [] (lookN []) 100000 100 = true := by kernel_rfl
theorem F99343_ok : ∀ σ, Plain σ → FactOK Tryz.prog σ F99343 := Fact.checked noNumT mixedT (orcT_ok _) fsNil F99343_check
end Go.AX
set_option maxRecDepth 10000000
namespace Go.AX
open Go Go.Proofs
theorem F99271_check : F99271.check Tryz.prog (orcT []) [F99343] (lookN [(21557, ⟨[18551, 18547, 21490, 21222, 21230, 21238, 21246, 21254, 21262, 21270, 21278, 21286, 21294, 21302, 21310, 21318, 21326, 21334, 21342, 21350, 21358, 21366, 21374, 21382, 21390, 21398, 21406, 21414, 21422, 21430, 21438, 21446, 21454, 21462], [(18545, 8), (18546, 2)], 0, .i64⟩)]) 100000 100 = true := by kernel_rfl
theorem F99271_ok : ∀ σ, Plain σ → FactOK Tryz.prog σ F99271 := Fact.checked noNumT mixedT (orcT_ok _) (fsCons F99343_ok fsNil) F99271_check
end Go.AX
set_option maxRecDepth 10000000
namespace Go.AX
open Go Go.Proofs
theorem F105465_check : F105465.check Tryz.prog (orcT []) [] (lookN [(21906, ⟨[18551, 18547, 21887, 21835, 21839, 21843, 21847, 21851, 21855, 21859], [(18545, 8), (18546, 2)], 0, .i64⟩), (22314, ⟨[18551, 18547, 22207, 22239, 22271, 22303], [(18545, 8), (18546, 2)], 0, .i64⟩)]) 100000 100 = true := by kernel_rfl
theorem F105465_ok : ∀ σ, Plain σ → FactOK Tryz.prog σ F105465 := Fact.checked noNumT mixedT (orcT_ok _) fsNil F105465_check
end Go.AX
