/- Answers of calls: F91079, F115413, F118574, F116251. -/
import Derived.Test.YtlflbbgilgjghaaGreatDoorData
import Derived.Test.YtlflbbgilgjghaaGreatDoorAxf
import Derived.Test.YtlflbbgilgjghaaGreatDoorFctaj
import Derived.Test.YtlflbbgilgjghaaGreatDoorFctak
import Derived.Test.YtlflbbgilgjghaaGreatDoorFctal
set_option linter.all false
set_option linter.unusedVariables false
set_option linter.unusedSimpArgs false
set_option maxRecDepth 10000000
namespace Go.AX
open Go Go.Proofs
theorem F91079_check : F91079.check Tryz.prog (orcT []) [F92568, F95511, F98356] (lookN [(18863, ⟨[18551, 18547, 18788, 18796, 18804, 18812, 18820, 18828, 18836, 18844], [(18545, 8), (18546, 2)], 0, .i64⟩), (18969, ⟨[18551, 18547, 18958, 18962], [(18545, 8), (18546, 2)], 0, .i64⟩), (19958, ⟨[18551, 18547, 19947, 19951], [(18545, 8), (18546, 2)], 0, .i64⟩)]) 100000 100 = true := by kernel_rfl
theorem F91079_ok : ∀ σ, Plain σ → FactOK Tryz.prog σ F91079 := Fact.checked noNumT mixedT (orcT_ok _) (fsCons F92568_ok (fsCons F95511_ok (fsCons F98356_ok fsNil))) F91079_check
end Go.AX
set_option maxRecDepth 10000000
namespace Go.AX
open Go Go.Proofs
theorem F115413_check : F115413.check Tryz.prog (orcT []) [] (lookN []) 100000 100 = true := by kernel_rfl
theorem F115413_ok : ∀ σ, Plain σ → FactOK Tryz.prog σ F115413 := Fact.checked noNumT mixedT (orcT_ok _) fsNil F115413_check
end Go.AX
set_option maxRecDepth 10000000
namespace Go.AX
open Go Go.Proofs
theorem F118574_check : F118574.check Tryz.prog (orcT []) [] (lookN []) 100000 100 = true := by kernel_rfl
theorem F118574_ok : ∀ σ, Plain σ → FactOK Tryz.prog σ F118574 := Fact.checked noNumT mixedT (orcT_ok _) fsNil F118574_check
end Go.AX
set_option maxRecDepth 10000000
namespace Go.AX
open Go Go.Proofs
theorem F116251_check : F116251.check Tryz.prog (orcT []) [F118574] (lookN [(24613, ⟨[24301, 24297, 24538, 24546, 24554, 24562, 24570, 24578, 24586, 24594], [(24295, 8), (24296, 2)], 0, .i64⟩), (24719, ⟨[24301, 24297, 24708, 24712], [(24295, 8), (24296, 2)], 0, .i64⟩), (25058, ⟨[24301, 24297, 25047, 25051], [(24295, 8), (24296, 2)], 0, .i64⟩)]) 100000 100 = true := by kernel_rfl
theorem F116251_ok : ∀ σ, Plain σ → FactOK Tryz.prog σ F116251 := Fact.checked noNumT mixedT (orcT_ok _) (fsCons F118574_ok fsNil) F116251_check
end Go.AX
