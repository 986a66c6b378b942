/- Answers of calls: F25835, F33643, F32801, F24410. -/
import Derived.Test.YtlflbbgilgjghaaGreatDoorData
import Derived.Test.YtlflbbgilgjghaaGreatDoorAxf
import Derived.Test.YtlflbbgilgjghaaGreatDoorFctac
set_option linter.all false
set_option linter.unusedVariables false
set_option linter.unusedSimpArgs false
set_option maxRecDepth 10000000
namespace Go.AX
open Go Go.Proofs
theorem F25835_check : F25835.check Tryz.prog (orcT []) [F25912] (lookN [(7926, ⟨[1008, 1004, 7859, 7591, 7599, 7607, 7615, 7623, 7631, 7639, 7647, 7655, 7663, 7671, 7679, 7687, 7695, 7703, 7711, 7719, 7727, 7735, 7743, 7751, 7759, 7767, 7775, 7783, 7791, 7799, 7807, 7815, 7823, 7831], [(1002, 8), (1003, 2)], 0, .i64⟩)]) 100000 100 = true := by kernel_rfl
theorem F25835_ok : ∀ σ, Plain σ → FactOK Tryz.prog σ F25835 := Fact.checked noNumT mixedT (orcT_ok _) (fsCons F25912_ok fsNil) F25835_check
end Go.AX
set_option maxRecDepth 10000000
namespace Go.AX
open Go Go.Proofs
theorem F33643_check : F33643.check Tryz.prog (orcT []) [] (lookN [(8983, ⟨[1008, 1004, 8916, 8768, 8772, 8776, 8780, 8784, 8788, 8792, 8796, 8800, 8804, 8808, 8812, 8816, 8820, 8824, 8828, 8832, 8836, 8840, 8844, 8848, 8852, 8856, 8860, 8864, 8868, 8872, 8876, 8880, 8884, 8888], [(1002, 8), (1003, 2)], 0, .i64⟩)]) 100000 100 = true := by kernel_rfl
theorem F33643_ok : ∀ σ, Plain σ → FactOK Tryz.prog σ F33643 := Fact.checked noNumT mixedT (orcT_ok _) fsNil F33643_check
end Go.AX
set_option maxRecDepth 10000000
namespace Go.AX
open Go Go.Proofs
theorem F32801_check : F32801.check Tryz.prog (orcT []) [F33643] (lookN [(9256, ⟨[9255, 6755, 6751], [], 0, .i64⟩)]) 100000 100 = true := by kernel_rfl
theorem F32801_ok : ∀ σ, Plain σ → FactOK Tryz.prog σ F32801 := Fact.checked noNumT mixedT (orcT_ok _) (fsCons F33643_ok fsNil) F32801_check
end Go.AX
set_option maxRecDepth 10000000
namespace Go.AX
open Go Go.Proofs
theorem F24410_check : F24410.check Tryz.prog (orcT []) [F25835, F32801] (lookN []) 100000 100 = true := by kernel_rfl
theorem F24410_ok : ∀ σ, Plain σ → FactOK Tryz.prog σ F24410 := Fact.checked noNumT mixedT (orcT_ok _) (fsCons F25835_ok (fsCons F32801_ok fsNil)) F24410_check
end Go.AX
