/- The law's runs where the offset is 14. -/
import Derived.Test.YtnbicnmniodjpaaGreatA2
set_option linter.unusedSimpArgs false
set_option linter.unusedVariables false
set_option linter.unusedSectionVars false
namespace Go.Proofs.YtnbicnmniodjpaaGreat
open Go.RowKit Go.Eng
set_option maxRecDepth 100000
theorem law_14_t (t o : Nat) (ho : o % 16 = 14) : @runFS (sT t o 14 ho) hk3 Tryz.prog 100000 3 ⟨.lf, 0, 0⟩ [.sym .u8 2, .sym .u16 0, .bool true] (fun v _ => isTrue v) = true := by kernel_rfl
theorem law_14_f (t o : Nat) (ho : o % 16 = 14) : @runFS (sT t o 14 ho) hk3 Tryz.prog 100000 3 ⟨.lf, 0, 0⟩ [.sym .u8 2, .sym .u16 0, .bool false] (fun v _ => isTrue v) = true := by kernel_rfl
end Go.Proofs.YtnbicnmniodjpaaGreat
