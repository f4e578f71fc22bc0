/- The law's runs. -/
import Derived.Test.YtlfmgfgcaepmjaaGreatA2
set_option linter.unusedSimpArgs false
set_option linter.unusedVariables false
set_option linter.unusedSectionVars false
set_option linter.unusedSimpArgs false
set_option linter.unusedVariables false
set_option linter.unusedSectionVars false
namespace Go.Proofs.YtlfmgfgcaepmjaaGreat
open Go.RowKit Go.Eng
set_option maxRecDepth 100000
theorem law_6 (o : Nat) (ho : o % 8 = 6) : @runFS (sO o 6 ho) hk3 Tryz.prog 100000 3 ⟨.lf, 0, 0⟩ [.sym .u8 0] (fun v _ => isTrue v) = true := by kernel_rfl
theorem law_7 (o : Nat) (ho : o % 8 = 7) : @runFS (sO o 7 ho) hk3 Tryz.prog 100000 3 ⟨.lf, 0, 0⟩ [.sym .u8 0] (fun v _ => isTrue v) = true := by kernel_rfl
end Go.Proofs.YtlfmgfgcaepmjaaGreat
