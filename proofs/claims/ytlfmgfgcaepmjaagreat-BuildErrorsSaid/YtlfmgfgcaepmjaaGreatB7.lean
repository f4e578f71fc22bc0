/- Compile, on both programs. -/
import Derived.Test.YtlfmgfgcaepmjaaGreatA6
set_option linter.unusedSimpArgs false
set_option linter.unusedVariables false
set_option linter.unusedSectionVars false
namespace Go.Proofs.YtlfmgfgcaepmjaaGreat
open Go.RowKit Go.Eng
set_option maxRecDepth 100000
theorem compile0_run : @Memo.runs s0 hk4 Tryz.prog 100000 6 compile0 = true := by decide +kernel
theorem compile1_run : @Memo.runs s0 hk4 Tryz.prog 100000 6 compile1 = true := by decide +kernel
end Go.Proofs.YtlfmgfgcaepmjaaGreat
