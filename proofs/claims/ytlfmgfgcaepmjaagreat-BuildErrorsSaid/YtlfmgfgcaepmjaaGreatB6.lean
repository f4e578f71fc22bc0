/- The image is run. -/
import Derived.Test.YtlfmgfgcaepmjaaGreatA6
set_option linter.unusedSimpArgs false
set_option linter.unusedVariables false
set_option linter.unusedSectionVars false
namespace Go.Proofs.YtlfmgfgcaepmjaaGreat
open Go.RowKit Go.Eng
set_option maxRecDepth 100000
theorem run0_run : @Memo.runs s0 hk Tryz.prog 100000 9 run0 = true := by decide +kernel
end Go.Proofs.YtlfmgfgcaepmjaaGreat
