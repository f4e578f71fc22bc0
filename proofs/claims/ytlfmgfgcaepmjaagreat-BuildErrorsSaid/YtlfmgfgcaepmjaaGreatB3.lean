/- What calls of the law's own check come to: runs. -/
import Derived.Test.YtlfmgfgcaepmjaaGreatA1
set_option linter.unusedSimpArgs false
set_option linter.unusedVariables false
set_option linter.unusedSectionVars false
set_option linter.unusedSimpArgs false
set_option linter.unusedVariables false
set_option linter.unusedSectionVars false
namespace Go.Proofs.YtlfmgfgcaepmjaaGreat
open Go.RowKit Go.Eng
set_option maxRecDepth 100000
theorem parse3_run : @Memo.runs s0 hk Tryz.prog 100000 12 parse3 = true := by decide +kernel
end Go.Proofs.YtlfmgfgcaepmjaaGreat
