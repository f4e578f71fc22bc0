/- The law's own check of itself is true: a closed call, run by the verified interpreter. -/
import Derived.Test.YtnbicnmniodjpaaGreatA1
set_option linter.unusedSimpArgs false
set_option linter.unusedVariables false
set_option linter.unusedSectionVars false
namespace Go.Proofs.YtnbicnmniodjpaaGreat
open Go.RowKit Go.Eng
set_option maxRecDepth 100000
theorem sanity_run : @runF s0 hk2 Tryz.prog 100000 4 [] isTrue = true := by decide +kernel
end Go.Proofs.YtnbicnmniodjpaaGreat
