/- The law's examples: the call sanity() answers true, whatever the world; by the verified interpreter. -/
import Derived.Test.YtnjdegjpmbdboaaGreatE5
import Derived.Test.YtnjdegjpmbdboaaGreatRows
import Derived.KernelRfl
namespace Go.Proofs.YtnjdegjpmbdboaaGreat
open Go.RowKit
set_option maxRecDepth 100000
theorem follows : Tryz.prog.follows .mixedOrders = true := by kernel_rfl
theorem sanity_run : Go.Eng.runF Tryz.prog 100000 4 [] Go.Eng.isTrue = true := by decide +kernel
theorem sanity_any (w : World) : Calls Tryz.prog 4 #[] w (fun e w' => e = .returned (.bool true) ∧ Grown w w') := Go.Eng.runF_true follows sanity_run w
end Go.Proofs.YtnjdegjpmbdboaaGreat
