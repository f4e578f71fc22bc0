/- caught runs its function, and turns a panic with a failure into its result: the deferred closure. -/
import Derived.Test.YtlfmgfgcaepmjaaGreatProg
import Derived.Test.YtlfmgfgcaepmjaaGreatA0
import Derived.Tactics
import Derived.Tactics2
import Derived.Defers
import Derived.Recover
import Derived.Laws.Pointers
import Derived.WalkKit
set_option linter.unusedSimpArgs false
set_option linter.unusedVariables false
set_option linter.unusedSectionVars false
set_option linter.unusedSimpArgs false
set_option linter.unusedVariables false
set_option linter.unusedSectionVars false
namespace Go.Proofs.YtlfmgfgcaepmjaaGreat
open Go.RowKit
set_option linter.unusedVariables false
set_option linter.unusedSimpArgs false
abbrev fz : Obj := .cells #[.int .i64 0, .string ⟨#[]⟩] 133
abbrev fv (ka : Int) (s : ByteArray) : Value := .agg #[.int .i64 ka, .string s]
def put2 (w : World) (g : Nat) (ka : Int) (s : ByteArray) : World := (w.setCell ⟨g, 0, none⟩ (.int .i64 ka)).setCell ⟨g, 1, none⟩ (.string s)
theorem catch_idle (p : Addr) (w : World) :
    CallsD Tryz.prog 121 #[.pointer (some p)] .returning w fun e u' w' => e = .returned (.tuple #[]) ∧ u' = .returning ∧ w' = w := by
  refine callsD_of_wpS Tryz.func121 rfl fun c₀ cs hu => ?_
  apply wpS_seq
  apply wpS_region
  simp [wpOpsS, go_sem, recoverD, hu, Tryz.ntmps121, Exit.thenS]
  refine wpS_of_wp (wp_block ?_)
  go_wp2
  cases c₀
  simp_all [bodyPostS, results, Tryz.results121, Exit.thenS, Exit.inBlock]
abbrev fzz (ka : Int) (s : ByteArray) : Obj := .cells #[.int .i64 ka, .string s] 133
set_option maxRecDepth 100000 in
set_option maxHeartbeats 1000000 in
theorem catch_failure (g : Nat) (ka : Int) (s : ByteArray) (older : List PanicEntry) (w : World) (x y : Value) (h0 : w.heap[g]? = some (.cells #[x, y] 133)) :
    CallsD Tryz.prog 121 #[.pointer (some ⟨g, 0, none⟩)] (.panicking ({ v := .iface 133 (fv ka s), recovered := false } :: older)) w fun e u' w' =>
      e = .returned (.tuple #[]) ∧ u' = .panicking ({ v := .iface 133 (fv ka s), recovered := true } :: older) ∧ w' = put2 (w.alloc (fzz ka s)) g ka s := by
  have b1 : ∀ o, (w.alloc o).heap[g]? = some (.cells #[x, y] 133) := fun o => heap_old _ h0
  have c3 : ∀ o, (w.alloc o).cell? ⟨g, 0, none⟩ = some x := fun o => cell_of (b1 o)
  have c4 : ∀ o, (w.alloc o).cell? ⟨g, 1, none⟩ = some y := fun o => cell_of (b1 o)
  have d3 : ∀ o, (w.alloc o).frozen? ⟨g, 0, none⟩ = false := fun o => free_of (b1 o)
  have d4 : ∀ o, (w.alloc o).frozen? ⟨g, 1, none⟩ = false := fun o => free_of (b1 o)
  have hta : ∀ (v : Value) (u : World), (Instr.typeAssert (.iface 133 v) 20 133 true).run Tryz.prog u = .ok (.tuple #[v, .bool true]) u := fun v u => by kernel_rfl
  clear b1
  refine callsD_of_wpS Tryz.func121 rfl fun c₀ cs hu => ?_
  apply wpS_seq
  apply wpS_region
  simp [wpOpsS, go_sem, recoverD, hu, Tryz.ntmps121, Exit.thenS]
  refine wpS_of_wp (wp_block ?_)
  go_wp2
  cases c₀
  simp_all [bodyPostS, results, Tryz.results121, Exit.thenS, Exit.inBlock, put2]
end Go.Proofs.YtlfmgfgcaepmjaaGreat
