/- caught runs its function, and turns a panic with a failure into its result. -/
import Derived.Test.YtlfmgfgcaepmjaaGreatK1
set_option linter.unusedSimpArgs false
set_option linter.unusedVariables false
set_option linter.unusedSectionVars false
set_option linter.unusedSimpArgs false
set_option linter.unusedVariables false
set_option linter.unusedSectionVars false
namespace Go.Proofs.YtlfmgfgcaepmjaaGreat
open Go.RowKit
set_option linter.unusedVariables false
set_option linter.unusedSimpArgs false
set_option maxRecDepth 100000 in
set_option maxHeartbeats 1000000 in
theorem caught_run {g : FuncId} {first cap : Array Value} (hcf : ∀ (args : Array Value) (u : World), (callFunc g args).run Tryz.prog u = .ok (.enter g args) u) (w : World) (R : Ending → World → Prop)
    (h : Calls Tryz.prog g (first ++ cap) (w.alloc fz) (fun e u => ∃ x y, u.heap[w.heap.size]? = some (.cells #[x, y] 133) ∧
      ((∃ v, e = .returned v ∧ R (.returned (fv 0 ⟨#[]⟩)) (put2 u w.heap.size 0 ⟨#[]⟩)) ∨
       (∃ ka s, e = .panicked [{ v := .iface 133 (fv ka s), recovered := false }] ∧ R (.returned (fv ka s)) (put2 (u.alloc (fzz ka s)) w.heap.size ka s))))) :
    Calls Tryz.prog 39 #[.func (.func g) first cap] w R := by
  have hmf : ∀ (fn : Fn) (first cap : Array Value) (w : World), (Instr.makeFunc fn first cap).run Tryz.prog w = .ok (.func fn first cap) w := fun _ _ _ _ => rfl
  obtain ⟨S, hS⟩ : ∃ S, w.heap.size = S := ⟨_, rfl⟩
  rw [hS] at h
  go_enter_defers Tryz.func39, Tryz.ntmps39
  go_wp2
  refine h.mono ?_
  rintro e u ⟨x, y, hh, (⟨v, rfl, hR⟩ | ⟨ka, s, rfl, hR⟩)⟩
  · have c0 : u.cell? ⟨S, 0, none⟩ = some x := cell_of hh
    have c1 : u.cell? ⟨S, 1, none⟩ = some y := cell_of hh
    have d0 : u.frozen? ⟨S, 0, none⟩ = false := free_of hh
    have d1 : u.frozen? ⟨S, 1, none⟩ = false := free_of hh
    have hl := heap_lt hh
    have h3 : (put2 u S 0 ⟨#[]⟩).heap[S]? = some (.cells #[.int .i64 0, .string ⟨#[]⟩] 133) := set_blk (set_blk hh)
    have e0 : (put2 u S 0 ⟨#[]⟩).cell? ⟨S, 0, none⟩ = some (.int .i64 0) := cell_of h3
    have e1 : (put2 u S 0 ⟨#[]⟩).cell? ⟨S, 1, none⟩ = some (.string ⟨#[]⟩) := cell_of h3
    go_wp2
    refine leaves_cons (f := 121) (args := #[.pointer (some ⟨S, 0, none⟩)]) (by simp) (by simp [go_sem]) ?_
    refine (catch_idle ⟨S, 0, none⟩ _).mono ?_
    rintro e u' w'' ⟨rfl, rfl, rfl⟩
    simp only [settle]
    unfold Leaves
    refine ⟨fv 0 ⟨#[]⟩, ?_, hR⟩
    change (results Tryz.f39 _).run Tryz.prog (put2 u S 0 ⟨#[]⟩) = _
    simp [results, Tryz.results39, go_sem, e0, e1]
    rfl
  · have n1 : (u.alloc (fzz ka s)).heap[S]? = some (.cells #[x, y] 133) := heap_old _ hh
    have h3 : (put2 (u.alloc (fzz ka s)) S ka s).heap[S]? = some (.cells #[.int .i64 ka, .string s] 133) := set_blk (set_blk n1)
    have e0 : (put2 (u.alloc (fzz ka s)) S ka s).cell? ⟨S, 0, none⟩ = some (.int .i64 ka) := cell_of h3
    have e1 : (put2 (u.alloc (fzz ka s)) S ka s).cell? ⟨S, 1, none⟩ = some (.string s) := cell_of h3
    dsimp only
    unfold bodyPostD
    refine leaves_cons (f := 121) (args := #[.pointer (some ⟨S, 0, none⟩)]) (by simp) (by simp [go_sem]) ?_
    refine (catch_failure S ka s [] u x y hh).mono ?_
    rintro e u' w'' ⟨rfl, rfl, hw⟩
    rw [← hw] at e0 e1 hR
    clear hw h3 n1
    simp only [settle, List.dropWhile]
    unfold Leaves
    refine ⟨fv ka s, ?_, hR⟩
    simp [results, Tryz.results39, go_sem, e0, e1]
end Go.Proofs.YtlfmgfgcaepmjaaGreat
