/- operators whole: a map in which '+' is known. -/
import Derived.Test.YtlfmgfgcaepmjaaGreatD4
set_option linter.unusedSimpArgs false
set_option linter.unusedVariables false
set_option linter.unusedSectionVars false
set_option linter.unusedSimpArgs false
set_option linter.unusedVariables false
set_option linter.unusedSectionVars false
namespace Go.Proofs.YtlfmgfgcaepmjaaGreat
open Go.RowKit Go.Eng
set_option linter.unusedVariables false
set_option linter.unusedSimpArgs false
set_option maxRecDepth 100000
theorem follows : Tryz.prog.follows .mixedOrders = true := by kernel_rfl
theorem lt5 : (List.range ops5.size).all (fun j => (Eng.preds ops5 j).all fun i => Nat.blt i j) = true := by kernel_rfl
/-- The world ahead of the last region. -/
def ahead (p : Addr) (w : World) : World :=
  (((((w.alloc (.cells #[.pointer (some p)] 144)).alloc (.cells #[.int .i64 16] 3)).alloc (.cells #[.int .i64 13] 3)).alloc (.cells #[.int .i64 8] 3)).alloc (.cells #[(.func (.func 648) #[] #[.pointer (some ⟨w.heap.size, 0, none⟩), .pointer (some ⟨w.heap.size + 1, 0, none⟩)])] 321)).alloc (.cells #[(.func (.func 648) #[] #[.pointer (some ⟨w.heap.size, 0, none⟩), .pointer (some ⟨w.heap.size + 1 + 1 + 1, 0, none⟩)])] 321)
theorem heap_new' {w : World} {o : Obj} {n : Nat} (h : w.heap.size = n) : (w.alloc o).heap[n]? = some o := by subst h; exact heap_new w o
theorem size_alloc {w : World} {o : Obj} {n : Nat} (h : w.heap.size = n) : (w.alloc o).heap.size = n + 1 := by subst h; show (w.heap.push o).size = _; simp
set_option maxHeartbeats 1000000 in
theorem operators_run (p : Addr) (w : World) : Calls Tryz.prog 576 #[.pointer (some p), .bool false] w fun e w' => ∃ m c es clock, e = .returned (.map (some m)) ∧ w.heap.size < m ∧ w.heap.size < c ∧ Low w.heap.size w w' ∧
    w'.heap[w.heap.size]? = some (.cells #[.pointer (some p)] 144) ∧ w'.heap[c]? = some (.cells #[.int .i64 5] 3) ∧ w'.heap[m]? = some (.map es clock) ∧ (∀ e ∈ es.toList, ∃ k, e.key = .string k ∧ (k = ⟨#[43]⟩ → e.val = fnP (.pointer (some ⟨w.heap.size, 0, none⟩)) c)) ∧ ∃ e ∈ es.toList, e.key = .string ⟨#[43]⟩ := by
  have hmf : ∀ (fn : Fn) (first cap : Array Value) (w : World), (Instr.makeFunc fn first cap).run Tryz.prog w = .ok (.func fn first cap) w := fun _ _ _ _ => rfl
  obtain ⟨wa, ha⟩ : ∃ u, ahead p w = u := ⟨_, rfl⟩
  have hA : wa.heap.size = w.heap.size + 6 ∧ Low w.heap.size w wa ∧ wa.heap[w.heap.size]? = some (.cells #[.pointer (some p)] 144) ∧ (∃ v, wa.heap[w.heap.size + 1 + 1 + 1 + 1]? = some (.cells #[v] 321)) ∧ ∃ v, wa.heap[w.heap.size + 1 + 1 + 1 + 1 + 1]? = some (.cells #[v] 321) := by
    subst ha
    unfold ahead
    have s1 := size_alloc (o := .cells #[.pointer (some p)] 144) (rfl : w.heap.size = w.heap.size)
    have s2 := size_alloc (o := .cells #[.int .i64 16] 3) s1
    have s3 := size_alloc (o := .cells #[.int .i64 13] 3) s2
    have s4 := size_alloc (o := .cells #[.int .i64 8] 3) s3
    have s5 := size_alloc (o := .cells #[(.func (.func 648) #[] #[.pointer (some ⟨w.heap.size, 0, none⟩), .pointer (some ⟨w.heap.size + 1, 0, none⟩)])] 321) s4
    have s6 := size_alloc (o := .cells #[(.func (.func 648) #[] #[.pointer (some ⟨w.heap.size, 0, none⟩), .pointer (some ⟨w.heap.size + 1 + 1 + 1, 0, none⟩)])] 321) s5
    have l1 := (Low.refl w.heap.size w).alloc (Nat.le_refl _) (.cells #[.pointer (some p)] 144)
    have l2 := l1.alloc (by rw [s1]; omega) (.cells #[.int .i64 16] 3)
    have l3 := l2.alloc (by rw [s2]; omega) (.cells #[.int .i64 13] 3)
    have l4 := l3.alloc (by rw [s3]; omega) (.cells #[.int .i64 8] 3)
    have l5 := l4.alloc (by rw [s4]; omega) (.cells #[(.func (.func 648) #[] #[.pointer (some ⟨w.heap.size, 0, none⟩), .pointer (some ⟨w.heap.size + 1, 0, none⟩)])] 321)
    have l6 := l5.alloc (by rw [s5]; omega) (.cells #[(.func (.func 648) #[] #[.pointer (some ⟨w.heap.size, 0, none⟩), .pointer (some ⟨w.heap.size + 1 + 1 + 1, 0, none⟩)])] 321)
    exact ⟨s6, l6, heap_old _ (heap_old _ (heap_old _ (heap_old _ (heap_old _ (heap_new w _))))), ⟨_, heap_old _ (heap_new' s4)⟩, ⟨_, heap_new' s5⟩⟩
  have c1 : ((((((w.alloc (.cells #[.pointer (some p)] 144)).alloc (.cells #[.int .i64 16] 3)).alloc (.cells #[.int .i64 13] 3)).alloc (.cells #[.int .i64 8] 3)).alloc (.cells #[.nilFunc] 321)).alloc (.cells #[.nilFunc] 321)).heap[w.heap.size + 1 + 1 + 1 + 1]? = some (.cells #[.nilFunc] 321) := heap_old _ (heap_new' (size_alloc (size_alloc (size_alloc (size_alloc rfl)))))
  have c2 : ((((((w.alloc (.cells #[.pointer (some p)] 144)).alloc (.cells #[.int .i64 16] 3)).alloc (.cells #[.int .i64 13] 3)).alloc (.cells #[.int .i64 8] 3)).alloc (.cells #[(.func (.func 648) #[] #[.pointer (some ⟨w.heap.size, 0, none⟩), .pointer (some ⟨w.heap.size + 1, 0, none⟩)])] 321)).alloc (.cells #[.nilFunc] 321)).heap[w.heap.size + 1 + 1 + 1 + 1 + 1]? = some (.cells #[.nilFunc] 321) := heap_new' (size_alloc (size_alloc (size_alloc (size_alloc (size_alloc rfl)))))
  have d1 : ((((((w.alloc (.cells #[.pointer (some p)] 144)).alloc (.cells #[.int .i64 16] 3)).alloc (.cells #[.int .i64 13] 3)).alloc (.cells #[.int .i64 8] 3)).alloc (.cells #[.nilFunc] 321)).alloc (.cells #[.nilFunc] 321)).cell? ⟨w.heap.size + 1 + 1 + 1 + 1, 0, none⟩ = some .nilFunc := cell_of (j := 0) c1
  have e1 : ((((((w.alloc (.cells #[.pointer (some p)] 144)).alloc (.cells #[.int .i64 16] 3)).alloc (.cells #[.int .i64 13] 3)).alloc (.cells #[.int .i64 8] 3)).alloc (.cells #[.nilFunc] 321)).alloc (.cells #[.nilFunc] 321)).frozen? ⟨w.heap.size + 1 + 1 + 1 + 1, 0, none⟩ = false := free_of (j := 0) c1
  have d2 : ((((((w.alloc (.cells #[.pointer (some p)] 144)).alloc (.cells #[.int .i64 16] 3)).alloc (.cells #[.int .i64 13] 3)).alloc (.cells #[.int .i64 8] 3)).alloc (.cells #[(.func (.func 648) #[] #[.pointer (some ⟨w.heap.size, 0, none⟩), .pointer (some ⟨w.heap.size + 1, 0, none⟩)])] 321)).alloc (.cells #[.nilFunc] 321)).cell? ⟨w.heap.size + 1 + 1 + 1 + 1 + 1, 0, none⟩ = some .nilFunc := cell_of (j := 0) c2
  have e2 : ((((((w.alloc (.cells #[.pointer (some p)] 144)).alloc (.cells #[.int .i64 16] 3)).alloc (.cells #[.int .i64 13] 3)).alloc (.cells #[.int .i64 8] 3)).alloc (.cells #[(.func (.func 648) #[] #[.pointer (some ⟨w.heap.size, 0, none⟩), .pointer (some ⟨w.heap.size + 1, 0, none⟩)])] 321)).alloc (.cells #[.nilFunc] 321)).frozen? ⟨w.heap.size + 1 + 1 + 1 + 1 + 1, 0, none⟩ = false := free_of (j := 0) c2
  have r1 : (store ⟨w.heap.size + 1 + 1 + 1 + 1, 0, none⟩ (.func (.func 648) #[] #[.pointer (some ⟨w.heap.size, 0, none⟩), .pointer (some ⟨w.heap.size + 1, 0, none⟩)])).run Tryz.prog ((((((w.alloc (.cells #[.pointer (some p)] 144)).alloc (.cells #[.int .i64 16] 3)).alloc (.cells #[.int .i64 13] 3)).alloc (.cells #[.int .i64 8] 3)).alloc (.cells #[.nilFunc] 321)).alloc (.cells #[.nilFunc] 321)) = .ok () (((((((w.alloc (.cells #[.pointer (some p)] 144)).alloc (.cells #[.int .i64 16] 3)).alloc (.cells #[.int .i64 13] 3)).alloc (.cells #[.int .i64 8] 3)).alloc (.cells #[.nilFunc] 321)).alloc (.cells #[.nilFunc] 321)).setCell ⟨w.heap.size + 1 + 1 + 1 + 1, 0, none⟩ (.func (.func 648) #[] #[.pointer (some ⟨w.heap.size, 0, none⟩), .pointer (some ⟨w.heap.size + 1, 0, none⟩)])) := by simp [store, Sem.run, d1, e1]
  have r2 : (store ⟨w.heap.size + 1 + 1 + 1 + 1 + 1, 0, none⟩ (.func (.func 648) #[] #[.pointer (some ⟨w.heap.size, 0, none⟩), .pointer (some ⟨w.heap.size + 1 + 1 + 1, 0, none⟩)])).run Tryz.prog ((((((w.alloc (.cells #[.pointer (some p)] 144)).alloc (.cells #[.int .i64 16] 3)).alloc (.cells #[.int .i64 13] 3)).alloc (.cells #[.int .i64 8] 3)).alloc (.cells #[(.func (.func 648) #[] #[.pointer (some ⟨w.heap.size, 0, none⟩), .pointer (some ⟨w.heap.size + 1, 0, none⟩)])] 321)).alloc (.cells #[.nilFunc] 321)) = .ok () (((((((w.alloc (.cells #[.pointer (some p)] 144)).alloc (.cells #[.int .i64 16] 3)).alloc (.cells #[.int .i64 13] 3)).alloc (.cells #[.int .i64 8] 3)).alloc (.cells #[(.func (.func 648) #[] #[.pointer (some ⟨w.heap.size, 0, none⟩), .pointer (some ⟨w.heap.size + 1, 0, none⟩)])] 321)).alloc (.cells #[.nilFunc] 321)).setCell ⟨w.heap.size + 1 + 1 + 1 + 1 + 1, 0, none⟩ (.func (.func 648) #[] #[.pointer (some ⟨w.heap.size, 0, none⟩), .pointer (some ⟨w.heap.size + 1 + 1 + 1, 0, none⟩)])) := by simp [store, Sem.run, d2, e2]
  clear c1 c2 d1 e1 d2 e2
  go_enter Tryz.func576, Tryz.ntmps576
  go_wp2
  obtain ⟨hA1, hA2, hA3, hA4, hA5⟩ := hA
  change Code.wp _ (Code.region 5 ops5 true) _ _ (ahead p w)
  rw [ha]
  refine wp_region_inv (I := InvO wa (.pointer (some ⟨w.heap.size, 0, none⟩)) (w.heap.size + 1 + 1 + 1 + 1) (w.heap.size + 1 + 1 + 1 + 1 + 1)) follows lt5 ?_ (keeps5 hA4 hA5) ?_
  · refine ⟨rfl, rfl, 0, 0, ?_, ⟨rfl, rfl, Nat.le_refl _, fun _ _ => rfl⟩, fun h => h.elim, fun h => h.elim⟩
    intro x hx hr
    simp only [slO, List.mem_cons, List.not_mem_nil, or_false] at hx
    rcases hx with rfl | rfl | rfl | rfl | rfl | rfl | rfl | rfl | rfl | rfl | rfl | rfl | rfl | rfl | rfl | rfl <;> first | exact (hr _ rfl).elim | rfl
  · rintro real a' w' ⟨g1, g2, m, c, g3, g4⟩ hall
    rw [ops5_size] at hall
    have hv : a'.tmps.getD 4 undef = .map (some m) := slot_at g3 (x := (some 42, 4, .map (some m))) (by simp [slO]) (by rintro j ⟨⟩; exact hall 42 (by decide))
    obtain ⟨q1, es, clock, q2, q3, q4⟩ := g4.map (hall 0 (by decide))
    obtain ⟨q5, q6⟩ := g4.code (hall 2 (by decide))
    have hL := g4.low
    go_wp2
    refine ⟨g2, .map (some m), ?_, m, c, es, clock, rfl, by omega, by omega, ?_, ?_, q6, q2, fun e he => ?_, q4 (hall 3 (by decide))⟩
    · have hr : Tryz.f576.results = #[.tmp 4] := Tryz.results576
      have hv' : a'.tmps[4]?.getD undef = .map (some m) := by simpa using hv
      simp [results, hr, go_sem, hv']
    · exact hA2.trans (hL.mono (by omega))
    · exact hL.some hA3
    · obtain ⟨i, k, _, f1, f2, f3⟩ := q3 e he
      refine ⟨k, f2, fun hk => f3 ?_⟩
      have : ((3, ⟨#[43]⟩) : Nat × ByteArray) ∈ keysO := by simp [keysO]
      exact keysO_inj (i, k) f1 _ this hk
end Go.Proofs.YtlfmgfgcaepmjaaGreat
