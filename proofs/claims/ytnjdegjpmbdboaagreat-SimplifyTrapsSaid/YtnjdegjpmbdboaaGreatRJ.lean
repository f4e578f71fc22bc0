/- Repeat of one element, once. -/
import Derived.Test.YtnjdegjpmbdboaaGreatQ5
import Derived.Laws.IdiomCopy
namespace Go.Proofs.YtnjdegjpmbdboaaGreat
open Go.RowKit
set_option linter.unusedVariables false
set_option maxRecDepth 100000 in
set_option maxHeartbeats 4000000 in
theorem mul64_one (w : World) : Calls Tryz.prog 159 #[.int .u64 1, .int .u64 1] w (fun e w' => e = .returned (.tuple #[.int .u64 0, .int .u64 1]) ∧ w' = w) := by
  go_enter Tryz.func159, Tryz.ntmps159
  go_wp2_with fail
  exact bodyPost_ret (v := .tuple #[.int .u64 0, .int .u64 1]) (by simp [results, Tryz.results159, go_sem]; kernel_rfl) rfl ⟨rfl, rfl⟩
set_option maxRecDepth 100000 in
set_option maxHeartbeats 4000000 in
theorem mul_one (w : World) : Calls Tryz.prog 156 #[.int .u64 1, .int .u64 1] w (fun e w' => e = .returned (.tuple #[.int .u64 0, .int .u64 1]) ∧ w' = w) := by
  have hm := mul64_one w
  go_enter Tryz.func156, Tryz.ntmps156
  go_wp2_with (first
    | (go_at_call 159; with_reducible refine hm.mono ?_; rintro e w9 ⟨rfl, rfl⟩))
  exact bodyPost_ret (v := .tuple #[.int .u64 0, .int .u64 1]) (by simp [results, Tryz.results156, go_sem]; done) rfl ⟨rfl, rfl⟩
theorem copy_one (w : World) (g r c c' : Nat) (v u : Value) (ty : TypeId) (hg : w.heap[g]? = some (.cells #[u] 3 (0, 0))) (hr : w.cell? ⟨r, 0, none⟩ = some v) (hv : v.oneCell' = true) :
    (Builtin.copy_ #[22, 22] ty #[.slice (some ⟨g, 0, none⟩) 1 c, .slice (some ⟨r, 0, none⟩) 1 c']).run Tryz.prog w = .ok (.int .i64 1) (w.setCell ⟨g, 0, none⟩ v) := by
  have h := Go.run_copy_cells (P := Tryz.prog) w 22 22 ty 3 g 0 1 c ⟨r, 0, none⟩ 1 c' [v] Tryz.underlying22 (by kernel_rfl) rfl (by
    intro j x hj
    match j with
    | 0 => cases hj; simpa [Addr.add] using hr
    | j + 1 => simp at hj) (by
    intro j hj
    obtain rfl : j = 0 := by simp at hj; omega
    simp [cell_of hg]) (by
    intro j hj
    obtain rfl : j = 0 := by simp at hj; omega
    exact free_of hg) (by simpa using hv)
  exact h
set_option maxRecDepth 100000 in
set_option maxHeartbeats 4000000 in
theorem repeat_one (w : World) (r c : Nat) (z : Int) (hr : w.cell? ⟨r, 0, none⟩ = some (.int .i64 z)) : Calls Tryz.prog 152 #[.slice (some ⟨r, 0, none⟩) 1 c, .int .i64 1] w (fun e w' => Low w.heap.size w w' ∧ ∃ g, w.heap.size ≤ g ∧ e = .returned (.slice (some ⟨g, 0, none⟩) 1 1) ∧ w'.heap[g]? = some (.cells #[.int .i64 z] 3 (0, 0))) := by
  have hms : ∀ u : World, (Instr.makeSlice 22 (.int .i64 1) (.int .i64 1)).run Tryz.prog u = .ok (.slice (some ⟨u.heap.size, 0, none⟩) 1 1) (u.alloc (.cells #[.int .i64 0] 3)) := fun u => by kernel_rfl
  have hm := mul_one w
  have l1 : Low w.heap.size w (w.alloc (.cells #[.int .i64 0] 3)) := (Low.refl _ w).alloc (Nat.le_refl _) _
  have a1 := heap_new w (.cells #[.int .i64 0] 3)
  have r1 : (w.alloc (.cells #[.int .i64 0] 3)).cell? ⟨r, 0, none⟩ = some (.int .i64 z) := (World.cell?_of_block (l1.block _ (cell_lt hr))).trans hr
  have F1 := Lib.hid l1; have A1 := Lib.hid a1; have R1 := Lib.hid r1
  clear l1 a1 r1 hr
  go_enter Tryz.func152, Tryz.ntmps152
  go_upto_region 7 with (first
    | (go_at_call 156; with_reducible refine hm.mono ?_; rintro e w9 ⟨rfl, rfl⟩))
  clear hm hms
  obtain ⟨w, rfl⟩ : ∃ u, u = w9 := ⟨_, rfl⟩
  have HF := Lib.hid (And.intro ((Low.refl w.heap.size w).alloc (Nat.le_refl _) (.cells #[.int .i64 z] 3)) (heap_new w (.cells #[.int .i64 z] 3)))
  have hcp := copy_one (w.alloc (.cells #[.int .i64 0] 3)) w.heap.size r 1 c (.int .i64 z) (.int .i64 0) 3 A1.out R1.out rfl
  go_wp2_with fail
  clear hcp
  obtain ⟨g, hg⟩ : ∃ g, g = w.heap.size := ⟨_, rfl⟩
  have HG := Lib.hid hg
  rw [← hg] at HF ⊢
  clear hg A1 R1 F1
  generalize w.alloc (.cells #[.int .i64 z] 3) = w2 at HF ⊢
  go_loopw [8] (fun i wr => i = .int .i64 1 ∧ wr = w2) (fun _ _ => 0)
  case atStart => exact ⟨rfl, rfl⟩
  case round =>
    obtain ⟨rfl, rfl⟩ := hrel
    go_wp2_with fail
    go_ret
    exact ⟨HG.out ▸ HF.out.1, g, by have := HG.out; omega, rfl, HF.out.2⟩
end Go.Proofs.YtnjdegjpmbdboaaGreat
