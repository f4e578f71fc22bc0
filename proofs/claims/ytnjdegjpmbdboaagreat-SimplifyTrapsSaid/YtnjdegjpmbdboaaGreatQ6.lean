/- A graph of one block, without constants: find, reads. -/
import Derived.Test.YtnjdegjpmbdboaaGreatQ5
namespace Go.Proofs.YtnjdegjpmbdboaaGreat
open Go.RowKit
set_option linter.unusedVariables false
theorem plain3 : PlainKey Tryz.prog 3 := ⟨_, Tryz.underlying3, trivial⟩
set_option maxRecDepth 100000 in
set_option maxHeartbeats 1000000 in
theorem find_any (w : World) (gr al : Nat) (v : Int) (hc : w.cell? ⟨gr, 2, none⟩ = some (.map (some al))) (he : Empty w al) : Calls Tryz.prog 40 #[.pointer (some ⟨gr, 0, none⟩), .int .i64 v] w (fun e w' => e = .returned (.int .i64 v) ∧ w' = w) := by
  have hl := lookup_empty (P := Tryz.prog) (t := 53) Tryz.underlying53 plain3 he (z := .int .i64 0) (by kernel_rfl) true (.int .i64 v)
  have hl' : (Instr.lookup 53 (.map (some al)) (.int .i64 v) true).run Tryz.prog w = .ok (.tuple #[.int .i64 0, .bool false]) w := hl
  clear hl
  go_enter Tryz.func40, Tryz.ntmps40
  go_wp2_with fail
  go_loopw [1] (fun s wr => s = .int .i64 v ∧ wr = w) (fun _ _ => 0)
  case atStart => exact ⟨rfl, rfl⟩
  case round =>
    obtain ⟨rfl, rfl⟩ := hrel
    go_wp2_with fail
    go_ret
    exact ⟨rfl, rfl⟩
set_option maxRecDepth 100000 in
set_option maxHeartbeats 1000000 in
theorem reads_any (w : World) (tv : Value) : Calls Tryz.prog 36 #[.agg #[.int .i64 4, .int .i64 (-1), tv]] w (fun e w' => e = .returned (.bool false) ∧ Low w.heap.size w w') := by
  go_enter Tryz.func36, Tryz.ntmps36
  go_wp2_with fail
  go_ret
  exact ⟨rfl, (Low.refl _ _).alloc (Nat.le_refl _) _⟩
set_option maxRecDepth 100000 in
set_option maxHeartbeats 1000000 in
theorem blockReads_any (w : World) (b : Nat) (h2 : w.cell? ⟨b, 2, none⟩ = some (.int .i64 4)) (h3 : w.cell? ⟨b, 3, none⟩ = some (.int .i64 (-1))) : Calls Tryz.prog 47 #[.pointer (some ⟨b, 0, none⟩)] w (fun e w' => e = .returned (.bool false) ∧ Low w.heap.size w w') := by
  go_enter Tryz.func47, Tryz.ntmps47
  go_upto_region 1 with fail
  have hr := (reads_any w.drew (.slice none 0 0)).mono (fun e w' h => (⟨_, h.1, rfl, h.2⟩ : ∃ v, e = .returned v ∧ (v = .bool false ∧ Low w.heap.size w.drew w')))
  go_region_law (first
    | (refine step_call rfl 36 #[.agg #[.int .i64 4, .int .i64 (-1), .slice none 0 0]] (by go_simp) _ hr ?_; rintro v w6 ⟨rfl, l6⟩))
  all_goals (try go_wp2_with fail)
  all_goals (go_ret; exact ⟨rfl, (Low.refl _ _).drew.trans l6⟩)
end Go.Proofs.YtnjdegjpmbdboaaGreat
