/- values of a graph of one block: nothing is merged. -/
import Derived.Test.YtnjdegjpmbdboaaGreatQD
namespace Go.Proofs.YtnjdegjpmbdboaaGreat
open Go.RowKit
set_option linter.unusedVariables false
theorem tail_one (r cr : Nat) (hcr : 1 ≤ cr) : ∃ X c', ∀ u, (Instr.slice 75 (.slice (some ⟨r, 0, none⟩) 1 cr) (some (.int .i64 1)) none none).run Tryz.prog u = .ok (.slice X 0 c') u := by
  have hu := Tryz.underlying75
  have h72 : ∀ u, (sizeOf 72).run Tryz.prog u = .ok 1 u := fun u => by kernel_rfl
  by_cases h : cr = 1
  · subst h; exact ⟨some ⟨r, 0, none⟩, 0, fun u => by kernel_rfl⟩
  · refine ⟨some ⟨r, 1, none⟩, cr - 1, fun u => ?_⟩
    simp [Instr.slice, go_sem, run_underlying hu, h72, Addr.add]
    exact h
set_option maxRecDepth 100000 in
set_option maxHeartbeats 8000000 in
theorem values_any (w : World) (r cr b c : Nat) (T : Option Addr) (k : Value) (hr : w.cell? ⟨r, 0, none⟩ = some (.pointer (some ⟨b, 0, none⟩))) (ht : w.cell? ⟨b, 4, none⟩ = some (.slice T 0 c)) (hcr : 1 ≤ cr) :
    Calls Tryz.prog 42 #[.slice (some ⟨r, 0, none⟩) 1 cr, k] w (fun e w' => Low w.heap.size w w' ∧ ∃ m, e = .returned (.tuple #[.map (some m), .int .i64 0, .bool true]) ∧ Empty w' m) := by
  have hmm : ∀ u : World, (Instr.makeMap 53 none).run Tryz.prog u = .ok (.map (some u.heap.size)) (u.alloc (.map #[] 0)) := fun u => by kernel_rfl
  have hl := (Low.refl _ w).alloc (Nat.le_refl _) (.map #[] 0)
  have he : Empty (w.alloc (.map #[] 0)) w.heap.size := ⟨0, heap_new w _⟩
  have hr' := (World.cell?_alloc_lt w (.map #[] 0) _ (cell_lt hr)).trans hr
  have ht' := (World.cell?_alloc_lt w (.map #[] 0) _ (cell_lt ht)).trans ht
  obtain ⟨X, c', hsl⟩ := tail_one r cr hcr
  go_enter Tryz.func42, Tryz.ntmps42
  go_upto_region 2 with fail
  clear hmm hr ht
  obtain ⟨m, hm⟩ : ∃ m, w.heap.size = m := ⟨_, rfl⟩
  rw [hm] at he ⊢
  generalize w.alloc (.map #[] 0) = w1 at hl he hr' ht' ⊢
  go_wp2_with fail
  go_loopw [24] (fun i wr => i = .int .i64 0 ∧ wr = w1) (fun _ _ => 0)
  case atStart => exact ⟨rfl, rfl⟩
  case round =>
    obtain ⟨rfl, rfl⟩ := hrel
    go_wp2_with fail
    obtain ⟨w1, rfl⟩ : ∃ u, u = wr := ⟨_, rfl⟩
    go_loopw [11, 4] (fun b s wr => (b = .bool true ∨ b = .bool false) ∧ s = .map (some m) ∧ wr = w1) (fun b _ _ => again1 b)
    case atStart => exact ⟨.inl rfl, rfl, rfl⟩
    case round =>
      obtain ⟨rfl | rfl, rfl, rfl⟩ := hrel
      · go_wp2_with fail
        obtain ⟨w1, rfl⟩ : ∃ u, u = wr := ⟨_, rfl⟩
        go_loopw [50, 11, 4] (fun i b s wr => b = .bool false ∧ (i = .int .i64 0 ∨ i = .int .i64 1) ∧ s = .map (some m) ∧ wr = w1) (fun i _ _ _ => 1 - (intOf i).toNat)
        case atStart => exact ⟨rfl, .inl rfl, rfl, rfl⟩
        case round =>
          obtain ⟨rfl, rfl | rfl, rfl, rfl⟩ := hrel
          · go_wp2_with fail
            obtain ⟨w1, rfl⟩ : ∃ u, u = wr := ⟨_, rfl⟩
            go_loopw [59, 4, 11] (fun i s b wr => i = .int .i64 0 ∧ s = .map (some m) ∧ b = .bool false ∧ wr = w1) (fun _ _ _ _ => 0)
            case atStart => exact ⟨rfl, rfl, rfl, rfl⟩
            case round =>
              obtain ⟨rfl, rfl, rfl, rfl⟩ := hrel
              go_wp2_with fail
              exact ⟨by simp, by decide⟩
          · go_wp2_with fail
            exact ⟨by simp, by decide⟩
      · go_wp2_with fail
        exact bodyPost_ret (v := .tuple #[.map (some m), .int .i64 0, .bool true]) (by simp [results, Tryz.results42, go_sem]; done) rfl ⟨hl, m, rfl, he⟩
end Go.Proofs.YtnjdegjpmbdboaaGreat
