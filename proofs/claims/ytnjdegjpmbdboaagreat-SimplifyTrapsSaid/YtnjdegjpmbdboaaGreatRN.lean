/- ir's checker: the function that halts. -/
import Derived.Test.YtnjdegjpmbdboaaGreatRL
namespace Go.Proofs.YtnjdegjpmbdboaaGreat
open Go.RowKit
set_option linter.unusedVariables false
/-- A block that halts. -/
def HaltAt (w : World) (g : Nat) : Prop := w.heap[g]? = some (.cells #[.slice none 0 0, .slice none 0 0, .int .i64 5, .int .i64 0, .slice none 0 0] 29 (0, 0))
theorem HaltAt.low {w w' : World} {g : Nat} (h : HaltAt w g) (hl : Low w.heap.size w w') : HaltAt w' g := hl.some h
set_option maxRecDepth 100000 in
set_option maxHeartbeats 8000000 in
theorem graph_halt (w : World) (g cg : Nat) (h : HaltAt w g) :
    Calls Tryz.prog 99 #[.agg #[.slice (some ⟨g, 0, none⟩) 1 cg]] w (fun e w' => Low w.heap.size w w' ∧ ∃ r, e = .returned (.agg #[.slice (some ⟨r, 0, none⟩) 1 1]) ∧ w'.heap[r]? = some (.cells #[.slice none 0 0] 22 (0, 0))) := by
  have hms : ∀ u : World, (Instr.makeSlice 138 (.int .i64 1) (.int .i64 1)).run Tryz.prog u = .ok (.slice (some ⟨u.heap.size, 0, none⟩) 1 1) (u.alloc (.cells #[.slice none 0 0] 22)) := fun u => by kernel_rfl
  have H := Lib.hid h
  clear h
  obtain ⟨S, hS⟩ : ∃ S, w.heap.size = S := ⟨_, rfl⟩
  obtain ⟨a1, s1, u1⟩ := alloc_at (.cells #[.slice (some ⟨g, 0, none⟩) 1 cg] 39) hS
  obtain ⟨a2, s2, u2⟩ := alloc_at (.cells #[.slice none 0 0] 140) s1
  have l2 : Low w.heap.size w ((w.alloc (.cells #[.slice (some ⟨g, 0, none⟩) 1 cg] 39)).alloc (.cells #[.slice none 0 0] 140)) := ((Low.refl _ w).alloc (Nat.le_refl _) _).alloc (by omega) _
  have b1 := u2 _ _ a1
  have HS := Lib.hid hS
  clear u1 u2 a1 s1 s2
  go_enter Tryz.func99, Tryz.ntmps99
  go_upto_region 1 with fail
  clear hS
  obtain ⟨t2, ht2⟩ : ∃ t, t = S + 1 := ⟨_, rfl⟩
  have HT2 := Lib.hid ht2
  rw [← ht2] at a2 ⊢
  clear ht2
  generalize (w.alloc (.cells #[.slice (some ⟨g, 0, none⟩) 1 cg] 39)).alloc (.cells #[.slice none 0 0] 140) = w1 at b1 a2 l2 ⊢
  have y1 : w1.cell? ⟨S, 0, none⟩ = some (.slice (some ⟨g, 0, none⟩) 1 cg) := cell_of b1
  obtain ⟨r, hr⟩ : ∃ r, w1.heap.size = r := ⟨_, rfl⟩
  obtain ⟨a3, s3, u3⟩ := alloc_at (.cells #[.slice none 0 0] 22) hr
  obtain ⟨a4, s4, u4⟩ := alloc_at (.cells #[.slice (some ⟨r, 0, none⟩) 1 1] 140) s3
  have l4 : Low w1.heap.size w1 ((w1.alloc (.cells #[.slice none 0 0] 22)).alloc (.cells #[.slice (some ⟨r, 0, none⟩) 1 1] 140)) := ((Low.refl _ w1).alloc (Nat.le_refl _) _).alloc (by omega) _
  have r4 := u4 _ _ a3
  have L4 := Lib.hid (l2.trans (l4.mono l2.size)); have b4 := l4.some b1; have A4 := Lib.hid (l4.some a2); have R4 := Lib.hid r4; have T4 := Lib.hid a4
  clear l2 l4 u3 u4 a3 a4 s3 s4 r4 b1 a2
  go_upto_region 2 with fail
  clear hr y1 hms
  obtain ⟨t3, ht3⟩ : ∃ t, t = r + 1 := ⟨_, rfl⟩
  rw [← ht3] at T4 ⊢
  clear ht3
  generalize (w1.alloc (.cells #[.slice none 0 0] 22)).alloc (.cells #[.slice (some ⟨r, 0, none⟩) 1 1] 140) = w4 at b4 L4 A4 R4 T4 ⊢
  have y1 : w4.cell? ⟨S, 0, none⟩ = some (.slice (some ⟨g, 0, none⟩) 1 cg) := cell_of b4
  clear b4
  go_wp2_with fail
  go_loopw [16] (fun i wr => (i = .int .i64 0 ∧ wr = w4) ∨ (i = .int .i64 1 ∧ Low w4.heap.size w4 wr)) (fun i _ => 1 - (intOf i).toNat)
  case atStart => exact .inl ⟨rfl, rfl⟩
  case round =>
    rcases hrel with ⟨rfl, rfl⟩ | ⟨rfl, hl⟩
    · obtain ⟨w4, rfl⟩ : ∃ u, u = wr := ⟨_, rfl⟩
      have r0 := H.out.low L4.out
      have p0 : w4.cell? ⟨g, 0, none⟩ = some (.slice none 0 0) := cell_of r0
      have p1 : w4.cell? ⟨g, 1, none⟩ = some (.slice none 0 0) := cell_of r0
      have p2 : w4.cell? ⟨g, 2, none⟩ = some (.int .i64 5) := cell_of r0
      have p3 : w4.cell? ⟨g, 3, none⟩ = some (.int .i64 0) := cell_of r0
      have p4 : w4.cell? ⟨g, 4, none⟩ = some (.slice none 0 0) := cell_of r0
      have l5 : Low w4.heap.size w4 (w4.alloc (.cells #[.slice none 0 0, .slice none 0 0, .int .i64 5, .int .i64 0, .slice none 0 0] 29)) := (Low.refl _ _).alloc (Nat.le_refl _) _
      have a5 := heap_new w4 (.cells #[.slice none 0 0, .slice none 0 0, .int .i64 5, .int .i64 0, .slice none 0 0] 29)
      have L5 := Lib.hid l5
      clear r0 l5
      go_upto_region 5 with fail
      clear p0 p1 p2 p3 p4 y1
      generalize w4.heap.size = t5 at a5 ⊢
      generalize w4.alloc (.cells #[.slice none 0 0, .slice none 0 0, .int .i64 5, .int .i64 0, .slice none 0 0] 29) = w5 at a5 L5 ⊢
      have z4 : w5.cell? ⟨t5, 4, none⟩ = some (.slice none 0 0) := cell_of a5
      clear a5
      go_wp2_with fail
      go_loopw [25] (fun i wr => i = .int .i64 0 ∧ wr = w5) (fun _ _ => 0)
      case atStart => exact ⟨rfl, rfl⟩
      case round =>
        obtain ⟨rfl, rfl⟩ := hrel
        go_wp2_with fail
        exact ⟨.inr ⟨rfl, L5.out⟩, by decide⟩
    · obtain ⟨w5, rfl⟩ : ∃ u, u = wr := ⟨_, rfl⟩
      have z3 : w5.cell? ⟨t3, 0, none⟩ = some (.slice (some ⟨r, 0, none⟩) 1 1) := cell_of (hl.some T4.out)
      have hb2 := hl.some A4.out
      have z2 : w5.cell? ⟨t2, 0, none⟩ = some (.slice none 0 0) := cell_of hb2
      have f2 : w5.frozen? ⟨t2, 0, none⟩ = false := free_of hb2
      have HB2 := Lib.hid hb2
      have hr5 := hl.some R4.out
      have hne : r ≠ t2 := by
        rintro rfl
        rw [hr5] at hb2; cases hb2
      have HF := Lib.hid (And.intro (((L4.out.trans (hl.mono L4.out.size)).setCell (i := 0) (g := t2) (by have := HT2.out; have := HS.out; omega) (.slice (some ⟨r, 0, none⟩) 1 1))) ((set_other (i := 0) (v := .slice (some ⟨r, 0, none⟩) 1 1) hne).trans hr5))
      clear hl hb2 hr5 hne
      go_wp2_with fail
      have e2' : (w5.setCell ⟨t2, 0, none⟩ (.slice (some ⟨r, 0, none⟩) 1 1)).cell? ⟨t2, 0, none⟩ = some (.slice (some ⟨r, 0, none⟩) 1 1) := cell_of (set_blk HB2.out)
      exact bodyPost_ret (v := .agg #[.slice (some ⟨r, 0, none⟩) 1 1]) (by simp [results, Tryz.results99, go_sem, e2']; done) rfl ⟨HF.out.1, r, rfl, HF.out.2⟩
set_option maxRecDepth 100000 in
set_option maxHeartbeats 4000000 in
theorem defined_nil (w : World) (c : Value) (b k : Int) : Calls Tryz.prog 102 #[c, .slice none 0 0, .int .i64 b, .int .i64 k] w (fun e w' => e = .returned (.bool true) ∧ w' = w) := by
  go_enter Tryz.func102, Tryz.ntmps102
  go_wp2_with fail
  go_loopw [16] (fun i wr => i = .int .i64 0 ∧ wr = w) (fun _ _ => 0)
  case atStart => exact ⟨rfl, rfl⟩
  case round =>
    obtain ⟨rfl, rfl⟩ := hrel
    go_wp2_with fail
    go_ret
    exact ⟨rfl, rfl⟩
set_option maxRecDepth 100000 in
set_option maxHeartbeats 4000000 in
theorem shapes_halt (w : World) (c g cg : Nat) (hc : w.cell? ⟨c, 6, none⟩ = some (.slice (some ⟨g, 0, none⟩) 1 cg)) (h : HaltAt w g) : Calls Tryz.prog 98 #[.pointer (some ⟨c, 0, none⟩)] w (fun e w' => Low w.heap.size w w' ∧ e = .returned (.bool true)) := by
  have H := Lib.hid h
  clear h
  go_enter Tryz.func98, Tryz.ntmps98
  go_wp2_with fail
  go_loopw [15] (fun i wr => (i = .int .i64 0 ∧ wr = w) ∨ (i = .int .i64 1 ∧ Low w.heap.size w wr)) (fun i _ => 1 - (intOf i).toNat)
  case atStart => exact .inl ⟨rfl, rfl⟩
  case round =>
    rcases hrel with ⟨rfl, rfl⟩ | ⟨rfl, hL⟩
    · obtain ⟨w, rfl⟩ : ∃ u, u = wr := ⟨_, rfl⟩
      have p0 : w.cell? ⟨g, 0, none⟩ = some (.slice none 0 0) := cell_of H.out
      have p1 : w.cell? ⟨g, 1, none⟩ = some (.slice none 0 0) := cell_of H.out
      have p2 : w.cell? ⟨g, 2, none⟩ = some (.int .i64 5) := cell_of H.out
      have p3 : w.cell? ⟨g, 3, none⟩ = some (.int .i64 0) := cell_of H.out
      have p4 : w.cell? ⟨g, 4, none⟩ = some (.slice none 0 0) := cell_of H.out
      have l1 : Low w.heap.size w (w.alloc (.cells #[.slice none 0 0, .slice none 0 0, .int .i64 5, .int .i64 0, .slice none 0 0] 29)) := (Low.refl _ _).alloc (Nat.le_refl _) _
      have a1 := heap_new w (.cells #[.slice none 0 0, .slice none 0 0, .int .i64 5, .int .i64 0, .slice none 0 0] 29)
      have L1 := Lib.hid l1
      clear l1
      go_upto_region 4 with fail
      clear p0 p1 p2 p3 p4 hc
      obtain ⟨t4, ht4⟩ : ∃ t, t = w.heap.size := ⟨_, rfl⟩
      rw [← ht4] at a1 ⊢
      clear ht4
      generalize w.alloc (.cells #[.slice none 0 0, .slice none 0 0, .int .i64 5, .int .i64 0, .slice none 0 0] 29) = w1 at a1 L1 ⊢
      have x0 : w1.cell? ⟨t4, 0, none⟩ = some (.slice none 0 0) := cell_of a1
      have x1 : w1.cell? ⟨t4, 1, none⟩ = some (.slice none 0 0) := cell_of a1
      have x2 : w1.cell? ⟨t4, 2, none⟩ = some (.int .i64 5) := cell_of a1
      have x3 : w1.cell? ⟨t4, 3, none⟩ = some (.int .i64 0) := cell_of a1
      have x4 : w1.cell? ⟨t4, 4, none⟩ = some (.slice none 0 0) := cell_of a1
      have htm := term_any w1 (.pointer (some ⟨c, 0, none⟩)) 5 0 none 0 (.inr ⟨rfl, rfl⟩)
      clear a1
      go_wp2_with fail
      go_loopw [23] (fun i wr => i = .int .i64 0 ∧ wr = w1) (fun _ _ => 0)
      case atStart => exact ⟨rfl, rfl⟩
      case round =>
        obtain ⟨rfl, rfl⟩ := hrel
        obtain ⟨w1, rfl⟩ : ∃ u, u = wr := ⟨_, rfl⟩
        go_wp2_with fail
        go_loopw [36] (fun i wr => i = .int .i64 0 ∧ wr = w1) (fun _ _ => 0)
        case atStart => exact ⟨rfl, rfl⟩
        case round =>
          obtain ⟨rfl, rfl⟩ := hrel
          obtain ⟨w1, rfl⟩ : ∃ u, u = wr := ⟨_, rfl⟩
          go_wp2_with (first
            | (go_at_call 137; with_reducible refine htm.mono ?_; rintro e w6 ⟨l6, rfl⟩; have L6 := Lib.hid (L1.out.trans (Low.mono l6 L1.out.size)); clear l6))
          exact ⟨.inr ⟨rfl, L6.out⟩, by decide⟩
    · have HL := Lib.hid hL
      clear hL
      go_wp2_with fail
      go_ret
      exact ⟨HL.out, rfl⟩
end Go.Proofs.YtnjdegjpmbdboaaGreat
