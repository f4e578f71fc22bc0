/- The flow graph of one block: valid, in order. -/
import Derived.Test.YtnjdegjpmbdboaaGreatRG
namespace Go.Proofs.YtnjdegjpmbdboaaGreat
open Go.RowKit
set_option linter.unusedVariables false
set_option maxRecDepth 100000 in
set_option maxHeartbeats 4000000 in
theorem gvalid_any (w : World) (r : Nat) (hr : w.heap[r]? = some (.cells #[.slice none 0 0] 22 (0, 0))) : Calls Tryz.prog 138 #[.agg #[.slice (some ⟨r, 0, none⟩) 1 1]] w (fun e w' => Low w.heap.size w w' ∧ e = .returned (.bool true)) := by
  have l1 : Low w.heap.size w (w.alloc (.cells #[.slice (some ⟨r, 0, none⟩) 1 1] 140)) := (Low.refl _ w).alloc (Nat.le_refl _) _
  have a1 := heap_new w (.cells #[.slice (some ⟨r, 0, none⟩) 1 1] 140)
  have r1 := l1.some hr
  clear hr
  go_enter Tryz.func138, Tryz.ntmps138
  go_upto_region 1 with fail
  generalize w.heap.size = t1 at a1 ⊢
  generalize w.alloc (.cells #[.slice (some ⟨r, 0, none⟩) 1 1] 140) = w1 at a1 l1 r1 ⊢
  have y1 : w1.cell? ⟨t1, 0, none⟩ = some (.slice (some ⟨r, 0, none⟩) 1 1) := cell_of a1
  have yr : w1.cell? ⟨r, 0, none⟩ = some (.slice none 0 0) := cell_of r1
  have L1 := Lib.hid l1
  clear a1 l1 r1
  go_wp2_with fail
  go_loopw [10] (fun i wr => (i = .int .i64 0 ∨ i = .int .i64 1) ∧ wr = w1) (fun i _ => 1 - (intOf i).toNat)
  case atStart => exact ⟨.inl rfl, rfl⟩
  case round =>
    obtain ⟨rfl | rfl, rfl⟩ := hrel
    · go_wp2_with fail
      obtain ⟨w1, rfl⟩ : ∃ u, u = wr := ⟨_, rfl⟩
      go_loopw [16] (fun i wr => i = .int .i64 0 ∧ wr = w1) (fun _ _ => 0)
      case atStart => exact ⟨rfl, rfl⟩
      case round =>
        obtain ⟨rfl, rfl⟩ := hrel
        go_wp2_with fail
        exact ⟨by simp, by decide⟩
    · go_wp2_with fail
      go_ret
      exact ⟨L1.out, rfl⟩
set_option maxRecDepth 100000 in
set_option maxHeartbeats 4000000 in
theorem reverse_one (w : World) (A : Option Addr) (c : Nat) : Calls Tryz.prog 142 #[.slice A 1 c] w (fun e w' => e = .returned (.tuple #[]) ∧ w' = w) := by
  go_enter Tryz.func142, Tryz.ntmps142
  go_wp2_with fail
  go_loopw [2, 3] (fun i j wr => i = .int .i64 0 ∧ j = .int .i64 0 ∧ wr = w) (fun _ _ _ => 0)
  case atStart => exact ⟨rfl, rfl, rfl⟩
  case round =>
    obtain ⟨rfl, rfl, rfl⟩ := hrel
    go_wp2_with fail
    go_end0
    exact ⟨rfl, rfl⟩
theorem ap172 : ∃ e, Ap Tryz.prog 172 e 2 16 := ⟨_, Tryz.underlying172, by
  obtain ⟨ti, hti, hz, hs, hb⟩ := info_of (show (Tryz.prog.info? 174).map (fun i => (i.zero, i.size, i.bytes)) = some (some (.agg #[.int .i64 0, .int .i64 0]), 2, 16) by kernel_rfl)
  exact ⟨ti, _, hti, hz, hs, hb, rfl⟩, by decide, by decide⟩
set_option maxRecDepth 100000 in
set_option maxHeartbeats 8000000 in
theorem graph_any (w : World) (g cg : Nat) (Pp : Option Addr) (pc : Nat) (A : Option Addr) (n c : Nat) (T : Option Addr) (tc : Nat) (l : List Opn) (h : FnAt w g Pp pc A n c T tc l) :
    Calls Tryz.prog 99 #[.agg #[.slice (some ⟨g, 0, none⟩) 1 cg]] w (fun e w' => Low w.heap.size w w' ∧ ∃ r, e = .returned (.agg #[.slice (some ⟨r, 0, none⟩) 1 1]) ∧ w'.heap[r]? = some (.cells #[.slice none 0 0] 22 (0, 0))) := by
  have hms : ∀ u : World, (Instr.makeSlice 138 (.int .i64 1) (.int .i64 1)).run Tryz.prog u = .ok (.slice (some ⟨u.heap.size, 0, none⟩) 1 1) (u.alloc (.cells #[.slice none 0 0] 22)) := fun u => by kernel_rfl
  have H := Lib.hid h
  clear h
  obtain ⟨S, hS⟩ : ∃ S, w.heap.size = S := ⟨_, rfl⟩
  obtain ⟨a1, s1, u1⟩ := alloc_at (.cells #[.slice (some ⟨g, 0, none⟩) 1 cg] 39) hS
  obtain ⟨a2, s2, u2⟩ := alloc_at (.cells #[.slice none 0 0] 140) s1
  have l2 : Low w.heap.size w ((w.alloc (.cells #[.slice (some ⟨g, 0, none⟩) 1 cg] 39)).alloc (.cells #[.slice none 0 0] 140)) := ((Low.refl _ w).alloc (Nat.le_refl _) _).alloc (by omega) _
  have b1 := u2 _ _ a1
  have HS := Lib.hid hS
  clear u1 u2 a1 s1 s2
  go_enter Tryz.func99, Tryz.ntmps99
  go_upto_region 1 with fail
  clear hS
  obtain ⟨t2, ht2⟩ : ∃ t, t = S + 1 := ⟨_, rfl⟩
  have HT2 := Lib.hid ht2
  rw [← ht2] at a2 ⊢
  clear ht2
  generalize (w.alloc (.cells #[.slice (some ⟨g, 0, none⟩) 1 cg] 39)).alloc (.cells #[.slice none 0 0] 140) = w1 at b1 a2 l2 ⊢
  have y1 : w1.cell? ⟨S, 0, none⟩ = some (.slice (some ⟨g, 0, none⟩) 1 cg) := cell_of b1
  obtain ⟨r, hr⟩ : ∃ r, w1.heap.size = r := ⟨_, rfl⟩
  obtain ⟨a3, s3, u3⟩ := alloc_at (.cells #[.slice none 0 0] 22) hr
  obtain ⟨a4, s4, u4⟩ := alloc_at (.cells #[.slice (some ⟨r, 0, none⟩) 1 1] 140) s3
  have l4 : Low w1.heap.size w1 ((w1.alloc (.cells #[.slice none 0 0] 22)).alloc (.cells #[.slice (some ⟨r, 0, none⟩) 1 1] 140)) := ((Low.refl _ w1).alloc (Nat.le_refl _) _).alloc (by omega) _
  have r4 := u4 _ _ a3
  have L4 := Lib.hid (l2.trans (l4.mono l2.size)); have b4 := l4.some b1; have A4 := Lib.hid (l4.some a2); have R4 := Lib.hid r4; have T4 := Lib.hid a4
  clear l2 l4 u3 u4 a3 a4 s3 s4 r4 b1 a2
  go_upto_region 2 with fail
  clear hr y1 hms
  obtain ⟨t3, ht3⟩ : ∃ t, t = r + 1 := ⟨_, rfl⟩
  rw [← ht3] at T4 ⊢
  clear ht3
  generalize (w1.alloc (.cells #[.slice none 0 0] 22)).alloc (.cells #[.slice (some ⟨r, 0, none⟩) 1 1] 140) = w4 at b4 L4 A4 R4 T4 ⊢
  have y1 : w4.cell? ⟨S, 0, none⟩ = some (.slice (some ⟨g, 0, none⟩) 1 cg) := cell_of b4
  clear b4
  go_wp2_with fail
  go_loopw [16] (fun i wr => (i = .int .i64 0 ∧ wr = w4) ∨ (i = .int .i64 1 ∧ Low w4.heap.size w4 wr)) (fun i _ => 1 - (intOf i).toNat)
  case atStart => exact .inl ⟨rfl, rfl⟩
  case round =>
    rcases hrel with ⟨rfl, rfl⟩ | ⟨rfl, hl⟩
    · obtain ⟨w4, rfl⟩ : ∃ u, u = wr := ⟨_, rfl⟩
      obtain ⟨cs0, r0, r1, r2, r3, r4, r5⟩ := (H.out.low L4.out).row
      have p0 : w4.cell? ⟨g, 0, none⟩ = some (.slice Pp 1 pc) := (cell_of r0).trans r1
      have p1 : w4.cell? ⟨g, 1, none⟩ = some (.slice A n c) := (cell_of r0).trans r2
      have p2 : w4.cell? ⟨g, 2, none⟩ = some (.int .i64 4) := (cell_of r0).trans r3
      have p3 : w4.cell? ⟨g, 3, none⟩ = some (.int .i64 (-1)) := (cell_of r0).trans r4
      have p4 : w4.cell? ⟨g, 4, none⟩ = some (.slice T 0 tc) := (cell_of r0).trans r5
      have l5 : Low w4.heap.size w4 (w4.alloc (.cells #[.slice Pp 1 pc, .slice A n c, .int .i64 4, .int .i64 (-1), .slice T 0 tc] 29)) := (Low.refl _ _).alloc (Nat.le_refl _) _
      have a5 := heap_new w4 (.cells #[.slice Pp 1 pc, .slice A n c, .int .i64 4, .int .i64 (-1), .slice T 0 tc] 29)
      have L5 := Lib.hid l5
      clear r0 r1 r2 r3 r4 r5 l5
      go_upto_region 5 with fail
      clear p0 p1 p2 p3 p4 y1
      generalize w4.heap.size = t5 at a5 ⊢
      generalize w4.alloc (.cells #[.slice Pp 1 pc, .slice A n c, .int .i64 4, .int .i64 (-1), .slice T 0 tc] 29) = w5 at a5 L5 ⊢
      have z4 : w5.cell? ⟨t5, 4, none⟩ = some (.slice T 0 tc) := cell_of a5
      clear a5
      go_wp2_with fail
      go_loopw [25] (fun i wr => i = .int .i64 0 ∧ wr = w5) (fun _ _ => 0)
      case atStart => exact ⟨rfl, rfl⟩
      case round =>
        obtain ⟨rfl, rfl⟩ := hrel
        go_wp2_with fail
        exact ⟨.inr ⟨rfl, L5.out⟩, by decide⟩
    · obtain ⟨w5, rfl⟩ : ∃ u, u = wr := ⟨_, rfl⟩
      have z3 : w5.cell? ⟨t3, 0, none⟩ = some (.slice (some ⟨r, 0, none⟩) 1 1) := cell_of (hl.some T4.out)
      have hb2 := hl.some A4.out
      have z2 : w5.cell? ⟨t2, 0, none⟩ = some (.slice none 0 0) := cell_of hb2
      have f2 : w5.frozen? ⟨t2, 0, none⟩ = false := free_of hb2
      have HB2 := Lib.hid hb2
      have hr5 := hl.some R4.out
      have hne : r ≠ t2 := by
        rintro rfl
        rw [hr5] at hb2; cases hb2
      have HF := Lib.hid (And.intro (((L4.out.trans (hl.mono L4.out.size)).setCell (i := 0) (g := t2) (by have := HT2.out; have := HS.out; omega) (.slice (some ⟨r, 0, none⟩) 1 1))) ((set_other (i := 0) (v := .slice (some ⟨r, 0, none⟩) 1 1) hne).trans hr5))
      clear hl hb2 hr5 hne
      go_wp2_with fail
      have e2' : (w5.setCell ⟨t2, 0, none⟩ (.slice (some ⟨r, 0, none⟩) 1 1)).cell? ⟨t2, 0, none⟩ = some (.slice (some ⟨r, 0, none⟩) 1 1) := cell_of (set_blk HB2.out)
      exact bodyPost_ret (v := .agg #[.slice (some ⟨r, 0, none⟩) 1 1]) (by simp [results, Tryz.results99, go_sem, e2']; done) rfl ⟨HF.out.1, r, rfl, HF.out.2⟩
end Go.Proofs.YtnjdegjpmbdboaaGreat
