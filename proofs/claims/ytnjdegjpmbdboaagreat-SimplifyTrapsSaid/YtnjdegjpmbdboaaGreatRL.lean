/- Dominators of a graph of one node. -/
import Derived.Test.YtnjdegjpmbdboaaGreatRJ
import Derived.Test.YtnjdegjpmbdboaaGreatRK
namespace Go.Proofs.YtnjdegjpmbdboaaGreat
open Go.RowKit
set_option linter.unusedVariables false
theorem tail_int (r cr : Nat) (hcr : 1 ≤ cr) : ∃ X c', ∀ u, (Instr.slice 22 (.slice (some ⟨r, 0, none⟩) 1 cr) (some (.int .i64 1)) none none).run Tryz.prog u = .ok (.slice X 0 c') u := by
  have hu := Tryz.underlying22
  have h72 : ∀ u, (sizeOf 3).run Tryz.prog u = .ok 1 u := fun u => by kernel_rfl
  by_cases h : cr = 1
  · subst h; exact ⟨some ⟨r, 0, none⟩, 0, fun u => by kernel_rfl⟩
  · refine ⟨some ⟨r, 1, none⟩, cr - 1, fun u => ?_⟩
    simp [Instr.slice, go_sem, run_underlying hu, h72, Addr.add]
    exact h
set_option maxRecDepth 100000 in
set_option maxHeartbeats 8000000 in
theorem dominators_one (w : World) (v gp c : Nat) (X Y : Value) (hv : w.heap[v]? = some (.cells #[.slice (some ⟨gp, 0, none⟩) 1 c, X, Y] 189 (0, 0))) (hc : 1 ≤ c) :
    Calls Tryz.prog 140 #[.pointer (some ⟨v, 0, none⟩), .int .i64 1] w (fun e w' => Low w.heap.size w w' ∧ ∃ g, e = .returned (.slice (some ⟨g, 0, none⟩) 1 1) ∧ w.heap.size ≤ g ∧ w'.heap[g]? = some (.cells #[.int .i64 0] 3 (0, 0))) := by
  have hmf : ∀ (fn : Fn) (first cap : Array Value) (w : World), (Instr.makeFunc fn first cap).run Tryz.prog w = .ok (.func fn first cap) w := fun _ _ _ _ => rfl
  have hbs : ∀ u : World, (Instr.buildSlice 22 1 #[(0, .int .i64 (-1))]).run Tryz.prog u = .ok (.slice (some ⟨u.heap.size, 0, none⟩) 1 1) (u.alloc (.cells #[.int .i64 (-1)] 3)) := fun u => by kernel_rfl
  obtain ⟨X1, c1, hsl⟩ := tail_int gp c hc
  obtain ⟨t2, ht2⟩ : ∃ t, w.heap.size = t := ⟨_, rfl⟩
  obtain ⟨a1, s1, u1⟩ := alloc_at (.cells #[.pointer (some ⟨v, 0, none⟩)] 168) ht2
  obtain ⟨a2, s2, u2⟩ := alloc_at (.cells #[.int .i64 (-1)] 3) s1
  have l2 : Low w.heap.size w ((w.alloc (.cells #[.pointer (some ⟨v, 0, none⟩)] 168)).alloc (.cells #[.int .i64 (-1)] 3)) := ((Low.refl _ w).alloc (Nat.le_refl _) _).alloc (by omega) _
  have b1 := u2 _ _ a1
  have v2 := l2.some hv
  have L2 := Lib.hid l2; have B1 := Lib.hid b1; have V2 := Lib.hid v2; have A2 := Lib.hid a2; have T2 := Lib.hid ht2
  have hrep := repeat_one ((w.alloc (.cells #[.pointer (some ⟨v, 0, none⟩)] 168)).alloc (.cells #[.int .i64 (-1)] 3)) (t2 + 1) 1 (-1) (cell_of a2)
  clear a1 s1 u1 a2 s2 u2 l2 b1 v2 hv hc
  go_enter Tryz.func140, Tryz.ntmps140
  go_upto_region 2 with (first
    | (go_at_call 152; with_reducible refine hrep.mono ?_; rintro e w3 ⟨l3, g, hg, rfl, g3⟩; have L3 := Lib.hid l3; have G3 := Lib.hid g3; have HG := Lib.hid hg; clear l3 g3 hg))
  have l23 := L2.out.trans (L3.out.mono L2.out.size)
  obtain ⟨t5, ht5⟩ : ∃ t, w3.heap.size = t := ⟨_, rfl⟩
  obtain ⟨a4, s4, u4⟩ := alloc_at (.cells #[.slice (some ⟨g, 0, none⟩) 1 1] 22) ht5
  have hgt : g < t5 := by have := heap_lt G3.out; omega
  have l4 : Low w.heap.size w (w3.alloc (.cells #[.slice (some ⟨g, 0, none⟩) 1 1] 22)) := l23.alloc (by have := l23.size; omega) _
  have g4 := u4 _ _ G3.out
  have b4 := u4 _ _ (L3.out.some B1.out)
  have v4 := u4 _ _ (L3.out.some V2.out)
  have hwg : w.heap.size ≤ g := Nat.le_trans L2.out.size HG.out
  rw [ht5]
  have HT5 := Lib.hid ht5
  generalize w3.alloc (.cells #[.slice (some ⟨g, 0, none⟩) 1 1] 22) = w4 at a4 l4 g4 b4 v4 ⊢
  have y5 : w4.cell? ⟨t5, 0, none⟩ = some (.slice (some ⟨g, 0, none⟩) 1 1) := cell_of a4
  have yg : w4.cell? ⟨g, 0, none⟩ = some (.int .i64 (-1)) := cell_of g4
  have fg : w4.frozen? ⟨g, 0, none⟩ = false := free_of g4
  have hne : g ≠ t5 := by omega
  have hb5 : t2 ≠ g := by have := T2.out; have := HG.out; have := L2.out.size; have := heap_lt B1.out; omega
  have hv5 : v ≠ g := by have := HG.out; have := heap_lt V2.out; omega
  have l5 : Low w.heap.size w (w4.setCell ⟨g, 0, none⟩ (.int .i64 0)) := l4.setCell hwg _
  have g5 := set_blk (i := 0) (v := .int .i64 0) g4
  have a5 := (set_other (i := 0) (v := .int .i64 0) (Ne.symm hne)).trans a4
  have b5 := (set_other (i := 0) (v := .int .i64 0) hb5).trans b4
  have v5 := (set_other (i := 0) (v := .int .i64 0) hv5).trans v4
  have L5 := Lib.hid l5; have G5 := Lib.hid g5; have A5 := Lib.hid a5; have B5 := Lib.hid b5; have V5 := Lib.hid v5; have HWG := Lib.hid hwg
  clear l23 s4 u4 hgt l4 g4 b4 v4 hne hb5 hv5 l5 g5 a5 b5 v5 ht5 a4 hwg hrep hbs
  go_upto_region 3 with fail
  clear y5 yg fg
  generalize w4.setCell ⟨g, 0, none⟩ (.int .i64 0) = w5 at L5 G5 A5 B5 V5 ⊢
  have l6 : Low w5.heap.size w5 (w5.alloc (.cells #[.func (.func 153) #[] #[.pointer (some ⟨t2, 0, none⟩), .pointer (some ⟨t5, 0, none⟩)]] 30)) := (Low.refl _ _).alloc (Nat.le_refl _) _
  have L6 := Lib.hid (L5.out.trans (l6.mono L5.out.size)); have G6 := Lib.hid (l6.some G5.out); have A6 := Lib.hid (l6.some A5.out); have B6 := Lib.hid (l6.some B5.out); have V6 := Lib.hid (l6.some V5.out)
  clear l6
  go_upto_region 4 with fail
  clear hmf
  generalize w5.alloc (.cells #[.func (.func 153) #[] #[.pointer (some ⟨t2, 0, none⟩), .pointer (some ⟨t5, 0, none⟩)]] 30) = w6 at L6 G6 A6 B6 V6 ⊢
  have y2 : w6.cell? ⟨t2, 0, none⟩ = some (.pointer (some ⟨v, 0, none⟩)) := cell_of B6.out
  have yv : w6.cell? ⟨v, 0, none⟩ = some (.slice (some ⟨gp, 0, none⟩) 1 c) := cell_of V6.out
  have y5 : w6.cell? ⟨t5, 0, none⟩ = some (.slice (some ⟨g, 0, none⟩) 1 1) := cell_of A6.out
  go_wp2_with fail
  go_loopw [7] (fun b wr => (b = .bool true ∨ b = .bool false) ∧ wr = w6) (fun b _ => again1 b)
  case atStart => exact ⟨.inl rfl, rfl⟩
  case round =>
    obtain ⟨rfl | rfl, rfl⟩ := hrel
    · go_wp2_with fail
      obtain ⟨w6, rfl⟩ : ∃ u, u = wr := ⟨_, rfl⟩
      go_loopw [25, 7] (fun i b wr => i = .int .i64 0 ∧ b = .bool false ∧ wr = w6) (fun _ _ _ => 0)
      case atStart => exact ⟨rfl, rfl, rfl⟩
      case round =>
        obtain ⟨rfl, rfl, rfl⟩ := hrel
        go_wp2_with fail
        exact ⟨by simp, by decide⟩
    · go_wp2_with fail
      go_ret
      exact ⟨L6.out, g, rfl, HWG.out, G6.out⟩
set_option maxRecDepth 100000 in
set_option maxHeartbeats 8000000 in
theorem dominators_any (w : World) (r : Nat) (hr : w.heap[r]? = some (.cells #[.slice none 0 0] 22 (0, 0))) : Calls Tryz.prog 100 #[.agg #[.slice (some ⟨r, 0, none⟩) 1 1]] w (fun e w' => Low w.heap.size w w' ∧ ∃ g, e = .returned (.slice (some ⟨g, 0, none⟩) 1 1)) := by
  have l1 : Low w.heap.size w (w.alloc (.cells #[.slice (some ⟨r, 0, none⟩) 1 1] 140)) := (Low.refl _ w).alloc (Nat.le_refl _) _
  have a1 := heap_new w (.cells #[.slice (some ⟨r, 0, none⟩) 1 1] 140)
  have r1 := l1.some hr
  clear hr
  go_enter Tryz.func100, Tryz.ntmps100
  go_upto_region 1 with fail
  obtain ⟨t1, ht1⟩ : ∃ t, t = w.heap.size := ⟨_, rfl⟩
  rw [← ht1] at a1 ⊢
  clear ht1
  generalize w.alloc (.cells #[.slice (some ⟨r, 0, none⟩) 1 1] 140) = w1 at a1 l1 r1 ⊢
  have y1 : w1.cell? ⟨t1, 0, none⟩ = some (.slice (some ⟨r, 0, none⟩) 1 1) := cell_of a1
  have hval := gvalid_any w1 r r1
  have L1 := Lib.hid l1; have A1 := Lib.hid a1; have R1 := Lib.hid r1
  clear a1 l1 r1
  go_upto_region 3 with (first
    | (go_at_call 138; with_reducible refine hval.mono ?_; rintro e w2 ⟨l2, rfl⟩; have L2 := Lib.hid (L1.out.trans (Low.mono l2 L1.out.size)); have A2 := Lib.hid (l2.some A1.out); have R2 := Lib.hid (l2.some R1.out); clear l2))
  have hview : ∀ u, Low w2.heap.size w2 u → Calls Tryz.prog 139 #[.agg #[.slice (some ⟨r, 0, none⟩) 1 1]] u (fun e w' => ∃ x, e = .returned x ∧ (Low u.heap.size u w' ∧ ∃ v gp c X Y, x = .pointer (some ⟨v, 0, none⟩) ∧ w'.heap[v]? = some (.cells #[.slice (some ⟨gp, 0, none⟩) 1 c, X, Y] 189 (0, 0)) ∧ 1 ≤ c)) := fun u hu =>
    (view_any u r (hu.some R2.out)).mono (fun e w' ⟨a, v, gp, c, X, Y, he, h1, h2⟩ => ⟨_, he, a, v, gp, c, X, Y, rfl, h1, h2⟩)
  have HV := Lib.hid hview
  have hS2 : w2.cell? ⟨t1, 0, none⟩ = some (.slice (some ⟨r, 0, none⟩) 1 1) := cell_of A2.out
  clear hview hval y1
  go_cut [3] (fun v3 wx => ∃ g, v3 = .slice (some ⟨g, 0, none⟩) 1 1 ∧ Low w2.heap.size w2 wx ∧ w2.heap.size ≤ g ∧ wx.heap[g]? = some (.cells #[.int .i64 0] 3 (0, 0)))
  case first =>
    refine wp_region_noPanic ?_
    refine wp_region_held_drew (S := fun w' => w'.cell? ⟨t1, 0, none⟩ = some (.slice (some ⟨r, 0, none⟩) 1 1)) (by kernel_rfl) (by exact hS2) (fun hHeld => ?_)
    refine take_at (i := 0) (v := ?_) rfl (by kernel_rfl) (by kernel_rfl) (by kernel_rfl) (fun _ _ _ h => h) (by rfl) ?_ (by assumption) ?_
    rotate_left
    · intro w' hSw; have s0 := hSw; go_simp; (try with_reducible rfl)
    (try simp only [Act.put, List.setIfInBounds_toArray, List.set_cons_zero, List.set_cons_succ])
    refine take_at (i := 2) (v := ?_) rfl (by kernel_rfl) (by kernel_rfl) (by kernel_rfl) (fun _ _ _ h => h) (by rfl) ?_ (by assumption) ?_
    rotate_left
    · intro w' hSw; have s0 := hSw; go_simp; (try with_reducible rfl)
    (try simp only [Act.put, List.setIfInBounds_toArray, List.set_cons_zero, List.set_cons_succ])
    refine take_at (i := 3) (v := ?_) rfl (by kernel_rfl) (by kernel_rfl) (by kernel_rfl) (fun _ _ _ h => h) (by rfl) ?_ (by assumption) ?_
    rotate_left
    · intro w' hSw; have s0 := hSw; go_simp; (try with_reducible rfl)
    (try simp only [Act.put, List.setIfInBounds_toArray, List.set_cons_zero, List.set_cons_succ])
    refine take_at (i := 4) (v := ?_) rfl (by kernel_rfl) (by kernel_rfl) (by kernel_rfl) (fun _ _ _ h => h) (by rfl) ?_ (by assumption) ?_
    rotate_left
    · intro w' hSw; have s0 := hSw; go_simp; (try with_reducible rfl)
    (try simp only [Act.put, List.setIfInBounds_toArray, List.set_cons_zero, List.set_cons_succ])
    refine wpAnyH_ready (rs := [1]) (by kernel_rfl) (by simp) ?_
    refine next_at (i := 1) rfl (fun KK hKK => ?_) AllReadyH.nil
    refine step_call rfl 139 #[.agg #[.slice (some ⟨r, 0, none⟩) 1 1]] (by go_simp) _ (HV.out w2.drew (Low.refl _ w2).drew) ?_
    rintro x w3 ⟨l3, v, gp, c, X, Y, rfl, hv3, hc3⟩
    have l23 : Low w2.heap.size w2 w3 := (Low.refl _ w2).drew.trans l3
    have hS3 := cell_of (j := 0) (l23.some A2.out)
    have hdo : Calls Tryz.prog 140 #[.pointer (some ⟨v, 0, none⟩), .int .i64 1] w3 (fun e w' => ∃ x, e = .returned x ∧ (Low w3.heap.size w3 w' ∧ ∃ g, x = .slice (some ⟨g, 0, none⟩) 1 1 ∧ w3.heap.size ≤ g ∧ w'.heap[g]? = some (.cells #[.int .i64 0] 3 (0, 0)))) :=
      (dominators_one w3 v gp c X Y hv3 hc3).mono (fun e w' ⟨a, g, he, h1, h2⟩ => ⟨_, he, a, g, rfl, h1, h2⟩)
    have L23 := Lib.hid l23; have A3 := Lib.hid (l23.some A2.out)
    clear l3 l23 hv3 hc3
    refine hKK.out _ _ (by exact hS3) (fun hHeld => ?_)
    clear hKK KK
    (try simp only [Act.put, List.setIfInBounds_toArray, List.set_cons_zero, List.set_cons_succ])
    refine wpAnyH_ready (rs := [5]) (by kernel_rfl) (by simp) ?_
    refine next_at (i := 5) rfl (fun KK hKK => ?_) AllReadyH.nil
    refine step_call rfl 140 #[.pointer (some ⟨v, 0, none⟩), .int .i64 1] (by go_simp) _ hdo ?_
    rintro x w4 ⟨l4, g, rfl, hg4, hh4⟩
    have hS4 := cell_of (j := 0) (l4.some A3.out)
    have HF := Lib.hid (And.intro (L23.out.trans (l4.mono L23.out.size)) (And.intro (Nat.le_trans L23.out.size hg4) hh4))
    clear l4 hg4 hh4 hdo
    refine hKK.out _ _ (by exact hS4) (fun hHeld => ?_)
    clear hKK KK
    (try simp only [Act.put, List.setIfInBounds_toArray, List.set_cons_zero, List.set_cons_succ])
    refine take_at (i := 6) (v := ?_) rfl (by kernel_rfl) (by kernel_rfl) (by kernel_rfl) (fun _ _ _ h => h) (by rfl) ?_ (by assumption) ?_
    rotate_left
    · intro w' hSw; have s0 := hSw; go_simp; (try with_reducible rfl)
    (try simp only [Act.put, List.setIfInBounds_toArray, List.set_cons_zero, List.set_cons_succ])
    refine wpAnyH_done (by kernel_rfl) ?_ _
    refine NoPanic.normal ?_
    (try go_wp2_with fail)
    go_meet
    exact ⟨g, rfl, HF.out⟩
  case rest =>
    obtain ⟨g, rfl, l4, hg, h4⟩ := hcut
    obtain ⟨w4, rfl⟩ : ∃ u, u = wc := ⟨_, rfl⟩
    have yg : w4.cell? ⟨g, 0, none⟩ = some (.int .i64 0) := cell_of h4
    have fg : w4.frozen? ⟨g, 0, none⟩ = false := free_of h4
    have HF := Lib.hid ((L2.out.trans (l4.mono L2.out.size)).setCell (g := g) (i := 0) (Nat.le_trans L2.out.size hg) (.int .i64 (-1)))
    clear l4 hg h4
    go_wp2_with fail
    go_ret
    exact ⟨HF.out, _, rfl⟩
end Go.Proofs.YtnjdegjpmbdboaaGreat
