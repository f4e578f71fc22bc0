/- A string that is not empty. -/
import Derived.Test.YtjkaoejcdboaiaaGreatS6
import Derived.Test.YtjkaoejcdboaiaaGreatL3
set_option linter.unusedSimpArgs false
set_option linter.unusedVariables false
set_option linter.unusedSectionVars false
/- Does a field fit; the bytes of a field. -/
namespace Go.Proofs.YtjkaoejcdboaiaaGreat
open Go.RowKit Go.Eng
set_option linter.unusedVariables false
set_option linter.unusedSectionVars false
set_option maxRecDepth 100000

theorem reg107 (n : Int) (w : World) : Calls Tryz.prog 107 #[.int .i64 n] w (fun e w' => e = .returned (.bool (decide (0 ≤ n ∧ n < 8))) ∧ w' = w) := by
  by_cases h : 0 ≤ n
  · by_cases h2 : n < 8
    · have e : decide (0 ≤ n ∧ n < 8) = true := by simp; omega
      rw [e]
      go_enter Tryz.func107, Tryz.ntmps107
      go_wp2
      go_ret
      exact ⟨rfl, rfl⟩
    · have e : decide (0 ≤ n ∧ n < 8) = false := by simp; omega
      rw [e]
      go_enter Tryz.func107, Tryz.ntmps107
      go_wp2
      go_ret
      exact ⟨rfl, rfl⟩
  · have e : decide (0 ≤ n ∧ n < 8) = false := by simp; omega
    rw [e]
    go_enter Tryz.func107, Tryz.ntmps107
    go_wp2
    go_ret
    exact ⟨rfl, rfl⟩
set_option maxHeartbeats 2000000 in
theorem fits_0 (w : World) (op d s imm z : Int)  :
    Calls Tryz.prog 89 #[.int .i64 0, insV op d s imm 0 0 z] w (fun e' w' => e' = .returned (.bool true) ∧ Low w.heap.size w w') := by
  have ha := InsAt.new w op d s imm 0 0 z
  have l1 : Low w.heap.size w (w.alloc (insC op d s imm 0 0 z)) := (Low.refl _ _).alloc (Nat.le_refl _) _
  go_enter Tryz.func89, Tryz.ntmps89
  go_upto_region 1 with fail
  obtain ⟨t3, ht3⟩ : ∃ t, t = w.heap.size := ⟨_, rfl⟩
  rw [← ht3] at ha ⊢
  have HT := Lib.hid ht3
  clear ht3
  generalize w.alloc (insC op d s imm 0 0 z) = w1 at l1 ha ⊢
  have L1 := Lib.hid l1
  have HX : Hid (∀ w', Low w1.heap.size w1 w' → InsAt t3 op d s imm 0 0 z w') := Lib.hid (fun w' l => ha.low l)
  obtain ⟨y0, y1, y2, y3, y4, y5, y6⟩ := ha
  go_wp2_with (first
    | (go_at_call 107; refine (reg107 _ _).mono ?_; rintro e u ⟨rfl, hu⟩; rw [hu]; clear hu u))
  go_returns
  exact ⟨rfl, L1.out⟩

set_option maxHeartbeats 2000000 in
theorem fits_1 (w : World) (op d s imm z : Int) (d0 : 0 ≤ d) (d1 : d < 8) (s0 : 0 ≤ s) (s1 : s < 8) :
    Calls Tryz.prog 89 #[.int .i64 1, insV op d s imm 0 0 z] w (fun e' w' => e' = .returned (.bool true) ∧ Low w.heap.size w w') := by
  have hd : decide (0 ≤ d ∧ d < 8) = true := by simp; omega
  have hs : decide (0 ≤ s ∧ s < 8) = true := by simp; omega
  have ha := InsAt.new w op d s imm 0 0 z
  have l1 : Low w.heap.size w (w.alloc (insC op d s imm 0 0 z)) := (Low.refl _ _).alloc (Nat.le_refl _) _
  go_enter Tryz.func89, Tryz.ntmps89
  go_upto_region 1 with fail
  obtain ⟨t3, ht3⟩ : ∃ t, t = w.heap.size := ⟨_, rfl⟩
  rw [← ht3] at ha ⊢
  have HT := Lib.hid ht3
  clear ht3
  generalize w.alloc (insC op d s imm 0 0 z) = w1 at l1 ha ⊢
  have L1 := Lib.hid l1
  have HX : Hid (∀ w', Low w1.heap.size w1 w' → InsAt t3 op d s imm 0 0 z w') := Lib.hid (fun w' l => ha.low l)
  obtain ⟨y0, y1, y2, y3, y4, y5, y6⟩ := ha
  go_wp2_with (first
    | (go_at_call 107; refine (reg107 _ _).mono ?_; rintro e u ⟨rfl, hu⟩; rw [hu]; clear hu u))
  go_returns
  exact ⟨rfl, L1.out⟩

set_option maxHeartbeats 2000000 in
theorem fits_2 (w : World) (op d s imm z : Int) (d0 : 0 ≤ d) (d1 : d < 8) :
    Calls Tryz.prog 89 #[.int .i64 2, insV op d s imm 0 0 z] w (fun e' w' => e' = .returned (.bool true) ∧ Low w.heap.size w w') := by
  have hd : decide (0 ≤ d ∧ d < 8) = true := by simp; omega
  have ha := InsAt.new w op d s imm 0 0 z
  have l1 : Low w.heap.size w (w.alloc (insC op d s imm 0 0 z)) := (Low.refl _ _).alloc (Nat.le_refl _) _
  go_enter Tryz.func89, Tryz.ntmps89
  go_upto_region 1 with fail
  obtain ⟨t3, ht3⟩ : ∃ t, t = w.heap.size := ⟨_, rfl⟩
  rw [← ht3] at ha ⊢
  have HT := Lib.hid ht3
  clear ht3
  generalize w.alloc (insC op d s imm 0 0 z) = w1 at l1 ha ⊢
  have L1 := Lib.hid l1
  have HX : Hid (∀ w', Low w1.heap.size w1 w' → InsAt t3 op d s imm 0 0 z w') := Lib.hid (fun w' l => ha.low l)
  obtain ⟨y0, y1, y2, y3, y4, y5, y6⟩ := ha
  go_wp2_with (first
    | (go_at_call 107; refine (reg107 _ _).mono ?_; rintro e u ⟨rfl, hu⟩; rw [hu]; clear hu u))
  go_returns
  exact ⟨rfl, L1.out⟩

theorem ext_all : ∀ b : Nat, b < 256 → extP b % 256 = b ∧ (extP b < 128 ∨ 65408 ≤ extP b) ∧ 0 ≤ extP b ∧ extP b < 65536 := by decide +kernel
set_option maxHeartbeats 2000000 in
theorem fits_5 (w : World) (op d s z : Int) (b : Nat) (hb0 : b < 256) :
    Calls Tryz.prog 89 #[.int .i64 5, insV op d s (extP b) 0 0 z] w (fun e' w' => e' = .returned (.bool true) ∧ Low w.heap.size w w') := by
  have hb := (ext_all b hb0).1
  have hwb : IntKind.u8.wrap (extP b) = b := (IntKind.wrap_u8' _).trans hb
  have ha := InsAt.new w op d s (extP b) 0 0 z
  have l1 : Low w.heap.size w (w.alloc (insC op d s (extP b) 0 0 z)) := (Low.refl _ _).alloc (Nat.le_refl _) _
  go_enter Tryz.func89, Tryz.ntmps89
  go_upto_region 1 with fail
  obtain ⟨t3, ht3⟩ : ∃ t, t = w.heap.size := ⟨_, rfl⟩
  rw [← ht3] at ha ⊢
  have HT := Lib.hid ht3
  clear ht3
  generalize w.alloc (insC op d s (extP b) 0 0 z) = w1 at l1 ha ⊢
  have L1 := Lib.hid l1
  have HX : Hid (∀ w', Low w1.heap.size w1 w' → InsAt t3 op d s (extP b) 0 0 z w') := Lib.hid (fun w' l => ha.low l)
  obtain ⟨y0, y1, y2, y3, y4, y5, y6⟩ := ha
  clear y0 y1 y2 y3 y4 y5 y6
  go_upto_region 12 with fail
  have ld : Low w1.heap.size w1 w1.drew := (Low.refl _ _).drew
  have hSd := HX.out _ ld
  have HLd := Lib.hid ld
  clear ld
  refine wp_region_noPanic ?_
  refine wp_region_held_drew (S := fun w' => InsAt t3 op d s (extP b) 0 0 z w') (by kernel_rfl) (by exact hSd) (fun hHeld => ?_)
  generalize w1.drew = wd at hHeld hSd HLd ⊢
  refine take_at (i := 0) (v := ?_) rfl (by kernel_rfl) (by kernel_rfl) (by kernel_rfl) (fun _ _ _ h => h) (by rfl) ?_ (by exact hHeld) ?_
  rotate_left
  · intro w' hSw; obtain ⟨y0, y1, y2, y3, y4, y5, y6⟩ := hSw; go_simp; (try with_reducible rfl)
  (try simp only [Act.put, List.setIfInBounds_toArray, List.set_cons_zero, List.set_cons_succ])
  refine take_at (i := 1) (v := ?_) rfl (by kernel_rfl) (by kernel_rfl) (by kernel_rfl) (fun _ _ _ h => h) (by rfl) ?_ (by exact hHeld) ?_
  rotate_left
  · intro w' hSw; obtain ⟨y0, y1, y2, y3, y4, y5, y6⟩ := hSw; go_simp; (try with_reducible rfl)
  (try simp only [Act.put, List.setIfInBounds_toArray, List.set_cons_zero, List.set_cons_succ])
  refine take_at (i := 2) (v := ?_) rfl (by kernel_rfl) (by kernel_rfl) (by kernel_rfl) (fun _ _ _ h => h) (by rfl) ?_ (by exact hHeld) ?_
  rotate_left
  · intro w' hSw; obtain ⟨y0, y1, y2, y3, y4, y5, y6⟩ := hSw; go_simp; (try with_reducible rfl)
  (try simp only [Act.put, List.setIfInBounds_toArray, List.set_cons_zero, List.set_cons_succ])
  refine take_at (i := 4) (v := ?_) rfl (by kernel_rfl) (by kernel_rfl) (by kernel_rfl) (fun _ _ _ h => h) (by rfl) ?_ (by exact hHeld) ?_
  rotate_left
  · intro w' hSw; obtain ⟨y0, y1, y2, y3, y4, y5, y6⟩ := hSw; go_simp; (try with_reducible rfl)
  (try simp only [Act.put, List.setIfInBounds_toArray, List.set_cons_zero, List.set_cons_succ])
  refine take_at (i := 5) (v := ?_) rfl (by kernel_rfl) (by kernel_rfl) (by kernel_rfl) (fun _ _ _ h => h) (by rfl) ?_ (by exact hHeld) ?_
  rotate_left
  · intro w' hSw; obtain ⟨y0, y1, y2, y3, y4, y5, y6⟩ := hSw; go_simp; (try with_reducible rfl)
  (try simp only [Act.put, List.setIfInBounds_toArray, List.set_cons_zero, List.set_cons_succ])
  refine wpAnyH_ready (rs := [3]) (by kernel_rfl) (by simp) ?_
  refine next_at (i := 3) rfl (fun KK hKK => ?_) AllReadyH.nil
  refine step_call rfl 95 #[.int .u8 b] (by go_simp) (fun v w' => v = .int .u16 (extP b) ∧ w' = wd) ((extend_any b wd).mono (by rintro e w' ⟨rfl, he⟩; exact ⟨_, rfl, rfl, he⟩)) ?_
  rintro v w6 ⟨rfl, he⟩
  rw [he]
  clear he w6
  refine hKK.out _ _ (by exact hSd) (fun hHeld => ?_)
  clear hKK KK
  (try simp only [Act.put, List.setIfInBounds_toArray, List.set_cons_zero, List.set_cons_succ])
  refine take_at (i := 6) (v := ?_) rfl (by kernel_rfl) (by kernel_rfl) (by kernel_rfl) (fun _ _ _ h => h) (by rfl) ?_ (by exact hHeld) ?_
  rotate_left
  · intro w' hSw; obtain ⟨y0, y1, y2, y3, y4, y5, y6⟩ := hSw; go_simp; (try with_reducible rfl)
  (try simp only [Act.put, List.setIfInBounds_toArray, List.set_cons_zero, List.set_cons_succ])
  refine take_at (i := 7) (v := ?_) rfl (by kernel_rfl) (by kernel_rfl) (by kernel_rfl) (fun _ _ _ h => h) (by rfl) ?_ (by exact hHeld) ?_
  rotate_left
  · intro w' hSw; obtain ⟨y0, y1, y2, y3, y4, y5, y6⟩ := hSw; go_simp; (try with_reducible rfl)
  (try simp only [Act.put, List.setIfInBounds_toArray, List.set_cons_zero, List.set_cons_succ])
  refine wpAnyH_done (by kernel_rfl) ?_ _
  refine NoPanic.normal ?_
  clear hHeld hSd
  go_wp2_with fail
  go_returns
  exact ⟨rfl, L1.out.trans (HLd.out.mono L1.out.size)⟩
set_option maxHeartbeats 2000000 in
theorem fits_6 (w : World) (op d s imm z : Int)  :
    Calls Tryz.prog 89 #[.int .i64 6, insV op d s imm 0 0 z] w (fun e' w' => e' = .returned (.bool true) ∧ Low w.heap.size w w') := by
  have ha := InsAt.new w op d s imm 0 0 z
  have l1 : Low w.heap.size w (w.alloc (insC op d s imm 0 0 z)) := (Low.refl _ _).alloc (Nat.le_refl _) _
  go_enter Tryz.func89, Tryz.ntmps89
  go_upto_region 1 with fail
  obtain ⟨t3, ht3⟩ : ∃ t, t = w.heap.size := ⟨_, rfl⟩
  rw [← ht3] at ha ⊢
  have HT := Lib.hid ht3
  clear ht3
  generalize w.alloc (insC op d s imm 0 0 z) = w1 at l1 ha ⊢
  have L1 := Lib.hid l1
  have HX : Hid (∀ w', Low w1.heap.size w1 w' → InsAt t3 op d s imm 0 0 z w') := Lib.hid (fun w' l => ha.low l)
  obtain ⟨y0, y1, y2, y3, y4, y5, y6⟩ := ha
  go_wp2_with (first
    | (go_at_call 107; refine (reg107 _ _).mono ?_; rintro e u ⟨rfl, hu⟩; rw [hu]; clear hu u))
  go_returns
  exact ⟨rfl, L1.out⟩

set_option maxHeartbeats 2000000 in
theorem put_1 (w : World) (op d s imm z : Int) (d0 : 0 ≤ d) (d1 : d < 8) (s0 : 0 ≤ s) (s1 : s < 8) :
    Calls Tryz.prog 90 #[.int .i64 1, insV op d s imm 0 0 z] w (fun e' w' => ∃ g, e' = .returned (.slice (some ⟨g, 0, none⟩) 1 1) ∧ w'.heap[g]? = some (.cells (bytesV [16 * d + s]).toArray 5 (0, 0)) ∧ Low w.heap.size w w') := by
  have hm : IntKind.i64.wrap (16 * d) = 16 * d := Go.IntWalk.i64_in _ (by omega)
  have hp : IntKind.i64.wrap (16 * d + s) = 16 * d + s := Go.IntWalk.i64_in _ (by omega)
  have hq : IntKind.u8.wrap (16 * d + s) = 16 * d + s := Go.IntWalk.u8_in _ (by omega)
  have ha := InsAt.new w op d s imm 0 0 z
  have l1 : Low w.heap.size w (w.alloc (insC op d s imm 0 0 z)) := (Low.refl _ _).alloc (Nat.le_refl _) _
  go_enter Tryz.func90, Tryz.ntmps90
  go_upto_region 1 with fail
  obtain ⟨t3, ht3⟩ : ∃ t, t = w.heap.size := ⟨_, rfl⟩
  rw [← ht3] at ha ⊢
  have HT := Lib.hid ht3
  clear ht3
  generalize w.alloc (insC op d s imm 0 0 z) = w1 at l1 ha ⊢
  have L1 := Lib.hid l1
  have HX : Hid (∀ w', Low w1.heap.size w1 w' → InsAt t3 op d s imm 0 0 z w') := Lib.hid (fun w' l => ha.low l)
  obtain ⟨y0, y1, y2, y3, y4, y5, y6⟩ := ha
  have l2 : Low w1.heap.size w1 (w1.alloc (.cells #[.int .u8 (16 * d + s)] 5)) := (Low.refl _ _).alloc (Nat.le_refl _) _
  have a2 := heap_new w1 (.cells #[.int .u8 (16 * d + s)] 5)
  have L2 := Lib.hid (L1.out.trans (l2.mono L1.out.size))
  have A2 := Lib.hid a2
  clear l2 a2
  go_wp2_with fail
  go_returns
  exact ⟨_, rfl, A2.out, L2.out⟩

set_option maxHeartbeats 2000000 in
theorem put_2 (w : World) (op d s imm z : Int) (d0 : 0 ≤ d) (d1 : d < 8) :
    Calls Tryz.prog 90 #[.int .i64 2, insV op d s imm 0 0 z] w (fun e' w' => ∃ g, e' = .returned (.slice (some ⟨g, 0, none⟩) 1 1) ∧ w'.heap[g]? = some (.cells (bytesV [d]).toArray 5 (0, 0)) ∧ Low w.heap.size w w') := by
  have hp : IntKind.u8.wrap d = d := Go.IntWalk.u8_in _ (by omega)
  have ha := InsAt.new w op d s imm 0 0 z
  have l1 : Low w.heap.size w (w.alloc (insC op d s imm 0 0 z)) := (Low.refl _ _).alloc (Nat.le_refl _) _
  go_enter Tryz.func90, Tryz.ntmps90
  go_upto_region 1 with fail
  obtain ⟨t3, ht3⟩ : ∃ t, t = w.heap.size := ⟨_, rfl⟩
  rw [← ht3] at ha ⊢
  have HT := Lib.hid ht3
  clear ht3
  generalize w.alloc (insC op d s imm 0 0 z) = w1 at l1 ha ⊢
  have L1 := Lib.hid l1
  have HX : Hid (∀ w', Low w1.heap.size w1 w' → InsAt t3 op d s imm 0 0 z w') := Lib.hid (fun w' l => ha.low l)
  obtain ⟨y0, y1, y2, y3, y4, y5, y6⟩ := ha
  have l2 : Low w1.heap.size w1 (w1.alloc (.cells #[.int .u8 (d)] 5)) := (Low.refl _ _).alloc (Nat.le_refl _) _
  have a2 := heap_new w1 (.cells #[.int .u8 (d)] 5)
  have L2 := Lib.hid (L1.out.trans (l2.mono L1.out.size))
  have A2 := Lib.hid a2
  clear l2 a2
  go_wp2_with fail
  go_returns
  exact ⟨_, rfl, A2.out, L2.out⟩

set_option maxHeartbeats 2000000 in
theorem put_5 (w : World) (op d s imm z : Int)  :
    Calls Tryz.prog 90 #[.int .i64 5, insV op d s imm 0 0 z] w (fun e' w' => ∃ g, e' = .returned (.slice (some ⟨g, 0, none⟩) 1 1) ∧ w'.heap[g]? = some (.cells (bytesV [imm % 256]).toArray 5 (0, 0)) ∧ Low w.heap.size w w') := by
  have ha := InsAt.new w op d s imm 0 0 z
  have l1 : Low w.heap.size w (w.alloc (insC op d s imm 0 0 z)) := (Low.refl _ _).alloc (Nat.le_refl _) _
  go_enter Tryz.func90, Tryz.ntmps90
  go_upto_region 1 with fail
  obtain ⟨t3, ht3⟩ : ∃ t, t = w.heap.size := ⟨_, rfl⟩
  rw [← ht3] at ha ⊢
  have HT := Lib.hid ht3
  clear ht3
  generalize w.alloc (insC op d s imm 0 0 z) = w1 at l1 ha ⊢
  have L1 := Lib.hid l1
  have HX : Hid (∀ w', Low w1.heap.size w1 w' → InsAt t3 op d s imm 0 0 z w') := Lib.hid (fun w' l => ha.low l)
  obtain ⟨y0, y1, y2, y3, y4, y5, y6⟩ := ha
  have l2 : Low w1.heap.size w1 (w1.alloc (.cells #[.int .u8 (imm % 256)] 5)) := (Low.refl _ _).alloc (Nat.le_refl _) _
  have a2 := heap_new w1 (.cells #[.int .u8 (imm % 256)] 5)
  have L2 := Lib.hid (L1.out.trans (l2.mono L1.out.size))
  have A2 := Lib.hid a2
  clear l2 a2
  go_wp2_with fail
  go_returns
  exact ⟨_, rfl, A2.out, L2.out⟩

set_option maxHeartbeats 2000000 in
theorem put_6 (w : World) (op d s imm z : Int)  :
    Calls Tryz.prog 90 #[.int .i64 6, insV op d s imm 0 0 z] w (fun e' w' => ∃ g, e' = .returned (.slice (some ⟨g, 0, none⟩) 2 2) ∧ w'.heap[g]? = some (.cells (bytesV [imm % 256, imm / 256 % 256]).toArray 5 (0, 0)) ∧ Low w.heap.size w w') := by
  have ha := InsAt.new w op d s imm 0 0 z
  have l1 : Low w.heap.size w (w.alloc (insC op d s imm 0 0 z)) := (Low.refl _ _).alloc (Nat.le_refl _) _
  go_enter Tryz.func90, Tryz.ntmps90
  go_upto_region 1 with fail
  obtain ⟨t3, ht3⟩ : ∃ t, t = w.heap.size := ⟨_, rfl⟩
  rw [← ht3] at ha ⊢
  have HT := Lib.hid ht3
  clear ht3
  generalize w.alloc (insC op d s imm 0 0 z) = w1 at l1 ha ⊢
  have L1 := Lib.hid l1
  have HX : Hid (∀ w', Low w1.heap.size w1 w' → InsAt t3 op d s imm 0 0 z w') := Lib.hid (fun w' l => ha.low l)
  obtain ⟨y0, y1, y2, y3, y4, y5, y6⟩ := ha
  have l2 : Low w1.heap.size w1 (w1.alloc (.cells #[.int .u8 (imm % 256), .int .u8 (imm / 256 % 256)] 5)) := (Low.refl _ _).alloc (Nat.le_refl _) _
  have a2 := heap_new w1 (.cells #[.int .u8 (imm % 256), .int .u8 (imm / 256 % 256)] 5)
  have L2 := Lib.hid (L1.out.trans (l2.mono L1.out.size))
  have A2 := Lib.hid a2
  clear l2 a2
  go_wp2_with fail
  go_returns
  exact ⟨_, rfl, A2.out, L2.out⟩

set_option maxHeartbeats 2000000 in
theorem put_0 (w : World) (op d s imm z : Int) :
    Calls Tryz.prog 90 #[.int .i64 0, insV op d s imm 0 0 z] w (fun e' w' => e' = .returned (.slice none 0 0) ∧ Low w.heap.size w w') := by
  have ha := InsAt.new w op d s imm 0 0 z
  have l1 : Low w.heap.size w (w.alloc (insC op d s imm 0 0 z)) := (Low.refl _ _).alloc (Nat.le_refl _) _
  go_enter Tryz.func90, Tryz.ntmps90
  go_upto_region 1 with fail
  obtain ⟨t3, ht3⟩ : ∃ t, t = w.heap.size := ⟨_, rfl⟩
  rw [← ht3] at ha ⊢
  have HT := Lib.hid ht3
  clear ht3
  generalize w.alloc (insC op d s imm 0 0 z) = w1 at l1 ha ⊢
  have L1 := Lib.hid l1
  have HX : Hid (∀ w', Low w1.heap.size w1 w' → InsAt t3 op d s imm 0 0 z w') := Lib.hid (fun w' l => ha.low l)
  obtain ⟨y0, y1, y2, y3, y4, y5, y6⟩ := ha
  go_wp2_with fail
  go_returns
  exact ⟨rfl, L1.out⟩
end Go.Proofs.YtjkaoejcdboaiaaGreat
/- Rows of bytes, read as strings; formats. -/
namespace Go.Proofs.YtjkaoejcdboaiaaGreat
open Go.RowKit Go.Eng
set_option linter.unusedVariables false
set_option linter.unusedSectionVars false
set_option maxRecDepth 100000

theorem app_nil {w : World} {S : Nat} {A : Option Addr} {n c : Nat} {xs : List Int} (h : BytesO w S A n c xs) : (Builtin.append_ #[124, 124] 124 #[.slice A n c, .slice none 0 0]).run Tryz.prog w = .ok (.slice A n c) w := by
  have h3 : ∀ u, (sizeOf 5).run Tryz.prog u = .ok 1 u := fun u => by kernel_rfl
  rcases h.2.form with ⟨e, rfl⟩ | ⟨g, c', cs, e, h2, h3', h4⟩
  · cases e
    simp [Builtin.append_, Builtin.lenOf, Builtin.firstCells, run_underlying Tryz.underlying124, h3]
  · cases e
    simp [Builtin.append_, Builtin.lenOf, Builtin.firstCells, run_underlying Tryz.underlying124, h3, h4, storeCells]
theorem strB_at {xs : List Int} {k : Nat} (h : k < (strB xs).size) {v : Nat} (hv : xs[k]? = some (v : Int)) (h2 : v < 256) : ((strB xs)[k]'h).toNat = v := by
  have h3 : (strB xs).data.toList[k]? = some (UInt8.ofNat v) := by
    rw [strB_data, List.getElem?_map, hv]; simp
  have h4 : (strB xs)[k]'h = UInt8.ofNat v := by
    have h5 : (strB xs).data[k]? = some (UInt8.ofNat v) := by simpa using h3
    have h6 := (Array.getElem?_eq_some_iff.1 h5).2
    exact h6
  rw [h4]
  simp; omega
theorem fmt_regs : ∀ m : Nat, m < 164 → 32 ≤ m → m ≤ 46 → fmtA m = .tup [.agg [.int .i64 1, .int .i64 0, .int .i64 0, .int .i64 0], .bool true] := by
  intro m h0 h1 h2
  have : ∀ m : Nat, m < 164 → 32 ≤ m → m ≤ 46 → fmtOf m = some [1, 0, 0, 0] := by decide +kernel
  simp [fmtA, this m h0 h1 h2]
theorem fmt_short : ∀ m : Nat, m < 164 → 48 ≤ m → m ≤ 62 → fmtA m = .tup [.agg [.int .i64 2, .int .i64 5, .int .i64 0, .int .i64 0], .bool true] := by
  intro m h0 h1 h2
  have : ∀ m : Nat, m < 164 → 48 ≤ m → m ≤ 62 → fmtOf m = some [2, 5, 0, 0] := by decide +kernel
  simp [fmtA, this m h0 h1 h2]
theorem fmt_long : ∀ m : Nat, m < 164 → 64 ≤ m → m ≤ 78 → fmtA m = .tup [.agg [.int .i64 2, .int .i64 6, .int .i64 0, .int .i64 0], .bool true] := by
  intro m h0 h1 h2
  have : ∀ m : Nat, m < 164 → 64 ≤ m → m ≤ 78 → fmtOf m = some [2, 6, 0, 0] := by decide +kernel
  simp [fmtA, this m h0 h1 h2]
theorem formatOf_low {op : Nat} {a b c d : Int} (hop : op < 256) (h : fmtA op = .tup [.agg [.int .i64 a, .int .i64 b, .int .i64 c, .int .i64 d], .bool true]) (w : World) :
    Calls Tryz.prog 75 #[.int .i64 op] w (fun e w' => e = .returned (.tuple #[.agg #[.int .i64 a, .int .i64 b, .int .i64 c, .int .i64 d], .bool true]) ∧ Low w.heap.size w w') :=
  (formatOf_any hop w).mono fun e w' h2 => ⟨by rw [h2.1, h]; rfl, h2.2.lo⟩
theorem ins_eq (op d s imm aux bank size : Int) (w : World) : (binOp .eql 26 (insV op d s imm aux bank size) (insV op d s imm aux bank size)).run Tryz.prog w = .ok (.bool true) w := by
  simp [go_sem, insV]
end Go.Proofs.YtjkaoejcdboaiaaGreat
namespace Go.Proofs.YtjkaoejcdboaiaaGreat
open Go.RowKit Go.Eng
set_option linter.unusedVariables false
set_option linter.unusedSectionVars false
set_option maxRecDepth 100000

theorem str_ne {s : ByteArray} (h : 0 < s.size) : s.toList.isEmpty = false := by
  rw [Bool.eq_false_iff]
  intro e
  rw [List.isEmpty_iff, ByteArray.toList_eq] at e
  have h2 : s.data.size = 0 := by simpa using congrArg List.length e
  have h3 : s.size = s.data.size := rfl
  omega
end Go.Proofs.YtjkaoejcdboaiaaGreat
