/- Rows of bytes: appended to, and as strings. -/
import Derived.Test.YtjkaoejcdboaiaaGreatT0
import Derived.Laws.AppendOwn
import Derived.Laws.BytesString
import Derived.Laws.Cells
set_option linter.unusedSimpArgs false
set_option linter.unusedVariables false
set_option linter.unusedSectionVars false
/- The reference's Valid, of plain instructions. -/
namespace Go.Proofs.YtjkaoejcdboaiaaGreat
open Go.RowKit Go.Eng
set_option linter.unusedVariables false
set_option linter.unusedSectionVars false
set_option maxRecDepth 100000

theorem _root_.Go.Eng.Only.lo {w w' : World} (h : Only w w') : Low w.heap.size w w' := ⟨h.os, h.out, h.size, h.low⟩
theorem kind_low {op : Nat} (hop : op < 164) (w : World) : Calls Tryz.prog 12 #[.int .i64 op] w (fun e w' => e = .returned (.int .i64 (kindP op)) ∧ Low w.heap.size w w') :=
  (kind_any hop w).mono fun _ _ h => ⟨h.1, h.2.lo⟩
theorem rsize_low {op : Nat} (hop : op < 164) (w : World) : Calls Tryz.prog 13 #[.int .u8 op] w (fun e w' => e = .returned (.int .i64 (sizeP op)) ∧ Low w.heap.size w w') :=
  (rsize_any hop w).mono fun _ _ h => ⟨h.1, h.2.lo⟩
/-- An instruction. -/
abbrev insV (op d s imm aux bank size : Int) : Value := .agg #[.int .i64 op, .int .i64 d, .int .i64 s, .int .u16 imm, .int .u16 aux, .int .i64 bank, .int .i64 size]
abbrev insC (op d s imm aux bank size : Int) : Obj := .cells #[.int .i64 op, .int .i64 d, .int .i64 s, .int .u16 imm, .int .u16 aux, .int .i64 bank, .int .i64 size] 26
/-- What a box of an instruction holds. -/
def InsAt (t : Nat) (op d s imm aux bank size : Int) (w : World) : Prop :=
  w.cell? ⟨t, 0, none⟩ = some (.int .i64 op) ∧ w.cell? ⟨t, 1, none⟩ = some (.int .i64 d) ∧ w.cell? ⟨t, 2, none⟩ = some (.int .i64 s) ∧ w.cell? ⟨t, 3, none⟩ = some (.int .u16 imm) ∧ w.cell? ⟨t, 4, none⟩ = some (.int .u16 aux) ∧ w.cell? ⟨t, 5, none⟩ = some (.int .i64 bank) ∧ w.cell? ⟨t, 6, none⟩ = some (.int .i64 size)
theorem Low.cell {w w' : World} (h : Low w.heap.size w w') {a : Addr} {v : Value} (hv : w.cell? a = Option.some v) : w'.cell? a = Option.some v := by
  rw [← hv]
  exact World.cell?_of_block (h.block _ (World.block_lt_of_cell? _ _ hv))
theorem InsAt.low {t : Nat} {op d s imm aux bank size : Int} {w w' : World} (h : InsAt t op d s imm aux bank size w) (l : Low w.heap.size w w') : InsAt t op d s imm aux bank size w' :=
  ⟨l.cell h.1, l.cell h.2.1, l.cell h.2.2.1, l.cell h.2.2.2.1, l.cell h.2.2.2.2.1, l.cell h.2.2.2.2.2.1, l.cell h.2.2.2.2.2.2⟩
theorem InsAt.new (w : World) (op d s imm aux bank size : Int) : InsAt w.heap.size op d s imm aux bank size (w.alloc (insC op d s imm aux bank size)) := by
  have h := heap_new w (insC op d s imm aux bank size)
  exact ⟨cell_of h, cell_of h, cell_of h, cell_of h, cell_of h, cell_of h, cell_of h⟩
theorem kind_regs : ∀ m : Nat, m < 164 → 32 ≤ m → m ≤ 46 → kindP m = 4 ∧ sizeP m = 2 := by decide +kernel
theorem kind_short : ∀ m : Nat, m < 164 → 48 ≤ m → m ≤ 62 → kindP m = 5 ∧ sizeP m = 3 := by decide +kernel
theorem kind_long : ∀ m : Nat, m < 164 → 64 ≤ m → m ≤ 78 → kindP m = 6 ∧ sizeP m = 4 := by decide +kernel
set_option maxHeartbeats 2000000 in
theorem rvalid_regs (op d s : Int) (o0 : 32 ≤ op) (o1 : op ≤ 46) (d0 : 0 ≤ d) (d1 : d < 8) (s0 : 0 ≤ s) (s1 : s < 8) (w : World) :
    Calls Tryz.prog 34 #[insV op d s 0 0 0 2] w (fun e w' => e = .returned (.bool true) ∧ Low w.heap.size w w') := by
  obtain ⟨n, rfl⟩ : ∃ n : Nat, op = n := ⟨op.toNat, by omega⟩
  obtain ⟨hk, hz⟩ := kind_regs n (by omega) (by omega) (by omega)
  have hwr : IntKind.u8.wrap (n : Int) = n := Go.IntWalk.u8_in _ (by omega)
  have hd : decide (0 ≤ d ∧ d < 8) = true := by simp; omega
  have hs : decide (0 ≤ s ∧ s < 8) = true := by simp; omega
  have ha := InsAt.new w n d s 0 0 0 2
  have l1 : Low w.heap.size w (w.alloc (insC n d s 0 0 0 2)) := (Low.refl _ _).alloc (Nat.le_refl _) _
  go_enter Tryz.func34, Tryz.ntmps34
  go_upto_region 1 with fail
  obtain ⟨t1, ht1⟩ : ∃ t, t = w.heap.size := ⟨_, rfl⟩
  rw [← ht1] at ha ⊢
  clear ht1
  generalize w.alloc (insC n d s 0 0 0 2) = w1 at l1 ha ⊢
  have HX : Hid (∀ w', Low w1.heap.size w1 w' → InsAt t1 n d s 0 0 0 2 w') := Lib.hid (fun w' l => ha.low l)
  obtain ⟨y0, y1, y2, y3, y4, y5, y6⟩ := ha
  have hkd := kind_low (op := n) (by omega) w1
  go_upto_region 2 with (first
    | (go_at_call 12; refine hkd.mono ?_; rintro e w2 ⟨rfl, l2⟩))
  clear y0 y1 y2 y3 y4 y5 y6 hkd
  have L1 := Lib.hid l1
  clear l1
  have ld : Low w1.heap.size w1 w2.drew := l2.drew
  have hSd := HX.out _ ld
  have HLd := Lib.hid ld
  clear l2 ld
  refine wp_region_noPanic ?_
  refine wp_region_held_drew (S := fun w' => InsAt t1 n d s 0 0 0 2 w') (by kernel_rfl) (by exact hSd) (fun hHeld => ?_)
  generalize w2.drew = wd at hHeld hSd HLd ⊢
  refine take_at (i := 0) (v := ?_) rfl (by kernel_rfl) (by kernel_rfl) (by kernel_rfl) (fun _ _ _ h => h) (by rfl) ?_ (by exact hHeld) ?_
  rotate_left
  · intro w' hSw; obtain ⟨y0, y1, y2, y3, y4, y5, y6⟩ := hSw; go_simp; (try with_reducible rfl)
  (try simp only [Act.put, List.setIfInBounds_toArray, List.set_cons_zero, List.set_cons_succ])
  refine take_at (i := 1) (v := ?_) rfl (by kernel_rfl) (by kernel_rfl) (by kernel_rfl) (fun _ _ _ h => h) (by rfl) ?_ (by exact hHeld) ?_
  rotate_left
  · intro w' hSw; obtain ⟨y0, y1, y2, y3, y4, y5, y6⟩ := hSw; go_simp; (try with_reducible rfl)
  (try simp only [Act.put, List.setIfInBounds_toArray, List.set_cons_zero, List.set_cons_succ])
  refine take_at (i := 2) (v := ?_) rfl (by kernel_rfl) (by kernel_rfl) (by kernel_rfl) (fun _ _ _ h => h) (by rfl) ?_ (by exact hHeld) ?_
  rotate_left
  · intro w' hSw; obtain ⟨y0, y1, y2, y3, y4, y5, y6⟩ := hSw; go_simp; (try with_reducible rfl)
  (try simp only [Act.put, List.setIfInBounds_toArray, List.set_cons_zero, List.set_cons_succ])
  refine take_at (i := 3) (v := ?_) rfl (by kernel_rfl) (by kernel_rfl) (by kernel_rfl) (fun _ _ _ h => h) (by rfl) ?_ (by exact hHeld) ?_
  rotate_left
  · intro w' hSw; obtain ⟨y0, y1, y2, y3, y4, y5, y6⟩ := hSw; go_simp; (try with_reducible rfl)
  (try simp only [Act.put, List.setIfInBounds_toArray, List.set_cons_zero, List.set_cons_succ])
  refine take_at (i := 4) (v := ?_) rfl (by kernel_rfl) (by kernel_rfl) (by kernel_rfl) (fun _ _ _ h => h) (by rfl) ?_ (by exact hHeld) ?_
  rotate_left
  · intro w' hSw; obtain ⟨y0, y1, y2, y3, y4, y5, y6⟩ := hSw; go_simp; (try with_reducible rfl)
  (try simp only [Act.put, List.setIfInBounds_toArray, List.set_cons_zero, List.set_cons_succ])
  refine take_at (i := 5) (v := ?_) rfl (by kernel_rfl) (by kernel_rfl) (by kernel_rfl) (fun _ _ _ h => h) (by rfl) ?_ (by exact hHeld) ?_
  rotate_left
  · intro w' hSw; obtain ⟨y0, y1, y2, y3, y4, y5, y6⟩ := hSw; go_simp; (try with_reducible rfl)
  (try simp only [Act.put, List.setIfInBounds_toArray, List.set_cons_zero, List.set_cons_succ])
  refine take_at (i := 6) (v := ?_) rfl (by kernel_rfl) (by kernel_rfl) (by kernel_rfl) (fun _ _ _ h => h) (by rfl) ?_ (by exact hHeld) ?_
  rotate_left
  · intro w' hSw; obtain ⟨y0, y1, y2, y3, y4, y5, y6⟩ := hSw; go_simp; (try with_reducible rfl)
  (try simp only [Act.put, List.setIfInBounds_toArray, List.set_cons_zero, List.set_cons_succ])
  refine take_at (i := 7) (v := ?_) rfl (by kernel_rfl) (by kernel_rfl) (by kernel_rfl) (fun _ _ _ h => h) (by rfl) ?_ (by exact hHeld) ?_
  rotate_left
  · intro w' hSw; obtain ⟨y0, y1, y2, y3, y4, y5, y6⟩ := hSw; go_simp; (try with_reducible rfl)
  (try simp only [Act.put, List.setIfInBounds_toArray, List.set_cons_zero, List.set_cons_succ])
  have hsz := rsize_low (op := n) (by omega) wd
  rw [hz] at hsz
  refine wpAnyH_ready (rs := [8]) (by kernel_rfl) (by simp) ?_
  refine next_at (i := 8) rfl (fun KK hKK => ?_) AllReadyH.nil
  refine step_callg (by kernel_rfl) 13 #[.int .u8 n] (by go_simp) (fun v w' => v = .int .i64 2 ∧ Low wd.heap.size wd w') (hsz.mono (by rintro e w' ⟨rfl, he⟩; exact ⟨_, rfl, rfl, he⟩)) ?_
  rintro v w6 ⟨rfl, l6⟩
  have L6 := Lib.hid (HLd.out.trans (l6.mono HLd.out.size))
  clear l6 hsz
  refine hKK.out _ _ (by exact (HX.out _ L6.out)) (fun hHeld => ?_)
  clear hKK KK
  (try simp only [Act.put, List.setIfInBounds_toArray, List.set_cons_zero, List.set_cons_succ])
  refine take_at (i := 9) (v := ?_) rfl (by kernel_rfl) (by kernel_rfl) (by kernel_rfl) (fun _ _ _ h => h) (by rfl) ?_ (by exact hHeld) ?_
  rotate_left
  · intro w' hSw; obtain ⟨y0, y1, y2, y3, y4, y5, y6⟩ := hSw; go_simp; (try with_reducible rfl)
  (try simp only [Act.put, List.setIfInBounds_toArray, List.set_cons_zero, List.set_cons_succ])
  refine take_at (i := 10) (v := ?_) rfl (by kernel_rfl) (by kernel_rfl) (by kernel_rfl) (fun _ _ _ h => h) (by rfl) ?_ (by exact hHeld) ?_
  rotate_left
  · intro w' hSw; obtain ⟨y0, y1, y2, y3, y4, y5, y6⟩ := hSw; go_simp; (try with_reducible rfl)
  (try simp only [Act.put, List.setIfInBounds_toArray, List.set_cons_zero, List.set_cons_succ])
  refine wpAnyH_done (by kernel_rfl) ?_ _
  refine NoPanic.normal ?_
  clear hHeld hSd
  obtain ⟨y0, y1, y2, y3, y4, y5, y6⟩ := HX.out _ L6.out
  go_wp2_with (first
    | (go_at_call 63; refine (reg_any _ _).mono ?_; rintro e u ⟨rfl, hu⟩; rw [hu]; clear hu u)
    | (go_at_call 64; refine (signed_any _ _).mono ?_; rintro e u ⟨rfl, hu⟩; rw [hu]; clear hu u))
  go_ret
  exact ⟨rfl, L1.out.trans (L6.out.mono L1.out.size)⟩

set_option maxHeartbeats 2000000 in
theorem rvalid_short (op d imm : Int) (o0 : 48 ≤ op) (o1 : op ≤ 62) (d0 : 0 ≤ d) (d1 : d < 8) (hi : imm < 128 ∨ 65408 ≤ imm) (w : World) :
    Calls Tryz.prog 34 #[insV op d 0 imm 0 0 3] w (fun e w' => e = .returned (.bool true) ∧ Low w.heap.size w w') := by
  obtain ⟨n, rfl⟩ : ∃ n : Nat, op = n := ⟨op.toNat, by omega⟩
  obtain ⟨hk, hz⟩ := kind_short n (by omega) (by omega) (by omega)
  have hwr : IntKind.u8.wrap (n : Int) = n := Go.IntWalk.u8_in _ (by omega)
  have hd : decide (0 ≤ d ∧ d < 8) = true := by simp; omega
  have hi2 : decide (imm < 128 ∨ 65408 ≤ imm) = true := by simpa using hi
  have ha := InsAt.new w n d 0 imm 0 0 3
  have l1 : Low w.heap.size w (w.alloc (insC n d 0 imm 0 0 3)) := (Low.refl _ _).alloc (Nat.le_refl _) _
  go_enter Tryz.func34, Tryz.ntmps34
  go_upto_region 1 with fail
  obtain ⟨t1, ht1⟩ : ∃ t, t = w.heap.size := ⟨_, rfl⟩
  rw [← ht1] at ha ⊢
  clear ht1
  generalize w.alloc (insC n d 0 imm 0 0 3) = w1 at l1 ha ⊢
  have HX : Hid (∀ w', Low w1.heap.size w1 w' → InsAt t1 n d 0 imm 0 0 3 w') := Lib.hid (fun w' l => ha.low l)
  obtain ⟨y0, y1, y2, y3, y4, y5, y6⟩ := ha
  have hkd := kind_low (op := n) (by omega) w1
  go_upto_region 2 with (first
    | (go_at_call 12; refine hkd.mono ?_; rintro e w2 ⟨rfl, l2⟩))
  clear y0 y1 y2 y3 y4 y5 y6 hkd
  have L1 := Lib.hid l1
  clear l1
  have ld : Low w1.heap.size w1 w2.drew := l2.drew
  have hSd := HX.out _ ld
  have HLd := Lib.hid ld
  clear l2 ld
  refine wp_region_noPanic ?_
  refine wp_region_held_drew (S := fun w' => InsAt t1 n d 0 imm 0 0 3 w') (by kernel_rfl) (by exact hSd) (fun hHeld => ?_)
  generalize w2.drew = wd at hHeld hSd HLd ⊢
  refine take_at (i := 0) (v := ?_) rfl (by kernel_rfl) (by kernel_rfl) (by kernel_rfl) (fun _ _ _ h => h) (by rfl) ?_ (by exact hHeld) ?_
  rotate_left
  · intro w' hSw; obtain ⟨y0, y1, y2, y3, y4, y5, y6⟩ := hSw; go_simp; (try with_reducible rfl)
  (try simp only [Act.put, List.setIfInBounds_toArray, List.set_cons_zero, List.set_cons_succ])
  refine take_at (i := 1) (v := ?_) rfl (by kernel_rfl) (by kernel_rfl) (by kernel_rfl) (fun _ _ _ h => h) (by rfl) ?_ (by exact hHeld) ?_
  rotate_left
  · intro w' hSw; obtain ⟨y0, y1, y2, y3, y4, y5, y6⟩ := hSw; go_simp; (try with_reducible rfl)
  (try simp only [Act.put, List.setIfInBounds_toArray, List.set_cons_zero, List.set_cons_succ])
  refine take_at (i := 2) (v := ?_) rfl (by kernel_rfl) (by kernel_rfl) (by kernel_rfl) (fun _ _ _ h => h) (by rfl) ?_ (by exact hHeld) ?_
  rotate_left
  · intro w' hSw; obtain ⟨y0, y1, y2, y3, y4, y5, y6⟩ := hSw; go_simp; (try with_reducible rfl)
  (try simp only [Act.put, List.setIfInBounds_toArray, List.set_cons_zero, List.set_cons_succ])
  refine take_at (i := 3) (v := ?_) rfl (by kernel_rfl) (by kernel_rfl) (by kernel_rfl) (fun _ _ _ h => h) (by rfl) ?_ (by exact hHeld) ?_
  rotate_left
  · intro w' hSw; obtain ⟨y0, y1, y2, y3, y4, y5, y6⟩ := hSw; go_simp; (try with_reducible rfl)
  (try simp only [Act.put, List.setIfInBounds_toArray, List.set_cons_zero, List.set_cons_succ])
  refine take_at (i := 4) (v := ?_) rfl (by kernel_rfl) (by kernel_rfl) (by kernel_rfl) (fun _ _ _ h => h) (by rfl) ?_ (by exact hHeld) ?_
  rotate_left
  · intro w' hSw; obtain ⟨y0, y1, y2, y3, y4, y5, y6⟩ := hSw; go_simp; (try with_reducible rfl)
  (try simp only [Act.put, List.setIfInBounds_toArray, List.set_cons_zero, List.set_cons_succ])
  refine take_at (i := 5) (v := ?_) rfl (by kernel_rfl) (by kernel_rfl) (by kernel_rfl) (fun _ _ _ h => h) (by rfl) ?_ (by exact hHeld) ?_
  rotate_left
  · intro w' hSw; obtain ⟨y0, y1, y2, y3, y4, y5, y6⟩ := hSw; go_simp; (try with_reducible rfl)
  (try simp only [Act.put, List.setIfInBounds_toArray, List.set_cons_zero, List.set_cons_succ])
  refine take_at (i := 6) (v := ?_) rfl (by kernel_rfl) (by kernel_rfl) (by kernel_rfl) (fun _ _ _ h => h) (by rfl) ?_ (by exact hHeld) ?_
  rotate_left
  · intro w' hSw; obtain ⟨y0, y1, y2, y3, y4, y5, y6⟩ := hSw; go_simp; (try with_reducible rfl)
  (try simp only [Act.put, List.setIfInBounds_toArray, List.set_cons_zero, List.set_cons_succ])
  refine take_at (i := 7) (v := ?_) rfl (by kernel_rfl) (by kernel_rfl) (by kernel_rfl) (fun _ _ _ h => h) (by rfl) ?_ (by exact hHeld) ?_
  rotate_left
  · intro w' hSw; obtain ⟨y0, y1, y2, y3, y4, y5, y6⟩ := hSw; go_simp; (try with_reducible rfl)
  (try simp only [Act.put, List.setIfInBounds_toArray, List.set_cons_zero, List.set_cons_succ])
  have hsz := rsize_low (op := n) (by omega) wd
  rw [hz] at hsz
  refine wpAnyH_ready (rs := [8]) (by kernel_rfl) (by simp) ?_
  refine next_at (i := 8) rfl (fun KK hKK => ?_) AllReadyH.nil
  refine step_callg (by kernel_rfl) 13 #[.int .u8 n] (by go_simp) (fun v w' => v = .int .i64 3 ∧ Low wd.heap.size wd w') (hsz.mono (by rintro e w' ⟨rfl, he⟩; exact ⟨_, rfl, rfl, he⟩)) ?_
  rintro v w6 ⟨rfl, l6⟩
  have L6 := Lib.hid (HLd.out.trans (l6.mono HLd.out.size))
  clear l6 hsz
  refine hKK.out _ _ (by exact (HX.out _ L6.out)) (fun hHeld => ?_)
  clear hKK KK
  (try simp only [Act.put, List.setIfInBounds_toArray, List.set_cons_zero, List.set_cons_succ])
  refine take_at (i := 9) (v := ?_) rfl (by kernel_rfl) (by kernel_rfl) (by kernel_rfl) (fun _ _ _ h => h) (by rfl) ?_ (by exact hHeld) ?_
  rotate_left
  · intro w' hSw; obtain ⟨y0, y1, y2, y3, y4, y5, y6⟩ := hSw; go_simp; (try with_reducible rfl)
  (try simp only [Act.put, List.setIfInBounds_toArray, List.set_cons_zero, List.set_cons_succ])
  refine take_at (i := 10) (v := ?_) rfl (by kernel_rfl) (by kernel_rfl) (by kernel_rfl) (fun _ _ _ h => h) (by rfl) ?_ (by exact hHeld) ?_
  rotate_left
  · intro w' hSw; obtain ⟨y0, y1, y2, y3, y4, y5, y6⟩ := hSw; go_simp; (try with_reducible rfl)
  (try simp only [Act.put, List.setIfInBounds_toArray, List.set_cons_zero, List.set_cons_succ])
  refine wpAnyH_done (by kernel_rfl) ?_ _
  refine NoPanic.normal ?_
  clear hHeld hSd
  obtain ⟨y0, y1, y2, y3, y4, y5, y6⟩ := HX.out _ L6.out
  go_wp2_with (first
    | (go_at_call 63; refine (reg_any _ _).mono ?_; rintro e u ⟨rfl, hu⟩; rw [hu]; clear hu u)
    | (go_at_call 64; refine (signed_any _ _).mono ?_; rintro e u ⟨rfl, hu⟩; rw [hu]; clear hu u))
  go_ret
  exact ⟨rfl, L1.out.trans (L6.out.mono L1.out.size)⟩

set_option maxHeartbeats 2000000 in
theorem rvalid_long (op d imm : Int) (o0 : 64 ≤ op) (o1 : op ≤ 78) (d0 : 0 ≤ d) (d1 : d < 8) (w : World) :
    Calls Tryz.prog 34 #[insV op d 0 imm 0 0 4] w (fun e w' => e = .returned (.bool true) ∧ Low w.heap.size w w') := by
  obtain ⟨n, rfl⟩ : ∃ n : Nat, op = n := ⟨op.toNat, by omega⟩
  obtain ⟨hk, hz⟩ := kind_long n (by omega) (by omega) (by omega)
  have hwr : IntKind.u8.wrap (n : Int) = n := Go.IntWalk.u8_in _ (by omega)
  have hd : decide (0 ≤ d ∧ d < 8) = true := by simp; omega
  have ha := InsAt.new w n d 0 imm 0 0 4
  have l1 : Low w.heap.size w (w.alloc (insC n d 0 imm 0 0 4)) := (Low.refl _ _).alloc (Nat.le_refl _) _
  go_enter Tryz.func34, Tryz.ntmps34
  go_upto_region 1 with fail
  obtain ⟨t1, ht1⟩ : ∃ t, t = w.heap.size := ⟨_, rfl⟩
  rw [← ht1] at ha ⊢
  clear ht1
  generalize w.alloc (insC n d 0 imm 0 0 4) = w1 at l1 ha ⊢
  have HX : Hid (∀ w', Low w1.heap.size w1 w' → InsAt t1 n d 0 imm 0 0 4 w') := Lib.hid (fun w' l => ha.low l)
  obtain ⟨y0, y1, y2, y3, y4, y5, y6⟩ := ha
  have hkd := kind_low (op := n) (by omega) w1
  go_upto_region 2 with (first
    | (go_at_call 12; refine hkd.mono ?_; rintro e w2 ⟨rfl, l2⟩))
  clear y0 y1 y2 y3 y4 y5 y6 hkd
  have L1 := Lib.hid l1
  clear l1
  have ld : Low w1.heap.size w1 w2.drew := l2.drew
  have hSd := HX.out _ ld
  have HLd := Lib.hid ld
  clear l2 ld
  refine wp_region_noPanic ?_
  refine wp_region_held_drew (S := fun w' => InsAt t1 n d 0 imm 0 0 4 w') (by kernel_rfl) (by exact hSd) (fun hHeld => ?_)
  generalize w2.drew = wd at hHeld hSd HLd ⊢
  refine take_at (i := 0) (v := ?_) rfl (by kernel_rfl) (by kernel_rfl) (by kernel_rfl) (fun _ _ _ h => h) (by rfl) ?_ (by exact hHeld) ?_
  rotate_left
  · intro w' hSw; obtain ⟨y0, y1, y2, y3, y4, y5, y6⟩ := hSw; go_simp; (try with_reducible rfl)
  (try simp only [Act.put, List.setIfInBounds_toArray, List.set_cons_zero, List.set_cons_succ])
  refine take_at (i := 1) (v := ?_) rfl (by kernel_rfl) (by kernel_rfl) (by kernel_rfl) (fun _ _ _ h => h) (by rfl) ?_ (by exact hHeld) ?_
  rotate_left
  · intro w' hSw; obtain ⟨y0, y1, y2, y3, y4, y5, y6⟩ := hSw; go_simp; (try with_reducible rfl)
  (try simp only [Act.put, List.setIfInBounds_toArray, List.set_cons_zero, List.set_cons_succ])
  refine take_at (i := 2) (v := ?_) rfl (by kernel_rfl) (by kernel_rfl) (by kernel_rfl) (fun _ _ _ h => h) (by rfl) ?_ (by exact hHeld) ?_
  rotate_left
  · intro w' hSw; obtain ⟨y0, y1, y2, y3, y4, y5, y6⟩ := hSw; go_simp; (try with_reducible rfl)
  (try simp only [Act.put, List.setIfInBounds_toArray, List.set_cons_zero, List.set_cons_succ])
  refine take_at (i := 3) (v := ?_) rfl (by kernel_rfl) (by kernel_rfl) (by kernel_rfl) (fun _ _ _ h => h) (by rfl) ?_ (by exact hHeld) ?_
  rotate_left
  · intro w' hSw; obtain ⟨y0, y1, y2, y3, y4, y5, y6⟩ := hSw; go_simp; (try with_reducible rfl)
  (try simp only [Act.put, List.setIfInBounds_toArray, List.set_cons_zero, List.set_cons_succ])
  refine take_at (i := 4) (v := ?_) rfl (by kernel_rfl) (by kernel_rfl) (by kernel_rfl) (fun _ _ _ h => h) (by rfl) ?_ (by exact hHeld) ?_
  rotate_left
  · intro w' hSw; obtain ⟨y0, y1, y2, y3, y4, y5, y6⟩ := hSw; go_simp; (try with_reducible rfl)
  (try simp only [Act.put, List.setIfInBounds_toArray, List.set_cons_zero, List.set_cons_succ])
  refine take_at (i := 5) (v := ?_) rfl (by kernel_rfl) (by kernel_rfl) (by kernel_rfl) (fun _ _ _ h => h) (by rfl) ?_ (by exact hHeld) ?_
  rotate_left
  · intro w' hSw; obtain ⟨y0, y1, y2, y3, y4, y5, y6⟩ := hSw; go_simp; (try with_reducible rfl)
  (try simp only [Act.put, List.setIfInBounds_toArray, List.set_cons_zero, List.set_cons_succ])
  refine take_at (i := 6) (v := ?_) rfl (by kernel_rfl) (by kernel_rfl) (by kernel_rfl) (fun _ _ _ h => h) (by rfl) ?_ (by exact hHeld) ?_
  rotate_left
  · intro w' hSw; obtain ⟨y0, y1, y2, y3, y4, y5, y6⟩ := hSw; go_simp; (try with_reducible rfl)
  (try simp only [Act.put, List.setIfInBounds_toArray, List.set_cons_zero, List.set_cons_succ])
  refine take_at (i := 7) (v := ?_) rfl (by kernel_rfl) (by kernel_rfl) (by kernel_rfl) (fun _ _ _ h => h) (by rfl) ?_ (by exact hHeld) ?_
  rotate_left
  · intro w' hSw; obtain ⟨y0, y1, y2, y3, y4, y5, y6⟩ := hSw; go_simp; (try with_reducible rfl)
  (try simp only [Act.put, List.setIfInBounds_toArray, List.set_cons_zero, List.set_cons_succ])
  have hsz := rsize_low (op := n) (by omega) wd
  rw [hz] at hsz
  refine wpAnyH_ready (rs := [8]) (by kernel_rfl) (by simp) ?_
  refine next_at (i := 8) rfl (fun KK hKK => ?_) AllReadyH.nil
  refine step_callg (by kernel_rfl) 13 #[.int .u8 n] (by go_simp) (fun v w' => v = .int .i64 4 ∧ Low wd.heap.size wd w') (hsz.mono (by rintro e w' ⟨rfl, he⟩; exact ⟨_, rfl, rfl, he⟩)) ?_
  rintro v w6 ⟨rfl, l6⟩
  have L6 := Lib.hid (HLd.out.trans (l6.mono HLd.out.size))
  clear l6 hsz
  refine hKK.out _ _ (by exact (HX.out _ L6.out)) (fun hHeld => ?_)
  clear hKK KK
  (try simp only [Act.put, List.setIfInBounds_toArray, List.set_cons_zero, List.set_cons_succ])
  refine take_at (i := 9) (v := ?_) rfl (by kernel_rfl) (by kernel_rfl) (by kernel_rfl) (fun _ _ _ h => h) (by rfl) ?_ (by exact hHeld) ?_
  rotate_left
  · intro w' hSw; obtain ⟨y0, y1, y2, y3, y4, y5, y6⟩ := hSw; go_simp; (try with_reducible rfl)
  (try simp only [Act.put, List.setIfInBounds_toArray, List.set_cons_zero, List.set_cons_succ])
  refine take_at (i := 10) (v := ?_) rfl (by kernel_rfl) (by kernel_rfl) (by kernel_rfl) (fun _ _ _ h => h) (by rfl) ?_ (by exact hHeld) ?_
  rotate_left
  · intro w' hSw; obtain ⟨y0, y1, y2, y3, y4, y5, y6⟩ := hSw; go_simp; (try with_reducible rfl)
  (try simp only [Act.put, List.setIfInBounds_toArray, List.set_cons_zero, List.set_cons_succ])
  refine wpAnyH_done (by kernel_rfl) ?_ _
  refine NoPanic.normal ?_
  clear hHeld hSd
  obtain ⟨y0, y1, y2, y3, y4, y5, y6⟩ := HX.out _ L6.out
  go_wp2_with (first
    | (go_at_call 63; refine (reg_any _ _).mono ?_; rintro e u ⟨rfl, hu⟩; rw [hu]; clear hu u)
    | (go_at_call 64; refine (signed_any _ _).mono ?_; rintro e u ⟨rfl, hu⟩; rw [hu]; clear hu u))
  go_ret
  exact ⟨rfl, L1.out.trans (L6.out.mono L1.out.size)⟩

end Go.Proofs.YtjkaoejcdboaiaaGreat
/- Rows of the call's own: one more element is appended. -/
namespace Go.Proofs.YtjkaoejcdboaiaaGreat
open Go.RowKit
set_option linter.unusedVariables false
structure Ap (P : Program) (t e size bytes : Nat) : Prop where
  ht : P.underlying t = some (.slice e)
  info : ∃ ti z, P.info? e = some ti ∧ ti.zero = some z ∧ ti.size = size ∧ ti.bytes = bytes ∧ z.cells.size = size
  pos : 0 < size
  low : bytes ≤ 1024
/-- A row of the call's own from base on: its elements' cells. -/
def Own (w : World) (base : Nat) (e size : Nat) (v : Value) (n : Nat) (xs : List Value) : Prop := w.ownsRow base e size v n xs
theorem Own.nil (w : World) (base e size : Nat) : Own w base e size (.slice none 0 0) 0 [] := ⟨by simp, .inl ⟨rfl, rfl⟩⟩
/-- What an append leaves. -/
structure App1 (w w' : World) (base e size : Nat) (v v' : Value) (n : Nat) (xs : List Value) (m : Nat) (news : List Value) : Prop where
  own : Own w' base e size v' (n + m) (xs ++ news)
  os : w'.os = w.os
  out : w'.output = w.output
  size : w.heap.size ≤ w'.heap.size
  block : ∀ k, k < w.heap.size → some k ≠ v.ownBlock → w'.heap[k]? = w.heap[k]?
section
variable {P : Program} {t e size bytes base : Nat} {w : World}
theorem append_one (hE : Ap P t e size bytes) {ty : TypeId} {v : Value} {n : Nat} {xs : List Value} (hown : Own w base e size v n xs) {g m c : Nat} {cs : Array Value} {e' : TypeId} {fr : Nat × Nat} (hg : w.heap[g]? = some (.cells cs e' fr)) (hcs : cs.size = m * size) (h1 : ∀ u ∈ cs, u.oneCell' = true) (hn : n + m ≤ 1048576) (hb : base ≤ w.heap.size) :
    ∃ v' w', (Builtin.append_ #[t, t] ty #[v, .slice (some ⟨g, 0, none⟩) m c]).run P w = .ok v' w' ∧ App1 w w' base e size v v' n xs m cs.toList := by
  obtain ⟨ti, z, hi, hz, hsize, hby, hzs⟩ := hE.info
  have hlow := hE.low
  have hbytes : (n + m) * bytes ≤ 140737488355328 := by
    have := Nat.mul_le_mul hn hlow
    omega
  obtain ⟨v', w', hr, h2, h3, _⟩ := run_append_own (P := P) w base t ty e ti z size bytes hE.ht hi hz hsize hby hzs hE.pos v n xs hown ⟨g, 0, none⟩ m c cs.toList (by simpa using hcs)
    (fun j u hj => by
      have hadd : (⟨g, 0, none⟩ : Addr).add j = ⟨g, j, none⟩ := by
        by_cases h0 : j = 0
        · subst h0; simp [Addr.add]
        · simp [Addr.add, h0]
      rw [hadd, cell_of hg]
      simpa using hj) (fun u hu => h1 u (by simpa using hu)) (by have : maxLen = 9223372036854775807 := rfl; omega) hbytes hb
  exact ⟨v', w', hr, h2, h3.os, h3.output, h3.size, h3.block⟩
theorem wp_app1 (hE : Ap P t e size bytes) {o : Oper} {a : Act} {K : Act → World → Prop} {Q : Exit → Act → World → Prop} (s x : Operand) (ho : o.op = .call { callee := .builtin .append, args := #[s, x], argTypes := #[t, t] })
    {v : Value} {n : Nat} {xs : List Value} (hs : a.eval s = v) (hown : Own w base e size v n xs) {g m c : Nat} {cs : Array Value} {e' : TypeId} {fr : Nat × Nat} (hx : a.eval x = .slice (some ⟨g, 0, none⟩) m c) (hg : w.heap[g]? = some (.cells cs e' fr)) (hcs : cs.size = m * size) (h1 : ∀ u ∈ cs, u.oneCell' = true) (hn : n + m ≤ 1048576) (hb : base ≤ w.heap.size)
    (h : ∀ v' w', App1 w w' base e size v v' n xs m cs.toList → K (a.put o.dst v') w') : o.wp P a w K Q := by
  obtain ⟨v', w', hrun, h2⟩ := append_one (ty := o.type) hE hown (c := c) hg hcs h1 hn hb
  unfold Oper.wp execOp
  simp only [ho, resolve, invoke, builtin, Sem.run_bind, Sem.run_pure, Result.andThen_ok, List.map_toArray, List.map_cons, List.map_nil, hs, hx, hrun]
  exact h v' w' h2
theorem wpList_app1 (hE : Ap P t e size bytes) {ops : Array Oper} {rest : List Oper} {o : Oper} {a : Act} {Q : Exit → Act → World → Prop} (hgd : o.guard = none) (s x : Operand) (ho : o.op = .call { callee := .builtin .append, args := #[s, x], argTypes := #[t, t] })
    {v : Value} {n : Nat} {xs : List Value} (hs : a.eval s = v) (hown : Own w base e size v n xs) {g m c : Nat} {cs : Array Value} {e' : TypeId} {fr : Nat × Nat} (hx : a.eval x = .slice (some ⟨g, 0, none⟩) m c) (hg : w.heap[g]? = some (.cells cs e' fr)) (hcs : cs.size = m * size) (h1 : ∀ u ∈ cs, u.oneCell' = true) (hn : n + m ≤ 1048576) (hb : base ≤ w.heap.size)
    (h : ∀ v' w', App1 w w' base e size v v' n xs m cs.toList → wpList P ops Q rest (a.put o.dst v') w') : wpList P ops Q (o :: rest) a w :=
  wpList_plain hgd fun _ hK => wp_app1 hE s x ho hs hown hx hg hcs h1 hn hb fun v' w' h2 => hK _ _ (h v' w' h2)
theorem step_app1 (hE : Ap P t e size bytes) {ops : Array Oper} {o : Oper} {a : Act} {K : Act → World → Prop} {Q : Exit → Act → World → Prop} {E : Prop} (hgd : o.guard = none) (s x : Operand) (ho : o.op = .call { callee := .builtin .append, args := #[s, x], argTypes := #[t, t] })
    {v : Value} {n : Nat} {xs : List Value} (hs : a.eval s = v) (hown : Own w base e size v n xs) {g m c : Nat} {cs : Array Value} {e' : TypeId} {fr : Nat × Nat} (hx : a.eval x = .slice (some ⟨g, 0, none⟩) m c) (hg : w.heap[g]? = some (.cells cs e' fr)) (hcs : cs.size = m * size) (h1 : ∀ u ∈ cs, u.oneCell' = true) (hn : n + m ≤ 1048576) (hb : base ≤ w.heap.size)
    (h : ∀ v' w', App1 w w' base e size v v' n xs m cs.toList → K (a.put o.dst v') w') : if Region.wanted o (yielded ops a.tmps) = true then Oper.wp P o a w K Q else E := by
  have hw : Region.wanted o (yielded ops a.tmps) = true := by simp [Region.wanted, hgd]
  rw [if_pos hw]
  exact wp_app1 hE s x ho hs hown hx hg hcs h1 hn hb h
end
section
variable {w w' w'' : World} {base e size n m : Nat} {v v' : Value} {xs news : List Value}
/-- A row's cell. -/
theorem Own.cell {g c : Nat} (h : Own w base e size (.slice (some ⟨g, 0, none⟩) n c) n xs) {j : Nat} {u : Value} (hj : xs[j]? = some u) : w.cell? ⟨g, j, none⟩ = some u := by
  obtain ⟨h0, ⟨h1, _⟩ | ⟨g', c', cur, h1, h2, h3, h4, h5, h6, h7⟩⟩ := h
  · cases h1
  · cases h1
    rw [cell_of h3]
    subst h7
    have h8 : j < (cur.toList.take (n * size)).length := (List.getElem?_eq_some_iff.1 hj).1
    simp only [List.length_take] at h8
    rw [List.getElem?_take, if_pos (by omega)] at hj
    simpa using hj
theorem Own.form (h : Own w base e size v n xs) : (v = .slice none 0 0 ∧ n = 0) ∨ ∃ g c cs, v = .slice (some ⟨g, 0, none⟩) n c ∧ base ≤ g ∧ w.heap[g]? = some (.cells cs e (0, 0)) ∧ n ≤ c := by
  obtain ⟨h0, h1 | ⟨g', c', cur, h1, h2, h3, h4, h5, h6, h7⟩⟩ := h
  · exact .inl h1
  · exact .inr ⟨g', c', cur, h1, h2, h3, h4⟩
/-- A row whose block is left alone is kept. -/
theorem Own.kept (h : Own w base e size v n xs) (hk : ∀ g, v.ownBlock = some g → w'.heap[g]? = w.heap[g]?) : Own w' base e size v n xs := by
  obtain ⟨h0, h1 | ⟨g', c', cur, h1, h2, h3, h4, h5, h6, h7⟩⟩ := h
  · exact ⟨h0, .inl h1⟩
  · exact ⟨h0, .inr ⟨g', c', cur, h1, h2, by rw [hk g' (by rw [h1]; rfl)]; exact h3, h4, h5, h6, h7⟩⟩
theorem Own.low (h : Own w base e size v n xs) (hl : Low w.heap.size w w') : Own w' base e size v n xs := h.kept fun g hg => by
  rcases h.form with ⟨h1, _⟩ | ⟨g', c, cs, h1, _, h3, _⟩
  · rw [h1] at hg; cases hg
  · rw [h1] at hg; cases hg
    exact hl.block _ (heap_lt h3)
theorem Own.len (h : Own w base e size v n xs) : xs.length = n * size := h.1
theorem App1.row {k : Nat} (h : App1 w w' base e size v v' n xs m news) (hk : n + m = k) (h0 : 0 < k) : ∃ g c cs, v' = .slice (some ⟨g, 0, none⟩) k c ∧ base ≤ g ∧ w'.heap[g]? = some (.cells cs e (0, 0)) ∧ k ≤ c ∧ Own w' base e size (.slice (some ⟨g, 0, none⟩) k c) k (xs ++ news) := by
  subst hk
  rcases h.own.form with ⟨_, h1⟩ | ⟨g, c, cs, rfl, h2, h3, h4⟩
  · omega
  · exact ⟨g, c, cs, rfl, h2, h3, h4, h.own⟩
theorem App1.low (h : App1 w w' base e size v v' n xs m news) (hown : Own w base e size v n xs) {S : Nat} (hS : S ≤ base) (hSw : S ≤ w.heap.size) : Low S w w' := ⟨h.os, h.out, h.size, fun g hg => h.block g (by omega) fun he => by
  rcases hown.form with ⟨h1, _⟩ | ⟨g', c, cs, h1, h2, h3, _⟩
  · rw [h1] at he; cases he
  · rw [h1] at he; simp [Value.ownBlock] at he; omega⟩
end
end Go.Proofs.YtjkaoejcdboaiaaGreat
namespace Go.Proofs.YtjkaoejcdboaiaaGreat
open Go.RowKit
set_option linter.unusedVariables false
theorem info_of {α : Type} {o : Option TypeInfo} {f : TypeInfo → Option Value × Nat × Nat} {x : Option Value × Nat × Nat} (h : o.map f = some x) : ∃ ti, o = some ti ∧ f ti = x := by
  cases o with
  | none => cases h
  | some ti => exact ⟨ti, rfl, by simpa using h⟩
theorem apB : Ap Tryz.prog 124 5 1 1 := ⟨Tryz.underlying124, by
  obtain ⟨ti, hti, h⟩ := info_of (α := Unit) (show (Tryz.prog.info? 5).map (fun i => (i.zero, i.size, i.bytes)) = some (some (.int .u8 0), 1, 1) by kernel_rfl)
  simp only [Prod.mk.injEq] at h
  exact ⟨ti, _, hti, h.1, h.2.1, h.2.2, rfl⟩, by decide, by decide⟩
def bytesV (xs : List Int) : List Value := xs.map fun x => .int .u8 x
theorem bytes_at {xs : List Int} {j : Nat} {x : Int} (h : xs[j]? = some x) : (bytesV xs)[j]? = some (.int .u8 x) := by simp [bytesV, h]
/-- A row of bytes of the call's own, from S on. -/
def BytesO (w : World) (S : Nat) (A : Option Addr) (n c : Nat) (xs : List Int) : Prop := xs.length = n ∧ Own w S 5 1 (.slice A n c) n (bytesV xs)
theorem BytesO.low {w w' : World} {S : Nat} {A : Option Addr} {n c : Nat} {xs : List Int} (h : BytesO w S A n c xs) (hl : Low w.heap.size w w') : BytesO w' S A n c xs := ⟨h.1, h.2.low hl⟩
theorem Own.slice {w : World} {base e size n : Nat} {v : Value} {xs : List Value} (h : Own w base e size v n xs) : ∃ A c, v = .slice A n c := by
  rcases h.form with ⟨rfl, rfl⟩ | ⟨g, c, cs, rfl, _⟩
  · exact ⟨_, _, rfl⟩
  · exact ⟨_, _, rfl⟩
/-- A block of bytes is a row of the call's own. -/
theorem BytesO.new {w : World} {S g : Nat} {xs : List Int} (hS : S ≤ g) (h : w.heap[g]? = some (.cells (bytesV xs).toArray 5 (0, 0))) (h0 : 0 < xs.length) (h1 : xs.length ≤ 1000) : BytesO w S (some ⟨g, 0, none⟩) xs.length xs.length xs := by
  refine ⟨rfl, ?_⟩
  refine ⟨by simp [bytesV], .inr ⟨g, xs.length, (bytesV xs).toArray, rfl, hS, h, ?_, ?_, ?_, ?_⟩⟩
  · exact Nat.le_refl _
  · have : maxLen = 9223372036854775807 := rfl
    omega
  · simp [bytesV]
  · rw [Nat.mul_one]
    show List.take xs.length (bytesV xs) = bytesV xs
    exact List.take_of_length_le (by simp [bytesV])
/-- More bytes. -/
theorem app_bytes {w : World} {S : Nat} {A : Option Addr} {n c : Nat} {xs : List Int} (h : BytesO w S A n c xs) {g : Nat} {ys : List Int} (hg : w.heap[g]? = some (.cells (bytesV ys).toArray 5 (0, 0))) {m d k : Nat} (hm : ys.length = m) (hk : n + m = k) (hn : k ≤ 1000) (hS : S ≤ w.heap.size) :
    ∃ A' c' w', (Builtin.append_ #[124, 124] 124 #[.slice A n c, .slice (some ⟨g, 0, none⟩) m d]).run Tryz.prog w = .ok (.slice A' k c') w' ∧ BytesO w' S A' k c' (xs ++ ys) ∧ Low S w w' ∧ (∀ q, q < w.heap.size → (∀ o, A ≠ some ⟨q, o, none⟩) → w'.heap[q]? = w.heap[q]?) := by
  subst hk
  obtain ⟨v', w', hrun, happ⟩ := append_one (ty := 124) apB h.2 (c := d) (m := m) hg (by simp [bytesV, hm]) (by intro u hu; simp [bytesV] at hu; obtain ⟨x, _, rfl⟩ := hu; rfl) (by omega) hS
  obtain ⟨A', c', rfl⟩ := happ.own.slice
  refine ⟨A', c', w', hrun, ⟨by simp [h.1, hm], ?_⟩, happ.low h.2 (Nat.le_refl _) hS, fun q hq hA => happ.block q hq fun e => ?_⟩
  · have := happ.own
    simpa [bytesV] using this
  · rcases h.2.form with ⟨e1, _⟩ | ⟨g', c', cs, e1, _⟩
    · rw [e1] at e; cases e
    · rw [e1] at e; cases e1
      simp only [Value.ownBlock, Option.some.injEq] at e
      exact hA 0 (by rw [e])
/-- An append whose run is known, as a step of a region that draws its order. -/
theorem step_known {P : Program} {ops : Array Oper} {o : Oper} {a : Act} {w w' : World} {K : Act → World → Prop} {Q : Exit → Act → World → Prop} {E : Prop} {t : TypeId} {v : Value} (hgd : o.guard = none) (s x : Operand) (ho : o.op = .call { callee := .builtin .append, args := #[s, x], argTypes := #[t, t] })
    {vs vx : Value} (hs : a.eval s = vs) (hx : a.eval x = vx) (hrun : (Builtin.append_ #[t, t] o.type #[vs, vx]).run P w = .ok v w') (h : K (a.put o.dst v) w') : if Region.wanted o (yielded ops a.tmps) = true then Oper.wp P o a w K Q else E := by
  have hw : Region.wanted o (yielded ops a.tmps) = true := by simp [Region.wanted, hgd]
  rw [if_pos hw]
  unfold Oper.wp execOp
  simp only [ho, resolve, invoke, builtin, Sem.run_bind, Sem.run_pure, Result.andThen_ok, List.map_toArray, List.map_cons, List.map_nil, hs, hx, hrun]
  exact h
theorem wpList_known {P : Program} {ops : Array Oper} {rest : List Oper} {o : Oper} {a : Act} {w w' : World} {Q : Exit → Act → World → Prop} {t : TypeId} {v : Value} (hgd : o.guard = none) (s x : Operand) (ho : o.op = .call { callee := .builtin .append, args := #[s, x], argTypes := #[t, t] })
    {vs vx : Value} (hs : a.eval s = vs) (hx : a.eval x = vx) (hrun : (Builtin.append_ #[t, t] o.type #[vs, vx]).run P w = .ok v w') (h : wpList P ops Q rest (a.put o.dst v) w') : wpList P ops Q (o :: rest) a w :=
  wpList_plain hgd fun _ hK => by
    unfold Oper.wp execOp
    simp only [ho, resolve, invoke, builtin, Sem.run_bind, Sem.run_pure, Result.andThen_ok, List.map_toArray, List.map_cons, List.map_nil, hs, hx, hrun]
    exact hK _ _ h
/-- The string of a row of bytes. -/
def strB (xs : List Int) : ByteArray := xs.foldl (fun r n => r.push (UInt8.ofNat n.toNat)) ByteArray.empty
/-- A row of bytes in memory, read alone. -/
def BytesR (w : World) (A : Option Addr) (xs : List Int) : Prop := ∃ a, A = some a ∧ ∀ (j : Nat) (x : Int), xs[j]? = some x → w.cell? (a.add j) = some (.int .u8 x)
theorem conv_bytes {w : World} {a : Addr} {n c : Nat} {xs : List Int} (hn : xs.length = n) (h : ∀ (j : Nat) (x : Int), xs[j]? = some x → w.cell? (a.add j) = some (.int .u8 x)) :
    (convert 124 9 (.slice (some a) n c)).run Tryz.prog w = .ok (.string (strB xs)) w := by
  rw [run_convert_bytes_string w 124 9 5 _ _ _ Tryz.underlying124 Tryz.underlying5 Tryz.underlying9]
  have hl := run_loadCells_list (P := Tryz.prog) w a (bytesV xs) (fun j v hj => by
    simp only [bytesV, List.getElem?_map, Option.map_eq_some_iff] at hj
    obtain ⟨x, hx, rfl⟩ := hj
    exact h j x hx)
  rw [show (bytesV xs).length = n by simp [bytesV, hn]] at hl
  exact run_bytesToString w a n c xs hl
theorem BytesO.conv {w : World} {S : Nat} {A : Option Addr} {n c : Nat} {xs : List Int} (h : BytesO w S A n c xs) (h0 : 0 < n) : (convert 124 9 (.slice A n c)).run Tryz.prog w = .ok (.string (strB xs)) w := by
  rcases h.2.form with ⟨e, rfl⟩ | ⟨g, c', cs, e, h2, h3, h4⟩
  · omega
  · cases e
    refine conv_bytes h.1 (fun j x hj => ?_)
    have hadd : (⟨g, 0, none⟩ : Addr).add j = ⟨g, j, none⟩ := by
      by_cases h0 : j = 0
      · subst h0; simp [Addr.add]
      · simp [Addr.add, h0]
    rw [hadd]
    exact h.2.cell (bytes_at hj)
theorem strB_data (xs : List Int) : (strB xs).data.toList = xs.map (fun n => UInt8.ofNat n.toNat) := by
  unfold strB
  have : ∀ (xs : List Int) (r : ByteArray), (xs.foldl (fun r n => r.push (UInt8.ofNat n.toNat)) r).data.toList = r.data.toList ++ xs.map (fun n => UInt8.ofNat n.toNat) := by
    intro xs
    induction xs with
    | nil => intro r; simp
    | cons x xs ih => intro r; rw [List.foldl_cons, ih]; simp [ByteArray.push]
  rw [this]; rfl
theorem strB_append (xs ys : List Int) : strB xs ++ strB ys = strB (xs ++ ys) := by
  apply ByteArray.ext
  apply Array.toList_inj.1
  rw [ByteArray.data_append, Array.toList_append, strB_data, strB_data, strB_data, List.map_append]
theorem strB_size (xs : List Int) : (strB xs).size = xs.length := by
  have := congrArg List.length (strB_data xs)
  simpa using this
end Go.Proofs.YtjkaoejcdboaiaaGreat
