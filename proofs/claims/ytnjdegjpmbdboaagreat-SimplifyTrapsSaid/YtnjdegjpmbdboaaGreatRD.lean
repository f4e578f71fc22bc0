/- ir's checker: operations are as they must be. -/
import Derived.Test.YtnjdegjpmbdboaaGreatRC
namespace Go.Proofs.YtnjdegjpmbdboaaGreat
open Go.RowKit
set_option linter.unusedVariables false
/-- The number of an operation. -/
def NOk (o : Opn) : Prop := (o.code = 24 ∨ o.code = 25 → o.n = 3) ∧ (o.code ≠ 24 → o.code ≠ 25 → o.n = 0)
/-- What the checker's program must be, for a call. -/
def CallOk (w : World) (c : Nat) : Prop := ∃ Fa nf cf ga na ca, w.cell? ⟨c, 0, none⟩ = some (.slice Fa nf cf) ∧ 1 ≤ nf ∧ nf ≤ 4 ∧ w.cell? ⟨c, 1, none⟩ = some (.slice (some ⟨ga, 0, none⟩) na ca) ∧ 1 ≤ na ∧ na ≤ 4 ∧ w.cell? ⟨ga, 0, none⟩ = some (.int .i64 0)
theorem cell_low {w w' : World} {g j : Nat} {v : Value} (h : w.cell? ⟨g, j, none⟩ = some v) (hl : Low w.heap.size w w') : w'.cell? ⟨g, j, none⟩ = some v := (World.cell?_of_block (hl.block _ (cell_lt h))).trans h
theorem CallOk.low {w w' : World} {c : Nat} (h : CallOk w c) (hl : Low w.heap.size w w') : CallOk w' c := by
  obtain ⟨Fa, nf, cf, ga, na, ca, a, b, b2, d, e, e2, f⟩ := h
  exact ⟨Fa, nf, cf, ga, na, ca, cell_low a hl, b, b2, cell_low d hl, e, e2, cell_low f hl⟩
set_option maxRecDepth 100000 in
set_option maxHeartbeats 4000000 in
theorem operation_3 (w : World) (cp : Value) (res : Int) (hp : 0 < res) : Calls Tryz.prog 136 #[cp, .agg #[.int .i64 3, .int .i64 res, .int .i64 0, .int .i64 0, .int .u16 0, .slice none 0 0]] w (fun e w' => Low w.heap.size w w' ∧ e = .returned (.bool true)) := by
  have l1 : Low w.heap.size w (w.alloc (.cells #[.int .i64 3, .int .i64 res, .int .i64 0, .int .i64 0, .int .u16 0, .slice none 0 0] 33)) := (Low.refl _ w).alloc (Nat.le_refl _) _
  have a1 := heap_new w (.cells #[.int .i64 3, .int .i64 res, .int .i64 0, .int .i64 0, .int .u16 0, .slice none 0 0] 33)
  have hf : ∀ u, Calls Tryz.prog 143 #[.int .i64 3] u (fun e w' => e = .returned (.tuple #[.agg #[.bool true, .bool true, .bool false, .bool false], .bool true]) ∧ Below u.heap.size u w') := fun u => fields_any u 3 (by unfold OkCode; decide)
  have hp0 : (0 : Int) ≤ res := by omega
  have hp1 : (-1 : Int) ≤ res := by omega
  clear hp
  go_enter Tryz.func136, Tryz.ntmps136
  go_upto_region 1 with fail
  obtain ⟨t3, ht3⟩ : ∃ t, t = w.heap.size := ⟨_, rfl⟩
  rw [← ht3] at a1 ⊢
  clear ht3
  generalize w.alloc (.cells #[.int .i64 3, .int .i64 res, .int .i64 0, .int .i64 0, .int .u16 0, .slice none 0 0] 33) = w1 at a1 l1 ⊢
  have x0 : w1.cell? ⟨t3, 0, none⟩ = some (.int .i64 3) := cell_of a1
  have L1 := Lib.hid l1; have A1 := Lib.hid a1
  have hf1 := hf w1
  clear l1 a1 hf
  go_upto_region 2 with (first
    | (go_at_call 143; with_reducible refine hf1.mono ?_; rintro e w2 ⟨rfl, hb2⟩; have l2 := Low.of_below hb2; have L2 := Lib.hid (L1.out.trans (l2.mono L1.out.size)); have A2 := Lib.hid (l2.some A1.out); clear hb2 l2))
  have l3 : Low w2.heap.size w2 (w2.alloc (.cells #[.bool true, .bool true, .bool false, .bool false] 178)) := (Low.refl _ w2).alloc (Nat.le_refl _) _
  have b3 := heap_new w2 (.cells #[.bool true, .bool true, .bool false, .bool false] 178)
  have L3 := Lib.hid (L2.out.trans (l3.mono L2.out.size)); have a3 := l3.some A2.out
  clear l3 L1 A1 L2 A2 hf1 x0
  obtain ⟨t5, ht5⟩ : ∃ t, t = w2.heap.size := ⟨_, rfl⟩
  rw [← ht5] at b3 ⊢
  clear ht5
  generalize w2.alloc (.cells #[.bool true, .bool true, .bool false, .bool false] 178) = w3 at a3 b3 L3 ⊢
  have x0 : w3.cell? ⟨t3, 0, none⟩ = some (.int .i64 3) := cell_of a3
  have x1 : w3.cell? ⟨t3, 1, none⟩ = some (.int .i64 res) := cell_of a3
  have x2 : w3.cell? ⟨t3, 2, none⟩ = some (.int .i64 0) := cell_of a3
  have x3 : w3.cell? ⟨t3, 3, none⟩ = some (.int .i64 0) := cell_of a3
  have x4 : w3.cell? ⟨t3, 4, none⟩ = some (.int .u16 0) := cell_of a3
  have x5 : w3.cell? ⟨t3, 5, none⟩ = some (.slice none 0 0) := cell_of a3
  have y0 : w3.cell? ⟨t5, 0, none⟩ = some (.bool true) := cell_of b3
  have y1 : w3.cell? ⟨t5, 1, none⟩ = some (.bool true) := cell_of b3
  have y2 : w3.cell? ⟨t5, 2, none⟩ = some (.bool false) := cell_of b3
  have y3 : w3.cell? ⟨t5, 3, none⟩ = some (.bool false) := cell_of b3
  clear a3 b3
  go_wp2_with fail
  go_ret
  exact ⟨L3.out, by first | rfl | simp | simp [hp0, hp1]⟩
set_option maxRecDepth 100000 in
set_option maxHeartbeats 4000000 in
theorem operation_8 (w : World) (cp : Value) (res : Int) (hp : 0 < res) : Calls Tryz.prog 136 #[cp, .agg #[.int .i64 8, .int .i64 res, .int .i64 0, .int .i64 0, .int .u16 0, .slice none 0 0]] w (fun e w' => Low w.heap.size w w' ∧ e = .returned (.bool true)) := by
  have l1 : Low w.heap.size w (w.alloc (.cells #[.int .i64 8, .int .i64 res, .int .i64 0, .int .i64 0, .int .u16 0, .slice none 0 0] 33)) := (Low.refl _ w).alloc (Nat.le_refl _) _
  have a1 := heap_new w (.cells #[.int .i64 8, .int .i64 res, .int .i64 0, .int .i64 0, .int .u16 0, .slice none 0 0] 33)
  have hf : ∀ u, Calls Tryz.prog 143 #[.int .i64 8] u (fun e w' => e = .returned (.tuple #[.agg #[.bool true, .bool true, .bool true, .bool false], .bool true]) ∧ Below u.heap.size u w') := fun u => fields_any u 8 (by unfold OkCode; decide)
  have hp0 : (0 : Int) ≤ res := by omega
  have hp1 : (-1 : Int) ≤ res := by omega
  clear hp
  go_enter Tryz.func136, Tryz.ntmps136
  go_upto_region 1 with fail
  obtain ⟨t3, ht3⟩ : ∃ t, t = w.heap.size := ⟨_, rfl⟩
  rw [← ht3] at a1 ⊢
  clear ht3
  generalize w.alloc (.cells #[.int .i64 8, .int .i64 res, .int .i64 0, .int .i64 0, .int .u16 0, .slice none 0 0] 33) = w1 at a1 l1 ⊢
  have x0 : w1.cell? ⟨t3, 0, none⟩ = some (.int .i64 8) := cell_of a1
  have L1 := Lib.hid l1; have A1 := Lib.hid a1
  have hf1 := hf w1
  clear l1 a1 hf
  go_upto_region 2 with (first
    | (go_at_call 143; with_reducible refine hf1.mono ?_; rintro e w2 ⟨rfl, hb2⟩; have l2 := Low.of_below hb2; have L2 := Lib.hid (L1.out.trans (l2.mono L1.out.size)); have A2 := Lib.hid (l2.some A1.out); clear hb2 l2))
  have l3 : Low w2.heap.size w2 (w2.alloc (.cells #[.bool true, .bool true, .bool true, .bool false] 178)) := (Low.refl _ w2).alloc (Nat.le_refl _) _
  have b3 := heap_new w2 (.cells #[.bool true, .bool true, .bool true, .bool false] 178)
  have L3 := Lib.hid (L2.out.trans (l3.mono L2.out.size)); have a3 := l3.some A2.out
  clear l3 L1 A1 L2 A2 hf1 x0
  obtain ⟨t5, ht5⟩ : ∃ t, t = w2.heap.size := ⟨_, rfl⟩
  rw [← ht5] at b3 ⊢
  clear ht5
  generalize w2.alloc (.cells #[.bool true, .bool true, .bool true, .bool false] 178) = w3 at a3 b3 L3 ⊢
  have x0 : w3.cell? ⟨t3, 0, none⟩ = some (.int .i64 8) := cell_of a3
  have x1 : w3.cell? ⟨t3, 1, none⟩ = some (.int .i64 res) := cell_of a3
  have x2 : w3.cell? ⟨t3, 2, none⟩ = some (.int .i64 0) := cell_of a3
  have x3 : w3.cell? ⟨t3, 3, none⟩ = some (.int .i64 0) := cell_of a3
  have x4 : w3.cell? ⟨t3, 4, none⟩ = some (.int .u16 0) := cell_of a3
  have x5 : w3.cell? ⟨t3, 5, none⟩ = some (.slice none 0 0) := cell_of a3
  have y0 : w3.cell? ⟨t5, 0, none⟩ = some (.bool true) := cell_of b3
  have y1 : w3.cell? ⟨t5, 1, none⟩ = some (.bool true) := cell_of b3
  have y2 : w3.cell? ⟨t5, 2, none⟩ = some (.bool true) := cell_of b3
  have y3 : w3.cell? ⟨t5, 3, none⟩ = some (.bool false) := cell_of b3
  clear a3 b3
  go_wp2_with fail
  go_ret
  exact ⟨L3.out, by first | rfl | simp | simp [hp0, hp1]⟩
set_option maxRecDepth 100000 in
set_option maxHeartbeats 4000000 in
theorem operation_18 (w : World) (cp : Value) (res : Int) (hp : 0 < res) : Calls Tryz.prog 136 #[cp, .agg #[.int .i64 18, .int .i64 res, .int .i64 0, .int .i64 0, .int .u16 0, .slice none 0 0]] w (fun e w' => Low w.heap.size w w' ∧ e = .returned (.bool true)) := by
  have l1 : Low w.heap.size w (w.alloc (.cells #[.int .i64 18, .int .i64 res, .int .i64 0, .int .i64 0, .int .u16 0, .slice none 0 0] 33)) := (Low.refl _ w).alloc (Nat.le_refl _) _
  have a1 := heap_new w (.cells #[.int .i64 18, .int .i64 res, .int .i64 0, .int .i64 0, .int .u16 0, .slice none 0 0] 33)
  have hf : ∀ u, Calls Tryz.prog 143 #[.int .i64 18] u (fun e w' => e = .returned (.tuple #[.agg #[.bool true, .bool true, .bool false, .bool false], .bool true]) ∧ Below u.heap.size u w') := fun u => fields_any u 18 (by unfold OkCode; decide)
  have hp0 : (0 : Int) ≤ res := by omega
  have hp1 : (-1 : Int) ≤ res := by omega
  clear hp
  go_enter Tryz.func136, Tryz.ntmps136
  go_upto_region 1 with fail
  obtain ⟨t3, ht3⟩ : ∃ t, t = w.heap.size := ⟨_, rfl⟩
  rw [← ht3] at a1 ⊢
  clear ht3
  generalize w.alloc (.cells #[.int .i64 18, .int .i64 res, .int .i64 0, .int .i64 0, .int .u16 0, .slice none 0 0] 33) = w1 at a1 l1 ⊢
  have x0 : w1.cell? ⟨t3, 0, none⟩ = some (.int .i64 18) := cell_of a1
  have L1 := Lib.hid l1; have A1 := Lib.hid a1
  have hf1 := hf w1
  clear l1 a1 hf
  go_upto_region 2 with (first
    | (go_at_call 143; with_reducible refine hf1.mono ?_; rintro e w2 ⟨rfl, hb2⟩; have l2 := Low.of_below hb2; have L2 := Lib.hid (L1.out.trans (l2.mono L1.out.size)); have A2 := Lib.hid (l2.some A1.out); clear hb2 l2))
  have l3 : Low w2.heap.size w2 (w2.alloc (.cells #[.bool true, .bool true, .bool false, .bool false] 178)) := (Low.refl _ w2).alloc (Nat.le_refl _) _
  have b3 := heap_new w2 (.cells #[.bool true, .bool true, .bool false, .bool false] 178)
  have L3 := Lib.hid (L2.out.trans (l3.mono L2.out.size)); have a3 := l3.some A2.out
  clear l3 L1 A1 L2 A2 hf1 x0
  obtain ⟨t5, ht5⟩ : ∃ t, t = w2.heap.size := ⟨_, rfl⟩
  rw [← ht5] at b3 ⊢
  clear ht5
  generalize w2.alloc (.cells #[.bool true, .bool true, .bool false, .bool false] 178) = w3 at a3 b3 L3 ⊢
  have x0 : w3.cell? ⟨t3, 0, none⟩ = some (.int .i64 18) := cell_of a3
  have x1 : w3.cell? ⟨t3, 1, none⟩ = some (.int .i64 res) := cell_of a3
  have x2 : w3.cell? ⟨t3, 2, none⟩ = some (.int .i64 0) := cell_of a3
  have x3 : w3.cell? ⟨t3, 3, none⟩ = some (.int .i64 0) := cell_of a3
  have x4 : w3.cell? ⟨t3, 4, none⟩ = some (.int .u16 0) := cell_of a3
  have x5 : w3.cell? ⟨t3, 5, none⟩ = some (.slice none 0 0) := cell_of a3
  have y0 : w3.cell? ⟨t5, 0, none⟩ = some (.bool true) := cell_of b3
  have y1 : w3.cell? ⟨t5, 1, none⟩ = some (.bool true) := cell_of b3
  have y2 : w3.cell? ⟨t5, 2, none⟩ = some (.bool false) := cell_of b3
  have y3 : w3.cell? ⟨t5, 3, none⟩ = some (.bool false) := cell_of b3
  clear a3 b3
  go_wp2_with fail
  go_ret
  exact ⟨L3.out, by first | rfl | simp | simp [hp0, hp1]⟩
set_option maxRecDepth 100000 in
set_option maxHeartbeats 4000000 in
theorem operation_19 (w : World) (cp : Value) (res : Int) (hp : 0 < res) : Calls Tryz.prog 136 #[cp, .agg #[.int .i64 19, .int .i64 res, .int .i64 0, .int .i64 0, .int .u16 0, .slice none 0 0]] w (fun e w' => Low w.heap.size w w' ∧ e = .returned (.bool true)) := by
  have l1 : Low w.heap.size w (w.alloc (.cells #[.int .i64 19, .int .i64 res, .int .i64 0, .int .i64 0, .int .u16 0, .slice none 0 0] 33)) := (Low.refl _ w).alloc (Nat.le_refl _) _
  have a1 := heap_new w (.cells #[.int .i64 19, .int .i64 res, .int .i64 0, .int .i64 0, .int .u16 0, .slice none 0 0] 33)
  have hf : ∀ u, Calls Tryz.prog 143 #[.int .i64 19] u (fun e w' => e = .returned (.tuple #[.agg #[.bool true, .bool true, .bool false, .bool false], .bool true]) ∧ Below u.heap.size u w') := fun u => fields_any u 19 (by unfold OkCode; decide)
  have hp0 : (0 : Int) ≤ res := by omega
  have hp1 : (-1 : Int) ≤ res := by omega
  clear hp
  go_enter Tryz.func136, Tryz.ntmps136
  go_upto_region 1 with fail
  obtain ⟨t3, ht3⟩ : ∃ t, t = w.heap.size := ⟨_, rfl⟩
  rw [← ht3] at a1 ⊢
  clear ht3
  generalize w.alloc (.cells #[.int .i64 19, .int .i64 res, .int .i64 0, .int .i64 0, .int .u16 0, .slice none 0 0] 33) = w1 at a1 l1 ⊢
  have x0 : w1.cell? ⟨t3, 0, none⟩ = some (.int .i64 19) := cell_of a1
  have L1 := Lib.hid l1; have A1 := Lib.hid a1
  have hf1 := hf w1
  clear l1 a1 hf
  go_upto_region 2 with (first
    | (go_at_call 143; with_reducible refine hf1.mono ?_; rintro e w2 ⟨rfl, hb2⟩; have l2 := Low.of_below hb2; have L2 := Lib.hid (L1.out.trans (l2.mono L1.out.size)); have A2 := Lib.hid (l2.some A1.out); clear hb2 l2))
  have l3 : Low w2.heap.size w2 (w2.alloc (.cells #[.bool true, .bool true, .bool false, .bool false] 178)) := (Low.refl _ w2).alloc (Nat.le_refl _) _
  have b3 := heap_new w2 (.cells #[.bool true, .bool true, .bool false, .bool false] 178)
  have L3 := Lib.hid (L2.out.trans (l3.mono L2.out.size)); have a3 := l3.some A2.out
  clear l3 L1 A1 L2 A2 hf1 x0
  obtain ⟨t5, ht5⟩ : ∃ t, t = w2.heap.size := ⟨_, rfl⟩
  rw [← ht5] at b3 ⊢
  clear ht5
  generalize w2.alloc (.cells #[.bool true, .bool true, .bool false, .bool false] 178) = w3 at a3 b3 L3 ⊢
  have x0 : w3.cell? ⟨t3, 0, none⟩ = some (.int .i64 19) := cell_of a3
  have x1 : w3.cell? ⟨t3, 1, none⟩ = some (.int .i64 res) := cell_of a3
  have x2 : w3.cell? ⟨t3, 2, none⟩ = some (.int .i64 0) := cell_of a3
  have x3 : w3.cell? ⟨t3, 3, none⟩ = some (.int .i64 0) := cell_of a3
  have x4 : w3.cell? ⟨t3, 4, none⟩ = some (.int .u16 0) := cell_of a3
  have x5 : w3.cell? ⟨t3, 5, none⟩ = some (.slice none 0 0) := cell_of a3
  have y0 : w3.cell? ⟨t5, 0, none⟩ = some (.bool true) := cell_of b3
  have y1 : w3.cell? ⟨t5, 1, none⟩ = some (.bool true) := cell_of b3
  have y2 : w3.cell? ⟨t5, 2, none⟩ = some (.bool false) := cell_of b3
  have y3 : w3.cell? ⟨t5, 3, none⟩ = some (.bool false) := cell_of b3
  clear a3 b3
  go_wp2_with fail
  go_ret
  exact ⟨L3.out, by first | rfl | simp | simp [hp0, hp1]⟩
set_option maxRecDepth 100000 in
set_option maxHeartbeats 4000000 in
theorem operation_20 (w : World) (cp : Value) : Calls Tryz.prog 136 #[cp, .agg #[.int .i64 20, .int .i64 (-1), .int .i64 0, .int .i64 0, .int .u16 0, .slice none 0 0]] w (fun e w' => Low w.heap.size w w' ∧ e = .returned (.bool true)) := by
  have l1 : Low w.heap.size w (w.alloc (.cells #[.int .i64 20, .int .i64 (-1), .int .i64 0, .int .i64 0, .int .u16 0, .slice none 0 0] 33)) := (Low.refl _ w).alloc (Nat.le_refl _) _
  have a1 := heap_new w (.cells #[.int .i64 20, .int .i64 (-1), .int .i64 0, .int .i64 0, .int .u16 0, .slice none 0 0] 33)
  have hf : ∀ u, Calls Tryz.prog 143 #[.int .i64 20] u (fun e w' => e = .returned (.tuple #[.agg #[.bool false, .bool true, .bool true, .bool false], .bool true]) ∧ Below u.heap.size u w') := fun u => fields_any u 20 (by unfold OkCode; decide)
  go_enter Tryz.func136, Tryz.ntmps136
  go_upto_region 1 with fail
  obtain ⟨t3, ht3⟩ : ∃ t, t = w.heap.size := ⟨_, rfl⟩
  rw [← ht3] at a1 ⊢
  clear ht3
  generalize w.alloc (.cells #[.int .i64 20, .int .i64 (-1), .int .i64 0, .int .i64 0, .int .u16 0, .slice none 0 0] 33) = w1 at a1 l1 ⊢
  have x0 : w1.cell? ⟨t3, 0, none⟩ = some (.int .i64 20) := cell_of a1
  have L1 := Lib.hid l1; have A1 := Lib.hid a1
  have hf1 := hf w1
  clear l1 a1 hf
  go_upto_region 2 with (first
    | (go_at_call 143; with_reducible refine hf1.mono ?_; rintro e w2 ⟨rfl, hb2⟩; have l2 := Low.of_below hb2; have L2 := Lib.hid (L1.out.trans (l2.mono L1.out.size)); have A2 := Lib.hid (l2.some A1.out); clear hb2 l2))
  have l3 : Low w2.heap.size w2 (w2.alloc (.cells #[.bool false, .bool true, .bool true, .bool false] 178)) := (Low.refl _ w2).alloc (Nat.le_refl _) _
  have b3 := heap_new w2 (.cells #[.bool false, .bool true, .bool true, .bool false] 178)
  have L3 := Lib.hid (L2.out.trans (l3.mono L2.out.size)); have a3 := l3.some A2.out
  clear l3 L1 A1 L2 A2 hf1 x0
  obtain ⟨t5, ht5⟩ : ∃ t, t = w2.heap.size := ⟨_, rfl⟩
  rw [← ht5] at b3 ⊢
  clear ht5
  generalize w2.alloc (.cells #[.bool false, .bool true, .bool true, .bool false] 178) = w3 at a3 b3 L3 ⊢
  have x0 : w3.cell? ⟨t3, 0, none⟩ = some (.int .i64 20) := cell_of a3
  have x1 : w3.cell? ⟨t3, 1, none⟩ = some (.int .i64 (-1)) := cell_of a3
  have x2 : w3.cell? ⟨t3, 2, none⟩ = some (.int .i64 0) := cell_of a3
  have x3 : w3.cell? ⟨t3, 3, none⟩ = some (.int .i64 0) := cell_of a3
  have x4 : w3.cell? ⟨t3, 4, none⟩ = some (.int .u16 0) := cell_of a3
  have x5 : w3.cell? ⟨t3, 5, none⟩ = some (.slice none 0 0) := cell_of a3
  have y0 : w3.cell? ⟨t5, 0, none⟩ = some (.bool false) := cell_of b3
  have y1 : w3.cell? ⟨t5, 1, none⟩ = some (.bool true) := cell_of b3
  have y2 : w3.cell? ⟨t5, 2, none⟩ = some (.bool true) := cell_of b3
  have y3 : w3.cell? ⟨t5, 3, none⟩ = some (.bool false) := cell_of b3
  clear a3 b3
  go_wp2_with fail
  go_ret
  exact ⟨L3.out, by first | rfl | simp⟩
set_option maxRecDepth 100000 in
set_option maxHeartbeats 4000000 in
theorem operation_21 (w : World) (cp : Value) : Calls Tryz.prog 136 #[cp, .agg #[.int .i64 21, .int .i64 (-1), .int .i64 0, .int .i64 0, .int .u16 0, .slice none 0 0]] w (fun e w' => Low w.heap.size w w' ∧ e = .returned (.bool true)) := by
  have l1 : Low w.heap.size w (w.alloc (.cells #[.int .i64 21, .int .i64 (-1), .int .i64 0, .int .i64 0, .int .u16 0, .slice none 0 0] 33)) := (Low.refl _ w).alloc (Nat.le_refl _) _
  have a1 := heap_new w (.cells #[.int .i64 21, .int .i64 (-1), .int .i64 0, .int .i64 0, .int .u16 0, .slice none 0 0] 33)
  have hf : ∀ u, Calls Tryz.prog 143 #[.int .i64 21] u (fun e w' => e = .returned (.tuple #[.agg #[.bool false, .bool true, .bool true, .bool false], .bool true]) ∧ Below u.heap.size u w') := fun u => fields_any u 21 (by unfold OkCode; decide)
  go_enter Tryz.func136, Tryz.ntmps136
  go_upto_region 1 with fail
  obtain ⟨t3, ht3⟩ : ∃ t, t = w.heap.size := ⟨_, rfl⟩
  rw [← ht3] at a1 ⊢
  clear ht3
  generalize w.alloc (.cells #[.int .i64 21, .int .i64 (-1), .int .i64 0, .int .i64 0, .int .u16 0, .slice none 0 0] 33) = w1 at a1 l1 ⊢
  have x0 : w1.cell? ⟨t3, 0, none⟩ = some (.int .i64 21) := cell_of a1
  have L1 := Lib.hid l1; have A1 := Lib.hid a1
  have hf1 := hf w1
  clear l1 a1 hf
  go_upto_region 2 with (first
    | (go_at_call 143; with_reducible refine hf1.mono ?_; rintro e w2 ⟨rfl, hb2⟩; have l2 := Low.of_below hb2; have L2 := Lib.hid (L1.out.trans (l2.mono L1.out.size)); have A2 := Lib.hid (l2.some A1.out); clear hb2 l2))
  have l3 : Low w2.heap.size w2 (w2.alloc (.cells #[.bool false, .bool true, .bool true, .bool false] 178)) := (Low.refl _ w2).alloc (Nat.le_refl _) _
  have b3 := heap_new w2 (.cells #[.bool false, .bool true, .bool true, .bool false] 178)
  have L3 := Lib.hid (L2.out.trans (l3.mono L2.out.size)); have a3 := l3.some A2.out
  clear l3 L1 A1 L2 A2 hf1 x0
  obtain ⟨t5, ht5⟩ : ∃ t, t = w2.heap.size := ⟨_, rfl⟩
  rw [← ht5] at b3 ⊢
  clear ht5
  generalize w2.alloc (.cells #[.bool false, .bool true, .bool true, .bool false] 178) = w3 at a3 b3 L3 ⊢
  have x0 : w3.cell? ⟨t3, 0, none⟩ = some (.int .i64 21) := cell_of a3
  have x1 : w3.cell? ⟨t3, 1, none⟩ = some (.int .i64 (-1)) := cell_of a3
  have x2 : w3.cell? ⟨t3, 2, none⟩ = some (.int .i64 0) := cell_of a3
  have x3 : w3.cell? ⟨t3, 3, none⟩ = some (.int .i64 0) := cell_of a3
  have x4 : w3.cell? ⟨t3, 4, none⟩ = some (.int .u16 0) := cell_of a3
  have x5 : w3.cell? ⟨t3, 5, none⟩ = some (.slice none 0 0) := cell_of a3
  have y0 : w3.cell? ⟨t5, 0, none⟩ = some (.bool false) := cell_of b3
  have y1 : w3.cell? ⟨t5, 1, none⟩ = some (.bool true) := cell_of b3
  have y2 : w3.cell? ⟨t5, 2, none⟩ = some (.bool true) := cell_of b3
  have y3 : w3.cell? ⟨t5, 3, none⟩ = some (.bool false) := cell_of b3
  clear a3 b3
  go_wp2_with fail
  go_ret
  exact ⟨L3.out, by first | rfl | simp⟩
set_option maxRecDepth 100000 in
set_option maxHeartbeats 4000000 in
theorem operation_22 (w : World) (cp : Value) (res : Int) (hp : 0 < res) : Calls Tryz.prog 136 #[cp, .agg #[.int .i64 22, .int .i64 res, .int .i64 0, .int .i64 0, .int .u16 0, .slice none 0 0]] w (fun e w' => Low w.heap.size w w' ∧ e = .returned (.bool true)) := by
  have l1 : Low w.heap.size w (w.alloc (.cells #[.int .i64 22, .int .i64 res, .int .i64 0, .int .i64 0, .int .u16 0, .slice none 0 0] 33)) := (Low.refl _ w).alloc (Nat.le_refl _) _
  have a1 := heap_new w (.cells #[.int .i64 22, .int .i64 res, .int .i64 0, .int .i64 0, .int .u16 0, .slice none 0 0] 33)
  have hf : ∀ u, Calls Tryz.prog 143 #[.int .i64 22] u (fun e w' => e = .returned (.tuple #[.agg #[.bool true, .bool true, .bool false, .bool true], .bool true]) ∧ Below u.heap.size u w') := fun u => fields_any u 22 (by unfold OkCode; decide)
  have hp0 : (0 : Int) ≤ res := by omega
  have hp1 : (-1 : Int) ≤ res := by omega
  clear hp
  go_enter Tryz.func136, Tryz.ntmps136
  go_upto_region 1 with fail
  obtain ⟨t3, ht3⟩ : ∃ t, t = w.heap.size := ⟨_, rfl⟩
  rw [← ht3] at a1 ⊢
  clear ht3
  generalize w.alloc (.cells #[.int .i64 22, .int .i64 res, .int .i64 0, .int .i64 0, .int .u16 0, .slice none 0 0] 33) = w1 at a1 l1 ⊢
  have x0 : w1.cell? ⟨t3, 0, none⟩ = some (.int .i64 22) := cell_of a1
  have L1 := Lib.hid l1; have A1 := Lib.hid a1
  have hf1 := hf w1
  clear l1 a1 hf
  go_upto_region 2 with (first
    | (go_at_call 143; with_reducible refine hf1.mono ?_; rintro e w2 ⟨rfl, hb2⟩; have l2 := Low.of_below hb2; have L2 := Lib.hid (L1.out.trans (l2.mono L1.out.size)); have A2 := Lib.hid (l2.some A1.out); clear hb2 l2))
  have l3 : Low w2.heap.size w2 (w2.alloc (.cells #[.bool true, .bool true, .bool false, .bool true] 178)) := (Low.refl _ w2).alloc (Nat.le_refl _) _
  have b3 := heap_new w2 (.cells #[.bool true, .bool true, .bool false, .bool true] 178)
  have L3 := Lib.hid (L2.out.trans (l3.mono L2.out.size)); have a3 := l3.some A2.out
  clear l3 L1 A1 L2 A2 hf1 x0
  obtain ⟨t5, ht5⟩ : ∃ t, t = w2.heap.size := ⟨_, rfl⟩
  rw [← ht5] at b3 ⊢
  clear ht5
  generalize w2.alloc (.cells #[.bool true, .bool true, .bool false, .bool true] 178) = w3 at a3 b3 L3 ⊢
  have x0 : w3.cell? ⟨t3, 0, none⟩ = some (.int .i64 22) := cell_of a3
  have x1 : w3.cell? ⟨t3, 1, none⟩ = some (.int .i64 res) := cell_of a3
  have x2 : w3.cell? ⟨t3, 2, none⟩ = some (.int .i64 0) := cell_of a3
  have x3 : w3.cell? ⟨t3, 3, none⟩ = some (.int .i64 0) := cell_of a3
  have x4 : w3.cell? ⟨t3, 4, none⟩ = some (.int .u16 0) := cell_of a3
  have x5 : w3.cell? ⟨t3, 5, none⟩ = some (.slice none 0 0) := cell_of a3
  have y0 : w3.cell? ⟨t5, 0, none⟩ = some (.bool true) := cell_of b3
  have y1 : w3.cell? ⟨t5, 1, none⟩ = some (.bool true) := cell_of b3
  have y2 : w3.cell? ⟨t5, 2, none⟩ = some (.bool false) := cell_of b3
  have y3 : w3.cell? ⟨t5, 3, none⟩ = some (.bool true) := cell_of b3
  clear a3 b3
  go_wp2_with fail
  go_ret
  exact ⟨L3.out, by first | rfl | simp | simp [hp0, hp1]⟩
set_option maxRecDepth 100000 in
set_option maxHeartbeats 4000000 in
theorem operation_23 (w : World) (cp : Value) (res : Int) (hp : 0 < res) : Calls Tryz.prog 136 #[cp, .agg #[.int .i64 23, .int .i64 res, .int .i64 0, .int .i64 0, .int .u16 0, .slice none 0 0]] w (fun e w' => Low w.heap.size w w' ∧ e = .returned (.bool true)) := by
  have l1 : Low w.heap.size w (w.alloc (.cells #[.int .i64 23, .int .i64 res, .int .i64 0, .int .i64 0, .int .u16 0, .slice none 0 0] 33)) := (Low.refl _ w).alloc (Nat.le_refl _) _
  have a1 := heap_new w (.cells #[.int .i64 23, .int .i64 res, .int .i64 0, .int .i64 0, .int .u16 0, .slice none 0 0] 33)
  have hf : ∀ u, Calls Tryz.prog 143 #[.int .i64 23] u (fun e w' => e = .returned (.tuple #[.agg #[.bool true, .bool true, .bool false, .bool true], .bool true]) ∧ Below u.heap.size u w') := fun u => fields_any u 23 (by unfold OkCode; decide)
  have hp0 : (0 : Int) ≤ res := by omega
  have hp1 : (-1 : Int) ≤ res := by omega
  clear hp
  go_enter Tryz.func136, Tryz.ntmps136
  go_upto_region 1 with fail
  obtain ⟨t3, ht3⟩ : ∃ t, t = w.heap.size := ⟨_, rfl⟩
  rw [← ht3] at a1 ⊢
  clear ht3
  generalize w.alloc (.cells #[.int .i64 23, .int .i64 res, .int .i64 0, .int .i64 0, .int .u16 0, .slice none 0 0] 33) = w1 at a1 l1 ⊢
  have x0 : w1.cell? ⟨t3, 0, none⟩ = some (.int .i64 23) := cell_of a1
  have L1 := Lib.hid l1; have A1 := Lib.hid a1
  have hf1 := hf w1
  clear l1 a1 hf
  go_upto_region 2 with (first
    | (go_at_call 143; with_reducible refine hf1.mono ?_; rintro e w2 ⟨rfl, hb2⟩; have l2 := Low.of_below hb2; have L2 := Lib.hid (L1.out.trans (l2.mono L1.out.size)); have A2 := Lib.hid (l2.some A1.out); clear hb2 l2))
  have l3 : Low w2.heap.size w2 (w2.alloc (.cells #[.bool true, .bool true, .bool false, .bool true] 178)) := (Low.refl _ w2).alloc (Nat.le_refl _) _
  have b3 := heap_new w2 (.cells #[.bool true, .bool true, .bool false, .bool true] 178)
  have L3 := Lib.hid (L2.out.trans (l3.mono L2.out.size)); have a3 := l3.some A2.out
  clear l3 L1 A1 L2 A2 hf1 x0
  obtain ⟨t5, ht5⟩ : ∃ t, t = w2.heap.size := ⟨_, rfl⟩
  rw [← ht5] at b3 ⊢
  clear ht5
  generalize w2.alloc (.cells #[.bool true, .bool true, .bool false, .bool true] 178) = w3 at a3 b3 L3 ⊢
  have x0 : w3.cell? ⟨t3, 0, none⟩ = some (.int .i64 23) := cell_of a3
  have x1 : w3.cell? ⟨t3, 1, none⟩ = some (.int .i64 res) := cell_of a3
  have x2 : w3.cell? ⟨t3, 2, none⟩ = some (.int .i64 0) := cell_of a3
  have x3 : w3.cell? ⟨t3, 3, none⟩ = some (.int .i64 0) := cell_of a3
  have x4 : w3.cell? ⟨t3, 4, none⟩ = some (.int .u16 0) := cell_of a3
  have x5 : w3.cell? ⟨t3, 5, none⟩ = some (.slice none 0 0) := cell_of a3
  have y0 : w3.cell? ⟨t5, 0, none⟩ = some (.bool true) := cell_of b3
  have y1 : w3.cell? ⟨t5, 1, none⟩ = some (.bool true) := cell_of b3
  have y2 : w3.cell? ⟨t5, 2, none⟩ = some (.bool false) := cell_of b3
  have y3 : w3.cell? ⟨t5, 3, none⟩ = some (.bool true) := cell_of b3
  clear a3 b3
  go_wp2_with fail
  go_ret
  exact ⟨L3.out, by first | rfl | simp | simp [hp0, hp1]⟩
set_option maxRecDepth 100000 in
set_option maxHeartbeats 4000000 in
theorem operation_24 (w : World) (cp : Value) (res : Int) (hp : 0 < res) : Calls Tryz.prog 136 #[cp, .agg #[.int .i64 24, .int .i64 res, .int .i64 0, .int .i64 0, .int .u16 3, .slice none 0 0]] w (fun e w' => Low w.heap.size w w' ∧ e = .returned (.bool true)) := by
  have l1 : Low w.heap.size w (w.alloc (.cells #[.int .i64 24, .int .i64 res, .int .i64 0, .int .i64 0, .int .u16 3, .slice none 0 0] 33)) := (Low.refl _ w).alloc (Nat.le_refl _) _
  have a1 := heap_new w (.cells #[.int .i64 24, .int .i64 res, .int .i64 0, .int .i64 0, .int .u16 3, .slice none 0 0] 33)
  have hf : ∀ u, Calls Tryz.prog 143 #[.int .i64 24] u (fun e w' => e = .returned (.tuple #[.agg #[.bool true, .bool false, .bool false, .bool true], .bool true]) ∧ Below u.heap.size u w') := fun u => fields_any u 24 (by unfold OkCode; decide)
  have hp0 : (0 : Int) ≤ res := by omega
  have hp1 : (-1 : Int) ≤ res := by omega
  clear hp
  go_enter Tryz.func136, Tryz.ntmps136
  go_upto_region 1 with fail
  obtain ⟨t3, ht3⟩ : ∃ t, t = w.heap.size := ⟨_, rfl⟩
  rw [← ht3] at a1 ⊢
  clear ht3
  generalize w.alloc (.cells #[.int .i64 24, .int .i64 res, .int .i64 0, .int .i64 0, .int .u16 3, .slice none 0 0] 33) = w1 at a1 l1 ⊢
  have x0 : w1.cell? ⟨t3, 0, none⟩ = some (.int .i64 24) := cell_of a1
  have L1 := Lib.hid l1; have A1 := Lib.hid a1
  have hf1 := hf w1
  clear l1 a1 hf
  go_upto_region 2 with (first
    | (go_at_call 143; with_reducible refine hf1.mono ?_; rintro e w2 ⟨rfl, hb2⟩; have l2 := Low.of_below hb2; have L2 := Lib.hid (L1.out.trans (l2.mono L1.out.size)); have A2 := Lib.hid (l2.some A1.out); clear hb2 l2))
  have l3 : Low w2.heap.size w2 (w2.alloc (.cells #[.bool true, .bool false, .bool false, .bool true] 178)) := (Low.refl _ w2).alloc (Nat.le_refl _) _
  have b3 := heap_new w2 (.cells #[.bool true, .bool false, .bool false, .bool true] 178)
  have L3 := Lib.hid (L2.out.trans (l3.mono L2.out.size)); have a3 := l3.some A2.out
  clear l3 L1 A1 L2 A2 hf1 x0
  obtain ⟨t5, ht5⟩ : ∃ t, t = w2.heap.size := ⟨_, rfl⟩
  rw [← ht5] at b3 ⊢
  clear ht5
  generalize w2.alloc (.cells #[.bool true, .bool false, .bool false, .bool true] 178) = w3 at a3 b3 L3 ⊢
  have x0 : w3.cell? ⟨t3, 0, none⟩ = some (.int .i64 24) := cell_of a3
  have x1 : w3.cell? ⟨t3, 1, none⟩ = some (.int .i64 res) := cell_of a3
  have x2 : w3.cell? ⟨t3, 2, none⟩ = some (.int .i64 0) := cell_of a3
  have x3 : w3.cell? ⟨t3, 3, none⟩ = some (.int .i64 0) := cell_of a3
  have x4 : w3.cell? ⟨t3, 4, none⟩ = some (.int .u16 3) := cell_of a3
  have x5 : w3.cell? ⟨t3, 5, none⟩ = some (.slice none 0 0) := cell_of a3
  have y0 : w3.cell? ⟨t5, 0, none⟩ = some (.bool true) := cell_of b3
  have y1 : w3.cell? ⟨t5, 1, none⟩ = some (.bool false) := cell_of b3
  have y2 : w3.cell? ⟨t5, 2, none⟩ = some (.bool false) := cell_of b3
  have y3 : w3.cell? ⟨t5, 3, none⟩ = some (.bool true) := cell_of b3
  clear a3 b3
  go_wp2_with fail
  go_ret
  exact ⟨L3.out, by first | rfl | simp | simp [hp0, hp1]⟩
set_option maxRecDepth 100000 in
set_option maxHeartbeats 4000000 in
theorem operation_25 (w : World) (cp : Value) : Calls Tryz.prog 136 #[cp, .agg #[.int .i64 25, .int .i64 (-1), .int .i64 0, .int .i64 0, .int .u16 3, .slice none 0 0]] w (fun e w' => Low w.heap.size w w' ∧ e = .returned (.bool true)) := by
  have l1 : Low w.heap.size w (w.alloc (.cells #[.int .i64 25, .int .i64 (-1), .int .i64 0, .int .i64 0, .int .u16 3, .slice none 0 0] 33)) := (Low.refl _ w).alloc (Nat.le_refl _) _
  have a1 := heap_new w (.cells #[.int .i64 25, .int .i64 (-1), .int .i64 0, .int .i64 0, .int .u16 3, .slice none 0 0] 33)
  have hf : ∀ u, Calls Tryz.prog 143 #[.int .i64 25] u (fun e w' => e = .returned (.tuple #[.agg #[.bool false, .bool true, .bool false, .bool true], .bool true]) ∧ Below u.heap.size u w') := fun u => fields_any u 25 (by unfold OkCode; decide)
  go_enter Tryz.func136, Tryz.ntmps136
  go_upto_region 1 with fail
  obtain ⟨t3, ht3⟩ : ∃ t, t = w.heap.size := ⟨_, rfl⟩
  rw [← ht3] at a1 ⊢
  clear ht3
  generalize w.alloc (.cells #[.int .i64 25, .int .i64 (-1), .int .i64 0, .int .i64 0, .int .u16 3, .slice none 0 0] 33) = w1 at a1 l1 ⊢
  have x0 : w1.cell? ⟨t3, 0, none⟩ = some (.int .i64 25) := cell_of a1
  have L1 := Lib.hid l1; have A1 := Lib.hid a1
  have hf1 := hf w1
  clear l1 a1 hf
  go_upto_region 2 with (first
    | (go_at_call 143; with_reducible refine hf1.mono ?_; rintro e w2 ⟨rfl, hb2⟩; have l2 := Low.of_below hb2; have L2 := Lib.hid (L1.out.trans (l2.mono L1.out.size)); have A2 := Lib.hid (l2.some A1.out); clear hb2 l2))
  have l3 : Low w2.heap.size w2 (w2.alloc (.cells #[.bool false, .bool true, .bool false, .bool true] 178)) := (Low.refl _ w2).alloc (Nat.le_refl _) _
  have b3 := heap_new w2 (.cells #[.bool false, .bool true, .bool false, .bool true] 178)
  have L3 := Lib.hid (L2.out.trans (l3.mono L2.out.size)); have a3 := l3.some A2.out
  clear l3 L1 A1 L2 A2 hf1 x0
  obtain ⟨t5, ht5⟩ : ∃ t, t = w2.heap.size := ⟨_, rfl⟩
  rw [← ht5] at b3 ⊢
  clear ht5
  generalize w2.alloc (.cells #[.bool false, .bool true, .bool false, .bool true] 178) = w3 at a3 b3 L3 ⊢
  have x0 : w3.cell? ⟨t3, 0, none⟩ = some (.int .i64 25) := cell_of a3
  have x1 : w3.cell? ⟨t3, 1, none⟩ = some (.int .i64 (-1)) := cell_of a3
  have x2 : w3.cell? ⟨t3, 2, none⟩ = some (.int .i64 0) := cell_of a3
  have x3 : w3.cell? ⟨t3, 3, none⟩ = some (.int .i64 0) := cell_of a3
  have x4 : w3.cell? ⟨t3, 4, none⟩ = some (.int .u16 3) := cell_of a3
  have x5 : w3.cell? ⟨t3, 5, none⟩ = some (.slice none 0 0) := cell_of a3
  have y0 : w3.cell? ⟨t5, 0, none⟩ = some (.bool false) := cell_of b3
  have y1 : w3.cell? ⟨t5, 1, none⟩ = some (.bool true) := cell_of b3
  have y2 : w3.cell? ⟨t5, 2, none⟩ = some (.bool false) := cell_of b3
  have y3 : w3.cell? ⟨t5, 3, none⟩ = some (.bool true) := cell_of b3
  clear a3 b3
  go_wp2_with fail
  go_ret
  exact ⟨L3.out, by first | rfl | simp⟩
set_option maxRecDepth 100000 in
set_option maxHeartbeats 4000000 in
theorem operation_27 (w : World) (cp : Value) : Calls Tryz.prog 136 #[cp, .agg #[.int .i64 27, .int .i64 (-1), .int .i64 0, .int .i64 0, .int .u16 0, .slice none 0 0]] w (fun e w' => Low w.heap.size w w' ∧ e = .returned (.bool true)) := by
  have l1 : Low w.heap.size w (w.alloc (.cells #[.int .i64 27, .int .i64 (-1), .int .i64 0, .int .i64 0, .int .u16 0, .slice none 0 0] 33)) := (Low.refl _ w).alloc (Nat.le_refl _) _
  have a1 := heap_new w (.cells #[.int .i64 27, .int .i64 (-1), .int .i64 0, .int .i64 0, .int .u16 0, .slice none 0 0] 33)
  have hf : ∀ u, Calls Tryz.prog 143 #[.int .i64 27] u (fun e w' => e = .returned (.tuple #[.agg #[.bool false, .bool false, .bool false, .bool false], .bool true]) ∧ Below u.heap.size u w') := fun u => fields_any u 27 (by unfold OkCode; decide)
  go_enter Tryz.func136, Tryz.ntmps136
  go_upto_region 1 with fail
  obtain ⟨t3, ht3⟩ : ∃ t, t = w.heap.size := ⟨_, rfl⟩
  rw [← ht3] at a1 ⊢
  clear ht3
  generalize w.alloc (.cells #[.int .i64 27, .int .i64 (-1), .int .i64 0, .int .i64 0, .int .u16 0, .slice none 0 0] 33) = w1 at a1 l1 ⊢
  have x0 : w1.cell? ⟨t3, 0, none⟩ = some (.int .i64 27) := cell_of a1
  have L1 := Lib.hid l1; have A1 := Lib.hid a1
  have hf1 := hf w1
  clear l1 a1 hf
  go_upto_region 2 with (first
    | (go_at_call 143; with_reducible refine hf1.mono ?_; rintro e w2 ⟨rfl, hb2⟩; have l2 := Low.of_below hb2; have L2 := Lib.hid (L1.out.trans (l2.mono L1.out.size)); have A2 := Lib.hid (l2.some A1.out); clear hb2 l2))
  have l3 : Low w2.heap.size w2 (w2.alloc (.cells #[.bool false, .bool false, .bool false, .bool false] 178)) := (Low.refl _ w2).alloc (Nat.le_refl _) _
  have b3 := heap_new w2 (.cells #[.bool false, .bool false, .bool false, .bool false] 178)
  have L3 := Lib.hid (L2.out.trans (l3.mono L2.out.size)); have a3 := l3.some A2.out
  clear l3 L1 A1 L2 A2 hf1 x0
  obtain ⟨t5, ht5⟩ : ∃ t, t = w2.heap.size := ⟨_, rfl⟩
  rw [← ht5] at b3 ⊢
  clear ht5
  generalize w2.alloc (.cells #[.bool false, .bool false, .bool false, .bool false] 178) = w3 at a3 b3 L3 ⊢
  have x0 : w3.cell? ⟨t3, 0, none⟩ = some (.int .i64 27) := cell_of a3
  have x1 : w3.cell? ⟨t3, 1, none⟩ = some (.int .i64 (-1)) := cell_of a3
  have x2 : w3.cell? ⟨t3, 2, none⟩ = some (.int .i64 0) := cell_of a3
  have x3 : w3.cell? ⟨t3, 3, none⟩ = some (.int .i64 0) := cell_of a3
  have x4 : w3.cell? ⟨t3, 4, none⟩ = some (.int .u16 0) := cell_of a3
  have x5 : w3.cell? ⟨t3, 5, none⟩ = some (.slice none 0 0) := cell_of a3
  have y0 : w3.cell? ⟨t5, 0, none⟩ = some (.bool false) := cell_of b3
  have y1 : w3.cell? ⟨t5, 1, none⟩ = some (.bool false) := cell_of b3
  have y2 : w3.cell? ⟨t5, 2, none⟩ = some (.bool false) := cell_of b3
  have y3 : w3.cell? ⟨t5, 3, none⟩ = some (.bool false) := cell_of b3
  clear a3 b3
  go_wp2_with fail
  go_ret
  exact ⟨L3.out, by first | rfl | simp⟩
theorem operation_plain (w : World) (cp : Value) (o : Opn) (ho : OkOp o) (hn : NOk o) (h26 : o.code ≠ 26) : Calls Tryz.prog 136 #[cp, .agg #[.int .i64 o.code, .int .i64 o.res, .int .i64 0, .int .i64 0, .int .u16 o.n, .slice none 0 0]] w (fun e w' => Low w.heap.size w w' ∧ e = .returned (.bool true)) := by
  obtain ⟨code, res, n⟩ := o
  obtain ⟨hc, hr, hr1, hr2⟩ := ho
  obtain ⟨hn1, hn2⟩ := hn
  simp only at hc hr hr1 hr2 hn1 hn2 h26 ⊢
  simp only [OkCode, List.mem_cons, List.not_mem_nil, or_false] at hc
  rcases hc with rfl | rfl | rfl | rfl | rfl | rfl | rfl | rfl | rfl | rfl | rfl | rfl
  · have hz : n = 0 := hn2 (by decide) (by decide)
    subst hz
    exact operation_3 w cp res (hr1 (by decide))
  · have hz : n = 0 := hn2 (by decide) (by decide)
    subst hz
    exact operation_8 w cp res (hr1 (by decide))
  · have hz : n = 0 := hn2 (by decide) (by decide)
    subst hz
    exact operation_18 w cp res (hr1 (by decide))
  · have hz : n = 0 := hn2 (by decide) (by decide)
    subst hz
    exact operation_19 w cp res (hr1 (by decide))
  · have hz : n = 0 := hn2 (by decide) (by decide)
    subst hz
    have hq : res = -1 := hr2 (by decide)
    subst hq
    exact operation_20 w cp
  · have hz : n = 0 := hn2 (by decide) (by decide)
    subst hz
    have hq : res = -1 := hr2 (by decide)
    subst hq
    exact operation_21 w cp
  · have hz : n = 0 := hn2 (by decide) (by decide)
    subst hz
    exact operation_22 w cp res (hr1 (by decide))
  · have hz : n = 0 := hn2 (by decide) (by decide)
    subst hz
    exact operation_23 w cp res (hr1 (by decide))
  · have hz : n = 3 := hn1 (by decide)
    subst hz
    exact operation_24 w cp res (hr1 (by decide))
  · have hz : n = 3 := hn1 (by decide)
    subst hz
    have hq : res = -1 := hr2 (by decide)
    subst hq
    exact operation_25 w cp
  · exact absurd rfl h26
  · have hz : n = 0 := hn2 (by decide) (by decide)
    subst hz
    have hq : res = -1 := hr2 (by decide)
    subst hq
    exact operation_27 w cp
end Go.Proofs.YtnjdegjpmbdboaaGreat
