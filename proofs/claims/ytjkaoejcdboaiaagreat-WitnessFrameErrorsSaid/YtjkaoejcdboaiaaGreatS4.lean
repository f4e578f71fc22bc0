/- The reference's Encode, of plain instructions. -/
import Derived.Test.YtjkaoejcdboaiaaGreatT2
set_option linter.unusedSimpArgs false
set_option linter.unusedVariables false
set_option linter.unusedSectionVars false
namespace Go.Proofs.YtjkaoejcdboaiaaGreat
open Go.RowKit Go.Eng
set_option linter.unusedVariables false
set_option linter.unusedSectionVars false
set_option maxRecDepth 100000

theorem two_low (n : Int) (w : World) : Calls Tryz.prog 35 #[.int .u16 n] w (fun e w' => ∃ g, e = .returned (.slice (some ⟨g, 0, none⟩) 2 2) ∧ w.heap.size ≤ g ∧ w'.heap[g]? = some (.cells (bytesV [n % 256, n / 256 % 256]).toArray 5 (0, 0)) ∧ Low w.heap.size w w') :=
  (rtwo_any n w).mono (by
    rintro e w' ⟨rfl, rfl⟩
    exact ⟨_, rfl, Nat.le_refl _, heap_new w _, (Low.refl _ _).alloc (Nat.le_refl _) _⟩)
set_option maxHeartbeats 2000000 in
theorem renc_regs (op d s : Int) (o0 : 32 ≤ op) (o1 : op ≤ 46) (d0 : 0 ≤ d) (d1 : d < 8) (s0 : 0 ≤ s) (s1 : s < 8) (w : World) :
    Calls Tryz.prog 15 #[insV op d s 0 0 0 2] w (fun e w' => e = .returned (.tuple #[.string (strB [op, 16 * d + s]), .int .i64 0]) ∧ Low w.heap.size w w') := by
  have hval := rvalid_regs op d s o0 o1 d0 d1 s0 s1
  obtain ⟨n, rfl⟩ : ∃ n : Nat, op = n := ⟨op.toNat, by omega⟩
  obtain ⟨hk, hz⟩ := kind_regs n (by omega) (by omega) (by omega)
  have hwr : IntKind.u8.wrap (n : Int) = n := Go.IntWalk.u8_in _ (by omega)
  have hm : IntKind.i64.wrap (16 * d) = 16 * d := Go.IntWalk.i64_in _ (by omega)
  have hp : IntKind.i64.wrap (16 * d + s) = 16 * d + s := Go.IntWalk.i64_in _ (by omega)
  have hq : IntKind.u8.wrap (16 * d + s) = 16 * d + s := Go.IntWalk.u8_in _ (by omega)
  have ha := InsAt.new w n d s 0 0 0 2
  have l1 : Low w.heap.size w (w.alloc (insC n d s 0 0 0 2)) := (Low.refl _ _).alloc (Nat.le_refl _) _
  go_enter Tryz.func15, Tryz.ntmps15
  go_upto_region 1 with fail
  obtain ⟨t1, ht1⟩ : ∃ t, t = w.heap.size := ⟨_, rfl⟩
  have hs1 : (w.alloc (insC n d s 0 0 0 2)).heap.size = w.heap.size + 1 := by simp
  rw [← ht1] at ha hs1 ⊢
  have HT := Lib.hid ht1
  clear ht1
  generalize w.alloc (insC n d s 0 0 0 2) = w1 at l1 ha hs1 ⊢
  have HX : Hid (∀ w', Low w1.heap.size w1 w' → InsAt t1 n d s 0 0 0 2 w') := Lib.hid (fun w' l => ha.low l)
  obtain ⟨y0, y1, y2, y3, y4, y5, y6⟩ := ha
  have hkd := kind_low (op := n) (by omega) w1
  go_upto_region 2 with (first
    | (go_at_call 12; refine hkd.mono ?_; rintro e w2 ⟨rfl, l2⟩))
  clear y0 y1 y2 y3 y4 y5 y6 hkd
  have L1 := Lib.hid l1
  obtain ⟨y0, y1, y2, y3, y4, y5, y6⟩ := HX.out _ l2
  have hva := hval w2
  go_upto_region 7 with (first
    | (go_at_call 34; refine hva.mono ?_; rintro e w3 ⟨rfl, l3⟩))
  clear y0 y1 y2 y3 y4 y5 y6 hva hval
  have l3 := l2.trans (l3.mono l2.size)
  have HS3 : Hid (w.heap.size < w3.heap.size) := Lib.hid (by have := l3.size; have := HT.out; omega)
  clear hs1
  have L3 := Lib.hid (L1.out.trans (l3.mono L1.out.size))
  have lA : Low w3.heap.size w3 (w3.alloc (.cells #[.int .u8 n] 5)) := (Low.refl _ _).alloc (Nat.le_refl _) _
  have aA := heap_new w3 (.cells #[.int .u8 n] 5)
  have sA : (w3.alloc (.cells #[.int .u8 n] 5)).heap.size = w3.heap.size + 1 := by simp
  obtain ⟨y0, y1, y2, y3, y4, y5, y6⟩ := HX.out _ l3
  go_upto_region 8 with fail
  clear y0 y1 y2 y3 y4 y5 y6
  obtain ⟨gA, hgA⟩ : ∃ g, g = w3.heap.size := ⟨_, rfl⟩
  have HGA := Lib.hid hgA
  rw [← hgA] at aA sA ⊢
  clear hgA
  generalize w3.alloc (.cells #[.int .u8 n] 5) = wA at lA aA sA ⊢
  have LA := Lib.hid (l3.trans (lA.mono l3.size))
  have AA := Lib.hid aA
  have HA0 : Hid (w.heap.size ≤ gA) := Lib.hid (by have := HS3.out; have := HGA.out; omega)
  have HSA := Lib.hid sA
  clear lA aA sA l3
  obtain ⟨y0, y1, y2, y3, y4, y5, y6⟩ := HX.out wA LA.out
  have htw := two_low (0) wA
  go_upto_region 11 with (first
    | (go_at_call 35; refine htw.mono ?_; rintro e wB ⟨gB, rfl, hB0, aB, lB⟩))
  clear y0 y1 y2 y3 y4 y5 y6 htw
  have LB := Lib.hid lB
  have AB := Lib.hid aB
  have HBA0 := Lib.hid hB0
  clear lB aB hB0
  obtain ⟨y0, y1, y2, y3, y4, y5, y6⟩ := HX.out wB (LA.out.trans (LB.out.mono LA.out.size))
  have htw := two_low 0 wB
  go_upto_region 12 with (first
    | (go_at_call 35; refine htw.mono ?_; rintro e wC ⟨gC, rfl, hC0, aC, lC⟩))
  clear y0 y1 y2 y3 y4 y5 y6 htw aC hC0
  have hBA : gA < gB := by have := HBA0.out; have := HGA.out; have := HSA.out; omega
  have LC := Lib.hid (LB.out.trans (lC.mono LB.out.size))
  have aB := lC.some AB.out
  have lC' := LC.out
  clear lC
  obtain ⟨yB0, yB1⟩ : wC.cell? ⟨gB, 0, none⟩ = some (.int .u8 (0 % 256)) ∧ wC.cell? ⟨gB, 1, none⟩ = some (.int .u8 (0 / 256 % 256)) := ⟨cell_of aB, cell_of aB⟩
  have LT := Lib.hid (LA.out.trans (LC.out.mono LA.out.size))
  have oA : BytesO wC w.heap.size (some ⟨gA, 0, none⟩) 1 1 [(n : Int)] := BytesO.new HA0.out (LC.out.some AA.out) Nat.zero_lt_one (show 1 ≤ 1000 by omega)
  have hSC : w.heap.size ≤ wC.heap.size := Nat.le_trans L1.out.size LT.out.size
  clear lC' aB
  have l4 : Low wC.heap.size wC (wC.alloc (.cells #[.int .u8 (16 * d + s)] 5)) := (Low.refl _ _).alloc (Nat.le_refl _) _
  obtain ⟨A', c', w5, hrun, ho, hl, _⟩ := app_bytes (oA.low l4) (ys := [16 * d + s]) (g := wC.heap.size) (m := 1) (d := 1) (k := 2) (heap_new wC _) rfl rfl (by omega) (by simp; omega)
  have hcv := ho.conv (by omega)
  have LE := Lib.hid (L1.out.trans ((LT.out.mono L1.out.size).trans ((l4.mono hSC).trans hl)))
  clear l4 hl ho oA hSC
  go_wp2_with (first
    | (at_builtin; refine wpList_known rfl (.tmp 58) (.tmp 60) rfl rfl rfl hrun ?_))
  go_returns
  exact ⟨rfl, LE.out⟩

set_option maxHeartbeats 2000000 in
theorem renc_short (op d imm : Int) (o0 : 48 ≤ op) (o1 : op ≤ 62) (d0 : 0 ≤ d) (d1 : d < 8) (hi : imm < 128 ∨ 65408 ≤ imm) (w : World) :
    Calls Tryz.prog 15 #[insV op d 0 imm 0 0 3] w (fun e w' => e = .returned (.tuple #[.string (strB [op, d, imm % 256]), .int .i64 0]) ∧ Low w.heap.size w w') := by
  have hval := rvalid_short op d imm o0 o1 d0 d1 hi
  obtain ⟨n, rfl⟩ : ∃ n : Nat, op = n := ⟨op.toNat, by omega⟩
  obtain ⟨hk, hz⟩ := kind_short n (by omega) (by omega) (by omega)
  have hwr : IntKind.u8.wrap (n : Int) = n := Go.IntWalk.u8_in _ (by omega)
  have hp : IntKind.u8.wrap d = d := Go.IntWalk.u8_in _ (by omega)
  have ha := InsAt.new w n d 0 imm 0 0 3
  have l1 : Low w.heap.size w (w.alloc (insC n d 0 imm 0 0 3)) := (Low.refl _ _).alloc (Nat.le_refl _) _
  go_enter Tryz.func15, Tryz.ntmps15
  go_upto_region 1 with fail
  obtain ⟨t1, ht1⟩ : ∃ t, t = w.heap.size := ⟨_, rfl⟩
  have hs1 : (w.alloc (insC n d 0 imm 0 0 3)).heap.size = w.heap.size + 1 := by simp
  rw [← ht1] at ha hs1 ⊢
  have HT := Lib.hid ht1
  clear ht1
  generalize w.alloc (insC n d 0 imm 0 0 3) = w1 at l1 ha hs1 ⊢
  have HX : Hid (∀ w', Low w1.heap.size w1 w' → InsAt t1 n d 0 imm 0 0 3 w') := Lib.hid (fun w' l => ha.low l)
  obtain ⟨y0, y1, y2, y3, y4, y5, y6⟩ := ha
  have hkd := kind_low (op := n) (by omega) w1
  go_upto_region 2 with (first
    | (go_at_call 12; refine hkd.mono ?_; rintro e w2 ⟨rfl, l2⟩))
  clear y0 y1 y2 y3 y4 y5 y6 hkd
  have L1 := Lib.hid l1
  obtain ⟨y0, y1, y2, y3, y4, y5, y6⟩ := HX.out _ l2
  have hva := hval w2
  go_upto_region 7 with (first
    | (go_at_call 34; refine hva.mono ?_; rintro e w3 ⟨rfl, l3⟩))
  clear y0 y1 y2 y3 y4 y5 y6 hva hval
  have l3 := l2.trans (l3.mono l2.size)
  have HS3 : Hid (w.heap.size < w3.heap.size) := Lib.hid (by have := l3.size; have := HT.out; omega)
  clear hs1
  have L3 := Lib.hid (L1.out.trans (l3.mono L1.out.size))
  have lA : Low w3.heap.size w3 (w3.alloc (.cells #[.int .u8 n] 5)) := (Low.refl _ _).alloc (Nat.le_refl _) _
  have aA := heap_new w3 (.cells #[.int .u8 n] 5)
  have sA : (w3.alloc (.cells #[.int .u8 n] 5)).heap.size = w3.heap.size + 1 := by simp
  obtain ⟨y0, y1, y2, y3, y4, y5, y6⟩ := HX.out _ l3
  go_upto_region 8 with fail
  clear y0 y1 y2 y3 y4 y5 y6
  obtain ⟨gA, hgA⟩ : ∃ g, g = w3.heap.size := ⟨_, rfl⟩
  have HGA := Lib.hid hgA
  rw [← hgA] at aA sA ⊢
  clear hgA
  generalize w3.alloc (.cells #[.int .u8 n] 5) = wA at lA aA sA ⊢
  have LA := Lib.hid (l3.trans (lA.mono l3.size))
  have AA := Lib.hid aA
  have HA0 : Hid (w.heap.size ≤ gA) := Lib.hid (by have := HS3.out; have := HGA.out; omega)
  have HSA := Lib.hid sA
  clear lA aA sA l3
  obtain ⟨y0, y1, y2, y3, y4, y5, y6⟩ := HX.out wA LA.out
  have htw := two_low (imm) wA
  go_upto_region 11 with (first
    | (go_at_call 35; refine htw.mono ?_; rintro e wB ⟨gB, rfl, hB0, aB, lB⟩))
  clear y0 y1 y2 y3 y4 y5 y6 htw
  have LB := Lib.hid lB
  have AB := Lib.hid aB
  have HBA0 := Lib.hid hB0
  clear lB aB hB0
  obtain ⟨y0, y1, y2, y3, y4, y5, y6⟩ := HX.out wB (LA.out.trans (LB.out.mono LA.out.size))
  have htw := two_low 0 wB
  go_upto_region 12 with (first
    | (go_at_call 35; refine htw.mono ?_; rintro e wC ⟨gC, rfl, hC0, aC, lC⟩))
  clear y0 y1 y2 y3 y4 y5 y6 htw aC hC0
  have hBA : gA < gB := by have := HBA0.out; have := HGA.out; have := HSA.out; omega
  have LC := Lib.hid (LB.out.trans (lC.mono LB.out.size))
  have aB := lC.some AB.out
  have lC' := LC.out
  clear lC
  obtain ⟨yB0, yB1⟩ : wC.cell? ⟨gB, 0, none⟩ = some (.int .u8 (imm % 256)) ∧ wC.cell? ⟨gB, 1, none⟩ = some (.int .u8 (imm / 256 % 256)) := ⟨cell_of aB, cell_of aB⟩
  have LT := Lib.hid (LA.out.trans (LC.out.mono LA.out.size))
  have oA : BytesO wC w.heap.size (some ⟨gA, 0, none⟩) 1 1 [(n : Int)] := BytesO.new HA0.out (LC.out.some AA.out) Nat.zero_lt_one (show 1 ≤ 1000 by omega)
  have hSC : w.heap.size ≤ wC.heap.size := Nat.le_trans L1.out.size LT.out.size
  clear lC' aB
  have l4 : Low wC.heap.size wC (wC.alloc (.cells #[.int .u8 (d), .int .u8 (imm % 256)] 5)) := (Low.refl _ _).alloc (Nat.le_refl _) _
  obtain ⟨A', c', w5, hrun, ho, hl, _⟩ := app_bytes (oA.low l4) (ys := [d, imm % 256]) (g := wC.heap.size) (m := 2) (d := 2) (k := 3) (heap_new wC _) rfl rfl (by omega) (by simp; omega)
  have hcv := ho.conv (by omega)
  have LE := Lib.hid (L1.out.trans ((LT.out.mono L1.out.size).trans ((l4.mono hSC).trans hl)))
  clear l4 hl ho oA hSC
  go_wp2_with (first
    | (at_builtin; refine wpList_known rfl (.tmp 66) (.tmp 71) rfl rfl rfl hrun ?_))
  go_returns
  exact ⟨rfl, LE.out⟩

set_option maxHeartbeats 2000000 in
theorem renc_long (op d imm : Int) (o0 : 64 ≤ op) (o1 : op ≤ 78) (d0 : 0 ≤ d) (d1 : d < 8) (w : World) :
    Calls Tryz.prog 15 #[insV op d 0 imm 0 0 4] w (fun e w' => e = .returned (.tuple #[.string (strB [op, d, imm % 256, imm / 256 % 256]), .int .i64 0]) ∧ Low w.heap.size w w') := by
  have hval := rvalid_long op d imm o0 o1 d0 d1
  obtain ⟨n, rfl⟩ : ∃ n : Nat, op = n := ⟨op.toNat, by omega⟩
  obtain ⟨hk, hz⟩ := kind_long n (by omega) (by omega) (by omega)
  have hwr : IntKind.u8.wrap (n : Int) = n := Go.IntWalk.u8_in _ (by omega)
  have hp : IntKind.u8.wrap d = d := Go.IntWalk.u8_in _ (by omega)
  have ha := InsAt.new w n d 0 imm 0 0 4
  have l1 : Low w.heap.size w (w.alloc (insC n d 0 imm 0 0 4)) := (Low.refl _ _).alloc (Nat.le_refl _) _
  go_enter Tryz.func15, Tryz.ntmps15
  go_upto_region 1 with fail
  obtain ⟨t1, ht1⟩ : ∃ t, t = w.heap.size := ⟨_, rfl⟩
  have hs1 : (w.alloc (insC n d 0 imm 0 0 4)).heap.size = w.heap.size + 1 := by simp
  rw [← ht1] at ha hs1 ⊢
  have HT := Lib.hid ht1
  clear ht1
  generalize w.alloc (insC n d 0 imm 0 0 4) = w1 at l1 ha hs1 ⊢
  have HX : Hid (∀ w', Low w1.heap.size w1 w' → InsAt t1 n d 0 imm 0 0 4 w') := Lib.hid (fun w' l => ha.low l)
  obtain ⟨y0, y1, y2, y3, y4, y5, y6⟩ := ha
  have hkd := kind_low (op := n) (by omega) w1
  go_upto_region 2 with (first
    | (go_at_call 12; refine hkd.mono ?_; rintro e w2 ⟨rfl, l2⟩))
  clear y0 y1 y2 y3 y4 y5 y6 hkd
  have L1 := Lib.hid l1
  obtain ⟨y0, y1, y2, y3, y4, y5, y6⟩ := HX.out _ l2
  have hva := hval w2
  go_upto_region 7 with (first
    | (go_at_call 34; refine hva.mono ?_; rintro e w3 ⟨rfl, l3⟩))
  clear y0 y1 y2 y3 y4 y5 y6 hva hval
  have l3 := l2.trans (l3.mono l2.size)
  have HS3 : Hid (w.heap.size < w3.heap.size) := Lib.hid (by have := l3.size; have := HT.out; omega)
  clear hs1
  have L3 := Lib.hid (L1.out.trans (l3.mono L1.out.size))
  have lA : Low w3.heap.size w3 (w3.alloc (.cells #[.int .u8 n] 5)) := (Low.refl _ _).alloc (Nat.le_refl _) _
  have aA := heap_new w3 (.cells #[.int .u8 n] 5)
  have sA : (w3.alloc (.cells #[.int .u8 n] 5)).heap.size = w3.heap.size + 1 := by simp
  obtain ⟨y0, y1, y2, y3, y4, y5, y6⟩ := HX.out _ l3
  go_upto_region 8 with fail
  clear y0 y1 y2 y3 y4 y5 y6
  obtain ⟨gA, hgA⟩ : ∃ g, g = w3.heap.size := ⟨_, rfl⟩
  have HGA := Lib.hid hgA
  rw [← hgA] at aA sA ⊢
  clear hgA
  generalize w3.alloc (.cells #[.int .u8 n] 5) = wA at lA aA sA ⊢
  have LA := Lib.hid (l3.trans (lA.mono l3.size))
  have AA := Lib.hid aA
  have HA0 : Hid (w.heap.size ≤ gA) := Lib.hid (by have := HS3.out; have := HGA.out; omega)
  have HSA := Lib.hid sA
  clear lA aA sA l3
  obtain ⟨y0, y1, y2, y3, y4, y5, y6⟩ := HX.out wA LA.out
  have htw := two_low (imm) wA
  go_upto_region 11 with (first
    | (go_at_call 35; refine htw.mono ?_; rintro e wB ⟨gB, rfl, hB0, aB, lB⟩))
  clear y0 y1 y2 y3 y4 y5 y6 htw
  have LB := Lib.hid lB
  have AB := Lib.hid aB
  have HBA0 := Lib.hid hB0
  clear lB aB hB0
  obtain ⟨y0, y1, y2, y3, y4, y5, y6⟩ := HX.out wB (LA.out.trans (LB.out.mono LA.out.size))
  have htw := two_low 0 wB
  go_upto_region 12 with (first
    | (go_at_call 35; refine htw.mono ?_; rintro e wC ⟨gC, rfl, hC0, aC, lC⟩))
  clear y0 y1 y2 y3 y4 y5 y6 htw aC hC0
  have hBA : gA < gB := by have := HBA0.out; have := HGA.out; have := HSA.out; omega
  have LC := Lib.hid (LB.out.trans (lC.mono LB.out.size))
  have aB := lC.some AB.out
  have lC' := LC.out
  clear lC
  obtain ⟨yB0, yB1⟩ : wC.cell? ⟨gB, 0, none⟩ = some (.int .u8 (imm % 256)) ∧ wC.cell? ⟨gB, 1, none⟩ = some (.int .u8 (imm / 256 % 256)) := ⟨cell_of aB, cell_of aB⟩
  have LT := Lib.hid (LA.out.trans (LC.out.mono LA.out.size))
  have oA : BytesO wC w.heap.size (some ⟨gA, 0, none⟩) 1 1 [(n : Int)] := BytesO.new HA0.out (LC.out.some AA.out) Nat.zero_lt_one (show 1 ≤ 1000 by omega)
  have hSC : w.heap.size ≤ wC.heap.size := Nat.le_trans L1.out.size LT.out.size
  clear lC' aB
  have hB : Hid (∀ w', Low wC.heap.size wC w' → w'.cell? ⟨gB, 0, none⟩ = some (.int .u8 (imm % 256)) ∧ w'.cell? ⟨gB, 1, none⟩ = some (.int .u8 (imm / 256 % 256))) := Lib.hid fun w' l => ⟨l.cell yB0, l.cell yB1⟩
  have HOA := Lib.hid oA; have HSC := Lib.hid hSC; have HBA := Lib.hid hBA
  clear oA hSC hBA
  clear yB0 yB1
  go_upto_region 27 with fail
  have ld : Low wC.heap.size wC wC.drew := (Low.refl _ _).drew
  have hSd := hB.out _ ld
  have HLd := Lib.hid ld
  clear ld
  refine wp_region_noPanic ?_
  refine wp_region_held_drew (S := fun w' => w'.cell? ⟨gB, 0, none⟩ = some (.int .u8 (imm % 256)) ∧ w'.cell? ⟨gB, 1, none⟩ = some (.int .u8 (imm / 256 % 256))) (by kernel_rfl) (by exact hSd) (fun hHeld => ?_)
  generalize wC.drew = wd at hHeld hSd HLd ⊢
  refine take_at (i := 0) (v := ?_) rfl (by kernel_rfl) (by kernel_rfl) (by kernel_rfl) (fun _ _ _ h => h) (by rfl) ?_ (by exact hHeld) ?_
  rotate_left
  · intro w' hSw; obtain ⟨y0, y1⟩ := hSw; go_simp; (try with_reducible rfl)
  (try simp only [Act.put, List.setIfInBounds_toArray, List.set_cons_zero, List.set_cons_succ])
  refine take_at (i := 1) (v := ?_) rfl (by kernel_rfl) (by kernel_rfl) (by kernel_rfl) (fun _ _ _ h => h) (by rfl) ?_ (by exact hHeld) ?_
  rotate_left
  · intro w' hSw; obtain ⟨y0, y1⟩ := hSw; go_simp; (try with_reducible rfl)
  (try simp only [Act.put, List.setIfInBounds_toArray, List.set_cons_zero, List.set_cons_succ])
  refine take_at (i := 2) (v := ?_) rfl (by kernel_rfl) (by kernel_rfl) (by kernel_rfl) (fun _ _ _ h => h) (by rfl) ?_ (by exact hHeld) ?_
  rotate_left
  · intro w' hSw; obtain ⟨y0, y1⟩ := hSw; go_simp; (try with_reducible rfl)
  (try simp only [Act.put, List.setIfInBounds_toArray, List.set_cons_zero, List.set_cons_succ])
  refine take_at (i := 3) (v := ?_) rfl (by kernel_rfl) (by kernel_rfl) (by kernel_rfl) (fun _ _ _ h => h) (by rfl) ?_ (by exact hHeld) ?_
  rotate_left
  · intro w' hSw; obtain ⟨y0, y1⟩ := hSw; go_simp; (try with_reducible rfl)
  (try simp only [Act.put, List.setIfInBounds_toArray, List.set_cons_zero, List.set_cons_succ])
  refine take_at (i := 4) (v := ?_) rfl (by kernel_rfl) (by kernel_rfl) (by kernel_rfl) (fun _ _ _ h => h) (by rfl) ?_ (by exact hHeld) ?_
  rotate_left
  · intro w' hSw; obtain ⟨y0, y1⟩ := hSw; go_simp; (try with_reducible rfl)
  (try simp only [Act.put, List.setIfInBounds_toArray, List.set_cons_zero, List.set_cons_succ])
  refine take_at (i := 5) (v := ?_) rfl (by kernel_rfl) (by kernel_rfl) (by kernel_rfl) (fun _ _ _ h => h) (by rfl) ?_ (by exact hHeld) ?_
  rotate_left
  · intro w' hSw; obtain ⟨y0, y1⟩ := hSw; go_simp; (try with_reducible rfl)
  (try simp only [Act.put, List.setIfInBounds_toArray, List.set_cons_zero, List.set_cons_succ])
  refine take_at (i := 6) (v := ?_) rfl (by kernel_rfl) (by kernel_rfl) (by kernel_rfl) (fun _ _ _ h => h) (by rfl) ?_ (by exact hHeld) ?_
  rotate_left
  · intro w' hSw; obtain ⟨y0, y1⟩ := hSw; go_simp; (try with_reducible rfl)
  (try simp only [Act.put, List.setIfInBounds_toArray, List.set_cons_zero, List.set_cons_succ])
  refine take_at (i := 7) (v := ?_) rfl (by kernel_rfl) (by kernel_rfl) (by kernel_rfl) (fun _ _ _ h => h) (by rfl) ?_ (by exact hHeld) ?_
  rotate_left
  · intro w' hSw; obtain ⟨y0, y1⟩ := hSw; go_simp; (try with_reducible rfl)
  (try simp only [Act.put, List.setIfInBounds_toArray, List.set_cons_zero, List.set_cons_succ])
  refine wpAnyH_ready (rs := [8]) (by kernel_rfl) (by simp) ?_
  refine next_at (i := 8) rfl (fun KK hKK => ?_) AllReadyH.nil
  have l4 : Low wd.heap.size wd (wd.alloc (.cells #[.int .u8 d, .int .u8 (imm % 256), .int .u8 (imm / 256 % 256)] 5)) := (Low.refl _ _).alloc (Nat.le_refl _) _
  have a4 := heap_new wd (.cells #[.int .u8 d, .int .u8 (imm % 256), .int .u8 (imm / 256 % 256)] 5)
  go_simp
  generalize wd.alloc (.cells #[.int .u8 d, .int .u8 (imm % 256), .int .u8 (imm / 256 % 256)] 5) = w4 at l4 a4 hHeld ⊢
  have L4 := Lib.hid (HLd.out.trans (l4.mono HLd.out.size))
  clear l4
  refine hKK.out _ _ (by exact (hB.out _ L4.out)) (fun hHeld => ?_)
  clear hKK KK
  (try simp only [Act.put, List.setIfInBounds_toArray, List.set_cons_zero, List.set_cons_succ])
  have hsz : w.heap.size ≤ w4.heap.size := Nat.le_trans HSC.out L4.out.size
  obtain ⟨A', c', w5, hrun, ho, hl, hkp⟩ := app_bytes (HOA.out.low L4.out) (ys := [d, imm % 256, imm / 256 % 256]) (m := 3) (d := 3) (k := 4) a4 rfl rfl (by omega) hsz
  have hcv := ho.conv (by omega)
  have LE := Lib.hid (L1.out.trans ((LT.out.mono L1.out.size).trans ((L4.out.mono HSC.out).trans hl)))
  have hgB : gB < w4.heap.size := Nat.lt_of_lt_of_le (cell_lt (hB.out _ (Low.refl _ _)).1) L4.out.size
  have hne : ∀ o : Nat, (some ⟨gA, 0, none⟩ : Option Addr) ≠ some ⟨gB, o, none⟩ := fun o e => by
    have h1 : gA = gB := by simpa using congrArg (fun a => a.map Addr.block) e
    have := HBA.out
    omega
  have hk5 := hkp gB hgB hne
  have hS5 : w5.cell? ⟨gB, 0, none⟩ = some (.int .u8 (imm % 256)) ∧ w5.cell? ⟨gB, 1, none⟩ = some (.int .u8 (imm / 256 % 256)) := by
    obtain ⟨q0, q1⟩ := hB.out _ L4.out
    exact ⟨(World.cell?_of_block (a := ⟨gB, 0, none⟩) hk5).trans q0, (World.cell?_of_block (a := ⟨gB, 1, none⟩) hk5).trans q1⟩
  clear hl hkp hk5 hne hgB ho
  refine wpAnyH_ready (rs := [9]) (by kernel_rfl) (by simp) ?_
  refine next_at (i := 9) rfl (fun KK hKK => ?_) AllReadyH.nil
  refine step_known rfl (.tmp 77) (.tmp 85) rfl rfl rfl hrun ?_
  refine hKK.out _ _ (by exact hS5) (fun hHeld => ?_)
  clear hKK KK
  (try simp only [Act.put, List.setIfInBounds_toArray, List.set_cons_zero, List.set_cons_succ])
  refine take_at (i := 10) (v := ?_) rfl (by kernel_rfl) (by kernel_rfl) (by kernel_rfl) (fun _ _ _ h => h) (by rfl) ?_ (by exact hHeld) ?_
  rotate_left
  · intro w' hSw; obtain ⟨y0, y1⟩ := hSw; go_simp; (try with_reducible rfl)
  (try simp only [Act.put, List.setIfInBounds_toArray, List.set_cons_zero, List.set_cons_succ])
  refine wpAnyH_done (by kernel_rfl) ?_ _
  refine NoPanic.normal ?_
  clear hHeld hSd hS5 a4 hrun hsz
  go_wp2_with fail
  go_returns
  exact ⟨rfl, LE.out⟩

end Go.Proofs.YtjkaoejcdboaiaaGreat
