/- A program with one thing changed: the objects. -/
import Derived.Test.YtahljbkaemhpcaaGreatNE
namespace Go.Proofs.YtahljbkaemhpcaaGreat
open Go.RowKit
set_option linter.unusedVariables false
theorem idx62_0 (u : World) : (Instr.index 62 (.agg #[.int .i64 16392, .int .i64 24575, .int .i64 512, .int .i64 16896]) (.int .i64 0)).run Tryz.prog u = .ok (.int .i64 16392) u := by kernel_rfl
theorem idx62_1 (u : World) : (Instr.index 62 (.agg #[.int .i64 16392, .int .i64 24575, .int .i64 512, .int .i64 16896]) (.int .i64 1)).run Tryz.prog u = .ok (.int .i64 24575) u := by kernel_rfl
theorem idx62_2 (u : World) : (Instr.index 62 (.agg #[.int .i64 16392, .int .i64 24575, .int .i64 512, .int .i64 16896]) (.int .i64 2)).run Tryz.prog u = .ok (.int .i64 512) u := by kernel_rfl
theorem idx62_3 (u : World) : (Instr.index 62 (.agg #[.int .i64 16392, .int .i64 24575, .int .i64 512, .int .i64 16896]) (.int .i64 3)).run Tryz.prog u = .ok (.int .i64 16896) u := by kernel_rfl
theorem obj_typed {B K : Nat} {w : World} (z1 z2 z3 : Int) : ∀ j ck, layK 53 j = some ck → ∀ v, (#[.int .i64 z1, .int .u16 z2, .int .u16 z3] : Array Value)[j]? = some v → Fits B K w ck v := by
  intro j ck hl v hv
  match j, hl, hv with
  | 0, hl, hv => cases hl; cases hv; exact ⟨_, rfl⟩
  | 1, hl, hv | 2, hl, hv => cases hl; cases hv; exact ⟨_, rfl⟩
set_option maxRecDepth 100000 in
set_option maxHeartbeats 8000000 in
theorem turned16 (B K : Nat) (w : World) (fa : Option Addr) (n fc : Nat) (aa : Option Addr) (na ac : Nat) (en ha : Int) (da : Option Addr) (nd dc : Nat) (ba : Option Addr) (nb bc : Nat) (q0 q1 q2 : Int) (hwh : (wrap64 (q0.tmod 20 + 20)).tmod 20 = 16) (hw : WT B K w) (hB : B ≤ w.heap.size) (hK : K + 2 ≤ big) (hp : TP B K w fa n fc aa na ac da nd dc ba nb bc) :
    Calls Tryz.prog 6 #[.agg #[.slice fa n fc, .slice aa na ac, .int .i64 en, .int .i64 ha, .slice da nd dc, .slice ba nb bc], .agg #[.int .i64 q0, .int .i64 q1, .int .i64 q2]] w (ProgK B (K + 2) w B) := by
  have w3 := ((hw.allocOther (.cells #[.slice fa n fc, .slice aa na ac, .int .i64 en, .int .i64 ha, .slice da nd dc, .slice ba nb bc] 29) (other_typed rfl (fun _ => rfl))).allocOther (.cells #[.int .i64 q0, .int .i64 q1, .int .i64 q2] 23) (other_typed rfl (fun _ => rfl))).allocOther (.cells #[.slice none 0 0, .slice none 0 0, .int .i64 0, .int .i64 0, .slice none 0 0, .slice none 0 0] 29) (other_typed rfl (fun _ => rfl))
  have b3 : Below w.heap.size w (((w.alloc (.cells #[.slice fa n fc, .slice aa na ac, .int .i64 en, .int .i64 ha, .slice da nd dc, .slice ba nb bc] 29)).alloc (.cells #[.int .i64 q0, .int .i64 q1, .int .i64 q2] 23)).alloc (.cells #[.slice none 0 0, .slice none 0 0, .int .i64 0, .int .i64 0, .slice none 0 0, .slice none 0 0] 29)) := (((Below.refl _ _).alloc (Nat.le_refl _) _).alloc (by simp) _).alloc (by simp; omega) _
  have tp3 := hp.on (shape_below b3) (Nat.le_refl _)
  have hs3 : w.heap.size + 2 < (((w.alloc (.cells #[.slice fa n fc, .slice aa na ac, .int .i64 en, .int .i64 ha, .slice da nd dc, .slice ba nb bc] 29)).alloc (.cells #[.int .i64 q0, .int .i64 q1, .int .i64 q2] 23)).alloc (.cells #[.slice none 0 0, .slice none 0 0, .int .i64 0, .int .i64 0, .slice none 0 0, .slice none 0 0] 29)).heap.size := by simp
  have hx1 : (((w.alloc (.cells #[.slice fa n fc, .slice aa na ac, .int .i64 en, .int .i64 ha, .slice da nd dc, .slice ba nb bc] 29)).alloc (.cells #[.int .i64 q0, .int .i64 q1, .int .i64 q2] 23)).alloc (.cells #[.slice none 0 0, .slice none 0 0, .int .i64 0, .int .i64 0, .slice none 0 0, .slice none 0 0] 29)).heap[w.heap.size + 1]? = some (.cells #[.int .i64 q0, .int .i64 q1, .int .i64 q2] 23 (0, 0)) := by
    rw [Below.heap_alloc _ _ _ (by simp)]
    have := heap_alloc_new (w.alloc (.cells #[.slice fa n fc, .slice aa na ac, .int .i64 en, .int .i64 ha, .slice da nd dc, .slice ba nb bc] 29)) (.cells #[.int .i64 q0, .int .i64 q1, .int .i64 q2] 23)
    have hs1 : (w.alloc (.cells #[.slice fa n fc, .slice aa na ac, .int .i64 en, .int .i64 ha, .slice da nd dc, .slice ba nb bc] 29)).heap.size = w.heap.size + 1 := by simp
    rw [hs1] at this; exact this
  have hx2 : (((w.alloc (.cells #[.slice fa n fc, .slice aa na ac, .int .i64 en, .int .i64 ha, .slice da nd dc, .slice ba nb bc] 29)).alloc (.cells #[.int .i64 q0, .int .i64 q1, .int .i64 q2] 23)).alloc (.cells #[.slice none 0 0, .slice none 0 0, .int .i64 0, .int .i64 0, .slice none 0 0, .slice none 0 0] 29)).heap[w.heap.size + 2]? = some (.cells #[.slice none 0 0, .slice none 0 0, .int .i64 0, .int .i64 0, .slice none 0 0, .slice none 0 0] 29 (0, 0)) := by
    have := heap_alloc_new ((w.alloc (.cells #[.slice fa n fc, .slice aa na ac, .int .i64 en, .int .i64 ha, .slice da nd dc, .slice ba nb bc] 29)).alloc (.cells #[.int .i64 q0, .int .i64 q1, .int .i64 q2] 23)) (.cells #[.slice none 0 0, .slice none 0 0, .int .i64 0, .int .i64 0, .slice none 0 0, .slice none 0 0] 29)
    have hs1 : ((w.alloc (.cells #[.slice fa n fc, .slice aa na ac, .int .i64 en, .int .i64 ha, .slice da nd dc, .slice ba nb bc] 29)).alloc (.cells #[.int .i64 q0, .int .i64 q1, .int .i64 q2] 23)).heap.size = w.heap.size + 2 := by simp
    rw [hs1] at this; exact this
  have HW3 := Lib.hid w3; have HB3 := Lib.hid b3; have HTP := Lib.hid tp3; have HX1 := Lib.hid hx1; have HX2 := Lib.hid hx2; have HS3 := Lib.hid hs3
  have HKK : Hid (K ≤ big) := by show K ≤ big; omega
  clear w3 b3 tp3 hx1 hx2 hs3 hw hp
  obtain ⟨nn, hnn, hnb⟩ := and_mask q2
  obtain ⟨m1, hm1, hm1b⟩ := and_mask q1
  go_enter Tryz.func6, Tryz.ntmps6
  go_upto_region 2 with (first
    | (go_at_call 17; refine ((own_any B K _ fa n fc aa na ac en ha da nd dc ba nb bc HW3.out (Nat.le_trans hB HB3.out.size) HKK.out HTP.out).mono ProgP.lit).mono ?_; rintro e w1 ⟨fa1, n1, fc1, aa1, na1, ac1, en1, ha1, da1, nd1, dc1, ba1, nb1, bc1, rfl, tp1, wt1, bel1, sh1⟩))
  have x1 : w1.heap[w.heap.size + 1]? = some (.cells #[.int .i64 q0, .int .i64 q1, .int .i64 q2] 23 (0, 0)) := (bel1.block _ (by have := HS3.out; omega)).trans HX1.out
  have x2 : w1.heap[w.heap.size + 2]? = some (.cells #[.slice none 0 0, .slice none 0 0, .int .i64 0, .int .i64 0, .slice none 0 0, .slice none 0 0] 29 (0, 0)) := (bel1.block _ HS3.out).trans HX2.out
  have hB1 : B ≤ w1.heap.size := Nat.le_trans (Nat.le_trans hB HB3.out.size) bel1.size
  have ty1 : TyT B K w w1 := ⟨wt1, (HB3.out.mono hB).trans (bel1.mono (Nat.le_trans hB HB3.out.size)), (shape_below HB3.out).trans sh1, (Keeps.of_below HB3.out).trans (Keeps.of_below bel1)⟩
  have ty2 : TyT B K w (w1.alloc (.cells #[.slice fa1 n1 fc1, .slice aa1 na1 ac1, .int .i64 en1, .int .i64 ha1, .slice da1 nd1 dc1, .slice ba1 nb1 bc1] 29)) := ty1.alloc hB1 (fun j ck hl => by cases hl)
  have tp2 := tp1.on ((Shape.refl w1).alloc (.cells #[.slice fa1 n1 fc1, .slice aa1 na1 ac1, .int .i64 en1, .int .i64 ha1, .slice da1 nd1 dc1, .slice ba1 nb1 bc1] 29)) (Nat.le_refl _)
  have y1 := (Below.heap_alloc w1 (.cells #[.slice fa1 n1 fc1, .slice aa1 na1 ac1, .int .i64 en1, .int .i64 ha1, .slice da1 nd1 dc1, .slice ba1 nb1 bc1] 29) _ (heap_lt x1)).trans x1
  have y2 := (Below.heap_alloc w1 (.cells #[.slice fa1 n1 fc1, .slice aa1 na1 ac1, .int .i64 en1, .int .i64 ha1, .slice da1 nd1 dc1, .slice ba1 nb1 bc1] 29) _ (heap_lt x2)).trans x2
  have y3 := heap_alloc_new w1 (.cells #[.slice fa1 n1 fc1, .slice aa1 na1 ac1, .int .i64 en1, .int .i64 ha1, .slice da1 nd1 dc1, .slice ba1 nb1 bc1] 29)
  have hO : w.heap.size + 2 < w1.heap.size := heap_lt x2
  clear ty1 tp1 x1 x2 wt1 bel1 sh1
  have hBO := hB1
  clear hB1
  generalize w1.alloc (.cells #[.slice fa1 n1 fc1, .slice aa1 na1 ac1, .int .i64 en1, .int .i64 ha1, .slice da1 nd1 dc1, .slice ba1 nb1 bc1] 29) = w2 at *
  generalize w1.heap.size = O at *
  have c0 : w2.cell? ⟨w.heap.size + 1, 0, none⟩ = some (.int .i64 q0) := cell_of y1
  have c1 : w2.cell? ⟨w.heap.size + 1, 1, none⟩ = some (.int .i64 q1) := cell_of y1
  have c2 : w2.cell? ⟨w.heap.size + 1, 2, none⟩ = some (.int .i64 q2) := cell_of y1
  have o0 : w2.cell? ⟨O, 0, none⟩ = some (.slice fa1 n1 fc1) := cell_of y3
  have TY2 := Lib.hid ty2; have TP2 := Lib.hid tp2; have Y1 := Lib.hid y1; have Y2 := Lib.hid y2; have Y3 := Lib.hid y3
  clear ty2 tp2 y1 y2 y3
  go_upto_if 23 with fail
  go_cut [8] (fun s8 wx => ∃ f : Nat, s8 = .int .i64 f ∧ (0 < n1 → f < n1) ∧ w2 = wx)
  case first =>
    by_cases h0 : 0 < n1
    · have h0n : (n1 : Int) ≠ 0 := by omega
      obtain ⟨f, hf, e1, e2⟩ : ∃ q : Nat, q < n1 ∧ (m1 : Int).tmod (n1 : Int) = (q : Int) ∧ (m1 : Int) % (n1 : Int) = (q : Int) := ⟨m1 % n1, Nat.mod_lt _ h0, rem_cast _ _, rfl⟩
      go_wp2_with fail
      go_meet
      exact ⟨f, rfl, fun _ => hf, rfl⟩
    · have h0' : decide (0 < n1) = false := by simp; omega
      go_wp2_with fail
      go_meet
      exact ⟨0, rfl, fun h => absurd h h0, rfl⟩
  case rest =>
    obtain ⟨f, rfl, hf, rfl⟩ := hcut
    clear c0 c2 hm1 hm1b hnn hwh
    have hBw2 : B ≤ w2.heap.size := Nat.le_of_lt (Nat.lt_of_le_of_lt hBO (heap_lt Y3.out))
    have e0 : IntKind.i64.wrap ((nn : Int) / 4) = (nn : Int) / 4 := IntWalk.i64_in _ (by omega)
    have e1 : (nn : Int) / 4 % 4 = 0 ∨ (nn : Int) / 4 % 4 = 1 ∨ (nn : Int) / 4 % 4 = 2 ∨ (nn : Int) / 4 % 4 = 3 := by omega
    have e2 : ((nn : Int) / 4).tmod 4 = (nn : Int) / 4 % 4 := Int.tmod_eq_emod_of_nonneg (by omega)
    have e3 : (IntKind.i64.wrap ((nn : Int) / 4)).tmod 4 = (nn : Int) / 4 % 4 := by rw [e0, e2]
    have o4 : w2.cell? ⟨O, 4, none⟩ = some (.slice da1 nd1 dc1) := cell_of Y3.out
    have gO2 : O < w2.heap.size := heap_lt Y3.out
    have o4a : ∀ z1 z2 z3 : Int, (w2.alloc (.cells #[.int .i64 z1, .int .u16 z2, .int .u16 z3] 53)).cell? ⟨O, 4, none⟩ = some (.slice da1 nd1 dc1) := fun _ _ _ => (cell_alloc gO2).trans o4
    have hnaK : nd1 + 1 ≤ K + 2 := by have := TP2.out.td.1; omega
    have hK' : K + 2 ≤ 34359738368 := by have : big = 1073741824 := rfl; omega
    have t1 : ∀ z1 z2 z3 : Int, TyT B (K + 2) w (w2.drew.alloc (.cells #[.int .i64 z1, .int .u16 z2, .int .u16 z3] 53)) := fun _ _ _ => ((TY2.out.more (Nat.le_add_right K 2)).drew).alloc hBw2 (obj_typed _ _ _)
    have T1 := Lib.hid t1
    clear t1
    have i0 := idx62_0; have i1 := idx62_1; have i2 := idx62_2; have i3 := idx62_3
    obtain ⟨za, hza⟩ : ∃ z, IntKind.i64.wrap ((nn : Int).tmod 4 - 2) = z := ⟨_, rfl⟩
    obtain ⟨zc, hzc⟩ : ∃ z, IntKind.u16.wrap ((IntKind.i64.wrap ((nn : Int) / 16)).tmod 4) = z := ⟨_, rfl⟩
    rcases e1 with e1 | e1 | e1 | e1
    · obtain ⟨zb, hzb⟩ : ∃ z, IntKind.u16.wrap 16392 = z := ⟨_, rfl⟩
      rw [e1] at e2 e3
      go_upto_region 18 with fail
      go_region_law (first
        | (refine step_append_el (w := w2.drew.alloc (.cells #[.int .i64 za, .int .u16 zb, .int .u16 zc] 53)) (P := Tryz.prog) (B := B) (K := K + 2) (K' := K + 2) (n := nd1) (m := 1) rfl (.tmp 93) (.tmp 108) rfl el26 (T1.out za zb zc).wt rfl rfl (TP2.out.td.on ((Shape.refl w2).drew.alloc _) (Nat.le_add_right K 2)) (newRow (w := w2.drew) hBw2 (by simp) (by omega)) hnaK (Nat.le_refl _) hK' (by simp; omega) ?_; intro v9 w9 happ; obtain ⟨A9, c9, rfl⟩ := happ.slv.form; have sva := TP2.out.td.on ((Shape.refl w2).drew.alloc (.cells #[.int .i64 za, .int .u16 zb, .int .u16 zc] 53)) (Nat.le_add_right K 2); have hO9 : w9.heap[O]? = some (.cells _ 29 (0, 0)) := happ.other sva ((Below.heap_alloc w2.drew _ O gO2).trans Y3.out) (by decide); have hS9 : w9.heap[w.heap.size + 2]? = some (.cells _ 29 (0, 0)) := happ.other sva ((Below.heap_alloc w2.drew _ _ (heap_lt Y2.out)).trans Y2.out) (by decide); have o9 : w9.cell? ⟨O, 4, none⟩ = some (.slice da1 nd1 dc1) := cell_of hO9; have f9 : w9.frozen? ⟨O, 4, none⟩ = false := free_of hO9; have SV9 := Lib.hid happ.slv; have TT9 := Lib.hid ((T1.out za zb zc).app happ sva (by simp; omega)); have SH9 := Lib.hid (((Shape.refl w2).drew.alloc (.cells #[.int .i64 za, .int .u16 zb, .int .u16 zc] 53)).trans happ.shape); have HO9 := Lib.hid hO9; have HS9 := Lib.hid hS9; clear happ hO9 hS9 sva))
      all_goals
        (try go_upto_region 24 with fail)
        have EO : Hid (_ = _) := Lib.hid (Eng.setCell_blk (off := 4) (v := .slice A9 (nd1 + 1) c9) HO9.out)
        have ES : Hid (_ = _) := Lib.hid ((Eng.setCell_other (off := 4) (v := .slice A9 (nd1 + 1) c9) (show w.heap.size + 2 ≠ O by omega)).trans HS9.out)
        have ET := Lib.hid (TT9.out.set (o := 4) (v := .slice A9 (nd1 + 1) c9) HO9.out hBO (fun ck hl => by cases hl))
        have shE : Shape w9 (w9.setCell ⟨O, 4, none⟩ (.slice A9 (nd1 + 1) c9)) := (Shape.refl w9).setCell _ rfl _
        have tp9 := (TP2.out.on (SH9.out.trans shE) (Nat.le_add_right K 2))
        have EP := Lib.hid (TP.mk tp9.tf tp9.ta (SV9.out.on shE (Nat.le_refl _)) tp9.tb)
        clear shE tp9
        generalize w9.setCell ⟨O, 4, none⟩ (.slice A9 (nd1 + 1) c9) = wE at EO ES ET EP ⊢
        clear o4 o4a o9 f9 o0 c1
        have e0 : wE.cell? ⟨O, 0, none⟩ = some (.slice fa1 (n1) fc1) := cell_of EO.out
        have e1 : wE.cell? ⟨O, 1, none⟩ = some (.slice aa1 (na1) ac1) := cell_of EO.out
        have e2 : wE.cell? ⟨O, 2, none⟩ = some (.int .i64 en1) := cell_of EO.out
        have e3 : wE.cell? ⟨O, 3, none⟩ = some (.int .i64 ha1) := cell_of EO.out
        have e4 : wE.cell? ⟨O, 4, none⟩ = some (.slice A9 (nd1 + 1) c9) := cell_of EO.out
        have e5 : wE.cell? ⟨O, 5, none⟩ = some (.slice ba1 (nb1) bc1) := cell_of EO.out
        have z0 : wE.cell? ⟨w.heap.size + 2, 0, none⟩ = some (.slice none 0 0) := cell_of ES.out
        have z1 : wE.cell? ⟨w.heap.size + 2, 1, none⟩ = some (.slice none 0 0) := cell_of ES.out
        have z2 : wE.cell? ⟨w.heap.size + 2, 2, none⟩ = some (.int .i64 0) := cell_of ES.out
        have z3 : wE.cell? ⟨w.heap.size + 2, 3, none⟩ = some (.int .i64 0) := cell_of ES.out
        have z4 : wE.cell? ⟨w.heap.size + 2, 4, none⟩ = some (.slice none 0 0) := cell_of ES.out
        have z5 : wE.cell? ⟨w.heap.size + 2, 5, none⟩ = some (.slice none 0 0) := cell_of ES.out
        have g0 : wE.frozen? ⟨w.heap.size + 2, 0, none⟩ = false := free_of ES.out
        have g1 : wE.frozen? ⟨w.heap.size + 2, 1, none⟩ = false := free_of ES.out
        have g2 : wE.frozen? ⟨w.heap.size + 2, 2, none⟩ = false := free_of ES.out
        have g3 : wE.frozen? ⟨w.heap.size + 2, 3, none⟩ = false := free_of ES.out
        have g4 : wE.frozen? ⟨w.heap.size + 2, 4, none⟩ = false := free_of ES.out
        have g5 : wE.frozen? ⟨w.heap.size + 2, 5, none⟩ = false := free_of ES.out
        go_wp2_with fail
        have hfin := sets6k (w0 := w) (v0 := .slice fa1 (n1) fc1) (v1 := .slice aa1 (na1) ac1) (v2 := .int .i64 en1) (v3 := .int .i64 ha1) (v4 := .slice A9 (nd1 + 1) c9) (v5 := .slice ba1 (nb1) bc1) ES.out ET.out.wt ET.out.bel (Nat.le_trans hB (Nat.le_add_right _ 2)) _ rfl
        generalize World.setCell _ _ _ = wF at hfin ⊢
        obtain ⟨hz, hwF, hbF, shF, kF⟩ := hfin
        have x0 : wF.cell? ⟨w.heap.size + 2, 0, none⟩ = some (.slice fa1 (n1) fc1) := cell_of hz
        have x1 : wF.cell? ⟨w.heap.size + 2, 1, none⟩ = some (.slice aa1 (na1) ac1) := cell_of hz
        have x2 : wF.cell? ⟨w.heap.size + 2, 2, none⟩ = some (.int .i64 en1) := cell_of hz
        have x3 : wF.cell? ⟨w.heap.size + 2, 3, none⟩ = some (.int .i64 ha1) := cell_of hz
        have x4 : wF.cell? ⟨w.heap.size + 2, 4, none⟩ = some (.slice A9 (nd1 + 1) c9) := cell_of hz
        have x5 : wF.cell? ⟨w.heap.size + 2, 5, none⟩ = some (.slice ba1 (nb1) bc1) := cell_of hz
        refine bodyPost_ret (v := .agg #[.slice fa1 (n1) fc1, .slice aa1 (na1) ac1, .int .i64 en1, .int .i64 ha1, .slice A9 (nd1 + 1) c9, .slice ba1 (nb1) bc1]) (by simp [results, Tryz.results6, go_sem, x0, x1, x2, x3, x4, x5]; done) rfl ?_
        exact ⟨_, _, _, _, _, _, _, _, _, _, _, _, _, _, rfl, EP.out.on shF (Nat.le_refl _), hwF, hbF, ET.out.sh.trans shF, kF ET.out.far (Nat.le_add_right _ 2)⟩
    · obtain ⟨zb, hzb⟩ : ∃ z, IntKind.u16.wrap 24575 = z := ⟨_, rfl⟩
      rw [e1] at e2 e3
      go_upto_region 18 with fail
      go_region_law (first
        | (refine step_append_el (w := w2.drew.alloc (.cells #[.int .i64 za, .int .u16 zb, .int .u16 zc] 53)) (P := Tryz.prog) (B := B) (K := K + 2) (K' := K + 2) (n := nd1) (m := 1) rfl (.tmp 93) (.tmp 108) rfl el26 (T1.out za zb zc).wt rfl rfl (TP2.out.td.on ((Shape.refl w2).drew.alloc _) (Nat.le_add_right K 2)) (newRow (w := w2.drew) hBw2 (by simp) (by omega)) hnaK (Nat.le_refl _) hK' (by simp; omega) ?_; intro v9 w9 happ; obtain ⟨A9, c9, rfl⟩ := happ.slv.form; have sva := TP2.out.td.on ((Shape.refl w2).drew.alloc (.cells #[.int .i64 za, .int .u16 zb, .int .u16 zc] 53)) (Nat.le_add_right K 2); have hO9 : w9.heap[O]? = some (.cells _ 29 (0, 0)) := happ.other sva ((Below.heap_alloc w2.drew _ O gO2).trans Y3.out) (by decide); have hS9 : w9.heap[w.heap.size + 2]? = some (.cells _ 29 (0, 0)) := happ.other sva ((Below.heap_alloc w2.drew _ _ (heap_lt Y2.out)).trans Y2.out) (by decide); have o9 : w9.cell? ⟨O, 4, none⟩ = some (.slice da1 nd1 dc1) := cell_of hO9; have f9 : w9.frozen? ⟨O, 4, none⟩ = false := free_of hO9; have SV9 := Lib.hid happ.slv; have TT9 := Lib.hid ((T1.out za zb zc).app happ sva (by simp; omega)); have SH9 := Lib.hid (((Shape.refl w2).drew.alloc (.cells #[.int .i64 za, .int .u16 zb, .int .u16 zc] 53)).trans happ.shape); have HO9 := Lib.hid hO9; have HS9 := Lib.hid hS9; clear happ hO9 hS9 sva))
      all_goals
        (try go_upto_region 24 with fail)
        have EO : Hid (_ = _) := Lib.hid (Eng.setCell_blk (off := 4) (v := .slice A9 (nd1 + 1) c9) HO9.out)
        have ES : Hid (_ = _) := Lib.hid ((Eng.setCell_other (off := 4) (v := .slice A9 (nd1 + 1) c9) (show w.heap.size + 2 ≠ O by omega)).trans HS9.out)
        have ET := Lib.hid (TT9.out.set (o := 4) (v := .slice A9 (nd1 + 1) c9) HO9.out hBO (fun ck hl => by cases hl))
        have shE : Shape w9 (w9.setCell ⟨O, 4, none⟩ (.slice A9 (nd1 + 1) c9)) := (Shape.refl w9).setCell _ rfl _
        have tp9 := (TP2.out.on (SH9.out.trans shE) (Nat.le_add_right K 2))
        have EP := Lib.hid (TP.mk tp9.tf tp9.ta (SV9.out.on shE (Nat.le_refl _)) tp9.tb)
        clear shE tp9
        generalize w9.setCell ⟨O, 4, none⟩ (.slice A9 (nd1 + 1) c9) = wE at EO ES ET EP ⊢
        clear o4 o4a o9 f9 o0 c1
        have e0 : wE.cell? ⟨O, 0, none⟩ = some (.slice fa1 (n1) fc1) := cell_of EO.out
        have e1 : wE.cell? ⟨O, 1, none⟩ = some (.slice aa1 (na1) ac1) := cell_of EO.out
        have e2 : wE.cell? ⟨O, 2, none⟩ = some (.int .i64 en1) := cell_of EO.out
        have e3 : wE.cell? ⟨O, 3, none⟩ = some (.int .i64 ha1) := cell_of EO.out
        have e4 : wE.cell? ⟨O, 4, none⟩ = some (.slice A9 (nd1 + 1) c9) := cell_of EO.out
        have e5 : wE.cell? ⟨O, 5, none⟩ = some (.slice ba1 (nb1) bc1) := cell_of EO.out
        have z0 : wE.cell? ⟨w.heap.size + 2, 0, none⟩ = some (.slice none 0 0) := cell_of ES.out
        have z1 : wE.cell? ⟨w.heap.size + 2, 1, none⟩ = some (.slice none 0 0) := cell_of ES.out
        have z2 : wE.cell? ⟨w.heap.size + 2, 2, none⟩ = some (.int .i64 0) := cell_of ES.out
        have z3 : wE.cell? ⟨w.heap.size + 2, 3, none⟩ = some (.int .i64 0) := cell_of ES.out
        have z4 : wE.cell? ⟨w.heap.size + 2, 4, none⟩ = some (.slice none 0 0) := cell_of ES.out
        have z5 : wE.cell? ⟨w.heap.size + 2, 5, none⟩ = some (.slice none 0 0) := cell_of ES.out
        have g0 : wE.frozen? ⟨w.heap.size + 2, 0, none⟩ = false := free_of ES.out
        have g1 : wE.frozen? ⟨w.heap.size + 2, 1, none⟩ = false := free_of ES.out
        have g2 : wE.frozen? ⟨w.heap.size + 2, 2, none⟩ = false := free_of ES.out
        have g3 : wE.frozen? ⟨w.heap.size + 2, 3, none⟩ = false := free_of ES.out
        have g4 : wE.frozen? ⟨w.heap.size + 2, 4, none⟩ = false := free_of ES.out
        have g5 : wE.frozen? ⟨w.heap.size + 2, 5, none⟩ = false := free_of ES.out
        go_wp2_with fail
        have hfin := sets6k (w0 := w) (v0 := .slice fa1 (n1) fc1) (v1 := .slice aa1 (na1) ac1) (v2 := .int .i64 en1) (v3 := .int .i64 ha1) (v4 := .slice A9 (nd1 + 1) c9) (v5 := .slice ba1 (nb1) bc1) ES.out ET.out.wt ET.out.bel (Nat.le_trans hB (Nat.le_add_right _ 2)) _ rfl
        generalize World.setCell _ _ _ = wF at hfin ⊢
        obtain ⟨hz, hwF, hbF, shF, kF⟩ := hfin
        have x0 : wF.cell? ⟨w.heap.size + 2, 0, none⟩ = some (.slice fa1 (n1) fc1) := cell_of hz
        have x1 : wF.cell? ⟨w.heap.size + 2, 1, none⟩ = some (.slice aa1 (na1) ac1) := cell_of hz
        have x2 : wF.cell? ⟨w.heap.size + 2, 2, none⟩ = some (.int .i64 en1) := cell_of hz
        have x3 : wF.cell? ⟨w.heap.size + 2, 3, none⟩ = some (.int .i64 ha1) := cell_of hz
        have x4 : wF.cell? ⟨w.heap.size + 2, 4, none⟩ = some (.slice A9 (nd1 + 1) c9) := cell_of hz
        have x5 : wF.cell? ⟨w.heap.size + 2, 5, none⟩ = some (.slice ba1 (nb1) bc1) := cell_of hz
        refine bodyPost_ret (v := .agg #[.slice fa1 (n1) fc1, .slice aa1 (na1) ac1, .int .i64 en1, .int .i64 ha1, .slice A9 (nd1 + 1) c9, .slice ba1 (nb1) bc1]) (by simp [results, Tryz.results6, go_sem, x0, x1, x2, x3, x4, x5]; done) rfl ?_
        exact ⟨_, _, _, _, _, _, _, _, _, _, _, _, _, _, rfl, EP.out.on shF (Nat.le_refl _), hwF, hbF, ET.out.sh.trans shF, kF ET.out.far (Nat.le_add_right _ 2)⟩
    · obtain ⟨zb, hzb⟩ : ∃ z, IntKind.u16.wrap 512 = z := ⟨_, rfl⟩
      rw [e1] at e2 e3
      go_upto_region 18 with fail
      go_region_law (first
        | (refine step_append_el (w := w2.drew.alloc (.cells #[.int .i64 za, .int .u16 zb, .int .u16 zc] 53)) (P := Tryz.prog) (B := B) (K := K + 2) (K' := K + 2) (n := nd1) (m := 1) rfl (.tmp 93) (.tmp 108) rfl el26 (T1.out za zb zc).wt rfl rfl (TP2.out.td.on ((Shape.refl w2).drew.alloc _) (Nat.le_add_right K 2)) (newRow (w := w2.drew) hBw2 (by simp) (by omega)) hnaK (Nat.le_refl _) hK' (by simp; omega) ?_; intro v9 w9 happ; obtain ⟨A9, c9, rfl⟩ := happ.slv.form; have sva := TP2.out.td.on ((Shape.refl w2).drew.alloc (.cells #[.int .i64 za, .int .u16 zb, .int .u16 zc] 53)) (Nat.le_add_right K 2); have hO9 : w9.heap[O]? = some (.cells _ 29 (0, 0)) := happ.other sva ((Below.heap_alloc w2.drew _ O gO2).trans Y3.out) (by decide); have hS9 : w9.heap[w.heap.size + 2]? = some (.cells _ 29 (0, 0)) := happ.other sva ((Below.heap_alloc w2.drew _ _ (heap_lt Y2.out)).trans Y2.out) (by decide); have o9 : w9.cell? ⟨O, 4, none⟩ = some (.slice da1 nd1 dc1) := cell_of hO9; have f9 : w9.frozen? ⟨O, 4, none⟩ = false := free_of hO9; have SV9 := Lib.hid happ.slv; have TT9 := Lib.hid ((T1.out za zb zc).app happ sva (by simp; omega)); have SH9 := Lib.hid (((Shape.refl w2).drew.alloc (.cells #[.int .i64 za, .int .u16 zb, .int .u16 zc] 53)).trans happ.shape); have HO9 := Lib.hid hO9; have HS9 := Lib.hid hS9; clear happ hO9 hS9 sva))
      all_goals
        (try go_upto_region 24 with fail)
        have EO : Hid (_ = _) := Lib.hid (Eng.setCell_blk (off := 4) (v := .slice A9 (nd1 + 1) c9) HO9.out)
        have ES : Hid (_ = _) := Lib.hid ((Eng.setCell_other (off := 4) (v := .slice A9 (nd1 + 1) c9) (show w.heap.size + 2 ≠ O by omega)).trans HS9.out)
        have ET := Lib.hid (TT9.out.set (o := 4) (v := .slice A9 (nd1 + 1) c9) HO9.out hBO (fun ck hl => by cases hl))
        have shE : Shape w9 (w9.setCell ⟨O, 4, none⟩ (.slice A9 (nd1 + 1) c9)) := (Shape.refl w9).setCell _ rfl _
        have tp9 := (TP2.out.on (SH9.out.trans shE) (Nat.le_add_right K 2))
        have EP := Lib.hid (TP.mk tp9.tf tp9.ta (SV9.out.on shE (Nat.le_refl _)) tp9.tb)
        clear shE tp9
        generalize w9.setCell ⟨O, 4, none⟩ (.slice A9 (nd1 + 1) c9) = wE at EO ES ET EP ⊢
        clear o4 o4a o9 f9 o0 c1
        have e0 : wE.cell? ⟨O, 0, none⟩ = some (.slice fa1 (n1) fc1) := cell_of EO.out
        have e1 : wE.cell? ⟨O, 1, none⟩ = some (.slice aa1 (na1) ac1) := cell_of EO.out
        have e2 : wE.cell? ⟨O, 2, none⟩ = some (.int .i64 en1) := cell_of EO.out
        have e3 : wE.cell? ⟨O, 3, none⟩ = some (.int .i64 ha1) := cell_of EO.out
        have e4 : wE.cell? ⟨O, 4, none⟩ = some (.slice A9 (nd1 + 1) c9) := cell_of EO.out
        have e5 : wE.cell? ⟨O, 5, none⟩ = some (.slice ba1 (nb1) bc1) := cell_of EO.out
        have z0 : wE.cell? ⟨w.heap.size + 2, 0, none⟩ = some (.slice none 0 0) := cell_of ES.out
        have z1 : wE.cell? ⟨w.heap.size + 2, 1, none⟩ = some (.slice none 0 0) := cell_of ES.out
        have z2 : wE.cell? ⟨w.heap.size + 2, 2, none⟩ = some (.int .i64 0) := cell_of ES.out
        have z3 : wE.cell? ⟨w.heap.size + 2, 3, none⟩ = some (.int .i64 0) := cell_of ES.out
        have z4 : wE.cell? ⟨w.heap.size + 2, 4, none⟩ = some (.slice none 0 0) := cell_of ES.out
        have z5 : wE.cell? ⟨w.heap.size + 2, 5, none⟩ = some (.slice none 0 0) := cell_of ES.out
        have g0 : wE.frozen? ⟨w.heap.size + 2, 0, none⟩ = false := free_of ES.out
        have g1 : wE.frozen? ⟨w.heap.size + 2, 1, none⟩ = false := free_of ES.out
        have g2 : wE.frozen? ⟨w.heap.size + 2, 2, none⟩ = false := free_of ES.out
        have g3 : wE.frozen? ⟨w.heap.size + 2, 3, none⟩ = false := free_of ES.out
        have g4 : wE.frozen? ⟨w.heap.size + 2, 4, none⟩ = false := free_of ES.out
        have g5 : wE.frozen? ⟨w.heap.size + 2, 5, none⟩ = false := free_of ES.out
        go_wp2_with fail
        have hfin := sets6k (w0 := w) (v0 := .slice fa1 (n1) fc1) (v1 := .slice aa1 (na1) ac1) (v2 := .int .i64 en1) (v3 := .int .i64 ha1) (v4 := .slice A9 (nd1 + 1) c9) (v5 := .slice ba1 (nb1) bc1) ES.out ET.out.wt ET.out.bel (Nat.le_trans hB (Nat.le_add_right _ 2)) _ rfl
        generalize World.setCell _ _ _ = wF at hfin ⊢
        obtain ⟨hz, hwF, hbF, shF, kF⟩ := hfin
        have x0 : wF.cell? ⟨w.heap.size + 2, 0, none⟩ = some (.slice fa1 (n1) fc1) := cell_of hz
        have x1 : wF.cell? ⟨w.heap.size + 2, 1, none⟩ = some (.slice aa1 (na1) ac1) := cell_of hz
        have x2 : wF.cell? ⟨w.heap.size + 2, 2, none⟩ = some (.int .i64 en1) := cell_of hz
        have x3 : wF.cell? ⟨w.heap.size + 2, 3, none⟩ = some (.int .i64 ha1) := cell_of hz
        have x4 : wF.cell? ⟨w.heap.size + 2, 4, none⟩ = some (.slice A9 (nd1 + 1) c9) := cell_of hz
        have x5 : wF.cell? ⟨w.heap.size + 2, 5, none⟩ = some (.slice ba1 (nb1) bc1) := cell_of hz
        refine bodyPost_ret (v := .agg #[.slice fa1 (n1) fc1, .slice aa1 (na1) ac1, .int .i64 en1, .int .i64 ha1, .slice A9 (nd1 + 1) c9, .slice ba1 (nb1) bc1]) (by simp [results, Tryz.results6, go_sem, x0, x1, x2, x3, x4, x5]; done) rfl ?_
        exact ⟨_, _, _, _, _, _, _, _, _, _, _, _, _, _, rfl, EP.out.on shF (Nat.le_refl _), hwF, hbF, ET.out.sh.trans shF, kF ET.out.far (Nat.le_add_right _ 2)⟩
    · obtain ⟨zb, hzb⟩ : ∃ z, IntKind.u16.wrap 16896 = z := ⟨_, rfl⟩
      rw [e1] at e2 e3
      go_upto_region 18 with fail
      go_region_law (first
        | (refine step_append_el (w := w2.drew.alloc (.cells #[.int .i64 za, .int .u16 zb, .int .u16 zc] 53)) (P := Tryz.prog) (B := B) (K := K + 2) (K' := K + 2) (n := nd1) (m := 1) rfl (.tmp 93) (.tmp 108) rfl el26 (T1.out za zb zc).wt rfl rfl (TP2.out.td.on ((Shape.refl w2).drew.alloc _) (Nat.le_add_right K 2)) (newRow (w := w2.drew) hBw2 (by simp) (by omega)) hnaK (Nat.le_refl _) hK' (by simp; omega) ?_; intro v9 w9 happ; obtain ⟨A9, c9, rfl⟩ := happ.slv.form; have sva := TP2.out.td.on ((Shape.refl w2).drew.alloc (.cells #[.int .i64 za, .int .u16 zb, .int .u16 zc] 53)) (Nat.le_add_right K 2); have hO9 : w9.heap[O]? = some (.cells _ 29 (0, 0)) := happ.other sva ((Below.heap_alloc w2.drew _ O gO2).trans Y3.out) (by decide); have hS9 : w9.heap[w.heap.size + 2]? = some (.cells _ 29 (0, 0)) := happ.other sva ((Below.heap_alloc w2.drew _ _ (heap_lt Y2.out)).trans Y2.out) (by decide); have o9 : w9.cell? ⟨O, 4, none⟩ = some (.slice da1 nd1 dc1) := cell_of hO9; have f9 : w9.frozen? ⟨O, 4, none⟩ = false := free_of hO9; have SV9 := Lib.hid happ.slv; have TT9 := Lib.hid ((T1.out za zb zc).app happ sva (by simp; omega)); have SH9 := Lib.hid (((Shape.refl w2).drew.alloc (.cells #[.int .i64 za, .int .u16 zb, .int .u16 zc] 53)).trans happ.shape); have HO9 := Lib.hid hO9; have HS9 := Lib.hid hS9; clear happ hO9 hS9 sva))
      all_goals
        (try go_upto_region 24 with fail)
        have EO : Hid (_ = _) := Lib.hid (Eng.setCell_blk (off := 4) (v := .slice A9 (nd1 + 1) c9) HO9.out)
        have ES : Hid (_ = _) := Lib.hid ((Eng.setCell_other (off := 4) (v := .slice A9 (nd1 + 1) c9) (show w.heap.size + 2 ≠ O by omega)).trans HS9.out)
        have ET := Lib.hid (TT9.out.set (o := 4) (v := .slice A9 (nd1 + 1) c9) HO9.out hBO (fun ck hl => by cases hl))
        have shE : Shape w9 (w9.setCell ⟨O, 4, none⟩ (.slice A9 (nd1 + 1) c9)) := (Shape.refl w9).setCell _ rfl _
        have tp9 := (TP2.out.on (SH9.out.trans shE) (Nat.le_add_right K 2))
        have EP := Lib.hid (TP.mk tp9.tf tp9.ta (SV9.out.on shE (Nat.le_refl _)) tp9.tb)
        clear shE tp9
        generalize w9.setCell ⟨O, 4, none⟩ (.slice A9 (nd1 + 1) c9) = wE at EO ES ET EP ⊢
        clear o4 o4a o9 f9 o0 c1
        have e0 : wE.cell? ⟨O, 0, none⟩ = some (.slice fa1 (n1) fc1) := cell_of EO.out
        have e1 : wE.cell? ⟨O, 1, none⟩ = some (.slice aa1 (na1) ac1) := cell_of EO.out
        have e2 : wE.cell? ⟨O, 2, none⟩ = some (.int .i64 en1) := cell_of EO.out
        have e3 : wE.cell? ⟨O, 3, none⟩ = some (.int .i64 ha1) := cell_of EO.out
        have e4 : wE.cell? ⟨O, 4, none⟩ = some (.slice A9 (nd1 + 1) c9) := cell_of EO.out
        have e5 : wE.cell? ⟨O, 5, none⟩ = some (.slice ba1 (nb1) bc1) := cell_of EO.out
        have z0 : wE.cell? ⟨w.heap.size + 2, 0, none⟩ = some (.slice none 0 0) := cell_of ES.out
        have z1 : wE.cell? ⟨w.heap.size + 2, 1, none⟩ = some (.slice none 0 0) := cell_of ES.out
        have z2 : wE.cell? ⟨w.heap.size + 2, 2, none⟩ = some (.int .i64 0) := cell_of ES.out
        have z3 : wE.cell? ⟨w.heap.size + 2, 3, none⟩ = some (.int .i64 0) := cell_of ES.out
        have z4 : wE.cell? ⟨w.heap.size + 2, 4, none⟩ = some (.slice none 0 0) := cell_of ES.out
        have z5 : wE.cell? ⟨w.heap.size + 2, 5, none⟩ = some (.slice none 0 0) := cell_of ES.out
        have g0 : wE.frozen? ⟨w.heap.size + 2, 0, none⟩ = false := free_of ES.out
        have g1 : wE.frozen? ⟨w.heap.size + 2, 1, none⟩ = false := free_of ES.out
        have g2 : wE.frozen? ⟨w.heap.size + 2, 2, none⟩ = false := free_of ES.out
        have g3 : wE.frozen? ⟨w.heap.size + 2, 3, none⟩ = false := free_of ES.out
        have g4 : wE.frozen? ⟨w.heap.size + 2, 4, none⟩ = false := free_of ES.out
        have g5 : wE.frozen? ⟨w.heap.size + 2, 5, none⟩ = false := free_of ES.out
        go_wp2_with fail
        have hfin := sets6k (w0 := w) (v0 := .slice fa1 (n1) fc1) (v1 := .slice aa1 (na1) ac1) (v2 := .int .i64 en1) (v3 := .int .i64 ha1) (v4 := .slice A9 (nd1 + 1) c9) (v5 := .slice ba1 (nb1) bc1) ES.out ET.out.wt ET.out.bel (Nat.le_trans hB (Nat.le_add_right _ 2)) _ rfl
        generalize World.setCell _ _ _ = wF at hfin ⊢
        obtain ⟨hz, hwF, hbF, shF, kF⟩ := hfin
        have x0 : wF.cell? ⟨w.heap.size + 2, 0, none⟩ = some (.slice fa1 (n1) fc1) := cell_of hz
        have x1 : wF.cell? ⟨w.heap.size + 2, 1, none⟩ = some (.slice aa1 (na1) ac1) := cell_of hz
        have x2 : wF.cell? ⟨w.heap.size + 2, 2, none⟩ = some (.int .i64 en1) := cell_of hz
        have x3 : wF.cell? ⟨w.heap.size + 2, 3, none⟩ = some (.int .i64 ha1) := cell_of hz
        have x4 : wF.cell? ⟨w.heap.size + 2, 4, none⟩ = some (.slice A9 (nd1 + 1) c9) := cell_of hz
        have x5 : wF.cell? ⟨w.heap.size + 2, 5, none⟩ = some (.slice ba1 (nb1) bc1) := cell_of hz
        refine bodyPost_ret (v := .agg #[.slice fa1 (n1) fc1, .slice aa1 (na1) ac1, .int .i64 en1, .int .i64 ha1, .slice A9 (nd1 + 1) c9, .slice ba1 (nb1) bc1]) (by simp [results, Tryz.results6, go_sem, x0, x1, x2, x3, x4, x5]; done) rfl ?_
        exact ⟨_, _, _, _, _, _, _, _, _, _, _, _, _, _, rfl, EP.out.on shF (Nat.le_refl _), hwF, hbF, ET.out.sh.trans shF, kF ET.out.far (Nat.le_add_right _ 2)⟩
end Go.Proofs.YtahljbkaemhpcaaGreat
