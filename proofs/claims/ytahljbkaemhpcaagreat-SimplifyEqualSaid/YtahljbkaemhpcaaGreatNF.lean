/- A program with one thing changed: the entry, the handler. -/
import Derived.Test.YtahljbkaemhpcaaGreatNE
namespace Go.Proofs.YtahljbkaemhpcaaGreat
open Go.RowKit
set_option linter.unusedVariables false
set_option maxRecDepth 100000 in
set_option maxHeartbeats 8000000 in
theorem turned14 (B K : Nat) (w : World) (fa : Option Addr) (n fc : Nat) (aa : Option Addr) (na ac : Nat) (en ha : Int) (da : Option Addr) (nd dc : Nat) (ba : Option Addr) (nb bc : Nat) (q0 q1 q2 : Int) (hwh : (wrap64 (q0.tmod 20 + 20)).tmod 20 = 14) (hw : WT B K w) (hB : B ≤ w.heap.size) (hK : K + 2 ≤ big) (hp : TP B K w fa n fc aa na ac da nd dc ba nb bc) :
    Calls Tryz.prog 6 #[.agg #[.slice fa n fc, .slice aa na ac, .int .i64 en, .int .i64 ha, .slice da nd dc, .slice ba nb bc], .agg #[.int .i64 q0, .int .i64 q1, .int .i64 q2]] w (ProgK B (K + 2) w B) := by
  have w3 := ((hw.allocOther (.cells #[.slice fa n fc, .slice aa na ac, .int .i64 en, .int .i64 ha, .slice da nd dc, .slice ba nb bc] 29) (other_typed rfl (fun _ => rfl))).allocOther (.cells #[.int .i64 q0, .int .i64 q1, .int .i64 q2] 23) (other_typed rfl (fun _ => rfl))).allocOther (.cells #[.slice none 0 0, .slice none 0 0, .int .i64 0, .int .i64 0, .slice none 0 0, .slice none 0 0] 29) (other_typed rfl (fun _ => rfl))
  have b3 : Below w.heap.size w (((w.alloc (.cells #[.slice fa n fc, .slice aa na ac, .int .i64 en, .int .i64 ha, .slice da nd dc, .slice ba nb bc] 29)).alloc (.cells #[.int .i64 q0, .int .i64 q1, .int .i64 q2] 23)).alloc (.cells #[.slice none 0 0, .slice none 0 0, .int .i64 0, .int .i64 0, .slice none 0 0, .slice none 0 0] 29)) := (((Below.refl _ _).alloc (Nat.le_refl _) _).alloc (by simp) _).alloc (by simp; omega) _
  have tp3 := hp.on (shape_below b3) (Nat.le_refl _)
  have hs3 : w.heap.size + 2 < (((w.alloc (.cells #[.slice fa n fc, .slice aa na ac, .int .i64 en, .int .i64 ha, .slice da nd dc, .slice ba nb bc] 29)).alloc (.cells #[.int .i64 q0, .int .i64 q1, .int .i64 q2] 23)).alloc (.cells #[.slice none 0 0, .slice none 0 0, .int .i64 0, .int .i64 0, .slice none 0 0, .slice none 0 0] 29)).heap.size := by simp
  have hx1 : (((w.alloc (.cells #[.slice fa n fc, .slice aa na ac, .int .i64 en, .int .i64 ha, .slice da nd dc, .slice ba nb bc] 29)).alloc (.cells #[.int .i64 q0, .int .i64 q1, .int .i64 q2] 23)).alloc (.cells #[.slice none 0 0, .slice none 0 0, .int .i64 0, .int .i64 0, .slice none 0 0, .slice none 0 0] 29)).heap[w.heap.size + 1]? = some (.cells #[.int .i64 q0, .int .i64 q1, .int .i64 q2] 23 (0, 0)) := by
    rw [Below.heap_alloc _ _ _ (by simp)]
    have := heap_alloc_new (w.alloc (.cells #[.slice fa n fc, .slice aa na ac, .int .i64 en, .int .i64 ha, .slice da nd dc, .slice ba nb bc] 29)) (.cells #[.int .i64 q0, .int .i64 q1, .int .i64 q2] 23)
    have hs1 : (w.alloc (.cells #[.slice fa n fc, .slice aa na ac, .int .i64 en, .int .i64 ha, .slice da nd dc, .slice ba nb bc] 29)).heap.size = w.heap.size + 1 := by simp
    rw [hs1] at this; exact this
  have hx2 : (((w.alloc (.cells #[.slice fa n fc, .slice aa na ac, .int .i64 en, .int .i64 ha, .slice da nd dc, .slice ba nb bc] 29)).alloc (.cells #[.int .i64 q0, .int .i64 q1, .int .i64 q2] 23)).alloc (.cells #[.slice none 0 0, .slice none 0 0, .int .i64 0, .int .i64 0, .slice none 0 0, .slice none 0 0] 29)).heap[w.heap.size + 2]? = some (.cells #[.slice none 0 0, .slice none 0 0, .int .i64 0, .int .i64 0, .slice none 0 0, .slice none 0 0] 29 (0, 0)) := by
    have := heap_alloc_new ((w.alloc (.cells #[.slice fa n fc, .slice aa na ac, .int .i64 en, .int .i64 ha, .slice da nd dc, .slice ba nb bc] 29)).alloc (.cells #[.int .i64 q0, .int .i64 q1, .int .i64 q2] 23)) (.cells #[.slice none 0 0, .slice none 0 0, .int .i64 0, .int .i64 0, .slice none 0 0, .slice none 0 0] 29)
    have hs1 : ((w.alloc (.cells #[.slice fa n fc, .slice aa na ac, .int .i64 en, .int .i64 ha, .slice da nd dc, .slice ba nb bc] 29)).alloc (.cells #[.int .i64 q0, .int .i64 q1, .int .i64 q2] 23)).heap.size = w.heap.size + 2 := by simp
    rw [hs1] at this; exact this
  have HW3 := Lib.hid w3; have HB3 := Lib.hid b3; have HTP := Lib.hid tp3; have HX1 := Lib.hid hx1; have HX2 := Lib.hid hx2; have HS3 := Lib.hid hs3
  have HKK : Hid (K ≤ big) := by show K ≤ big; omega
  clear w3 b3 tp3 hx1 hx2 hs3 hw hp
  obtain ⟨nn, hnn, hnb⟩ := and_mask q2
  obtain ⟨m1, hm1, hm1b⟩ := and_mask q1
  go_enter Tryz.func6, Tryz.ntmps6
  go_upto_region 2 with (first
    | (go_at_call 17; refine ((own_any B K _ fa n fc aa na ac en ha da nd dc ba nb bc HW3.out (Nat.le_trans hB HB3.out.size) HKK.out HTP.out).mono ProgP.lit).mono ?_; rintro e w1 ⟨fa1, n1, fc1, aa1, na1, ac1, en1, ha1, da1, nd1, dc1, ba1, nb1, bc1, rfl, tp1, wt1, bel1, sh1⟩))
  have x1 : w1.heap[w.heap.size + 1]? = some (.cells #[.int .i64 q0, .int .i64 q1, .int .i64 q2] 23 (0, 0)) := (bel1.block _ (by have := HS3.out; omega)).trans HX1.out
  have x2 : w1.heap[w.heap.size + 2]? = some (.cells #[.slice none 0 0, .slice none 0 0, .int .i64 0, .int .i64 0, .slice none 0 0, .slice none 0 0] 29 (0, 0)) := (bel1.block _ HS3.out).trans HX2.out
  have hB1 : B ≤ w1.heap.size := Nat.le_trans (Nat.le_trans hB HB3.out.size) bel1.size
  have ty1 : TyT B K w w1 := ⟨wt1, (HB3.out.mono hB).trans (bel1.mono (Nat.le_trans hB HB3.out.size)), (shape_below HB3.out).trans sh1, (Keeps.of_below HB3.out).trans (Keeps.of_below bel1)⟩
  have ty2 : TyT B K w (w1.alloc (.cells #[.slice fa1 n1 fc1, .slice aa1 na1 ac1, .int .i64 en1, .int .i64 ha1, .slice da1 nd1 dc1, .slice ba1 nb1 bc1] 29)) := ty1.alloc hB1 (fun j ck hl => by cases hl)
  have tp2 := tp1.on ((Shape.refl w1).alloc (.cells #[.slice fa1 n1 fc1, .slice aa1 na1 ac1, .int .i64 en1, .int .i64 ha1, .slice da1 nd1 dc1, .slice ba1 nb1 bc1] 29)) (Nat.le_refl _)
  have y1 := (Below.heap_alloc w1 (.cells #[.slice fa1 n1 fc1, .slice aa1 na1 ac1, .int .i64 en1, .int .i64 ha1, .slice da1 nd1 dc1, .slice ba1 nb1 bc1] 29) _ (heap_lt x1)).trans x1
  have y2 := (Below.heap_alloc w1 (.cells #[.slice fa1 n1 fc1, .slice aa1 na1 ac1, .int .i64 en1, .int .i64 ha1, .slice da1 nd1 dc1, .slice ba1 nb1 bc1] 29) _ (heap_lt x2)).trans x2
  have y3 := heap_alloc_new w1 (.cells #[.slice fa1 n1 fc1, .slice aa1 na1 ac1, .int .i64 en1, .int .i64 ha1, .slice da1 nd1 dc1, .slice ba1 nb1 bc1] 29)
  have hO : w.heap.size + 2 < w1.heap.size := heap_lt x2
  clear ty1 tp1 x1 x2 wt1 bel1 sh1
  have hBO := hB1
  clear hB1
  generalize w1.alloc (.cells #[.slice fa1 n1 fc1, .slice aa1 na1 ac1, .int .i64 en1, .int .i64 ha1, .slice da1 nd1 dc1, .slice ba1 nb1 bc1] 29) = w2 at *
  generalize w1.heap.size = O at *
  have c0 : w2.cell? ⟨w.heap.size + 1, 0, none⟩ = some (.int .i64 q0) := cell_of y1
  have c1 : w2.cell? ⟨w.heap.size + 1, 1, none⟩ = some (.int .i64 q1) := cell_of y1
  have c2 : w2.cell? ⟨w.heap.size + 1, 2, none⟩ = some (.int .i64 q2) := cell_of y1
  have o0 : w2.cell? ⟨O, 0, none⟩ = some (.slice fa1 n1 fc1) := cell_of y3
  have TY2 := Lib.hid ty2; have TP2 := Lib.hid tp2; have Y1 := Lib.hid y1; have Y2 := Lib.hid y2; have Y3 := Lib.hid y3
  clear ty2 tp2 y1 y2 y3
  go_upto_if 23 with fail
  go_cut [8] (fun s8 wx => ∃ f : Nat, s8 = .int .i64 f ∧ (0 < n1 → f < n1) ∧ w2 = wx)
  case first =>
    by_cases h0 : 0 < n1
    · have h0n : (n1 : Int) ≠ 0 := by omega
      obtain ⟨f, hf, e1, e2⟩ : ∃ q : Nat, q < n1 ∧ (m1 : Int).tmod (n1 : Int) = (q : Int) ∧ (m1 : Int) % (n1 : Int) = (q : Int) := ⟨m1 % n1, Nat.mod_lt _ h0, rem_cast _ _, rfl⟩
      go_wp2_with fail
      go_meet
      exact ⟨f, rfl, fun _ => hf, rfl⟩
    · have h0' : decide (0 < n1) = false := by simp; omega
      go_wp2_with fail
      go_meet
      exact ⟨0, rfl, fun h => absurd h h0, rfl⟩
  case rest =>
    obtain ⟨f, rfl, hf, rfl⟩ := hcut
    clear c0 c2 hm1 hm1b hnn hwh
    obtain ⟨zz, hzz⟩ : ∃ z, IntKind.i64.wrap ((nn : Int).tmod 7 - 1) = z := ⟨_, rfl⟩
    obtain ⟨zz', hzz'⟩ : ∃ z, (nn : Int).tmod 7 = z := ⟨_, rfl⟩
    have o2 : w2.cell? ⟨O, 2, none⟩ = some (.int .i64 en1) := cell_of Y3.out
    have u2 : w2.frozen? ⟨O, 2, none⟩ = false := free_of Y3.out
    go_upto_region 24 with fail
    have EO : Hid (_ = _) := Lib.hid (Eng.setCell_blk (off := 2) (v := .int .i64 (wrap64 (zz' - 1))) Y3.out)
    have ES : Hid (_ = _) := Lib.hid ((Eng.setCell_other (off := 2) (v := .int .i64 (wrap64 (zz' - 1))) (show w.heap.size + 2 ≠ O by omega)).trans Y2.out)
    have ET := Lib.hid ((TY2.out.set (o := 2) (v := .int .i64 (wrap64 (zz' - 1))) Y3.out hBO (fun ck hl => by cases hl)).more (Nat.le_add_right K 2))
    have EP := Lib.hid (TP2.out.on ((Shape.refl w2).setCell ⟨O, 2, none⟩ rfl (.int .i64 (wrap64 (zz' - 1)))) (Nat.le_add_right K 2))
    generalize w2.setCell ⟨O, 2, none⟩ (.int .i64 (wrap64 (zz' - 1))) = wE at EO ES ET EP ⊢
    clear o2 u2 o0 c1
    have e0 : wE.cell? ⟨O, 0, none⟩ = some (.slice fa1 (n1) fc1) := cell_of EO.out
    have e1 : wE.cell? ⟨O, 1, none⟩ = some (.slice aa1 (na1) ac1) := cell_of EO.out
    have e2 : wE.cell? ⟨O, 2, none⟩ = some (.int .i64 (wrap64 (zz' - 1))) := cell_of EO.out
    have e3 : wE.cell? ⟨O, 3, none⟩ = some (.int .i64 ha1) := cell_of EO.out
    have e4 : wE.cell? ⟨O, 4, none⟩ = some (.slice da1 (nd1) dc1) := cell_of EO.out
    have e5 : wE.cell? ⟨O, 5, none⟩ = some (.slice ba1 (nb1) bc1) := cell_of EO.out
    have z0 : wE.cell? ⟨w.heap.size + 2, 0, none⟩ = some (.slice none 0 0) := cell_of ES.out
    have z1 : wE.cell? ⟨w.heap.size + 2, 1, none⟩ = some (.slice none 0 0) := cell_of ES.out
    have z2 : wE.cell? ⟨w.heap.size + 2, 2, none⟩ = some (.int .i64 0) := cell_of ES.out
    have z3 : wE.cell? ⟨w.heap.size + 2, 3, none⟩ = some (.int .i64 0) := cell_of ES.out
    have z4 : wE.cell? ⟨w.heap.size + 2, 4, none⟩ = some (.slice none 0 0) := cell_of ES.out
    have z5 : wE.cell? ⟨w.heap.size + 2, 5, none⟩ = some (.slice none 0 0) := cell_of ES.out
    have g0 : wE.frozen? ⟨w.heap.size + 2, 0, none⟩ = false := free_of ES.out
    have g1 : wE.frozen? ⟨w.heap.size + 2, 1, none⟩ = false := free_of ES.out
    have g2 : wE.frozen? ⟨w.heap.size + 2, 2, none⟩ = false := free_of ES.out
    have g3 : wE.frozen? ⟨w.heap.size + 2, 3, none⟩ = false := free_of ES.out
    have g4 : wE.frozen? ⟨w.heap.size + 2, 4, none⟩ = false := free_of ES.out
    have g5 : wE.frozen? ⟨w.heap.size + 2, 5, none⟩ = false := free_of ES.out
    go_wp2_with fail
    have hfin := sets6k (w0 := w) (v0 := .slice fa1 (n1) fc1) (v1 := .slice aa1 (na1) ac1) (v2 := .int .i64 (wrap64 (zz' - 1))) (v3 := .int .i64 ha1) (v4 := .slice da1 (nd1) dc1) (v5 := .slice ba1 (nb1) bc1) ES.out ET.out.wt ET.out.bel (Nat.le_trans hB (Nat.le_add_right _ 2)) _ rfl
    generalize World.setCell _ _ _ = wF at hfin ⊢
    obtain ⟨hz, hwF, hbF, shF, kF⟩ := hfin
    have x0 : wF.cell? ⟨w.heap.size + 2, 0, none⟩ = some (.slice fa1 (n1) fc1) := cell_of hz
    have x1 : wF.cell? ⟨w.heap.size + 2, 1, none⟩ = some (.slice aa1 (na1) ac1) := cell_of hz
    have x2 : wF.cell? ⟨w.heap.size + 2, 2, none⟩ = some (.int .i64 (wrap64 (zz' - 1))) := cell_of hz
    have x3 : wF.cell? ⟨w.heap.size + 2, 3, none⟩ = some (.int .i64 ha1) := cell_of hz
    have x4 : wF.cell? ⟨w.heap.size + 2, 4, none⟩ = some (.slice da1 (nd1) dc1) := cell_of hz
    have x5 : wF.cell? ⟨w.heap.size + 2, 5, none⟩ = some (.slice ba1 (nb1) bc1) := cell_of hz
    refine bodyPost_ret (v := .agg #[.slice fa1 (n1) fc1, .slice aa1 (na1) ac1, .int .i64 (wrap64 (zz' - 1)), .int .i64 ha1, .slice da1 (nd1) dc1, .slice ba1 (nb1) bc1]) (by simp [results, Tryz.results6, go_sem, x0, x1, x2, x3, x4, x5]; done) rfl ?_
    exact ⟨_, _, _, _, _, _, _, _, _, _, _, _, _, _, rfl, EP.out.on shF (Nat.le_refl _), hwF, hbF, ET.out.sh.trans shF, kF ET.out.far (Nat.le_add_right _ 2)⟩
set_option maxRecDepth 100000 in
set_option maxHeartbeats 8000000 in
theorem turned15 (B K : Nat) (w : World) (fa : Option Addr) (n fc : Nat) (aa : Option Addr) (na ac : Nat) (en ha : Int) (da : Option Addr) (nd dc : Nat) (ba : Option Addr) (nb bc : Nat) (q0 q1 q2 : Int) (hwh : (wrap64 (q0.tmod 20 + 20)).tmod 20 = 15) (hw : WT B K w) (hB : B ≤ w.heap.size) (hK : K + 2 ≤ big) (hp : TP B K w fa n fc aa na ac da nd dc ba nb bc) :
    Calls Tryz.prog 6 #[.agg #[.slice fa n fc, .slice aa na ac, .int .i64 en, .int .i64 ha, .slice da nd dc, .slice ba nb bc], .agg #[.int .i64 q0, .int .i64 q1, .int .i64 q2]] w (ProgK B (K + 2) w B) := by
  have w3 := ((hw.allocOther (.cells #[.slice fa n fc, .slice aa na ac, .int .i64 en, .int .i64 ha, .slice da nd dc, .slice ba nb bc] 29) (other_typed rfl (fun _ => rfl))).allocOther (.cells #[.int .i64 q0, .int .i64 q1, .int .i64 q2] 23) (other_typed rfl (fun _ => rfl))).allocOther (.cells #[.slice none 0 0, .slice none 0 0, .int .i64 0, .int .i64 0, .slice none 0 0, .slice none 0 0] 29) (other_typed rfl (fun _ => rfl))
  have b3 : Below w.heap.size w (((w.alloc (.cells #[.slice fa n fc, .slice aa na ac, .int .i64 en, .int .i64 ha, .slice da nd dc, .slice ba nb bc] 29)).alloc (.cells #[.int .i64 q0, .int .i64 q1, .int .i64 q2] 23)).alloc (.cells #[.slice none 0 0, .slice none 0 0, .int .i64 0, .int .i64 0, .slice none 0 0, .slice none 0 0] 29)) := (((Below.refl _ _).alloc (Nat.le_refl _) _).alloc (by simp) _).alloc (by simp; omega) _
  have tp3 := hp.on (shape_below b3) (Nat.le_refl _)
  have hs3 : w.heap.size + 2 < (((w.alloc (.cells #[.slice fa n fc, .slice aa na ac, .int .i64 en, .int .i64 ha, .slice da nd dc, .slice ba nb bc] 29)).alloc (.cells #[.int .i64 q0, .int .i64 q1, .int .i64 q2] 23)).alloc (.cells #[.slice none 0 0, .slice none 0 0, .int .i64 0, .int .i64 0, .slice none 0 0, .slice none 0 0] 29)).heap.size := by simp
  have hx1 : (((w.alloc (.cells #[.slice fa n fc, .slice aa na ac, .int .i64 en, .int .i64 ha, .slice da nd dc, .slice ba nb bc] 29)).alloc (.cells #[.int .i64 q0, .int .i64 q1, .int .i64 q2] 23)).alloc (.cells #[.slice none 0 0, .slice none 0 0, .int .i64 0, .int .i64 0, .slice none 0 0, .slice none 0 0] 29)).heap[w.heap.size + 1]? = some (.cells #[.int .i64 q0, .int .i64 q1, .int .i64 q2] 23 (0, 0)) := by
    rw [Below.heap_alloc _ _ _ (by simp)]
    have := heap_alloc_new (w.alloc (.cells #[.slice fa n fc, .slice aa na ac, .int .i64 en, .int .i64 ha, .slice da nd dc, .slice ba nb bc] 29)) (.cells #[.int .i64 q0, .int .i64 q1, .int .i64 q2] 23)
    have hs1 : (w.alloc (.cells #[.slice fa n fc, .slice aa na ac, .int .i64 en, .int .i64 ha, .slice da nd dc, .slice ba nb bc] 29)).heap.size = w.heap.size + 1 := by simp
    rw [hs1] at this; exact this
  have hx2 : (((w.alloc (.cells #[.slice fa n fc, .slice aa na ac, .int .i64 en, .int .i64 ha, .slice da nd dc, .slice ba nb bc] 29)).alloc (.cells #[.int .i64 q0, .int .i64 q1, .int .i64 q2] 23)).alloc (.cells #[.slice none 0 0, .slice none 0 0, .int .i64 0, .int .i64 0, .slice none 0 0, .slice none 0 0] 29)).heap[w.heap.size + 2]? = some (.cells #[.slice none 0 0, .slice none 0 0, .int .i64 0, .int .i64 0, .slice none 0 0, .slice none 0 0] 29 (0, 0)) := by
    have := heap_alloc_new ((w.alloc (.cells #[.slice fa n fc, .slice aa na ac, .int .i64 en, .int .i64 ha, .slice da nd dc, .slice ba nb bc] 29)).alloc (.cells #[.int .i64 q0, .int .i64 q1, .int .i64 q2] 23)) (.cells #[.slice none 0 0, .slice none 0 0, .int .i64 0, .int .i64 0, .slice none 0 0, .slice none 0 0] 29)
    have hs1 : ((w.alloc (.cells #[.slice fa n fc, .slice aa na ac, .int .i64 en, .int .i64 ha, .slice da nd dc, .slice ba nb bc] 29)).alloc (.cells #[.int .i64 q0, .int .i64 q1, .int .i64 q2] 23)).heap.size = w.heap.size + 2 := by simp
    rw [hs1] at this; exact this
  have HW3 := Lib.hid w3; have HB3 := Lib.hid b3; have HTP := Lib.hid tp3; have HX1 := Lib.hid hx1; have HX2 := Lib.hid hx2; have HS3 := Lib.hid hs3
  have HKK : Hid (K ≤ big) := by show K ≤ big; omega
  clear w3 b3 tp3 hx1 hx2 hs3 hw hp
  obtain ⟨nn, hnn, hnb⟩ := and_mask q2
  obtain ⟨m1, hm1, hm1b⟩ := and_mask q1
  go_enter Tryz.func6, Tryz.ntmps6
  go_upto_region 2 with (first
    | (go_at_call 17; refine ((own_any B K _ fa n fc aa na ac en ha da nd dc ba nb bc HW3.out (Nat.le_trans hB HB3.out.size) HKK.out HTP.out).mono ProgP.lit).mono ?_; rintro e w1 ⟨fa1, n1, fc1, aa1, na1, ac1, en1, ha1, da1, nd1, dc1, ba1, nb1, bc1, rfl, tp1, wt1, bel1, sh1⟩))
  have x1 : w1.heap[w.heap.size + 1]? = some (.cells #[.int .i64 q0, .int .i64 q1, .int .i64 q2] 23 (0, 0)) := (bel1.block _ (by have := HS3.out; omega)).trans HX1.out
  have x2 : w1.heap[w.heap.size + 2]? = some (.cells #[.slice none 0 0, .slice none 0 0, .int .i64 0, .int .i64 0, .slice none 0 0, .slice none 0 0] 29 (0, 0)) := (bel1.block _ HS3.out).trans HX2.out
  have hB1 : B ≤ w1.heap.size := Nat.le_trans (Nat.le_trans hB HB3.out.size) bel1.size
  have ty1 : TyT B K w w1 := ⟨wt1, (HB3.out.mono hB).trans (bel1.mono (Nat.le_trans hB HB3.out.size)), (shape_below HB3.out).trans sh1, (Keeps.of_below HB3.out).trans (Keeps.of_below bel1)⟩
  have ty2 : TyT B K w (w1.alloc (.cells #[.slice fa1 n1 fc1, .slice aa1 na1 ac1, .int .i64 en1, .int .i64 ha1, .slice da1 nd1 dc1, .slice ba1 nb1 bc1] 29)) := ty1.alloc hB1 (fun j ck hl => by cases hl)
  have tp2 := tp1.on ((Shape.refl w1).alloc (.cells #[.slice fa1 n1 fc1, .slice aa1 na1 ac1, .int .i64 en1, .int .i64 ha1, .slice da1 nd1 dc1, .slice ba1 nb1 bc1] 29)) (Nat.le_refl _)
  have y1 := (Below.heap_alloc w1 (.cells #[.slice fa1 n1 fc1, .slice aa1 na1 ac1, .int .i64 en1, .int .i64 ha1, .slice da1 nd1 dc1, .slice ba1 nb1 bc1] 29) _ (heap_lt x1)).trans x1
  have y2 := (Below.heap_alloc w1 (.cells #[.slice fa1 n1 fc1, .slice aa1 na1 ac1, .int .i64 en1, .int .i64 ha1, .slice da1 nd1 dc1, .slice ba1 nb1 bc1] 29) _ (heap_lt x2)).trans x2
  have y3 := heap_alloc_new w1 (.cells #[.slice fa1 n1 fc1, .slice aa1 na1 ac1, .int .i64 en1, .int .i64 ha1, .slice da1 nd1 dc1, .slice ba1 nb1 bc1] 29)
  have hO : w.heap.size + 2 < w1.heap.size := heap_lt x2
  clear ty1 tp1 x1 x2 wt1 bel1 sh1
  have hBO := hB1
  clear hB1
  generalize w1.alloc (.cells #[.slice fa1 n1 fc1, .slice aa1 na1 ac1, .int .i64 en1, .int .i64 ha1, .slice da1 nd1 dc1, .slice ba1 nb1 bc1] 29) = w2 at *
  generalize w1.heap.size = O at *
  have c0 : w2.cell? ⟨w.heap.size + 1, 0, none⟩ = some (.int .i64 q0) := cell_of y1
  have c1 : w2.cell? ⟨w.heap.size + 1, 1, none⟩ = some (.int .i64 q1) := cell_of y1
  have c2 : w2.cell? ⟨w.heap.size + 1, 2, none⟩ = some (.int .i64 q2) := cell_of y1
  have o0 : w2.cell? ⟨O, 0, none⟩ = some (.slice fa1 n1 fc1) := cell_of y3
  have TY2 := Lib.hid ty2; have TP2 := Lib.hid tp2; have Y1 := Lib.hid y1; have Y2 := Lib.hid y2; have Y3 := Lib.hid y3
  clear ty2 tp2 y1 y2 y3
  go_upto_if 23 with fail
  go_cut [8] (fun s8 wx => ∃ f : Nat, s8 = .int .i64 f ∧ (0 < n1 → f < n1) ∧ w2 = wx)
  case first =>
    by_cases h0 : 0 < n1
    · have h0n : (n1 : Int) ≠ 0 := by omega
      obtain ⟨f, hf, e1, e2⟩ : ∃ q : Nat, q < n1 ∧ (m1 : Int).tmod (n1 : Int) = (q : Int) ∧ (m1 : Int) % (n1 : Int) = (q : Int) := ⟨m1 % n1, Nat.mod_lt _ h0, rem_cast _ _, rfl⟩
      go_wp2_with fail
      go_meet
      exact ⟨f, rfl, fun _ => hf, rfl⟩
    · have h0' : decide (0 < n1) = false := by simp; omega
      go_wp2_with fail
      go_meet
      exact ⟨0, rfl, fun h => absurd h h0, rfl⟩
  case rest =>
    obtain ⟨f, rfl, hf, rfl⟩ := hcut
    clear c0 c2 hm1 hm1b hnn hwh
    obtain ⟨zz, hzz⟩ : ∃ z, IntKind.i64.wrap ((nn : Int).tmod 7 - 2) = z := ⟨_, rfl⟩
    obtain ⟨zz', hzz'⟩ : ∃ z, (nn : Int).tmod 7 = z := ⟨_, rfl⟩
    have o2 : w2.cell? ⟨O, 3, none⟩ = some (.int .i64 ha1) := cell_of Y3.out
    have u2 : w2.frozen? ⟨O, 3, none⟩ = false := free_of Y3.out
    go_upto_region 24 with fail
    have EO : Hid (_ = _) := Lib.hid (Eng.setCell_blk (off := 3) (v := .int .i64 (wrap64 (zz' - 2))) Y3.out)
    have ES : Hid (_ = _) := Lib.hid ((Eng.setCell_other (off := 3) (v := .int .i64 (wrap64 (zz' - 2))) (show w.heap.size + 2 ≠ O by omega)).trans Y2.out)
    have ET := Lib.hid ((TY2.out.set (o := 3) (v := .int .i64 (wrap64 (zz' - 2))) Y3.out hBO (fun ck hl => by cases hl)).more (Nat.le_add_right K 2))
    have EP := Lib.hid (TP2.out.on ((Shape.refl w2).setCell ⟨O, 3, none⟩ rfl (.int .i64 (wrap64 (zz' - 2)))) (Nat.le_add_right K 2))
    generalize w2.setCell ⟨O, 3, none⟩ (.int .i64 (wrap64 (zz' - 2))) = wE at EO ES ET EP ⊢
    clear o2 u2 o0 c1
    have e0 : wE.cell? ⟨O, 0, none⟩ = some (.slice fa1 (n1) fc1) := cell_of EO.out
    have e1 : wE.cell? ⟨O, 1, none⟩ = some (.slice aa1 (na1) ac1) := cell_of EO.out
    have e2 : wE.cell? ⟨O, 2, none⟩ = some (.int .i64 en1) := cell_of EO.out
    have e3 : wE.cell? ⟨O, 3, none⟩ = some (.int .i64 (wrap64 (zz' - 2))) := cell_of EO.out
    have e4 : wE.cell? ⟨O, 4, none⟩ = some (.slice da1 (nd1) dc1) := cell_of EO.out
    have e5 : wE.cell? ⟨O, 5, none⟩ = some (.slice ba1 (nb1) bc1) := cell_of EO.out
    have z0 : wE.cell? ⟨w.heap.size + 2, 0, none⟩ = some (.slice none 0 0) := cell_of ES.out
    have z1 : wE.cell? ⟨w.heap.size + 2, 1, none⟩ = some (.slice none 0 0) := cell_of ES.out
    have z2 : wE.cell? ⟨w.heap.size + 2, 2, none⟩ = some (.int .i64 0) := cell_of ES.out
    have z3 : wE.cell? ⟨w.heap.size + 2, 3, none⟩ = some (.int .i64 0) := cell_of ES.out
    have z4 : wE.cell? ⟨w.heap.size + 2, 4, none⟩ = some (.slice none 0 0) := cell_of ES.out
    have z5 : wE.cell? ⟨w.heap.size + 2, 5, none⟩ = some (.slice none 0 0) := cell_of ES.out
    have g0 : wE.frozen? ⟨w.heap.size + 2, 0, none⟩ = false := free_of ES.out
    have g1 : wE.frozen? ⟨w.heap.size + 2, 1, none⟩ = false := free_of ES.out
    have g2 : wE.frozen? ⟨w.heap.size + 2, 2, none⟩ = false := free_of ES.out
    have g3 : wE.frozen? ⟨w.heap.size + 2, 3, none⟩ = false := free_of ES.out
    have g4 : wE.frozen? ⟨w.heap.size + 2, 4, none⟩ = false := free_of ES.out
    have g5 : wE.frozen? ⟨w.heap.size + 2, 5, none⟩ = false := free_of ES.out
    go_wp2_with fail
    have hfin := sets6k (w0 := w) (v0 := .slice fa1 (n1) fc1) (v1 := .slice aa1 (na1) ac1) (v2 := .int .i64 en1) (v3 := .int .i64 (wrap64 (zz' - 2))) (v4 := .slice da1 (nd1) dc1) (v5 := .slice ba1 (nb1) bc1) ES.out ET.out.wt ET.out.bel (Nat.le_trans hB (Nat.le_add_right _ 2)) _ rfl
    generalize World.setCell _ _ _ = wF at hfin ⊢
    obtain ⟨hz, hwF, hbF, shF, kF⟩ := hfin
    have x0 : wF.cell? ⟨w.heap.size + 2, 0, none⟩ = some (.slice fa1 (n1) fc1) := cell_of hz
    have x1 : wF.cell? ⟨w.heap.size + 2, 1, none⟩ = some (.slice aa1 (na1) ac1) := cell_of hz
    have x2 : wF.cell? ⟨w.heap.size + 2, 2, none⟩ = some (.int .i64 en1) := cell_of hz
    have x3 : wF.cell? ⟨w.heap.size + 2, 3, none⟩ = some (.int .i64 (wrap64 (zz' - 2))) := cell_of hz
    have x4 : wF.cell? ⟨w.heap.size + 2, 4, none⟩ = some (.slice da1 (nd1) dc1) := cell_of hz
    have x5 : wF.cell? ⟨w.heap.size + 2, 5, none⟩ = some (.slice ba1 (nb1) bc1) := cell_of hz
    refine bodyPost_ret (v := .agg #[.slice fa1 (n1) fc1, .slice aa1 (na1) ac1, .int .i64 en1, .int .i64 (wrap64 (zz' - 2)), .slice da1 (nd1) dc1, .slice ba1 (nb1) bc1]) (by simp [results, Tryz.results6, go_sem, x0, x1, x2, x3, x4, x5]; done) rfl ?_
    exact ⟨_, _, _, _, _, _, _, _, _, _, _, _, _, _, rfl, EP.out.on shF (Nat.le_refl _), hwF, hbF, ET.out.sh.trans shF, kF ET.out.far (Nat.le_add_right _ 2)⟩
end Go.Proofs.YtahljbkaemhpcaaGreat
