/- A copy of a program: the walk of Own. -/
import Derived.Test.YtahljbkaemhpcaaGreatN5
namespace Go.Proofs.YtahljbkaemhpcaaGreat
open Go.RowKit
set_option linter.unusedVariables false
theorem OW.start {B K : Nat} {w : World} {src z : Array Value} {en ha : Int} (hw : WT B K w) (hB : B ≤ w.heap.size) :
    OW B K w src z none 0 0 none 0 0 en ha none 0 0 none 0 0 (((w.alloc (.cells src 29)).alloc (.cells z 29)).alloc (.cells #[.slice none 0 0, .slice none 0 0, .int .i64 en, .int .i64 ha, .slice none 0 0, .slice none 0 0] 29)) := by
  have w3 := ((hw.allocOther (.cells src 29) (other_typed rfl (fun _ => rfl))).allocOther (.cells z 29) (other_typed rfl (fun _ => rfl))).allocOther (.cells #[.slice none 0 0, .slice none 0 0, .int .i64 en, .int .i64 ha, .slice none 0 0, .slice none 0 0] 29) (other_typed rfl (fun _ => rfl))
  refine ⟨?_, ?_, ?_, w3, (((Below.refl _ _).alloc (Nat.le_refl _) _).alloc (by simp) _).alloc (by simp; omega) _, ⟨nilV _ _ _ _ _, nilV _ _ _ _ _, nilV _ _ _ _ _, nilV _ _ _ _ _⟩, fun g hg => (by rw [own_none] at hg; cases hg), hB⟩
  · rw [Below.heap_alloc _ _ _ (by simp; omega), Below.heap_alloc _ _ _ (by simp), heap_alloc_new]
  · rw [Below.heap_alloc _ _ _ (by simp)]
    have := heap_alloc_new (w.alloc (.cells src 29)) (.cells z 29)
    have hs1 : (w.alloc (.cells src 29)).heap.size = w.heap.size + 1 := by simp
    rw [hs1] at this; exact this
  · have := heap_alloc_new ((w.alloc (.cells src 29)).alloc (.cells z 29)) (.cells #[.slice none 0 0, .slice none 0 0, .int .i64 en, .int .i64 ha, .slice none 0 0, .slice none 0 0] 29)
    have hs1 : ((w.alloc (.cells src 29)).alloc (.cells z 29)).heap.size = w.heap.size + 2 := by simp
    rw [hs1] at this; exact this
theorem ownFunc_typed {B K : Nat} {w : World} {A : Option Addr} {n k : Nat} (hw : WT B K w) (hB : B ≤ w.heap.size) (hK : K ≤ big) (hs : SlV B K w 46 5 (.slice A n k) n) :
    Calls Tryz.prog 8 #[.agg #[.slice A n k]] w (fun e w' => ∃ v, e = .returned v ∧ ∃ (G : Option Addr) (cg : Nat), v = .agg #[.slice G n cg] ∧ WT B K w' ∧ Below w.heap.size w w' ∧ SlV B K w' 46 5 (.slice G n cg) n) := by
  obtain ⟨xs, hx⟩ := readB hw hK hs
  refine (ownFunc_any B K w A n k xs hw hB hK hs hx).mono ?_
  rintro e w' ⟨G, cg, rfl, h1, h2, h3, _⟩
  exact ⟨_, rfl, G, cg, rfl, h1, h2, h3⟩
set_option maxRecDepth 100000 in
set_option maxHeartbeats 8000000 in
theorem own_any (B K : Nat) (w : World) (fa : Option Addr) (n fc : Nat) (aa : Option Addr) (na ac : Nat) (en ha : Int) (da : Option Addr) (nd dc : Nat) (ba : Option Addr) (nb bc : Nat) (hw : WT B K w) (hB : B ≤ w.heap.size) (hK : K ≤ big) (hp : TP B K w fa n fc aa na ac da nd dc ba nb bc) :
    Calls Tryz.prog 17 #[.agg #[.slice fa n fc, .slice aa na ac, .int .i64 en, .int .i64 ha, .slice da nd dc, .slice ba nb bc]] w (ProgP B K w w.heap.size) := by
  have hstart := Lib.hid (OW.start (src := #[.slice fa n fc, .slice aa na ac, .int .i64 en, .int .i64 ha, .slice da nd dc, .slice ba nb bc]) (z := #[.slice none 0 0, .slice none 0 0, .int .i64 0, .int .i64 0, .slice none 0 0, .slice none 0 0]) (en := en) (ha := ha) hw hB)
  have hKb : K ≤ 34359738368 := by have : big = 1073741824 := rfl; omega
  have HW := Lib.hid hw; have HP := Lib.hid hp
  clear hw hp
  go_enter Tryz.func17, Tryz.ntmps17
  go_upto_region 2 with fail
  generalize World.alloc _ _ = W2 at hstart ⊢
  have HO1 := hstart
  clear hstart
  have c1a : W2.cell? ⟨w.heap.size, 1, none⟩ = some (.slice aa na ac) := cell_of HO1.out.b0
  have c1b : W2.cell? ⟨w.heap.size + 2, 1, none⟩ = some (.slice none 0 0) := cell_of HO1.out.b2
  have t1 := HP.out.ta.on (shape_below HO1.out.bel) (Nat.le_refl _)
  go_upto_region 3 with (first
    | (at_builtin; refine wpList_append_el (w := W2) (P := Tryz.prog) (B := B) (K := K) (K' := K) (n := 0) rfl (.tmp 11) (.tmp 13) rfl el22 HO1.out.wt rfl rfl (nilV _ _ _ _ _) t1 (by have := t1.1; omega) (Nat.le_refl _) hKb HO1.out.size ?_; intro v9 w9 happ; obtain ⟨hbx, A1, k1, rfl, hfin⟩ := HO1.out.args happ; have j5 : w9.cell? ⟨w.heap.size + 2, 1, none⟩ = some (.slice none 0 0) := cell_of hbx; have jf : w9.frozen? ⟨w.heap.size + 2, 1, none⟩ = false := free_of hbx; have HO2 := Lib.hid hfin; clear happ hbx hfin))
  clear c1a c1b t1 HO1 j5 jf
  generalize World.setCell _ _ _ = W3 at HO2 ⊢
  have c2a : W3.cell? ⟨w.heap.size, 4, none⟩ = some (.slice da nd dc) := cell_of HO2.out.b0
  have c2b : W3.cell? ⟨w.heap.size + 2, 4, none⟩ = some (.slice none 0 0) := cell_of HO2.out.b2
  have t2 := HP.out.td.on (shape_below HO2.out.bel) (Nat.le_refl _)
  go_upto_region 4 with (first
    | (at_builtin; refine wpList_append_el (w := W3) (P := Tryz.prog) (B := B) (K := K) (K' := K) (n := 0) rfl (.tmp 17) (.tmp 19) rfl el26 HO2.out.wt rfl rfl (nilV _ _ _ _ _) t2 (by have := t2.1; omega) (Nat.le_refl _) hKb HO2.out.size ?_; intro v9 w9 happ; obtain ⟨hbx, A2, k2, rfl, hfin⟩ := HO2.out.data happ; have j5 : w9.cell? ⟨w.heap.size + 2, 4, none⟩ = some (.slice none 0 0) := cell_of hbx; have jf : w9.frozen? ⟨w.heap.size + 2, 4, none⟩ = false := free_of hbx; have HO3 := Lib.hid hfin; clear happ hbx hfin))
  clear c2a c2b t2 HO2 j5 jf
  generalize World.setCell _ _ _ = W4 at HO3 ⊢
  have c3a : W4.cell? ⟨w.heap.size, 5, none⟩ = some (.slice ba nb bc) := cell_of HO3.out.b0
  have c3b : W4.cell? ⟨w.heap.size + 2, 5, none⟩ = some (.slice none 0 0) := cell_of HO3.out.b2
  have t3 := HP.out.tb.on (shape_below HO3.out.bel) (Nat.le_refl _)
  go_upto_region 5 with (first
    | (at_builtin; refine wpList_append_el (w := W4) (P := Tryz.prog) (B := B) (K := K) (K' := K) (n := 0) rfl (.tmp 23) (.tmp 25) rfl el27 HO3.out.wt rfl rfl (nilV _ _ _ _ _) t3 (by have := t3.1; omega) (Nat.le_refl _) hKb HO3.out.size ?_; intro v9 w9 happ; obtain ⟨hbx, A3, k3, rfl, hfin⟩ := HO3.out.banks happ; have j5 : w9.cell? ⟨w.heap.size + 2, 5, none⟩ = some (.slice none 0 0) := cell_of hbx; have jf : w9.frozen? ⟨w.heap.size + 2, 5, none⟩ = false := free_of hbx; have HO4 := Lib.hid hfin; clear happ hbx hfin))
  clear c3a c3b t3 HO3 j5 jf
  generalize World.setCell _ _ _ = W5 at HO4 ⊢
  go_wp2_with fail
  have hnb : (n : Int) ≤ 1099511627776 := by have := small hK HP.out.tf.1; omega
  go_loopw [4] (fun i wr => ∃ (q : Nat) (F : Option Addr) (cF : Nat), i = .int .i64 q ∧ q ≤ n ∧ OW B K w #[.slice fa n fc, .slice aa na ac, .int .i64 en, .int .i64 ha, .slice da nd dc, .slice ba nb bc] #[.slice none 0 0, .slice none 0 0, .int .i64 0, .int .i64 0, .slice none 0 0, .slice none 0 0] F q cF A1 na k1 en ha A2 nd k2 A3 nb k3 wr) (fun i _ => n - (intOf i).toNat)
  case atStart => exact ⟨0, none, 0, rfl, by omega, HO4.out⟩
  case round =>
    obtain ⟨wo, rfl⟩ : ∃ u, u = wr := ⟨_, rfl⟩
    obtain ⟨q, F, cF, rfl, hq, hO⟩ := hrel
    have c0 : wo.cell? ⟨w.heap.size, 0, none⟩ = some (.slice fa n fc) := cell_of hO.b0
    by_cases hlt : q < n
    · have hlt' : (q : Int) < (n : Int) := by omega
      have hq0 : (0 : Int) ≤ (q : Int) := by omega
      have tf := HP.out.tf.on (shape_below hO.bel) (Nat.le_refl _)
      obtain ⟨gf, rfl⟩ : ∃ g, fa = some ⟨g, 0, none⟩ := by
        obtain ⟨_, ⟨_, e⟩ | ⟨g, _, _, e, _⟩⟩ := tf
        · omega
        · cases e; exact ⟨_, rfl⟩
      obtain ⟨_, hBf, hnk, csf, hgf, hszf⟩ := tf.addr
      obtain ⟨_, hcf, m, sv⟩ := fit_of hO.wt hBf hgf (j := q) (ck := .sl 46 5) rfl (by omega)
      obtain ⟨Ax, kx, rfl⟩ := sv.form
      have c2 : wo.cell? ⟨w.heap.size + 2, 0, none⟩ = some (.slice F q cF) := cell_of hO.b2
      have hO' := hO.drew
      have svd : SlV B K wo.drew 46 5 (.slice Ax m kx) m := sv
      have HO := Lib.hid hO'; have SV := Lib.hid svd
      have hqK : q + 1 ≤ K := by have := HP.out.tf.1; omega
      clear hO hO' sv svd tf hgf hszf
      go_upto_region 8 with fail
      go_region_law (first
        | (refine step_call rfl 8 #[.agg #[.slice Ax m kx]] (by go_simp) (fun v w' => ∃ (G : Option Addr) (cg : Nat), v = .agg #[.slice G m cg] ∧ WT B K w' ∧ Below wo.heap.size wo.drew w' ∧ SlV B K w' 46 5 (.slice G m cg) m) (ownFunc_typed HO.out.wt HO.out.size hK SV.out) ?_; rintro v w' ⟨G, cg, rfl, hw', hb', sg⟩; have ho2 := HO.out.on hb' hw'; have d2 : w'.cell? ⟨w.heap.size + 2, 0, none⟩ = some (.slice F q cF) := cell_of ho2.b2; have d2a : (w'.alloc (.cells #[.slice G m cg] 34)).cell? ⟨w.heap.size + 2, 0, none⟩ = some (.slice F q cF) := (cell_alloc (heap_lt ho2.b2)).trans d2; have hwa := hw'.alloc #[.slice G m cg] 34 (t34 sg); have tfa := ho2.tp.tf.on ((Shape.refl w').alloc (.cells #[.slice G m cg] 34)) (Nat.le_refl _); have hxa : SlV B K (w'.alloc (.cells #[.slice G m cg] 34)) 34 1 (.slice (some ⟨w'.heap.size, 0, none⟩) 1 1) 1 := newRow ho2.size (by simp) (by omega); have hszw := ho2.size; have HO2 := Lib.hid ho2; have SG := Lib.hid sg; clear hw' hb' sg ho2)
        | (refine step_append_el (w := w'.alloc (.cells #[.slice G m cg] 34)) (P := Tryz.prog) (B := B) (K := K) (K' := K) (n := q) (m := 1) rfl (.tmp 36) (.tmp 43) rfl el25 hwa rfl rfl tfa hxa hqK (Nat.le_refl _) hKb (by simp; omega) ?_; intro v9 w9 happ; obtain ⟨hbx, F9, c9, rfl, hfin⟩ := HO2.out.func SG.out happ; have j5 : w9.cell? ⟨w.heap.size + 2, 0, none⟩ = some (.slice F q cF) := cell_of hbx; have jf : w9.frozen? ⟨w.heap.size + 2, 0, none⟩ = false := free_of hbx; have HFIN := Lib.hid hfin; clear happ hbx hfin))
      all_goals (try go_wp2_with fail)
      all_goals exact ⟨⟨q + 1, F9, c9, rfl, hlt, HFIN.out⟩, by show n - ((q : Int) + 1).toNat < n - ((q : Int)).toNat; omega⟩
    · have hqn : q = n := by omega
      subst hqn
      have z0 : wo.cell? ⟨w.heap.size + 1, 0, none⟩ = some (.slice none 0 0) := cell_of hO.b1
      have z1 : wo.cell? ⟨w.heap.size + 1, 1, none⟩ = some (.slice none 0 0) := cell_of hO.b1
      have z2 : wo.cell? ⟨w.heap.size + 1, 2, none⟩ = some (.int .i64 0) := cell_of hO.b1
      have z3 : wo.cell? ⟨w.heap.size + 1, 3, none⟩ = some (.int .i64 0) := cell_of hO.b1
      have z4 : wo.cell? ⟨w.heap.size + 1, 4, none⟩ = some (.slice none 0 0) := cell_of hO.b1
      have z5 : wo.cell? ⟨w.heap.size + 1, 5, none⟩ = some (.slice none 0 0) := cell_of hO.b1
      have y0 : wo.cell? ⟨w.heap.size + 2, 0, none⟩ = some (.slice F q cF) := cell_of hO.b2
      have y1 : wo.cell? ⟨w.heap.size + 2, 1, none⟩ = some (.slice A1 na k1) := cell_of hO.b2
      have y2 : wo.cell? ⟨w.heap.size + 2, 2, none⟩ = some (.int .i64 en) := cell_of hO.b2
      have y3 : wo.cell? ⟨w.heap.size + 2, 3, none⟩ = some (.int .i64 ha) := cell_of hO.b2
      have y4 : wo.cell? ⟨w.heap.size + 2, 4, none⟩ = some (.slice A2 nd k2) := cell_of hO.b2
      have y5 : wo.cell? ⟨w.heap.size + 2, 5, none⟩ = some (.slice A3 nb k3) := cell_of hO.b2
      have g0 : wo.frozen? ⟨w.heap.size + 1, 0, none⟩ = false := free_of hO.b1
      have g1 : wo.frozen? ⟨w.heap.size + 1, 1, none⟩ = false := free_of hO.b1
      have g2 : wo.frozen? ⟨w.heap.size + 1, 2, none⟩ = false := free_of hO.b1
      have g3 : wo.frozen? ⟨w.heap.size + 1, 3, none⟩ = false := free_of hO.b1
      have g4 : wo.frozen? ⟨w.heap.size + 1, 4, none⟩ = false := free_of hO.b1
      have g5 : wo.frozen? ⟨w.heap.size + 1, 5, none⟩ = false := free_of hO.b1
      have HO := Lib.hid hO
      clear hO
      go_wp2_with fail
      have hfin := sets6 (w0 := w) (v0 := .slice F q cF) (v1 := .slice A1 na k1) (v2 := .int .i64 en) (v3 := .int .i64 ha) (v4 := .slice A2 nd k2) (v5 := .slice A3 nb k3) HO.out.b1 HO.out.wt HO.out.bel (Nat.le_add_right _ 1) _ rfl
      generalize ((((((wo.setCell ⟨w.heap.size + 1, 0, none⟩ (.slice F q cF)).setCell ⟨w.heap.size + 1, 1, none⟩ (.slice A1 na k1)).setCell ⟨w.heap.size + 1, 2, none⟩ (.int .i64 en)).setCell ⟨w.heap.size + 1, 3, none⟩ (.int .i64 ha)).setCell ⟨w.heap.size + 1, 4, none⟩ (.slice A2 nd k2)).setCell ⟨w.heap.size + 1, 5, none⟩ (.slice A3 nb k3)) = wF at hfin ⊢
      obtain ⟨hz, hwF, hbF, shF⟩ := hfin
      have x0 : wF.cell? ⟨w.heap.size + 1, 0, none⟩ = some (.slice F q cF) := cell_of hz
      have x1 : wF.cell? ⟨w.heap.size + 1, 1, none⟩ = some (.slice A1 na k1) := cell_of hz
      have x2 : wF.cell? ⟨w.heap.size + 1, 2, none⟩ = some (.int .i64 en) := cell_of hz
      have x3 : wF.cell? ⟨w.heap.size + 1, 3, none⟩ = some (.int .i64 ha) := cell_of hz
      have x4 : wF.cell? ⟨w.heap.size + 1, 4, none⟩ = some (.slice A2 nd k2) := cell_of hz
      have x5 : wF.cell? ⟨w.heap.size + 1, 5, none⟩ = some (.slice A3 nb k3) := cell_of hz
      refine bodyPost_ret (v := .agg #[.slice F q cF, .slice A1 na k1, .int .i64 en, .int .i64 ha, .slice A2 nd k2, .slice A3 nb k3]) (by simp [results, Tryz.results17, go_sem, x0, x1, x2, x3, x4, x5]; done) rfl ?_
      exact ⟨F, q, cF, A1, na, k1, en, ha, A2, nd, k2, A3, nb, k3, rfl, HO.out.tp.on shF (Nat.le_refl _), hwF, hbF, shape_below hbF⟩
end Go.Proofs.YtahljbkaemhpcaaGreat
