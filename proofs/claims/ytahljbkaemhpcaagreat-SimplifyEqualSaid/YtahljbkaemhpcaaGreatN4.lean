/- A copy of a function: the walk. -/
import Derived.Test.YtahljbkaemhpcaaGreatN3
namespace Go.Proofs.YtahljbkaemhpcaaGreat
open Go.RowKit
set_option linter.unusedVariables false
/-- What a copy of a function is. -/
def OwnP (B K : Nat) (w : World) (n : Nat) (xs : List Blk) (e : Ending) (w' : World) : Prop :=
  ∃ (G : Option Addr) (cg : Nat), e = .returned (.agg #[.slice G n cg]) ∧ WT B K w' ∧ Below w.heap.size w w' ∧ SlV B K w' 46 5 (.slice G n cg) n ∧ RBlks w' G n xs
/-- A block of the source. -/
theorem srcBlk {B K : Nat} {w : World} {A : Option Addr} {n k q : Nat} {xs : List Blk} {x : Blk} (hw : WT B K w) (hs : SlV B K w 46 5 (.slice A n k) n) (hx : RBlks w A n xs) (hq : xs[q]? = some x) :
    ∃ (g : Nat) (s0 : Option Addr) (l0 c0 : Nat) (s1 : Option Addr) (l1 c1 : Nat) (s2 : Option Addr) (l2 c2 : Nat), A = some ⟨g, 0, none⟩ ∧ B ≤ g ∧ g < w.heap.size ∧
      w.cell? ⟨g, q * 5, none⟩ = some (.slice s0 l0 c0) ∧ w.cell? ⟨g, q * 5 + 1, none⟩ = some (.slice s1 l1 c1) ∧ w.cell? ⟨g, q * 5 + 2, none⟩ = some (.int .i64 x.kind) ∧ w.cell? ⟨g, q * 5 + 3, none⟩ = some (.int .i64 x.a) ∧ w.cell? ⟨g, q * 5 + 4, none⟩ = some (.slice s2 l2 c2) ∧
      SlV B K w 3 1 (.slice s0 l0 c0) l0 ∧ RInts w s0 l0 x.params ∧ SlV B K w 40 6 (.slice s1 l1 c1) l1 ∧ ROprs w s1 l1 x.ops ∧ SlV B K w 49 2 (.slice s2 l2 c2) l2 ∧ REdgs w s2 l2 x.to := by
  obtain ⟨g, o, s0, l0, c0, s1, l1, c1, s2, l2, c2, rfl, b0, b1, b2, b3, b4, q0, p0, q1, p1, q2, p2⟩ := hx.2 q x hq
  obtain ⟨rfl, hB, _, cs, hg, _⟩ := hs.addr
  rw [Nat.zero_add] at b0 b1 b2 b3 b4
  exact ⟨g, s0, l0, c0, s1, l1, c1, s2, l2, c2, rfl, hB, heap_lt hg, b0, b1, b2, b3, b4, cell_slice hw hB hg (j := q * 5) (by rw [← Nat.add_zero (q * 5)]; exact lay5) b0, p0, cell_slice hw hB hg lay5 b1, p1, cell_slice hw hB hg lay5 b4, p2⟩
theorem srcOp {B K : Nat} {w : World} {A : Option Addr} {n k q : Nat} {xs : List Opr} {x : Opr} (hw : WT B K w) (hs : SlV B K w 40 6 (.slice A n k) n) (hx : ROprs w A n xs) (hq : xs[q]? = some x) :
    ∃ (g : Nat) (s0 : Option Addr) (l0 c0 : Nat), A = some ⟨g, 0, none⟩ ∧ g < w.heap.size ∧
      w.cell? ⟨g, q * 6, none⟩ = some (.int .i64 x.code) ∧ w.cell? ⟨g, q * 6 + 1, none⟩ = some (.int .i64 x.res) ∧ w.cell? ⟨g, q * 6 + 2, none⟩ = some (.int .i64 x.a) ∧ w.cell? ⟨g, q * 6 + 3, none⟩ = some (.int .i64 x.b) ∧ w.cell? ⟨g, q * 6 + 4, none⟩ = some (.int .u16 x.n) ∧ w.cell? ⟨g, q * 6 + 5, none⟩ = some (.slice s0 l0 c0) ∧
      l0 ≤ 1099511627776 ∧ SlV B K w 3 1 (.slice s0 l0 c0) l0 ∧ RInts w s0 l0 x.args := by
  obtain ⟨g, o, s0, l0, c0, rfl, b0, b1, b2, b3, b4, b5, hl, hr⟩ := hx.2 q x hq
  obtain ⟨rfl, hB, _, cs, hg, _⟩ := hs.addr
  rw [Nat.zero_add] at b0 b1 b2 b3 b4 b5
  exact ⟨g, s0, l0, c0, rfl, heap_lt hg, b0, b1, b2, b3, b4, b5, hl, cell_slice hw hB hg lay6 b5, hr⟩
theorem srcEdg {B K : Nat} {w : World} {A : Option Addr} {n k q : Nat} {xs : List Edg} {x : Edg} (hw : WT B K w) (hs : SlV B K w 49 2 (.slice A n k) n) (hx : REdgs w A n xs) (hq : xs[q]? = some x) :
    ∃ (g : Nat) (s0 : Option Addr) (l0 c0 : Nat), A = some ⟨g, 0, none⟩ ∧ g < w.heap.size ∧
      w.cell? ⟨g, q * 2, none⟩ = some (.int .i64 x.block) ∧ w.cell? ⟨g, q * 2 + 1, none⟩ = some (.slice s0 l0 c0) ∧
      l0 ≤ 1099511627776 ∧ SlV B K w 3 1 (.slice s0 l0 c0) l0 ∧ RInts w s0 l0 x.args := by
  obtain ⟨g, o, s0, l0, c0, rfl, b0, b1, hl, hr⟩ := hx.2 q x hq
  obtain ⟨rfl, hB, _, cs, hg, _⟩ := hs.addr
  rw [Nat.zero_add] at b0 b1
  exact ⟨g, s0, l0, c0, rfl, heap_lt hg, b0, b1, hl, cell_slice hw hB hg lay2 b1, hr⟩
theorem take_more {α : Type} {l : List α} {p : Nat} {y : α} (h : l[p]? = some y) : l.take p ++ [y] = l.take (p + 1) := by rw [List.take_add_one, h]; rfl
theorem RBlks.keep {B K : Nat} {w w' : World} {A : Option Addr} {n k : Nat} {xs : List Blk} (h : RBlks w A n xs) (hw : WT B K w) (hs : SlV B K w 46 5 (.slice A n k) n) (h3 : Keeps 3 w w') (h40 : Keeps 40 w w') (h46 : Keeps 46 w w') (h49 : Keeps 49 w w') : RBlks w' A n xs := by
  refine ⟨h.1, fun j y hj => ?_⟩
  obtain ⟨g, o, s0, l0, c0, s1, l1, c1, s2, l2, c2, rfl, b0, b1, b2, b3, b4, q0, p0, q1, p1, q2, p2⟩ := h.2 j y hj
  obtain ⟨rfl, hB, _, cs, hg, _⟩ := hs.addr
  have e : ∀ i', w'.cell? ⟨g, i', none⟩ = w.cell? ⟨g, i', none⟩ := fun i' => by rw [cell_of (h46 g cs _ hg), cell_of hg]
  rw [Nat.zero_add] at b0 b1 b2 b3 b4
  have v0 := cell_slice hw hB hg (j := j * 5) (by rw [← Nat.add_zero (j * 5)]; exact lay5) b0
  have v1 := cell_slice hw hB hg lay5 b1
  have v4 := cell_slice hw hB hg lay5 b4
  refine ⟨g, 0, s0, l0, c0, s1, l1, c1, s2, l2, c2, rfl, ?_, ?_, ?_, ?_, ?_, q0, p0.keep v0 h3, q1, p1.keep hw v1 h3 h40, q2, p2.keep hw v4 h3 h49⟩ <;> (rw [Nat.zero_add, e]; assumption)
theorem OF.start {B K : Nat} {w : World} {A : Option Addr} {n k : Nat} {xs : List Blk} (hw : WT B K w) (hB : B ≤ w.heap.size) (hs : SlV B K w 46 5 (.slice A n k) n) :
    OF B K w A n k xs none 0 0 (((w.alloc (.cells #[.slice A n k] 34)).alloc (.cells #[.slice none 0 0] 34)).alloc (.cells #[.slice none 0 0] 34)) := by
  have t34 : ∀ (u : World) (v : Value) (m : Nat), SlV B K u 46 5 v m → ∀ j ck, layK 34 j = some ck → ∀ v', (#[v] : Array Value)[j]? = some v' → Fits B K u ck v' := by
    intro u v m hv j ck hl v' hv'
    cases hl
    match j, hv' with
    | 0, hv' => cases hv'; exact ⟨m, hv⟩
  have w1 := hw.alloc #[.slice A n k] 34 (t34 _ _ _ hs)
  have w2 := w1.alloc #[.slice none 0 0] 34 (t34 _ _ _ (nilV _ _ _ _ _))
  have w3 := w2.alloc #[.slice none 0 0] 34 (t34 _ _ _ (nilV _ _ _ _ _))
  refine ⟨?_, ?_, ?_, w3, (((Below.refl _ _).alloc (Nat.le_refl _) _).alloc (by simp) _).alloc (by simp; omega) _, nilV _ _ _ _ _, ⟨rfl, fun j x h => by simp at h⟩, fun g hg => (by rw [own_none] at hg; cases hg), hB⟩
  · rw [Below.heap_alloc _ _ _ (by simp; omega), Below.heap_alloc _ _ _ (by simp), heap_alloc_new]
  · rw [Below.heap_alloc _ _ _ (by simp)]
    have := heap_alloc_new (w.alloc (.cells #[.slice A n k] 34)) (.cells #[.slice none 0 0] 34)
    have hs1 : (w.alloc (.cells #[.slice A n k] 34)).heap.size = w.heap.size + 1 := by simp
    rw [hs1] at this; exact this
  · have := heap_alloc_new ((w.alloc (.cells #[.slice A n k] 34)).alloc (.cells #[.slice none 0 0] 34)) (.cells #[.slice none 0 0] 34)
    have hs1 : ((w.alloc (.cells #[.slice A n k] 34)).alloc (.cells #[.slice none 0 0] 34)).heap.size = w.heap.size + 2 := by simp
    rw [hs1] at this; exact this
set_option maxRecDepth 100000 in
set_option maxHeartbeats 8000000 in
theorem ownFunc_any (B K : Nat) (w : World) (A : Option Addr) (n k : Nat) (xs : List Blk) (hw : WT B K w) (hB : B ≤ w.heap.size) (hK : K ≤ big) (hs : SlV B K w 46 5 (.slice A n k) n) (hx : RBlks w A n xs) :
    Calls Tryz.prog 8 #[.agg #[.slice A n k]] w (OwnP B K w n xs) := by
  have hstart := Lib.hid (OF.start (xs := xs) hw hB hs)
  have hKb : K ≤ 34359738368 := by have : big = 1073741824 := rfl; omega
  have HW := Lib.hid hw; have HS := Lib.hid hs; have HX := Lib.hid hx
  clear hw hs hx
  go_enter Tryz.func8, Tryz.ntmps8
  go_wp2_with fail
  generalize ((w.alloc (.cells #[.slice A n k] 34)).alloc (.cells #[.slice none 0 0] 34)).alloc (.cells #[.slice none 0 0] 34) = W2 at hstart ⊢
  go_loopw [4] (fun i wr => ∃ (q : Nat) (G : Option Addr) (cg : Nat), i = .int .i64 q ∧ q ≤ n ∧ OF B K w A n k xs G q cg wr) (fun i _ => n - (intOf i).toNat)
  case atStart => exact ⟨0, none, 0, rfl, by omega, hstart.out⟩
  case round =>
    obtain ⟨wo, rfl⟩ : ∃ u, u = wr := ⟨_, rfl⟩
    obtain ⟨q, G, cg, rfl, hq, hO⟩ := hrel
    have c0 : wo.cell? ⟨w.heap.size, 0, none⟩ = some (.slice A n k) := cell_of hO.b0
    have hsz : w.heap.size + 2 < wo.heap.size := heap_lt hO.b2
    by_cases hlt : q < n
    · obtain ⟨x, hxq⟩ : ∃ x, xs[q]? = some x := ⟨_, List.getElem?_eq_getElem (by have := HX.out.1; omega)⟩
      obtain ⟨g, s0, l0, e0, s1, l1, e1, s2, l2, e2, rfl, hBg, hgw, b0, b1, b2, b3, b4, t0, r0, t1, r1, t2, r2⟩ := srcBlk hO.wt (HS.out.on (shape_below hO.bel) (Nat.le_refl _)) (HX.out.below hO.bel) hxq
      have hlt' : (q : Int) < (n : Int) := by omega
      have hq0 : (0 : Int) ≤ (q : Int) := by omega
      have hnb : (n : Int) ≤ 1099511627776 := by have := small hK HS.out.1; omega
      have HO := Lib.hid hO; have T0 := Lib.hid t0; have R0 := Lib.hid r0; have T1 := Lib.hid t1; have R1 := Lib.hid r1; have T2 := Lib.hid t2; have R2 := Lib.hid r2; have HXQ := Lib.hid hxq
      clear hO t0 r0 t1 r1 t2 r2 hxq
      go_upto_region 6 with fail
      have hib := IB.start HO.out.wt HO.out.size
      have up : ∀ (b o : Nat) (v : Value), wo.cell? ⟨b, o, none⟩ = some v → (wo.alloc (.cells #[.slice none 0 0, .slice none 0 0, .int .i64 0, .int .i64 0, .slice none 0 0] 46)).cell? ⟨b, o, none⟩ = some v := fun b o v h => bel_some ((Below.refl _ _).alloc (Nat.le_refl _) _) h
      have c0' := up _ _ _ c0
      have b0' := up _ _ _ b0
      generalize wo.alloc (.cells #[.slice none 0 0, .slice none 0 0, .int .i64 0, .int .i64 0, .slice none 0 0] 46) = wA at hib c0' b0' ⊢
      have i0 : wA.cell? ⟨wo.heap.size, 0, none⟩ = some (.slice none 0 0) := cell_of hib.box
      have t0A := T0.out.on (shape_below hib.bel) (Nat.le_refl _)
      have HIB := Lib.hid hib; have T0A := Lib.hid t0A
      clear hib t0A up
      go_cut [] (fun wx => ∃ (P : Option Addr) (cp : Nat), IB B K wo P l0 cp none 0 0 0 0 none 0 0 x.params [] [] wx)
      case first =>
        go_region_law (first
          | (refine step_append_el (w := wA.drew) (P := Tryz.prog) (B := B) (K := K) (K' := K) (n := 0) (m := l0) rfl (.tmp 20) (.tmp 26) rfl el22 HIB.out.wt.drew rfl rfl (nilV _ _ _ _ _) T0A.out (by have := T0A.out.1; omega) (Nat.le_refl _) hKb HIB.out.size ?_; intro v9 w9 happ; obtain ⟨hbx, P', cp', rfl, ib2⟩ := HIB.out.drew.params (R0.out.below HIB.out.drew.bel) T0A.out happ; have j0 : w9.cell? ⟨wo.heap.size, 0, none⟩ = some (.slice none 0 0) := cell_of hbx; have jf : w9.frozen? ⟨wo.heap.size, 0, none⟩ = false := free_of hbx; have IB2 := Lib.hid ib2; clear happ ib2 hbx))
        all_goals (try go_wp2_with fail)
        all_goals go_meet
        all_goals exact ⟨_, _, IB2.out⟩
      case rest =>
        obtain ⟨P, cp, hib⟩ := hcut
        have hl1K : l1 ≤ K := T1.out.1
        have hl1b : (l1 : Int) ≤ 1099511627776 := by have := small hK T1.out.1; omega
        clear c0' b0' i0 T0A HIB b0
        have HI := Lib.hid hib
        clear hib
        go_wp2_with fail
        go_loopw [6] (fun i w2 => ∃ (p : Nat) (O : Option Addr) (co : Nat), i = .int .i64 p ∧ p ≤ l1 ∧ IB B K wo P l0 cp O p co 0 0 none 0 0 x.params (x.ops.take p) [] w2) (fun i _ => l1 - (intOf i).toNat)
        case atStart => exact ⟨0, none, 0, rfl, by omega, HI.out⟩
        case round =>
          obtain ⟨wv, rfl⟩ : ∃ u, u = wr := ⟨_, rfl⟩
          obtain ⟨p, O, co, rfl, hp, hib⟩ := hrel
          have hT1 := T1.out.on (shape_below hib.bel) (Nat.le_refl _)
          have hR1 := R1.out.below hib.bel
          have d0 := bel_some hib.bel c0
          have d1 := bel_some hib.bel b1
          by_cases hpl : p < l1
          · obtain ⟨y, hyp⟩ : ∃ y, x.ops[p]? = some y := ⟨_, List.getElem?_eq_getElem (by have := hR1.1; omega)⟩
            obtain ⟨g1, sa, la, ca, rfl, hg1, o0, o1, o2, o3, o4, o5, hla, ta, ra⟩ := srcOp hib.wt hT1 hR1 hyp
            have hpl' : (p : Int) < (l1 : Int) := by omega
            have hp0 : (0 : Int) ≤ (p : Int) := by omega
            have hla2 : la ≤ K := ta.1
            have HIB := Lib.hid hib; have TA := Lib.hid ta; have RA := Lib.hid ra; have HYP := Lib.hid hyp
            have hszv : B ≤ wv.heap.size := hib.size
            have b1a : Below wv.heap.size wv (wv.alloc (.cells #[.int .i64 y.code, .int .i64 y.res, .int .i64 y.a, .int .i64 y.b, .int .u16 y.n, .slice sa la ca] 40)) := (Below.refl _ _).alloc (Nat.le_refl _) _
            have hwa := hib.wt.alloc _ 40 (op_typed (z0 := y.code) (z1 := y.res) (z2 := y.a) (z3 := y.b) (z4 := y.n) ta)
            have taa := ta.on (shape_below b1a) (Nat.le_refl _)
            have hTlt : wo.heap.size < wv.heap.size := hib.lt
            clear hib ta ra hyp hT1 hR1 b1a
            go_upto_region 13 with (first
              | (at_builtin; refine wpList_append_el (w := wv.alloc (.cells #[.int .i64 y.code, .int .i64 y.res, .int .i64 y.a, .int .i64 y.b, .int .u16 y.n, .slice sa la ca] 40)) (P := Tryz.prog) (B := B) (K := K) (K' := K) (n := 0) (m := la) rfl (.tmp 49) (.tmp 51) rfl el22 hwa rfl rfl (nilV _ _ _ _ _) taa (by omega) (Nat.le_refl _) hKb (by simp; omega) ?_; intro v9 w9 happ; obtain ⟨hbx, A2, c2, rfl, hfin⟩ := opCopy HIB.out.wt hszv RA.out TA.out happ; have j5 : w9.cell? ⟨wv.heap.size, 5, none⟩ = some (.slice sa la ca) := cell_of hbx; have jf : w9.frozen? ⟨wv.heap.size, 5, none⟩ = false := free_of hbx; have HFIN := Lib.hid hfin; clear happ hbx hfin))
            obtain ⟨hw3, hb3, hx3, sv3, rr3⟩ := HFIN.out _ rfl
            have ib3 := HIB.out.on hb3 hw3
            clear HFIN j5 jf
            generalize w9.setCell ⟨wv.heap.size, 5, none⟩ (.slice A2 la c2) = w3 at *
            have k1 : w3.cell? ⟨wo.heap.size, 1, none⟩ = some (.slice O p co) := cell_of ib3.box
            have y0 : w3.cell? ⟨wv.heap.size, 0, none⟩ = some (.int .i64 y.code) := cell_of hx3
            have y1 : w3.cell? ⟨wv.heap.size, 1, none⟩ = some (.int .i64 y.res) := cell_of hx3
            have y2 : w3.cell? ⟨wv.heap.size, 2, none⟩ = some (.int .i64 y.a) := cell_of hx3
            have y3 : w3.cell? ⟨wv.heap.size, 3, none⟩ = some (.int .i64 y.b) := cell_of hx3
            have y4 : w3.cell? ⟨wv.heap.size, 4, none⟩ = some (.int .u16 y.n) := cell_of hx3
            have y5 : w3.cell? ⟨wv.heap.size, 5, none⟩ = some (.slice A2 la c2) := cell_of hx3
            have b3a : Below w3.heap.size w3 (w3.alloc (.cells #[.int .i64 y.code, .int .i64 y.res, .int .i64 y.a, .int .i64 y.b, .int .u16 y.n, .slice A2 la c2] 40)) := (Below.refl _ _).alloc (Nat.le_refl _) _
            have hwa3 := ib3.wt.alloc _ 40 (op_typed (z0 := y.code) (z1 := y.res) (z2 := y.a) (z3 := y.b) (z4 := y.n) sv3)
            have to3 := ib3.to_.on (shape_below b3a) (Nat.le_refl _)
            have hsz3 : B ≤ w3.heap.size := ib3.size
            have hx3a : SlV B K (w3.alloc (.cells #[.int .i64 y.code, .int .i64 y.res, .int .i64 y.a, .int .i64 y.b, .int .u16 y.n, .slice A2 la c2] 40)) 40 6 (.slice (some ⟨w3.heap.size, 0, none⟩) 1 1) 1 := newRow hsz3 (by simp) (by omega)
            have hpK : p + 1 ≤ K := by omega
            have IB3 := Lib.hid ib3; have SV3 := Lib.hid sv3; have RR3 := Lib.hid rr3
            clear hw3 hb3 hx3 sv3 rr3 ib3 b3a
            go_wp2_with (first
              | (at_builtin; refine wpList_append_el (w := w3.alloc (.cells #[.int .i64 y.code, .int .i64 y.res, .int .i64 y.a, .int .i64 y.b, .int .u16 y.n, .slice A2 la c2] 40)) (P := Tryz.prog) (B := B) (K := K) (K' := K) (n := p) (m := 1) rfl (.tmp 55) (.tmp 57) rfl el41 hwa3 rfl rfl to3 hx3a hpK (Nat.le_refl _) hKb (by simp; omega) ?_; intro v5 w5 happ; obtain ⟨hbx, O5, c5, rfl, hfin⟩ := IB3.out.opApp hla SV3.out RR3.out happ; have j1 : w5.cell? ⟨wo.heap.size, 1, none⟩ = some (.slice O p co) := cell_of hbx; have jf : w5.frozen? ⟨wo.heap.size, 1, none⟩ = false := free_of hbx; have HFIN := Lib.hid hfin; clear happ hbx hfin))
            exact ⟨⟨p + 1, O5, c5, rfl, hpl, by rw [← take_more HYP.out]; exact HFIN.out⟩, by show l1 - ((p : Int) + 1).toNat < l1 - ((p : Int)).toNat; omega⟩
          · have hpe : p = l1 := by omega
            subst hpe
            have htk : x.ops.take p = x.ops := List.take_of_length_le (by have := hR1.1; omega)
            rw [htk] at hib
            have d2 := bel_some hib.bel b2
            have d3 := bel_some hib.bel b3
            have k2 : wv.cell? ⟨wo.heap.size, 2, none⟩ = some (.int .i64 0) := cell_of hib.box
            have k3 : wv.cell? ⟨wo.heap.size, 3, none⟩ = some (.int .i64 0) := cell_of hib.box
            have k4 : wv.cell? ⟨wo.heap.size, 4, none⟩ = some (.slice none 0 0) := cell_of hib.box
            have u2 : wv.frozen? ⟨wo.heap.size, 2, none⟩ = false := free_of hib.box
            have u3 : wv.frozen? ⟨wo.heap.size, 3, none⟩ = false := free_of hib.box
            have u4 : wv.frozen? ⟨wo.heap.size, 4, none⟩ = false := free_of hib.box
            have HIB := Lib.hid ((hib.set2 (z := x.kind)).set3 (z := x.a)).set4.drew
            clear hib hT1 hR1 htk
            go_upto_region 14 with fail
            go_region
            go_wp2_with fail
            generalize (((wv.setCell ⟨wo.heap.size, 2, none⟩ (.int .i64 x.kind)).setCell ⟨wo.heap.size, 3, none⟩ (.int .i64 x.a)).setCell ⟨wo.heap.size, 4, none⟩ (.slice none 0 0)).drew = wt at HIB ⊢
            have hl2K : l2 ≤ K := T2.out.1
            have hl2b : (l2 : Int) ≤ 1099511627776 := by have := small hK T2.out.1; omega
            clear k2 k3 k4 u2 u3 u4 d0 d1 d2 d3
            go_loopw [9] (fun i w2 => ∃ (r : Nat) (E : Option Addr) (ce : Nat), i = .int .i64 r ∧ r ≤ l2 ∧ IB B K wo P l0 cp O p co x.kind x.a E r ce x.params x.ops (x.to.take r) w2) (fun i _ => l2 - (intOf i).toNat)
            case atStart => exact ⟨0, none, 0, rfl, by omega, HIB.out⟩
            case round =>
              obtain ⟨wz, rfl⟩ : ∃ u, u = wr := ⟨_, rfl⟩
              obtain ⟨r, E, ce, rfl, hr, hib⟩ := hrel
              have hT2 := T2.out.on (shape_below hib.bel) (Nat.le_refl _)
              have hR2 := R2.out.below hib.bel
              have d0 := bel_some hib.bel c0
              have d4 := bel_some hib.bel b4
              by_cases hrl : r < l2
              · obtain ⟨y, hyr⟩ : ∃ y, x.to[r]? = some y := ⟨_, List.getElem?_eq_getElem (by have := hR2.1; omega)⟩
                obtain ⟨g2, sa, la, ca, rfl, hg2, o0, o1, hla, ta, ra⟩ := srcEdg hib.wt hT2 hR2 hyr
                have hrl' : (r : Int) < (l2 : Int) := by omega
                have hr0 : (0 : Int) ≤ (r : Int) := by omega
                have hla2 : la ≤ K := ta.1
                have HIB := Lib.hid hib; have TA := Lib.hid ta; have RA := Lib.hid ra; have HYR := Lib.hid hyr
                have hszv : B ≤ wz.heap.size := hib.size
                have b1a : Below wz.heap.size wz (wz.alloc (.cells #[.int .i64 y.block, .slice sa la ca] 49)) := (Below.refl _ _).alloc (Nat.le_refl _) _
                have hwa := hib.wt.alloc _ 49 (edge_typed (b := y.block) ta)
                have taa := ta.on (shape_below b1a) (Nat.le_refl _)
                have hTlt : wo.heap.size < wz.heap.size := hib.lt
                clear hib ta ra hyr hT2 hR2 b1a
                go_upto_region 21 with (first
                  | (at_builtin; refine wpList_append_el (w := wz.alloc (.cells #[.int .i64 y.block, .slice sa la ca] 49)) (P := Tryz.prog) (B := B) (K := K) (K' := K) (n := 0) (m := la) rfl (.tmp 98) (.tmp 100) rfl el22 hwa rfl rfl (nilV _ _ _ _ _) taa (by omega) (Nat.le_refl _) hKb (by simp; omega) ?_; intro v9 w9 happ; obtain ⟨hbx, A2, c2, rfl, hfin⟩ := edgeCopy HIB.out.wt hszv RA.out TA.out happ; have j5 : w9.cell? ⟨wz.heap.size, 1, none⟩ = some (.slice sa la ca) := cell_of hbx; have jf : w9.frozen? ⟨wz.heap.size, 1, none⟩ = false := free_of hbx; have HFIN := Lib.hid hfin; clear happ hbx hfin))
                obtain ⟨hw3, hb3, hx3, sv3, rr3⟩ := HFIN.out _ rfl
                have ib3 := HIB.out.on hb3 hw3
                clear HFIN j5 jf
                generalize w9.setCell ⟨wz.heap.size, 1, none⟩ (.slice A2 la c2) = w3 at *
                have k1 : w3.cell? ⟨wo.heap.size, 4, none⟩ = some (.slice E r ce) := cell_of ib3.box
                have y0 : w3.cell? ⟨wz.heap.size, 0, none⟩ = some (.int .i64 y.block) := cell_of hx3
                have y1 : w3.cell? ⟨wz.heap.size, 1, none⟩ = some (.slice A2 la c2) := cell_of hx3
                have b3a : Below w3.heap.size w3 (w3.alloc (.cells #[.int .i64 y.block, .slice A2 la c2] 49)) := (Below.refl _ _).alloc (Nat.le_refl _) _
                have hwa3 := ib3.wt.alloc _ 49 (edge_typed (b := y.block) sv3)
                have to3 := ib3.te.on (shape_below b3a) (Nat.le_refl _)
                have hsz3 : B ≤ w3.heap.size := ib3.size
                have hx3a : SlV B K (w3.alloc (.cells #[.int .i64 y.block, .slice A2 la c2] 49)) 49 2 (.slice (some ⟨w3.heap.size, 0, none⟩) 1 1) 1 := newRow hsz3 (by simp) (by omega)
                have hpK : r + 1 ≤ K := by omega
                have IB3 := Lib.hid ib3; have SV3 := Lib.hid sv3; have RR3 := Lib.hid rr3
                clear hw3 hb3 hx3 sv3 rr3 ib3 b3a
                go_wp2_with (first
                  | (at_builtin; refine wpList_append_el (w := w3.alloc (.cells #[.int .i64 y.block, .slice A2 la c2] 49)) (P := Tryz.prog) (B := B) (K := K) (K' := K) (n := r) (m := 1) rfl (.tmp 105) (.tmp 107) rfl el42 hwa3 rfl rfl to3 hx3a hpK (Nat.le_refl _) hKb (by simp; omega) ?_; intro v5 w5 happ; obtain ⟨hbx, O5, c5, rfl, hfin⟩ := IB3.out.edgeApp hla SV3.out RR3.out happ; have j1 : w5.cell? ⟨wo.heap.size, 4, none⟩ = some (.slice E r ce) := cell_of hbx; have jf : w5.frozen? ⟨wo.heap.size, 4, none⟩ = false := free_of hbx; have HFIN := Lib.hid hfin; clear happ hbx hfin))
                exact ⟨⟨r + 1, O5, c5, rfl, hrl, by rw [← take_more HYR.out]; exact HFIN.out⟩, by show l2 - ((r : Int) + 1).toNat < l2 - ((r : Int)).toNat; omega⟩
              · have hre : r = l2 := by omega
                subst hre
                have htk : x.to.take r = x.to := List.take_of_length_le (by have := hR2.1; omega)
                rw [htk] at hib
                have hof := HO.out.on hib.bel hib.wt
                have k0 : wz.cell? ⟨wo.heap.size, 0, none⟩ = some (.slice P l0 cp) := cell_of hib.box
                have k1 : wz.cell? ⟨wo.heap.size, 1, none⟩ = some (.slice O p co) := cell_of hib.box
                have k2 : wz.cell? ⟨wo.heap.size, 2, none⟩ = some (.int .i64 x.kind) := cell_of hib.box
                have k3 : wz.cell? ⟨wo.heap.size, 3, none⟩ = some (.int .i64 x.a) := cell_of hib.box
                have k4 : wz.cell? ⟨wo.heap.size, 4, none⟩ = some (.slice E r ce) := cell_of hib.box
                have m2 : wz.cell? ⟨w.heap.size + 2, 0, none⟩ = some (.slice G q cg) := cell_of hof.b2
                have hw1 := hib.wt.alloc _ 46 (blk_typed (z2 := x.kind) (z3 := x.a) hib.tp hib.to_ hib.te)
                have b3a : Below wz.heap.size wz (wz.alloc (.cells #[.slice P l0 cp, .slice O p co, .int .i64 x.kind, .int .i64 x.a, .slice E r ce] 46)) := (Below.refl _ _).alloc (Nat.le_refl _) _
                have tg1 := hof.tg.on (shape_below b3a) (Nat.le_refl _)
                have hszz : B ≤ wz.heap.size := hib.size
                have hxb : SlV B K (wz.alloc (.cells #[.slice P l0 cp, .slice O p co, .int .i64 x.kind, .int .i64 x.a, .slice E r ce] 46)) 46 5 (.slice (some ⟨wz.heap.size, 0, none⟩) 1 1) 1 := newRow hszz (by simp) (by have := HS.out.1; omega)
                have hqK : q + 1 ≤ K := by have := HS.out.1; omega
                have HOF := Lib.hid hof; have HIB := Lib.hid hib
                clear hof hib hT2 hR2 htk b3a
                go_wp2_with (first
                  | (at_builtin; refine wpList_append_el (w := wz.alloc (.cells #[.slice P l0 cp, .slice O p co, .int .i64 x.kind, .int .i64 x.a, .slice E r ce] 46)) (P := Tryz.prog) (B := B) (K := K) (K' := K) (n := q) (m := 1) rfl (.tmp 112) (.tmp 114) rfl el32 hw1 rfl rfl tg1 hxb hqK (Nat.le_refl _) hKb (by simp; omega) ?_; intro v5 w5 happ; obtain ⟨hbx, G5, c5, rfl, hfin⟩ := HOF.out.close HXQ.out (small hK HIB.out.tp.1) HIB.out.tp HIB.out.rp (small hK HIB.out.to_.1) HIB.out.to_ HIB.out.ro (small hK HIB.out.te.1) HIB.out.te HIB.out.re happ; have j1 : w5.cell? ⟨w.heap.size + 2, 0, none⟩ = some (.slice G q cg) := cell_of hbx; have jf : w5.frozen? ⟨w.heap.size + 2, 0, none⟩ = false := free_of hbx; have HFIN := Lib.hid hfin; clear happ hbx hfin))
                exact ⟨⟨q + 1, G5, c5, rfl, hlt, HFIN.out⟩, by show n - ((q : Int) + 1).toNat < n - ((q : Int)).toNat; omega⟩
    · have hqn : q = n := by omega
      subst hqn
      have m1 : wo.cell? ⟨w.heap.size + 1, 0, none⟩ = some (.slice none 0 0) := cell_of hO.b1
      have m2 : wo.cell? ⟨w.heap.size + 2, 0, none⟩ = some (.slice G q cg) := cell_of hO.b2
      have f1 : wo.frozen? ⟨w.heap.size + 1, 0, none⟩ = false := free_of hO.b1
      have htk : xs.take q = xs := List.take_of_length_le (by have := HX.out.1; omega)
      have HO := Lib.hid hO
      clear hO
      go_wp2_with fail
      have mfin : (wo.setCell ⟨w.heap.size + 1, 0, none⟩ (.slice G q cg)).cell? ⟨w.heap.size + 1, 0, none⟩ = some (.slice G q cg) := by rw [cell_of (Eng.setCell_blk HO.out.b1)]; rfl
      refine bodyPost_ret (v := .agg #[.slice G q cg]) (by simp [results, Tryz.results8, go_sem, mfin]; done) rfl ?_
      refine ⟨G, cg, rfl, ?_⟩
      have hO := HO.out
      have hof : OF B K w A q k xs G q cg wo := hO
      have sh : Shape wo (wo.setCell ⟨w.heap.size + 1, 0, none⟩ (.slice G q cg)) := (Shape.refl _).setCell _ rfl _
      have kk : ∀ e, e ≠ 34 → Keeps e wo (wo.setCell ⟨w.heap.size + 1, 0, none⟩ (.slice G q cg)) := fun e he => Keeps.set hO.b1 he
      refine ⟨hO.wt.setCell _ _ _ fun cs e fr hg ck hl => (by rw [hO.b1] at hg; cases hg; cases hl; exact ⟨_, hO.tg⟩), hO.bel.setCell (Nat.le_add_right _ 1) _, hO.tg.on sh (Nat.le_refl _), ?_⟩
      have hr := hO.rg
      rw [htk] at hr
      exact hr.keep hO.wt hO.tg (kk 3 (by decide)) (kk 40 (by decide)) (kk 46 (by decide)) (kk 49 (by decide))
end Go.Proofs.YtahljbkaemhpcaaGreat
