/- A copy of a function: the state of the walk. -/
import Derived.Test.YtahljbkaemhpcaaGreatN2
namespace Go.Proofs.YtahljbkaemhpcaaGreat
open Go.RowKit
set_option linter.unusedVariables false
theorem shape_below {w w' : World} (h : Below w.heap.size w w') : Shape w w' := .of_same h.block
theorem Keeps.trans {e : TypeId} {w w' w'' : World} (h : Keeps e w w') (h' : Keeps e w' w'') : Keeps e w w'' := fun g cs fr hg => h' g cs fr (h g cs fr hg)
theorem Keeps.set {e e' : TypeId} {w : World} {g0 i : Nat} {v : Value} {cs : Array Value} {fr : Nat × Nat} (h : w.heap[g0]? = some (.cells cs e' fr)) (he : e ≠ e') : Keeps e w (w.setCell ⟨g0, i, none⟩ v) := fun g cs' fr' hg => by
  have hne : g ≠ g0 := by
    rintro rfl
    rw [h] at hg; cases hg; exact he rfl
  rw [Eng.setCell_other hne]; exact hg
theorem App.belowNil {B K : Nat} {w w' : World} {e sz m : Nat} {x v : Value} (ha : App B K w w' e sz (.slice none 0 0) x 0 m v) : Below w.heap.size w w' :=
  ⟨ha.os, ha.tape, ha.out, ha.size, fun k hk => ha.far k hk (by rw [own_none]; simp)⟩
theorem App.below {B K S : Nat} {w w' : World} {e sz n m : Nat} {s x v : Value} (ha : App B K w w' e sz s x n m v) (hS : S ≤ w.heap.size) (ho : ∀ g, s.ownBlock = some g → S ≤ g) : Below S w w' :=
  ⟨ha.os, ha.tape, ha.out, ha.size, fun k hk => ha.far k (by omega) (fun h => by have := ho _ h; omega)⟩
/-- A block of the copy while it is made. -/
structure IB (B K : Nat) (u : World) (P : Option Addr) (lp cp : Nat) (O : Option Addr) (lo co : Nat) (z0 z1 : Int) (E : Option Addr) (le ce : Nat) (ps : List Int) (os : List Opr) (es : List Edg) (w : World) : Prop where
  box : w.heap[u.heap.size]? = some (.cells #[.slice P lp cp, .slice O lo co, .int .i64 z0, .int .i64 z1, .slice E le ce] 46 (0, 0))
  wt : WT B K w
  bel : Below u.heap.size u w
  tp : SlV B K w 3 1 (.slice P lp cp) lp
  to_ : SlV B K w 40 6 (.slice O lo co) lo
  te : SlV B K w 49 2 (.slice E le ce) le
  rp : RInts w P lp ps
  ro : ROprs w O lo os
  re : REdgs w E le es
  oo : ∀ g, Value.ownBlock (.slice O lo co) = some g → u.heap.size ≤ g
  oe : ∀ g, Value.ownBlock (.slice E le ce) = some g → u.heap.size ≤ g
  uB : B ≤ u.heap.size
section
variable {B K : Nat} {u w w' : World} {P O E : Option Addr} {lp cp lo co le ce : Nat} {z0 z1 : Int} {ps : List Int} {os : List Opr} {es : List Edg}
theorem IB.size (h : IB B K u P lp cp O lo co z0 z1 E le ce ps os es w) : B ≤ w.heap.size := Nat.le_trans h.uB h.bel.size
theorem IB.lt (h : IB B K u P lp cp O lo co z0 z1 E le ce ps os es w) : u.heap.size < w.heap.size := heap_lt h.box
theorem IB.on (h : IB B K u P lp cp O lo co z0 z1 E le ce ps os es w) (hb : Below w.heap.size w w') (hw : WT B K w') : IB B K u P lp cp O lo co z0 z1 E le ce ps os es w' :=
  have sh := shape_below hb
  ⟨(hb.block _ h.lt).trans h.box, hw, h.bel.trans (hb.mono h.bel.size), h.tp.on sh (Nat.le_refl _), h.to_.on sh (Nat.le_refl _), h.te.on sh (Nat.le_refl _), h.rp.below hb, h.ro.below hb, h.re.below hb, h.oo, h.oe, h.uB⟩
theorem IB.drew (h : IB B K u P lp cp O lo co z0 z1 E le ce ps os es w) : IB B K u P lp cp O lo co z0 z1 E le ce ps os es w.drew := h.on (Below.refl _ _).drew h.wt.drew
theorem RInts.nil (w : World) : RInts w none 0 [] := ⟨rfl, fun j z h => by simp at h⟩
theorem ROprs.nil (w : World) : ROprs w none 0 [] := ⟨rfl, fun j z h => by simp at h⟩
theorem REdgs.nil (w : World) : REdgs w none 0 [] := ⟨rfl, fun j z h => by simp at h⟩
theorem IB.start (hw : WT B K u) (hB : B ≤ u.heap.size) : IB B K u none 0 0 none 0 0 0 0 none 0 0 [] [] [] (u.alloc (.cells #[.slice none 0 0, .slice none 0 0, .int .i64 0, .int .i64 0, .slice none 0 0] 46)) :=
  ⟨heap_alloc_new u _, hw.alloc _ 46 (blk_typed (nilV _ _ _ _ _) (nilV _ _ _ _ _) (nilV _ _ _ _ _)), (Below.refl _ _).alloc (Nat.le_refl _) _, nilV _ _ _ _ _, nilV _ _ _ _ _, nilV _ _ _ _ _, RInts.nil _, ROprs.nil _, REdgs.nil _, fun g hg => (by rw [own_none] at hg; cases hg), fun g hg => (by rw [own_none] at hg; cases hg), hB⟩
/-- A store into the block's box. -/
theorem IB.store {i : Nat} {v : Value} {P' O' E' : Option Addr} {lp' cp' lo' co' le' ce' : Nat} {z0' z1' : Int} {ps' : List Int} {os' : List Opr} {es' : List Edg} (h : w.heap[u.heap.size]? = some (.cells #[.slice P lp cp, .slice O lo co, .int .i64 z0, .int .i64 z1, .slice E le ce] 46 (0, 0))) (hw : WT B K w) (hb : Below u.heap.size u w) (hB : B ≤ u.heap.size)
    (hc : (#[.slice P lp cp, .slice O lo co, .int .i64 z0, .int .i64 z1, .slice E le ce] : Array Value).setIfInBounds i v = #[.slice P' lp' cp', .slice O' lo' co', .int .i64 z0', .int .i64 z1', .slice E' le' ce']) (hv : ∀ ck, layK 46 i = some ck → Fits B K w ck v)
    (tp : SlV B K w 3 1 (.slice P' lp' cp') lp') (to_ : SlV B K w 40 6 (.slice O' lo' co') lo') (te : SlV B K w 49 2 (.slice E' le' ce') le') (rp : RInts w P' lp' ps') (ro : ROprs w O' lo' os') (re : REdgs w E' le' es')
    (oo : ∀ g, Value.ownBlock (.slice O' lo' co') = some g → u.heap.size ≤ g) (oe : ∀ g, Value.ownBlock (.slice E' le' ce') = some g → u.heap.size ≤ g) :
    IB B K u P' lp' cp' O' lo' co' z0' z1' E' le' ce' ps' os' es' (w.setCell ⟨u.heap.size, i, none⟩ v) := by
  have sh : Shape w (w.setCell ⟨u.heap.size, i, none⟩ v) := (Shape.refl _).setCell _ rfl v
  have k3 : Keeps 3 w (w.setCell ⟨u.heap.size, i, none⟩ v) := Keeps.set h (by decide)
  have k40 : Keeps 40 w (w.setCell ⟨u.heap.size, i, none⟩ v) := Keeps.set h (by decide)
  have k49 : Keeps 49 w (w.setCell ⟨u.heap.size, i, none⟩ v) := Keeps.set h (by decide)
  exact ⟨by rw [Eng.setCell_blk h, hc], hw.setCell _ _ _ fun cs e fr hg ck hl => (by rw [h] at hg; cases hg; exact hv ck hl), hb.setCell (Nat.le_refl _) v, tp.on sh (Nat.le_refl _), to_.on sh (Nat.le_refl _), te.on sh (Nat.le_refl _), rp.keep tp k3, ro.keep hw to_ k3 k40, re.keep hw te k3 k49, oo, oe, hB⟩
/-- The parameters were copied. -/
theorem IB.params {wx : World} {A : Option Addr} {n k : Nat} {v : Value} {xs : List Int} (h : IB B K u none 0 0 O lo co z0 z1 E le ce [] os es w) (hr : RInts w A n xs) (hs : SlV B K w 3 1 (.slice A n k) n) (ha : App B K w wx 3 1 (.slice none 0 0) (.slice A n k) 0 n v) :
    wx.heap[u.heap.size]? = some (.cells #[.slice none 0 0, .slice O lo co, .int .i64 z0, .int .i64 z1, .slice E le ce] 46 (0, 0)) ∧ ∃ P' cp', v = .slice P' n cp' ∧ IB B K u P' n cp' O lo co z0 z1 E le ce xs os es (wx.setCell ⟨u.heap.size, 0, none⟩ (.slice P' n cp')) := by
  obtain ⟨P', cp', rfl, sv, rr, _⟩ := hr.copy hs ha
  have h2 := h.on ha.belowNil ha.wt
  exact ⟨h2.box, P', cp', rfl, IB.store h2.box h2.wt h2.bel h2.uB rfl (fun ck hl => by cases hl; exact ⟨_, sv⟩) sv h2.to_ h2.te rr h2.ro h2.re h2.oo h2.oe⟩
theorem IB.set2 {z : Int} (h : IB B K u P lp cp O lo co z0 z1 E le ce ps os es w) : IB B K u P lp cp O lo co z z1 E le ce ps os es (w.setCell ⟨u.heap.size, 2, none⟩ (.int .i64 z)) :=
  IB.store h.box h.wt h.bel h.uB rfl (fun ck hl => by cases hl; exact ⟨_, rfl⟩) h.tp h.to_ h.te h.rp h.ro h.re h.oo h.oe
theorem IB.set3 {z : Int} (h : IB B K u P lp cp O lo co z0 z1 E le ce ps os es w) : IB B K u P lp cp O lo co z0 z E le ce ps os es (w.setCell ⟨u.heap.size, 3, none⟩ (.int .i64 z)) :=
  IB.store h.box h.wt h.bel h.uB rfl (fun ck hl => by cases hl; exact ⟨_, rfl⟩) h.tp h.to_ h.te h.rp h.ro h.re h.oo h.oe
theorem IB.set4 (h : IB B K u P lp cp O lo co z0 z1 none 0 0 ps os [] w) : IB B K u P lp cp O lo co z0 z1 none 0 0 ps os [] (w.setCell ⟨u.heap.size, 4, none⟩ (.slice none 0 0)) :=
  IB.store h.box h.wt h.bel h.uB rfl (fun ck hl => by cases hl; exact fits_nil ..) h.tp h.to_ h.te h.rp h.ro h.re h.oo h.oe
/-- An operation's copy in its box. -/
theorem opCopy {y : Opr} {sa : Option Addr} {la cc : Nat} {w2 : World} {v : Value} (hw : WT B K w) (hB : B ≤ w.heap.size) (hr : RInts w sa la y.args) (hs : SlV B K w 3 1 (.slice sa la cc) la)
    (ha : App B K (w.alloc (.cells #[.int .i64 y.code, .int .i64 y.res, .int .i64 y.a, .int .i64 y.b, .int .u16 y.n, .slice sa la cc] 40)) w2 3 1 (.slice none 0 0) (.slice sa la cc) 0 la v) :
    w2.heap[w.heap.size]? = some (.cells #[.int .i64 y.code, .int .i64 y.res, .int .i64 y.a, .int .i64 y.b, .int .u16 y.n, .slice sa la cc] 40 (0, 0)) ∧ ∃ A2 c2, v = .slice A2 la c2 ∧ ∀ w3, w3 = w2.setCell ⟨w.heap.size, 5, none⟩ (.slice A2 la c2) → WT B K w3 ∧ Below w.heap.size w w3 ∧ w3.heap[w.heap.size]? = some (.cells #[.int .i64 y.code, .int .i64 y.res, .int .i64 y.a, .int .i64 y.b, .int .u16 y.n, .slice A2 la c2] 40 (0, 0)) ∧ SlV B K w3 3 1 (.slice A2 la c2) la ∧ RInts w3 A2 la y.args := by
  have b1 : Below w.heap.size w (w.alloc (.cells #[.int .i64 y.code, .int .i64 y.res, .int .i64 y.a, .int .i64 y.b, .int .u16 y.n, .slice sa la cc] 40)) := (Below.refl _ _).alloc (Nat.le_refl _) _
  obtain ⟨A2, c2, rfl, sv, rr, _⟩ := (hr.below b1).copy (hs.on (shape_below b1) (Nat.le_refl _)) ha
  have hbx : w2.heap[w.heap.size]? = some (.cells #[.int .i64 y.code, .int .i64 y.res, .int .i64 y.a, .int .i64 y.b, .int .u16 y.n, .slice sa la cc] 40 (0, 0)) := (ha.belowNil.block _ (by simp)).trans (heap_alloc_new w _)
  refine ⟨hbx, A2, c2, rfl, ?_⟩
  rintro w3 rfl
  have sh : Shape w2 (w2.setCell ⟨w.heap.size, 5, none⟩ (.slice A2 la c2)) := (Shape.refl _).setCell _ rfl _
  exact ⟨ha.wt.setCell _ _ _ fun cs e fr hg ck hl => (by rw [hbx] at hg; cases hg; cases hl; exact ⟨_, sv⟩), (b1.trans (ha.belowNil.mono b1.size)).setCell (Nat.le_refl _) _, by rw [Eng.setCell_blk hbx]; rfl, sv.on sh (Nat.le_refl _), rr.keep sv (Keeps.set hbx (by decide))⟩
/-- The copy was appended to the block's operations. -/
theorem IB.opApp {y : Opr} {sa : Option Addr} {la cc : Nat} {w5 : World} {v : Value} (h : IB B K u P lp cp O lo co z0 z1 E le ce ps os es w) (hl : la ≤ 1099511627776) (hs : SlV B K w 3 1 (.slice sa la cc) la) (hr : RInts w sa la y.args)
    (ha : App B K (w.alloc (.cells #[.int .i64 y.code, .int .i64 y.res, .int .i64 y.a, .int .i64 y.b, .int .u16 y.n, .slice sa la cc] 40)) w5 40 6 (.slice O lo co) (.slice (some ⟨w.heap.size, 0, none⟩) 1 1) lo 1 v) :
    w5.heap[u.heap.size]? = some (.cells #[.slice P lp cp, .slice O lo co, .int .i64 z0, .int .i64 z1, .slice E le ce] 46 (0, 0)) ∧ ∃ O5 c5, v = .slice O5 (lo + 1) c5 ∧ IB B K u P lp cp O5 (lo + 1) c5 z0 z1 E le ce ps (os ++ [y]) es (w5.setCell ⟨u.heap.size, 1, none⟩ (.slice O5 (lo + 1) c5)) := by
  have b1 : Below w.heap.size w (w.alloc (.cells #[.int .i64 y.code, .int .i64 y.res, .int .i64 y.a, .int .i64 y.b, .int .u16 y.n, .slice sa la cc] 40)) := (Below.refl _ _).alloc (Nat.le_refl _) _
  have h1 := h.on b1 (h.wt.alloc _ 40 (op_typed hs))
  obtain ⟨O5, c5, rfl⟩ := ha.slv.form
  have hbx := ha.other h1.to_ h1.box (by decide)
  have bel : Below u.heap.size u w5 := h1.bel.trans (ha.below h1.bel.size h1.oo)
  have k3 := ha.keeps h1.to_ (e' := 3) (by decide)
  have k49 := ha.keeps h1.to_ (e' := 49) (by decide)
  refine ⟨hbx, O5, c5, rfl, IB.store hbx ha.wt bel h.uB rfl (fun ck hl => by cases hl; exact ⟨_, ha.slv⟩) (h1.tp.on ha.shape (Nat.le_refl _)) ha.slv (h1.te.on ha.shape (Nat.le_refl _)) (h1.rp.keep h1.tp k3)
    (h1.ro.app h1.wt h1.to_ ha (heap_alloc_new w _) hl (hs.on (shape_below b1) (Nat.le_refl _)) (hr.below b1)) (h1.re.keep h1.wt h1.te k3 k49) (fun g hg => ?_) h.oe⟩
  rcases ha.home with e | e
  · exact h.oo g (e ▸ hg)
  · rw [e] at hg; cases hg
    have := h1.bel.size; exact this
/-- An edge's copy in its box. -/
theorem edgeCopy {y : Edg} {sa : Option Addr} {la cc : Nat} {w2 : World} {v : Value} (hw : WT B K w) (hB : B ≤ w.heap.size) (hr : RInts w sa la y.args) (hs : SlV B K w 3 1 (.slice sa la cc) la)
    (ha : App B K (w.alloc (.cells #[.int .i64 y.block, .slice sa la cc] 49)) w2 3 1 (.slice none 0 0) (.slice sa la cc) 0 la v) :
    w2.heap[w.heap.size]? = some (.cells #[.int .i64 y.block, .slice sa la cc] 49 (0, 0)) ∧ ∃ A2 c2, v = .slice A2 la c2 ∧ ∀ w3, w3 = w2.setCell ⟨w.heap.size, 1, none⟩ (.slice A2 la c2) → WT B K w3 ∧ Below w.heap.size w w3 ∧ w3.heap[w.heap.size]? = some (.cells #[.int .i64 y.block, .slice A2 la c2] 49 (0, 0)) ∧ SlV B K w3 3 1 (.slice A2 la c2) la ∧ RInts w3 A2 la y.args := by
  have b1 : Below w.heap.size w (w.alloc (.cells #[.int .i64 y.block, .slice sa la cc] 49)) := (Below.refl _ _).alloc (Nat.le_refl _) _
  obtain ⟨A2, c2, rfl, sv, rr, _⟩ := (hr.below b1).copy (hs.on (shape_below b1) (Nat.le_refl _)) ha
  have hbx : w2.heap[w.heap.size]? = some (.cells #[.int .i64 y.block, .slice sa la cc] 49 (0, 0)) := (ha.belowNil.block _ (by simp)).trans (heap_alloc_new w _)
  refine ⟨hbx, A2, c2, rfl, ?_⟩
  rintro w3 rfl
  have sh : Shape w2 (w2.setCell ⟨w.heap.size, 1, none⟩ (.slice A2 la c2)) := (Shape.refl _).setCell _ rfl _
  exact ⟨ha.wt.setCell _ _ _ fun cs e fr hg ck hl => (by rw [hbx] at hg; cases hg; cases hl; exact ⟨_, sv⟩), (b1.trans (ha.belowNil.mono b1.size)).setCell (Nat.le_refl _) _, by rw [Eng.setCell_blk hbx]; rfl, sv.on sh (Nat.le_refl _), rr.keep sv (Keeps.set hbx (by decide))⟩
theorem IB.edgeApp {y : Edg} {sa : Option Addr} {la cc : Nat} {w5 : World} {v : Value} (h : IB B K u P lp cp O lo co z0 z1 E le ce ps os es w) (hl : la ≤ 1099511627776) (hs : SlV B K w 3 1 (.slice sa la cc) la) (hr : RInts w sa la y.args)
    (ha : App B K (w.alloc (.cells #[.int .i64 y.block, .slice sa la cc] 49)) w5 49 2 (.slice E le ce) (.slice (some ⟨w.heap.size, 0, none⟩) 1 1) le 1 v) :
    w5.heap[u.heap.size]? = some (.cells #[.slice P lp cp, .slice O lo co, .int .i64 z0, .int .i64 z1, .slice E le ce] 46 (0, 0)) ∧ ∃ E5 c5, v = .slice E5 (le + 1) c5 ∧ IB B K u P lp cp O lo co z0 z1 E5 (le + 1) c5 ps os (es ++ [y]) (w5.setCell ⟨u.heap.size, 4, none⟩ (.slice E5 (le + 1) c5)) := by
  have b1 : Below w.heap.size w (w.alloc (.cells #[.int .i64 y.block, .slice sa la cc] 49)) := (Below.refl _ _).alloc (Nat.le_refl _) _
  have h1 := h.on b1 (h.wt.alloc _ 49 (edge_typed hs))
  obtain ⟨E5, c5, rfl⟩ := ha.slv.form
  have hbx := ha.other h1.te h1.box (by decide)
  have bel : Below u.heap.size u w5 := h1.bel.trans (ha.below h1.bel.size h1.oe)
  have k3 := ha.keeps h1.te (e' := 3) (by decide)
  have k40 := ha.keeps h1.te (e' := 40) (by decide)
  refine ⟨hbx, E5, c5, rfl, IB.store hbx ha.wt bel h.uB rfl (fun ck hl => by cases hl; exact ⟨_, ha.slv⟩) (h1.tp.on ha.shape (Nat.le_refl _)) (h1.to_.on ha.shape (Nat.le_refl _)) ha.slv (h1.rp.keep h1.tp k3) (h1.ro.keep h1.wt h1.to_ k3 k40)
    (h1.re.app h1.wt h1.te ha (heap_alloc_new w _) hl (hs.on (shape_below b1) (Nat.le_refl _)) (hr.below b1)) h.oo (fun g hg => ?_)⟩
  rcases ha.home with e | e
  · exact h.oe g (e ▸ hg)
  · rw [e] at hg; cases hg
    have := h1.bel.size; exact this
end
/-- The copy of a function while it is made. -/
structure OF (B K : Nat) (w0 : World) (A : Option Addr) (n k : Nat) (xs : List Blk) (G : Option Addr) (i cg : Nat) (w : World) : Prop where
  b0 : w.heap[w0.heap.size]? = some (.cells #[.slice A n k] 34 (0, 0))
  b1 : w.heap[w0.heap.size + 1]? = some (.cells #[.slice none 0 0] 34 (0, 0))
  b2 : w.heap[w0.heap.size + 2]? = some (.cells #[.slice G i cg] 34 (0, 0))
  wt : WT B K w
  bel : Below w0.heap.size w0 w
  tg : SlV B K w 46 5 (.slice G i cg) i
  rg : RBlks w G i (xs.take i)
  og : ∀ g, Value.ownBlock (.slice G i cg) = some g → w0.heap.size ≤ g
  oB : B ≤ w0.heap.size
section
variable {B K : Nat} {w0 w w' : World} {A G : Option Addr} {n k i cg : Nat} {xs : List Blk}
theorem OF.size (h : OF B K w0 A n k xs G i cg w) : B ≤ w.heap.size := Nat.le_trans h.oB h.bel.size
theorem OF.on (h : OF B K w0 A n k xs G i cg w) (hb : Below w.heap.size w w') (hw : WT B K w') : OF B K w0 A n k xs G i cg w' :=
  ⟨(hb.block _ (heap_lt h.b0)).trans h.b0, (hb.block _ (heap_lt h.b1)).trans h.b1, (hb.block _ (heap_lt h.b2)).trans h.b2, hw, h.bel.trans (hb.mono h.bel.size), h.tg.on (shape_below hb) (Nat.le_refl _), h.rg.below hb, h.og, h.oB⟩
theorem OF.close {x : Blk} {s0 s1 s2 : Option Addr} {l0 c0 l1 c1 l2 c2 : Nat} {w2 : World} {v : Value} (h : OF B K w0 A n k xs G i cg w) (hx : xs[i]? = some x) 
    (a0 : l0 ≤ 1099511627776) (t0 : SlV B K w 3 1 (.slice s0 l0 c0) l0) (r0 : RInts w s0 l0 x.params) (a1 : l1 ≤ 1099511627776) (t1 : SlV B K w 40 6 (.slice s1 l1 c1) l1) (r1 : ROprs w s1 l1 x.ops) (a2 : l2 ≤ 1099511627776) (t2 : SlV B K w 49 2 (.slice s2 l2 c2) l2) (r2 : REdgs w s2 l2 x.to)
    (ha : App B K (w.alloc (.cells #[.slice s0 l0 c0, .slice s1 l1 c1, .int .i64 x.kind, .int .i64 x.a, .slice s2 l2 c2] 46)) w2 46 5 (.slice G i cg) (.slice (some ⟨w.heap.size, 0, none⟩) 1 1) i 1 v) :
    w2.heap[w0.heap.size + 2]? = some (.cells #[.slice G i cg] 34 (0, 0)) ∧ ∃ G2 c, v = .slice G2 (i + 1) c ∧ OF B K w0 A n k xs G2 (i + 1) c (w2.setCell ⟨w0.heap.size + 2, 0, none⟩ (.slice G2 (i + 1) c)) := by
  have b1 : Below w.heap.size w (w.alloc (.cells #[.slice s0 l0 c0, .slice s1 l1 c1, .int .i64 x.kind, .int .i64 x.a, .slice s2 l2 c2] 46)) := (Below.refl _ _).alloc (Nat.le_refl _) _
  have sh1 := shape_below b1
  have h1 := h.on b1 (h.wt.alloc _ 46 (blk_typed t0 t1 t2))
  obtain ⟨G2, c, rfl⟩ := ha.slv.form
  have e0 := ha.other h1.tg h1.b0 (by decide)
  have e1 := ha.other h1.tg h1.b1 (by decide)
  have e2 := ha.other h1.tg h1.b2 (by decide)
  have sh2 : Shape w2 (w2.setCell ⟨w0.heap.size + 2, 0, none⟩ (.slice G2 (i + 1) c)) := (Shape.refl _).setCell _ rfl _
  have kk : ∀ e, e ≠ 34 → Keeps e w2 (w2.setCell ⟨w0.heap.size + 2, 0, none⟩ (.slice G2 (i + 1) c)) := fun e he => Keeps.set e2 he
  have hap := h1.rg.app h1.wt h1.tg ha (heap_alloc_new w _) a0 (t0.on sh1 (Nat.le_refl _)) (r0.below b1) a1 (t1.on sh1 (Nat.le_refl _)) (r1.below b1) a2 (t2.on sh1 (Nat.le_refl _)) (r2.below b1)
  have htk : xs.take i ++ [x] = xs.take (i + 1) := by rw [List.take_add_one, hx]; rfl
  rw [htk] at hap
  refine ⟨e2, G2, c, rfl, by rw [Eng.setCell_other (by omega)]; exact e0, by rw [Eng.setCell_other (by omega)]; exact e1, by rw [Eng.setCell_blk e2]; rfl, ha.wt.setCell _ _ _ fun cs e fr hg ck hl => (by rw [e2] at hg; cases hg; cases hl; exact ⟨_, ha.slv⟩), (h1.bel.trans (ha.below h1.bel.size h1.og)).setCell (Nat.le_add_right _ 2) _, ha.slv.on sh2 (Nat.le_refl _), ?_, fun g hg => ?_, h.oB⟩
  · refine ⟨hap.1, fun j y hj => ?_⟩
    obtain ⟨g, o, s0, l0, c0, s1, l1, c1, s2, l2, c2, rfl, b0, b1, b2, b3, b4, q0, p0, q1, p1, q2, p2⟩ := hap.2 j y hj
    obtain ⟨rfl, hB, _, cs, hg, _⟩ := ha.slv.addr
    have e : ∀ i', (w2.setCell ⟨w0.heap.size + 2, 0, none⟩ (.slice (some ⟨g, 0, none⟩) (i + 1) c)).cell? ⟨g, i', none⟩ = w2.cell? ⟨g, i', none⟩ := fun i' => by rw [cell_of (kk 46 (by decide) g cs _ hg), cell_of hg]
    rw [Nat.zero_add] at b0 b1 b2 b3 b4
    have v0 := cell_slice ha.wt hB hg (j := j * 5) (by rw [← Nat.add_zero (j * 5)]; exact lay5) b0
    have v1 := cell_slice ha.wt hB hg lay5 b1
    have v4 := cell_slice ha.wt hB hg lay5 b4
    refine ⟨g, 0, s0, l0, c0, s1, l1, c1, s2, l2, c2, rfl, ?_, ?_, ?_, ?_, ?_, q0, p0.keep v0 (kk 3 (by decide)), q1, p1.keep ha.wt v1 (kk 3 (by decide)) (kk 40 (by decide)), q2, p2.keep ha.wt v4 (kk 3 (by decide)) (kk 49 (by decide))⟩ <;> (rw [Nat.zero_add, e]; assumption)
  · rcases ha.home with e | e
    · exact h.og g (e ▸ hg)
    · rw [e] at hg; cases hg
      have := h1.bel.size; exact this
end
end Go.Proofs.YtahljbkaemhpcaaGreat
