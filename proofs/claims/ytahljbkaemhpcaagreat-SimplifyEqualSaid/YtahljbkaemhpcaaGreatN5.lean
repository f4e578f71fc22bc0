/- A copy of a program: Own. -/
import Derived.Test.YtahljbkaemhpcaaGreatN4
namespace Go.Proofs.YtahljbkaemhpcaaGreat
open Go.RowKit
set_option linter.unusedVariables false
/-- A program's cells. -/
def pc (fa : Option Addr) (n fc : Nat) (aa : Option Addr) (na ac : Nat) (en ha : Int) (da : Option Addr) (nd dc : Nat) (ba : Option Addr) (nb bc : Nat) : Array Value := #[.slice fa n fc, .slice aa na ac, .int .i64 en, .int .i64 ha, .slice da nd dc, .slice ba nb bc]
/-- A program as a value, its slices typed. -/
structure TP (B K : Nat) (w : World) (fa : Option Addr) (n fc : Nat) (aa : Option Addr) (na ac : Nat) (da : Option Addr) (nd dc : Nat) (ba : Option Addr) (nb bc : Nat) : Prop where
  tf : SlV B K w 34 1 (.slice fa n fc) n
  ta : SlV B K w 3 1 (.slice aa na ac) na
  td : SlV B K w 53 3 (.slice da nd dc) nd
  tb : SlV B K w 9 1 (.slice ba nb bc) nb
theorem TP.on {B K K' : Nat} {w w' : World} {fa : Option Addr} {n fc : Nat} {aa : Option Addr} {na ac : Nat} {da : Option Addr} {nd dc : Nat} {ba : Option Addr} {nb bc : Nat} (h : TP B K w fa n fc aa na ac da nd dc ba nb bc) (hs : Shape w w') (hK : K ≤ K') : TP B K' w' fa n fc aa na ac da nd dc ba nb bc :=
  ⟨h.tf.on hs hK, h.ta.on hs hK, h.td.on hs hK, h.tb.on hs hK⟩
/-- A call that gives a typed program. -/
def ProgP (B K : Nat) (w : World) (S : Nat) (e : Ending) (w' : World) : Prop :=
  ∃ (fa : Option Addr) (n fc : Nat) (aa : Option Addr) (na ac : Nat) (en ha : Int) (da : Option Addr) (nd dc : Nat) (ba : Option Addr) (nb bc : Nat), e = .returned (.agg (pc fa n fc aa na ac en ha da nd dc ba nb bc)) ∧ TP B K w' fa n fc aa na ac da nd dc ba nb bc ∧ WT B K w' ∧ Below S w w' ∧ Shape w w'
/-- The copy of a program while it is made. -/
structure OW (B K : Nat) (w0 : World) (src : Array Value) (z : Array Value) (F : Option Addr) (i cF : Nat) (A : Option Addr) (na ca : Nat) (en ha : Int) (D : Option Addr) (nd cd : Nat) (Bk : Option Addr) (nb cb : Nat) (w : World) : Prop where
  b0 : w.heap[w0.heap.size]? = some (.cells src 29 (0, 0))
  b1 : w.heap[w0.heap.size + 1]? = some (.cells z 29 (0, 0))
  b2 : w.heap[w0.heap.size + 2]? = some (.cells (pc F i cF A na ca en ha D nd cd Bk nb cb) 29 (0, 0))
  wt : WT B K w
  bel : Below w0.heap.size w0 w
  tp : TP B K w F i cF A na ca D nd cd Bk nb cb
  of_ : ∀ g, Value.ownBlock (.slice F i cF) = some g → w0.heap.size ≤ g
  oB : B ≤ w0.heap.size
section
variable {B K : Nat} {w0 w w' : World} {src z : Array Value} {F : Option Addr} {i cF : Nat} {A : Option Addr} {na ca : Nat} {en ha : Int} {D : Option Addr} {nd cd : Nat} {Bk : Option Addr} {nb cb : Nat}
theorem OW.size (h : OW B K w0 src z F i cF A na ca en ha D nd cd Bk nb cb w) : B ≤ w.heap.size := Nat.le_trans h.oB h.bel.size
theorem OW.on (h : OW B K w0 src z F i cF A na ca en ha D nd cd Bk nb cb w) (hb : Below w.heap.size w w') (hw : WT B K w') : OW B K w0 src z F i cF A na ca en ha D nd cd Bk nb cb w' :=
  ⟨(hb.block _ (heap_lt h.b0)).trans h.b0, (hb.block _ (heap_lt h.b1)).trans h.b1, (hb.block _ (heap_lt h.b2)).trans h.b2, hw, h.bel.trans (hb.mono h.bel.size), h.tp.on (shape_below hb) (Nat.le_refl _), h.of_, h.oB⟩
theorem OW.drew (h : OW B K w0 src z F i cF A na ca en ha D nd cd Bk nb cb w) : OW B K w0 src z F i cF A na ca en ha D nd cd Bk nb cb w.drew := h.on (Below.refl _ _).drew h.wt.drew
theorem OW.store {j : Nat} {v : Value} {c2 : Array Value} {F' : Option Addr} {i' cF' : Nat} {A' : Option Addr} {na' ca' : Nat} {D' : Option Addr} {nd' cd' : Nat} {Bk' : Option Addr} {nb' cb' : Nat} (b0 : w.heap[w0.heap.size]? = some (.cells src 29 (0, 0))) (b1 : w.heap[w0.heap.size + 1]? = some (.cells z 29 (0, 0))) (b2 : w.heap[w0.heap.size + 2]? = some (.cells c2 29 (0, 0))) (hw : WT B K w) (hb : Below w0.heap.size w0 w) (hB : B ≤ w0.heap.size)
    (hc : c2.setIfInBounds j v = pc F' i' cF' A' na' ca' en ha D' nd' cd' Bk' nb' cb') (tp : TP B K w F' i' cF' A' na' ca' D' nd' cd' Bk' nb' cb') (of_ : ∀ g, Value.ownBlock (.slice F' i' cF') = some g → w0.heap.size ≤ g) :
    OW B K w0 src z F' i' cF' A' na' ca' en ha D' nd' cd' Bk' nb' cb' (w.setCell ⟨w0.heap.size + 2, j, none⟩ v) :=
  ⟨by rw [Eng.setCell_other (by omega)]; exact b0, by rw [Eng.setCell_other (by omega)]; exact b1, by rw [Eng.setCell_blk b2, hc], hw.setCell _ _ _ fun cs e fr hg ck hl => (by rw [b2] at hg; cases hg; cases hl), hb.setCell (Nat.le_add_right _ 2) v, tp.on ((Shape.refl _).setCell _ rfl v) (Nat.le_refl _), of_, hB⟩
theorem zeroAdd_app {e sz m : Nat} {x v : Value} (ha : App B K w w' e sz (.slice none 0 0) x 0 m v) : ∃ A9 c9, v = .slice A9 m c9 ∧ SlV B K w' e sz (.slice A9 m c9) m := by
  have hv := ha.slv
  rw [Nat.zero_add] at hv
  obtain ⟨A9, c9, rfl⟩ := hv.form
  exact ⟨A9, c9, rfl, hv⟩
theorem OW.args {w5 : World} {x v : Value} {m : Nat} (h : OW B K w0 src z F i cF none 0 0 en ha D nd cd Bk nb cb w) (ap : App B K w w5 3 1 (.slice none 0 0) x 0 m v) :
    w5.heap[w0.heap.size + 2]? = some (.cells (pc F i cF none 0 0 en ha D nd cd Bk nb cb) 29 (0, 0)) ∧ ∃ A9 c9, v = .slice A9 m c9 ∧ OW B K w0 src z F i cF A9 m c9 en ha D nd cd Bk nb cb (w5.setCell ⟨w0.heap.size + 2, 1, none⟩ (.slice A9 m c9)) := by
  obtain ⟨A9, c9, rfl, sv⟩ := zeroAdd_app ap
  have h2 := h.on ap.belowNil ap.wt
  exact ⟨h2.b2, A9, c9, rfl, OW.store h2.b0 h2.b1 h2.b2 h2.wt h2.bel h2.oB rfl ⟨h2.tp.tf, sv, h2.tp.td, h2.tp.tb⟩ h2.of_⟩
theorem OW.data {w5 : World} {x v : Value} {m : Nat} (h : OW B K w0 src z F i cF A na ca en ha none 0 0 Bk nb cb w) (ap : App B K w w5 53 3 (.slice none 0 0) x 0 m v) :
    w5.heap[w0.heap.size + 2]? = some (.cells (pc F i cF A na ca en ha none 0 0 Bk nb cb) 29 (0, 0)) ∧ ∃ A9 c9, v = .slice A9 m c9 ∧ OW B K w0 src z F i cF A na ca en ha A9 m c9 Bk nb cb (w5.setCell ⟨w0.heap.size + 2, 4, none⟩ (.slice A9 m c9)) := by
  obtain ⟨A9, c9, rfl, sv⟩ := zeroAdd_app ap
  have h2 := h.on ap.belowNil ap.wt
  exact ⟨h2.b2, A9, c9, rfl, OW.store h2.b0 h2.b1 h2.b2 h2.wt h2.bel h2.oB rfl ⟨h2.tp.tf, h2.tp.ta, sv, h2.tp.tb⟩ h2.of_⟩
theorem OW.banks {w5 : World} {x v : Value} {m : Nat} (h : OW B K w0 src z F i cF A na ca en ha D nd cd none 0 0 w) (ap : App B K w w5 9 1 (.slice none 0 0) x 0 m v) :
    w5.heap[w0.heap.size + 2]? = some (.cells (pc F i cF A na ca en ha D nd cd none 0 0) 29 (0, 0)) ∧ ∃ A9 c9, v = .slice A9 m c9 ∧ OW B K w0 src z F i cF A na ca en ha D nd cd A9 m c9 (w5.setCell ⟨w0.heap.size + 2, 5, none⟩ (.slice A9 m c9)) := by
  obtain ⟨A9, c9, rfl, sv⟩ := zeroAdd_app ap
  have h2 := h.on ap.belowNil ap.wt
  exact ⟨h2.b2, A9, c9, rfl, OW.store h2.b0 h2.b1 h2.b2 h2.wt h2.bel h2.oB rfl ⟨h2.tp.tf, h2.tp.ta, h2.tp.td, sv⟩ h2.of_⟩
theorem t34 {u : World} {v : Value} {m : Nat} (hv : SlV B K u 46 5 v m) : ∀ j ck, layK 34 j = some ck → ∀ v', (#[v] : Array Value)[j]? = some v' → Fits B K u ck v' := by
  intro j ck hl v' hv'
  cases hl
  match j, hv' with
  | 0, hv' => cases hv'; exact ⟨m, hv⟩
theorem OW.func {w5 : World} {v x : Value} {m : Nat} (h : OW B K w0 src z F i cF A na ca en ha D nd cd Bk nb cb w) (hx : SlV B K w 46 5 x m) (ap : App B K (w.alloc (.cells #[x] 34)) w5 34 1 (.slice F i cF) (.slice (some ⟨w.heap.size, 0, none⟩) 1 1) i 1 v) :
    w5.heap[w0.heap.size + 2]? = some (.cells (pc F i cF A na ca en ha D nd cd Bk nb cb) 29 (0, 0)) ∧ ∃ A9 c9, v = .slice A9 (i + 1) c9 ∧ OW B K w0 src z A9 (i + 1) c9 A na ca en ha D nd cd Bk nb cb (w5.setCell ⟨w0.heap.size + 2, 0, none⟩ (.slice A9 (i + 1) c9)) := by
  obtain ⟨A9, c9, rfl⟩ := ap.slv.form
  have h2 := h.on ((Below.refl _ _).alloc (Nat.le_refl _) (.cells #[x] 34)) (h.wt.alloc _ 34 (t34 hx))
  have tp := h2.tp.on ap.shape (Nat.le_refl _)
  have e2 := ap.other h2.tp.tf h2.b2 (by decide)
  refine ⟨e2, A9, c9, rfl, OW.store (ap.other h2.tp.tf h2.b0 (by decide)) (ap.other h2.tp.tf h2.b1 (by decide)) e2 ap.wt (h2.bel.trans (ap.below h2.bel.size h2.of_)) h2.oB rfl ⟨ap.slv, tp.ta, tp.td, tp.tb⟩ fun g hg => ?_⟩
  rcases ap.home with e | e
  · exact h.of_ g (e ▸ hg)
  · rw [e] at hg; cases hg
    have := h2.bel.size; exact this
theorem set29 {g i : Nat} {cs : Array Value} {v : Value} (h : w.heap[g]? = some (.cells cs 29 (0, 0))) (hw : WT B K w) : (w.setCell ⟨g, i, none⟩ v).heap[g]? = some (.cells (cs.setIfInBounds i v) 29 (0, 0)) ∧ WT B K (w.setCell ⟨g, i, none⟩ v) :=
  ⟨Eng.setCell_blk h, hw.setCell _ _ _ fun cs e fr hg ck hl => (by rw [h] at hg; cases hg; cases hl)⟩
theorem sets6 {S g : Nat} {a0 a1 a2 a3 a4 a5 v0 v1 v2 v3 v4 v5 : Value} (h : w.heap[g]? = some (.cells #[a0, a1, a2, a3, a4, a5] 29 (0, 0))) (hw : WT B K w) (hb : Below S w0 w) (hS : S ≤ g) :
    ∀ w', w' = (((((w.setCell ⟨g, 0, none⟩ v0).setCell ⟨g, 1, none⟩ v1).setCell ⟨g, 2, none⟩ v2).setCell ⟨g, 3, none⟩ v3).setCell ⟨g, 4, none⟩ v4).setCell ⟨g, 5, none⟩ v5 → w'.heap[g]? = some (.cells #[v0, v1, v2, v3, v4, v5] 29 (0, 0)) ∧ WT B K w' ∧ Below S w0 w' ∧ Shape w w' := by
  rintro w' rfl
  obtain ⟨h0, w0'⟩ := set29 (i := 0) (v := v0) h hw
  obtain ⟨h1, w1'⟩ := set29 (i := 1) (v := v1) h0 w0'
  obtain ⟨h2, w2'⟩ := set29 (i := 2) (v := v2) h1 w1'
  obtain ⟨h3, w3'⟩ := set29 (i := 3) (v := v3) h2 w2'
  obtain ⟨h4, w4'⟩ := set29 (i := 4) (v := v4) h3 w3'
  obtain ⟨h5, w5'⟩ := set29 (i := 5) (v := v5) h4 w4'
  exact ⟨h5, w5', (((((hb.setCell hS _).setCell hS _).setCell hS _).setCell hS _).setCell hS _).setCell hS _, ((((((Shape.refl w).setCell _ rfl _).setCell _ rfl _).setCell _ rfl _).setCell _ rfl _).setCell _ rfl _).setCell _ rfl _⟩
end
end Go.Proofs.YtahljbkaemhpcaaGreat
