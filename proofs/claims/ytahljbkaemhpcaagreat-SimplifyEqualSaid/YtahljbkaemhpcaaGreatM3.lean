/- The maker: take, fresh over its state; emit. -/
import Derived.Test.YtahljbkaemhpcaaGreatM2
import Derived.StillTailTactics
import Derived.Deep.RegionHeld3
import Derived.Deep.DeepCutAuto
namespace Go.Proofs.YtahljbkaemhpcaaGreat
open Go.RowKit
set_option linter.unusedVariables false
section
variable {c : Cx} {K K' : Nat} {w w' w'' : World} {d d' : Mk}
/-- What 'take' leaves. -/
def TakeP (c : Cx) (K : Nat) (w : World) (d : Mk) (n : Int) (e : Ending) (w' : World) : Prop :=
  ∃ r : Int, 0 ≤ r ∧ r < n ∧ e = .returned (.int .i64 r) ∧ MK c (K + 1) w' { d with at_ := d.at_ + 1 } ∧ Fr c w w'
theorem take_mk (h : MK c K w d) (hK : K + 1 ≤ big) (n : Int) (h0 : 0 < n) (h1 : n ≤ 1099511627776) : Calls Tryz.prog 12 #[.pointer (some ⟨c.m, 0, none⟩), .int .i64 n] w (TakeP c K w d n) := by
  have hb : big = 1073741824 := rfl
  have hKb := h.K
  have key : ∀ e w', Took n w c.m d.at_ e w' → TakeP c K w d n e w' := by
    rintro e w' ⟨r, k, hr0, hr1, rfl, rfl⟩
    refine ⟨r, hr0, hr1, rfl, ?_, ?_⟩
    · have hk := (h.drewN k).more (Nat.le_succ K) hK
      refine hk.setM (d' := { d with at_ := d.at_ + 1 }) ?_ rfl rfl ?_ hk.next hk.left0 hk.left1 rfl rfl hk.vals hk.vpa
      · simp [mkCells]
      · have := h.at_; simp only []; omega
    · refine Fr.setCell ((Fr.refl c w).drewN k) _ _ _ h.mB h.paNe (.inr ⟨_, _, _, h.blk, ?_⟩)
      exact .inr (.inr (.inr rfl))
  have c0 := h.cell 0
  have c1 := h.cell 1
  have hat := h.at_
  by_cases hlt : d.at_ < d.sl
  · obtain ⟨g, o, z, e1, e2, e3⟩ := h.inp d.at_ hlt
    have c0' : w.cell? ⟨c.m, 0, none⟩ = some (.slice (some ⟨g, o, none⟩) d.sl d.sc) := by rw [c0]; simp [mkCells, e1]
    exact (take_in w c.m g o d.sl d.sc d.at_ z n c0' (by rw [c1]; rfl) (h.free 1) e3 hlt h.sl h0 h1).mono key
  · exact (take_end w c.m d.s d.sl d.sc d.at_ n (by rw [c0]; rfl) (by rw [c1]; rfl) (h.free 1) (by omega) (by omega) h0 h1).mono key
def FreshP (c : Cx) (K : Nat) (w : World) (d : Mk) (e : Ending) (w' : World) : Prop :=
  e = .returned (.int .i64 d.next) ∧ MK c (K + 1) w' { d with next := d.next + 1 } ∧ Fr c w w' ∧ w' = w.setCell ⟨c.m, 6, none⟩ (.int .i64 ((d.next : Int) + 1))
theorem fresh_mk (h : MK c K w d) (hK : K + 1 ≤ big) : Calls Tryz.prog 36 #[.pointer (some ⟨c.m, 0, none⟩)] w (FreshP c K w d) := by
  have hb : big = 1073741824 := rfl
  have hKb := h.K
  have hnx := h.next
  have c6 : w.cell? ⟨c.m, 6, none⟩ = some (.int .i64 d.next) := by rw [h.cell 6]; rfl
  refine (fresh_any w c.m d.next c6 (h.free 6) (by omega) (by omega)).mono ?_
  rintro e w' ⟨rfl, rfl⟩
  refine ⟨rfl, ?_, ?_, rfl⟩
  · have hk := h.more (Nat.le_succ K) hK
    refine hk.setM (d' := { d with next := d.next + 1 }) ?_ rfl rfl hk.at_ ?_ hk.left0 hk.left1 rfl rfl hk.vals hk.vpa
    · simp [mkCells]
    · simp only []; omega
  · exact Fr.setCell (Fr.refl c w) _ _ _ h.mB h.paNe (.inr ⟨_, _, _, h.blk, .inr (.inr (.inr rfl))⟩)
end
theorem SlV.form {B K : Nat} {w : World} {e sz n : Nat} {v : Value} (h : SlV B K w e sz v n) : ∃ A k, v = .slice A n k := by
  obtain ⟨_, ⟨rfl, rfl⟩ | ⟨g, c, cs, rfl, _⟩⟩ := h
  · exact ⟨_, _, rfl⟩
  · exact ⟨_, _, rfl⟩
theorem at5 (e k i : Nat) (he : szK e = 5) : layK e (k * 5 + i) = layK e i := by rw [← he]; exact layK_add e i k
/-- A block's five cells. -/
theorem blk_cells {B K : Nat} {w : World} {g : Nat} {cs : Array Value} (hw : WT B K w) (hB : B ≤ g) (hg : w.heap[g]? = some (.cells cs 46 (0, 0))) {k : Nat} (hk : k * 5 + 5 ≤ cs.size) :
    ∃ (A0 A1 A4 : Option Addr) (n0 n1 n4 k0 k1 k4 : Nat) (z2 z3 : Int), cs[k * 5]? = some (.slice A0 n0 k0) ∧ cs[k * 5 + 1]? = some (.slice A1 n1 k1) ∧ cs[k * 5 + 2]? = some (.int .i64 z2) ∧ cs[k * 5 + 3]? = some (.int .i64 z3) ∧ cs[k * 5 + 4]? = some (.slice A4 n4 k4) ∧
      SlV B K w 3 1 (.slice A0 n0 k0) n0 ∧ SlV B K w 40 6 (.slice A1 n1 k1) n1 ∧ SlV B K w 49 2 (.slice A4 n4 k4) n4 := by
  have hv : ∀ i, i < 5 → ∃ v, cs[k * 5 + i]? = some v := fun i hi => ⟨_, Array.getElem?_eq_getElem (by omega)⟩
  have ft : ∀ i ck v, layK 46 i = some ck → cs[k * 5 + i]? = some v → Fits B K w ck v := fun i ck v hl hv => (hw g cs 46 _ hB hg (k * 5 + i) ck (by rw [at5 46 k i rfl]; exact hl)).2 v hv
  obtain ⟨v0, h0⟩ := hv 0 (by omega)
  obtain ⟨v1, h1⟩ := hv 1 (by omega)
  obtain ⟨v2, h2⟩ := hv 2 (by omega)
  obtain ⟨v3, h3⟩ := hv 3 (by omega)
  obtain ⟨v4, h4⟩ := hv 4 (by omega)
  obtain ⟨n0, s0⟩ := ft 0 _ v0 rfl h0
  obtain ⟨n1, s1⟩ := ft 1 _ v1 rfl h1
  obtain ⟨z2, rfl⟩ := ft 2 _ v2 rfl h2
  obtain ⟨z3, rfl⟩ := ft 3 _ v3 rfl h3
  obtain ⟨n4, s4⟩ := ft 4 _ v4 rfl h4
  obtain ⟨A0, k0, rfl⟩ := s0.form
  obtain ⟨A1, k1, rfl⟩ := s1.form
  obtain ⟨A4, k4, rfl⟩ := s4.form
  exact ⟨A0, A1, A4, n0, n1, n4, k0, k1, k4, z2, z3, h0, h1, h2, h3, h4, s0, s1, s4⟩
theorem blk_typed {B K : Nat} {w : World} {A0 A1 A4 : Option Addr} {n0 n1 n4 k0 k1 k4 : Nat} {z2 z3 : Int} (s0 : SlV B K w 3 1 (.slice A0 n0 k0) n0) (s1 : SlV B K w 40 6 (.slice A1 n1 k1) n1) (s4 : SlV B K w 49 2 (.slice A4 n4 k4) n4) :
    ∀ j ck, layK 46 j = some ck → ∀ v, (#[.slice A0 n0 k0, .slice A1 n1 k1, .int .i64 z2, .int .i64 z3, .slice A4 n4 k4] : Array Value)[j]? = some v → Fits B K w ck v := by
  intro j ck hl v hv
  match j, hl, hv with
  | 0, hl, hv => cases hl; cases hv; exact ⟨_, s0⟩
  | 1, hl, hv => cases hl; cases hv; exact ⟨_, s1⟩
  | 2, hl, hv | 3, hl, hv => cases hl; cases hv; exact ⟨_, rfl⟩
  | 4, hl, hv => cases hl; cases hv; exact ⟨_, s4⟩
theorem SlV.own {B K : Nat} {w : World} {e sz n : Nat} {v : Value} (h : SlV B K w e sz v n) {g : Nat} (hg : v.ownBlock = some g) : ∃ cs, w.heap[g]? = some (.cells cs e (0, 0)) ∧ B ≤ g := by
  obtain ⟨_, ⟨rfl, rfl⟩ | ⟨g', c, cs, rfl, h1, h2, h3, h4⟩⟩ := h
  · rw [own_none] at hg; cases hg
  · rw [own_some] at hg; cases hg; exact ⟨cs, h3, h1⟩
/-- An append leaves the blocks of other types alone. -/
theorem App.other {B K K2 : Nat} {w w' : World} {e sz n m : Nat} {s x v : Value} (ha : App B K w w' e sz s x n m v) (hs : SlV B K2 w e sz s n) {g : Nat} {cs : Array Value} {e' : TypeId} {fr : Nat × Nat} (hg : w.heap[g]? = some (.cells cs e' fr)) (he : e' ≠ e) : w'.heap[g]? = some (.cells cs e' fr) := by
  refine (ha.far g (heap_lt hg) fun hown => ?_).trans hg
  obtain ⟨cs2, h1, _⟩ := hs.own hown
  rw [hg] at h1; cases h1; exact he rfl
/-- What stands after an operation was appended to a block's operations. -/
theorem after5 {c : Cx} {K : Nat} {w wc w5 : World} {d1 : Mk} {cs40 : Array Value} {cs46 cs40' csB : Array Value} {gB n1 k1 : Nat} {A1 : Option Addr} {x v5 : Value} (hK : K + 3 ≤ big) (hk : MK c (K + 1) wc d1) (hbx : wc.heap[w.heap.size]? = some (.cells cs40 40 (0, 0))) (hfr : Fr c w wc)
    (hB : wc.heap[gB]? = some (.cells csB 46 (0, 0))) (s1 : SlV c.B K w 40 6 (.slice A1 n1 k1) n1) (hWB : c.B ≤ w.heap.size) (hpa : c.pa < w.heap.size) (hpt : ∃ cs, w.heap[c.pa]? = some (.cells cs 3 (0, 0)))
    (happ : App c.B (K + 2) (((wc.alloc (.cells cs46 46)).alloc (.cells cs40' 40)).drew) w5 40 6 (.slice A1 n1 k1) x n1 1 v5) :
    ∃ A5 k5, v5 = .slice A5 (n1 + 1) k5 ∧ MK c (K + 2) w5 d1 ∧ w5.heap[w.heap.size]? = some (.cells cs40 40 (0, 0)) ∧ w5.heap[wc.heap.size]? = some (.cells cs46 46 (0, 0)) ∧ w5.heap[gB]? = some (.cells csB 46 (0, 0)) ∧ SlV c.B (K + 2) w5 40 6 (.slice A5 (n1 + 1) k5) (n1 + 1) ∧ Fr c w w5 ∧ wc.heap.size < w5.heap.size := by
  obtain ⟨A5, k5, rfl⟩ := happ.slv.form
  have hlt : w.heap.size ≤ wc.heap.size := hfr.below.size
  have s1c := s1.on hfr.shape (Nat.le_succ K)
  have s1d : SlV c.B (K + 1) (((wc.alloc (.cells cs46 46)).alloc (.cells cs40' 40)).drew) 40 6 (.slice A1 n1 k1) n1 := s1c.on (((Shape.refl _).alloc _).alloc _) (Nat.le_refl _)
  have up : ∀ g o, wc.heap[g]? = some o → (((wc.alloc (.cells cs46 46)).alloc (.cells cs40' 40)).drew).heap[g]? = some o := fun g o hg => by
    have := heap_lt hg
    show ((wc.alloc (.cells cs46 46)).alloc (.cells cs40' 40)).heap[g]? = some o
    rw [Below.heap_alloc _ _ _ (by simp; omega), Below.heap_alloc _ _ _ this]; exact hg
  have hown : ∀ g, Value.ownBlock (.slice A1 n1 k1) = some g → g < w.heap.size := fun g hg => by
    obtain ⟨cs, h1, _⟩ := s1.own hg; exact heap_lt h1
  have h46 : (((wc.alloc (.cells cs46 46)).alloc (.cells cs40' 40)).drew).heap[wc.heap.size]? = some (.cells cs46 46 (0, 0)) := by
    show ((wc.alloc (.cells cs46 46)).alloc (.cells cs40' 40)).heap[wc.heap.size]? = _
    rw [Below.heap_alloc _ _ _ (by simp), heap_alloc_new]
  refine ⟨A5, k5, rfl, ?_, ?_, happ.other s1d h46 (by decide), happ.other s1d (up _ _ hB) (by decide), happ.slv, ?_, Nat.lt_of_lt_of_le (by show wc.heap.size < ((wc.alloc (.cells cs46 46)).alloc (.cells cs40' 40)).heap.size; simp; omega) happ.size⟩
  · have hbel : Below c.B wc w5 := by
      have h1 : Below c.B wc (((wc.alloc (.cells cs46 46)).alloc (.cells cs40' 40)).drew) := (((Below.refl _ _).alloc hk.size _).alloc (by have := hk.size; simp; omega) _).drew
      refine ⟨happ.os.trans h1.os, happ.tape.trans h1.tape, happ.out.trans h1.output, Nat.le_trans h1.size happ.size, fun k hkk => (happ.far k ?_ ?_).trans (h1.block k hkk)⟩
      · have := h1.size; have := hk.size; omega
      · intro hh; obtain ⟨cs, _, h2⟩ := s1.own hh; omega
    refine hk.on ((happ.other s1d (up _ _ hk.blk) (by decide)).trans hk.blk.symm) hbel ((((Shape.refl _).alloc _).alloc _).trans happ.shape) happ.wt (by omega) (by omega) fun g cc j hb hj => ?_
    obtain ⟨cs, h1, _⟩ := hk.blLt hb
    rw [cell_of (happ.other s1d (up _ _ h1) (by decide)), cell_of h1]
  · refine (happ.far _ ?_ ?_).trans (up _ _ hbx)
    · exact heap_lt (up _ _ hbx)
    · intro hh; have := hown _ hh; omega
  · have h1 : Fr c w (((wc.alloc (.cells cs46 46)).alloc (.cells cs40' 40)).drew) := ((hfr.alloc hk.size _).alloc (by have := hk.size; simp; omega) _).drewN 1
    refine h1.app happ (.inl (.inr (.inl rfl))) s1d ?_ hWB
    intro hh
    obtain ⟨cs, h2, _⟩ := s1.own hh
    obtain ⟨cs3, h3⟩ := hpt
    rw [h3] at h2; cases h2
/-- A store into the maker's blocks that leaves the parameters' slices as they are. -/
theorem MK.setB {c : Cx} {K : Nat} {w : World} {d : Mk} (h : MK c K w d) {gB cB o : Nat} {v : Value} (hbl : d.bl = .slice (some ⟨gB, 0, none⟩) d.PL.length cB) (ht : ∀ ck, layK 46 o = some ck → Fits c.B K w ck v) (hp : ∀ j, o = j * 5 → j < d.PL.length → w.cell? ⟨gB, o, none⟩ = some v) : MK c K (w.setCell ⟨gB, o, none⟩ v) d := by
  obtain ⟨cs, h1, h2, _⟩ := h.blLt hbl
  have hne : gB ≠ c.m := by
    rintro e
    rw [e, h.blk] at h1; cases h1
  refine h.on (Eng.setCell_other hne.symm) ((Below.refl _ _).setCell h2 v) ((Shape.refl _).setCell _ rfl v) (h.wt.setCell _ _ _ fun cs' e fr hg ck hl => ?_) (Nat.le_refl _) h.K fun g cc j hb hj => ?_
  · rw [h1] at hg; cases hg; exact ht ck hl
  · rw [hbl] at hb; cases hb
    by_cases ho : o = j * 5
    · have h3 := hp j ho hj
      subst ho
      rw [h3]
      have h4 : cs[j * 5]? = some v := (cell_of h1).symm.trans h3
      have hlt := (Array.getElem?_eq_some_iff.1 h4).1
      rw [cell_of (Eng.setCell_blk h1), Array.getElem?_setIfInBounds]
      simp [hlt]
    · rw [cell_of (Eng.setCell_blk h1), cell_of h1, Array.getElem?_setIfInBounds, if_neg ho]
/-- A block that is not the maker's list may be written. -/
theorem MK.setLoose {c : Cx} {K : Nat} {w : World} {d : Mk} (h : MK c K w d) {g0 o e0 : Nat} {v : Value} {cs0 : Array Value} (hg : w.heap[g0]? = some (.cells cs0 e0 (0, 0))) (he : e0 ≠ 56) (hB : c.B ≤ g0) (hne : ∀ cc n, d.bl ≠ .slice (some ⟨g0, 0, none⟩) n cc) (ht : ∀ ck, layK e0 o = some ck → Fits c.B K w ck v) : MK c K (w.setCell ⟨g0, o, none⟩ v) d := by
  have hm : g0 ≠ c.m := by
    rintro e
    rw [e, h.blk] at hg; cases hg; exact he rfl
  exact h.setFar hm hB (fun _ _ => .inr hne) (h.wt.setCell _ _ _ fun cs' e fr hg' ck hl => by rw [hg] at hg'; cases hg'; exact ht ck hl)
theorem MK.drew {c : Cx} {K : Nat} {w : World} {d : Mk} (h : MK c K w d) : MK c K w.drew d := h.drewN 1
theorem Fr.drew {c : Cx} {w w' : World} (h : Fr c w w') : Fr c w w'.drew := h.drewN 1
theorem Shape.drew {w w' : World} (h : Shape w w') : Shape w w'.drew := h
theorem drew_heap (u : World) : u.drew.heap = u.heap := rfl
theorem lay5 {k i : Nat} : layK 46 (k * 5 + i) = layK 46 i := at5 46 k i rfl
set_option maxHeartbeats 400000 in
/-- What stands after a block with one more operation was laid back. -/
theorem after7 {c : Cx} {K : Nat} {w w5 : World} {d1 : Mk} {s1 gB cB : Nat} {cs46 csB : Array Value} {A0 A5 A4 : Option Addr} {n0 n5 n4 k0 k5 k4 : Nat} {y2 y3 : Int} (mk5 : MK c K w5 d1) (h46 : w5.heap[s1]? = some (.cells cs46 46 (0, 0))) (hbl : d1.bl = .slice (some ⟨gB, 0, none⟩) d1.PL.length cB)
    (hB5 : w5.heap[gB]? = some (.cells csB 46 (0, 0))) (hv0 : csB[d1.cur * 5]? = some (.slice A0 n0 k0)) (t0 : SlV c.B K w5 3 1 (.slice A0 n0 k0) n0) (t5 : SlV c.B K w5 40 6 (.slice A5 n5 k5) n5) (t4 : SlV c.B K w5 49 2 (.slice A4 n4 k4) n4)
    (hne : gB ≠ s1) (hs1 : w.heap.size ≤ s1) (hB1 : c.B ≤ s1) (hBg : c.B ≤ gB) (fr5 : Fr c w w5) (hpa : s1 ≠ c.pa) :
    ∀ w6, w6 = ((((((w5.setCell ⟨s1, 1, none⟩ (.slice A5 n5 k5)).setCell ⟨gB, d1.cur * 5, none⟩ (.slice A0 n0 k0)).setCell ⟨gB, d1.cur * 5 + 1, none⟩ (.slice A5 n5 k5)).setCell ⟨gB, d1.cur * 5 + 2, none⟩ (.int .i64 y2)).setCell ⟨gB, d1.cur * 5 + 3, none⟩ (.int .i64 y3)).setCell ⟨gB, d1.cur * 5 + 4, none⟩ (.slice A4 n4 k4)).drew →
      MK c K w6 d1 ∧ Fr c w w6 ∧ Shape w5 w6 ∧ (∀ g, g ≠ s1 → g ≠ gB → w6.heap[g]? = w5.heap[g]?) := by
  rintro w6 rfl
  have hgpa : gB ≠ c.pa := by
    rintro e
    obtain ⟨cs, h1⟩ := mk5.paT
    rw [← e, hB5] at h1; cases h1
  have a0 : Shape w5 (w5.setCell ⟨s1, 1, none⟩ (.slice A5 n5 k5)) := (Shape.refl _).setCell _ rfl _
  have a1 := a0.setCell ⟨gB, d1.cur * 5, none⟩ rfl (.slice A0 n0 k0)
  have a2 := a1.setCell ⟨gB, d1.cur * 5 + 1, none⟩ rfl (.slice A5 n5 k5)
  have a3 := a2.setCell ⟨gB, d1.cur * 5 + 2, none⟩ rfl (.int .i64 y2)
  have a4 := a3.setCell ⟨gB, d1.cur * 5 + 3, none⟩ rfl (.int .i64 y3)
  have a5 := a4.setCell ⟨gB, d1.cur * 5 + 4, none⟩ rfl (.slice A4 n4 k4)
  have m0 : MK c K (w5.setCell ⟨s1, 1, none⟩ (.slice A5 n5 k5)) d1 := mk5.setLoose h46 (by decide) hB1 (fun cc n h => hne (by rw [hbl] at h; injection h with h _; injection h with h; injection h)) (fun ck hl => by cases hl; exact ⟨_, t5⟩)
  have c0 : (w5.setCell ⟨s1, 1, none⟩ (.slice A5 n5 k5)).cell? ⟨gB, d1.cur * 5, none⟩ = some (.slice A0 n0 k0) := by rw [cell_set_ne hne, cell_of hB5, hv0]
  have m1 := m0.setB (o := d1.cur * 5) (v := .slice A0 n0 k0) hbl (fun ck hl => by rw [← Nat.add_zero (d1.cur * 5), lay5] at hl; cases hl; exact ⟨_, t0.on a0 (Nat.le_refl _)⟩) (fun j _ _ => c0)
  have m2 := m1.setB (o := d1.cur * 5 + 1) (v := .slice A5 n5 k5) hbl (fun ck hl => by rw [lay5] at hl; cases hl; exact ⟨_, t5.on a1 (Nat.le_refl _)⟩) (fun j h _ => by omega)
  have m3 := m2.setB (o := d1.cur * 5 + 2) (v := .int .i64 y2) hbl (fun ck hl => by rw [lay5] at hl; cases hl; exact ⟨_, rfl⟩) (fun j h _ => by omega)
  have m4 := m3.setB (o := d1.cur * 5 + 3) (v := .int .i64 y3) hbl (fun ck hl => by rw [lay5] at hl; cases hl; exact ⟨_, rfl⟩) (fun j h _ => by omega)
  have m5 := m4.setB (o := d1.cur * 5 + 4) (v := .slice A4 n4 k4) hbl (fun ck hl => by rw [lay5] at hl; cases hl; exact ⟨_, t4.on a4 (Nat.le_refl _)⟩) (fun j h _ => by omega)
  have b46 : ∀ w', Shape w5 w' → ∃ cs e fr, w'.heap[gB]? = some (.cells cs e fr) ∧ (e = 3 ∨ e = 40 ∨ e = 46 ∨ e = 56) := fun w' h => by
    obtain ⟨cs, h1, _⟩ := h _ _ _ _ hB5
    exact ⟨cs, _, _, h1, .inr (.inr (.inl rfl))⟩
  refine ⟨m5.drew, ((((((fr5.setCell s1 1 _ hB1 hpa (.inl hs1)).setCell gB _ _ hBg hgpa (.inr (b46 _ a0))).setCell gB _ _ hBg hgpa (.inr (b46 _ a1))).setCell gB _ _ hBg hgpa (.inr (b46 _ a2))).setCell gB _ _ hBg hgpa (.inr (b46 _ a3))).setCell gB _ _ hBg hgpa (.inr (b46 _ a4))).drew, a5.drew, fun g h1 h2 => ?_⟩
  rw [drew_heap, Eng.setCell_other h2, Eng.setCell_other h2, Eng.setCell_other h2, Eng.setCell_other h2, Eng.setCell_other h2, Eng.setCell_other h1]
theorem int_typed {B K : Nat} {w : World} (z : Int) : ∀ j ck, layK 3 j = some ck → ∀ v, (#[.int .i64 z] : Array Value)[j]? = some v → Fits B K w ck v := by
  intro j ck hl v hv
  cases hl
  match j, hv with
  | 0, hv => cases hv; exact ⟨_, rfl⟩
/-- What stands after a value was appended to the usable ones, before it is laid back. -/
theorem after9 {c : Cx} {K : Nat} {w w6 w7 : World} {d1 : Mk} {Av : Option Addr} {kv : Nat} {cs40 : Array Value} {x v7 : Value} {res : Int} (hK : K + 3 ≤ big) (hWB : c.B ≤ w.heap.size) (mk6 : MK c (K + 2) w6 d1) (hv : d1.vals = .slice Av d1.nv kv) (bx6 : w6.heap[w.heap.size]? = some (.cells cs40 40 (0, 0))) (fr6 : Fr c w w6)
    (happ : App c.B (K + 3) (w6.alloc (.cells #[.int .i64 res] 3)).drew w7 3 1 (.slice Av d1.nv kv) x d1.nv 1 v7) :
    ∃ A7 k7, v7 = .slice A7 (d1.nv + 1) k7 ∧ MK c (K + 3) w7 d1 ∧ w7.heap[w.heap.size]? = some (.cells cs40 40 (0, 0)) ∧ SlV c.B (K + 3) w7 3 1 (.slice A7 (d1.nv + 1) k7) (d1.nv + 1) ∧ Fr c w w7 ∧ Value.ownBlock (.slice A7 (d1.nv + 1) k7) ≠ some c.pa := by
  obtain ⟨A7, k7, rfl⟩ := happ.slv.form
  have hsv : SlV c.B (K + 2) w6 3 1 (.slice Av d1.nv kv) d1.nv := hv ▸ mk6.vals
  have hs7 : SlV c.B (K + 2) (w6.alloc (.cells #[.int .i64 res] 3)).drew 3 1 (.slice Av d1.nv kv) d1.nv := hsv.on ((Shape.refl _).alloc _).drew (Nat.le_refl _)
  have up : ∀ g o, w6.heap[g]? = some o → (w6.alloc (.cells #[.int .i64 res] 3)).drew.heap[g]? = some o := fun g o hg => by
    rw [drew_heap, Below.heap_alloc _ _ _ (heap_lt hg)]; exact hg
  have hpv : Value.ownBlock (.slice Av d1.nv kv) ≠ some c.pa := hv ▸ mk6.vpa
  have hfr : Fr c w (w6.alloc (.cells #[.int .i64 res] 3)).drew := (fr6.alloc mk6.size _).drew
  have hsz : w6.heap.size < (w6.alloc (.cells #[.int .i64 res] 3)).drew.heap.size := by rw [drew_heap]; simp
  refine ⟨A7, k7, rfl, ?_, happ.other hs7 (up _ _ bx6) (by decide), happ.slv, ?_, ?_⟩
  · have h1 : Below c.B w6 (w6.alloc (.cells #[.int .i64 res] 3)).drew := ((Below.refl _ _).alloc mk6.size _).drew
    have hbel : Below c.B w6 w7 := by
      refine ⟨happ.os.trans h1.os, happ.tape.trans h1.tape, happ.out.trans h1.output, Nat.le_trans h1.size happ.size, fun k hkk => (happ.far k ?_ ?_).trans (h1.block k hkk)⟩
      · have := h1.size; have := mk6.size; omega
      · intro hh; obtain ⟨cs, _, h2⟩ := hsv.own hh; omega
    refine mk6.on ((happ.other hs7 (up _ _ mk6.blk) (by decide)).trans mk6.blk.symm) hbel (((Shape.refl _).alloc _).drew.trans happ.shape) happ.wt (by omega) hK fun g cc j hb hj => ?_
    obtain ⟨cs, h1, _⟩ := mk6.blLt hb
    rw [cell_of (happ.other hs7 (up _ _ h1) (by decide)), cell_of h1]
  · exact hfr.app happ (.inl (.inl rfl)) hs7 hpv hWB
  · rcases happ.home with h1 | h1
    · rw [h1]; exact hpv
    · rw [h1, drew_heap]
      have := mk6.paLt
      intro hh; injection hh with hh
      simp at hh; omega
theorem cells40' : Tryz.prog.cellsOf 40 = 6 := by kernel_rfl
def EmitP (c : Cx) (K : Nat) (w : World) (d : Mk) (e : Ending) (w' : World) : Prop :=
  ∃ (r : Int) (d' : Mk), e = .returned (.int .i64 r) ∧ MK c (K + 3) w' d' ∧ d'.PL = d.PL ∧ d'.cur = d.cur ∧ d.nv ≤ d'.nv ∧ Fr c w w'
/-- Half way through: the operation lies in its box, with its result's number. -/
def Mid (c : Cx) (K : Nat) (w : World) (d : Mk) (z0 z2 z3 z4 : Int) (av : Value) (wx : World) : Prop :=
  ∃ (nx : Nat) (res : Int), MK c (K + 1) wx { d with next := nx } ∧ wx.heap[w.heap.size]? = some (.cells #[.int .i64 z0, .int .i64 res, .int .i64 z2, .int .i64 z3, .int .u16 z4, av] 40 (0, 0)) ∧ Fr c w wx ∧ w.heap.size < wx.heap.size ∧ ∀ g, g < w.heap.size → g ≠ c.m → wx.heap[g]? = w.heap[g]?
theorem op_typed {B K : Nat} {w : World} {z0 z1 z2 z3 z4 : Int} {av : Value} {na : Nat} (hav : SlV B K w 3 1 av na) : ∀ j ck, layK 40 j = some ck → ∀ v, (#[.int .i64 z0, .int .i64 z1, .int .i64 z2, .int .i64 z3, .int .u16 z4, av] : Array Value)[j]? = some v → Fits B K w ck v := by
  intro j ck hl v hv
  match j, hl, hv with
  | 0, hl, hv | 1, hl, hv | 2, hl, hv | 3, hl, hv => cases hl; cases hv; exact ⟨_, rfl⟩
  | 4, hl, hv => cases hl; cases hv; exact ⟨_, rfl⟩
  | 5, hl, hv => cases hl; cases hv; exact ⟨na, hav⟩
theorem other_typed {e : TypeId} {cs : Array Value} (he : layK e 0 = none) (he' : ∀ j, layK e j = layK e 0) : ∀ cs' e' fr, (Obj.cells cs e) = .cells cs' e' fr → ∀ j, layK e' j = none := by
  intro cs' e' fr h j
  cases h
  rw [he', he]
set_option maxRecDepth 100000 in
set_option maxHeartbeats 4000000 in
theorem emit_mk (c : Cx) (K : Nat) (w : World) (d : Mk) (h : MK c K w d) (hK : K + 3 ≤ big) (hcur : d.cur < d.PL.length) (z0 z1 z2 z3 z4 : Int) (av : Value) (na : Nat) (hav : SlV c.B K w 3 1 av na) :
    Calls Tryz.prog 89 #[.pointer (some ⟨c.m, 0, none⟩), .agg #[.int .i64 z0, .int .i64 z1, .int .i64 z2, .int .i64 z3, .int .u16 z4, av]] w (EmitP c K w d) := by
  obtain ⟨Aa, ka, rfl⟩ := hav.form
  have lm := heap_lt h.blk
  have m6 : w.cell? ⟨c.m, 6, none⟩ = some (.int .i64 d.next) := by rw [h.cell 6]; rfl
  have f6 := h.free 6
  have hb : big = 1073741824 := rfl
  have hnx := h.next
  have hn0 : (0 : Int) ≤ (d.next : Int) := by omega
  have hn1 : (d.next : Int) ≤ 1099511627776 := by have := h.K; omega
  have H := Lib.hid h; have HAV := Lib.hid hav
  clear h hav hnx hb
  go_enter Tryz.func89, Tryz.ntmps89
  go_upto_region 3 with (first | (go_at_call 118; refine (shape_any _ _).mono ?_; rintro e w' ⟨q0, q1, q2, q3, q4, rfl, rfl⟩))
  generalize hW : World.alloc _ _ = w3
  go_cut [17] (fun s17 wx => ∃ b : Bool, s17 = .bool b ∧ wx = w3)
  case first =>
    subst hW
    go_wp2_with fail
    all_goals (go_meet; refine ⟨_, rfl, ?_⟩; first | rfl | (simp_all; done))
  case rest =>
    obtain ⟨b, rfl, rfl⟩ := hcut
    have hB0 : Hid (MK c K wc d ∧ Fr c w wc ∧ wc.heap[w.heap.size]? = some (.cells #[.int .i64 z0, .int .i64 (-1), .int .i64 z2, .int .i64 z3, .int .u16 z4, .slice Aa na ka] 40 (0, 0)) ∧ w.heap.size < wc.heap.size ∧ ∀ g, g < w.heap.size → wc.heap[g]? = w.heap[g]?) := by
      subst hW
      have hwt1 := H.out.wt.alloc _ 40 (op_typed (z0 := z0) (z1 := -1) (z2 := z2) (z3 := z3) (z4 := z4) HAV.out)
      have mk1 := H.out.alloc _ hwt1
      have hwt2 := hwt1.allocOther (.cells #[.bool q0, .bool q1, .bool q2, .bool q3, .bool q4] 150) (other_typed rfl (fun _ => rfl))
      have mk2 := mk1.alloc _ hwt2
      have hwt3 := hwt2.allocOther (.cells #[.bool q0, .bool q1, .bool q2, .bool q3, .bool q4] 150) (other_typed rfl (fun _ => rfl))
      have mk3 := mk2.alloc _ hwt3
      refine ⟨mk3, (((Fr.refl c w).alloc H.out.size _).alloc mk1.size _).alloc mk2.size _, ?_, by simp; omega, fun g hg => ?_⟩
      rotate_left
      · rw [Below.heap_alloc _ _ _ (by simp; omega), Below.heap_alloc _ _ _ (by simp; omega), Below.heap_alloc _ _ _ hg]
      rw [Below.heap_alloc _ _ _ (by simp; omega), Below.heap_alloc _ _ _ (by simp), heap_alloc_new]
    have hms : c.m ≠ w.heap.size := by omega
    go_upto_if 17 with fail
    go_cut [] (fun wx => Mid c K w d z0 z2 z3 z4 (.slice Aa na ka) wx)
    case first =>
      have hbox : wc.cell? ⟨w.heap.size, 1, none⟩ = some (.int .i64 (-1)) := cell_of hB0.out.2.2.1
      have fbox : wc.frozen? ⟨w.heap.size, 1, none⟩ = false := by simp [World.frozen?, hB0.out.2.2.1]
      cases b
      · go_wp2_with fail
        go_meet
        exact ⟨d.next, -1, hB0.out.1.more (Nat.le_succ K) (by omega), hB0.out.2.2.1, hB0.out.2.1, hB0.out.2.2.2.1, fun g hg _ => hB0.out.2.2.2.2 g hg⟩
      · go_wp2_with (first | (go_at_call 36; refine (fresh_mk hB0.out.1 (by omega)).mono ?_; rintro e w' ⟨rfl, hmk, hfr, rfl⟩))
        go_meet
        have hsh : (wc.setCell ⟨c.m, 6, none⟩ (.int .i64 ((d.next : Int) + 1))).heap[w.heap.size]? = some (.cells #[.int .i64 z0, .int .i64 (-1), .int .i64 z2, .int .i64 z3, .int .u16 z4, .slice Aa na ka] 40 (0, 0)) := (Eng.setCell_other hms.symm).trans hB0.out.2.2.1
        refine ⟨d.next + 1, d.next, hmk.setFar hms.symm (by have := H.out.size; omega) (fun cs fr => .inl (by rw [hsh]; simp)) (hmk.wt.setCell _ _ _ fun cs e fr hg ck hl => ?_), Eng.setCell_blk hsh, (hB0.out.2.1.trans hfr).setCell _ _ _ (by have := H.out.size; omega) ?_ (.inl (Nat.le_refl _)), by rw [Eng.setCell_size, Eng.setCell_size]; exact hB0.out.2.2.2.1, fun g hg hgm => by rw [Eng.setCell_other (by omega), Eng.setCell_other hgm]; exact hB0.out.2.2.2.2 g hg⟩
        · rw [hsh] at hg; cases hg; cases hl; exact ⟨_, rfl⟩
        · have := H.out.paLt; omega
    case rest =>
      obtain ⟨nx, res, hk, hbx, hfr, hlt, hsame⟩ := hcut
      clear m6 f6
      obtain ⟨gB, cB, hbl⟩ : ∃ g cc, d.bl = .slice (some ⟨g, 0, none⟩) d.PL.length cc := by
        obtain ⟨g, cc, v, e1, _⟩ := hk.pls d.cur _ (List.getElem?_eq_getElem hcur)
        exact ⟨g, cc, e1⟩
      obtain ⟨csB, hgB0, hBg, hszB⟩ := H.out.blLt hbl
      obtain ⟨A0, A1, A4, n0, n1, n4, k0, k1, k4, y2, y3, hv0, hv1, hv2, hv3, hv4, sv0, sv1, sv4⟩ := blk_cells H.out.wt hBg hgB0 (k := d.cur) (by omega)
      have lB0 := heap_lt hgB0
      have hgm : gB ≠ c.m := by
        rintro e
        rw [e, H.out.blk] at hgB0; cases hgB0
      have hgB : wc.heap[gB]? = some (.cells csB 46 (0, 0)) := (hsame gB lB0 hgm).trans hgB0
      have lB := heap_lt hgB
      have lm' := heap_lt hk.blk
      have b0 : wc.cell? ⟨gB, d.cur * 5, none⟩ = some (.slice A0 n0 k0) := (cell_of hgB).trans hv0
      have b1 : wc.cell? ⟨gB, d.cur * 5 + 1, none⟩ = some (.slice A1 n1 k1) := (cell_of hgB).trans hv1
      have b2 : wc.cell? ⟨gB, d.cur * 5 + 2, none⟩ = some (.int .i64 y2) := (cell_of hgB).trans hv2
      have b3 : wc.cell? ⟨gB, d.cur * 5 + 3, none⟩ = some (.int .i64 y3) := (cell_of hgB).trans hv3
      have b4 : wc.cell? ⟨gB, d.cur * 5 + 4, none⟩ = some (.slice A4 n4 k4) := (cell_of hgB).trans hv4
      have m4 : wc.cell? ⟨c.m, 4, none⟩ = some (.slice (some ⟨gB, 0, none⟩) d.PL.length cB) := by rw [hk.cell 4]; simp [mkCells, hbl]
      have m5 : wc.cell? ⟨c.m, 5, none⟩ = some (.int .i64 d.cur) := by rw [hk.cell 5]; rfl
      have HK := Lib.hid hk; have HBL := Lib.hid hbl; have HG := Lib.hid hgB; have HV0 := Lib.hid hv0; have HV1 := Lib.hid hv1; have HV2 := Lib.hid hv2; have HV3 := Lib.hid hv3; have HV4 := Lib.hid hv4; have HBX := Lib.hid hbx; have S0 := Lib.hid sv0; have S1 := Lib.hid sv1; have S4 := Lib.hid sv4
      have hc0 : (0 : Int) ≤ (d.cur : Int) := by omega
      have hc1 : (d.cur : Int) < (d.PL.length : Int) := by omega
      clear sv0 sv1 sv4 hk hbl hgB hv0 hv1 hv2 hv3 hv4 hbx hW hB0
      go_wp2_with fail
      have x0 : wc.cell? ⟨w.heap.size, 0, none⟩ = some (.int .i64 z0) := cell_of HBX.out
      have x1 : wc.cell? ⟨w.heap.size, 1, none⟩ = some (.int .i64 res) := cell_of HBX.out
      have x2 : wc.cell? ⟨w.heap.size, 2, none⟩ = some (.int .i64 z2) := cell_of HBX.out
      have x3 : wc.cell? ⟨w.heap.size, 3, none⟩ = some (.int .i64 z3) := cell_of HBX.out
      have x4 : wc.cell? ⟨w.heap.size, 4, none⟩ = some (.int .u16 z4) := cell_of HBX.out
      have x5 : wc.cell? ⟨w.heap.size, 5, none⟩ = some (.slice Aa na ka) := cell_of HBX.out
      have hsh := hfr.shape
      have hwt4 := HK.out.wt.alloc #[.slice A0 n0 k0, .slice A1 n1 k1, .int .i64 y2, .int .i64 y3, .slice A4 n4 k4] 46 (blk_typed (S0.out.on hsh (Nat.le_succ K)) (S1.out.on hsh (Nat.le_succ K)) (S4.out.on hsh (Nat.le_succ K)))
      have sh4 : Shape wc (wc.alloc (.cells #[.slice A0 n0 k0, .slice A1 n1 k1, .int .i64 y2, .int .i64 y3, .slice A4 n4 k4] 46)) := (Shape.refl _).alloc _
      have hwt5 := hwt4.alloc #[.int .i64 z0, .int .i64 res, .int .i64 z2, .int .i64 z3, .int .u16 z4, .slice Aa na ka] 40 (op_typed ((HAV.out.on hsh (Nat.le_succ K)).on sh4 (Nat.le_refl _)))
      have hs5 := ((S1.out.on hsh (Nat.le_succ K)).on sh4 (Nat.le_refl _)).on ((Shape.refl _).alloc (.cells #[.int .i64 z0, .int .i64 res, .int .i64 z2, .int .i64 z3, .int .u16 z4, .slice Aa na ka] 40)) (Nat.le_refl _)
      have HWT5 := Lib.hid hwt5.drew; have HS5 := Lib.hid hs5; have HSH := Lib.hid hsh
      clear hsh hwt4 sh4 hwt5 hs5
      go_region
      have HX5 : Hid (SlV c.B (K + 1) (((wc.alloc (.cells #[.slice A0 n0 k0, .slice A1 n1 k1, .int .i64 y2, .int .i64 y3, .slice A4 n4 k4] 46)).alloc (.cells #[.int .i64 z0, .int .i64 res, .int .i64 z2, .int .i64 z3, .int .u16 z4, .slice Aa na ka] 40)).drew) 40 6 (.slice (some ⟨wc.heap.size + 1, 0, none⟩) 1 1) 1) := by
        have := heap_alloc_new (wc.alloc (.cells #[.slice A0 n0 k0, .slice A1 n1 k1, .int .i64 y2, .int .i64 y3, .slice A4 n4 k4] 46)) (.cells #[.int .i64 z0, .int .i64 res, .int .i64 z2, .int .i64 z3, .int .u16 z4, .slice Aa na ka] 40)
        have hs1 : (wc.alloc (.cells #[.slice A0 n0 k0, .slice A1 n1 k1, .int .i64 y2, .int .i64 y3, .slice A4 n4 k4] 46)).heap.size = wc.heap.size + 1 := by simp
        rw [hs1] at this
        exact ⟨by omega, .inr ⟨wc.heap.size + 1, 1, #[.int .i64 z0, .int .i64 res, .int .i64 z2, .int .i64 z3, .int .u16 z4, .slice Aa na ka], rfl, by have := HK.out.size; omega, Nat.le_refl _, this, Nat.le_refl _⟩⟩
      have hn1' : n1 ≤ K := S1.out.1
      have hbig : big = 1073741824 := rfl
      have hKb : K + 3 ≤ 1073741824 := hK
      clear hbig
      have hWBc : c.B ≤ wc.heap.size := HK.out.size
      go_wp2_with (first | (at_builtin
                            refine wpList_append_el (w := (((wc.alloc (.cells #[.slice A0 n0 k0, .slice A1 n1 k1, .int .i64 y2, .int .i64 y3, .slice A4 n4 k4] 46)).alloc (.cells #[.int .i64 z0, .int .i64 res, .int .i64 z2, .int .i64 z3, .int .u16 z4, .slice Aa na ka] 40)).drew)) (P := Tryz.prog) (B := c.B) (K := K + 1) (K' := K + 2) (n := n1) (m := 1) rfl (.tmp 33) (.tmp 35) rfl el41 HWT5.out rfl rfl (by exact HS5.out) HX5.out (by omega) (by omega) (by omega) (by show c.B ≤ ((wc.alloc _).alloc _).heap.size; simp; omega) ?_
                            intro v5 w5 happ
                            obtain ⟨A5, k5, rfl, mk5, bx5, h46, hB5, sv5, fr5, hlt5⟩ := after5 hK HK.out HBX.out hfr HG.out S1.out H.out.size H.out.paLt H.out.paT happ
                            have g0 : w5.cell? ⟨wc.heap.size, 0, none⟩ = some (.slice A0 n0 k0) := cell_of h46
                            have g1 : w5.cell? ⟨wc.heap.size, 1, none⟩ = some (.slice A1 n1 k1) := cell_of h46
                            have g2 : w5.cell? ⟨wc.heap.size, 2, none⟩ = some (.int .i64 y2) := cell_of h46
                            have g3 : w5.cell? ⟨wc.heap.size, 3, none⟩ = some (.int .i64 y3) := cell_of h46
                            have g4 : w5.cell? ⟨wc.heap.size, 4, none⟩ = some (.slice A4 n4 k4) := cell_of h46
                            have gf : w5.frozen? ⟨wc.heap.size, 1, none⟩ = false := by simp [World.frozen?, h46]
                            have t4 : w5.cell? ⟨c.m, 4, none⟩ = some (.slice (some ⟨gB, 0, none⟩) d.PL.length cB) := by rw [mk5.cell 4]; simp [mkCells, HBL.out]
                            have t5 : w5.cell? ⟨c.m, 5, none⟩ = some (.int .i64 d.cur) := by rw [mk5.cell 5]; rfl
                            have t7 : w5.cell? ⟨c.m, 7, none⟩ = some d.vals := by rw [mk5.cell 7]; rfl
                            have tf : w5.frozen? ⟨c.m, 7, none⟩ = false := mk5.free 7
                            have r0 : w5.cell? ⟨gB, d.cur * 5, none⟩ = some (.slice A0 n0 k0) := (cell_of hB5).trans HV0.out
                            have r1 : w5.cell? ⟨gB, d.cur * 5 + 1, none⟩ = some (.slice A1 n1 k1) := (cell_of hB5).trans HV1.out
                            have r2 : w5.cell? ⟨gB, d.cur * 5 + 2, none⟩ = some (.int .i64 y2) := (cell_of hB5).trans HV2.out
                            have r3 : w5.cell? ⟨gB, d.cur * 5 + 3, none⟩ = some (.int .i64 y3) := (cell_of hB5).trans HV3.out
                            have r4 : w5.cell? ⟨gB, d.cur * 5 + 4, none⟩ = some (.slice A4 n4 k4) := (cell_of hB5).trans HV4.out
                            have u0 : w5.frozen? ⟨gB, d.cur * 5, none⟩ = false := by simp [World.frozen?, hB5]
                            have u1 : w5.frozen? ⟨gB, d.cur * 5 + 1, none⟩ = false := by simp [World.frozen?, hB5]
                            have u2 : w5.frozen? ⟨gB, d.cur * 5 + 2, none⟩ = false := by simp [World.frozen?, hB5]
                            have u3 : w5.frozen? ⟨gB, d.cur * 5 + 3, none⟩ = false := by simp [World.frozen?, hB5]
                            have u4 : w5.frozen? ⟨gB, d.cur * 5 + 4, none⟩ = false := by simp [World.frozen?, hB5]
                            have o1 : w5.cell? ⟨w.heap.size, 1, none⟩ = some (.int .i64 res) := cell_of bx5
                            have MK5 := Lib.hid mk5; have BX5 := Lib.hid bx5; have H46 := Lib.hid h46; have HB5 := Lib.hid hB5; have SV5 := Lib.hid sv5
                            clear mk5 bx5 h46 hB5 sv5 happ b0 b1 b2 b3 b4 m4 m5 x0 x1 x2 x3 x4 x5))
      have ne1 : wc.heap.size ≠ c.m := by omega
      have ne2 : gB ≠ wc.heap.size := by omega
      have ne3 : wc.heap.size ≠ w.heap.size := by omega
      have ne4 : gB ≠ w.heap.size := by omega
      have hws : w.heap.size ≤ wc.heap.size := by omega
      have hB1 : c.B ≤ wc.heap.size := HK.out.size
      have hpl := H.out.paLt
      have hpa1 : wc.heap.size ≠ c.pa := by omega
      go_region
      go_wp2_with fail
      all_goals generalize hw6 : World.drew _ = w6
      · obtain ⟨mk6, fr6, sh6, far6⟩ := after7 MK5.out H46.out HBL.out HB5.out HV0.out (S0.out.on fr5.shape (by omega)) SV5.out (S4.out.on fr5.shape (by omega)) ne2 hws hB1 hBg fr5 hpa1 w6 hw6.symm
        have bx6 := (far6 w.heap.size (Ne.symm ne3) (Ne.symm ne4)).trans BX5.out
        clear hw6 far6 g0 g1 g2 g3 g4 gf t4 t5 t7 tf r0 r1 r2 r3 r4 u0 u1 u2 u3 u4 o1
        obtain ⟨Av, kv, hvv⟩ := mk6.vals.form
        have t7 : w6.cell? ⟨c.m, 7, none⟩ = some (.slice Av d.nv kv) := by rw [mk6.cell 7, ← hvv]; rfl
        have tf : w6.frozen? ⟨c.m, 7, none⟩ = false := mk6.free 7
        have o1 : w6.cell? ⟨w.heap.size, 1, none⟩ = some (.int .i64 res) := cell_of bx6
        have hm6 := heap_lt mk6.blk
        have hb6 := heap_lt bx6
        have MK6 := Lib.hid mk6; have BX6 := Lib.hid bx6; have HVV := Lib.hid hvv; have SH6 := Lib.hid sh6
        clear mk6 bx6 hvv sh6
        have hwt7 : Hid (WT c.B (K + 2) (w6.alloc (.cells #[.int .i64 res] 3)).drew) := (MK6.out.wt.alloc #[.int .i64 res] 3 (int_typed res)).drew
        have hs7 : Hid (SlV c.B (K + 2) (w6.alloc (.cells #[.int .i64 res] 3)).drew 3 1 (.slice Av d.nv kv) d.nv) := (HVV.out ▸ MK6.out.vals).on ((Shape.refl _).alloc _).drew (Nat.le_refl _)
        have hx7 : Hid (SlV c.B (K + 2) (w6.alloc (.cells #[.int .i64 res] 3)).drew 3 1 (.slice (some ⟨w6.heap.size, 0, none⟩) 1 1) 1) := ⟨by omega, .inr ⟨w6.heap.size, 1, #[.int .i64 res], rfl, MK6.out.size, Nat.le_refl _, heap_alloc_new w6 _, Nat.le_refl _⟩⟩
        have hnv : d.nv ≤ K + 2 := MK6.out.vals.1
        have hB6 : c.B ≤ w6.heap.size := MK6.out.size
        go_region_law (refine step_append_el (w := (w6.alloc (.cells #[.int .i64 res] 3)).drew) (P := Tryz.prog) (B := c.B) (K := K + 2) (K' := K + 3) (n := d.nv) (m := 1) rfl (.tmp 56) (.tmp 59) rfl el22 hwt7.out rfl rfl hs7.out hx7.out (by omega) (by omega) (by omega) (by show c.B ≤ (w6.alloc _).heap.size; simp; omega) ?_; intro v7 w7 happ; obtain ⟨A7, k7, rfl, mk7, bx7, sv7, fr7, vp7⟩ := after9 hK H.out.size MK6.out HVV.out BX6.out fr6 happ; have q7 : w7.cell? ⟨c.m, 7, none⟩ = some d.vals := (by rw [mk7.cell 7]; rfl); have qf : w7.frozen? ⟨c.m, 7, none⟩ = false := mk7.free 7; have q1 : w7.cell? ⟨w.heap.size, 1, none⟩ = some (.int .i64 res) := cell_of bx7; have MK7 := Lib.hid mk7; have SV7 := Lib.hid sv7; clear mk7 sv7 happ)
        all_goals (go_wp2_with fail; go_ret)
        all_goals (refine ⟨res, { d with next := nx, vals := .slice A7 (d.nv + 1) k7, nv := d.nv + 1 }, rfl, ?_, rfl, rfl, Nat.le_succ _, ?_⟩)
        all_goals first
          | exact MK7.out.setM (d' := { d with next := nx, vals := .slice A7 (d.nv + 1) k7, nv := d.nv + 1 }) (by simp [mkCells]) rfl rfl MK7.out.at_ MK7.out.next MK7.out.left0 MK7.out.left1 rfl rfl SV7.out vp7
          | exact fr7.setCell c.m 7 _ MK7.out.mB MK7.out.paNe (.inr ⟨_, _, _, MK7.out.blk, .inr (.inr (.inr rfl))⟩)
      · obtain ⟨mk6, fr6, sh6, far6⟩ := after7 MK5.out H46.out HBL.out HB5.out HV0.out (S0.out.on fr5.shape (by omega)) SV5.out (S4.out.on fr5.shape (by omega)) ne2 hws hB1 hBg fr5 hpa1 w6 hw6.symm
        go_ret
        exact ⟨res, { d with next := nx }, rfl, mk6.more (by omega) hK, rfl, rfl, Nat.le_refl _, fr6⟩
end Go.Proofs.YtahljbkaemhpcaaGreat
