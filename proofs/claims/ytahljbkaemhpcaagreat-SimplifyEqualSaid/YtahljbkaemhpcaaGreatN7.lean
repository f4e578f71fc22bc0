/- One thing of a block is changed: what keeps the heap typed. -/
import Derived.Test.YtahljbkaemhpcaaGreatN6
namespace Go.Proofs.YtahljbkaemhpcaaGreat
open Go.RowKit
set_option linter.unusedVariables false
/-- Still typed; nothing foreign has changed, nor any program that stood before. -/
structure TyT (B K : Nat) (w w' : World) : Prop where
  wt : WT B K w'
  bel : Below B w w'
  sh : Shape w w'
  far : Keeps 29 w w'
theorem keeps_alloc {e : TypeId} {w w' : World} (h : Keeps e w w') (o : Obj) : Keeps e w (w'.alloc o) := fun g cs fr hg => by rw [Below.heap_alloc _ _ _ (heap_lt (h g cs fr hg))]; exact h g cs fr hg
/-- A store into a new block, or into one of another type. -/
theorem keeps_set {e0 e : TypeId} {w w' : World} {g0 o : Nat} {cs : Array Value} {v : Value} (h : Keeps e0 w w') (hg : w'.heap[g0]? = some (.cells cs e (0, 0))) (he : e0 ≠ e ∨ w.heap.size ≤ g0) : Keeps e0 w (w'.setCell ⟨g0, o, none⟩ v) := fun g cs' fr hg' => by
  have h1 := h g cs' fr hg'
  have hlt : g < w.heap.size := heap_lt hg'
  have hne : g ≠ g0 := by
    rintro rfl
    rcases he with he | he
    · rw [hg] at h1; cases h1; exact he rfl
    · omega
  rw [Eng.setCell_other hne]; exact h1
section
variable {B K K' : Nat} {w w' w'' : World}
theorem TyT.start (hw : WT B K w) : TyT B K w w := ⟨hw, Below.refl _ _, Shape.refl _, fun _ _ _ h => h⟩
theorem TyT.more (h : TyT B K w w') (hK : K ≤ K') : TyT B K' w w' := ⟨h.wt.more hK, h.bel, h.sh, h.far⟩
theorem TyT.trans (h : TyT B K w w') (h' : TyT B K' w' w'') : TyT B K' w w'' := ⟨h'.wt, h.bel.trans h'.bel, h.sh.trans h'.sh, h.far.trans h'.far⟩
theorem TyT.drew (h : TyT B K w w') : TyT B K w w'.drew := ⟨h.wt.drew, h.bel.drew, h.sh, h.far⟩
theorem TyT.set {g0 o e : Nat} {cs : Array Value} {v : Value} (h : TyT B K w w') (hg : w'.heap[g0]? = some (.cells cs e (0, 0))) (hB : B ≤ g0) (ht : ∀ ck, layK e o = some ck → Fits B K w' ck v) (he : 29 ≠ e ∨ w.heap.size ≤ g0 := by first | exact .inl (by decide) | exact .inr (by omega)) : TyT B K w (w'.setCell ⟨g0, o, none⟩ v) :=
  ⟨h.wt.setCell _ _ _ fun cs' e' fr hg' ck hl => (by rw [hg] at hg'; cases hg'; exact ht ck hl), h.bel.setCell hB v, h.sh.setCell _ rfl v, keeps_set h.far hg he⟩
theorem TyT.alloc {cs : Array Value} {e : TypeId} (h : TyT B K w w') (hB : B ≤ w'.heap.size) (ht : ∀ j ck, layK e j = some ck → ∀ v, cs[j]? = some v → Fits B K w' ck v) : TyT B K w (w'.alloc (.cells cs e)) :=
  ⟨h.wt.alloc cs e ht, h.bel.alloc hB _, h.sh.alloc _, keeps_alloc h.far _⟩
theorem TyT.app {e sz n m : Nat} {s x v : Value} (h : TyT B K w w') (ha : App B K' w' w'' e sz s x n m v) (hs : SlV B K w' e sz s n) (hB : B ≤ w'.heap.size) (he : 29 ≠ e := by decide) : TyT B K' w w'' :=
  ⟨ha.wt, h.bel.trans (ha.below hB (fun g hg => by obtain ⟨_, _, h2⟩ := hs.own hg; exact h2)), h.sh.trans ha.shape, h.far.trans (ha.keeps hs he)⟩
end
/-- Still typed; nothing foreign has changed, nor any program. -/
structure TyS (B K : Nat) (w w' : World) : Prop where
  wt : WT B K w'
  bel : Below B w w'
  sh : Shape w w'
  far : Keeps 29 w w'
section
variable {B K K' : Nat} {w w' w'' : World}
theorem TyS.t (h : TyS B K w w') : TyT B K w w' := ⟨h.wt, h.bel, h.sh, h.far⟩
theorem TyS.start (hw : WT B K w) : TyS B K w w := ⟨hw, Below.refl _ _, Shape.refl _, fun _ _ _ h => h⟩
theorem TyS.more (h : TyS B K w w') (hK : K ≤ K') : TyS B K' w w' := ⟨h.wt.more hK, h.bel, h.sh, h.far⟩
theorem TyS.drew (h : TyS B K w w') : TyS B K w w'.drew := ⟨h.wt.drew, h.bel.drew, h.sh, h.far⟩
theorem TyS.set {g0 o e : Nat} {cs : Array Value} {v : Value} (h : TyS B K w w') (hg : w'.heap[g0]? = some (.cells cs e (0, 0))) (hB : B ≤ g0) (ht : ∀ ck, layK e o = some ck → Fits B K w' ck v) (he : 29 ≠ e := by decide) : TyS B K w (w'.setCell ⟨g0, o, none⟩ v) :=
  ⟨h.wt.setCell _ _ _ fun cs' e' fr hg' ck hl => (by rw [hg] at hg'; cases hg'; exact ht ck hl), h.bel.setCell hB v, h.sh.setCell _ rfl v, h.far.trans (Keeps.set hg he)⟩
theorem TyS.alloc {cs : Array Value} {e : TypeId} (h : TyS B K w w') (hB : B ≤ w'.heap.size) (ht : ∀ j ck, layK e j = some ck → ∀ v, cs[j]? = some v → Fits B K w' ck v) : TyS B K w (w'.alloc (.cells cs e)) :=
  ⟨h.wt.alloc cs e ht, h.bel.alloc hB _, h.sh.alloc _, fun g cs fr hg => by rw [Below.heap_alloc _ _ _ (heap_lt (h.far g cs fr hg))]; exact h.far g cs fr hg⟩
theorem TyS.app {e sz n m : Nat} {s x v : Value} (h : TyS B K w w') (ha : App B K' w' w'' e sz s x n m v) (hs : SlV B K w' e sz s n) (hB : B ≤ w'.heap.size) (he : 29 ≠ e := by decide) : TyS B K' w w'' :=
  ⟨ha.wt, h.bel.trans (ha.below hB (fun g hg => by obtain ⟨_, _, h2⟩ := hs.own hg; exact h2)), h.sh.trans ha.shape, h.far.trans (ha.keeps hs he)⟩
/-- An operation's six cells. -/
theorem op_cells {A : Option Addr} {n k q : Nat} (hw : WT B K w) (hs : SlV B K w 40 6 (.slice A n k) n) (hq : q < n) : ∃ (g : Nat) (z0 z1 z2 z3 z4 : Int) (Aa : Option Addr) (na ka : Nat) (cs : Array Value), A = some ⟨g, 0, none⟩ ∧ B ≤ g ∧ n ≤ k ∧ w.heap[g]? = some (.cells cs 40 (0, 0)) ∧
    w.cell? ⟨g, q * 6, none⟩ = some (.int .i64 z0) ∧ w.cell? ⟨g, q * 6 + 1, none⟩ = some (.int .i64 z1) ∧ w.cell? ⟨g, q * 6 + 2, none⟩ = some (.int .i64 z2) ∧ w.cell? ⟨g, q * 6 + 3, none⟩ = some (.int .i64 z3) ∧ w.cell? ⟨g, q * 6 + 4, none⟩ = some (.int .u16 z4) ∧ w.cell? ⟨g, q * 6 + 5, none⟩ = some (.slice Aa na ka) ∧ SlV B K w 3 1 (.slice Aa na ka) na := by
  obtain ⟨h0, ⟨h1, h2⟩ | ⟨g, c, cs, h1, h2, h3, h4, h5⟩⟩ := hs
  · omega
  · cases h1
    obtain ⟨_, hv0, z0, rfl⟩ := fit_of hw h2 h4 (j := q * 6 + 0) (ck := .num) lay6 (by omega)
    obtain ⟨_, hv1, z1, rfl⟩ := fit_of hw h2 h4 (j := q * 6 + 1) (ck := .num) lay6 (by omega)
    obtain ⟨_, hv2, z2, rfl⟩ := fit_of hw h2 h4 (j := q * 6 + 2) (ck := .num) lay6 (by omega)
    obtain ⟨_, hv3, z3, rfl⟩ := fit_of hw h2 h4 (j := q * 6 + 3) (ck := .num) lay6 (by omega)
    obtain ⟨_, hv4, z4, rfl⟩ := fit_of hw h2 h4 (j := q * 6 + 4) (ck := .word) lay6 (by omega)
    obtain ⟨_, hv5, l0, sv⟩ := fit_of hw h2 h4 (j := q * 6 + 5) (ck := .sl 3 1) lay6 (by omega)
    obtain ⟨s0, c0, rfl⟩ := sv.form
    exact ⟨g, z0, z1, z2, z3, z4, s0, l0, c0, cs, rfl, h2, h3, h4, hv0, hv1, hv2, hv3, hv4, hv5, sv⟩
theorem edge_cells {A : Option Addr} {n k q : Nat} (hw : WT B K w) (hs : SlV B K w 49 2 (.slice A n k) n) (hq : q < n) : ∃ (g : Nat) (z0 : Int) (Aa : Option Addr) (na ka : Nat) (cs : Array Value), A = some ⟨g, 0, none⟩ ∧ B ≤ g ∧ n ≤ k ∧ w.heap[g]? = some (.cells cs 49 (0, 0)) ∧
    w.cell? ⟨g, q * 2, none⟩ = some (.int .i64 z0) ∧ w.cell? ⟨g, q * 2 + 1, none⟩ = some (.slice Aa na ka) ∧ SlV B K w 3 1 (.slice Aa na ka) na := by
  obtain ⟨h0, ⟨h1, h2⟩ | ⟨g, c, cs, h1, h2, h3, h4, h5⟩⟩ := hs
  · omega
  · cases h1
    obtain ⟨_, hv0, z0, rfl⟩ := fit_of hw h2 h4 (j := q * 2 + 0) (ck := .num) lay2 (by omega)
    obtain ⟨_, hv5, l0, sv⟩ := fit_of hw h2 h4 (j := q * 2 + 1) (ck := .sl 3 1) lay2 (by omega)
    obtain ⟨s0, c0, rfl⟩ := sv.form
    exact ⟨g, z0, s0, l0, c0, cs, rfl, h2, h3, h4, hv0, hv5, sv⟩
/-- A block's cells. -/
theorem block_cells {g j n : Nat} {cs : Array Value} (hw : WT B K w) (hB : B ≤ g) (hg : w.heap[g]? = some (.cells cs 46 (0, 0))) (hj : j * 5 + 5 ≤ cs.size) : ∃ (A0 : Option Addr) (n0 k0 : Nat) (A1 : Option Addr) (n1 k1 : Nat) (z2 z3 : Int) (A4 : Option Addr) (n4 k4 : Nat),
    w.cell? ⟨g, j * 5, none⟩ = some (.slice A0 n0 k0) ∧ w.cell? ⟨g, j * 5 + 1, none⟩ = some (.slice A1 n1 k1) ∧ w.cell? ⟨g, j * 5 + 2, none⟩ = some (.int .i64 z2) ∧ w.cell? ⟨g, j * 5 + 3, none⟩ = some (.int .i64 z3) ∧ w.cell? ⟨g, j * 5 + 4, none⟩ = some (.slice A4 n4 k4) ∧
    SlV B K w 3 1 (.slice A0 n0 k0) n0 ∧ SlV B K w 40 6 (.slice A1 n1 k1) n1 ∧ SlV B K w 49 2 (.slice A4 n4 k4) n4 := by
  obtain ⟨A0, A1, A4, n0, n1, n4, k0, k1, k4, z2, z3, h0, h1, h2, h3, h4, s0, s1, s4⟩ := blk_cells hw hB hg hj
  exact ⟨A0, n0, k0, A1, n1, k1, z2, z3, A4, n4, k4, (cell_of hg).trans h0, (cell_of hg).trans h1, (cell_of hg).trans h2, (cell_of hg).trans h3, (cell_of hg).trans h4, s0, s1, s4⟩
theorem TyS.set6 {gO q : Nat} {cs : Array Value} {v0 v1 v2 v3 v4 : Int} {Aa : Option Addr} {na ka : Nat} (h : TyS B K w w') (hg : w'.heap[gO]? = some (.cells cs 40 (0, 0))) (hB : B ≤ gO) (hs : SlV B K w' 3 1 (.slice Aa na ka) na) :
    ∀ w6, w6 = (((((w'.setCell ⟨gO, q * 6, none⟩ (.int .i64 v0)).setCell ⟨gO, q * 6 + 1, none⟩ (.int .i64 v1)).setCell ⟨gO, q * 6 + 2, none⟩ (.int .i64 v2)).setCell ⟨gO, q * 6 + 3, none⟩ (.int .i64 v3)).setCell ⟨gO, q * 6 + 4, none⟩ (.int .u16 v4)).setCell ⟨gO, q * 6 + 5, none⟩ (.slice Aa na ka) →
      TyS B K w w6 ∧ Shape w' w6 ∧ (∀ b, b ≠ gO → w6.heap[b]? = w'.heap[b]?) ∧ ∃ cs', w6.heap[gO]? = some (.cells cs' 40 (0, 0)) := by
  rintro w6 rfl
  have num : ∀ (u : World) (i : Nat) (z : Int) (ck : CK), (i = 0 ∨ i = 1 ∨ i = 2 ∨ i = 3) → layK 40 (q * 6 + i) = some ck → Fits B K u ck (.int .i64 z) := by
    intro u i z ck hi hl
    rw [lay6] at hl
    rcases hi with rfl | rfl | rfl | rfl <;> (cases hl; exact ⟨_, rfl⟩)
  have a0 := h.set (o := q * 6) (v := .int .i64 v0) hg hB (fun ck hl => num _ 0 _ ck (.inl rfl) hl)
  have g0 := Eng.setCell_blk (v := .int .i64 v0) (off := q * 6) hg
  have a1 := a0.set (o := q * 6 + 1) (v := .int .i64 v1) g0 hB (fun ck hl => num _ 1 _ ck (.inr (.inl rfl)) hl)
  have g1 := Eng.setCell_blk (v := .int .i64 v1) (off := q * 6 + 1) g0
  have a2 := a1.set (o := q * 6 + 2) (v := .int .i64 v2) g1 hB (fun ck hl => num _ 2 _ ck (.inr (.inr (.inl rfl))) hl)
  have g2 := Eng.setCell_blk (v := .int .i64 v2) (off := q * 6 + 2) g1
  have a3 := a2.set (o := q * 6 + 3) (v := .int .i64 v3) g2 hB (fun ck hl => num _ 3 _ ck (.inr (.inr (.inr rfl))) hl)
  have g3 := Eng.setCell_blk (v := .int .i64 v3) (off := q * 6 + 3) g2
  have a4 := a3.set (o := q * 6 + 4) (v := .int .u16 v4) g3 hB (fun ck hl => by rw [lay6] at hl; cases hl; exact ⟨_, rfl⟩)
  have g4 := Eng.setCell_blk (v := .int .u16 v4) (off := q * 6 + 4) g3
  have sh4 : Shape w' (((((w'.setCell ⟨gO, q * 6, none⟩ (.int .i64 v0)).setCell ⟨gO, q * 6 + 1, none⟩ (.int .i64 v1)).setCell ⟨gO, q * 6 + 2, none⟩ (.int .i64 v2)).setCell ⟨gO, q * 6 + 3, none⟩ (.int .i64 v3)).setCell ⟨gO, q * 6 + 4, none⟩ (.int .u16 v4)) := (((((Shape.refl w').setCell _ rfl _).setCell _ rfl _).setCell _ rfl _).setCell _ rfl _).setCell _ rfl _
  have a5 := a4.set (o := q * 6 + 5) (v := .slice Aa na ka) g4 hB (fun ck hl => by rw [lay6] at hl; cases hl; exact ⟨_, hs.on sh4 (Nat.le_refl _)⟩)
  have g5 := Eng.setCell_blk (v := .slice Aa na ka) (off := q * 6 + 5) g4
  exact ⟨a5, sh4.setCell _ rfl _, fun b hb => by rw [Eng.setCell_other hb, Eng.setCell_other hb, Eng.setCell_other hb, Eng.setCell_other hb, Eng.setCell_other hb, Eng.setCell_other hb], _, g5⟩
end
theorem rem_cast (a b : Nat) : (a : Int).tmod (b : Int) = ((a % b : Nat) : Int) := by rw [Int.ofNat_tmod]
theorem quo_cast (a b : Nat) : (a : Int).tdiv (b : Int) = ((a / b : Nat) : Int) := by rw [Int.ofNat_tdiv]
end Go.Proofs.YtahljbkaemhpcaaGreat
