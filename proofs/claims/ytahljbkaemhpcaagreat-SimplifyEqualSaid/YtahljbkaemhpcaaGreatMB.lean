/- The maker: choice. -/
import Derived.Test.YtahljbkaemhpcaaGreatMA
namespace Go.Proofs.YtahljbkaemhpcaaGreat
open Go.RowKit
set_option linter.unusedVariables false
theorem block0 {c : Cx} {K : Nat} {w : World} {d : Mk} (h : MK c K w d) (hK : K + 1 ≤ big) : Calls Tryz.prog 13 #[.pointer (some ⟨c.m, 0, none⟩), .int .i64 0] w (BlockP c K w d 0) := block_mk c K w d 0 h (by omega) hK
theorem block1 {c : Cx} {K : Nat} {w : World} {d : Mk} (h : MK c K w d) (hK : K + 3 ≤ big) : Calls Tryz.prog 13 #[.pointer (some ⟨c.m, 0, none⟩), .int .i64 1] w (BlockP c K w d 1) := block_mk c K w d 1 h (by omega) hK
theorem block2 {c : Cx} {K : Nat} {w : World} {d : Mk} (h : MK c K w d) (hK : K + 5 ≤ big) : Calls Tryz.prog 13 #[.pointer (some ⟨c.m, 0, none⟩), .int .i64 2] w (BlockP c K w d 2) := block_mk c K w d 2 h (by omega) hK
theorem edge_typed {B K : Nat} {w : World} {b : Int} {av : Value} {na : Nat} (hav : SlV B K w 3 1 av na) : ∀ j ck, layK 49 j = some ck → ∀ v, (#[.int .i64 b, av] : Array Value)[j]? = some v → Fits B K w ck v := by
  intro j ck hl v hv
  match j, hl, hv with
  | 0, hl, hv => cases hl; cases hv; exact ⟨_, rfl⟩
  | 1, hl, hv => cases hl; cases hv; exact ⟨na, hav⟩
theorem ints_typed {B K : Nat} {w : World} {cs : Array Value} (h : ∀ v ∈ cs, ∃ z, v = .int .i64 z) : ∀ j ck, layK 3 j = some ck → ∀ v, cs[j]? = some v → Fits B K w ck v := by
  intro j ck hl v hv
  cases hl
  exact h v (Array.mem_of_getElem? hv)
theorem nilV (B K : Nat) (w : World) (e sz : Nat) : SlV B K w e sz (.slice none 0 0) 0 := ⟨Nat.zero_le _, .inl ⟨rfl, rfl⟩⟩
theorem newRow {B K : Nat} {w : World} {cs : Array Value} {e : TypeId} {sz n : Nat} (h : B ≤ w.heap.size) (hs : n * sz ≤ cs.size) (hn : n ≤ K) : SlV B K (w.alloc (.cells cs e)) e sz (.slice (some ⟨w.heap.size, 0, none⟩) n n) n := ⟨hn, .inr ⟨w.heap.size, n, cs, rfl, h, Nat.le_refl _, heap_alloc_new w _, hs⟩⟩
theorem SlV.cut {B K : Nat} {w : World} {e sz n m k : Nat} {A : Option Addr} (h : SlV B K w e sz (.slice A n k) n) (hm : m ≤ n) : SlV B K w e sz (.slice A m k) m := by
  obtain ⟨h0, ⟨h1, h2⟩ | ⟨g, c, cs, h1, h2, h3, h4, h5⟩⟩ := h
  · cases h1
    obtain rfl : m = 0 := by omega
    exact ⟨Nat.zero_le _, .inl ⟨rfl, rfl⟩⟩
  · cases h1
    exact ⟨by omega, .inr ⟨g, k, cs, rfl, h2, by omega, h4, h5⟩⟩
/-- The edges to the parts' blocks. -/
def Tos (c : Cx) (w0 : World) (K L : Nat) (w : World) (A : Option Addr) (k ca : Nat) : Prop :=
  SlV c.B K w 49 2 (.slice A k ca) k ∧ (∀ g, Value.ownBlock (.slice A k ca) = some g → w0.heap.size ≤ g) ∧ ∀ j, j < k → ∃ g b : Nat, A = some ⟨g, 0, none⟩ ∧ w.cell? ⟨g, j * 2, none⟩ = some (.int .i64 b) ∧ b < L
theorem Tos.on {c : Cx} {w0 w w' : World} {K K' L L' k ca : Nat} {A : Option Addr} (h : Tos c w0 K L w A k ca) (hf : Fr c w w') (hK : K ≤ K') (hL : L ≤ L') : Tos c w0 K' L' w' A k ca := by
  obtain ⟨h1, h2, h3⟩ := h
  refine ⟨h1.on hf.shape hK, h2, fun j hj => ?_⟩
  obtain ⟨g, b, rfl, e2, e3⟩ := h3 j hj
  obtain ⟨cs, f1, f2⟩ := h1.own (g := g) rfl
  refine ⟨g, b, rfl, ?_, by omega⟩
  rw [cell_of (hf.far _ _ _ _ f1 (by decide) (by decide) (by decide) (by decide)), ← cell_of f1]
  exact e2
theorem tosNil (c : Cx) (w0 : World) (K L : Nat) (w : World) : Tos c w0 K L w none 0 0 := ⟨nilV _ _ _ _ _, fun g hg => (by rw [own_none] at hg; cases hg), fun j hj => (by omega)⟩
theorem tosMore {c : Cx} {w0 w2 w9 : World} {K L k ca c9 b : Nat} {A A9 : Option Addr} (h : Tos c w0 K L w2 A k ca) (hb : b < L) (hsz : w0.heap.size ≤ w2.heap.size)
    (happ : App c.B (K + 1) (w2.alloc (.cells #[.int .i64 b, .slice none 0 0] 49)) w9 49 2 (.slice A k ca) (.slice (some ⟨w2.heap.size, 0, none⟩) 1 1) k 1 (.slice A9 (k + 1) c9)) : Tos c w0 (K + 1) L w9 A9 (k + 1) c9 := by
  obtain ⟨h1, h2, h3⟩ := h
  refine ⟨happ.slv, fun g hg => ?_, fun j hj => ?_⟩
  · rcases happ.home with e | e
    · exact h2 g (e ▸ hg)
    · rw [e] at hg; cases hg; simp; omega
  · obtain ⟨g9, rfl⟩ : ∃ g, A9 = some ⟨g, 0, none⟩ := by
      obtain ⟨_, ⟨_, e⟩ | ⟨g, _, _, e, _⟩⟩ := happ.slv
      · omega
      · cases e; exact ⟨_, rfl⟩
    by_cases hk : j < k
    · obtain ⟨g, b', rfl, e2, e3⟩ := h3 j hk
      obtain ⟨cs, f1, _⟩ := h1.own (g := g) rfl
      refine ⟨g9, b', rfl, ?_, e3⟩
      rw [happ.old g ca g9 c9 rfl rfl (j * 2) (by omega), cell_alloc (heap_lt f1)]
      exact e2
    · obtain rfl : j = k := by omega
      refine ⟨g9, b, rfl, ?_, hb⟩
      have := happ.new w2.heap.size 1 g9 c9 rfl rfl 0 (by omega)
      rw [Nat.add_zero] at this
      exact this.trans (cell_of (heap_alloc_new w2 _))
/-- An edge that jumps with arguments was built. -/
theorem afterJ {c : Cx} {K n : Nat} {w0 w : World} {d : Mk} {cs : Array Value} {b : Int} (h : MK c K w d) (hf : Fr c w0 w) (hK : K + 2 ≤ big) (hi : ∀ v ∈ cs, ∃ z, v = .int .i64 z) (hn : cs.size = n) (h2 : n ≤ 2) :
    ∀ w2, w2 = ((w.alloc (.cells cs 3)).alloc (.cells #[.int .i64 b, .slice (some ⟨w.heap.size, 0, none⟩) n n] 49)) → MK c (K + 2) w2 d ∧ Fr c w0 w2 ∧ SlV c.B (K + 2) w2 49 2 (.slice (some ⟨w.heap.size + 1, 0, none⟩) 1 1) 1 := by
  rintro w2 rfl
  have hk := h.more (Nat.le_add_right K 2) hK
  have t1 := hk.wt.alloc cs 3 (ints_typed hi)
  have m1 := hk.alloc _ t1
  have s1 : SlV c.B (K + 2) (w.alloc (.cells cs 3)) 3 1 (.slice (some ⟨w.heap.size, 0, none⟩) n n) n := newRow h.size (by omega) (by omega)
  have t2 := t1.alloc _ 49 (edge_typed (b := b) s1)
  have m2 := m1.alloc _ t2
  have e : (w.alloc (.cells cs 3)).heap.size = w.heap.size + 1 := by simp
  have s2 := newRow (B := c.B) (K := K + 2) (w := w.alloc (.cells cs 3)) (cs := #[.int .i64 b, .slice (some ⟨w.heap.size, 0, none⟩) n n]) (e := 49) (sz := 2) (n := 1) m1.size (by simp) (by omega)
  rw [e] at s2
  exact ⟨m2, (hf.alloc h.size _).alloc m1.size _, s2⟩
/-- The values that can be used are cut back. -/
theorem MK.cutV {c : Cx} {K n m k : Nat} {w : World} {d : Mk} {A : Option Addr} (h : MK c K w d) (hv : d.vals = .slice A n k) (hn : n = d.nv) (hm : m ≤ n) : MK c K (w.setCell ⟨c.m, 7, none⟩ (.slice A m k)) { d with vals := .slice A m k, nv := m } := by
  subst hn
  refine h.setM (d' := { d with vals := .slice A m k, nv := m }) (by simp [mkCells]) rfl rfl h.at_ h.next h.left0 h.left1 rfl rfl ?_ ?_
  · have := h.vals
    rw [hv] at this
    exact this.cut hm
  · have := h.vpa
    rw [hv] at this
    show Value.ownBlock (.slice A m k) ≠ some c.pa
    cases A with
    | none => rw [own_none]; simp
    | some a => exact this
theorem MK.setCur {c : Cx} {K b : Nat} {w : World} {d : Mk} (h : MK c K w d) : MK c K (w.setCell ⟨c.m, 5, none⟩ (.int .i64 b)) { d with cur := b } :=
  h.setM (d' := { d with cur := b }) (by simp [mkCells]) rfl rfl h.at_ h.next h.left0 h.left1 rfl rfl h.vals h.vpa
theorem Fr.setM {c : Cx} {K : Nat} {w0 w : World} {d : Mk} (hf : Fr c w0 w) (h : MK c K w d) (i : Nat) (v : Value) : Fr c w0 (w.setCell ⟨c.m, i, none⟩ v) := hf.setCell _ _ _ h.mB h.paNe (.inr ⟨_, _, _, h.blk, .inr (.inr (.inr rfl))⟩)
/-- A parameter of a block of the function. -/
theorem MK.param {c : Cx} {K j n i : Nat} {w : World} {d : Mk} (h : MK c K w d) (hj : d.PL[j]? = some n) (hi : i < n) : ∃ (gB cB gP cP : Nat) (z : Int), d.bl = .slice (some ⟨gB, 0, none⟩) d.PL.length cB ∧ w.cell? ⟨gB, j * 5, none⟩ = some (.slice (some ⟨gP, 0, none⟩) n cP) ∧ w.cell? ⟨gP, i, none⟩ = some (.int .i64 z) := by
  obtain ⟨g, cc, v, e1, e2, e3⟩ := h.pls j n hj
  obtain ⟨_, ⟨_, e⟩ | ⟨g', c', cs, rfl, h1, h2, h3, h4⟩⟩ := e3
  · omega
  · have hlt : i < cs.size := by omega
    obtain ⟨z, hz⟩ := (h.wt g' cs 3 _ h1 h3 i .num rfl).2 _ (Array.getElem?_eq_getElem hlt)
    exact ⟨g, cc, g', c', z, e1, e2, by rw [cell_of h3, Array.getElem?_eq_getElem hlt, hz]⟩
/-- The box of a terminator. -/
theorem afterT {c : Cx} {K : Nat} {w0 w : World} {d : Mk} {cs : Array Value} (h : MK c K w d) (hf : Fr c w0 w) : MK c K (w.alloc (.cells cs 44)) d ∧ Fr c w0 (w.alloc (.cells cs 44)) ∧ (w.alloc (.cells cs 44)).heap[w.heap.size]? = some (.cells cs 44 (0, 0)) :=
  ⟨h.alloc _ (h.wt.allocOther _ (other_typed rfl (fun _ => rfl))), hf.alloc h.size _, heap_alloc_new w _⟩
theorem free_of {w : World} {g j : Nat} {cs : Array Value} {e : TypeId} (h : w.heap[g]? = some (.cells cs e (0, 0))) : w.frozen? ⟨g, j, none⟩ = false := by simp [World.frozen?, h]
theorem MK.notBl {c : Cx} {K g : Nat} {w : World} {d : Mk} {cs : Array Value} {e : TypeId} {fr : Nat × Nat} (h : MK c K w d) (hg : w.heap[g]? = some (.cells cs e fr)) (he : e ≠ 46) : ∀ cc n, d.bl ≠ .slice (some ⟨g, 0, none⟩) n cc := by
  intro cc n hb
  obtain ⟨_, ⟨e1, _⟩ | ⟨g', c', cs', e1, h1, h2, h3, h4⟩⟩ := h.bls
  · rw [e1] at hb; cases hb
  · rw [e1] at hb; cases hb
    rw [hg] at h3; cases h3; exact he rfl
theorem afterU {c : Cx} {K g i : Nat} {w0 w : World} {d : Mk} {cs : Array Value} (h : MK c K w d) (hf : Fr c w0 w) (hg : w.heap[g]? = some (.cells cs 44 (0, 0))) (hB : c.B ≤ g) (h0 : w0.heap.size ≤ g) (v : Value) : MK c K (w.setCell ⟨g, i, none⟩ v) d ∧ Fr c w0 (w.setCell ⟨g, i, none⟩ v) ∧ (w.setCell ⟨g, i, none⟩ v).heap[g]? = some (.cells (cs.setIfInBounds i v) 44 (0, 0)) := by
  have hpa : g ≠ c.pa := by
    rintro rfl
    obtain ⟨cs', h1⟩ := h.paT
    rw [hg] at h1; cases h1
  exact ⟨h.setLoose hg (by decide) hB (h.notBl hg (by decide)) (fun ck hl => by cases hl), hf.setCell _ _ _ hB hpa (.inl h0), Eng.setCell_blk hg⟩
/-- The parts' rounds: the values that can be used are the same at each. -/
def To2 (c : Cx) (K N : Nat) (w : World) (d : Mk) (k : Nat) (A : Option Addr) (ca J nv q : Nat) (wr : World) : Prop :=
  ∃ d3, MK c (K + q * (N + 8)) wr d3 ∧ Fr c w wr ∧ Ext d d3 ∧ d3.nv = nv ∧ d3.PL[J]? = some 1 ∧ Tos c w (K + q * (N + 8)) d3.PL.length wr A k ca
theorem Ext.len {d d' : Mk} (h : Ext d d') : d.PL.length ≤ d'.PL.length := by
  obtain ⟨l, h1⟩ := h.1
  rw [h1]; simp
theorem Ext.at {d d' : Mk} (h : Ext d d') {j n : Nat} (hj : d.PL[j]? = some n) : d'.PL[j]? = some n := by
  obtain ⟨l, h1⟩ := h.1
  rw [h1, List.getElem?_append_left (List.getElem?_eq_some_iff.1 hj).1]; exact hj
theorem Ext.curOk {d d' : Mk} (h : Ext d d') : d'.cur < d'.PL.length := h.2.1
theorem Ext.setCur {d d' : Mk} {b : Nat} (h : Ext d d') (hb : b < d'.PL.length) : Ext d { d' with cur := b } := ⟨h.1, hb, h.2.2⟩
theorem Ext.cutV {d d' : Mk} {v : Value} {m : Nat} (h : Ext d d') (hm : d.nv ≤ m) : Ext d { d' with vals := v, nv := m } := ⟨h.1, h.2.1, hm⟩
theorem To2.close {c : Cx} {K N : Nat} {w : World} {d d3 : Mk} {k : Nat} {A : Option Addr} {ca J nv q : Nat} {wr : World} (h : MK c (K + q * (N + 8) + N + 7) wr d3) (hK : K + (q + 1) * (N + 8) ≤ big) (hf : Fr c w wr) (he : Ext d d3) (hn : d3.nv = nv) (hj : d3.PL[J]? = some 1) (ht : Tos c w (K + q * (N + 8)) d3.PL.length wr A k ca) : To2 c K N w d k A ca J nv (q + 1) wr := by
  have e : K + (q + 1) * (N + 8) = K + q * (N + 8) + N + 7 + 1 := by rw [Nat.add_mul]; omega
  exact ⟨d3, h.more (by omega) hK, hf, he, hn, hj, ht.on (Fr.refl _ _) (by omega) (Nat.le_refl _)⟩
end Go.Proofs.YtahljbkaemhpcaaGreat
