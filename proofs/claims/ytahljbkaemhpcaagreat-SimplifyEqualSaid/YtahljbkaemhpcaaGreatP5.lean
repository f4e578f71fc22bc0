/- A program is made: a function is laid down; the program's fields at the end. -/
import Derived.Test.YtahljbkaemhpcaaGreatNM
import Derived.Test.YtahljbkaemhpcaaGreatME
/- A program is made: its state while the numbers of arguments are drawn. -/
namespace Go.Proofs.YtahljbkaemhpcaaGreat
open Go.RowKit
set_option linter.unusedVariables false
def dataCells : Array Value := #[.int .i64 (-1), .int .u16 16384, .int .u16 16, .int .i64 (-1), .int .u16 16640, .int .u16 7, .int .i64 0, .int .u16 128, .int .u16 32]
def zeroProg : Array Value := #[.slice none 0 0, .slice none 0 0, .int .i64 0, .int .i64 0, .slice none 0 0, .slice none 0 0]
/-- The program and the maker before a function is made. R: the first new block. -/
structure PS (B K : Nat) (w0 : World) (R : Nat) (As : Option Addr) (len cap : Nat) (at_ : Nat) (A : Option Addr) (na ca : Nat) (wx : World) : Prop where
  b0 : wx.heap[R]? = some (.cells zeroProg 29 (0, 0))
  bp : wx.heap[R + 3]? = some (.cells (pc none 0 0 A na ca 0 (-1) (some ⟨R + 4, 0, none⟩) 3 3 (some ⟨R + 2, 0, none⟩) 1 1) 29 (0, 0))
  bd : wx.heap[R + 4]? = some (.cells dataCells 53 (0, 0))
  bs : ∃ s, wx.heap[R + 2]? = some (.cells #[.string s] 9 (0, 0))
  bm : wx.heap[R + 5]? = some (.cells #[.slice As len cap, .int .i64 at_, .pointer (some ⟨R + 3, 0, none⟩), .int .i64 0, .slice none 0 0, .int .i64 0, .int .i64 0, .slice none 0 0, .int .i64 0] 56 (0, 0))
  wt : WT B K wx
  bel : Below R w0 wx
  ta : SlV B K wx 3 1 (.slice A na ca) na
  oa : ∀ g, Value.ownBlock (.slice A na ca) = some g → R ≤ g
  args : ∀ j, j < na → ∃ (g a : Nat), A = some ⟨g, 0, none⟩ ∧ a ≤ 3 ∧ wx.cell? ⟨g, j, none⟩ = some (.int .i64 a)
  oB : B ≤ R
  inp : ∀ j, j < len → ∃ (g o : Nat) (z : Int), As = some ⟨g, o, none⟩ ∧ g < B ∧ wx.cell? ⟨g, o + j, none⟩ = some (.int .i64 z)
section
variable {B K R : Nat} {w0 wx w' : World} {As : Option Addr} {len cap at_ : Nat} {A : Option Addr} {na ca : Nat}
theorem PS.size (h : PS B K w0 R As len cap at_ A na ca wx) : B ≤ wx.heap.size := Nat.le_of_lt (Nat.lt_of_le_of_lt h.oB (heap_lt h.b0))
theorem PS.drewN (h : PS B K w0 R As len cap at_ A na ca wx) (n : Nat) : PS B K w0 R As len cap at_ A na ca (wx.drewN n) :=
  ⟨h.b0, h.bp, h.bd, h.bs, h.bm, h.wt, bel_drewN h.bel n, h.ta, h.oa, h.args, h.oB, h.inp⟩
/-- A number was taken. -/
theorem PS.took (h : PS B K w0 R As len cap at_ A na ca wx) : PS B K w0 R As len cap (at_ + 1) A na ca (wx.setCell ⟨R + 5, 1, none⟩ (.int .i64 ((at_ : Int) + 1))) := by
  have ne : ∀ g o, g ≠ R + 5 → (wx.setCell ⟨R + 5, 1, none⟩ (.int .i64 ((at_ : Int) + 1))).cell? ⟨g, o, none⟩ = wx.cell? ⟨g, o, none⟩ := fun g o hg => cell_set_ne hg
  obtain ⟨s, hs⟩ := h.bs
  refine ⟨by rw [Eng.setCell_other (by omega)]; exact h.b0, by rw [Eng.setCell_other (by omega)]; exact h.bp, by rw [Eng.setCell_other (by omega)]; exact h.bd, ⟨s, by rw [Eng.setCell_other (by omega)]; exact hs⟩, by rw [Eng.setCell_blk h.bm]; rfl, h.wt.setCell _ _ _ fun cs e fr hg ck hl => (by rw [h.bm] at hg; cases hg; cases hl), h.bel.setCell (Nat.le_add_right _ 5) _, h.ta.on ((Shape.refl _).setCell _ rfl _) (Nat.le_refl _), h.oa, fun j hj => ?_, h.oB, fun j hj => ?_⟩
  · obtain ⟨g, a, rfl, h2, h3⟩ := h.args j hj
    obtain ⟨cs, h4, _⟩ := h.ta.own (g := g) rfl
    refine ⟨g, a, rfl, h2, (ne g j ?_).trans h3⟩
    rintro rfl
    rw [h.bm] at h4; cases h4
  · obtain ⟨g, o, z, e, h2, h3⟩ := h.inp j hj
    exact ⟨g, o, z, e, h2, (ne g _ (by have := h.oB; omega)).trans h3⟩
theorem take_ps (h : PS B K w0 R As len cap at_ A na ca wx) (ha : at_ ≤ 1000) (hl : len ≤ 9223372036854775807) (n : Int) (h0 : 0 < n) (h1 : n ≤ 1099511627776) :
    Calls Tryz.prog 12 #[.pointer (some ⟨R + 5, 0, none⟩), .int .i64 n] wx (fun e w' => ∃ r : Int, 0 ≤ r ∧ r < n ∧ e = .returned (.int .i64 r) ∧ PS B K w0 R As len cap (at_ + 1) A na ca w') := by
  have key : ∀ e w', Took n wx (R + 5) at_ e w' → ∃ r : Int, 0 ≤ r ∧ r < n ∧ e = .returned (.int .i64 r) ∧ PS B K w0 R As len cap (at_ + 1) A na ca w' := by
    rintro e w' ⟨r, k, a, b, rfl, rfl⟩
    exact ⟨r, a, b, rfl, (h.drewN k).took⟩
  have m0 : wx.cell? ⟨R + 5, 0, none⟩ = some (.slice As len cap) := cell_of h.bm
  have m1 : wx.cell? ⟨R + 5, 1, none⟩ = some (.int .i64 at_) := cell_of h.bm
  have f1 : wx.frozen? ⟨R + 5, 1, none⟩ = false := free_of h.bm
  by_cases hlt : at_ < len
  · obtain ⟨g, o, z, rfl, _, e3⟩ := h.inp at_ hlt
    exact (take_in wx (R + 5) g o len cap at_ z n m0 m1 f1 e3 hlt hl h0 h1).mono key
  · exact (take_end wx (R + 5) As len cap at_ n m0 m1 f1 (by omega) (by omega) h0 h1).mono key
/-- A number of arguments was appended. -/
theorem PS.arg {w5 : World} {v : Value} {a : Nat} (h : PS B K w0 R As len cap at_ A na ca wx) (ha : a ≤ 3) (ap : App B K (wx.alloc (.cells #[.int .i64 (a : Int)] 3)) w5 3 1 (.slice A na ca) (.slice (some ⟨wx.heap.size, 0, none⟩) 1 1) na 1 v) :
    w5.heap[R + 3]? = some (.cells (pc none 0 0 A na ca 0 (-1) (some ⟨R + 4, 0, none⟩) 3 3 (some ⟨R + 2, 0, none⟩) 1 1) 29 (0, 0)) ∧ ∃ A9 c9, v = .slice A9 (na + 1) c9 ∧ PS B K w0 R As len cap at_ A9 (na + 1) c9 (w5.setCell ⟨R + 3, 1, none⟩ (.slice A9 (na + 1) c9)) := by
  obtain ⟨A9, c9, rfl⟩ := ap.slv.form
  have sh1 : Shape wx (wx.alloc (.cells #[.int .i64 (a : Int)] 3)) := (Shape.refl _).alloc _
  have s1 := h.ta.on sh1 (Nat.le_refl _)
  have up : ∀ (g : Nat) (cs : Array Value) (e : TypeId), wx.heap[g]? = some (.cells cs e (0, 0)) → e ≠ 3 → w5.heap[g]? = some (.cells cs e (0, 0)) := fun g cs e hg he => ap.other s1 ((Below.heap_alloc wx _ g (heap_lt hg)).trans hg) he
  have e3 := up _ _ _ h.bp (by decide)
  obtain ⟨s, hs⟩ := h.bs
  have set : ∀ (g : Nat) (ob : Obj), g ≠ R + 3 → w5.heap[g]? = some ob → (w5.setCell ⟨R + 3, 1, none⟩ (.slice A9 (na + 1) c9)).heap[g]? = some ob := fun g ob hg hh => by rw [Eng.setCell_other hg]; exact hh
  have b1 : Below R w0 (wx.alloc (.cells #[.int .i64 (a : Int)] 3)) := h.bel.alloc (Nat.le_of_lt (heap_lt h.b0)) _
  have shs : Shape w5 (w5.setCell ⟨R + 3, 1, none⟩ (.slice A9 (na + 1) c9)) := (Shape.refl _).setCell _ rfl _
  have hR : R ≤ wx.heap.size := Nat.le_of_lt (heap_lt h.b0)
  refine ⟨e3, A9, c9, rfl, set _ _ (by omega) (up _ _ _ h.b0 (by decide)), by rw [Eng.setCell_blk e3]; rfl, set _ _ (by omega) (up _ _ _ h.bd (by decide)), ⟨s, set _ _ (by omega) (up _ _ _ hs (by decide))⟩, set _ _ (by omega) (up _ _ _ h.bm (by decide)), ap.wt.setCell _ _ _ fun cs e fr hg ck hl => (by rw [e3] at hg; cases hg; cases hl), (b1.trans (ap.below (by simp; omega) h.oa)).setCell (Nat.le_add_right _ 3) _, ap.slv.on shs (Nat.le_refl _), fun g hg => ?_, fun j hj => ?_, h.oB, fun j hj => ?_⟩
  · rcases ap.home with e | e
    · exact h.oa g (e ▸ hg)
    · rw [e] at hg; cases hg; simp; omega
  · obtain ⟨g9, rfl⟩ := ap.row (by omega)
    have hne : g9 ≠ R + 3 := by
      rintro rfl
      obtain ⟨cs, h4, _⟩ := ap.slv.own (g := R + 3) rfl
      rw [e3] at h4; cases h4
    by_cases hjn : j < na
    · obtain ⟨g, a', rfl, h2, h3⟩ := h.args j hjn
      obtain ⟨cs, h4, _⟩ := h.ta.own (g := g) rfl
      exact ⟨g9, a', rfl, h2, by rw [cell_set_ne hne, ap.old g ca g9 c9 rfl rfl j (by omega), cell_alloc (heap_lt h4)]; exact h3⟩
    · obtain rfl : j = na := by omega
      have := ap.new wx.heap.size 1 g9 c9 rfl rfl 0 (by omega)
      rw [Nat.add_zero, Nat.mul_one] at this
      exact ⟨g9, a, rfl, ha, by rw [cell_set_ne hne, this]; exact cell_of (heap_alloc_new wx _)⟩
  · obtain ⟨g, o, z, e, h2, h3⟩ := h.inp j hj
    have hoB := h.oB
    refine ⟨g, o, z, e, h2, ?_⟩
    rw [cell_set_ne (by omega)]
    have hb : Below R (wx.alloc (.cells #[.int .i64 (a : Int)] 3)) w5 := ap.below (by simp; omega) h.oa
    rw [hb.cell (p := ⟨g, o + j, none⟩) (by show g < R; omega), cell_alloc (cell_lt h3)]
    exact h3
end
end Go.Proofs.YtahljbkaemhpcaaGreat
/- A program is made: its state while its functions are made. -/
namespace Go.Proofs.YtahljbkaemhpcaaGreat
open Go.RowKit
set_option linter.unusedVariables false
def cx (B R gA n me : Nat) (h : Int) : Cx := ⟨B, R + 5, R + 3, gA, R + 4, n, me, h⟩
/-- The program and the maker while functions are made. -/
structure MS (B K : Nat) (w0 : World) (R Fb gA ca n me : Nat) (h : Int) (d : Mk) (wx : World) : Prop where
  mkr : MK (cx B R gA n me h) K wx d
  b0 : wx.heap[R]? = some (.cells zeroProg 29 (0, 0))
  bp : wx.heap[R + 3]? = some (.cells (pc (some ⟨Fb, 0, none⟩) n n (some ⟨gA, 0, none⟩) n ca 0 h (some ⟨R + 4, 0, none⟩) 3 3 (some ⟨R + 2, 0, none⟩) 1 1) 29 (0, 0))
  args : ∃ cs, wx.heap[gA]? = some (.cells cs 3 (0, 0)) ∧ ∀ j, j < n → ∃ a : Nat, a ≤ 3 ∧ cs[j]? = some (.int .i64 a)
  bd : wx.heap[R + 4]? = some (.cells dataCells 53 (0, 0))
  bs : ∃ cs, wx.heap[R + 2]? = some (.cells cs 9 (0, 0)) ∧ 1 ≤ cs.size
  bf : ∃ cs, wx.heap[Fb]? = some (.cells cs 34 (0, 0)) ∧ n ≤ cs.size
  ta : SlV B K wx 3 1 (.slice (some ⟨gA, 0, none⟩) n ca) n
  bel : Below B w0 wx
  sh : Shape w0 wx
  oB : B ≤ R
  oF : B ≤ Fb
  n4 : n ≤ 4
section
variable {B K K' R Fb gA ca n me : Nat} {h : Int} {w0 wx w' : World} {d d' : Mk}
theorem MS.pg (s : MS B K w0 R Fb gA ca n me h d wx) (hme : me < n) : PG (cx B R gA n me h) wx := by
  obtain ⟨cs, h1, h2⟩ := s.args
  exact ⟨⟨_, _, _, _, _, s.bp⟩, ⟨cs, h1, h2⟩, ⟨_, s.bd, rfl, rfl⟩, hme, s.n4⟩
theorem MS.on (s : MS B K w0 R Fb gA ca n me h d wx) (hm : MK (cx B R gA n me h) K' w' d') (hf : Fr (cx B R gA n me h) wx w') (hK : K ≤ K') : MS B K' w0 R Fb gA ca n me h d' w' := by
  obtain ⟨cs, h1, h2⟩ := s.args
  obtain ⟨cs2, h3, h3'⟩ := s.bs
  obtain ⟨cs3, h4, h4'⟩ := s.bf
  exact ⟨hm, hf.far _ _ _ _ s.b0 (by decide) (by decide) (by decide) (by decide), hf.far _ _ _ _ s.bp (by decide) (by decide) (by decide) (by decide), ⟨cs, (hf.pa (heap_lt h1)).trans h1, h2⟩, hf.far _ _ _ _ s.bd (by decide) (by decide) (by decide) (by decide), ⟨cs2, hf.far _ _ _ _ h3 (by decide) (by decide) (by decide) (by decide), h3'⟩, ⟨cs3, hf.far _ _ _ _ h4 (by decide) (by decide) (by decide) (by decide), h4'⟩,
    s.ta.on hf.shape hK, s.bel.trans hf.below, s.sh.trans hf.shape, s.oB, s.oF, s.n4⟩
/-- A store into the maker's own block. -/
theorem MS.setM (s : MS B K w0 R Fb gA ca n me h d wx) {me' : Nat} {i : Nat} {v : Value} (hm : MK (cx B R gA n me' h) K (wx.setCell ⟨R + 5, i, none⟩ v) d') : MS B K w0 R Fb gA ca n me' h d' (wx.setCell ⟨R + 5, i, none⟩ v) := by
  obtain ⟨cs, h1, h2⟩ := s.args
  obtain ⟨cs2, h3, h3'⟩ := s.bs
  obtain ⟨cs3, h4, h4'⟩ := s.bf
  have hb := s.mkr.blk
  have ne : ∀ (g : Nat) (cs : Array Value) (e : TypeId), wx.heap[g]? = some (.cells cs e (0, 0)) → e ≠ 56 → (wx.setCell ⟨R + 5, i, none⟩ v).heap[g]? = some (.cells cs e (0, 0)) := fun g cs e hg he => Keeps.set hb he g cs _ hg
  have shx : Shape wx (wx.setCell ⟨R + 5, i, none⟩ v) := (Shape.refl _).setCell _ rfl _
  exact ⟨hm, ne _ _ _ s.b0 (by decide), ne _ _ _ s.bp (by decide), ⟨cs, ne _ _ _ h1 (by decide), h2⟩, ne _ _ _ s.bd (by decide), ⟨cs2, ne _ _ _ h3 (by decide), h3'⟩, ⟨cs3, ne _ _ _ h4 (by decide), h4'⟩, s.ta.on shx (Nat.le_refl _), s.bel.setCell (show B ≤ R + 5 from s.mkr.mB) _, s.sh.trans shx, s.oB, s.oF, s.n4⟩
/-- The next function's number is laid down. -/
theorem MK.setMe {c : Cx} {me' : Nat} (hk : MK c K wx d) : MK { c with me := me' } K (wx.setCell ⟨c.m, 3, none⟩ (.int .i64 me')) d := by
  have hs : Shape wx (wx.setCell ⟨c.m, 3, none⟩ (.int .i64 (me' : Int))) := (Shape.refl _).setCell _ rfl _
  refine ⟨by show (wx.setCell ⟨c.m, 3, none⟩ (.int .i64 (me' : Int))).heap[c.m]? = _; rw [Eng.setCell_blk hk.blk]; simp [mkCells], hk.mB, fun j hj => ?_, hk.sl, hk.at_, hk.next, hk.left0, hk.left1, hk.bls.on hs (Nat.le_refl _), fun j n hj => ?_, hk.vals.on hs (Nat.le_refl _), hk.vpa, hk.wt.setCell _ _ _ fun cs e fr hg ck hl => (by rw [hk.blk] at hg; cases hg; cases hl), by rw [Eng.setCell_size]; exact hk.size, hk.K, by rw [Eng.setCell_size]; exact hk.paLt, hk.paNe, by
    obtain ⟨cs, h1⟩ := hk.paT
    obtain ⟨cs', h2, _⟩ := hs _ _ _ _ h1
    exact ⟨cs', h2⟩⟩
  · obtain ⟨g, o, z, a1, a2, a3⟩ := hk.inp j hj
    refine ⟨g, o, z, a1, a2, (cell_set_ne ?_).trans a3⟩
    have := hk.mB
    show g ≠ c.m
    have : g < c.B := a2
    omega
  · obtain ⟨g, cc, u, a1, a2, a3⟩ := hk.pls j n hj
    refine ⟨g, cc, u, a1, (cell_set_ne ?_).trans a2, a3.on hs (Nat.le_refl _)⟩
    rintro rfl
    obtain ⟨cs, b1, _⟩ := hk.blLt a1
    rw [hk.blk] at b1; cases b1
/-- A new, empty function. -/
theorem MK.setF {c : Cx} (hk : MK c K wx d) : MK c K (wx.setCell ⟨c.m, 4, none⟩ (.slice none 0 0)) { d with bl := .slice none 0 0, PL := [] } := by
  have hs : Shape wx (wx.setCell ⟨c.m, 4, none⟩ (.slice none 0 0)) := (Shape.refl _).setCell _ rfl _
  refine ⟨by rw [Eng.setCell_blk hk.blk]; simp [mkCells], hk.mB, fun j hj => ?_, hk.sl, hk.at_, hk.next, hk.left0, hk.left1, nilV _ _ _ _ _, fun j n hj => (by simp at hj), hk.vals.on hs (Nat.le_refl _), hk.vpa, hk.wt.setCell _ _ _ fun cs e fr hg ck hl => (by rw [hk.blk] at hg; cases hg; cases hl), by rw [Eng.setCell_size]; exact hk.size, hk.K, by rw [Eng.setCell_size]; exact hk.paLt, hk.paNe, by
    obtain ⟨cs, h1⟩ := hk.paT
    obtain ⟨cs', h2, _⟩ := hs _ _ _ _ h1
    exact ⟨cs', h2⟩⟩
  obtain ⟨g, o, z, a1, a2, a3⟩ := hk.inp j hj
  refine ⟨g, o, z, a1, a2, (cell_set_ne ?_).trans a3⟩
  have := hk.mB
  omega
end
end Go.Proofs.YtahljbkaemhpcaaGreat
/- A program is made: from its arguments' numbers to its functions. -/
namespace Go.Proofs.YtahljbkaemhpcaaGreat
open Go.RowKit
set_option linter.unusedVariables false
theorem make_funcs (n : Nat) (hn : n ≤ 4) : ∃ Z : Array Value, Z.size = n ∧ (∀ v ∈ Z, v = .slice none 0 0) ∧ ∀ u : World, (Instr.makeSlice 25 (.int .i64 (n : Int)) (.int .i64 (n : Int))).run Tryz.prog u = .ok (.slice (some ⟨u.heap.size, 0, none⟩) n n) (u.alloc (.cells Z 34)) := by
  obtain ⟨ti, hti, hz, hs, hb⟩ := info_parts (show (Tryz.prog.info? 34).map (fun i => (i.zero, i.size, i.bytes)) = some (some (.agg #[.slice none 0 0]), 1, 24) by kernel_rfl)
  refine ⟨madeCells (Value.agg #[.slice none 0 0]).cells ((n : Int).toNat * ti.size), ?_, ?_, fun u => ?_⟩
  · simp [madeCells, hs]
  · intro v hv
    simp [madeCells, hs, Value.cells] at hv
    obtain ⟨i, hi, rfl⟩ := hv
    simp [Nat.mod_one]
  · have h := run_makeSlice (P := Tryz.prog) (w := u) 25 34 ti (.agg #[.slice none 0 0]) (by kernel_rfl) hti hz .i64 .i64 (n : Int) (n : Int) (by omega) (by omega) (by rw [hs]; omega) (by rw [hb]; omega) (by omega)
    simpa using h
def mk0 (As : Option Addr) (len cap at_ : Nat) : Mk := ⟨As, len, cap, at_, .slice none 0 0, 0, 0, .slice none 0 0, 0, 0, []⟩
theorem MS.start {B K K' R : Nat} {w0 wx : World} {As : Option Addr} {len cap at_ gA n ca : Nat} {Z : Array Value} (h : PS B K w0 R As len cap at_ (some ⟨gA, 0, none⟩) n ca wx) (hRw : R = w0.heap.size) (hn0 : 0 < n) (hn4 : n ≤ 4) (hl : len ≤ 9223372036854775807) (hat : at_ ≤ K') (hK : K ≤ K') (hK' : K' ≤ big) (h4 : 4 ≤ K') (hZ1 : Z.size = n) (hZ2 : ∀ v ∈ Z, v = .slice none 0 0) :
    wx.heap[R + 3]? = some (.cells (pc none 0 0 (some ⟨gA, 0, none⟩) n ca 0 (-1) (some ⟨R + 4, 0, none⟩) 3 3 (some ⟨R + 2, 0, none⟩) 1 1) 29 (0, 0)) ∧
      MS B K' w0 R wx.heap.size gA ca n 0 (-1) (mk0 As len cap at_) ((wx.alloc (.cells Z 34)).setCell ⟨R + 3, 0, none⟩ (.slice (some ⟨wx.heap.size, 0, none⟩) n n)) := by
  have hR : R + 5 < wx.heap.size := heap_lt h.bm
  have sh1 : Shape wx (wx.alloc (.cells Z 34)) := (Shape.refl _).alloc _
  have up : ∀ (g : Nat) (ob : Obj), wx.heap[g]? = some ob → (wx.alloc (.cells Z 34)).heap[g]? = some ob := fun g ob hg => (Below.heap_alloc wx _ g (heap_lt hg)).trans hg
  have e3 := up _ _ h.bp
  have set : ∀ (g : Nat) (ob : Obj), g ≠ R + 3 → (wx.alloc (.cells Z 34)).heap[g]? = some ob → ((wx.alloc (.cells Z 34)).setCell ⟨R + 3, 0, none⟩ (.slice (some ⟨wx.heap.size, 0, none⟩) n n)).heap[g]? = some ob := fun g ob hg hh => by rw [Eng.setCell_other hg]; exact hh
  have shs : Shape (wx.alloc (.cells Z 34)) ((wx.alloc (.cells Z 34)).setCell ⟨R + 3, 0, none⟩ (.slice (some ⟨wx.heap.size, 0, none⟩) n n)) := (Shape.refl _).setCell _ rfl _
  have hsh := sh1.trans shs
  obtain ⟨s, hs⟩ := h.bs
  obtain ⟨csA, hA, hBA⟩ := h.ta.own (g := gA) rfl
  have hA3 : gA ≠ R + 3 := by
    rintro rfl
    rw [h.bp] at hA; cases hA
  have hA5 : R + 5 ≠ gA := by
    rintro e
    rw [← e, h.bm] at hA; cases hA
  have hoB := h.oB
  have w1 := (h.wt.alloc Z 34 (fun j ck hl v hv => by
    cases hl
    have := hZ2 v (Array.mem_of_getElem? hv)
    subst this
    exact fits_nil ..)).more hK
  have w2 : WT B K' ((wx.alloc (.cells Z 34)).setCell ⟨R + 3, 0, none⟩ (.slice (some ⟨wx.heap.size, 0, none⟩) n n)) := w1.setCell _ _ _ fun cs e fr hg ck hl => (by rw [e3] at hg; cases hg; cases hl)
  have hbel : Below R w0 ((wx.alloc (.cells Z 34)).setCell ⟨R + 3, 0, none⟩ (.slice (some ⟨wx.heap.size, 0, none⟩) n n)) := (h.bel.alloc (by omega) _).setCell (Nat.le_add_right _ 3) _
  refine ⟨h.bp, ⟨⟨set _ _ (by show R + 5 ≠ R + 3; omega) (up _ _ h.bm), by show B ≤ R + 5; omega, fun j hj => ?_, hl, hat, Nat.zero_le _, by show -((K' : Nat) : Int) ≤ 0; omega, by show (0 : Int) ≤ (K' : Int); omega, nilV _ _ _ _ _, fun j n hj => (by simp [mk0] at hj), nilV _ _ _ _ _, (by show Value.ownBlock (.slice none 0 0) ≠ _; rw [own_none]; simp), w2, by rw [Eng.setCell_size]; show B ≤ _; simp; omega, hK', by rw [Eng.setCell_size]; show gA < _; have := heap_lt hA; simp; omega, hA5, ⟨csA, set _ _ hA3 (up _ _ hA)⟩⟩,
    set _ _ (by omega) (up _ _ h.b0), by rw [Eng.setCell_blk e3]; rfl, ⟨csA, set _ _ hA3 (up _ _ hA), fun j hj => ?_⟩, set _ _ (by omega) (up _ _ h.bd), ⟨_, set _ _ (by omega) (up _ _ hs), by simp⟩, ⟨Z, set _ _ (by omega) (heap_alloc_new wx _), by omega⟩, (h.ta.on hsh hK), hbel.mono hoB, hRw ▸ shape_below (hRw ▸ hbel), hoB, by omega, hn4⟩⟩
  · obtain ⟨g, o, z, e, a2, a3⟩ := h.inp j hj
    refine ⟨g, o, z, e, a2, ?_⟩
    rw [cell_set_ne (by omega), cell_alloc (cell_lt a3)]
    exact a3
  · obtain ⟨g, a, e, a2, a3⟩ := h.args j hj
    cases e
    exact ⟨a, a2, by rw [← cell_of hA]; exact a3⟩
end Go.Proofs.YtahljbkaemhpcaaGreat
/- A program is made: its handler. -/
namespace Go.Proofs.YtahljbkaemhpcaaGreat
open Go.RowKit
set_option linter.unusedVariables false
section
variable {B K R Fb gA ca n me : Nat} {h : Int} {w0 wx w' : World} {d d' : Mk}
theorem MK.setH {z : Int} (hk : MK (cx B R gA n me h) K wx d) : MK (cx B R gA n me z) K wx d := ⟨hk.blk, hk.mB, hk.inp, hk.sl, hk.at_, hk.next, hk.left0, hk.left1, hk.bls, hk.pls, hk.vals, hk.vpa, hk.wt, hk.size, hk.K, hk.paLt, hk.paNe, hk.paT⟩
theorem MS.setH {z : Int} (s : MS B K w0 R Fb gA ca n me h d wx) : MS B K w0 R Fb gA ca n me z d (wx.setCell ⟨R + 3, 3, none⟩ (.int .i64 z)) := by
  obtain ⟨cs, h1, h2⟩ := s.args
  obtain ⟨cs2, h3, h3'⟩ := s.bs
  obtain ⟨cs3, h4, h4'⟩ := s.bf
  have hb := s.bp
  have hoB := s.oB
  have ne : ∀ (g : Nat) (cs : Array Value) (e : TypeId), wx.heap[g]? = some (.cells cs e (0, 0)) → e ≠ 29 → (wx.setCell ⟨R + 3, 3, none⟩ (.int .i64 z)).heap[g]? = some (.cells cs e (0, 0)) := fun g cs e hg he => Keeps.set hb he g cs _ hg
  have shx : Shape wx (wx.setCell ⟨R + 3, 3, none⟩ (.int .i64 z)) := (Shape.refl _).setCell _ rfl _
  have hwt : WT B K (wx.setCell ⟨R + 3, 3, none⟩ (.int .i64 z)) := s.mkr.wt.setCell _ _ _ fun cs e fr hg ck hl => (by rw [hb] at hg; cases hg; cases hl)
  have hmk := s.mkr.setFar (g0 := R + 3) (o := 3) (v := .int .i64 z) (by show R + 3 ≠ R + 5; omega) (by show B ≤ R + 3; omega) (fun cs fr => .inl (by rw [hb]; simp)) hwt
  exact ⟨hmk.setH, by rw [Eng.setCell_other (by omega)]; exact s.b0, by rw [Eng.setCell_blk hb]; rfl, ⟨cs, ne _ _ _ h1 (by decide), h2⟩, ne _ _ _ s.bd (by decide), ⟨cs2, ne _ _ _ h3 (by decide), h3'⟩, ⟨cs3, ne _ _ _ h4 (by decide), h4'⟩, s.ta.on shx (Nat.le_refl _), s.bel.setCell (show B ≤ R + 3 by omega) _, s.sh.trans shx, s.oB, s.oF, s.n4⟩
theorem MS.more {K' : Nat} (s : MS B K w0 R Fb gA ca n me h d wx) (hK : K ≤ K') (hK' : K' ≤ big) : MS B K' w0 R Fb gA ca n me h d wx := s.on (s.mkr.more hK hK') (Fr.refl _ _) hK
theorem take_ms (s : MS B K w0 R Fb gA ca n me h d wx) (hK : K + 1 ≤ big) (m : Int) (h0 : 0 < m) (h1 : m ≤ 1099511627776) : Calls Tryz.prog 12 #[.pointer (some ⟨R + 5, 0, none⟩), .int .i64 m] wx (fun e w' => ∃ r : Int, 0 ≤ r ∧ r < m ∧ e = .returned (.int .i64 r) ∧ MS B (K + 1) w0 R Fb gA ca n me h { d with at_ := d.at_ + 1 } w') := by
  refine (take_mk s.mkr hK m h0 h1).mono ?_
  rintro e w' ⟨r, a, b, rfl, hk, hf⟩
  exact ⟨r, a, b, rfl, s.on hk hf (Nat.le_succ K)⟩
theorem MS.cells (s : MS B K w0 R Fb gA ca n me h d wx) : wx.cell? ⟨R + 3, 0, none⟩ = some (.slice (some ⟨Fb, 0, none⟩) n n) ∧ wx.cell? ⟨R + 3, 1, none⟩ = some (.slice (some ⟨gA, 0, none⟩) n ca) ∧ wx.cell? ⟨R + 3, 3, none⟩ = some (.int .i64 h) ∧ (∀ i, wx.frozen? ⟨R + 3, i, none⟩ = false) ∧ ∀ j, j < n → ∃ a : Nat, a ≤ 3 ∧ wx.cell? ⟨gA, j, none⟩ = some (.int .i64 a) := by
  obtain ⟨cs, h1, h2⟩ := s.args
  refine ⟨cell_of s.bp, cell_of s.bp, cell_of s.bp, fun i => free_of s.bp, fun j hj => ?_⟩
  obtain ⟨a, h3, h4⟩ := h2 j hj
  exact ⟨a, h3, (cell_of h1).trans h4⟩
/-- A function's first numbers are laid down. -/
theorem MS.reset {r : Nat} (s : MS B K w0 R Fb gA ca n me h d wx) (hr : r ≤ K) (hK : 6 ≤ K) : MS B K w0 R Fb gA ca n me h { d with next := r, vals := .slice none 0 0, nv := 0, left := 6 } (((wx.setCell ⟨R + 5, 6, none⟩ (.int .i64 (r : Int))).setCell ⟨R + 5, 7, none⟩ (.slice none 0 0)).setCell ⟨R + 5, 8, none⟩ (.int .i64 6)) := by
  have m1 := s.mkr.setM (i := 6) (v := .int .i64 (r : Int)) (d' := { d with next := r }) (by simp [mkCells]) rfl rfl s.mkr.at_ hr s.mkr.left0 s.mkr.left1 rfl rfl s.mkr.vals s.mkr.vpa
  have s1 := s.setM m1
  have m2 := s1.mkr.setM (i := 7) (v := .slice none 0 0) (d' := { d with next := r, vals := .slice none 0 0, nv := 0 }) (by simp [mkCells]) rfl rfl s1.mkr.at_ s1.mkr.next s1.mkr.left0 s1.mkr.left1 rfl rfl (nilV _ _ _ _ _) (by rw [own_none]; simp)
  have s2 := s1.setM m2
  have m3 := s2.mkr.setM (i := 8) (v := .int .i64 6) (d' := { d with next := r, vals := .slice none 0 0, nv := 0, left := 6 }) (by simp [mkCells]) rfl rfl s2.mkr.at_ s2.mkr.next (by show -(K : Int) ≤ 6; omega) (by show (6 : Int) ≤ K; omega) rfl rfl (nilV _ _ _ _ _) (by rw [own_none]; simp)
  exact s2.setM m3
theorem MK.appNil {c : Cx} {w9 : World} {x v : Value} {a : Nat} (hk : MK c K wx d) (ha : App c.B K wx w9 3 1 (.slice none 0 0) x 0 a v) : MK c K w9 d ∧ Fr c wx w9 := by
  have hb := ha.belowNil
  refine ⟨hk.on (hb.block _ (heap_lt hk.blk)) (hb.mono hk.size) ha.shape ha.wt (Nat.le_refl _) hk.K (fun g cc j hbl hj => ?_), ⟨hb.mono hk.size, ha.shape, fun g cs e fr hg _ _ _ _ => (hb.block g (heap_lt hg)).trans hg, fun hp => hb.block _ hp⟩⟩
  obtain ⟨cs, h1, _⟩ := hk.blLt hbl
  exact hb.cell (p := ⟨g, j * 5, none⟩) (heap_lt h1)
/-- The first block's parameters. -/
theorem MK.firstParams {c : Cx} {a : Nat} (hk : MK c K wx d) (hp : d.PL = [a]) : ∃ (gB cB : Nat) (AP : Option Addr) (kP : Nat), d.bl = .slice (some ⟨gB, 0, none⟩) 1 cB ∧ wx.cell? ⟨gB, 0, none⟩ = some (.slice AP a kP) ∧ SlV c.B K wx 3 1 (.slice AP a kP) a := by
  obtain ⟨g, cc, v, e1, e2, e3⟩ := hk.pls 0 a (by rw [hp]; rfl)
  obtain ⟨AP, kP, rfl⟩ := e3.form
  rw [hp] at e1
  exact ⟨g, cc, AP, kP, e1, by simpa using e2, e3⟩
theorem MS.drew (s : MS B K w0 R Fb gA ca n me h d wx) : MS B K w0 R Fb gA ca n me h d wx.drew := s.on s.mkr.drew (Fr.refl _ _).drew (Nat.le_refl _)
theorem zeroAdd_own {w1 w2 : World} {e sz m : Nat} {x v : Value} (ha : App B K w1 w2 e sz (.slice none 0 0) x 0 m v) : ∃ A9 c9, v = .slice A9 m c9 ∧ SlV B K w2 e sz (.slice A9 m c9) m ∧ ∀ g, Value.ownBlock (.slice A9 m c9) = some g → g = w1.heap.size := by
  obtain ⟨A9, c9, rfl, sv⟩ := zeroAdd_app ha
  refine ⟨A9, c9, rfl, sv, fun g hg => ?_⟩
  rcases ha.home with e | e
  · rw [e, own_none] at hg; cases hg
  · rw [e] at hg; cases hg; rfl
end
end Go.Proofs.YtahljbkaemhpcaaGreat
namespace Go.Proofs.YtahljbkaemhpcaaGreat
open Go.RowKit
set_option linter.unusedVariables false
section
variable {B K R Fb gA ca n me : Nat} {h : Int} {w0 wx w' : World} {d d' : Mk}
theorem MS.setFn {j m : Nat} {v : Value} (s : MS B K w0 R Fb gA ca n me h d wx) (hv : SlV B K wx 46 5 v m) : MS B K w0 R Fb gA ca n me h d (wx.setCell ⟨Fb, j, none⟩ v) := by
  obtain ⟨cs, h1, h2⟩ := s.args
  obtain ⟨cs2, h3, h3'⟩ := s.bs
  obtain ⟨cs3, hb, h4'⟩ := s.bf
  have ne : ∀ (g : Nat) (cs : Array Value) (e : TypeId), wx.heap[g]? = some (.cells cs e (0, 0)) → e ≠ 34 → (wx.setCell ⟨Fb, j, none⟩ v).heap[g]? = some (.cells cs e (0, 0)) := fun g cs e hg he => Keeps.set hb he g cs _ hg
  have shx : Shape wx (wx.setCell ⟨Fb, j, none⟩ v) := (Shape.refl _).setCell _ rfl _
  have hm : Fb ≠ R + 5 := by
    rintro rfl
    have := s.mkr.blk
    have h5 : wx.heap[R + 5]? = _ := this
    rw [hb] at h5; cases h5
  have hwt : WT B K (wx.setCell ⟨Fb, j, none⟩ v) := s.mkr.wt.setCell _ _ _ fun cs e fr hg ck hl => (by
    rw [hb] at hg; cases hg
    cases hl
    exact ⟨m, hv⟩)
  have hmk := s.mkr.setFar (g0 := Fb) (o := j) (v := v) hm s.oF (fun cs fr => .inl (by rw [hb]; simp)) hwt
  exact ⟨hmk, ne _ _ _ s.b0 (by decide), ne _ _ _ s.bp (by decide), ⟨cs, ne _ _ _ h1 (by decide), h2⟩, ne _ _ _ s.bd (by decide), ⟨cs2, ne _ _ _ h3 (by decide), h3'⟩, ⟨_, Eng.setCell_blk hb, by rw [Array.size_setIfInBounds]; exact h4'⟩, s.ta.on shx (Nat.le_refl _), s.bel.setCell s.oF _, s.sh.trans shx, s.oB, s.oF, s.n4⟩
theorem MS.fields (s : MS B K w0 R Fb gA ca n me h d wx) (h4 : 4 ≤ K) : TP B K wx (some ⟨Fb, 0, none⟩) n n (some ⟨gA, 0, none⟩) n ca (some ⟨R + 4, 0, none⟩) 3 3 (some ⟨R + 2, 0, none⟩) 1 1 := by
  obtain ⟨cs2, h3, h3'⟩ := s.bs
  obtain ⟨cs3, hb, h4'⟩ := s.bf
  have hoB := s.oB
  have hn4 := s.n4
  exact ⟨⟨by omega, .inr ⟨Fb, n, cs3, rfl, s.oF, Nat.le_refl _, hb, by omega⟩⟩, s.ta, ⟨by omega, .inr ⟨R + 4, 3, _, rfl, by omega, Nat.le_refl _, s.bd, by decide⟩⟩, ⟨by omega, .inr ⟨R + 2, 1, cs2, rfl, by omega, Nat.le_refl _, h3, by omega⟩⟩⟩
theorem MS.func (s : MS B K w0 R Fb gA ca n me h d wx) (j : Nat) : wx.frozen? ⟨Fb, j, none⟩ = false ∧ (j < n → ∃ v, wx.cell? ⟨Fb, j, none⟩ = some v) := by
  obtain ⟨cs3, hb, h4'⟩ := s.bf
  refine ⟨free_of hb, fun hj => ?_⟩
  have : j < cs3.size := by omega
  exact ⟨cs3[j], by rw [cell_of hb, Array.getElem?_eq_getElem this]⟩
/-- The box of a terminator, while the maker's state is kept. -/
theorem MS.box {cs : Array Value} (s : MS B K w0 R Fb gA ca n me h d wx) : MS B K w0 R Fb gA ca n me h d (wx.alloc (.cells cs 44)) ∧ (wx.alloc (.cells cs 44)).heap[wx.heap.size]? = some (.cells cs 44 (0, 0)) := by
  obtain ⟨a1, a2, a3⟩ := afterT (cs := cs) s.mkr (Fr.refl _ wx)
  exact ⟨s.on a1 a2 (Nat.le_refl _), a3⟩
theorem MS.setBox {g i : Nat} {cs : Array Value} {v : Value} (s : MS B K w0 R Fb gA ca n me h d wx) (hg : wx.heap[g]? = some (.cells cs 44 (0, 0))) (hB : B ≤ g) : MS B K w0 R Fb gA ca n me h d (wx.setCell ⟨g, i, none⟩ v) ∧ (wx.setCell ⟨g, i, none⟩ v).heap[g]? = some (.cells (cs.setIfInBounds i v) 44 (0, 0)) := by
  obtain ⟨cs1, h1, h2⟩ := s.args
  obtain ⟨cs2, h3, h3'⟩ := s.bs
  obtain ⟨cs3, hb, h4'⟩ := s.bf
  have ne : ∀ (g' : Nat) (cs : Array Value) (e : TypeId), wx.heap[g']? = some (.cells cs e (0, 0)) → e ≠ 44 → (wx.setCell ⟨g, i, none⟩ v).heap[g']? = some (.cells cs e (0, 0)) := fun g' cs e hg' he => Keeps.set hg he g' cs _ hg'
  have shx : Shape wx (wx.setCell ⟨g, i, none⟩ v) := (Shape.refl _).setCell _ rfl _
  exact ⟨⟨s.mkr.setLoose hg (by decide) hB (s.mkr.notBl hg (by decide)) (fun ck hl => by cases hl), ne _ _ _ s.b0 (by decide), ne _ _ _ s.bp (by decide), ⟨cs1, ne _ _ _ h1 (by decide), h2⟩, ne _ _ _ s.bd (by decide), ⟨cs2, ne _ _ _ h3 (by decide), h3'⟩, ⟨cs3, ne _ _ _ hb (by decide), h4'⟩, s.ta.on shx (Nat.le_refl _), s.bel.setCell hB _, s.sh.trans shx, s.oB, s.oF, s.n4⟩, Eng.setCell_blk hg⟩
/-- A number is taken while a terminator's box stands. -/
theorem take_box {g : Nat} {cs : Array Value} (s : MS B K w0 R Fb gA ca n me h d wx) (hg : wx.heap[g]? = some (.cells cs 44 (0, 0))) (hK : K + 1 ≤ big) (m : Int) (h0 : 0 < m) (h1 : m ≤ 1099511627776) : Calls Tryz.prog 12 #[.pointer (some ⟨R + 5, 0, none⟩), .int .i64 m] wx (fun e w' => ∃ r : Int, 0 ≤ r ∧ r < m ∧ e = .returned (.int .i64 r) ∧ MS B (K + 1) w0 R Fb gA ca n me h { d with at_ := d.at_ + 1 } w' ∧ w'.heap[g]? = some (.cells cs 44 (0, 0))) := by
  refine (take_mk s.mkr hK m h0 h1).mono ?_
  rintro e w' ⟨r, a, b, rfl, hk, hf⟩
  exact ⟨r, a, b, rfl, s.on hk hf (Nat.le_succ K), hf.far _ _ _ _ hg (by decide) (by decide) (by decide) (by decide)⟩
/-- A number is chosen while a terminator's box stands. -/
theorem any_box {g : Nat} {cs : Array Value} (s : MS B K w0 R Fb gA ca n me h d wx) (hg : wx.heap[g]? = some (.cells cs 44 (0, 0))) (hK : K + 4 ≤ big) (hcur : d.cur < d.PL.length) : Calls Tryz.prog 15 #[.pointer (some ⟨R + 5, 0, none⟩)] wx (fun e w' => ∃ (r : Int) (d' : Mk), e = .returned (.int .i64 r) ∧ MS B (K + 4) w0 R Fb gA ca n me h d' w' ∧ d'.cur < d'.PL.length ∧ w'.heap[g]? = some (.cells cs 44 (0, 0))) := by
  refine (any_st (cx B R gA n me h) wx wx d K (St.start s.mkr) hK hcur).mono ?_
  rintro e w' ⟨r, rfl, d', hk, hf, hs⟩
  exact ⟨r, d', rfl, s.on hk hf (by omega), by rw [hs.1, hs.2.1]; exact hcur, hf.far _ _ _ _ hg (by decide) (by decide) (by decide) (by decide)⟩
/-- A terminator is laid down. -/
theorem end_ms (s : MS B K w0 R Fb gA ca n me h d wx) (hcur : d.cur < d.PL.length) (z0 z1 : Int) : Calls Tryz.prog 16 #[.pointer (some ⟨R + 5, 0, none⟩), .agg #[.int .i64 z0, .int .i64 z1, .slice none 0 0]] wx (fun e w' => e = .returned (.tuple #[]) ∧ MS B K w0 R Fb gA ca n me h d w') := by
  refine (end_mk (cx B R gA n me h) K wx d s.mkr hcur z0 z1 none 0 0 (nilV _ _ _ _ _)).mono ?_
  rintro e w' ⟨rfl, hk, hf⟩
  exact ⟨rfl, s.on hk hf (Nat.le_refl _)⟩
end
end Go.Proofs.YtahljbkaemhpcaaGreat
