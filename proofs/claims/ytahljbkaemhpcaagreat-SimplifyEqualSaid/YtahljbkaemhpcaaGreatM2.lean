/- The maker's state, and what keeps it. -/
import Derived.Test.YtahljbkaemhpcaaGreatT3
/- What the fields of an operation mean: Shape. -/
namespace Go.Proofs.YtahljbkaemhpcaaGreat
open Go.RowKit
set_option linter.unusedVariables false
def Shaped (w : World) (e : Ending) (w' : World) : Prop := ∃ b0 b1 b2 b3 b4 : Bool, e = .returned (.agg #[.bool b0, .bool b1, .bool b2, .bool b3, .bool b4]) ∧ w' = w.alloc (.cells #[.bool b0, .bool b1, .bool b2, .bool b3, .bool b4] 150)
set_option maxRecDepth 100000 in
set_option maxHeartbeats 4000000 in
theorem shape_any (w : World) (z : Int) : Calls Tryz.prog 118 #[.int .i64 z] w (Shaped w) := by
  go_enter Tryz.func118, Tryz.ntmps118
  go_wp2
  all_goals first
    | exact bodyPost_ret (v := .agg #[.bool true, .bool true, .bool false, .bool false, .bool true]) (by simp [results, Tryz.results118, go_sem]; done) rfl ⟨true, true, false, false, true, rfl, rfl⟩
    | exact bodyPost_ret (v := .agg #[.bool true, .bool true, .bool true, .bool false, .bool false]) (by simp [results, Tryz.results118, go_sem]; done) rfl ⟨true, true, true, false, false, rfl, rfl⟩
    | exact bodyPost_ret (v := .agg #[.bool true, .bool false, .bool true, .bool true, .bool false]) (by simp [results, Tryz.results118, go_sem]; done) rfl ⟨true, false, true, true, false, rfl, rfl⟩
    | exact bodyPost_ret (v := .agg #[.bool true, .bool true, .bool true, .bool false, .bool true]) (by simp [results, Tryz.results118, go_sem]; done) rfl ⟨true, true, true, false, true, rfl, rfl⟩
    | exact bodyPost_ret (v := .agg #[.bool true, .bool false, .bool true, .bool false, .bool true]) (by simp [results, Tryz.results118, go_sem]; done) rfl ⟨true, false, true, false, true, rfl, rfl⟩
    | exact bodyPost_ret (v := .agg #[.bool true, .bool false, .bool false, .bool false, .bool false]) (by simp [results, Tryz.results118, go_sem]; done) rfl ⟨true, false, false, false, false, rfl, rfl⟩
    | exact bodyPost_ret (v := .agg #[.bool true, .bool true, .bool true, .bool true, .bool false]) (by simp [results, Tryz.results118, go_sem]; done) rfl ⟨true, true, true, true, false, rfl, rfl⟩
    | exact bodyPost_ret (v := .agg #[.bool false, .bool false, .bool false, .bool false, .bool false]) (by simp [results, Tryz.results118, go_sem]; done) rfl ⟨false, false, false, false, false, rfl, rfl⟩
end Go.Proofs.YtahljbkaemhpcaaGreat
/- The small functions of the maker: take, fresh. -/
namespace Go.Proofs.YtahljbkaemhpcaaGreat
open Go.RowKit
set_option linter.unusedVariables false
theorem take_val (z n : Int) (h0 : 0 < n) (h1 : n ≤ 1099511627776) : 0 ≤ (wrap64 (z.tmod n + n)).tmod n ∧ (wrap64 (z.tmod n + n)).tmod n < n := by
  have a1 : z.tmod n < n := Int.tmod_lt_of_pos z h0
  have a2 : (-z).tmod n < n := Int.tmod_lt_of_pos (-z) h0
  rw [Int.neg_tmod] at a2
  have e : wrap64 (z.tmod n + n) = z.tmod n + n := by
    generalize z.tmod n = y at a1 a2
    unfold wrap64; omega
  rw [e]
  exact ⟨Int.tmod_nonneg _ (by omega), Int.tmod_lt_of_pos _ h0⟩
def Took (n : Int) (w : World) (m at_ : Nat) (e : Ending) (w' : World) : Prop := ∃ (r : Int) (k : Nat), 0 ≤ r ∧ r < n ∧ e = .returned (.int .i64 r) ∧ w' = (w.drewN k).setCell ⟨m, 1, none⟩ (.int .i64 (at_ + 1))
set_option maxHeartbeats 400000 in
theorem take_end (w : World) (m : Nat) (sa : Option Addr) (len cap at_ : Nat) (n : Int)
  (hs : w.cell? ⟨m, 0, none⟩ = some (.slice sa len cap))
  (ha : w.cell? ⟨m, 1, none⟩ = some (.int .i64 at_)) (hf : w.frozen? ⟨m, 1, none⟩ = false)
  (hlt : len ≤ at_) (hle : at_ ≤ 1099511627776) (hn0 : 0 < n) (hn : n ≤ 1099511627776) :
    Calls Tryz.prog 12 #[.pointer (some ⟨m, 0, none⟩), .int .i64 n] w (Took n w m at_) := by
  have hd : ¬ at_ < len := by omega
  go_enter Tryz.func12, Tryz.ntmps12
  go_wp2
  go_quiet (fail)
  go_wp2
  go_ret
  exact ⟨0, nq, by omega, by omega, rfl, rfl⟩
set_option maxHeartbeats 1000000 in
theorem take_in (w : World) (m : Nat) (g o len cap at_ : Nat) (z n : Int)
  (hs : w.cell? ⟨m, 0, none⟩ = some (.slice (some ⟨g, o, none⟩) len cap))
  (ha : w.cell? ⟨m, 1, none⟩ = some (.int .i64 at_)) (hf : w.frozen? ⟨m, 1, none⟩ = false) (hz : w.cell? ⟨g, o + at_, none⟩ = some (.int .i64 z))
  (hlt : at_ < len) (hle : len ≤ 9223372036854775807) (hn0 : 0 < n) (hn : n ≤ 1099511627776) :
    Calls Tryz.prog 12 #[.pointer (some ⟨m, 0, none⟩), .int .i64 n] w (Took n w m at_) := by
  have hlt' : (at_ : Int) < (len : Int) := by omega
  have h0 : (0 : Int) ≤ (at_ : Int) := by omega
  have hn1 : n ≠ 0 := by omega
  go_enter Tryz.func12, Tryz.ntmps12
  go_wp2
  go_quiet (fail)
  go_wp2
  go_quiet (fail)
  go_wp2
  go_ret
  exact ⟨_, _, (take_val z n hn0 hn).1, (take_val z n hn0 hn).2, rfl, rfl⟩
set_option maxHeartbeats 400000 in
theorem fresh_any (w : World) (m : Nat) (next : Int) (h : w.cell? ⟨m, 6, none⟩ = some (.int .i64 next)) (hf : w.frozen? ⟨m, 6, none⟩ = false) (h0 : 0 ≤ next) (h1 : next ≤ 1099511627776) :
    Calls Tryz.prog 36 #[.pointer (some ⟨m, 0, none⟩)] w (fun e w' => e = .returned (.int .i64 next) ∧ w' = w.setCell ⟨m, 6, none⟩ (.int .i64 (next + 1))) := by
  go_enter Tryz.func36, Tryz.ntmps36
  go_wp2
  go_ret
  exact ⟨by simp, rfl⟩
end Go.Proofs.YtahljbkaemhpcaaGreat
namespace Go.Proofs.YtahljbkaemhpcaaGreat
open Go.RowKit
set_option linter.unusedVariables false
/-- What is fixed while a function is made. -/
structure Cx where
  B : Nat
  m : Nat
  p : Nat
  pa : Nat
  pd : Nat
  n : Nat
  me : Nat
  h : Int
/-- The maker's fields; PL: how many parameters each block has. -/
structure Mk where
  s : Option Addr
  sl : Nat
  sc : Nat
  at_ : Nat
  bl : Value
  cur : Nat
  next : Nat
  vals : Value
  nv : Nat
  left : Int
  PL : List Nat
def mkCells (c : Cx) (d : Mk) : Array Value := #[.slice d.s d.sl d.sc, .int .i64 d.at_, .pointer (some ⟨c.p, 0, none⟩), .int .i64 c.me, d.bl, .int .i64 d.cur, .int .i64 d.next, d.vals, .int .i64 d.left]
def big : Nat := 1073741824
structure MK (c : Cx) (K : Nat) (w : World) (d : Mk) : Prop where
  blk : w.heap[c.m]? = some (.cells (mkCells c d) 56 (0, 0))
  mB : c.B ≤ c.m
  inp : ∀ j, j < d.sl → ∃ (g o : Nat) (z : Int), d.s = some ⟨g, o, none⟩ ∧ g < c.B ∧ w.cell? ⟨g, o + j, none⟩ = some (.int .i64 z)
  sl : d.sl ≤ 9223372036854775807
  at_ : d.at_ ≤ K
  next : d.next ≤ K
  left0 : -(K : Int) ≤ d.left
  left1 : d.left ≤ K
  bls : SlV c.B K w 46 5 d.bl d.PL.length
  pls : ∀ j n, d.PL[j]? = some n → ∃ (g cc : Nat) (v : Value), d.bl = .slice (some ⟨g, 0, none⟩) d.PL.length cc ∧ w.cell? ⟨g, j * 5, none⟩ = some v ∧ SlV c.B K w 3 1 v n
  vals : SlV c.B K w 3 1 d.vals d.nv
  vpa : d.vals.ownBlock ≠ some c.pa
  wt : WT c.B K w
  size : c.B ≤ w.heap.size
  K : K ≤ big
  paLt : c.pa < w.heap.size
  paNe : c.m ≠ c.pa
  paT : ∃ cs, w.heap[c.pa]? = some (.cells cs 3 (0, 0))
/-- What a caller may rely on. -/
structure Fr (c : Cx) (w w' : World) : Prop where
  below : Below c.B w w'
  shape : Shape w w'
  far : ∀ (g : Nat) (cs : Array Value) (e : TypeId) (fr : Nat × Nat), w.heap[g]? = some (.cells cs e fr) → e ≠ 3 → e ≠ 40 → e ≠ 46 → e ≠ 56 → w'.heap[g]? = some (.cells cs e fr)
  pa : c.pa < w.heap.size → w'.heap[c.pa]? = w.heap[c.pa]?
section
variable {c : Cx} {K K' : Nat} {w w' w'' : World} {d d' : Mk}
theorem heap_lt {w : World} {g : Nat} {o : Obj} (h : w.heap[g]? = some o) : g < w.heap.size := by
  rcases Nat.lt_or_ge g w.heap.size with hlt | hge
  · exact hlt
  · rw [Array.getElem?_eq_none hge] at h; cases h
theorem Fr.refl (c : Cx) (w : World) : Fr c w w := ⟨Below.refl _ _, Shape.refl _, fun _ _ _ _ h _ _ _ _ => h, fun _ => rfl⟩
theorem Fr.trans (h : Fr c w w') (h' : Fr c w' w'') : Fr c w w'' :=
  ⟨h.below.trans h'.below, h.shape.trans h'.shape, fun g cs e fr hg a b c d => h'.far g cs e fr (h.far g cs e fr hg a b c d) a b c d, fun hp => (h'.pa (Nat.lt_of_lt_of_le hp h.below.size)).trans (h.pa hp)⟩
theorem Fr.drewN (h : Fr c w w') (n : Nat) : Fr c w (w'.drewN n) := ⟨bel_drewN h.below n, h.shape, h.far, h.pa⟩
theorem Fr.alloc (h : Fr c w w') (hB : c.B ≤ w'.heap.size) (o : Obj) : Fr c w (w'.alloc o) :=
  ⟨h.below.alloc hB o, h.shape.alloc o, fun g cs e fr hg a b c d => by
    have := h.far g cs e fr hg a b c d
    rw [Below.heap_alloc w' o g (heap_lt this)]; exact this, fun hp => (Below.heap_alloc w' o _ (Nat.lt_of_lt_of_le hp h.below.size)).trans (h.pa hp)⟩
/-- A store into a block that was not there, or into one of the types that the maker writes. -/
theorem Fr.setCell (h : Fr c w w') (g0 o : Nat) (v : Value) (hB : c.B ≤ g0) (hpa : g0 ≠ c.pa) (hg : w.heap.size ≤ g0 ∨ ∃ cs e fr, w'.heap[g0]? = some (.cells cs e fr) ∧ (e = 3 ∨ e = 40 ∨ e = 46 ∨ e = 56)) : Fr c w (w'.setCell ⟨g0, o, none⟩ v) :=
  ⟨h.below.setCell hB v, h.shape.setCell _ rfl v, fun g cs e fr hgg a b c' d => by
    have h1 := h.far g cs e fr hgg a b c' d
    have hne : g ≠ g0 := by
      rintro rfl
      rcases hg with h2 | ⟨cs', e', fr', h2, h3⟩
      · exact absurd (heap_lt hgg) (by omega)
      · rw [h1] at h2; cases h2; exact h3.elim a fun h3 => h3.elim b fun h3 => h3.elim c' d
    rw [Eng.setCell_other hne]; exact h1, fun hp => (Eng.setCell_other (fun e => hpa e.symm)).trans (h.pa hp)⟩
theorem Fr.app {e sz n m' : Nat} {s x v : Value} (h : Fr c w w') (ha : App c.B K w' w'' e sz s x n m' v) (he : (e = 3 ∨ e = 40 ∨ e = 46) ∨ ∀ g, s.ownBlock = some g → w.heap.size ≤ g) (hs : SlV c.B K' w' e sz s n) (hpa : s.ownBlock ≠ some c.pa) (hB : c.B ≤ w.heap.size) : Fr c w w'' := by
  have hsz := h.below.size
  refine ⟨⟨ha.os.trans h.below.os, ha.tape.trans h.below.tape, ha.out.trans h.below.output, Nat.le_trans hsz ha.size, fun k hk => ?_⟩, h.shape.trans ha.shape, fun g cs e' fr hg a b cc dd => ?_, fun hp => ?_⟩
  · have hne : s.ownBlock ≠ some k := by
      obtain ⟨_, ⟨rfl, _⟩ | ⟨g, c', cs, rfl, h1, _⟩⟩ := hs
      · rw [own_none]; simp
      · rw [own_some]; simp; omega
    exact (ha.far k (by omega) hne).trans (h.below.block k hk)
  · have h1 := h.far g cs e' fr hg a b cc dd
    have hlt := heap_lt hg
    have hne : s.ownBlock ≠ some g := by
      intro hs'
      obtain ⟨_, ⟨rfl, _⟩ | ⟨g', c', cs', rfl, h2, _, h3, _⟩⟩ := hs
      · rw [own_none] at hs'; cases hs'
      · rw [own_some] at hs'
        cases hs'
        rw [h1] at h3; cases h3
        rcases he with (rfl | rfl | rfl) | he
        · exact a rfl
        · exact b rfl
        · exact cc rfl
        · have := he g rfl; omega
    rw [ha.far g (heap_lt h1) hne]; exact h1
  · exact (ha.far _ (Nat.lt_of_lt_of_le hp hsz) hpa).trans (h.pa hp)
/-- The maker's state stands while its own block, the parameters' slices and the types stand. -/
theorem MK.on (h : MK c K w d) (hm : w'.heap[c.m]? = w.heap[c.m]?) (hb : Below c.B w w') (hs : Shape w w') (hw : WT c.B K' w') (hK : K ≤ K') (hK' : K' ≤ big)
    (hp : ∀ g cc j, d.bl = .slice (some ⟨g, 0, none⟩) d.PL.length cc → j < d.PL.length → w'.cell? ⟨g, j * 5, none⟩ = w.cell? ⟨g, j * 5, none⟩) : MK c K' w' d :=
  ⟨hm.trans h.blk, h.mB, fun j hj => by
    obtain ⟨g, o, z, h1, h2, h3⟩ := h.inp j hj
    exact ⟨g, o, z, h1, h2, (hb.cell (p := ⟨g, o + j, none⟩) h2).trans h3⟩, h.sl, by have := h.at_; omega, by have := h.next; omega, by have := h.left0; omega, by have := h.left1; omega, h.bls.on hs hK,
   fun j n hj => by
    obtain ⟨g, cc, v, h1, h2, h3⟩ := h.pls j n hj
    exact ⟨g, cc, v, h1, (hp g cc j h1 (List.getElem?_eq_some_iff.1 hj).1).trans h2, h3.on hs hK⟩, h.vals.on hs hK, h.vpa, hw, Nat.le_trans h.size hb.size, hK', Nat.lt_of_lt_of_le h.paLt hb.size, h.paNe, by
    obtain ⟨cs, h1⟩ := h.paT
    obtain ⟨cs', h2, _⟩ := hs _ _ _ _ h1
    exact ⟨cs', h2⟩⟩
theorem MK.drewN (h : MK c K w d) (n : Nat) : MK c K (w.drewN n) d :=
  ⟨h.blk, h.mB, h.inp, h.sl, h.at_, h.next, h.left0, h.left1, h.bls, h.pls, h.vals, h.vpa, h.wt, h.size, h.K, h.paLt, h.paNe, h.paT⟩
theorem MK.more (h : MK c K w d) (hK : K ≤ K') (hK' : K' ≤ big) : MK c K' w d := h.on rfl (Below.refl _ _) (Shape.refl _) (h.wt.more hK) hK hK' (fun _ _ _ _ _ => rfl)
theorem cell_alloc {w : World} {g j : Nat} {o : Obj} (h : g < w.heap.size) : (w.alloc o).cell? ⟨g, j, none⟩ = w.cell? ⟨g, j, none⟩ := World.cell?_alloc_lt w o ⟨g, j, none⟩ h
theorem MK.blLt (h : MK c K w d) {g cc n : Nat} (hb : d.bl = .slice (some ⟨g, 0, none⟩) n cc) : ∃ cs, w.heap[g]? = some (.cells cs 46 (0, 0)) ∧ c.B ≤ g ∧ n * 5 ≤ cs.size := by
  obtain ⟨_, ⟨h1, _⟩ | ⟨g', c', cs, h1, h2, h3, h4, h5⟩⟩ := h.bls
  · rw [h1] at hb; cases hb
  · rw [h1] at hb; cases hb; exact ⟨cs, h4, h2, by have := Nat.mul_le_mul_right 5 h3; omega⟩
theorem MK.alloc (h : MK c K w d) (o : Obj) (hw : WT c.B K (w.alloc o)) : MK c K (w.alloc o) d :=
  h.on (Below.heap_alloc w o _ (heap_lt h.blk)) ((Below.refl _ _).alloc h.size o) ((Shape.refl _).alloc o) hw (Nat.le_refl _) h.K fun g cc j hb _ => by
    obtain ⟨cs, h1, _⟩ := h.blLt hb
    exact cell_alloc (heap_lt h1)
theorem cell_set_ne {w : World} {g j g0 o : Nat} {v : Value} (h : g ≠ g0) : (w.setCell ⟨g0, o, none⟩ v).cell? ⟨g, j, none⟩ = w.cell? ⟨g, j, none⟩ :=
  World.cell?_setCell_other w _ _ v (fun e => h (by injection e with e1; exact e1.symm))
/-- A store into another block, of another type than a function's blocks. -/
theorem MK.setFar (h : MK c K w d) {g0 o : Nat} {v : Value} (hm : g0 ≠ c.m) (hB : c.B ≤ g0) (hg : ∀ cs fr, w.heap[g0]? ≠ some (.cells cs 46 fr) ∨ (∀ cc n, d.bl ≠ .slice (some ⟨g0, 0, none⟩) n cc)) (hw : WT c.B K (w.setCell ⟨g0, o, none⟩ v)) : MK c K (w.setCell ⟨g0, o, none⟩ v) d :=
  h.on (Eng.setCell_other hm.symm) ((Below.refl _ _).setCell hB v) ((Shape.refl _).setCell _ rfl v) hw (Nat.le_refl _) h.K fun g cc j hb _ => by
    obtain ⟨cs, h1, _⟩ := h.blLt hb
    refine cell_set_ne ?_
    rintro rfl
    rcases hg cs (0, 0) with h2 | h2
    · exact h2 h1
    · exact h2 _ _ hb
/-- A store into the maker. -/
theorem MK.setM (h : MK c K w d) {i : Nat} {v : Value} (hc : (mkCells c d).setIfInBounds i v = mkCells c d') (h1 : d'.s = d.s) (h2 : d'.sl = d.sl) (h3 : d'.at_ ≤ K) (h4 : d'.next ≤ K) (h5 : -(K : Int) ≤ d'.left) (h6 : d'.left ≤ K)
    (h7 : d'.bl = d.bl) (h8 : d'.PL = d.PL) (h9 : SlV c.B K w 3 1 d'.vals d'.nv) (h10 : d'.vals.ownBlock ≠ some c.pa) : MK c K (w.setCell ⟨c.m, i, none⟩ v) d' := by
  have hs : Shape w (w.setCell ⟨c.m, i, none⟩ v) := (Shape.refl _).setCell _ rfl v
  refine ⟨by rw [← hc]; exact Eng.setCell_blk h.blk, h.mB, fun j hj => ?_, by rw [h2]; exact h.sl, h3, h4, h5, h6, by rw [h7, h8]; exact h.bls.on hs (Nat.le_refl _), fun j n hj => ?_, h9.on hs (Nat.le_refl _), h10,
    h.wt.setCell _ _ _ fun cs e fr hg ck hl => ?_, by rw [Eng.setCell_size]; exact h.size, h.K, by rw [Eng.setCell_size]; exact h.paLt, h.paNe, by
    obtain ⟨cs, h1⟩ := h.paT
    obtain ⟨cs', h2, _⟩ := hs _ _ _ _ h1
    exact ⟨cs', h2⟩⟩
  · obtain ⟨g, o, z, a1, a2, a3⟩ := h.inp j (by rw [← h2]; exact hj)
    refine ⟨g, o, z, by rw [h1]; exact a1, a2, (cell_set_ne ?_).trans a3⟩
    have := h.mB; omega
  · rw [h8] at hj
    obtain ⟨g, cc, u, a1, a2, a3⟩ := h.pls j n hj
    refine ⟨g, cc, u, by rw [h7, h8]; exact a1, (cell_set_ne ?_).trans a2, a3.on hs (Nat.le_refl _)⟩
    rintro rfl
    obtain ⟨cs, b1, _⟩ := h.blLt a1
    rw [h.blk] at b1; cases b1
  · rw [h.blk] at hg; cases hg; cases hl
theorem MK.cell (h : MK c K w d) (i : Nat) : w.cell? ⟨c.m, i, none⟩ = (mkCells c d)[i]? := cell_of h.blk
theorem MK.free (h : MK c K w d) (i : Nat) : w.frozen? ⟨c.m, i, none⟩ = false := by simp [World.frozen?, h.blk]
end
end Go.Proofs.YtahljbkaemhpcaaGreat
