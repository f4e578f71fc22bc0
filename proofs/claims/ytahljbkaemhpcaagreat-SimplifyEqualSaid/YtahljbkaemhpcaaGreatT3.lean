/- append as an operation, at this program's types. -/
import Derived.Test.YtahljbkaemhpcaaGreatW3
import Derived.Test.YtahljbkaemhpcaaGreatE2
import Derived.RegionTactic
import Derived.Deep.RegionLaw
/- The heap that a call has made itself is well typed: what that means, and what keeps it. -/
namespace Go.Proofs.YtahljbkaemhpcaaGreat
open Go.RowKit
set_option linter.unusedVariables false
/-- What kind of value stands in a cell. -/
inductive CK where
  | num
  | word
  | str
  | sl (e : TypeId) (sz : Nat)
/-- The kind of a block's cell, by the block's type. -/
def layK (e j : Nat) : Option CK :=
  match e with
  | 3 => some .num
  | 34 => some (.sl 46 5)
  | 40 => match j % 6 with | 4 => some .word | 5 => some (.sl 3 1) | _ => some .num
  | 49 => match j % 2 with | 0 => some .num | _ => some (.sl 3 1)
  | 46 => match j % 5 with | 0 => some (.sl 3 1) | 1 => some (.sl 40 6) | 4 => some (.sl 49 2) | _ => some .num
  | 53 => match j % 3 with | 0 => some .num | _ => some .word
  | 9 => some .str
  | _ => none
def szK (e : Nat) : Nat := match e with | 40 => 6 | 49 => 2 | 46 => 5 | 53 => 3 | _ => 1
theorem layK_add (e j i : Nat) : layK e (i * szK e + j) = layK e j := by
  have h6 : (i * 6 + j) % 6 = j % 6 := by omega
  have h2 : (i * 2 + j) % 2 = j % 2 := by omega
  have h5 : (i * 5 + j) % 5 = j % 5 := by omega
  have h3 : (i * 3 + j) % 3 = j % 3 := by omega
  unfold layK
  split <;> first | rfl | skip
  · show (match (i * 6 + j) % 6 with | 4 => _ | 5 => _ | _ => _) = _
    rw [h6]
  · show (match (i * 2 + j) % 2 with | 0 => _ | _ => _) = _
    rw [h2]
  · show (match (i * 5 + j) % 5 with | 0 => _ | 1 => _ | 4 => _ | _ => _) = _
    rw [h5]
  · show (match (i * 3 + j) % 3 with | 0 => _ | _ => _) = _
    rw [h3]
/-- A slice of the call's own: n elements of type e. -/
def SlV (B K : Nat) (w : World) (e sz : Nat) (v : Value) (n : Nat) : Prop :=
  n ≤ K ∧ ((v = .slice none 0 0 ∧ n = 0) ∨ ∃ (g c : Nat) (cs : Array Value), v = .slice (some ⟨g, 0, none⟩) n c ∧ B ≤ g ∧ n ≤ c ∧ w.heap[g]? = some (.cells cs e (0, 0)) ∧ c * sz ≤ cs.size)
def Fits (B K : Nat) (w : World) : CK → Value → Prop
  | .num, v => ∃ z, v = .int .i64 z
  | .word, v => ∃ z, v = .int .u16 z
  | .str, v => ∃ s, v = .string s
  | .sl e sz, v => ∃ n, SlV B K w e sz v n
/-- Every block from B on that is of a type that we follow is well typed. -/
def WT (B K : Nat) (w : World) : Prop :=
  ∀ (g : Nat) (cs : Array Value) (e : TypeId) (fr : Nat × Nat), B ≤ g → w.heap[g]? = some (.cells cs e fr) → ∀ j ck, layK e j = some ck → fr = (0, 0) ∧ ∀ v, cs[j]? = some v → Fits B K w ck v
/-- Blocks keep their types and their sizes. -/
def Shape (w w' : World) : Prop := ∀ (g : Nat) (cs : Array Value) (e : TypeId) (fr : Nat × Nat), w.heap[g]? = some (.cells cs e fr) → ∃ cs', w'.heap[g]? = some (.cells cs' e fr) ∧ cs'.size = cs.size
section
variable {B K K' : Nat} {w w' w'' : World}
theorem Shape.refl (w : World) : Shape w w := fun _ cs _ _ h => ⟨cs, h, rfl⟩
theorem Shape.trans (h : Shape w w') (h' : Shape w' w'') : Shape w w'' := fun g cs e fr hg => by
  obtain ⟨cs1, h1, h2⟩ := h g cs e fr hg
  obtain ⟨cs2, h3, h4⟩ := h' g cs1 e fr h1
  exact ⟨cs2, h3, h4.trans h2⟩
theorem Shape.of_same (h : ∀ g, g < w.heap.size → w'.heap[g]? = w.heap[g]?) : Shape w w' := fun g cs e fr hg => by
  have hlt : g < w.heap.size := by
    rcases Nat.lt_or_ge g w.heap.size with hlt | hge
    · exact hlt
    · rw [Array.getElem?_eq_none hge] at hg; cases hg
  exact ⟨cs, (h g hlt).trans hg, rfl⟩
theorem Shape.drewN (h : Shape w w') (n : Nat) : Shape w (w'.drewN n) := h
theorem Shape.alloc (h : Shape w w') (o : Obj) : Shape w (w'.alloc o) := h.trans (.of_same fun g hg => Below.heap_alloc w' o g hg)
theorem Shape.setCell (h : Shape w w') (p : Addr) (hp : p.spot = none) (v : Value) : Shape w (w'.setCell p v) := h.trans fun g cs e fr hg => by
  obtain ⟨blk, off, spot⟩ := p
  cases hp
  by_cases hb : g = blk
  · subst hb; exact ⟨_, Eng.setCell_blk hg, by simp⟩
  · exact ⟨cs, (Eng.setCell_other hb).trans hg, rfl⟩
theorem SlV.on {e sz n : Nat} {v : Value} (h : SlV B K w e sz v n) (hs : Shape w w') (hK : K ≤ K') : SlV B K' w' e sz v n := by
  obtain ⟨h0, h1 | ⟨g, c, cs, h1, h2, h3, h4, h5⟩⟩ := h
  · exact ⟨by omega, .inl h1⟩
  · obtain ⟨cs', h6, h7⟩ := hs g cs e _ h4
    exact ⟨by omega, .inr ⟨g, c, cs', h1, h2, h3, h6, by omega⟩⟩
theorem Fits.on {ck : CK} {v : Value} (h : Fits B K w ck v) (hs : Shape w w') (hK : K ≤ K') : Fits B K' w' ck v := by
  cases ck with
  | num => exact h
  | word => exact h
  | str => exact h
  | sl e sz => obtain ⟨n, h⟩ := h; exact ⟨n, h.on hs hK⟩
theorem Fits.one {ck : CK} {v : Value} (h : Fits B K w ck v) : v.oneCell' = true := by
  cases ck with
  | num => obtain ⟨z, rfl⟩ := h; rfl
  | word => obtain ⟨z, rfl⟩ := h; rfl
  | str => obtain ⟨s, rfl⟩ := h; rfl
  | sl e sz =>
    obtain ⟨n, _, ⟨rfl, _⟩ | ⟨g, c, cs, rfl, _⟩⟩ := h <;> rfl
theorem WT.drewN (h : WT B K w) (n : Nat) : WT B K (w.drewN n) := h
theorem WT.drew (h : WT B K w) : WT B K w.drew := h
theorem WT.more (h : WT B K w) (hK : K ≤ K') : WT B K' w := fun g cs e fr hB hg j ck hl => by
  obtain ⟨h1, h2⟩ := h g cs e fr hB hg j ck hl
  exact ⟨h1, fun v hv => (h2 v hv).on (Shape.refl _) hK⟩
/-- Nothing of what we follow has changed but one block, and new ones are well typed. -/
theorem WT.change (h : WT B K w) (hs : Shape w w') (hK : K ≤ K')
    (hc : ∀ (g : Nat) (cs' : Array Value) (e : TypeId) (fr : Nat × Nat), B ≤ g → w'.heap[g]? = some (.cells cs' e fr) → ∀ j ck, layK e j = some ck → fr = (0, 0) ∧ ∀ v, cs'[j]? = some v → Fits B K' w' ck v ∨ ∃ cs, w.heap[g]? = some (.cells cs e fr) ∧ cs[j]? = some v) : WT B K' w' := by
  intro g cs' e fr hB hg j ck hl
  obtain ⟨h1, h2⟩ := hc g cs' e fr hB hg j ck hl
  refine ⟨h1, fun v hv => ?_⟩
  rcases h2 v hv with h3 | ⟨cs, h3, h4⟩
  · exact h3
  · exact ((h g cs e fr hB h3 j ck hl).2 v h4).on hs hK
theorem WT.alloc (h : WT B K w) (cs : Array Value) (e : TypeId) (ht : ∀ j ck, layK e j = some ck → ∀ v, cs[j]? = some v → Fits B K w ck v) : WT B K (w.alloc (.cells cs e)) := by
  refine h.change ((Shape.refl _).alloc _) (Nat.le_refl _) fun g cs' e' fr hB hg j ck hl => ?_
  rcases Nat.lt_trichotomy g w.heap.size with hlt | heq | hgt
  · rw [Below.heap_alloc w _ g hlt] at hg
    exact ⟨(h g cs' e' fr hB hg j ck hl).1, fun v hv => .inr ⟨cs', hg, hv⟩⟩
  · subst heq
    rw [heap_alloc_new] at hg
    cases hg
    exact ⟨rfl, fun v hv => .inl ((ht j ck hl v hv).on ((Shape.refl _).alloc _) (Nat.le_refl _))⟩
  · rw [Array.getElem?_eq_none (by simp; omega)] at hg; cases hg
/-- A new block of a type that we don't follow. -/
theorem WT.allocOther (h : WT B K w) (o : Obj) (ho : ∀ cs e fr, o = .cells cs e fr → ∀ j, layK e j = none) : WT B K (w.alloc o) := by
  refine h.change ((Shape.refl _).alloc _) (Nat.le_refl _) fun g cs' e' fr hB hg j ck hl => ?_
  rcases Nat.lt_trichotomy g w.heap.size with hlt | heq | hgt
  · rw [Below.heap_alloc w _ g hlt] at hg
    exact ⟨(h g cs' e' fr hB hg j ck hl).1, fun v hv => .inr ⟨cs', hg, hv⟩⟩
  · subst heq
    rw [heap_alloc_new] at hg
    cases hg
    rw [ho _ _ _ rfl j] at hl; cases hl
  · rw [Array.getElem?_eq_none (by simp; omega)] at hg; cases hg
theorem WT.setCell (h : WT B K w) (g0 o : Nat) (v : Value) (ht : ∀ cs e fr, w.heap[g0]? = some (.cells cs e fr) → ∀ ck, layK e o = some ck → Fits B K w ck v) : WT B K (w.setCell ⟨g0, o, none⟩ v) := by
  have hs : Shape w (w.setCell ⟨g0, o, none⟩ v) := (Shape.refl _).setCell _ rfl _
  refine h.change hs (Nat.le_refl _) fun g cs' e fr hB hg j ck hl => ?_
  by_cases hb : g = g0
  · subst hb
    cases hw : w.heap[g]? with
    | none =>
      have : (w.setCell ⟨g, o, none⟩ v).heap[g]? = none := by
        rw [Array.getElem?_eq_none_iff] at hw ⊢
        rw [Eng.setCell_size]; exact hw
      rw [this] at hg; cases hg
    | some ob =>
      cases ob with
      | cells cs e0 fr0 =>
        rw [Eng.setCell_blk hw] at hg
        cases hg
        refine ⟨(h g cs e fr hB hw j ck hl).1, fun u hu => ?_⟩
        rw [Array.getElem?_setIfInBounds] at hu
        by_cases hj : o = j
        · subst hj
          simp only [if_true] at hu
          split at hu
          · cases hu; exact .inl ((ht cs e fr hw ck hl).on hs (Nat.le_refl _))
          · cases hu
        · rw [if_neg hj] at hu
          exact .inr ⟨cs, rfl, hu⟩
      | _ =>
        simp only [World.setCell, Option.isSome, Bool.false_eq_true, if_false] at hg
        rw [Array.getElem?_modify] at hg
        simp [hw] at hg
  · rw [Eng.setCell_other hb] at hg
    exact ⟨(h g cs' e fr hB hg j ck hl).1, fun u hu => .inr ⟨cs', hg, hu⟩⟩
end
end Go.Proofs.YtahljbkaemhpcaaGreat
/- append keeps the heap well typed. -/
namespace Go.Proofs.YtahljbkaemhpcaaGreat
open Go.RowKit
set_option linter.unusedVariables false
/-- What an append leaves. -/
structure App (B K : Nat) (w w' : World) (e sz : Nat) (s x : Value) (n m : Nat) (v : Value) : Prop where
  slv : SlV B K w' e sz v (n + m)
  wt : WT B K w'
  shape : Shape w w'
  size : w.heap.size ≤ w'.heap.size
  os : w'.os = w.os
  tape : w'.tape = w.tape
  out : w'.output = w.output
  far : ∀ g, g < w.heap.size → s.ownBlock ≠ some g → w'.heap[g]? = w.heap[g]?
  home : v.ownBlock = s.ownBlock ∨ v.ownBlock = some w.heap.size
  old : ∀ g c g' c', s = .slice (some ⟨g, 0, none⟩) n c → v = .slice (some ⟨g', 0, none⟩) (n + m) c' → ∀ j, j < n * sz → w'.cell? ⟨g', j, none⟩ = w.cell? ⟨g, j, none⟩
  new : ∀ g c g' c', x = .slice (some ⟨g, 0, none⟩) m c → v = .slice (some ⟨g', 0, none⟩) (n + m) c' → ∀ j, j < m * sz → w'.cell? ⟨g', n * sz + j, none⟩ = w.cell? ⟨g, j, none⟩
section
variable {P : Program} {B K K' : Nat} {w : World}
theorem SlV.len {e sz n : Nat} {v : Value} (h : SlV B K w e sz v n) : (Builtin.lenOf v).run P w = .ok n w := by
  obtain ⟨_, ⟨rfl, rfl⟩ | ⟨g, c, cs, rfl, _⟩⟩ := h <;> rfl
/-- What a slice holds. -/
theorem SlV.cells {e sz n : Nat} {v : Value} (h : SlV B K w e sz v n) : ∃ l : Array Value, l.size = n * sz ∧ (∀ w0 : World, w0.heap = w.heap → (Builtin.firstCells sz n v).run P w0 = .ok l w0) ∧
    ∀ g c, v = .slice (some ⟨g, 0, none⟩) n c → ∃ cs, w.heap[g]? = some (.cells cs e (0, 0)) ∧ B ≤ g ∧ ∀ j, j < n * sz → l[j]? = cs[j]? := by
  obtain ⟨_, ⟨rfl, rfl⟩ | ⟨g, c, cs, rfl, h1, h2, h3, h4⟩⟩ := h
  · exact ⟨#[], by simp, fun w0 _ => by simp [Builtin.firstCells], fun g c h => by cases h⟩
  · have hle : n * sz ≤ cs.size := Nat.le_trans (Nat.mul_le_mul_right _ h2) h4
    refine ⟨cs.extract 0 (n * sz), by simp; omega, fun w0 hw0 => ?_, fun g' c' h => ?_⟩
    · have := Eng.loadRow (P := P) (w := w0) (by rw [hw0]; exact h3) 0 (n * sz) 0 #[] (by omega)
      simp only [Builtin.firstCells, Go.loadCells, this]
      simp
    · cases h
      refine ⟨cs, h3, h1, fun j hj => ?_⟩
      simp only [Array.getElem?_extract]
      rw [if_pos (by omega)]; simp
theorem cell_of {w : World} {g j : Nat} {cs : Array Value} {e : TypeId} {fr : Nat × Nat} (h : w.heap[g]? = some (.cells cs e fr)) : w.cell? ⟨g, j, none⟩ = cs[j]? := by
  simp [World.cell?, h]
theorem zeros_at {z : Array Value} {n j : Nat} {u : Value} (h : (Builtin.zeroCells z n)[j]? = some u) : z[j % z.size]? = some u := by
  unfold Builtin.zeroCells at h
  simp only [Array.getElem?_map, Option.map_eq_some_iff] at h
  obtain ⟨i, hi, rfl⟩ := h
  rw [Array.getElem?_range] at hi
  split at hi
  · cases hi
    rename_i hlt
    have hp : 0 < z.size := Nat.pos_of_ne_zero fun e => by rw [e] at hlt; simp at hlt
    rw [getElem!_pos z _ (Nat.mod_lt _ hp), Array.getElem?_eq_getElem (Nat.mod_lt _ hp)]
  · cases hi
theorem layK_mod (e j : Nat) : layK e (j % szK e) = layK e j := by
  have := layK_add e (j % szK e) (j / szK e)
  rw [Nat.mul_comm, Nat.div_add_mod] at this
  exact this.symm
theorem own_none {n c : Nat} : Value.ownBlock (.slice none n c) = none := rfl
theorem own_some {g n c : Nat} : Value.ownBlock (.slice (some ⟨g, 0, none⟩) n c) = some g := rfl
theorem storeRow' {blk o : Nat} {elem : TypeId} {lo hi : Nat} : ∀ (vs : List Value) (i : Nat) (w : World) (cs : Array Value), w.heap[blk]? = some (.cells cs elem (lo, hi)) → (∀ j, lo ≤ j → j < hi → cs.size ≤ j) → (∀ v ∈ vs, v.oneCell' = true) → o + i + vs.length ≤ cs.size →
    ∃ w' cs', (storeCells ⟨blk, o, none⟩ vs i).run P w = .ok () w' ∧ w'.heap[blk]? = some (.cells cs' elem (lo, hi)) ∧ cs'.size = cs.size ∧ (∀ j : Nat, cs'[j]? = if o + i ≤ j ∧ j < o + i + vs.length then vs[j - (o + i)]? else cs[j]?) ∧
      (∀ b, b ≠ blk → w'.heap[b]? = w.heap[b]?) ∧ w'.heap.size = w.heap.size ∧ w'.os = w.os ∧ w'.output = w.output ∧ w'.tape = w.tape := by
  intro vs
  induction vs with
  | nil =>
    intro i w cs h _ _ _
    exact ⟨w, cs, rfl, h, rfl, fun j => by rw [if_neg (by simp only [List.length_nil]; omega)], fun _ _ => rfl, rfl, rfl, rfl, rfl⟩
  | cons v vs ih =>
    intro i w cs h hfr hone hle
    simp only [List.length_cons] at hle
    have ha : (⟨blk, o, none⟩ : Addr).add i = ⟨blk, o + i, none⟩ := Eng.addr_add ⟨blk, 0, 0⟩ o i (Nat.zero_le _)
    have hin : o + i < cs.size := by omega
    have hc : w.cell? ⟨blk, o + i, none⟩ = some cs[o + i] := by simp [World.cell?, h, hin]
    have hf : w.frozen? ⟨blk, o + i, none⟩ = false := by
      simp only [World.frozen?, h]
      cases hd : decide (lo ≤ o + i) && decide (o + i < hi) with
      | false => rfl
      | true =>
        simp only [Bool.and_eq_true, decide_eq_true_eq] at hd
        have := hfr _ hd.1 hd.2
        omega
    obtain ⟨w', cs', e1, e2, e3, e4, e5, e6, e7, e8, e9⟩ := ih (i + 1) (w.setCell ⟨blk, o + i, none⟩ v) (cs.setIfInBounds (o + i) v) (Eng.setCell_blk h) (fun j a b => by rw [Array.size_setIfInBounds]; exact hfr j a b) (fun u hu => hone u (List.mem_cons_of_mem _ hu)) (by rw [Array.size_setIfInBounds]; omega)
    refine ⟨w', cs', ?_, e2, by rw [e3, Array.size_setIfInBounds], fun j => ?_, fun b hb => (e5 b hb).trans (Eng.setCell_other hb), by rw [e6, Eng.setCell_size], e7, e8, e9⟩
    · simp only [storeCells, Sem.run_bind, run_store _ _ _ _ _ (hone v (List.mem_cons_self ..)), ha, hc, hf, Bool.false_eq_true, if_false, Result.andThen_ok]
      exact e1
    · rw [e4]
      by_cases hj : o + (i + 1) ≤ j ∧ j < o + (i + 1) + vs.length
      · rw [if_pos hj, if_pos (by simp only [List.length_cons]; omega)]
        have : j - (o + i) = (j - (o + (i + 1))) + 1 := by omega
        rw [this, List.getElem?_cons_succ]
      · rw [if_neg hj, Array.getElem?_setIfInBounds]
        by_cases hji : o + i = j
        · subst hji
          rw [if_pos rfl, if_pos hin, if_pos (by simp only [List.length_cons]; omega)]
          simp
        · rw [if_neg hji, if_neg (by simp only [List.length_cons]; omega)]
/-- A new row. -/
theorem app_grow (hWT : WT B K w) {e sz n m nc : Nat} {s x z' : Value} {ls lx : Array Value} (hzs : z'.cells.size = sz) (hszK : szK e = sz) (hpos : 0 < sz)
    (hzt : ∀ j ck, layK e j = some ck → ∀ u, z'.cells[j]? = some u → ∀ B K w, Fits B K w ck u) (hs : SlV B K w e sz s n) (hx : SlV B K w e sz x m) (hls : ls.size = n * sz) (hlx : lx.size = m * sz)
    (hsc : ∀ g c, s = .slice (some ⟨g, 0, none⟩) n c → ∃ cs, w.heap[g]? = some (.cells cs e (0, 0)) ∧ B ≤ g ∧ ∀ j, j < n * sz → ls[j]? = cs[j]?)
    (hxc : ∀ g c, x = .slice (some ⟨g, 0, none⟩) m c → ∃ cs, w.heap[g]? = some (.cells cs e (0, 0)) ∧ B ≤ g ∧ ∀ j, j < m * sz → lx[j]? = cs[j]?)
    (hK : n + m ≤ K') (hKK : K ≤ K') (hB : B ≤ w.heap.size) (hnc : n + m ≤ nc) :
    App B K' w (w.drew.alloc (.cells (ls ++ lx ++ Builtin.zeroCells z'.cells (nc - (n + m))) e)) e sz s x n m (.slice (some ⟨w.heap.size, 0, none⟩) (n + m) nc) := by
  have fit : ∀ (k : Nat) (v : Value) (l : Array Value), SlV B K w e sz v k → l.size = k * sz → (∀ g c, v = .slice (some ⟨g, 0, none⟩) k c → ∃ cs, w.heap[g]? = some (.cells cs e (0, 0)) ∧ B ≤ g ∧ ∀ j, j < k * sz → l[j]? = cs[j]?) →
      ∀ j ck, layK e j = some ck → ∀ u, l[j]? = some u → Fits B K w ck u := by
    intro k v l hv hl hc j ck hlay u hu
    have hj : j < k * sz := by
      have := (Array.getElem?_eq_some_iff.1 hu).1; omega
    obtain ⟨_, ⟨rfl, rfl⟩ | ⟨g, c, cs, rfl, _⟩⟩ := hv
    · simp at hj
    · obtain ⟨cs', h1, h2, h3⟩ := hc g c rfl
      exact ((hWT g cs' e _ h2 h1 j ck hlay).2 u) (by rw [← h3 j hj]; exact hu)
  have hlayn : ∀ k j, layK e (k * sz + j) = layK e j := fun k j => by rw [← hszK]; exact layK_add e j k
  have hsz3 : (ls ++ lx ++ Builtin.zeroCells z'.cells (nc - (n + m))).size = nc * sz := by
    simp only [Array.size_append, Eng.zc_size, hls, hlx, hzs]
    rw [← Nat.add_mul, ← Nat.add_mul]; congr 1; omega
  have hnew : (w.drew.alloc (.cells (ls ++ lx ++ Builtin.zeroCells z'.cells (nc - (n + m))) e)).heap[w.heap.size]? = some (.cells (ls ++ lx ++ Builtin.zeroCells z'.cells (nc - (n + m))) e) := heap_alloc_new w.drew _
  refine ⟨⟨hK, .inr ⟨_, nc, _, rfl, hB, hnc, hnew, by rw [hsz3]; exact Nat.le_refl _⟩⟩, WT.more (WT.alloc hWT.drew _ e fun j ck hl u hu => ?_) hKK, (Shape.refl _).alloc _, by simp, rfl, rfl, rfl,
    fun g hg _ => Below.heap_alloc w.drew _ g hg, .inr rfl, fun g c g' c' h1 h2 j hj => ?_, fun g c g' c' h1 h2 j hj => ?_⟩
  · rw [Array.getElem?_append] at hu
    split at hu
    · rw [Array.getElem?_append] at hu
      split at hu
      · exact fit n s ls hs hls hsc j ck hl u hu
      · rename_i hge
        have e1 : j = n * sz + (j - ls.size) := by omega
        rw [e1, hlayn] at hl
        exact fit m x lx hx hlx hxc _ ck hl u hu
    · rename_i hge
      have h3 := zeros_at hu
      rw [hzs] at h3
      have e1 : layK e ((j - (ls ++ lx).size) % sz) = some ck := by
        rw [← hszK, layK_mod, ← hl]
        have e2 : j = (n + m) * sz + (j - (ls ++ lx).size) := by
          have : (ls ++ lx).size = (n + m) * sz := by rw [Array.size_append, hls, hlx, Nat.add_mul]
          omega
        conv => rhs; rw [e2]
        rw [hlayn]
      exact hzt _ ck e1 u h3 B K _
  · cases h2
    obtain ⟨cs, h3, _, h4⟩ := hsc g c h1
    rw [cell_of hnew, cell_of h3, ← h4 j hj, Array.getElem?_append_left (by simp only [Array.size_append]; omega), Array.getElem?_append_left (by omega)]
  · cases h2
    obtain ⟨cs, h3, _, h4⟩ := hxc g c h1
    rw [cell_of hnew, cell_of h3, ← h4 j hj, Array.getElem?_append_left (by simp only [Array.size_append]; omega), Array.getElem?_append_right (by omega)]
    congr 1; omega
theorem append_typed (hWT : WT B K w) {t ty e sz by_ : Nat} (ht : P.underlying t = some (.slice e)) {ti : TypeInfo} {z' : Value} (hti : P.info? e = some ti) (hsz : ti.size = sz) (hby : ti.bytes = by_) (hz : ti.zero = some z')
    (hzs : z'.cells.size = sz) (hszK : szK e = sz) (hpos : 0 < sz) (hby1 : 1 ≤ by_) (hby2 : by_ ≤ 1000) (hlay : ∀ j, ∃ ck, layK e j = some ck) (hzt : ∀ j ck, layK e j = some ck → ∀ u, z'.cells[j]? = some u → ∀ B K w, Fits B K w ck u)
    {s x : Value} {n m : Nat} (hs : SlV B K w e sz s n) (hx : SlV B K w e sz x m) (hK : n + m ≤ K') (hKK : K ≤ K') (hK' : K' ≤ 34359738368) (hB : B ≤ w.heap.size) :
    ∃ v w', (Builtin.append_ #[t, t] ty #[s, x]).run P w = .ok v w' ∧ App B K' w w' e sz s x n m v := by
  have hni : Eng.notInt P (#[t, t] : Array TypeId)[1]? = true := by
    show (match some t with | some t => (match P.underlying t with | some (.slice _) => true | some .string => true | _ => false) | none => false) = true
    simp only [ht]
  have hszO : Eng.szOf P e = some sz := by simp [Eng.szOf, hti, hsz]
  obtain ⟨lx, hlx, hrx, hcx⟩ := hx.cells (P := P)
  obtain ⟨ls, hls, hrs, hcs⟩ := hs.cells (P := P)
  have hroom : 2 * (n + m) * by_ ≤ 281474976710656 := by
    have : 2 * (n + m) * by_ ≤ 2 * K' * 1000 := Nat.mul_le_mul (by omega) hby2
    omega
  obtain ⟨hn0, hsf⟩ := id hs
  rcases hsf with ⟨rfl, rfl⟩ | ⟨g, c, cs, rfl, hg1, hg2, hg3, hg4⟩
  · by_cases hm0 : m = 0
    · subst hm0
      have hrun := Eng.room_run (P := P) (w := w) (tys := #[t, t]) (ty := ty) (base := none) (cap := 0) (len := 0) (n := 0) (w' := w) (new := lx) rfl ht hni hszO hx.len (by omega) (hrx w rfl) rfl
      refine ⟨_, _, hrun, ⟨⟨by omega, .inl ⟨rfl, rfl⟩⟩, hWT.more hKK, Shape.refl _, Nat.le_refl _, rfl, rfl, rfl, fun _ _ _ => rfl, .inl rfl, (fun _ _ _ _ h => by cases h), (fun _ _ _ _ _ _ j hj => by simp at hj)⟩⟩
    · obtain ⟨nc, hnc, hrun⟩ := Eng.grow_run (P := P) (w := w) (tys := #[t, t]) (ty := ty) (base := none) (cap := 0) (len := 0) (n := m) (x' := x) (old := ls) (new := lx) rfl ht hni hsz hti hby hz hby1 hx.len (by omega) hroom (hrs w.drew rfl) (hrx w.drew rfl)
      exact ⟨_, _, hrun, app_grow hWT hzs hszK hpos hzt hs hx hls hlx hcs hcx hK hKK hB hnc⟩
  · by_cases hfit : n + m ≤ c
    · have hxfit : ∀ j ck, layK e j = some ck → ∀ u, lx[j]? = some u → Fits B K w ck u := by
        intro j ck hl u hu
        have hj : j < m * sz := by
          have := (Array.getElem?_eq_some_iff.1 hu).1; omega
        obtain ⟨_, ⟨rfl, rfl⟩ | ⟨g', c', cs', rfl, _⟩⟩ := hx
        · simp at hj
        · obtain ⟨cs', h1, h2, h3⟩ := hcx g' c' rfl
          exact ((hWT g' cs' e _ h2 h1 j ck hl).2 u) (by rw [← h3 j hj]; exact hu)
      have hlayn : ∀ j, layK e (n * sz + j) = layK e j := fun j => by rw [← hszK]; exact layK_add e j n
      have hone : ∀ u ∈ lx.toList, u.oneCell' = true := by
        intro u hu
        obtain ⟨j, hj⟩ := List.mem_iff_getElem?.1 hu
        obtain ⟨ck, hck⟩ := hlay j
        exact (hxfit j ck hck u (by simpa using hj)).one
      have hlt : n * sz + m * sz ≤ cs.size := by
        have := Nat.mul_le_mul_right sz hfit
        rw [Nat.add_mul] at this; omega
      obtain ⟨w', cs', e1, e2, e3, e4, e5, e6, e7, e8, e9⟩ := storeRow' (P := P) (o := n * sz) lx.toList 0 w cs hg3 (fun j h1 h2 => by omega) hone (by rw [Array.length_toList, hlx]; omega)
      have hadd : (⟨g, 0, none⟩ : Addr).add (n * sz) = ⟨g, n * sz, none⟩ := by
        have := Eng.addr_add ⟨g, 0, 0⟩ 0 (n * sz) (Nat.zero_le _)
        simpa using this
      have hll : lx.toList.length = m * sz := by rw [Array.length_toList, hlx]
      have hrun := Eng.room_run (P := P) (w := w) (tys := #[t, t]) (ty := ty) (base := some ⟨g, 0, none⟩) (cap := c) (len := n) (n := m) (w' := w') (new := lx) rfl ht hni hszO hx.len hfit (hrx w rfl) (by simp only [hadd]; exact e1)
      have hshape : Shape w w' := fun b cs0 e0 fr hb => by
        by_cases hbg : b = g
        · subst hbg
          rw [hg3] at hb; cases hb
          exact ⟨cs', e2, e3⟩
        · exact ⟨cs0, (e5 b hbg).trans hb, rfl⟩
      refine ⟨_, _, hrun, ⟨⟨hK, .inr ⟨g, c, cs', rfl, hg1, hfit, e2, by rw [e3]; exact hg4⟩⟩, ?_, hshape, by rw [e6]; exact Nat.le_refl _, e7, e9, e8, fun b hb hne => e5 b (fun h => hne (by rw [h]; rfl)), .inl rfl, fun g1 c1 g' c' h1 h2 j hj => ?_, fun g1 c1 g' c' h1 h2 j hj => ?_⟩⟩
      · refine hWT.change hshape hKK fun b cs1 e1' fr hBb hb j ck hl => ?_
        by_cases hbg : b = g
        · subst hbg
          rw [e2] at hb; cases hb
          refine ⟨rfl, fun u hu => ?_⟩
          rw [e4] at hu
          split at hu
          · rename_i hin
            left
            refine (hxfit (j - n * sz) ck ?_ u ?_).on hshape hKK
            · rw [← hl]
              conv => rhs; rw [show j = n * sz + (j - n * sz) from by omega]
              exact (hlayn _).symm
            · have e0 : j - (n * sz + 0) = j - n * sz := by omega
              rw [e0] at hu; simpa using hu
          · exact .inr ⟨cs, hg3, hu⟩
        · rw [e5 b hbg] at hb
          exact ⟨(hWT b cs1 e1' fr hBb hb j ck hl).1, fun u hu => .inr ⟨cs1, hb, hu⟩⟩
      · cases h1; cases h2
        rw [cell_of e2, cell_of hg3, e4, if_neg (by omega)]
      · cases h2
        obtain ⟨csx, h3, _, h4⟩ := hcx g1 c1 h1
        rw [cell_of e2, cell_of h3, ← h4 j hj, e4, if_pos (by omega)]
        have e0 : n * sz + j - (n * sz + 0) = j := by omega
        rw [e0]; simp
    · obtain ⟨nc, hnc, hrun⟩ := Eng.grow_run (P := P) (w := w) (tys := #[t, t]) (ty := ty) (base := some ⟨g, 0, none⟩) (cap := c) (len := n) (n := m) (x' := x) (old := ls) (new := lx) rfl ht hni hsz hti hby hz hby1 hx.len (by omega) hroom (hrs w.drew rfl) (hrx w.drew rfl)
      exact ⟨_, _, hrun, app_grow hWT hzs hszK hpos hzt hs hx hls hlx hcs hcx hK hKK hB hnc⟩
end
end Go.Proofs.YtahljbkaemhpcaaGreat
namespace Go.Proofs.YtahljbkaemhpcaaGreat
open Go.RowKit
set_option linter.unusedVariables false
/-- A slice type t of elements e that take sz cells. -/
structure El (P : Program) (t e sz : Nat) : Prop where
  ht : P.underlying t = some (.slice e)
  info : ∃ ti z', P.info? e = some ti ∧ ti.size = sz ∧ ti.zero = some z' ∧ z'.cells.size = sz ∧ 1 ≤ ti.bytes ∧ ti.bytes ≤ 1000 ∧ ∀ j ck, layK e j = some ck → ∀ u, z'.cells[j]? = some u → ∀ B K w, Fits B K w ck u
  szK : szK e = sz
  pos : 0 < sz
  lay : ∀ j, ∃ ck, layK e j = some ck
theorem el_mk {P : Program} {t e sz by_ : Nat} {z' : Value} (ht : P.underlying t = some (.slice e)) (hi : (P.info? e).map (fun i => (i.zero, i.size, i.bytes)) = some (some z', sz, by_)) (h1 : z'.cells.size = sz) (h2 : 1 ≤ by_) (h3 : by_ ≤ 1000) (h4 : szK e = sz) (h5 : 0 < sz)
    (h6 : ∀ j, ∃ ck, layK e j = some ck) (h7 : ∀ j ck, layK e j = some ck → ∀ u, z'.cells[j]? = some u → ∀ B K w, Fits B K w ck u) : El P t e sz := by
  obtain ⟨ti, hti, hz, hs, hb⟩ := info_parts hi
  subst hs hb
  exact ⟨ht, ⟨ti, z', hti, rfl, hz, h1, h2, h3, h7⟩, h4, h5, h6⟩
theorem fits_nil (B K : Nat) (w : World) (e sz : Nat) : Fits B K w (.sl e sz) (.slice none 0 0) := ⟨0, Nat.zero_le _, .inl ⟨rfl, rfl⟩⟩
theorem el22 : El Tryz.prog 22 3 1 := by
  refine el_mk (z' := .int .i64 0) (by_ := 8) (by kernel_rfl) (by kernel_rfl) rfl (by omega) (by omega) rfl (by omega) (fun j => ⟨_, rfl⟩) fun j ck hl u hu B K w => ?_
  cases hl
  match j, hu with
  | 0, hu => cases hu; exact ⟨_, rfl⟩
theorem el41 : El Tryz.prog 41 40 6 := by
  refine el_mk (z' := .agg #[.int .i64 0, .int .i64 0, .int .i64 0, .int .i64 0, .int .u16 0, .slice none 0 0]) (by_ := 64) (by kernel_rfl) (by kernel_rfl) rfl (by omega) (by omega) rfl (by omega) (fun j => ?_) fun j ck hl u hu B K w => ?_
  · simp only [layK]; split <;> exact ⟨_, rfl⟩
  · match j, hl, hu with
    | 0, hl, hu | 1, hl, hu | 2, hl, hu | 3, hl, hu => cases hl; cases hu; exact ⟨_, rfl⟩
    | 4, hl, hu => cases hl; cases hu; exact ⟨_, rfl⟩
    | 5, hl, hu => cases hl; cases hu; exact fits_nil ..
theorem el42 : El Tryz.prog 42 49 2 := by
  refine el_mk (z' := .agg #[.int .i64 0, .slice none 0 0]) (by_ := 32) (by kernel_rfl) (by kernel_rfl) rfl (by omega) (by omega) rfl (by omega) (fun j => ?_) fun j ck hl u hu B K w => ?_
  · simp only [layK]; split <;> exact ⟨_, rfl⟩
  · match j, hl, hu with
    | 0, hl, hu => cases hl; cases hu; exact ⟨_, rfl⟩
    | 1, hl, hu => cases hl; cases hu; exact fits_nil ..
theorem el32 : El Tryz.prog 32 46 5 := by
  refine el_mk (z' := .agg #[.slice none 0 0, .slice none 0 0, .int .i64 0, .int .i64 0, .slice none 0 0]) (by_ := 88) (by kernel_rfl) (by kernel_rfl) rfl (by omega) (by omega) rfl (by omega) (fun j => ?_) fun j ck hl u hu B K w => ?_
  · simp only [layK]; split <;> exact ⟨_, rfl⟩
  · match j, hl, hu with
    | 0, hl, hu | 1, hl, hu | 4, hl, hu => cases hl; cases hu; exact fits_nil ..
    | 2, hl, hu | 3, hl, hu => cases hl; cases hu; exact ⟨_, rfl⟩
theorem el25 : El Tryz.prog 25 34 1 := by
  refine el_mk (z' := .agg #[.slice none 0 0]) (by_ := 24) (by kernel_rfl) (by kernel_rfl) rfl (by omega) (by omega) rfl (by omega) (fun j => ⟨_, rfl⟩) fun j ck hl u hu B K w => ?_
  cases hl
  match j, hu with
  | 0, hu => cases hu; exact fits_nil ..
theorem el26 : El Tryz.prog 26 53 3 := by
  refine el_mk (z' := .agg #[.int .i64 0, .int .u16 0, .int .u16 0]) (by_ := 16) (by kernel_rfl) (by kernel_rfl) rfl (by omega) (by omega) rfl (by omega) (fun j => ?_) fun j ck hl u hu B K w => ?_
  · simp only [layK]; split <;> exact ⟨_, rfl⟩
  · match j, hl, hu with
    | 0, hl, hu => cases hl; cases hu; exact ⟨_, rfl⟩
    | 1, hl, hu | 2, hl, hu => cases hl; cases hu; exact ⟨_, rfl⟩
theorem el27 : El Tryz.prog 27 9 1 := by
  refine el_mk (z' := .string .empty) (by_ := 16) (by kernel_rfl) (by kernel_rfl) rfl (by omega) (by omega) rfl (by omega) (fun j => ⟨_, rfl⟩) fun j ck hl u hu B K w => ?_
  cases hl
  match j, hu with
  | 0, hu => cases hu; exact ⟨_, rfl⟩
section
variable {P : Program} {B K K' : Nat} {w : World} {t e sz : Nat}
theorem append_el (hE : El P t e sz) (hWT : WT B K w) {ty : TypeId} {s x : Value} {n m : Nat} (hs : SlV B K w e sz s n) (hx : SlV B K w e sz x m) (hK : n + m ≤ K') (hKK : K ≤ K') (hK' : K' ≤ 34359738368) (hB : B ≤ w.heap.size) :
    ∃ v w', (Builtin.append_ #[t, t] ty #[s, x]).run P w = .ok v w' ∧ App B K' w w' e sz s x n m v := by
  obtain ⟨ti, z', h1, h2, h3, h4, h5, h6, h7⟩ := hE.info
  exact append_typed hWT hE.ht h1 h2 rfl h3 h4 hE.szK hE.pos h5 h6 hE.lay h7 hs hx hK hKK hK' hB
theorem wp_append_el {o : Oper} {a : Act} {KK : Act → World → Prop} {Q : Exit → Act → World → Prop} (s x : Operand) (ho : o.op = .call { callee := .builtin .append, args := #[s, x], argTypes := #[t, t] })
    (hE : El P t e sz) (hWT : WT B K w) {sv xv : Value} {n m : Nat} (hsv : a.eval s = sv) (hxv : a.eval x = xv) (hs : SlV B K w e sz sv n) (hx : SlV B K w e sz xv m) (hK : n + m ≤ K') (hKK : K ≤ K') (hK' : K' ≤ 34359738368) (hB : B ≤ w.heap.size)
    (h : ∀ v w', App B K' w w' e sz sv xv n m v → KK (a.put o.dst v) w') : o.wp P a w KK Q := by
  obtain ⟨v', w', hrun, h2⟩ := append_el (ty := o.type) hE hWT hs hx hK hKK hK' hB
  unfold Oper.wp execOp
  simp only [ho, resolve, invoke, builtin, Sem.run_bind, Sem.run_pure, Result.andThen_ok, List.map_toArray, List.map_cons, List.map_nil, hsv, hxv, hrun]
  exact h v' w' h2
theorem wpList_append_el {ops : Array Oper} {rest : List Oper} {o : Oper} {a : Act} {Q : Exit → Act → World → Prop} (hgd : o.guard = none) (s x : Operand) (ho : o.op = .call { callee := .builtin .append, args := #[s, x], argTypes := #[t, t] })
    (hE : El P t e sz) (hWT : WT B K w) {sv xv : Value} {n m : Nat} (hsv : a.eval s = sv) (hxv : a.eval x = xv) (hs : SlV B K w e sz sv n) (hx : SlV B K w e sz xv m) (hK : n + m ≤ K') (hKK : K ≤ K') (hK' : K' ≤ 34359738368) (hB : B ≤ w.heap.size)
    (h : ∀ v w', App B K' w w' e sz sv xv n m v → wpList P ops Q rest (a.put o.dst v) w') : wpList P ops Q (o :: rest) a w :=
  wpList_plain hgd fun _ hK2 => wp_append_el s x ho hE hWT hsv hxv hs hx hK hKK hK' hB fun v' w' h2 => hK2 _ _ (h v' w' h2)
theorem step_append_el {ops : Array Oper} {o : Oper} {a : Act} {KK : Act → World → Prop} {Q : Exit → Act → World → Prop} {E : Prop} (hgd : o.guard = none) (s x : Operand) (ho : o.op = .call { callee := .builtin .append, args := #[s, x], argTypes := #[t, t] })
    (hE : El P t e sz) (hWT : WT B K w) {sv xv : Value} {n m : Nat} (hsv : a.eval s = sv) (hxv : a.eval x = xv) (hs : SlV B K w e sz sv n) (hx : SlV B K w e sz xv m) (hK : n + m ≤ K') (hKK : K ≤ K') (hK' : K' ≤ 34359738368) (hB : B ≤ w.heap.size)
    (h : ∀ v w', App B K' w w' e sz sv xv n m v → KK (a.put o.dst v) w') : if Region.wanted o (yielded ops a.tmps) = true then Oper.wp P o a w KK Q else E := by
  have hw : Region.wanted o (yielded ops a.tmps) = true := by simp [Region.wanted, hgd]
  rw [if_pos hw]
  exact wp_append_el s x ho hE hWT hsv hxv hs hx hK hKK hK' hB h
end
end Go.Proofs.YtahljbkaemhpcaaGreat
