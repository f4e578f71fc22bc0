/- The statement's walk: what is known of two programs' functions. -/
import Derived.Test.YtahljbkaemhpcaaGreatV6
import Derived.Test.YtahljbkaemhpcaaGreatNM
import Derived.Test.YtahljbkaemhpcaaGreatR1
namespace Go.Proofs.YtahljbkaemhpcaaGreat
open Go.RowKit
set_option linter.unusedVariables false
section
variable {B B' K K' : Nat} {w w' : World}
theorem Fits.down {ck : CK} {v : Value} (h : Fits B' K w ck v) (hB : B ≤ B') : Fits B K w ck v := by
  cases ck with
  | num => exact h
  | word => exact h
  | str => exact h
  | sl e sz =>
    obtain ⟨n, h0, h1 | ⟨g, c, cs, h1, h2, h3, h4, h5⟩⟩ := h
    · exact ⟨n, h0, .inl h1⟩
    · exact ⟨n, h0, .inr ⟨g, c, cs, h1, Nat.le_trans hB h2, h3, h4, h5⟩⟩
theorem SlV.down {e sz n : Nat} {v : Value} (h : SlV B' K w e sz v n) (hB : B ≤ B') : SlV B K w e sz v n := by
  obtain ⟨h0, h1 | ⟨g, c, cs, h1, h2, h3, h4, h5⟩⟩ := h
  · exact ⟨h0, .inl h1⟩
  · exact ⟨h0, .inr ⟨g, c, cs, h1, Nat.le_trans hB h2, h3, h4, h5⟩⟩
/-- What was typed before, and what was made since. -/
theorem WT.join (h : WT B K w) (h' : WT w.heap.size K' w') (hb : Below w.heap.size w w') (hB : B ≤ w.heap.size) (hK : K ≤ K') : WT B K' w' := by
  intro g cs e fr hg hh j ck hl
  rcases Nat.lt_or_ge g w.heap.size with hlt | hge
  · rw [hb.block g hlt] at hh
    obtain ⟨h1, h2⟩ := h g cs e fr hg hh j ck hl
    exact ⟨h1, fun v hv => (h2 v hv).on (shape_below hb) hK⟩
  · obtain ⟨h1, h2⟩ := h' g cs e fr hge hh j ck hl
    exact ⟨h1, fun v hv => (h2 v hv).down hB⟩
/-- Nothing is typed yet. -/
theorem WT.none (w : World) : WT w.heap.size K w := fun g cs e fr hg hh => by
  have := heap_lt hh
  omega
/-- A function of a program. -/
theorem func_at {A : Option Addr} {n k i : Nat} (hw : WT B K w) (hs : SlV B K w 34 1 (.slice A n k) n) (hi : i < n) : ∃ (g : Nat) (Ab : Option Addr) (nb kb : Nat), A = some ⟨g, 0, .none⟩ ∧ w.cell? ⟨g, i, .none⟩ = some (.slice Ab nb kb) ∧ SlV B K w 46 5 (.slice Ab nb kb) nb := by
  obtain ⟨h0, ⟨h1, h2⟩ | ⟨g, c, cs, h1, h2, h3, h4, h5⟩⟩ := hs
  · omega
  · cases h1
    obtain ⟨v, hv, m, sv⟩ := fit_of hw h2 h4 (j := i) (ck := .sl 46 5) rfl (by omega)
    obtain ⟨Ab, kb, rfl⟩ := sv.form
    exact ⟨g, Ab, m, kb, rfl, hv, sv⟩
theorem big_small {n : Nat} (hK : K ≤ big) (h : n ≤ K) : n ≤ 1099511627776 := by
  have : big = 1073741824 := rfl
  omega
/-- Two functions: the comparisons agree, and it doesn't matter which comes first. -/
theorem two_funs {A A' : Option Addr} {n k n' k' : Nat} (hw : WT B K w) (hK : K ≤ big) (s : SlV B K w 46 5 (.slice A n k) n) (s' : SlV B K w 46 5 (.slice A' n' k') n') :
    ∃ b : Bool, (∀ w', TB B K w w' → Calls Tryz.prog 7 #[.agg #[.slice A n k], .agg #[.slice A' n' k']] w' (SaysT B K b w')) ∧ (∀ w', TB B K w w' → Calls Tryz.prog 9 #[.agg #[.slice A n k], .agg #[.slice A' n' k']] w' (SaysT B K b w')) ∧
      (∀ w', TB B K w w' → Calls Tryz.prog 7 #[.agg #[.slice A' n' k'], .agg #[.slice A n k]] w' (SaysT B K b w')) := by
  obtain ⟨xs, hx⟩ := readB hw hK s
  obtain ⟨ys, hy⟩ := readB hw hK s'
  have hKb : K ≤ 1099511627776 := big_small hK (Nat.le_refl _)
  have e : decide (ys = xs) = decide (xs = ys) := decide_eq_decide.2 ⟨fun h => h.symm, fun h => h.symm⟩
  refine ⟨decide (xs = ys), fun w' h => equal_t w' xs ys A A' n n' k k' (big_small hK s.1) (hx.below h.1) (hy.below h.1) h.2 hKb (h.sl s) (h.sl s'), fun w' h => refEqual_t w' xs ys A A' n n' k k' (big_small hK s.1) (hx.below h.1) (hy.below h.1) h.2 hKb (h.sl s) (h.sl s'), fun w' h => ?_⟩
  rw [← e]
  exact equal_t w' ys xs A' A n' n k' k (big_small hK s'.1) (hy.below h.1) (hx.below h.1) h.2 hKb (h.sl s') (h.sl s)
/-- A function and its copy. -/
theorem own_fun {A : Option Addr} {n k : Nat} (hw : WT B K w) (hB : B ≤ w.heap.size) (hK : K ≤ big) (s : SlV B K w 46 5 (.slice A n k) n) :
    ∀ w', TB B K w w' → Calls Tryz.prog 8 #[.agg #[.slice A n k]] w' (fun e w2 => ∃ (G : Option Addr) (cg : Nat), e = .returned (.agg #[.slice G n cg]) ∧ TB B K w' w2 ∧ Calls Tryz.prog 7 #[.agg #[.slice A n k], .agg #[.slice G n cg]] w2 (SaysT B K true w2)) := by
  intro w' h
  obtain ⟨xs, hx⟩ := readB hw hK s
  have hKb : K ≤ 1099511627776 := big_small hK (Nat.le_refl _)
  refine (ownFunc_any B K w' A n k xs h.2 (Nat.le_trans hB h.1.size) hK (h.sl s) (hx.below h.1)).mono ?_
  rintro e w2 ⟨G, cg, rfl, hw2, hb2, sG, rG⟩
  have tb : TB B K w' w2 := ⟨hb2, hw2⟩
  refine ⟨G, cg, rfl, tb, ?_⟩
  have hc := equal_t w2 xs xs A G n n k cg (big_small hK s.1) ((hx.below h.1).below hb2) rG hw2 hKb (tb.sl (h.sl s)) sG
  have e : decide (xs = xs) = true := decide_eq_true rfl
  rw [e] at hc
  exact hc
end
/-- A cell that a world kept. -/
theorem grown_cell {W w' : World} (h : Grown W w') {b o : Nat} {v : Value} (hc : W.cell? ⟨b, o, .none⟩ = some v) : w'.cell? ⟨b, o, .none⟩ = some v := (h.1.cell (cell_lt hc) (fun f => f)).trans hc
theorem ProgK.lit {B K : Nat} {w : World} {S : Nat} (e : Ending) (w' : World) (h : ProgK B K w S e w') : ∃ (fa : Option Addr) (n fc : Nat) (aa : Option Addr) (na ac : Nat) (en ha : Int) (da : Option Addr) (nd dc : Nat) (ba : Option Addr) (nb bc : Nat), e = .returned (.agg #[.slice fa n fc, .slice aa na ac, .int .i64 en, .int .i64 ha, .slice da nd dc, .slice ba nb bc]) ∧ TP B K w' fa n fc aa na ac da nd dc ba nb bc ∧ WT B K w' ∧ Below S w w' ∧ Shape w w' ∧ Keeps 29 w w' := h
/-- The inputs' cells in a later world. -/
def Inp (B : Nat) (w : World) (As : Option Addr) (la : Nat) : Prop := ∀ j, j < la → ∃ (g o : Nat) (z : Int), As = some ⟨g, o, .none⟩ ∧ g < B ∧ w.cell? ⟨g, o + j, .none⟩ = some (.int .i64 z)
theorem Inp.below {B B' : Nat} {w w' : World} {As : Option Addr} {la : Nat} (h : Inp B w As la) (hb : Below B w w') (hB : B ≤ B') : Inp B' w' As la := fun j hj => by
  obtain ⟨g, o, z, e, h1, h2⟩ := h j hj
  exact ⟨g, o, z, e, Nat.lt_of_lt_of_le h1 hB, (hb.cell (p := ⟨g, o + j, .none⟩) h1).trans h2⟩
theorem Inp.grown {W w' : World} {As : Option Addr} {la : Nat} (h : ∀ j, j < la → ∃ (g o : Nat) (z : Int), As = some ⟨g, o, .none⟩ ∧ W.cell? ⟨g, o + j, .none⟩ = some (.int .i64 z)) (hg : Grown W w') : Inp w'.heap.size w' As la := fun j hj => by
  obtain ⟨g, o, z, e, h1⟩ := h j hj
  have h2 := grown_cell hg h1
  exact ⟨g, o, z, e, cell_lt h2, h2⟩
end Go.Proofs.YtahljbkaemhpcaaGreat
