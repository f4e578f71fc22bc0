/- A copy of a function: what its content is, and what keeps it. -/
import Derived.Test.YtahljbkaemhpcaaGreatMB
import Derived.Test.YtahljbkaemhpcaaGreatW8
namespace Go.Proofs.YtahljbkaemhpcaaGreat
open Go.RowKit
set_option linter.unusedVariables false
/-- The blocks of a type are as they were. -/
def Keeps (e : TypeId) (w w' : World) : Prop := ∀ (g : Nat) (cs : Array Value) (fr : Nat × Nat), w.heap[g]? = some (.cells cs e fr) → w'.heap[g]? = some (.cells cs e fr)
theorem Keeps.of_below {e : TypeId} {w w' : World} (h : Below w.heap.size w w') : Keeps e w w' := fun g cs fr hg => (h.block g (heap_lt hg)).trans hg
theorem App.keeps {B K K2 : Nat} {w w' : World} {e sz n m : Nat} {s x v : Value} {e' : TypeId} (ha : App B K w w' e sz s x n m v) (hs : SlV B K2 w e sz s n) (he : e' ≠ e) : Keeps e' w w' := fun g cs fr hg => ha.other hs hg he
theorem SlV.len_eq {B K : Nat} {w : World} {e sz n m k : Nat} {A : Option Addr} (h : SlV B K w e sz (.slice A n k) m) : m = n := by
  obtain ⟨_, ⟨h1, rfl⟩ | ⟨g, c, cs, h1, _⟩⟩ := h
  · injection h1 with _ h2; exact h2.symm
  · injection h1 with _ h2; exact h2.symm
theorem SlV.addr {B K : Nat} {w : World} {e sz n k : Nat} {g o : Nat} (h : SlV B K w e sz (.slice (some ⟨g, o, none⟩) n k) n) : o = 0 ∧ B ≤ g ∧ n ≤ k ∧ ∃ cs, w.heap[g]? = some (.cells cs e (0, 0)) ∧ k * sz ≤ cs.size := by
  obtain ⟨_, ⟨h1, _⟩ | ⟨g', c, cs, h1, h2, h3, h4, h5⟩⟩ := h
  · cases h1
  · cases h1; exact ⟨rfl, h2, h3, cs, h4, h5⟩
/-- A slice in a followed cell is typed. -/
theorem cell_slice {B K : Nat} {w : World} (hw : WT B K w) {g j e' e sz : Nat} {cs : Array Value} (hB : B ≤ g) (hg : w.heap[g]? = some (.cells cs e' (0, 0))) (hl : layK e' j = some (.sl e sz)) {A : Option Addr} {n k : Nat} (hc : w.cell? ⟨g, j, none⟩ = some (.slice A n k)) : SlV B K w e sz (.slice A n k) n := by
  rw [cell_of hg] at hc
  obtain ⟨m, hm⟩ := (hw g cs e' _ hB hg j _ hl).2 _ hc
  have := hm.len_eq
  subst this
  exact hm
theorem RInts.keep {B K : Nat} {w w' : World} {A : Option Addr} {n k : Nat} {xs : List Int} (h : RInts w A n xs) (hs : SlV B K w 3 1 (.slice A n k) n) (h3 : Keeps 3 w w') : RInts w' A n xs :=
  ⟨h.1, fun j z hj => by
    obtain ⟨g, o, rfl, hc⟩ := h.2 j z hj
    obtain ⟨rfl, _, _, cs, hg, _⟩ := hs.addr
    exact ⟨g, 0, rfl, by rw [cell_of (h3 g cs _ hg), ← cell_of hg]; exact hc⟩⟩
theorem lay6 {k i : Nat} : layK 40 (k * 6 + i) = layK 40 i := layK_add 40 i k
theorem lay2 {k i : Nat} : layK 49 (k * 2 + i) = layK 49 i := layK_add 49 i k
theorem ROprs.keep {B K : Nat} {w w' : World} {A : Option Addr} {n k : Nat} {xs : List Opr} (h : ROprs w A n xs) (hw : WT B K w) (hs : SlV B K w 40 6 (.slice A n k) n) (h3 : Keeps 3 w w') (h40 : Keeps 40 w w') : ROprs w' A n xs :=
  ⟨h.1, fun j x hj => by
    obtain ⟨g, o, s0, l0, c0, rfl, b0, b1, b2, b3, b4, b5, hl, hr⟩ := h.2 j x hj
    obtain ⟨rfl, hB, _, cs, hg, _⟩ := hs.addr
    have sv := cell_slice hw hB hg (by rw [Nat.zero_add]; exact lay6) b5
    have e : ∀ i, w'.cell? ⟨g, i, none⟩ = cs[i]? := fun i => cell_of (h40 g cs _ hg)
    refine ⟨g, 0, s0, l0, c0, rfl, ?_, ?_, ?_, ?_, ?_, ?_, hl, hr.keep sv h3⟩ <;> (rw [e, ← cell_of hg]; assumption)⟩
theorem REdgs.keep {B K : Nat} {w w' : World} {A : Option Addr} {n k : Nat} {xs : List Edg} (h : REdgs w A n xs) (hw : WT B K w) (hs : SlV B K w 49 2 (.slice A n k) n) (h3 : Keeps 3 w w') (h49 : Keeps 49 w w') : REdgs w' A n xs :=
  ⟨h.1, fun j x hj => by
    obtain ⟨g, o, s0, l0, c0, rfl, b0, b1, hl, hr⟩ := h.2 j x hj
    obtain ⟨rfl, hB, _, cs, hg, _⟩ := hs.addr
    have sv := cell_slice hw hB hg (by rw [Nat.zero_add]; exact lay2) b1
    have e : ∀ i, w'.cell? ⟨g, i, none⟩ = cs[i]? := fun i => cell_of (h49 g cs _ hg)
    refine ⟨g, 0, s0, l0, c0, rfl, ?_, ?_, hl, hr.keep sv h3⟩ <;> (rw [e, ← cell_of hg]; assumption)⟩
/-- A list of all the elements that a row has. -/
theorem list_of {α : Type} (P : Nat → α → Prop) : ∀ n : Nat, (∀ j, j < n → ∃ x, P j x) → ∃ xs : List α, n = xs.length ∧ ∀ j x, xs[j]? = some x → P j x := by
  intro n
  induction n with
  | zero => intro _; exact ⟨[], rfl, fun j x h => by simp at h⟩
  | succ n ih =>
    intro h
    obtain ⟨xs, h1, h2⟩ := ih fun j hj => h j (by omega)
    obtain ⟨x, hx⟩ := h n (by omega)
    refine ⟨xs ++ [x], by simp; omega, fun j y hy => ?_⟩
    rw [List.getElem?_append] at hy
    split at hy
    · exact h2 j y hy
    · rename_i hge
      have hj : j = n := by
        have := (List.getElem?_eq_some_iff.1 hy).1
        simp only [List.length_singleton] at this; omega
      subst hj
      rw [← h1, Nat.sub_self] at hy
      cases hy; exact hx
theorem fit_of {B K : Nat} {w : World} (hw : WT B K w) {g e : Nat} {cs : Array Value} (hB : B ≤ g) (hg : w.heap[g]? = some (.cells cs e (0, 0))) {j : Nat} {ck : CK} (hl : layK e j = some ck) (hj : j < cs.size) : ∃ v, w.cell? ⟨g, j, none⟩ = some v ∧ Fits B K w ck v := by
  refine ⟨cs[j], ?_, (hw g cs e _ hB hg j ck hl).2 _ (Array.getElem?_eq_getElem hj)⟩
  rw [cell_of hg, Array.getElem?_eq_getElem hj]
theorem small {K n : Nat} (hK : K ≤ big) (h : n ≤ K) : n ≤ 1099511627776 := by
  have : big = 1073741824 := rfl
  omega
section
variable {B K : Nat} {w : World}
theorem readI {A : Option Addr} {n k : Nat} (hw : WT B K w) (hs : SlV B K w 3 1 (.slice A n k) n) : ∃ xs, RInts w A n xs := by
  refine list_of (fun j z => ∃ g o : Nat, A = some ⟨g, o, none⟩ ∧ w.cell? ⟨g, o + j, none⟩ = some (.int .i64 z)) n fun j hj => ?_
  obtain ⟨h0, ⟨h1, h2⟩ | ⟨g, c, cs, h1, h2, h3, h4, h5⟩⟩ := hs
  · omega
  · cases h1
    obtain ⟨v, hv, z, rfl⟩ := fit_of hw h2 h4 (j := j) (ck := .num) rfl (by omega)
    exact ⟨z, g, 0, rfl, by rw [Nat.zero_add]; exact hv⟩
theorem readO {A : Option Addr} {n k : Nat} (hw : WT B K w) (hK : K ≤ big) (hs : SlV B K w 40 6 (.slice A n k) n) : ∃ xs, ROprs w A n xs := by
  refine list_of (fun j x => ∃ (g o : Nat) (s0 : Option Addr) (l0 c0 : Nat), A = some ⟨g, o, none⟩ ∧
    w.cell? ⟨g, o + j * 6, none⟩ = some (.int .i64 (Opr.code x)) ∧ w.cell? ⟨g, o + j * 6 + 1, none⟩ = some (.int .i64 x.res) ∧ w.cell? ⟨g, o + j * 6 + 2, none⟩ = some (.int .i64 x.a) ∧ w.cell? ⟨g, o + j * 6 + 3, none⟩ = some (.int .i64 x.b) ∧ w.cell? ⟨g, o + j * 6 + 4, none⟩ = some (.int .u16 x.n) ∧ w.cell? ⟨g, o + j * 6 + 5, none⟩ = some (.slice s0 l0 c0) ∧ l0 ≤ 1099511627776 ∧ RInts w s0 l0 x.args) n fun j hj => ?_
  obtain ⟨h0, ⟨h1, h2⟩ | ⟨g, c, cs, h1, h2, h3, h4, h5⟩⟩ := hs
  · omega
  · cases h1
    obtain ⟨_, hv0, z0, rfl⟩ := fit_of hw h2 h4 (j := j * 6 + 0) (ck := .num) lay6 (by omega)
    obtain ⟨_, hv1, z1, rfl⟩ := fit_of hw h2 h4 (j := j * 6 + 1) (ck := .num) lay6 (by omega)
    obtain ⟨_, hv2, z2, rfl⟩ := fit_of hw h2 h4 (j := j * 6 + 2) (ck := .num) lay6 (by omega)
    obtain ⟨_, hv3, z3, rfl⟩ := fit_of hw h2 h4 (j := j * 6 + 3) (ck := .num) lay6 (by omega)
    obtain ⟨_, hv4, z4, rfl⟩ := fit_of hw h2 h4 (j := j * 6 + 4) (ck := .word) lay6 (by omega)
    obtain ⟨_, hv5, l0, sv⟩ := fit_of hw h2 h4 (j := j * 6 + 5) (ck := .sl 3 1) lay6 (by omega)
    obtain ⟨s0, c0, rfl⟩ := sv.form
    obtain ⟨us, ha⟩ := readI hw sv
    refine ⟨⟨z0, z1, z2, z3, z4, us⟩, g, 0, s0, l0, c0, rfl, ?_, ?_, ?_, ?_, ?_, ?_, small hK sv.1, ha⟩ <;> (rw [Nat.zero_add]; assumption)
theorem readE {A : Option Addr} {n k : Nat} (hw : WT B K w) (hK : K ≤ big) (hs : SlV B K w 49 2 (.slice A n k) n) : ∃ xs, REdgs w A n xs := by
  refine list_of (fun j x => ∃ (g o : Nat) (s0 : Option Addr) (l0 c0 : Nat), A = some ⟨g, o, none⟩ ∧ w.cell? ⟨g, o + j * 2, none⟩ = some (.int .i64 (Edg.block x)) ∧
    w.cell? ⟨g, o + j * 2 + 1, none⟩ = some (.slice s0 l0 c0) ∧ l0 ≤ 1099511627776 ∧ RInts w s0 l0 x.args) n fun j hj => ?_
  obtain ⟨h0, ⟨h1, h2⟩ | ⟨g, c, cs, h1, h2, h3, h4, h5⟩⟩ := hs
  · omega
  · cases h1
    obtain ⟨_, hv0, z0, rfl⟩ := fit_of hw h2 h4 (j := j * 2 + 0) (ck := .num) lay2 (by omega)
    obtain ⟨_, hv1, l0, sv⟩ := fit_of hw h2 h4 (j := j * 2 + 1) (ck := .sl 3 1) lay2 (by omega)
    obtain ⟨s0, c0, rfl⟩ := sv.form
    obtain ⟨us, ha⟩ := readI hw sv
    refine ⟨⟨z0, us⟩, g, 0, s0, l0, c0, rfl, ?_, ?_, small hK sv.1, ha⟩ <;> (rw [Nat.zero_add]; assumption)
theorem readB {A : Option Addr} {n k : Nat} (hw : WT B K w) (hK : K ≤ big) (hs : SlV B K w 46 5 (.slice A n k) n) : ∃ xs, RBlks w A n xs := by
  refine list_of (fun j x => ∃ (g o : Nat) (s0 : Option Addr) (l0 c0 : Nat) (s1 : Option Addr) (l1 c1 : Nat) (s2 : Option Addr) (l2 c2 : Nat), A = some ⟨g, o, none⟩ ∧
    w.cell? ⟨g, o + j * 5, none⟩ = some (.slice s0 l0 c0) ∧ w.cell? ⟨g, o + j * 5 + 1, none⟩ = some (.slice s1 l1 c1) ∧ w.cell? ⟨g, o + j * 5 + 2, none⟩ = some (.int .i64 (Blk.kind x)) ∧ w.cell? ⟨g, o + j * 5 + 3, none⟩ = some (.int .i64 x.a) ∧ w.cell? ⟨g, o + j * 5 + 4, none⟩ = some (.slice s2 l2 c2) ∧ l0 ≤ 1099511627776 ∧ RInts w s0 l0 x.params ∧ l1 ≤ 1099511627776 ∧ ROprs w s1 l1 x.ops ∧ l2 ≤ 1099511627776 ∧ REdgs w s2 l2 x.to) n fun j hj => ?_
  obtain ⟨h0, ⟨h1, h2⟩ | ⟨g, c, cs, h1, h2, h3, h4, h5⟩⟩ := hs
  · omega
  · cases h1
    obtain ⟨_, hv0, l0, sv0⟩ := fit_of hw h2 h4 (j := j * 5 + 0) (ck := .sl 3 1) lay5 (by omega)
    obtain ⟨_, hv1, l1, sv1⟩ := fit_of hw h2 h4 (j := j * 5 + 1) (ck := .sl 40 6) lay5 (by omega)
    obtain ⟨_, hv2, z2, rfl⟩ := fit_of hw h2 h4 (j := j * 5 + 2) (ck := .num) lay5 (by omega)
    obtain ⟨_, hv3, z3, rfl⟩ := fit_of hw h2 h4 (j := j * 5 + 3) (ck := .num) lay5 (by omega)
    obtain ⟨_, hv4, l4, sv4⟩ := fit_of hw h2 h4 (j := j * 5 + 4) (ck := .sl 49 2) lay5 (by omega)
    obtain ⟨s0, c0, rfl⟩ := sv0.form
    obtain ⟨s1, c1, rfl⟩ := sv1.form
    obtain ⟨s4, c4, rfl⟩ := sv4.form
    obtain ⟨ps, hp⟩ := readI hw sv0
    obtain ⟨os, ho⟩ := readO hw hK sv1
    obtain ⟨es, he⟩ := readE hw hK sv4
    refine ⟨⟨ps, os, z2, z3, es⟩, g, 0, s0, l0, c0, s1, l1, c1, s4, l4, c4, rfl, ?_, ?_, ?_, ?_, ?_, small hK sv0.1, hp, small hK sv1.1, ho, small hK sv4.1, he⟩ <;> (rw [Nat.zero_add]; assumption)
end
end Go.Proofs.YtahljbkaemhpcaaGreat
