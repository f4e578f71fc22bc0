/- A copy of a function: appends to what has been copied. -/
import Derived.Test.YtahljbkaemhpcaaGreatN1
namespace Go.Proofs.YtahljbkaemhpcaaGreat
open Go.RowKit
set_option linter.unusedVariables false
section
variable {B K K' : Nat} {w w' : World}
theorem App.row {e sz n m c9 : Nat} {s x : Value} {A9 : Option Addr} (h : App B K w w' e sz s x n m (.slice A9 (n + m) c9)) (hp : 0 < n + m) : ∃ g9, A9 = some ⟨g9, 0, none⟩ := by
  obtain ⟨_, ⟨_, e⟩ | ⟨g, _, _, e, _⟩⟩ := h.slv
  · omega
  · cases e; exact ⟨_, rfl⟩
theorem RInts.copy {A : Option Addr} {n k : Nat} {v : Value} {xs : List Int} (h : RInts w A n xs) (hs : SlV B K' w 3 1 (.slice A n k) n) (ha : App B K w w' 3 1 (.slice none 0 0) (.slice A n k) 0 n v) :
    ∃ A9 c9, v = .slice A9 n c9 ∧ SlV B K w' 3 1 (.slice A9 n c9) n ∧ RInts w' A9 n xs ∧ ∀ g, Value.ownBlock (.slice A9 n c9) = some g → g = w.heap.size := by
  have hv := ha.slv
  rw [Nat.zero_add] at hv
  obtain ⟨A9, c9, rfl⟩ := hv.form
  refine ⟨A9, c9, rfl, hv, ⟨h.1, fun j z hj => ?_⟩, fun g hg => ?_⟩
  · have hjn : j < n := by rw [h.1]; exact (List.getElem?_eq_some_iff.1 hj).1
    obtain ⟨g, o, rfl, hc⟩ := h.2 j z hj
    obtain ⟨rfl, _⟩ := hs.addr
    obtain ⟨g9, rfl⟩ : ∃ g9, A9 = some ⟨g9, 0, none⟩ := by
      obtain ⟨_, ⟨_, e⟩ | ⟨g, _, _, e, _⟩⟩ := hv
      · omega
      · cases e; exact ⟨_, rfl⟩
    have := ha.new g k g9 c9 rfl (by rw [Nat.zero_add]) j (by omega)
    rw [Nat.zero_mul, Nat.zero_add] at this
    exact ⟨g9, 0, rfl, by rw [Nat.zero_add, this, ← hc, Nat.zero_add]⟩
  · rcases ha.home with e | e
    · rw [e, own_none] at hg; cases hg
    · rw [e] at hg; cases hg; rfl
theorem ROprs.app {A A9 : Option Addr} {k ca c9 gx : Nat} {xs : List Opr} {x : Opr} {sa : Option Addr} {la cc : Nat} (h : ROprs w A k xs) (hw : WT B K' w) (hs : SlV B K' w 40 6 (.slice A k ca) k) (ha : App B K w w' 40 6 (.slice A k ca) (.slice (some ⟨gx, 0, none⟩) 1 1) k 1 (.slice A9 (k + 1) c9))
    (hx : w.heap[gx]? = some (.cells #[.int .i64 x.code, .int .i64 x.res, .int .i64 x.a, .int .i64 x.b, .int .u16 x.n, .slice sa la cc] 40 (0, 0))) (hl : la ≤ 1099511627776) (hsa : SlV B K' w 3 1 (.slice sa la cc) la) (hr : RInts w sa la x.args) : ROprs w' A9 (k + 1) (xs ++ [x]) := by
  have k3 : Keeps 3 w w' := ha.keeps hs (by decide)
  obtain ⟨g9, rfl⟩ := ha.row (by omega)
  refine ⟨by rw [List.length_append, ← h.1]; rfl, fun j u hj => ?_⟩
  rw [List.getElem?_append] at hj
  split at hj
  · rename_i hlt
    have hjk : j < k := by rw [h.1]; exact hlt
    obtain ⟨g, o, s0, l0, c0, rfl, b0, b1, b2, b3, b4, b5, hl', hr'⟩ := h.2 j u hj
    obtain ⟨rfl, hB, _, cs, hg, _⟩ := hs.addr
    have sv := cell_slice hw hB hg (by rw [Nat.zero_add]; exact lay6) b5
    have e : ∀ i, i < 6 → w'.cell? ⟨g9, j * 6 + i, none⟩ = w.cell? ⟨g, j * 6 + i, none⟩ := fun i hi => ha.old g ca g9 c9 rfl rfl (j * 6 + i) (by omega)
    refine ⟨g9, 0, s0, l0, c0, rfl, ?_, ?_, ?_, ?_, ?_, ?_, hl', hr'.keep sv k3⟩
    · have := e 0 (by omega); rw [Nat.add_zero] at this; rw [Nat.zero_add] at b0 ⊢; rw [this]; exact b0
    · rw [Nat.zero_add] at b1 ⊢; rw [e 1 (by omega)]; exact b1
    · rw [Nat.zero_add] at b2 ⊢; rw [e 2 (by omega)]; exact b2
    · rw [Nat.zero_add] at b3 ⊢; rw [e 3 (by omega)]; exact b3
    · rw [Nat.zero_add] at b4 ⊢; rw [e 4 (by omega)]; exact b4
    · rw [Nat.zero_add] at b5 ⊢; rw [e 5 (by omega)]; exact b5
  · rename_i hge
    have hjk : j = k := by
      have := (List.getElem?_eq_some_iff.1 hj).1
      simp only [List.length_singleton] at this
      have := h.1; omega
    subst hjk
    rw [← h.1, Nat.sub_self] at hj
    cases hj
    have e : ∀ i, i < 6 → w'.cell? ⟨g9, j * 6 + i, none⟩ = w.cell? ⟨gx, i, none⟩ := fun i hi => ha.new gx 1 g9 c9 rfl rfl i (by omega)
    refine ⟨g9, 0, sa, la, cc, rfl, ?_, ?_, ?_, ?_, ?_, ?_, hl, hr.keep hsa k3⟩
    · have := e 0 (by omega); rw [Nat.add_zero] at this; rw [Nat.zero_add, this]; exact cell_of hx
    · rw [Nat.zero_add, e 1 (by omega)]; exact cell_of hx
    · rw [Nat.zero_add, e 2 (by omega)]; exact cell_of hx
    · rw [Nat.zero_add, e 3 (by omega)]; exact cell_of hx
    · rw [Nat.zero_add, e 4 (by omega)]; exact cell_of hx
    · rw [Nat.zero_add, e 5 (by omega)]; exact cell_of hx
theorem REdgs.app {A A9 : Option Addr} {k ca c9 gx : Nat} {xs : List Edg} {x : Edg} {sa : Option Addr} {la cc : Nat} (h : REdgs w A k xs) (hw : WT B K' w) (hs : SlV B K' w 49 2 (.slice A k ca) k) (ha : App B K w w' 49 2 (.slice A k ca) (.slice (some ⟨gx, 0, none⟩) 1 1) k 1 (.slice A9 (k + 1) c9))
    (hx : w.heap[gx]? = some (.cells #[.int .i64 x.block, .slice sa la cc] 49 (0, 0))) (hl : la ≤ 1099511627776) (hsa : SlV B K' w 3 1 (.slice sa la cc) la) (hr : RInts w sa la x.args) : REdgs w' A9 (k + 1) (xs ++ [x]) := by
  have k3 : Keeps 3 w w' := ha.keeps hs (by decide)
  obtain ⟨g9, rfl⟩ := ha.row (by omega)
  refine ⟨by rw [List.length_append, ← h.1]; rfl, fun j u hj => ?_⟩
  rw [List.getElem?_append] at hj
  split at hj
  · rename_i hlt
    have hjk : j < k := by rw [h.1]; exact hlt
    obtain ⟨g, o, s0, l0, c0, rfl, b0, b1, hl', hr'⟩ := h.2 j u hj
    obtain ⟨rfl, hB, _, cs, hg, _⟩ := hs.addr
    have sv := cell_slice hw hB hg (by rw [Nat.zero_add]; exact lay2) b1
    have e : ∀ i, i < 2 → w'.cell? ⟨g9, j * 2 + i, none⟩ = w.cell? ⟨g, j * 2 + i, none⟩ := fun i hi => ha.old g ca g9 c9 rfl rfl (j * 2 + i) (by omega)
    refine ⟨g9, 0, s0, l0, c0, rfl, ?_, ?_, hl', hr'.keep sv k3⟩
    · have := e 0 (by omega); rw [Nat.add_zero] at this; rw [Nat.zero_add] at b0 ⊢; rw [this]; exact b0
    · rw [Nat.zero_add] at b1 ⊢; rw [e 1 (by omega)]; exact b1
  · rename_i hge
    have hjk : j = k := by
      have := (List.getElem?_eq_some_iff.1 hj).1
      simp only [List.length_singleton] at this
      have := h.1; omega
    subst hjk
    rw [← h.1, Nat.sub_self] at hj
    cases hj
    have e : ∀ i, i < 2 → w'.cell? ⟨g9, j * 2 + i, none⟩ = w.cell? ⟨gx, i, none⟩ := fun i hi => ha.new gx 1 g9 c9 rfl rfl i (by omega)
    refine ⟨g9, 0, sa, la, cc, rfl, ?_, ?_, hl, hr.keep hsa k3⟩
    · have := e 0 (by omega); rw [Nat.add_zero] at this; rw [Nat.zero_add, this]; exact cell_of hx
    · rw [Nat.zero_add, e 1 (by omega)]; exact cell_of hx
theorem RBlks.app {A A9 : Option Addr} {k ca c9 gx : Nat} {xs : List Blk} {x : Blk} {s0 s1 s2 : Option Addr} {l0 c0 l1 c1 l2 c2 : Nat} (h : RBlks w A k xs) (hw : WT B K' w) (hs : SlV B K' w 46 5 (.slice A k ca) k) (ha : App B K w w' 46 5 (.slice A k ca) (.slice (some ⟨gx, 0, none⟩) 1 1) k 1 (.slice A9 (k + 1) c9))
    (hx : w.heap[gx]? = some (.cells #[.slice s0 l0 c0, .slice s1 l1 c1, .int .i64 x.kind, .int .i64 x.a, .slice s2 l2 c2] 46 (0, 0)))
    (a0 : l0 ≤ 1099511627776) (t0 : SlV B K' w 3 1 (.slice s0 l0 c0) l0) (r0 : RInts w s0 l0 x.params) (a1 : l1 ≤ 1099511627776) (t1 : SlV B K' w 40 6 (.slice s1 l1 c1) l1) (r1 : ROprs w s1 l1 x.ops) (a2 : l2 ≤ 1099511627776) (t2 : SlV B K' w 49 2 (.slice s2 l2 c2) l2) (r2 : REdgs w s2 l2 x.to) : RBlks w' A9 (k + 1) (xs ++ [x]) := by
  have k3 : Keeps 3 w w' := ha.keeps hs (by decide)
  have k40 : Keeps 40 w w' := ha.keeps hs (by decide)
  have k49 : Keeps 49 w w' := ha.keeps hs (by decide)
  obtain ⟨g9, rfl⟩ := ha.row (by omega)
  refine ⟨by rw [List.length_append, ← h.1]; rfl, fun j u hj => ?_⟩
  rw [List.getElem?_append] at hj
  split at hj
  · rename_i hlt
    have hjk : j < k := by rw [h.1]; exact hlt
    obtain ⟨g, o, s0, l0, c0, s1, l1, c1, s2, l2, c2, rfl, b0, b1, b2, b3, b4, q0, p0, q1, p1, q2, p2⟩ := h.2 j u hj
    obtain ⟨rfl, hB, _, cs, hg, _⟩ := hs.addr
    have e : ∀ i, i < 5 → w'.cell? ⟨g9, j * 5 + i, none⟩ = w.cell? ⟨g, j * 5 + i, none⟩ := fun i hi => ha.old g ca g9 c9 rfl rfl (j * 5 + i) (by omega)
    rw [Nat.zero_add] at b0 b1 b2 b3 b4
    have v0 := cell_slice hw hB hg (j := j * 5) (by rw [← Nat.add_zero (j * 5)]; exact lay5) b0
    have v1 := cell_slice hw hB hg lay5 b1
    have v4 := cell_slice hw hB hg lay5 b4
    refine ⟨g9, 0, s0, l0, c0, s1, l1, c1, s2, l2, c2, rfl, ?_, ?_, ?_, ?_, ?_, q0, p0.keep v0 k3, q1, p1.keep hw v1 k3 k40, q2, p2.keep hw v4 k3 k49⟩
    · have := e 0 (by omega); rw [Nat.add_zero] at this; rw [Nat.zero_add, this]; exact b0
    · rw [Nat.zero_add, e 1 (by omega)]; exact b1
    · rw [Nat.zero_add, e 2 (by omega)]; exact b2
    · rw [Nat.zero_add, e 3 (by omega)]; exact b3
    · rw [Nat.zero_add, e 4 (by omega)]; exact b4
  · rename_i hge
    have hjk : j = k := by
      have := (List.getElem?_eq_some_iff.1 hj).1
      simp only [List.length_singleton] at this
      have := h.1; omega
    subst hjk
    rw [← h.1, Nat.sub_self] at hj
    cases hj
    have e : ∀ i, i < 5 → w'.cell? ⟨g9, j * 5 + i, none⟩ = w.cell? ⟨gx, i, none⟩ := fun i hi => ha.new gx 1 g9 c9 rfl rfl i (by omega)
    refine ⟨g9, 0, s0, l0, c0, s1, l1, c1, s2, l2, c2, rfl, ?_, ?_, ?_, ?_, ?_, a0, r0.keep t0 k3, a1, r1.keep hw t1 k3 k40, a2, r2.keep hw t2 k3 k49⟩
    · have := e 0 (by omega); rw [Nat.add_zero] at this; rw [Nat.zero_add, this]; exact cell_of hx
    · rw [Nat.zero_add, e 1 (by omega)]; exact cell_of hx
    · rw [Nat.zero_add, e 2 (by omega)]; exact cell_of hx
    · rw [Nat.zero_add, e 3 (by omega)]; exact cell_of hx
    · rw [Nat.zero_add, e 4 (by omega)]; exact cell_of hx
end
end Go.Proofs.YtahljbkaemhpcaaGreat
