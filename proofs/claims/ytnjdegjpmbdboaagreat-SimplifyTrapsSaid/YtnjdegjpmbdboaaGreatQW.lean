/- load: values are counted. -/
import Derived.Test.YtnjdegjpmbdboaaGreatQV
namespace Go.Proofs.YtnjdegjpmbdboaaGreat
open Go.RowKit
set_option linter.unusedVariables false
set_option maxRecDepth 100000 in
set_option maxHeartbeats 8000000 in
theorem count_any (w : World) (g cg : Nat) (Pp : Option Addr) (pc : Nat) (A : Option Addr) (n c : Nat) (T : Option Addr) (tc : Nat) (l : List Opn) (h : FnAt w g Pp pc A n c T tc l) :
    Calls Tryz.prog 29 #[.agg #[.slice (some ⟨g, 0, none⟩) 1 cg]] w (fun e w' => Low w.heap.size w w' ∧ ∃ z, e = .returned (.int .i64 z)) := by
  have l1 : Low w.heap.size w (w.alloc (.cells #[.slice (some ⟨g, 0, none⟩) 1 cg] 39)) := (Low.refl _ _).alloc (Nat.le_refl _) _
  have a1 := heap_new w (.cells #[.slice (some ⟨g, 0, none⟩) 1 cg] 39)
  have hn12 : n ≤ 12 := h.small
  have H1 := h.low l1
  clear h
  go_enter Tryz.func29, Tryz.ntmps29
  go_upto_region 1 with fail
  generalize w.heap.size = t1 at a1 ⊢
  generalize w.alloc (.cells #[.slice (some ⟨g, 0, none⟩) 1 cg] 39) = w1 at a1 l1 H1 ⊢
  have y1 : w1.cell? ⟨t1, 0, none⟩ = some (.slice (some ⟨g, 0, none⟩) 1 cg) := cell_of a1
  have L1 := Lib.hid l1; have HH := Lib.hid H1
  clear a1 l1 H1
  go_wp2_with fail
  go_loopw [13, 3] (fun i s wr => (i = .int .i64 0 ∧ s = .int .i64 0 ∧ wr = w1) ∨ (i = .int .i64 1 ∧ ∃ z, s = .int .i64 z ∧ Low w.heap.size w wr)) (fun i _ _ => 1 - (intOf i).toNat)
  case atStart => exact .inl ⟨rfl, rfl, rfl⟩
  case round =>
    rcases hrel with ⟨rfl, rfl, rfl⟩ | ⟨rfl, z, rfl, hl⟩
    · obtain ⟨w1, rfl⟩ : ∃ u, u = wr := ⟨_, rfl⟩
      obtain ⟨cs0, r0, r1, r2, r3, r4, r5⟩ := HH.out.row
      obtain ⟨gp, cp, rfl, hpc, hgp, hp0⟩ := HH.out.par
      have p0 : w1.cell? ⟨g, 0, none⟩ = some (.slice (some ⟨gp, 0, none⟩) 1 pc) := (cell_of r0).trans r1
      have p1 : w1.cell? ⟨g, 1, none⟩ = some (.slice A n c) := (cell_of r0).trans r2
      have p2 : w1.cell? ⟨g, 2, none⟩ = some (.int .i64 4) := (cell_of r0).trans r3
      have p3 : w1.cell? ⟨g, 3, none⟩ = some (.int .i64 (-1)) := (cell_of r0).trans r4
      have p4 : w1.cell? ⟨g, 4, none⟩ = some (.slice T 0 tc) := (cell_of r0).trans r5
      have l2 : Low w1.heap.size w1 (w1.alloc (.cells #[.slice (some ⟨gp, 0, none⟩) 1 pc, .slice A n c, .int .i64 4, .int .i64 (-1), .slice T 0 tc] 29)) := (Low.refl _ _).alloc (Nat.le_refl _) _
      have a2 := heap_new w1 (.cells #[.slice (some ⟨gp, 0, none⟩) 1 pc, .slice A n c, .int .i64 4, .int .i64 (-1), .slice T 0 tc] 29)
      have L2 := Lib.hid (L1.out.trans (l2.mono L1.out.size)); have H2 := Lib.hid (HH.out.low l2)
      have q0 := (cell_of (j := 0) (l2.some hgp)).trans hp0
      clear r0 r1 r2 r3 r4 r5 hgp hp0 L1 HH
      go_upto_region 5 with fail
      clear p0 p1 p2 p3 p4 y1 l2
      generalize w1.heap.size = t5 at a2 ⊢
      generalize w1.alloc (.cells #[.slice (some ⟨gp, 0, none⟩) 1 pc, .slice A n c, .int .i64 4, .int .i64 (-1), .slice T 0 tc] 29) = w2 at a2 L2 H2 q0 ⊢
      have y0 : w2.cell? ⟨t5, 0, none⟩ = some (.slice (some ⟨gp, 0, none⟩) 1 pc) := cell_of a2
      have y1 : w2.cell? ⟨t5, 1, none⟩ = some (.slice A n c) := cell_of a2
      clear a2
      go_wp2_with fail
      go_loopw [20, 3] (fun i s wr => (i = .int .i64 0 ∨ i = .int .i64 1) ∧ (∃ z, s = .int .i64 z) ∧ wr = w2) (fun i _ _ => 1 - (intOf i).toNat)
      case atStart => exact ⟨.inl rfl, ⟨_, rfl⟩, rfl⟩
      case round =>
        obtain ⟨rfl | rfl, ⟨z, rfl⟩, rfl⟩ := hrel
        · go_wp2_with fail
          first
            | exact ⟨⟨by simp, by simp, rfl⟩, by decide⟩
            | exact ⟨by simp, by decide⟩
            | (refine ⟨?_, by decide⟩; simp)
        · obtain ⟨w2, rfl⟩ : ∃ u, u = wr := ⟨_, rfl⟩
          go_wp2_with fail
          go_loopw [32, 3] (fun i s wx => ∃ q : Nat, i = .int .i64 q ∧ q ≤ n ∧ (∃ z, s = .int .i64 z) ∧ Low w2.heap.size w2 wx) (fun i _ _ => n - (intOf i).toNat)
          case atStart => exact ⟨0, rfl, by omega, ⟨_, rfl⟩, Low.refl _ _⟩
          case round =>
            obtain ⟨wv, rfl⟩ : ∃ u, u = wr := ⟨_, rfl⟩
            obtain ⟨q, rfl, hq, ⟨z, rfl⟩, hL⟩ := hrel
            have hv := H2.out.low hL
            clear y0 y1 q0
            by_cases hlt : q < n
            · have hlt' : (q : Int) < (n : Int) := by omega
              have hq0 : (0 : Int) ≤ (q : Int) := by omega
              have hqn : (q : Int) ≤ 12 := by omega
              obtain ⟨o, ho⟩ : ∃ o, l[q]? = some o := ⟨_, List.getElem?_eq_getElem (by have := hv.ops.1; omega)⟩
              obtain ⟨ga, cs, rfl, hnc, hg, k0, k1, k2, k3, k4, k5⟩ := hv.ops.2 q o ho
              have c0 : wv.cell? ⟨ga, q * 6, none⟩ = some (.int .i64 o.code) := (cell_of hg).trans k0
              have c1 : wv.cell? ⟨ga, q * 6 + 1, none⟩ = some (.int .i64 o.res) := (cell_of hg).trans k1
              have c2 : wv.cell? ⟨ga, q * 6 + 2, none⟩ = some (.int .i64 0) := (cell_of hg).trans k2
              have c3 : wv.cell? ⟨ga, q * 6 + 3, none⟩ = some (.int .i64 0) := (cell_of hg).trans k3
              have c4 : wv.cell? ⟨ga, q * 6 + 4, none⟩ = some (.int .u16 o.n) := (cell_of hg).trans k4
              have c5 : wv.cell? ⟨ga, q * 6 + 5, none⟩ = some (.slice none 0 0) := (cell_of hg).trans k5
              have l9 : Low wv.heap.size wv (wv.alloc (.cells #[.int .i64 o.code, .int .i64 o.res, .int .i64 0, .int .i64 0, .int .u16 o.n, .slice none 0 0] 33)) := (Low.refl _ _).alloc (Nat.le_refl _) _
              have a9 := heap_new wv (.cells #[.int .i64 o.code, .int .i64 o.res, .int .i64 0, .int .i64 0, .int .u16 o.n, .slice none 0 0] 33)
              have L9 := Lib.hid (hL.trans (l9.mono hL.size))
              clear hv hg k0 k1 k2 k3 k4 k5 hL l9
              go_upto_region 13 with fail
              clear c0 c1 c2 c3 c4 c5
              generalize wv.heap.size = t9 at a9 ⊢
              generalize wv.alloc (.cells #[.int .i64 o.code, .int .i64 o.res, .int .i64 0, .int .i64 0, .int .u16 o.n, .slice none 0 0] 33) = wa at a9 L9 ⊢
              have x1 : wa.cell? ⟨t9, 1, none⟩ = some (.int .i64 o.res) := cell_of a9
              clear a9
              go_wp2_with fail
              exact ⟨⟨q + 1, rfl, hlt, ⟨_, rfl⟩, L9.out⟩, by show n - ((q : Int) + 1).toNat < n - ((q : Int)).toNat; omega⟩
            · have hlt' : ¬ (q : Int) < (n : Int) := by omega
              obtain rfl : q = n := by omega
              have HL := Lib.hid hL
              clear hL hv
              go_wp2_with fail
              exact ⟨.inr ⟨rfl, _, rfl, L2.out.trans (HL.out.mono L2.out.size)⟩, by decide⟩
    · go_wp2_with fail
      go_ret
      exact ⟨hl, z, rfl⟩
end Go.Proofs.YtnjdegjpmbdboaaGreat
