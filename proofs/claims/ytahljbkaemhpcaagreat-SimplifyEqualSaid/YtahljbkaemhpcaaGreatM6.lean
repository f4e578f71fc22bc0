/- The maker: end. -/
import Derived.Test.YtahljbkaemhpcaaGreatM4
/- The maker: the program under construction; address. -/
namespace Go.Proofs.YtahljbkaemhpcaaGreat
open Go.RowKit
set_option linter.unusedVariables false
/-- What is known of the program that is being made. -/
structure PG (c : Cx) (w : World) : Prop where
  prog : ∃ (fa : Option Addr) (fc dc ca : Nat) (bv : Value), w.heap[c.p]? = some (.cells #[.slice fa c.n fc, .slice (some ⟨c.pa, 0, none⟩) c.n ca, .int .i64 0, .int .i64 c.h, .slice (some ⟨c.pd, 0, none⟩) 3 dc, bv] 29 (0, 0))
  args : ∃ cs, w.heap[c.pa]? = some (.cells cs 3 (0, 0)) ∧ ∀ j, j < c.n → ∃ a : Nat, a ≤ 3 ∧ cs[j]? = some (.int .i64 a)
  data : ∃ cs, w.heap[c.pd]? = some (.cells cs 53 (0, 0)) ∧ cs[2]? = some (.int .u16 16) ∧ cs[5]? = some (.int .u16 7)
  me : c.me < c.n
  n : c.n ≤ 4
theorem PG.on {c : Cx} {w w' : World} (h : PG c w) (hf : Fr c w w') : PG c w' := by
  obtain ⟨⟨fa, fc, dc, ca, bv, h1⟩, ⟨cs, h2, h3⟩, ⟨cd, h4, h5, h6⟩, h7, h8⟩ := h
  exact ⟨⟨fa, fc, dc, ca, bv, hf.far _ _ _ _ h1 (by decide) (by decide) (by decide) (by decide)⟩, ⟨cs, (hf.pa (heap_lt h2)).trans h2, h3⟩, ⟨cd, hf.far _ _ _ _ h4 (by decide) (by decide) (by decide) (by decide), h5, h6⟩, h7, h8⟩
theorem St.m2 {c : Cx} {w0 w : World} {d0 : Mk} {K : Nat} (h : St c w0 d0 K w) : w.cell? ⟨c.m, 2, none⟩ = some (.pointer (some ⟨c.p, 0, none⟩)) := by
  obtain ⟨d, hk, _⟩ := h
  rw [hk.cell 2]; rfl
theorem St.m3 {c : Cx} {w0 w : World} {d0 : Mk} {K : Nat} (h : St c w0 d0 K w) : w.cell? ⟨c.m, 3, none⟩ = some (.int .i64 c.me) := by
  obtain ⟨d, hk, _⟩ := h
  rw [hk.cell 3]; rfl
set_option maxHeartbeats 4000000 in
theorem address_st (c : Cx) (w0 w : World) (d0 : Mk) (K : Nat) (h : St c w0 d0 K w) (hp : PG c w0) (hK : K + 6 ≤ big) (hcur : d0.cur < d0.PL.length) : Calls Tryz.prog 90 #[.pointer (some ⟨c.m, 0, none⟩)] w (Ret c w0 d0 (K + 6)) := by
  have hK1 : K + 1 ≤ big := by omega
  have hK2 : K + 1 + 1 ≤ big := by omega
  have hK3 : K + 1 + 1 + 1 ≤ big := by omega
  have hK5 : K + 1 + 4 ≤ big := by omega
  have hK6 : K + 1 + 1 + 1 + 3 ≤ big := by omega
  have HP := Lib.hid hp
  clear hp
  go_enter Tryz.func90, Tryz.ntmps90
  go_wp2_with (first
    | (go_at_call 12; (with_reducible refine (take_st h hK1 24 (by decide) (by decide)).mono ?_); rintro e w1 ⟨r1, a1, b1, rfl, h1⟩)
    | (go_at_call 15; (with_reducible refine (any_st c w0 w1 d0 _ h1 hK5 hcur).mono ?_); rintro e w2 ⟨r2, rfl, h2⟩)
    | (go_at_call 12; (with_reducible refine (take_st h1 hK2 2 (by decide) (by decide)).mono ?_); rintro e w2 ⟨r2, a2, b2, rfl, h2⟩; obtain ⟨fa, fc, dc, ca, bv, hpr⟩ := (HP.out.on h2.wt).prog; obtain ⟨cd, hcd, hcd2, hcd5⟩ := (HP.out.on h2.wt).data; have m2 := h2.m2; have p4 : w2.cell? ⟨c.p, 4, none⟩ = some (.slice (some ⟨c.pd, 0, none⟩) 3 dc) := cell_of hpr; have hr2 : r2 = 0 ∨ r2 = 1 := (by omega); have q0 : w2.cell? ⟨c.pd, 2, none⟩ = some (.int .u16 16) := (cell_of hcd).trans hcd2; have q1 : w2.cell? ⟨c.pd, 5, none⟩ = some (.int .u16 7) := (cell_of hcd).trans hcd5; have HD := Lib.hid hpr; clear hpr hcd hcd2 hcd5; rcases hr2 with rfl | rfl)
    | (go_at_call 12; (with_reducible refine (take_st h2 hK3 15 (by decide) (by decide)).mono ?_); rintro e w3 ⟨r3, a3, b3, rfl, h3⟩)
    | (go_at_call 12; (with_reducible refine (take_st h2 hK3 6 (by decide) (by decide)).mono ?_); rintro e w3 ⟨r3, a3, b3, rfl, h3⟩)
    | (go_at_call 89; refine (emit_plain h3 hK6 hcur _ _ _ _ _).mono ?_; rintro e w4 ⟨r4, rfl, h4⟩))
  all_goals go_ret
  all_goals first
    | exact ⟨r4, rfl, h4.more (by omega) hK⟩
    | exact ⟨r2, rfl, h2.more (by omega) hK⟩
end Go.Proofs.YtahljbkaemhpcaaGreat
namespace Go.Proofs.YtahljbkaemhpcaaGreat
open Go.RowKit
set_option linter.unusedVariables false
/-- A block has been laid back. -/
theorem afterE {c : Cx} {K : Nat} {w : World} {d : Mk} {gB cB : Nat} {csB : Array Value} {A0 A1 At : Option Addr} {n0 n1 nt k0 k1 kt : Nat} {z0 z1 : Int} (h : MK c K w d) (hbl : d.bl = .slice (some ⟨gB, 0, none⟩) d.PL.length cB)
    (hB : w.heap[gB]? = some (.cells csB 46 (0, 0))) (hv0 : csB[d.cur * 5]? = some (.slice A0 n0 k0)) (t0 : SlV c.B K w 3 1 (.slice A0 n0 k0) n0) (t1 : SlV c.B K w 40 6 (.slice A1 n1 k1) n1) (tt : SlV c.B K w 49 2 (.slice At nt kt) nt) (hBg : c.B ≤ gB) :
    ∀ w6, w6 = (((((w.setCell ⟨gB, d.cur * 5, none⟩ (.slice A0 n0 k0)).setCell ⟨gB, d.cur * 5 + 1, none⟩ (.slice A1 n1 k1)).setCell ⟨gB, d.cur * 5 + 2, none⟩ (.int .i64 z0)).setCell ⟨gB, d.cur * 5 + 3, none⟩ (.int .i64 z1)).setCell ⟨gB, d.cur * 5 + 4, none⟩ (.slice At nt kt)) →
      MK c K w6 d ∧ Fr c w w6 ∧ Shape w w6 := by
  rintro w6 rfl
  have hgpa : gB ≠ c.pa := by
    rintro e
    obtain ⟨cs, h1⟩ := h.paT
    rw [← e, hB] at h1; cases h1
  have a0 : Shape w w := Shape.refl _
  have a1 := a0.setCell ⟨gB, d.cur * 5, none⟩ rfl (.slice A0 n0 k0)
  have a2 := a1.setCell ⟨gB, d.cur * 5 + 1, none⟩ rfl (.slice A1 n1 k1)
  have a3 := a2.setCell ⟨gB, d.cur * 5 + 2, none⟩ rfl (.int .i64 z0)
  have a4 := a3.setCell ⟨gB, d.cur * 5 + 3, none⟩ rfl (.int .i64 z1)
  have a5 := a4.setCell ⟨gB, d.cur * 5 + 4, none⟩ rfl (.slice At nt kt)
  have c0 : w.cell? ⟨gB, d.cur * 5, none⟩ = some (.slice A0 n0 k0) := by rw [cell_of hB, hv0]
  have m1 := h.setB (o := d.cur * 5) (v := .slice A0 n0 k0) hbl (fun ck hl => by rw [← Nat.add_zero (d.cur * 5), lay5] at hl; cases hl; exact ⟨_, t0⟩) (fun j _ _ => c0)
  have m2 := m1.setB (o := d.cur * 5 + 1) (v := .slice A1 n1 k1) hbl (fun ck hl => by rw [lay5] at hl; cases hl; exact ⟨_, t1.on a1 (Nat.le_refl _)⟩) (fun j h _ => by omega)
  have m3 := m2.setB (o := d.cur * 5 + 2) (v := .int .i64 z0) hbl (fun ck hl => by rw [lay5] at hl; cases hl; exact ⟨_, rfl⟩) (fun j h _ => by omega)
  have m4 := m3.setB (o := d.cur * 5 + 3) (v := .int .i64 z1) hbl (fun ck hl => by rw [lay5] at hl; cases hl; exact ⟨_, rfl⟩) (fun j h _ => by omega)
  have m5 := m4.setB (o := d.cur * 5 + 4) (v := .slice At nt kt) hbl (fun ck hl => by rw [lay5] at hl; cases hl; exact ⟨_, tt.on a4 (Nat.le_refl _)⟩) (fun j h _ => by omega)
  have b46 : ∀ w', Shape w w' → ∃ cs e fr, w'.heap[gB]? = some (.cells cs e fr) ∧ (e = 3 ∨ e = 40 ∨ e = 46 ∨ e = 56) := fun w' h => by
    obtain ⟨cs, h1, _⟩ := h _ _ _ _ hB
    exact ⟨cs, _, _, h1, .inr (.inr (.inl rfl))⟩
  exact ⟨m5, (((((Fr.refl c w).setCell gB _ _ hBg hgpa (.inr (b46 _ a0))).setCell gB _ _ hBg hgpa (.inr (b46 _ a1))).setCell gB _ _ hBg hgpa (.inr (b46 _ a2))).setCell gB _ _ hBg hgpa (.inr (b46 _ a3))).setCell gB _ _ hBg hgpa (.inr (b46 _ a4)), a5⟩
def EndP (c : Cx) (K : Nat) (w : World) (d : Mk) (e : Ending) (w' : World) : Prop := e = .returned (.tuple #[]) ∧ MK c K w' d ∧ Fr c w w'
set_option maxRecDepth 100000 in
set_option maxHeartbeats 4000000 in
theorem end_mk (c : Cx) (K : Nat) (w : World) (d : Mk) (h : MK c K w d) (hcur : d.cur < d.PL.length) (z0 z1 : Int) (At : Option Addr) (nt kt : Nat) (hto : SlV c.B K w 49 2 (.slice At nt kt) nt) :
    Calls Tryz.prog 16 #[.pointer (some ⟨c.m, 0, none⟩), .agg #[.int .i64 z0, .int .i64 z1, .slice At nt kt]] w (EndP c K w d) := by
  obtain ⟨gB, cB, hbl⟩ : ∃ g cc, d.bl = .slice (some ⟨g, 0, none⟩) d.PL.length cc := by
    obtain ⟨g, cc, v, e1, _⟩ := h.pls d.cur _ (List.getElem?_eq_getElem hcur)
    exact ⟨g, cc, e1⟩
  obtain ⟨csB, hgB, hBg, hszB⟩ := h.blLt hbl
  obtain ⟨A0, A1, A4, n0, n1, n4, k0, k1, k4, y2, y3, hv0, hv1, hv2, hv3, hv4, sv0, sv1, sv4⟩ := blk_cells h.wt hBg hgB (k := d.cur) (by omega)
  have lB := heap_lt hgB
  have lm := heap_lt h.blk
  have b0 : w.cell? ⟨gB, d.cur * 5, none⟩ = some (.slice A0 n0 k0) := (cell_of hgB).trans hv0
  have b1 : w.cell? ⟨gB, d.cur * 5 + 1, none⟩ = some (.slice A1 n1 k1) := (cell_of hgB).trans hv1
  have b2 : w.cell? ⟨gB, d.cur * 5 + 2, none⟩ = some (.int .i64 y2) := (cell_of hgB).trans hv2
  have b3 : w.cell? ⟨gB, d.cur * 5 + 3, none⟩ = some (.int .i64 y3) := (cell_of hgB).trans hv3
  have b4 : w.cell? ⟨gB, d.cur * 5 + 4, none⟩ = some (.slice A4 n4 k4) := (cell_of hgB).trans hv4
  have m4 : w.cell? ⟨c.m, 4, none⟩ = some (.slice (some ⟨gB, 0, none⟩) d.PL.length cB) := by rw [h.cell 4]; simp [mkCells, hbl]
  have m5 : w.cell? ⟨c.m, 5, none⟩ = some (.int .i64 d.cur) := by rw [h.cell 5]; rfl
  have u0 : w.frozen? ⟨gB, d.cur * 5, none⟩ = false := by simp [World.frozen?, hgB]
  have u1 : w.frozen? ⟨gB, d.cur * 5 + 1, none⟩ = false := by simp [World.frozen?, hgB]
  have u2 : w.frozen? ⟨gB, d.cur * 5 + 2, none⟩ = false := by simp [World.frozen?, hgB]
  have u3 : w.frozen? ⟨gB, d.cur * 5 + 3, none⟩ = false := by simp [World.frozen?, hgB]
  have u4 : w.frozen? ⟨gB, d.cur * 5 + 4, none⟩ = false := by simp [World.frozen?, hgB]
  have hc0 : (0 : Int) ≤ (d.cur : Int) := by omega
  have hc1 : (d.cur : Int) < (d.PL.length : Int) := by omega
  have H := Lib.hid h; have HBL := Lib.hid hbl; have HG := Lib.hid hgB; have HV0 := Lib.hid hv0; have S0 := Lib.hid sv0; have S1 := Lib.hid sv1; have S4 := Lib.hid sv4; have HT := Lib.hid hto
  clear h hbl hgB hv0 hv1 hv2 hv3 hv4 sv0 sv1 sv4 hto
  go_enter Tryz.func16, Tryz.ntmps16
  go_wp2_with fail
  go_region
  go_wp2_with fail
  go_region
  go_wp2_with fail
  go_end0
  have hE := afterE H.out HBL.out HG.out HV0.out S0.out S1.out HT.out (z0 := z0) (z1 := z1) hBg _ rfl
  have sh := hE.2.2
  have hwt1 := hE.1.wt.allocOther (.cells #[.int .i64 z0, .int .i64 z1, .slice At nt kt] 44) (other_typed rfl (fun _ => rfl))
  have m1 := hE.1.alloc _ hwt1
  have hwt2 := hwt1.alloc #[.slice A0 n0 k0, .slice A1 n1 k1, .int .i64 z0, .int .i64 z1, .slice At nt kt] 46 (blk_typed (S0.out.on (sh.alloc _) (Nat.le_refl _)) (S1.out.on (sh.alloc _) (Nat.le_refl _)) (HT.out.on (sh.alloc _) (Nat.le_refl _)))
  exact ⟨rfl, (m1.alloc _ hwt2).drew.drew, ((hE.2.1.alloc hE.1.size _).alloc m1.size _).drew.drew⟩
end Go.Proofs.YtahljbkaemhpcaaGreat
