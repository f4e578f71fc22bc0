/- The maker: the functions over its state, from any state behind a first one. -/
import Derived.Test.YtahljbkaemhpcaaGreatM3
import Derived.StillTailTactics
namespace Go.Proofs.YtahljbkaemhpcaaGreat
open Go.RowKit
set_option linter.unusedVariables false
/-- What the functions that emit leave alone. -/
def Same (d d' : Mk) : Prop := d'.PL = d.PL ∧ d'.cur = d.cur ∧ d.nv ≤ d'.nv
/-- A state that has come from an earlier one. -/
def St (c : Cx) (w0 : World) (d0 : Mk) (K : Nat) (w : World) : Prop := ∃ d, MK c K w d ∧ Fr c w0 w ∧ Same d0 d
theorem St.start {c : Cx} {K : Nat} {w : World} {d : Mk} (h : MK c K w d) : St c w d K w := ⟨d, h, Fr.refl c w, rfl, rfl, Nat.le_refl _⟩
theorem St.up {c : Cx} {w0 w w' : World} {d0 d d' : Mk} {K : Nat} (hf : Fr c w0 w) (hs : Same d0 d) (h : MK c K w' d') (hf' : Fr c w w') (hs' : Same d d') : St c w0 d0 K w' :=
  ⟨d', h, hf.trans hf', hs'.1.trans hs.1, hs'.2.1.trans hs.2.1, Nat.le_trans hs.2.2 hs'.2.2⟩
theorem St.more {c : Cx} {w0 w : World} {d0 : Mk} {K K' : Nat} (h : St c w0 d0 K w) (hK : K ≤ K') (hK' : K' ≤ big) : St c w0 d0 K' w := by
  obtain ⟨d, h1, h2, h3⟩ := h
  exact ⟨d, h1.more hK hK', h2, h3⟩
theorem St.drewN {c : Cx} {w0 w : World} {d0 : Mk} {K : Nat} (h : St c w0 d0 K w) (n : Nat) : St c w0 d0 K (w.drewN n) := by
  obtain ⟨d, h1, h2, h3⟩ := h
  exact ⟨d, h1.drewN n, h2.drewN n, h3⟩
theorem St.wt {c : Cx} {w0 w : World} {d0 : Mk} {K : Nat} (h : St c w0 d0 K w) : Fr c w0 w := by
  obtain ⟨d, h1, h2, h3⟩ := h; exact h2
def RetIn (n : Int) (c : Cx) (w0 : World) (d0 : Mk) (K : Nat) (e : Ending) (w' : World) : Prop := ∃ r : Int, 0 ≤ r ∧ r < n ∧ e = .returned (.int .i64 r) ∧ St c w0 d0 K w'
def Ret (c : Cx) (w0 : World) (d0 : Mk) (K : Nat) (e : Ending) (w' : World) : Prop := ∃ r : Int, e = .returned (.int .i64 r) ∧ St c w0 d0 K w'
section
variable {c : Cx} {w0 w : World} {d0 : Mk} {K : Nat}
theorem take_st (h : St c w0 d0 K w) (hK : K + 1 ≤ big) (n : Int) (h0 : 0 < n) (h1 : n ≤ 1099511627776) : Calls Tryz.prog 12 #[.pointer (some ⟨c.m, 0, none⟩), .int .i64 n] w (RetIn n c w0 d0 (K + 1)) := by
  obtain ⟨d, hk, hf, hs⟩ := h
  refine (take_mk hk hK n h0 h1).mono ?_
  rintro e w' ⟨r, a, b, rfl, hk', hf'⟩
  exact ⟨r, a, b, rfl, St.up hf hs hk' hf' ⟨rfl, rfl, Nat.le_refl _⟩⟩
theorem emit_st (h : St c w0 d0 K w) (hK : K + 3 ≤ big) (hcur : d0.cur < d0.PL.length) (z0 z1 z2 z3 z4 : Int) (av : Value) (na : Nat) (hav : SlV c.B K w 3 1 av na) :
    Calls Tryz.prog 89 #[.pointer (some ⟨c.m, 0, none⟩), .agg #[.int .i64 z0, .int .i64 z1, .int .i64 z2, .int .i64 z3, .int .u16 z4, av]] w (Ret c w0 d0 (K + 3)) := by
  obtain ⟨d, hk, hf, hs⟩ := h
  refine (emit_mk c K w d hk hK (by rw [hs.1, hs.2.1]; exact hcur) z0 z1 z2 z3 z4 av na hav).mono ?_
  rintro e w' ⟨r, d', rfl, hk', h1, h2, h3, hf'⟩
  exact ⟨r, rfl, St.up hf hs hk' hf' ⟨h1, h2, h3⟩⟩
theorem emit_plain (h : St c w0 d0 K w) (hK : K + 3 ≤ big) (hcur : d0.cur < d0.PL.length) (z0 z1 z2 z3 z4 : Int) :
    Calls Tryz.prog 89 #[.pointer (some ⟨c.m, 0, none⟩), .agg #[.int .i64 z0, .int .i64 z1, .int .i64 z2, .int .i64 z3, .int .u16 z4, .slice none 0 0]] w (Ret c w0 d0 (K + 3)) :=
  emit_st h hK hcur z0 z1 z2 z3 z4 _ 0 ⟨Nat.zero_le _, .inl ⟨rfl, rfl⟩⟩
set_option maxHeartbeats 1000000 in
theorem number_st (h : St c w0 d0 K w) (hK : K + 3 ≤ big) (hcur : d0.cur < d0.PL.length) (n : Int) : Calls Tryz.prog 40 #[.pointer (some ⟨c.m, 0, none⟩), .int .u16 n] w (Ret c w0 d0 (K + 3)) := by
  go_enter Tryz.func40, Tryz.ntmps40
  go_wp2_with (first | (go_at_call 89; refine (emit_plain h hK hcur _ _ _ _ _).mono ?_; rintro e w' ⟨r, rfl, hs⟩))
  go_ret
  exact ⟨r, rfl, hs⟩
end
/-- A place among the values has been chosen. -/
def Midway (c : Cx) (K : Nat) (w2 : World) (d : Mk) (s3 : Value) (wx : World) : Prop := ∃ q : Nat, s3 = .int .i64 q ∧ q < d.nv ∧ MK c (K + 1 + 1 + 1) wx { d with at_ := d.at_ + 1 + 1 + 1 } ∧ Fr c w2 wx
theorem vals_at {c : Cx} {K : Nat} {w : World} {d : Mk} (h : MK c K w d) {g kv j : Nat} (hv : d.vals = .slice (some ⟨g, 0, none⟩) d.nv kv) (hj : j < d.nv) : ∃ z, w.cell? ⟨g, j, none⟩ = some (.int .i64 z) := by
  obtain ⟨_, ⟨e1, _⟩ | ⟨g', c', cs, e1, h1, h2, h3, h4⟩⟩ := h.vals
  · rw [hv] at e1; cases e1
  · rw [hv] at e1; cases e1
    have hlt : j < cs.size := by omega
    obtain ⟨z, hz⟩ := (h.wt g cs 3 _ h1 h3 j .num rfl).2 _ (Array.getElem?_eq_getElem hlt)
    exact ⟨z, by rw [cell_of h3, Array.getElem?_eq_getElem hlt, hz]⟩
set_option maxHeartbeats 4000000 in
theorem any_st (c : Cx) (w0 w : World) (d0 : Mk) (K : Nat) (h : St c w0 d0 K w) (hK : K + 4 ≤ big) (hcur : d0.cur < d0.PL.length) : Calls Tryz.prog 15 #[.pointer (some ⟨c.m, 0, none⟩)] w (Ret c w0 d0 (K + 4)) := by
  obtain ⟨d, hk, hf, hs⟩ := h
  obtain ⟨Av, kv, hvv⟩ := hk.vals.form
  have hb : big = 1073741824 := rfl
  have hKb : K + 4 ≤ 1073741824 := hK
  clear hb
  have hnv : d.nv ≤ K := hk.vals.1
  have t7 : w.cell? ⟨c.m, 7, none⟩ = some (.slice Av d.nv kv) := by rw [hk.cell 7, ← hvv]; rfl
  by_cases hn0 : d.nv = 0
  · have HV := Lib.hid hvv
    clear hvv
    have hd : ((d.nv : Int) == 0) = true := by simp [hn0]
    have H0 := Lib.hid hn0
    clear hn0
    have hst : St c w0 d0 K w := ⟨d, hk, hf, hs⟩
    have HS := Lib.hid hs
    clear hs
    go_enter Tryz.func15, Tryz.ntmps15
    go_wp2_with (first
      | (go_at_call 12; refine (take_st hst (by omega) 9 (by omega) (by omega)).mono ?_; rintro e w1 ⟨r, hr0, hr1, rfl, hs1⟩)
      | (go_at_call 40; refine (number_st hs1 (by omega) hcur _).mono ?_; rintro e w2 ⟨r2, rfl, hs2⟩))
    go_ret
    exact ⟨r2, rfl, hs2.more (by omega) hK⟩
  · have hp1 : (0 : Int) < (d.nv : Int) := by omega
    have hp2 : (d.nv : Int) ≤ 1099511627776 := by omega
    have hK1 : K + 1 ≤ big := by omega
    have hK2 : K + 1 + 1 ≤ big := by omega
    have hK3 : K + 1 + 1 + 1 ≤ big := by omega
    have hd : ((d.nv : Int) == 0) = false := by simp [hn0]
    obtain ⟨gv, rfl⟩ : ∃ g, Av = some ⟨g, 0, none⟩ := by
      obtain ⟨_, ⟨_, e2⟩ | ⟨g, c', cs, e1, _⟩⟩ := hk.vals
      · omega
      · rw [hvv] at e1; cases e1; exact ⟨g, rfl⟩
    have HV := Lib.hid hvv
    have HKB := Lib.hid hKb; have HNV := Lib.hid hnv; have HP2 := Lib.hid hp2
    have HS := Lib.hid hs; have HF := Lib.hid hf
    clear hKb hnv hs hf hp2 hn0 hvv
    go_enter Tryz.func15, Tryz.ntmps15
    go_wp2_with (first
      | (go_at_call 12; (with_reducible refine (take_mk hk hK1 (d.nv : Int) hp1 HP2.out).mono ?_); rintro e w1 ⟨r1, a1, b1, rfl, hk1, hf1⟩; obtain ⟨q1, rfl⟩ := Int.eq_ofNat_of_zero_le a1; have HF1 := Lib.hid hf1; clear hf1)
      | (go_at_call 12; (with_reducible refine (take_mk hk1 hK2 3 (by decide) (by decide)).mono ?_); rintro e w2 ⟨r2, a2, b2, rfl, hk2, hf2⟩; have t72 : w2.cell? ⟨c.m, 7, none⟩ = some (.slice (some ⟨gv, 0, none⟩) d.nv kv) := (by rw [hk2.cell 7, ← HV.out]; rfl); obtain ⟨z1, hz1⟩ := vals_at (d := { d with at_ := d.at_ + 1 + 1 }) hk2 HV.out (j := q1) (by show q1 < d.nv; omega); have HF2 := Lib.hid hf2; have HK2' := Lib.hid hk2; clear hf2))
    · have hmn : (0 : Int) < (if (d.nv : Int) < 4 then (d.nv : Int) else 4) := by split <;> omega
      have hmn2 : (if (d.nv : Int) < 4 then (d.nv : Int) else 4) ≤ 1099511627776 := by split <;> omega
      have hmn3 : (if (d.nv : Int) < 4 then (d.nv : Int) else 4) ≤ (d.nv : Int) := by split <;> omega
      have s1 : IntKind.i64.wrap ((d.nv : Int) - 1) = (d.nv : Int) - 1 := IntWalk.i64_in _ (by have := HP2.out; omega)
      have HM := Lib.hid hmn; have HM2 := Lib.hid hmn2; have HM3 := Lib.hid hmn3
      clear hmn hmn2 hmn3
      go_cut [3] (fun s3 wx => Midway c K w2 d s3 wx)
      case first =>
        go_region_with ((go_at_call 12; (with_reducible refine (take_mk hk2.drew hK3 _ HM.out HM2.out).mono ?_); rintro e w3 ⟨r3, a3, b3, rfl, hk3, hf3⟩; obtain ⟨q3, rfl⟩ := Int.eq_ofNat_of_zero_le a3; have hq3 : q3 < d.nv := (by have := HM3.out; omega); have s2 : IntKind.i64.wrap ((d.nv : Int) - 1 - q3) = (d.nv : Int) - 1 - q3 := (IntWalk.i64_in _ (by have := HP2.out; omega)); have t73 : w3.cell? ⟨c.m, 7, none⟩ = some (.slice (some ⟨gv, 0, none⟩) d.nv kv) := (by rw [hk3.cell 7, ← HV.out]; rfl); have HK3 := Lib.hid hk3; have HF3 := Lib.hid hf3; clear hk3 hf3 b3; generalize (if (d.nv : Int) < 4 then (d.nv : Int) else 4) = mm))
        all_goals (try go_wp2_with fail)
        all_goals go_meet
        all_goals exact ⟨d.nv - 1 - q3, by congr 1; omega, by omega, HK3.out, (Fr.refl c w2).drew.trans HF3.out⟩
      case rest =>
        obtain ⟨q3, rfl, hq3, hk3, hf3⟩ := hcut
        have t73 : wc.cell? ⟨c.m, 7, none⟩ = some (.slice (some ⟨gv, 0, none⟩) d.nv kv) := by rw [hk3.cell 7, ← HV.out]; rfl
        obtain ⟨z3, hz3⟩ := vals_at (d := { d with at_ := d.at_ + 1 + 1 + 1 }) hk3 HV.out (j := q3) hq3
        have HK3 := Lib.hid hk3; have HF3 := Lib.hid hf3
        have hi0 : (0 : Int) ≤ (q3 : Int) := by omega
        have hi1 : (q3 : Int) < (d.nv : Int) := by omega
        clear hk3 hf3
        go_wp2_with fail
        go_ret
        exact ⟨z3, rfl, St.up HF.out HS.out (HK3.out.more (by omega) hK) ((HF1.out.trans HF2.out).trans HF3.out) ⟨rfl, rfl, Nat.le_refl _⟩⟩
    · go_ret
      exact ⟨z1, rfl, St.up HF.out HS.out (HK2'.out.more (by omega) hK) (HF1.out.trans HF2.out) ⟨rfl, rfl, Nat.le_refl _⟩⟩
end Go.Proofs.YtahljbkaemhpcaaGreat
