/- The maker: part, from choice and loop. -/
import Derived.Test.YtahljbkaemhpcaaGreatM9
namespace Go.Proofs.YtahljbkaemhpcaaGreat
open Go.RowKit
set_option linter.unusedVariables false
/-- A later state: more blocks, more values, the block at hand may be another. -/
def Ext (d d' : Mk) : Prop := (∃ l, d'.PL = d.PL ++ l) ∧ d'.cur < d'.PL.length ∧ d.nv ≤ d'.nv
theorem Ext.refl {d : Mk} (h : d.cur < d.PL.length) : Ext d d := ⟨⟨[], by simp⟩, h, Nat.le_refl _⟩
theorem Ext.trans {d d' d'' : Mk} (h : Ext d d') (h' : Ext d' d'') : Ext d d'' := by
  obtain ⟨⟨l, h1⟩, _, h3⟩ := h
  obtain ⟨⟨l', h4⟩, h5, h6⟩ := h'
  exact ⟨⟨l ++ l', by rw [h4, h1, List.append_assoc]⟩, h5, Nat.le_trans h3 h6⟩
theorem Ext.same {d d' d'' : Mk} (h : Ext d d') (h' : Same d' d'') : Ext d d'' := by
  obtain ⟨h1, h2, h3⟩ := h
  exact ⟨by rw [h'.1]; exact h1, by rw [h'.1, h'.2.1]; exact h2, Nat.le_trans h3 h'.2.2⟩
/-- A state behind the first, at any block. -/
def Sx (c : Cx) (w0 : World) (d0 : Mk) (K : Nat) (w : World) : Prop := ∃ d, MK c K w d ∧ Fr c w0 w ∧ Ext d0 d
theorem Sx.more {c : Cx} {w0 w : World} {d0 : Mk} {K K' : Nat} (h : Sx c w0 d0 K w) (hK : K ≤ K') (hK' : K' ≤ big) : Sx c w0 d0 K' w := by
  obtain ⟨d, h1, h2, h3⟩ := h
  exact ⟨d, h1.more hK hK', h2, h3⟩
theorem Sx.up {c : Cx} {w0 w w' : World} {d0 d : Mk} {K K' : Nat} (hf : Fr c w0 w) (he : Ext d0 d) (h : St c w d K w') : Sx c w0 d0 K w' := by
  obtain ⟨d', h1, h2, h3⟩ := h
  exact ⟨d', h1, hf.trans h2, he.same h3⟩
theorem Sx.go {c : Cx} {w0 w w' : World} {d0 d : Mk} {K K' : Nat} (hf : Fr c w0 w) (he : Ext d0 d) (h : Sx c w d K w') : Sx c w0 d0 K w' := by
  obtain ⟨d', h1, h2, h3⟩ := h
  exact ⟨d', h1, hf.trans h2, he.trans h3⟩
def RetX (c : Cx) (w0 : World) (d0 : Mk) (K : Nat) (e : Ending) (w' : World) : Prop := e = .returned (.tuple #[]) ∧ Sx c w0 d0 K w'
/-- A function without a result that builds on. -/
def Good (c : Cx) (f : FuncId) (args : Array Value) (N : Nat) : Prop := ∀ K w d, MK c K w d → PG c w → K + N ≤ big → d.cur < d.PL.length → Calls Tryz.prog f args w (RetX c w d (K + N))
section
variable {c : Cx} {w0 w : World} {d0 : Mk} {K : Nat}
theorem take_x (h : Sx c w0 d0 K w) (hK : K + 1 ≤ big) (n : Int) (h0 : 0 < n) (h1 : n ≤ 1099511627776) : Calls Tryz.prog 12 #[.pointer (some ⟨c.m, 0, none⟩), .int .i64 n] w (fun e w' => ∃ r : Int, 0 ≤ r ∧ r < n ∧ e = .returned (.int .i64 r) ∧ Sx c w0 d0 (K + 1) w') := by
  obtain ⟨d, hk, hf, he⟩ := h
  refine (take_st (St.start hk) hK n h0 h1).mono ?_
  rintro e w' ⟨r, a, b, rfl, h⟩
  exact ⟨r, a, b, rfl, Sx.up (K' := 0) hf he h⟩
theorem op_x (h : Sx c w0 d0 K w) (hp : PG c w0) (hK : K + 32 ≤ big) : Calls Tryz.prog 37 #[.pointer (some ⟨c.m, 0, none⟩)] w (RetX c w0 d0 (K + 32)) := by
  obtain ⟨d, hk, hf, he⟩ := h
  refine (op_st c w w d K (St.start hk) (hp.on hf) hK he.2.1).mono ?_
  rintro e w' ⟨rfl, h⟩
  exact ⟨rfl, Sx.up (K' := 0) hf he h⟩
theorem any_x (h : Sx c w0 d0 K w) (hK : K + 4 ≤ big) : Calls Tryz.prog 15 #[.pointer (some ⟨c.m, 0, none⟩)] w (fun e w' => ∃ r : Int, e = .returned (.int .i64 r) ∧ Sx c w0 d0 (K + 4) w') := by
  obtain ⟨d, hk, hf, he⟩ := h
  refine (any_st c w w d K (St.start hk) hK he.2.1).mono ?_
  rintro e w' ⟨r, rfl, h⟩
  exact ⟨r, rfl, Sx.up (K' := 0) hf he h⟩
theorem good_x {f : FuncId} {args : Array Value} {N : Nat} (hg : Good c f args N) (h : Sx c w0 d0 K w) (hp : PG c w0) (hK : K + N ≤ big) : Calls Tryz.prog f args w (RetX c w0 d0 (K + N)) := by
  obtain ⟨d, hk, hf, he⟩ := h
  refine (hg K w d hk (hp.on hf) hK he.2.1).mono ?_
  rintro e w' ⟨rfl, h⟩
  exact ⟨rfl, Sx.go (K' := 0) hf he h⟩
end
set_option maxRecDepth 100000 in
set_option maxHeartbeats 8000000 in
theorem part_good (c : Cx) (deep N : Nat) (hd2 : deep ≤ 2) (hch : 0 < deep → ∀ n : Int, 2 ≤ n → n ≤ 4 → Good c 38 #[.pointer (some ⟨c.m, 0, none⟩), .int .i64 deep, .int .i64 n] N) (hlp : 0 < deep → Good c 39 #[.pointer (some ⟨c.m, 0, none⟩), .int .i64 deep] N) :
    Good c 14 #[.pointer (some ⟨c.m, 0, none⟩), .int .i64 deep] (N + 170) := by
  intro K w d h hp hK hcur
  have h0 : Sx c w d K w := ⟨d, h, Fr.refl c w, Ext.refl hcur⟩
  have hK1 : K + 1 ≤ big := by omega
  have HP := Lib.hid hp; have HK : Hid (K + (N + 170) ≤ big) := hK
  clear h hp hK
  go_enter Tryz.func14, Tryz.ntmps14
  go_wp2_with (first
    | (go_at_call 12; (with_reducible refine (take_x h0 hK1 5 (by decide) (by decide)).mono ?_); rintro e w1 ⟨r1, a1, b1, rfl, h1⟩; obtain ⟨q1, rfl⟩ := Int.eq_ofNat_of_zero_le a1))
  have hq : q1 < 5 := by omega
  go_loopw [4] (fun i wr => ∃ k : Nat, i = .int .i64 ((q1 : Int) - k) ∧ k ≤ q1 + 1 ∧ Sx c w d (K + 1 + 32 * k) wr) (fun i _ => ((intOf i) + 1).toNat)
  case atStart => exact ⟨0, by simp, by omega, h1⟩
  case round =>
    obtain ⟨k, rfl, hk, hx⟩ := hrel
    by_cases hlt : k ≤ q1
    · have g1 : (0 : Int) ≤ (q1 : Int) - k := by omega
      have g2 : (q1 : Int) - k ≤ 5 := by omega
      have e1 : IntKind.i64.wrap ((q1 : Int) - k - 1) = (q1 : Int) - k - 1 := IntWalk.i64_in _ (by omega)
      have hKk : K + 1 + 32 * k + 32 ≤ big := by have := HK.out; omega
      go_wp2_with (first
        | (go_at_call 37; (with_reducible refine (op_x hx HP.out hKk).mono ?_); rintro e w2 ⟨rfl, h2⟩))
      exact ⟨⟨k + 1, by congr 1; omega, by omega, h2⟩, by show ((q1 : Int) - k - 1 + 1).toNat < ((q1 : Int) - k + 1).toNat; omega⟩
    · have hk1 : k = q1 + 1 := by omega
      subst hk1
      obtain ⟨d1, mk, fr, ex⟩ := hx
      have m8 : wr.cell? ⟨c.m, 8, none⟩ = some (.int .i64 d1.left) := by rw [mk.cell 8]; rfl
      have f8 := mk.free 8
      have hl0 := mk.left0; have hl1 := mk.left1; have hKb := mk.K
      have hbig : big = 1073741824 := rfl
      have e2 : IntKind.i64.wrap (d1.left - 1) = d1.left - 1 := IntWalk.i64_in _ (by omega)
      have g1 : ¬ (0 : Int) ≤ (q1 : Int) - ((q1 + 1 : Nat) : Int) := by omega
      go_upto_region 4 with fail
      go_cut [] (fun wx => MK c (K + 1 + 32 * (q1 + 1) + 1) wx { d1 with left := d1.left - 1 } ∧ Fr c w wx)
      case first =>
        go_wp2_with fail
        all_goals go_meet
        all_goals exact ⟨(mk.more (Nat.le_succ _) (by have := HK.out; omega)).setM (by simp [mkCells]) rfl rfl (by have := mk.at_; show d1.at_ ≤ _; omega) (by have := mk.next; show d1.next ≤ _; omega) (by show -((K + 1 + 32 * (q1 + 1) + 1 : Nat) : Int) ≤ d1.left - 1; omega) (by show d1.left - 1 ≤ ((K + 1 + 32 * (q1 + 1) + 1 : Nat) : Int); omega) rfl rfl (mk.vals.on (Shape.refl _) (Nat.le_succ _)) mk.vpa, fr.setCell _ _ _ mk.mB mk.paNe (.inr ⟨_, _, _, mk.blk, .inr (.inr (.inr rfl))⟩)⟩
      case rest =>
        obtain ⟨mk2, fr2⟩ := hcut
        have m82 : wc.cell? ⟨c.m, 8, none⟩ = some (.int .i64 (d1.left - 1)) := by rw [mk2.cell 8]; rfl
        have hx2 : Sx c w d (K + 1 + 32 * (q1 + 1) + 1) wc := ⟨_, mk2, fr2, ex⟩
        have hxe : Sx c w d (K + (N + 170)) wc := hx2.more (by omega) HK.out
        clear mk2 fr2 m8 f8 e2 hl0 hl1
        by_cases hd0 : deep = 0
        · subst hd0
          go_wp2_with fail
          all_goals go_end0
          all_goals exact ⟨rfl, hxe⟩
        · have hdp : (1 : Int) ≤ (deep : Int) := by omega
          have hdp2 : (deep : Int) ≤ 2 := by omega
          have hdc : decide ((deep : Int) < 1) = false := by simp; omega
          by_cases hl : d1.left - 1 < 1
          · have hlc : decide (d1.left - 1 < 1) = true := by simp; omega
            go_wp2_with fail
            all_goals go_end0
            all_goals exact ⟨rfl, hxe⟩
          · have hlc : decide (d1.left - 1 < 1) = false := by simp; omega
            have hKt : K + 1 + 32 * (q1 + 1) + 1 + 1 ≤ big := by have := HK.out; omega
            have hKt2 : K + 1 + 32 * (q1 + 1) + 1 + 1 + 1 ≤ big := by have := HK.out; omega
            have hKn : K + 1 + 32 * (q1 + 1) + 1 + 1 + N ≤ big := by have := HK.out; omega
            have hKn2 : K + 1 + 32 * (q1 + 1) + 1 + 1 + 1 + N ≤ big := by have := HK.out; omega
            have hd0' : 0 < deep := by omega
            go_wp2_with (first
              | (go_at_call 12; (with_reducible refine (take_x hx2 hKt 5 (by decide) (by decide)).mono ?_); rintro e w3 ⟨r3, a3, b3, rfl, h3⟩)
              | (go_at_call 12; (with_reducible refine (take_x h3 hKt2 3 (by decide) (by decide)).mono ?_); rintro e w4 ⟨r4, a4, b4, rfl, h4⟩; have e4 : IntKind.i64.wrap (2 + r4) = 2 + r4 := (IntWalk.i64_in _ (by omega)); have i4 : 2 ≤ 2 + r4 := (by omega); have j4 : 2 + r4 ≤ 4 := (by omega))
              | (go_at_call 39; (with_reducible refine (good_x (hlp hd0') h3 HP.out hKn).mono ?_); rintro e w4 ⟨rfl, h5⟩)
              | (go_at_call 38; (with_reducible refine (good_x (hch hd0' 2 (by decide) (by decide)) h3 HP.out hKn).mono ?_); rintro e w4 ⟨rfl, h5⟩)
              | (go_at_call 38; (with_reducible refine (good_x (hch hd0' (2 + r4) i4 j4) h4 HP.out hKn2).mono ?_); rintro e w5 ⟨rfl, h5⟩))
            all_goals (try go_end0)
            all_goals first
              | exact ⟨rfl, h5.more (by omega) HK.out⟩
              | exact ⟨rfl, h3.more (by omega) HK.out⟩
end Go.Proofs.YtahljbkaemhpcaaGreat
