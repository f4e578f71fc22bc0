/- The maker: call. -/
import Derived.Test.YtahljbkaemhpcaaGreatM6
import Derived.Test.YtahljbkaemhpcaaGreatM7
import Derived.BigQuiet
namespace Go.Proofs.YtahljbkaemhpcaaGreat
open Go.RowKit
set_option linter.unusedVariables false
/-- An append to a slice of the call's own, of another type than a function's blocks. -/
theorem afterA {c : Cx} {K k e sz : Nat} {w0 w2 w9 : World} {d : Mk} {A : Option Addr} {ca : Nat} {v9 x : Value} {csi : Array Value} (he3 : e ≠ 46) (he5 : e ≠ 56) (hk : MK c K w2 d) (hK : K + 1 ≤ big) (fr : Fr c w0 w2) (sv : SlV c.B K w2 e sz (.slice A k ca) k) (own : Value.ownBlock (.slice A k ca) ≠ some c.pa)
    (hes : (e = 3 ∨ e = 40 ∨ e = 46) ∨ ∀ g, Value.ownBlock (.slice A k ca) = some g → w0.heap.size ≤ g) (hB : c.B ≤ w0.heap.size) (happ : App c.B (K + 1) (w2.alloc (.cells csi e)) w9 e sz (.slice A k ca) x k 1 v9) :
    ∃ A9 c9, v9 = .slice A9 (k + 1) c9 ∧ MK c (K + 1) w9 d ∧ Fr c w0 w9 ∧ SlV c.B (K + 1) w9 e sz (.slice A9 (k + 1) c9) (k + 1) ∧ Value.ownBlock (.slice A9 (k + 1) c9) ≠ some c.pa ∧ ∀ g, Value.ownBlock (.slice A9 (k + 1) c9) = some g → Value.ownBlock (.slice A k ca) = some g ∨ w2.heap.size ≤ g := by
  obtain ⟨A9, c9, rfl⟩ := happ.slv.form
  have fa : Fr c w0 (w2.alloc (.cells csi e)) := fr.alloc hk.size _
  have s1 : SlV c.B K (w2.alloc (.cells csi e)) e sz (.slice A k ca) k := sv.on ((Shape.refl _).alloc _) (Nat.le_refl _)
  have fin : Fr c w0 w9 := fa.app happ hes s1 own hB
  have up : ∀ g o, w2.heap[g]? = some o → (w2.alloc (.cells csi e)).heap[g]? = some o := fun g o hg => by rw [Below.heap_alloc _ _ _ (heap_lt hg)]; exact hg
  have hh : ∀ g, Value.ownBlock (.slice A9 (k + 1) c9) = some g → Value.ownBlock (.slice A k ca) = some g ∨ w2.heap.size ≤ g := fun g hg => by
    rcases happ.home with h | h
    · exact .inl (h ▸ hg)
    · rw [h] at hg; cases hg; right; simp
  refine ⟨A9, c9, rfl, ?_, fin, happ.slv, fun h => ?_, hh⟩
  · have hbel : Below c.B w2 w9 := by
      have h1 : Below c.B w2 (w2.alloc (.cells csi e)) := (Below.refl _ _).alloc hk.size _
      refine ⟨happ.os.trans h1.os, happ.tape.trans h1.tape, happ.out.trans h1.output, Nat.le_trans h1.size happ.size, fun k hkk => (happ.far k ?_ ?_).trans (h1.block k hkk)⟩
      · have := h1.size; have := hk.size; omega
      · intro hh; obtain ⟨cs, _, h2⟩ := sv.own hh; omega
    refine hk.on ((happ.other s1 (up _ _ hk.blk) (fun h => he5 h.symm)).trans hk.blk.symm) hbel (((Shape.refl _).alloc _).trans happ.shape) happ.wt (by omega) hK fun g cc j hb hj => ?_
    obtain ⟨cs, h1, _⟩ := hk.blLt hb
    rw [cell_of (happ.other s1 (up _ _ h1) (fun h => he3 h.symm)), cell_of h1]
  · rcases hh _ h with h1 | h1
    · exact own h1
    · have := hk.paLt; omega
def RetE (c : Cx) (w0 : World) (d0 : Mk) (K : Nat) (e : Ending) (w' : World) : Prop := e = .returned (.tuple #[]) ∧ St c w0 d0 K w'
theorem PG.cells {c : Cx} {w : World} (h : PG c w) : ∃ (fa : Option Addr) (fc ca : Nat), w.cell? ⟨c.p, 0, none⟩ = some (.slice fa c.n fc) ∧ w.cell? ⟨c.p, 1, none⟩ = some (.slice (some ⟨c.pa, 0, none⟩) c.n ca) ∧ w.cell? ⟨c.p, 3, none⟩ = some (.int .i64 c.h) ∧ ∀ j, j < c.n → ∃ a : Nat, a ≤ 3 ∧ w.cell? ⟨c.pa, j, none⟩ = some (.int .i64 a) := by
  obtain ⟨⟨fa, fc, dc, ca, bv, h1⟩, ⟨cs, h2, h3⟩, _⟩ := h
  refine ⟨fa, fc, ca, cell_of h1, cell_of h1, cell_of h1, fun j hj => ?_⟩
  obtain ⟨a, h4, h5⟩ := h3 j hj
  exact ⟨a, h4, (cell_of h2).trans h5⟩
/-- The arguments of a call that is being made. -/
def Cal (c : Cx) (K : Nat) (w : World) (d : Mk) (k : Nat) (A : Option Addr) (ca : Nat) (wr : World) : Prop :=
  St c w d (K + 1 + 5 * k) wr ∧ SlV c.B (K + 1 + 5 * k) wr 3 1 (.slice A k ca) k ∧ Value.ownBlock (.slice A k ca) ≠ some c.pa
theorem calMore {c : Cx} {K k : Nat} {w w9 : World} {d d2 : Mk} {A9 : Option Addr} {c9 : Nat} (h : MK c (K + 1 + 5 * k + 4 + 1) w9 d2) (fr : Fr c w w9) (hs : Same d d2) (sv : SlV c.B (K + 1 + 5 * k + 4 + 1) w9 3 1 (.slice A9 (k + 1) c9) (k + 1)) (ho : Value.ownBlock (.slice A9 (k + 1) c9) ≠ some c.pa) : Cal c K w d (k + 1) A9 c9 w9 := by
  have e : K + 1 + 5 * k + 4 + 1 = K + 1 + 5 * (k + 1) := by omega
  rw [e] at h sv
  exact ⟨⟨d2, h, fr, hs⟩, sv, ho⟩
set_option maxRecDepth 100000 in
set_option maxHeartbeats 4000000 in
theorem call_mk (c : Cx) (K : Nat) (w : World) (d : Mk) (h : MK c K w d) (hp : PG c w) (hK : K + 24 ≤ big) (hcur : d.cur < d.PL.length) : Calls Tryz.prog 91 #[.pointer (some ⟨c.m, 0, none⟩)] w (RetE c w d (K + 24)) := by
  have m2 : w.cell? ⟨c.m, 2, none⟩ = some (.pointer (some ⟨c.p, 0, none⟩)) := (St.start h).m2
  have m3 : w.cell? ⟨c.m, 3, none⟩ = some (.int .i64 c.me) := (St.start h).m3
  obtain ⟨fa, fc, ca, p0, p1, p3, hj⟩ := hp.cells
  have hme := hp.me; have hn4 := hp.n
  have b0 : (0 : Int) ≤ (c.me : Int) := by omega
  have b1 : (c.me : Int) < (c.n : Int) := by omega
  have b2 : (c.n : Int) ≤ 4 := by omega
  have e1 : IntKind.i64.wrap ((c.n : Int) - c.me) = (c.n : Int) - c.me := IntWalk.i64_in _ (by omega)
  have e2 : IntKind.i64.wrap ((c.n : Int) - c.me - 1) = (c.n : Int) - c.me - 1 := IntWalk.i64_in _ (by omega)
  have H := Lib.hid h; have HP := Lib.hid hp
  clear hj hp
  go_enter Tryz.func91, Tryz.ntmps91
  go_wp2_with fail
  go_cut [2] (fun s2 wx => s2 = .int .i64 ((c.n : Int) - c.me - 1) ∧ wx = w.drew)
  case first =>
    go_region
    go_wp2_with fail
    all_goals (go_meet; exact ⟨rfl, rfl⟩)
  case rest =>
    obtain ⟨rfl, rfl⟩ := hcut
    clear p0 p1 p3 e1 e2
    by_cases hlt : (c.n : Int) - c.me - 1 < 1
    · go_wp2_with fail
      go_end0
      exact ⟨rfl, (St.start H.out).drewN 1 |>.more (by omega) hK⟩
    · have hpos : (0 : Int) < (c.n : Int) - c.me - 1 := by omega
      have hpos2 : (c.n : Int) - c.me - 1 ≤ 1099511627776 := by omega
      have hd : decide ((c.n : Int) - c.me - 1 < 1) = false := by simp; omega
      have hK1 : K + 1 ≤ big := by omega
      have S2 : St c w d K w.drew.drew := ((St.start H.out).drewN 1).drewN 1
      have e3 : IntKind.i64.wrap ((c.me : Int) + 1) = (c.me : Int) + 1 := IntWalk.i64_in _ (by omega)
      go_upto_region 2 with fail
      go_cut [3] (fun s3 wx => ∃ t : Nat, s3 = .int .i64 t ∧ t < c.n ∧ St c w d (K + 1) wx)
      case first =>
        go_region_with ((go_at_call 12; (with_reducible refine (take_st S2 hK1 _ hpos hpos2).mono ?_); rintro e w3 ⟨r3, a3, b3, rfl, h3⟩; have m33 := h3.m3; have s2 : IntKind.i64.wrap ((c.me : Int) + 1 + r3) = (c.me : Int) + 1 + r3 := (IntWalk.i64_in _ (by omega)); have H3 := Lib.hid h3; clear h3))
        all_goals (try go_wp2_with fail)
        all_goals go_meet
        all_goals exact ⟨((c.me : Int) + 1 + r3).toNat, by congr 1; omega, by omega, H3.out⟩
      case rest =>
        obtain ⟨t, rfl, ht, h3⟩ := hcut
        clear m2 m3 S2 e3
        have m2 := h3.m2
        obtain ⟨fa2, fc2, ca2, p0, p1, p3, hj⟩ := (HP.out.on h3.wt).cells
        have H3 := Lib.hid h3
        clear h3 hj
        by_cases hh : (t : Int) = c.h
        · have hhd : ((t : Int) == c.h) = true := by simp [hh]
          go_wp2_with fail
          go_end0
          exact ⟨rfl, H3.out.more (by omega) hK⟩
        · have hhd : ((t : Int) == c.h) = false := by simp [hh]
          obtain ⟨a, ha3, hpat⟩ : ∃ a : Nat, a ≤ 3 ∧ ∀ wx, Fr c w wx → wx.cell? ⟨c.pa, t, none⟩ = some (.int .i64 a) := by
            obtain ⟨cs, h2, h3⟩ := HP.out.args
            obtain ⟨a, h4, h5⟩ := h3 t ht
            exact ⟨a, h4, fun wx hf => (cell_of ((hf.pa (heap_lt h2)).trans h2)).trans h5⟩
          have hstart : Cal c K w d 0 none 0 wc := ⟨H3.out, ⟨Nat.zero_le _, .inl ⟨rfl, rfl⟩⟩, by rw [own_none]; simp⟩
          have HS := Lib.hid hstart
          have t0 : (0 : Int) ≤ (t : Int) := by omega
          have t1 : (t : Int) < (c.n : Int) := by omega
          clear hstart
          go_wp2_with fail
          go_loopw [5, 4] (fun i s4 wr => ∃ (k : Nat) (A : Option Addr) (ca : Nat), i = .int .i64 k ∧ s4 = .slice A k ca ∧ k ≤ a ∧ Cal c K w d k A ca wr) (fun i _ _ => a - (intOf i).toNat)
          case atStart => exact ⟨0, none, 0, rfl, rfl, by omega, HS.out⟩
          case round =>
            obtain ⟨k, A, ca, rfl, rfl, hk, hC⟩ := hrel
            obtain ⟨⟨d1, mk1, fr1, sm1⟩, sv1, own1⟩ := hC
            have m2r := (St.start mk1).m2
            obtain ⟨fa5, fc5, ca5, q0, q1, q3, hj⟩ := (HP.out.on fr1).cells
            have qt := hpat _ fr1
            have hcur1 : d1.cur < d1.PL.length := by rw [sm1.1, sm1.2.1]; exact hcur
            have HM1 := Lib.hid mk1; have HF1 := Lib.hid fr1; have SM1 := Lib.hid sm1; have SV1 := Lib.hid sv1; have OWN1 := Lib.hid own1
            clear m2 p0 p1 p3 hj mk1 fr1 sm1 sv1 own1
            by_cases hlt : k < a
            · have hlt' : (k : Int) < (a : Int) := by omega
              have hKb : big = 1073741824 := rfl
              have hKk : K + 1 + 5 * k + 4 + 1 ≤ big := by omega
              have hKk4 : K + 1 + 5 * k + 4 ≤ big := by omega
              have hK' : K + 1 + 5 * k + 4 + 1 ≤ 34359738368 := by omega
              go_wp2_with (first
                | (go_at_call 15; (with_reducible refine (any_st c wr wr d1 _ (St.start HM1.out) hKk4 hcur1).mono ?_); rintro e w2 ⟨r2, rfl, h2⟩; obtain ⟨d2, mk2, fr2, sm2⟩ := h2; have hx2 : SlV c.B (K + 1 + 5 * k + 4) (w2.alloc (.cells #[.int .i64 r2] 3)) 3 1 (.slice (some ⟨w2.heap.size, 0, none⟩) 1 1) 1 := newInt (K := K + 1 + 5 * k + 3) mk2.size; have sv2 : SlV c.B (K + 1 + 5 * k + 4) w2 3 1 (.slice A k ca) k := SV1.out.on fr2.shape (by omega); have sv3 : SlV c.B (K + 1 + 5 * k + 4) (w2.alloc (.cells #[.int .i64 r2] 3)) 3 1 (.slice A k ca) k := sv2.on ((Shape.refl _).alloc _) (Nat.le_refl _); have hwa := mk2.wt.alloc _ 3 (int_typed r2); have hsz := mk2.size; have HM2 := Lib.hid mk2; have HF2 := Lib.hid (HF1.out.trans fr2); have SM2 : Hid (Same d d2) := ⟨sm2.1.trans SM1.out.1, sm2.2.1.trans SM1.out.2.1, Nat.le_trans SM1.out.2.2 sm2.2.2⟩; have SV2 := Lib.hid sv2; clear mk2 fr2 sm2 sv2)
                | (at_builtin; refine wpList_append_el (w := w2.alloc (.cells #[.int .i64 r2] 3)) (P := Tryz.prog) (B := c.B) (K := K + 1 + 5 * k + 4) (K' := K + 1 + 5 * k + 4 + 1) (n := k) (m := 1) rfl (.tmp 54) (.tmp 57) rfl el22 hwa rfl rfl sv3 hx2 (by omega) (by omega) hK' (by simp; omega) ?_; intro v9 w9 happ; have happ2 : App c.B (K + 1 + 5 * k + 4 + 1) (w2.alloc (.cells #[.int .i64 r2] 3)) w9 3 1 (.slice A k ca) (.slice (some ⟨w2.heap.size, 0, none⟩) 1 1) k 1 v9 := happ; obtain ⟨A9, c9, rfl, mk9, fr9, sv9, own9, _⟩ := afterA (c := c) (K := K + 1 + 5 * k + 4) (k := k) (w0 := w) (w2 := w2) (w9 := w9) (A := A) (ca := ca) (e := 3) (sz := 1) (by decide) (by decide) HM2.out hKk HF2.out SV2.out OWN1.out (.inl (.inl rfl)) H.out.size happ2; have HC9 : Cal c K w d (k + 1) A9 c9 w9 := calMore (d2 := d2) mk9 fr9 SM2.out sv9 own9; clear happ happ2 mk9 fr9 sv9 own9))
              exact ⟨⟨k + 1, A9, c9, rfl, rfl, hlt, HC9⟩, by show a - ((k : Int) + 1).toNat < a - ((k : Int)).toNat; omega⟩
            · have hka : k = a := by omega
              subst hka
              have hK3 : K + 1 + 5 * k + 3 ≤ big := by omega
              go_wp2_with (first
                | (go_at_call 89; (with_reducible refine (emit_st (St.start HM1.out) hK3 hcur1 _ _ _ _ _ _ _ SV1.out).mono ?_); rintro e w2 ⟨r2, rfl, h2⟩))
              go_end0
              obtain ⟨d2, mk2, fr2, sm2⟩ := h2
              exact ⟨rfl, St.up HF1.out SM1.out (mk2.more (by omega) hK) fr2 sm2⟩
end Go.Proofs.YtahljbkaemhpcaaGreat
