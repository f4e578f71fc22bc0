/- Made: a valid instruction that numbers determine. -/
import Derived.Test.YtjkaoejcdboaiaaGreatS4
import Derived.Test.YtjkaoejcdboaiaaGreatS6
import Derived.Test.YtjkaoejcdboaiaaGreatV0
import Derived.Laws.Bits128
set_option linter.unusedSimpArgs false
set_option linter.unusedVariables false
set_option linter.unusedSectionVars false
namespace Go.Proofs.YtjkaoejcdboaiaaGreat
open Go.RowKit Go.Eng
set_option linter.unusedVariables false
set_option linter.unusedSectionVars false
set_option maxRecDepth 100000

theorem and_mask (n : Int) (k : Nat) (m : Int) (hm : (BitVec.ofInt 64 m).toNat = 2 ^ k - 1) (hk : k ≤ 60) : bits .and .i64 n m = (n % 18446744073709551616) % (2 ^ k : Nat) := by
  have key : (BitVec.ofInt 64 n &&& BitVec.ofInt 64 m).toNat = (n % ((2 ^ 64 : Nat) : Int)).toNat % 2 ^ k := by
    rw [BitVec.toNat_and, BitVec.toNat_ofInt, hm, Nat.and_two_pow_sub_one_eq_mod]
  show IntKind.i64.wrap ((BitVec.ofInt 64 n &&& BitVec.ofInt 64 m).toNat : Nat) = _
  have h1 : (n % ((2 ^ 64 : Nat) : Int)).toNat % 2 ^ k < 2 ^ k := Nat.mod_lt _ (Nat.two_pow_pos k)
  have h2 : 2 ^ k ≤ 2 ^ 60 := Nat.pow_le_pow_right (by decide) hk
  rw [key, Go.IntWalk.i64_in _ (by have : (2:Nat) ^ 60 = 1152921504606846976 := by decide
                                   omega)]
  have h3 : (0 : Int) ≤ n % 18446744073709551616 := Int.emod_nonneg _ (by decide)
  rw [show ((2 ^ 64 : Nat) : Int) = 18446744073709551616 by decide]
  rw [Int.natCast_emod, Int.toNat_of_nonneg h3]
theorem and64k (n : Int) : bits .and .i64 n 65535 = n % 65536 := by
  rw [and_mask n 16 65535 (by decide) (by decide), show ((2 ^ 16 : Nat) : Int) = 65536 by decide]; omega
theorem and7 (n : Int) : bits .and .i64 n 7 = n % 8 := by
  rw [and_mask n 3 7 (by decide) (by decide), show ((2 ^ 3 : Nat) : Int) = 8 by decide]; omega
theorem and63 (n : Int) : bits .and .i64 n 63 = n % 64 := by
  rw [and_mask n 6 63 (by decide) (by decide), show ((2 ^ 6 : Nat) : Int) = 64 by decide]; omega
theorem apN : Ap Tryz.prog 56 3 1 8 := ⟨Tryz.underlying56, by
  obtain ⟨ti, hti, h⟩ := info_of (α := Unit) (show (Tryz.prog.info? 3).map (fun i => (i.zero, i.size, i.bytes)) = some (some (.int .i64 0), 1, 8) by kernel_rfl)
  simp only [Prod.mk.injEq] at h
  exact ⟨ti, _, hti, h.1, h.2.1, h.2.2, rfl⟩, by decide, by decide⟩
def ints (xs : List Int) : List Value := xs.map fun x => .int .i64 x
theorem ints_at {xs : List Int} {j : Nat} {x : Int} (h : xs[j]? = some x) : (ints xs)[j]? = some (.int .i64 x) := by simp [ints, h]
/-- A row of numbers of the call's own, from S on. -/
def IntsO (w : World) (S : Nat) (A : Option Addr) (n c : Nat) (xs : List Int) : Prop := xs.length = n ∧ Own w S 3 1 (.slice A n c) n (ints xs)
theorem IntsO.nil (w : World) (S : Nat) : IntsO w S none 0 0 [] := ⟨rfl, Own.nil _ _ _ _⟩
theorem IntsO.low {w w' : World} {S : Nat} {A : Option Addr} {n c : Nat} {xs : List Int} (h : IntsO w S A n c xs) (hl : Low w.heap.size w w') : IntsO w' S A n c xs := ⟨h.1, h.2.low hl⟩
theorem app_int {w : World} {S : Nat} {A : Option Addr} {n c : Nat} {xs : List Int} (h : IntsO w S A n c xs) (x : Int) (hn : n ≤ 1000) (hS : S ≤ w.heap.size) :
    ∃ A' c' w', (Builtin.append_ #[56, 56] 56 #[.slice A n c, .slice (some ⟨w.heap.size, 0, none⟩) 1 1]).run Tryz.prog (w.alloc (.cells #[.int .i64 x] 3)) = .ok (.slice A' (n + 1) c') w' ∧ IntsO w' S A' (n + 1) c' (xs ++ [x]) ∧ Low S w w' := by
  have l1 : Low w.heap.size w (w.alloc (.cells #[.int .i64 x] 3)) := (Low.refl _ _).alloc (Nat.le_refl _) _
  have hown := h.2.low l1
  obtain ⟨v', w', hrun, happ⟩ := append_one (ty := 56) apN hown (c := 1) (m := 1) (heap_new w (.cells #[.int .i64 x] 3)) rfl (by simp [Value.oneCell']) (by omega) (by simp; omega)
  obtain ⟨A', c', rfl⟩ := happ.own.slice
  refine ⟨A', c', w', hrun, ⟨by simp [h.1], ?_⟩, (l1.mono hS).trans (happ.low hown (Nat.le_refl _) (by simp; omega))⟩
  have := happ.own
  simpa [ints] using this
/-- A number of an operation. -/
def IsOp (x : Int) : Prop := ∃ n : Nat, x = n ∧ n < 164 ∧ kindP n ≠ 0
/-- What is made: whatever it is, if it is a move or an arithmetic operation, it is a plain one. -/
def MadeOk (op d s imm aux bank size : Int) : Prop :=
  32 ≤ op → op < 80 → aux = 0 ∧ bank = 0 ∧
    ((∃ n d' e' : Nat, op = n ∧ d = d' ∧ s = e' ∧ imm = 0 ∧ size = 2 ∧ 32 ≤ n ∧ n ≤ 46 ∧ d' < 8 ∧ e' < 8) ∨
     (∃ n d' b : Nat, op = n ∧ d = d' ∧ s = 0 ∧ imm = extP b ∧ size = 3 ∧ 48 ≤ n ∧ n ≤ 62 ∧ d' < 8 ∧ b < 256) ∨
     (∃ n d' a b : Nat, op = n ∧ d = d' ∧ s = 0 ∧ imm = a + 256 * b ∧ size = 4 ∧ 64 ≤ n ∧ n ≤ 78 ∧ d' < 8 ∧ a < 256 ∧ b < 256))
theorem ext_same : ∀ b : Nat, b < 256 → ext2 (b : Int) = extP b := by decide +kernel
theorem kinds_le : ∀ n : Nat, n < 164 → kindP n ≤ 18 := by decide +kernel
theorem kinds_4 : ∀ n : Nat, n < 164 → kindP n = 4 → 32 ≤ n ∧ n ≤ 46 := by decide +kernel
theorem kinds_5 : ∀ n : Nat, n < 164 → kindP n = 5 → 48 ≤ n ∧ n ≤ 62 := by decide +kernel
theorem kinds_6 : ∀ n : Nat, n < 164 → kindP n = 6 → 64 ≤ n ∧ n ≤ 78 := by decide +kernel
theorem kinds_no : ∀ n : Nat, n < 164 → (kindP n = 0 ∨ kindP n = 4 ∨ kindP n = 5 ∨ kindP n = 6) ∨ (n < 32 ∨ 80 ≤ n) := by decide +kernel
set_option maxHeartbeats 16000000 in
theorem made_any (w : World) (q0 q1 q2 q3 q4 : Int) :
    Calls Tryz.prog 5 #[.agg #[.int .i64 q0, .int .i64 q1, .int .i64 q2, .int .i64 q3, .int .i64 q4]] w (fun e w' => ∃ op d s imm aux bank size, e = .returned (insV op d s imm aux bank size) ∧ MadeOk op d s imm aux bank size ∧ Low w.heap.size w w') := by
  obtain ⟨z, hz⟩ : ∃ z, w.heap.size = z := ⟨_, rfl⟩
  obtain ⟨a1, z1, u1⟩ := alloc_at (.cells #[.int .i64 q0, .int .i64 q1, .int .i64 q2, .int .i64 q3, .int .i64 q4] 32) hz
  obtain ⟨a2, z2, u2⟩ := alloc_at (insC 0 0 0 0 0 0 0) z1
  have a1 := u2 _ _ a1
  have l0 : Low w.heap.size w ((w.alloc (.cells #[.int .i64 q0, .int .i64 q1, .int .i64 q2, .int .i64 q3, .int .i64 q4] 32)).alloc (insC 0 0 0 0 0 0 0)) := ((Low.refl _ _).alloc (Nat.le_refl _) _).alloc (by simp) _
  clear u1 u2 z1
  go_enter Tryz.func5, Tryz.ntmps5
  go_upto_region 1 with fail
  have HZ := Lib.hid hz
  obtain ⟨t1, ht1⟩ : ∃ t, t = z := ⟨_, rfl⟩
  obtain ⟨t2, ht2⟩ : ∃ t, t = z + 1 := ⟨_, rfl⟩
  rw [← ht2] at a2 z2 ⊢
  rw [show (Value.pointer (some { block := z, off := 0 })) = Value.pointer (some { block := t1, off := 0 }) by rw [ht1]]
  rw [← ht1] at a1
  have HT : Hid (w.heap.size ≤ t1 ∧ t1 < t2) := Lib.hid (by omega)
  clear ht1 ht2 hz
  generalize ((w.alloc (.cells #[.int .i64 q0, .int .i64 q1, .int .i64 q2, .int .i64 q3, .int .i64 q4] 32)).alloc (insC 0 0 0 0 0 0 0)) = w1 at l0 a1 a2 z2 ⊢
  have L0 := Lib.hid l0; have A1 := Lib.hid a1; have A2 := Lib.hid a2
  have HS1 : Hid (w.heap.size ≤ w1.heap.size) := Lib.hid l0.size
  clear l0 a1 a2 z2
  go_wp2_with fail
  go_loopw [3, 4] (fun s i wr => ∃ (k : Nat) (A : Option Addr) (m c : Nat) (xs : List Int), k ≤ 164 ∧ i = .int .i64 k ∧ s = .slice A m c ∧ IntsO wr w1.heap.size A m c xs ∧ (∀ x ∈ xs, IsOp x) ∧ (0 < k → 0 < m) ∧ m ≤ k ∧ Low w1.heap.size w1 wr) (fun _ i _ => 164 - (intOf i).toNat)
  case atStart => exact ⟨0, none, 0, 0, [], by decide, rfl, rfl, IntsO.nil _ _, fun x hx => (by cases hx), fun h => (by omega), Nat.le_refl _, Low.refl _ _⟩
  case round =>
    obtain ⟨k, A, m, c, xs, hk, rfl, rfl, hI, hx, hpos, hmk, hL⟩ := hrel
    obtain ⟨wv, rfl⟩ : ∃ u, u = wr := ⟨_, rfl⟩
    have HI := Lib.hid hI; have HXS := Lib.hid hx; have HP := Lib.hid hpos; have HMK := Lib.hid hmk; have LV := Lib.hid hL; have HK := Lib.hid hk
    clear hI hx hpos hmk hL hk
    rcases Nat.lt_or_ge k 164 with hlt | hge
    · have hw2 : IntKind.i64.wrap ((k : Int) + 1) = k + 1 := Go.IntWalk.i64_in _ (by omega)
      have hd1 : decide ((k : Int) ≤ 163) = true := by simp; omega
      have hkd := kind_low (op := k) hlt wv
      by_cases hz : kindP k = 0
      · rw [hz] at hkd
        go_wp2_with (first
          | (go_at_call 12; refine hkd.mono ?_; rintro e w2 ⟨rfl, l2⟩; have L2 := Lib.hid (LV.out.trans (l2.mono LV.out.size)); have I2 := Lib.hid (HI.out.low l2); clear l2))
        have hk0 : 0 < k := by
          rcases Nat.eq_zero_or_pos k with h | h
          · subst h; exact absurd hz (by decide)
          · exact h
        exact ⟨⟨k + 1, A, m, c, xs, hlt, rfl, rfl, I2.out, HXS.out, fun _ => HP.out hk0, by have := HMK.out; omega, L2.out⟩, by simp [intOf]; omega⟩
      · have hz2 : ((kindP k : Int) == 0) = false := by simpa using hz
        go_upto_region 6 with (first
          | (go_at_call 12; refine hkd.mono ?_; rintro e w2 ⟨rfl, l2⟩; have L2 := Lib.hid (LV.out.trans (l2.mono LV.out.size)); have I2 := Lib.hid (HI.out.low l2); clear l2))
        obtain ⟨A', c', w3, hrun, ho, hl⟩ := app_int I2.out (k : Int) (by have := HMK.out; omega) L2.out.size
        have O3 := Lib.hid ho
        have L3 := Lib.hid (L2.out.trans hl)
        clear ho hl
        go_wp2_with (first
          | (at_builtin; refine wpList_known rfl (.tmp 18) (.tmp 20) rfl rfl rfl hrun ?_))
        exact ⟨⟨k + 1, A', m + 1, c', xs ++ [(k : Int)], hlt, rfl, rfl, O3.out, fun x hx => by
          rcases List.mem_append.1 hx with h | h
          · exact HXS.out x h
          · simp at h; subst h; exact ⟨k, rfl, hlt, hz⟩, fun _ => by omega, by have := HMK.out; omega, L3.out⟩, by simp [intOf]; omega⟩
    · have hd1 : decide ((k : Int) ≤ 163) = false := by simp; omega
      have hm0 : 0 < m := HP.out (by omega)
      obtain ⟨g, cg, cs, e0, hg1, hg2, hg3⟩ : ∃ g cg cs, (Value.slice A m c) = .slice (some ⟨g, 0, none⟩) m cg ∧ w1.heap.size ≤ g ∧ wv.heap[g]? = some (.cells cs 3 (0, 0)) ∧ m ≤ cg := by
        rcases HI.out.2.form with ⟨_, h⟩ | h
        · omega
        · exact h
      cases e0
      obtain ⟨j, hj⟩ : ∃ j : Nat, q0 % 65536 % (m : Int) = j := ⟨(q0 % 65536 % (m : Int)).toNat, by
        have := Int.emod_nonneg (q0 % 65536) (show (m : Int) ≠ 0 by omega); omega⟩
      have hjm : j < m := by
        have := Int.emod_lt_of_pos (q0 % 65536) (show (0 : Int) < m by omega); omega
      obtain ⟨x, hxj⟩ : ∃ x, xs[j]? = some x := ⟨_, List.getElem?_eq_getElem (by have := HI.out.1; omega)⟩
      obtain ⟨n, rfl, hn, hkn⟩ := HXS.out x (List.mem_of_getElem? hxj)
      have cj : wv.cell? ⟨g, j, none⟩ = some (.int .i64 n) := HI.out.2.cell (ints_at hxj)
      obtain ⟨p0, p1, p2, p3, p4⟩ : wv.cell? ⟨t1, 0, none⟩ = some (.int .i64 q0) ∧ wv.cell? ⟨t1, 1, none⟩ = some (.int .i64 q1) ∧ wv.cell? ⟨t1, 2, none⟩ = some (.int .i64 q2) ∧ wv.cell? ⟨t1, 3, none⟩ = some (.int .i64 q3) ∧ wv.cell? ⟨t1, 4, none⟩ = some (.int .i64 q4) := by
        have := LV.out.some A1.out
        exact ⟨cell_of this, cell_of this, cell_of this, cell_of this, cell_of this⟩
      have hand := and64k q0
      go_upto_region 8 with fail
      have hsz := rsize_low (op := n) hn wv
      have hwn : IntKind.u8.wrap (n : Int) = n := Go.IntWalk.u8_in _ (by omega)
      have hkd := fun u => kind_low (op := n) hn u
      go_upto_region 9 with (first
        | (go_at_call 13
           refine hsz.mono ?_
           rintro e w5 ⟨rfl, l5⟩
           have a6 := heap_new w5 (insC n 0 0 0 0 0 (sizeP n))
           have l6 : Low w5.heap.size w5 (w5.alloc (insC n 0 0 0 0 0 (sizeP n))) := (Low.refl _ _).alloc (Nat.le_refl _) _))
      clear p0 p1 p2 p3 p4 cj hsz
      obtain ⟨t6, ht6⟩ : ∃ t, t = w5.heap.size := ⟨_, rfl⟩
      rw [← ht6] at a6 ⊢
      have HT6 : Hid (w1.heap.size ≤ t6) := Lib.hid (by have := l5.size; have := LV.out.size; omega)
      clear ht6
      generalize w5.alloc (insC n 0 0 0 0 0 (sizeP n)) = w6 at a6 l6 ⊢
      have L6 := Lib.hid (LV.out.trans ((l5.trans (l6.mono l5.size)).mono LV.out.size))
      have A6 := Lib.hid a6
      clear l5 l6 a6
      obtain ⟨p0, p1, p2, p3, p4⟩ : w6.cell? ⟨t1, 0, none⟩ = some (.int .i64 q0) ∧ w6.cell? ⟨t1, 1, none⟩ = some (.int .i64 q1) ∧ w6.cell? ⟨t1, 2, none⟩ = some (.int .i64 q2) ∧ w6.cell? ⟨t1, 3, none⟩ = some (.int .i64 q3) ∧ w6.cell? ⟨t1, 4, none⟩ = some (.int .i64 q4) := by
        have := L6.out.some A1.out
        exact ⟨cell_of this, cell_of this, cell_of this, cell_of this, cell_of this⟩
      have hd7 := and7 q1
      have hs7 := and7 q2
      go_upto_region 12 with fail
      obtain ⟨D, hD⟩ : ∃ D : Nat, q1 % 8 = D := ⟨(q1 % 8).toNat, by omega⟩
      obtain ⟨S2, hS2⟩ : ∃ D : Nat, q2 % 8 = D := ⟨(q2 % 8).toNat, by omega⟩
      obtain ⟨V, hV⟩ : ∃ D : Nat, IntKind.u16.wrap q3 = D := ⟨(IntKind.u16.wrap q3).toNat, by rw [IntKind.wrap_u16]; omega⟩
      have hV0 : V < 65536 := by rw [IntKind.wrap_u16] at hV; omega
      obtain ⟨V8, hV8⟩ : ∃ D : Nat, (V : Int) % 256 = D := ⟨V % 256, by omega⟩
      have hV80 : V8 < 256 := by omega
      have hD0 : D < 8 := by omega
      have hS20 : S2 < 8 := by omega
      rw [hD, hS2, hV]
      clear hd7 hs7 hD hS2 hV hand
      have hkd7 := hkd w6
      go_upto_region 13 with (first
        | (go_at_call 12; refine hkd7.mono ?_; rintro e w7 ⟨rfl, l7⟩))
      clear p0 p1 p2 p3 p4 hkd hkd7
      have L7 := Lib.hid (L6.out.trans (l7.mono L6.out.size))
      have B6 := Lib.hid (l7.some A6.out)
      clear l7
      obtain ⟨p0, p1, p2, p3, p4⟩ : w7.cell? ⟨t1, 0, none⟩ = some (.int .i64 q0) ∧ w7.cell? ⟨t1, 1, none⟩ = some (.int .i64 q1) ∧ w7.cell? ⟨t1, 2, none⟩ = some (.int .i64 q2) ∧ w7.cell? ⟨t1, 3, none⟩ = some (.int .i64 q3) ∧ w7.cell? ⟨t1, 4, none⟩ = some (.int .i64 q4) := by
        have := L7.out.some A1.out
        exact ⟨cell_of this, cell_of this, cell_of this, cell_of this, cell_of this⟩
      have HTT : Hid (t1 ≠ t6 ∧ t2 ≠ t6 ∧ w.heap.size ≤ t6) := Lib.hid (by have := HT6.out; have := heap_lt A1.out; have := heap_lt A2.out; have := HS1.out; omega)
      have h63 := and63 q4
      have h64k := and64k q4
      obtain ⟨BK, hBK⟩ : ∃ D : Nat, q4 % 64 = D := ⟨(q4 % 64).toNat, by omega⟩
      obtain ⟨TB, hTB⟩ : ∃ D : Nat, q4 % 65536 % 255 = D := ⟨(q4 % 65536 % 255).toNat, by omega⟩
      have hTB0 : TB < 255 := by omega
      have hTB1 : IntKind.i64.wrap (1 + (TB : Int)) = 1 + TB := Go.IntWalk.i64_in _ (by omega)
      obtain ⟨X2, hX2⟩ : ∃ x, IntKind.u16.wrap q2 = x := ⟨_, rfl⟩
      obtain ⟨X4, hX4⟩ : ∃ x, IntKind.u16.wrap q4 = x := ⟨_, rfl⟩
      have hw8 : IntKind.u8.wrap (V : Int) = V8 := by rw [IntKind.wrap_u8']; exact hV8
      have hext := fun u => rextend_any (V8 : Int) (by omega) (by omega) u
      have hk18 := kinds_le n hn
      have hk4 := kinds_4 n hn
      have hk5 := kinds_5 n hn
      have hk6 := kinds_6 n hn
      have hkno := kinds_no n hn
      obtain ⟨kk, hkk⟩ : ∃ kk, kk = kindP n := ⟨_, rfl⟩
      rw [← hkk] at hk18 hk4 hk5 hk6 hkno hkn ⊢
      have HK4 := Lib.hid hk4; have HK5 := Lib.hid hk5; have HK6 := Lib.hid hk6; have HKN := Lib.hid hkno
      obtain ⟨Z, hZ⟩ : ∃ Z : Nat, Z = sizeP n := ⟨_, rfl⟩
      rw [← hZ] at B6
      have HZZ := Lib.hid hZ
      clear hk4 hk5 hk6 hkno hkk hZ
      have hcs : kk = 1 ∨ kk = 2 ∨ kk = 3 ∨ kk = 4 ∨ kk = 5 ∨ kk = 6 ∨ kk = 7 ∨ kk = 8 ∨ kk = 9 ∨ kk = 10 ∨ kk = 11 ∨ kk = 12 ∨ kk = 13 ∨ kk = 14 ∨ kk = 15 ∨ kk = 16 ∨ kk = 17 ∨ kk = 18 := by omega
      clear hk18 hkn
      rcases hcs with rfl | rfl | rfl | rfl | rfl | rfl | rfl | rfl | rfl | rfl | rfl | rfl | rfl | rfl | rfl | rfl | rfl | rfl
      · have h6 := B6.out
        have q6 : (w7).heap[t6]? = some (insC n 0 0 0 0 0 Z) := by simpa using h6
        have LW : Low w1.heap.size w1 (w7) := L7.out
        have h2 := LW.some A2.out
        obtain ⟨v0, v1, v2, v3, v4, v5, v6⟩ : InsAt t6 n 0 0 0 0 0 Z (w7) := ⟨cell_of q6, cell_of q6, cell_of q6, cell_of q6, cell_of q6, cell_of q6, cell_of q6⟩
        have cz0 := cell_of (j := 0) h2
        have fz0 := free_of (j := 0) h2
        have bz0 := set_blk (i := 0) (v := .int .i64 n) h2
        have cz1 := cell_of (j := 1) bz0
        have fz1 := free_of (j := 1) bz0
        have bz1 := set_blk (i := 1) (v := .int .i64 0) bz0
        have cz2 := cell_of (j := 2) bz1
        have fz2 := free_of (j := 2) bz1
        have bz2 := set_blk (i := 2) (v := .int .i64 0) bz1
        have cz3 := cell_of (j := 3) bz2
        have fz3 := free_of (j := 3) bz2
        have bz3 := set_blk (i := 3) (v := .int .u16 0) bz2
        have cz4 := cell_of (j := 4) bz3
        have fz4 := free_of (j := 4) bz3
        have bz4 := set_blk (i := 4) (v := .int .u16 0) bz3
        have cz5 := cell_of (j := 5) bz4
        have fz5 := free_of (j := 5) bz4
        have bz5 := set_blk (i := 5) (v := .int .i64 0) bz4
        have cz6 := cell_of (j := 6) bz5
        have fz6 := free_of (j := 6) bz5
        have bz6 := set_blk (i := 6) (v := .int .i64 Z) bz5
        have rz0 : (w7.setCell ⟨t2, 0, none⟩ (.int .i64 n)).cell? ⟨t2, 0, none⟩ = some (.int .i64 n) := (cell_of bz0).trans (by simp)
        have rz1 : ((w7.setCell ⟨t2, 0, none⟩ (.int .i64 n)).setCell ⟨t2, 1, none⟩ (.int .i64 0)).cell? ⟨t2, 1, none⟩ = some (.int .i64 0) := (cell_of bz1).trans (by simp)
        have rz2 : (((w7.setCell ⟨t2, 0, none⟩ (.int .i64 n)).setCell ⟨t2, 1, none⟩ (.int .i64 0)).setCell ⟨t2, 2, none⟩ (.int .i64 0)).cell? ⟨t2, 2, none⟩ = some (.int .i64 0) := (cell_of bz2).trans (by simp)
        have rz3 : ((((w7.setCell ⟨t2, 0, none⟩ (.int .i64 n)).setCell ⟨t2, 1, none⟩ (.int .i64 0)).setCell ⟨t2, 2, none⟩ (.int .i64 0)).setCell ⟨t2, 3, none⟩ (.int .u16 0)).cell? ⟨t2, 3, none⟩ = some (.int .u16 0) := (cell_of bz3).trans (by simp)
        have rz4 : (((((w7.setCell ⟨t2, 0, none⟩ (.int .i64 n)).setCell ⟨t2, 1, none⟩ (.int .i64 0)).setCell ⟨t2, 2, none⟩ (.int .i64 0)).setCell ⟨t2, 3, none⟩ (.int .u16 0)).setCell ⟨t2, 4, none⟩ (.int .u16 0)).cell? ⟨t2, 4, none⟩ = some (.int .u16 0) := (cell_of bz4).trans (by simp)
        have rz5 : ((((((w7.setCell ⟨t2, 0, none⟩ (.int .i64 n)).setCell ⟨t2, 1, none⟩ (.int .i64 0)).setCell ⟨t2, 2, none⟩ (.int .i64 0)).setCell ⟨t2, 3, none⟩ (.int .u16 0)).setCell ⟨t2, 4, none⟩ (.int .u16 0)).setCell ⟨t2, 5, none⟩ (.int .i64 0)).cell? ⟨t2, 5, none⟩ = some (.int .i64 0) := (cell_of bz5).trans (by simp)
        have rz6 : (((((((w7.setCell ⟨t2, 0, none⟩ (.int .i64 n)).setCell ⟨t2, 1, none⟩ (.int .i64 0)).setCell ⟨t2, 2, none⟩ (.int .i64 0)).setCell ⟨t2, 3, none⟩ (.int .u16 0)).setCell ⟨t2, 4, none⟩ (.int .u16 0)).setCell ⟨t2, 5, none⟩ (.int .i64 0)).setCell ⟨t2, 6, none⟩ (.int .i64 Z)).cell? ⟨t2, 6, none⟩ = some (.int .i64 Z) := (cell_of bz6).trans (by simp)
        have LZ := Lib.hid (((((((((L0.out.trans (LW.mono HS1.out))).setCell (g := t2) (i := 0) (by have := HT.out; omega) (.int .i64 n)).setCell (g := t2) (i := 1) (by have := HT.out; omega) (.int .i64 0)).setCell (g := t2) (i := 2) (by have := HT.out; omega) (.int .i64 0)).setCell (g := t2) (i := 3) (by have := HT.out; omega) (.int .u16 0)).setCell (g := t2) (i := 4) (by have := HT.out; omega) (.int .u16 0)).setCell (g := t2) (i := 5) (by have := HT.out; omega) (.int .i64 0)).setCell (g := t2) (i := 6) (by have := HT.out; omega) (.int .i64 Z))
        clear LW q6
        repeat (first | go_values | go_skip | go_guarded | go_step | go_upon)
        (try simp only [Exit.inBlock, Exit.then])
        refine bodyPost_ret (by simp [results, Tryz.results5, go_sem, rz0, rz1, rz2, rz3, rz4, rz5, rz6]; try rfl) rfl ?_
        exact ⟨_, _, _, _, _, _, _, rfl, fun h1 h2 => by have := HKN.out; omega, LZ.out⟩
      · have h6 := B6.out
        have cs1 := cell_of (j := 1) h6
        have fs1 := free_of (j := 1) h6
        have bs1 := set_blk (i := 1) (v := .int .i64 D) h6
        have q6 : ((w7.setCell ⟨t6, 1, none⟩ (.int .i64 D))).heap[t6]? = some (insC n D 0 0 0 0 Z) := by simpa using bs1
        have LW : Low w1.heap.size w1 ((w7.setCell ⟨t6, 1, none⟩ (.int .i64 D))) := (L7.out).setCell (g := t6) (i := 1) HT6.out (.int .i64 D)
        have h2 := LW.some A2.out
        obtain ⟨v0, v1, v2, v3, v4, v5, v6⟩ : InsAt t6 n D 0 0 0 0 Z ((w7.setCell ⟨t6, 1, none⟩ (.int .i64 D))) := ⟨cell_of q6, cell_of q6, cell_of q6, cell_of q6, cell_of q6, cell_of q6, cell_of q6⟩
        have cz0 := cell_of (j := 0) h2
        have fz0 := free_of (j := 0) h2
        have bz0 := set_blk (i := 0) (v := .int .i64 n) h2
        have cz1 := cell_of (j := 1) bz0
        have fz1 := free_of (j := 1) bz0
        have bz1 := set_blk (i := 1) (v := .int .i64 D) bz0
        have cz2 := cell_of (j := 2) bz1
        have fz2 := free_of (j := 2) bz1
        have bz2 := set_blk (i := 2) (v := .int .i64 0) bz1
        have cz3 := cell_of (j := 3) bz2
        have fz3 := free_of (j := 3) bz2
        have bz3 := set_blk (i := 3) (v := .int .u16 0) bz2
        have cz4 := cell_of (j := 4) bz3
        have fz4 := free_of (j := 4) bz3
        have bz4 := set_blk (i := 4) (v := .int .u16 0) bz3
        have cz5 := cell_of (j := 5) bz4
        have fz5 := free_of (j := 5) bz4
        have bz5 := set_blk (i := 5) (v := .int .i64 0) bz4
        have cz6 := cell_of (j := 6) bz5
        have fz6 := free_of (j := 6) bz5
        have bz6 := set_blk (i := 6) (v := .int .i64 Z) bz5
        have rz0 : ((w7.setCell ⟨t6, 1, none⟩ (.int .i64 D)).setCell ⟨t2, 0, none⟩ (.int .i64 n)).cell? ⟨t2, 0, none⟩ = some (.int .i64 n) := (cell_of bz0).trans (by simp)
        have rz1 : (((w7.setCell ⟨t6, 1, none⟩ (.int .i64 D)).setCell ⟨t2, 0, none⟩ (.int .i64 n)).setCell ⟨t2, 1, none⟩ (.int .i64 D)).cell? ⟨t2, 1, none⟩ = some (.int .i64 D) := (cell_of bz1).trans (by simp)
        have rz2 : ((((w7.setCell ⟨t6, 1, none⟩ (.int .i64 D)).setCell ⟨t2, 0, none⟩ (.int .i64 n)).setCell ⟨t2, 1, none⟩ (.int .i64 D)).setCell ⟨t2, 2, none⟩ (.int .i64 0)).cell? ⟨t2, 2, none⟩ = some (.int .i64 0) := (cell_of bz2).trans (by simp)
        have rz3 : (((((w7.setCell ⟨t6, 1, none⟩ (.int .i64 D)).setCell ⟨t2, 0, none⟩ (.int .i64 n)).setCell ⟨t2, 1, none⟩ (.int .i64 D)).setCell ⟨t2, 2, none⟩ (.int .i64 0)).setCell ⟨t2, 3, none⟩ (.int .u16 0)).cell? ⟨t2, 3, none⟩ = some (.int .u16 0) := (cell_of bz3).trans (by simp)
        have rz4 : ((((((w7.setCell ⟨t6, 1, none⟩ (.int .i64 D)).setCell ⟨t2, 0, none⟩ (.int .i64 n)).setCell ⟨t2, 1, none⟩ (.int .i64 D)).setCell ⟨t2, 2, none⟩ (.int .i64 0)).setCell ⟨t2, 3, none⟩ (.int .u16 0)).setCell ⟨t2, 4, none⟩ (.int .u16 0)).cell? ⟨t2, 4, none⟩ = some (.int .u16 0) := (cell_of bz4).trans (by simp)
        have rz5 : (((((((w7.setCell ⟨t6, 1, none⟩ (.int .i64 D)).setCell ⟨t2, 0, none⟩ (.int .i64 n)).setCell ⟨t2, 1, none⟩ (.int .i64 D)).setCell ⟨t2, 2, none⟩ (.int .i64 0)).setCell ⟨t2, 3, none⟩ (.int .u16 0)).setCell ⟨t2, 4, none⟩ (.int .u16 0)).setCell ⟨t2, 5, none⟩ (.int .i64 0)).cell? ⟨t2, 5, none⟩ = some (.int .i64 0) := (cell_of bz5).trans (by simp)
        have rz6 : ((((((((w7.setCell ⟨t6, 1, none⟩ (.int .i64 D)).setCell ⟨t2, 0, none⟩ (.int .i64 n)).setCell ⟨t2, 1, none⟩ (.int .i64 D)).setCell ⟨t2, 2, none⟩ (.int .i64 0)).setCell ⟨t2, 3, none⟩ (.int .u16 0)).setCell ⟨t2, 4, none⟩ (.int .u16 0)).setCell ⟨t2, 5, none⟩ (.int .i64 0)).setCell ⟨t2, 6, none⟩ (.int .i64 Z)).cell? ⟨t2, 6, none⟩ = some (.int .i64 Z) := (cell_of bz6).trans (by simp)
        have LZ := Lib.hid (((((((((L0.out.trans (LW.mono HS1.out))).setCell (g := t2) (i := 0) (by have := HT.out; omega) (.int .i64 n)).setCell (g := t2) (i := 1) (by have := HT.out; omega) (.int .i64 D)).setCell (g := t2) (i := 2) (by have := HT.out; omega) (.int .i64 0)).setCell (g := t2) (i := 3) (by have := HT.out; omega) (.int .u16 0)).setCell (g := t2) (i := 4) (by have := HT.out; omega) (.int .u16 0)).setCell (g := t2) (i := 5) (by have := HT.out; omega) (.int .i64 0)).setCell (g := t2) (i := 6) (by have := HT.out; omega) (.int .i64 Z))
        clear LW q6
        repeat (first | go_values | go_skip | go_guarded | go_step | go_upon)
        (try simp only [Exit.inBlock, Exit.then])
        refine bodyPost_ret (by simp [results, Tryz.results5, go_sem, rz0, rz1, rz2, rz3, rz4, rz5, rz6]; try rfl) rfl ?_
        exact ⟨_, _, _, _, _, _, _, rfl, fun h1 h2 => by have := HKN.out; omega, LZ.out⟩
      · have h6 := B6.out
        have cs3 := cell_of (j := 3) h6
        have fs3 := free_of (j := 3) h6
        have bs3 := set_blk (i := 3) (v := .int .u16 V8) h6
        have q6 : ((w7.setCell ⟨t6, 3, none⟩ (.int .u16 V8))).heap[t6]? = some (insC n 0 0 V8 0 0 Z) := by simpa using bs3
        have LW : Low w1.heap.size w1 ((w7.setCell ⟨t6, 3, none⟩ (.int .u16 V8))) := (L7.out).setCell (g := t6) (i := 3) HT6.out (.int .u16 V8)
        have h2 := LW.some A2.out
        obtain ⟨v0, v1, v2, v3, v4, v5, v6⟩ : InsAt t6 n 0 0 V8 0 0 Z ((w7.setCell ⟨t6, 3, none⟩ (.int .u16 V8))) := ⟨cell_of q6, cell_of q6, cell_of q6, cell_of q6, cell_of q6, cell_of q6, cell_of q6⟩
        have cz0 := cell_of (j := 0) h2
        have fz0 := free_of (j := 0) h2
        have bz0 := set_blk (i := 0) (v := .int .i64 n) h2
        have cz1 := cell_of (j := 1) bz0
        have fz1 := free_of (j := 1) bz0
        have bz1 := set_blk (i := 1) (v := .int .i64 0) bz0
        have cz2 := cell_of (j := 2) bz1
        have fz2 := free_of (j := 2) bz1
        have bz2 := set_blk (i := 2) (v := .int .i64 0) bz1
        have cz3 := cell_of (j := 3) bz2
        have fz3 := free_of (j := 3) bz2
        have bz3 := set_blk (i := 3) (v := .int .u16 V8) bz2
        have cz4 := cell_of (j := 4) bz3
        have fz4 := free_of (j := 4) bz3
        have bz4 := set_blk (i := 4) (v := .int .u16 0) bz3
        have cz5 := cell_of (j := 5) bz4
        have fz5 := free_of (j := 5) bz4
        have bz5 := set_blk (i := 5) (v := .int .i64 0) bz4
        have cz6 := cell_of (j := 6) bz5
        have fz6 := free_of (j := 6) bz5
        have bz6 := set_blk (i := 6) (v := .int .i64 Z) bz5
        have rz0 : ((w7.setCell ⟨t6, 3, none⟩ (.int .u16 V8)).setCell ⟨t2, 0, none⟩ (.int .i64 n)).cell? ⟨t2, 0, none⟩ = some (.int .i64 n) := (cell_of bz0).trans (by simp)
        have rz1 : (((w7.setCell ⟨t6, 3, none⟩ (.int .u16 V8)).setCell ⟨t2, 0, none⟩ (.int .i64 n)).setCell ⟨t2, 1, none⟩ (.int .i64 0)).cell? ⟨t2, 1, none⟩ = some (.int .i64 0) := (cell_of bz1).trans (by simp)
        have rz2 : ((((w7.setCell ⟨t6, 3, none⟩ (.int .u16 V8)).setCell ⟨t2, 0, none⟩ (.int .i64 n)).setCell ⟨t2, 1, none⟩ (.int .i64 0)).setCell ⟨t2, 2, none⟩ (.int .i64 0)).cell? ⟨t2, 2, none⟩ = some (.int .i64 0) := (cell_of bz2).trans (by simp)
        have rz3 : (((((w7.setCell ⟨t6, 3, none⟩ (.int .u16 V8)).setCell ⟨t2, 0, none⟩ (.int .i64 n)).setCell ⟨t2, 1, none⟩ (.int .i64 0)).setCell ⟨t2, 2, none⟩ (.int .i64 0)).setCell ⟨t2, 3, none⟩ (.int .u16 V8)).cell? ⟨t2, 3, none⟩ = some (.int .u16 V8) := (cell_of bz3).trans (by simp)
        have rz4 : ((((((w7.setCell ⟨t6, 3, none⟩ (.int .u16 V8)).setCell ⟨t2, 0, none⟩ (.int .i64 n)).setCell ⟨t2, 1, none⟩ (.int .i64 0)).setCell ⟨t2, 2, none⟩ (.int .i64 0)).setCell ⟨t2, 3, none⟩ (.int .u16 V8)).setCell ⟨t2, 4, none⟩ (.int .u16 0)).cell? ⟨t2, 4, none⟩ = some (.int .u16 0) := (cell_of bz4).trans (by simp)
        have rz5 : (((((((w7.setCell ⟨t6, 3, none⟩ (.int .u16 V8)).setCell ⟨t2, 0, none⟩ (.int .i64 n)).setCell ⟨t2, 1, none⟩ (.int .i64 0)).setCell ⟨t2, 2, none⟩ (.int .i64 0)).setCell ⟨t2, 3, none⟩ (.int .u16 V8)).setCell ⟨t2, 4, none⟩ (.int .u16 0)).setCell ⟨t2, 5, none⟩ (.int .i64 0)).cell? ⟨t2, 5, none⟩ = some (.int .i64 0) := (cell_of bz5).trans (by simp)
        have rz6 : ((((((((w7.setCell ⟨t6, 3, none⟩ (.int .u16 V8)).setCell ⟨t2, 0, none⟩ (.int .i64 n)).setCell ⟨t2, 1, none⟩ (.int .i64 0)).setCell ⟨t2, 2, none⟩ (.int .i64 0)).setCell ⟨t2, 3, none⟩ (.int .u16 V8)).setCell ⟨t2, 4, none⟩ (.int .u16 0)).setCell ⟨t2, 5, none⟩ (.int .i64 0)).setCell ⟨t2, 6, none⟩ (.int .i64 Z)).cell? ⟨t2, 6, none⟩ = some (.int .i64 Z) := (cell_of bz6).trans (by simp)
        have LZ := Lib.hid (((((((((L0.out.trans (LW.mono HS1.out))).setCell (g := t2) (i := 0) (by have := HT.out; omega) (.int .i64 n)).setCell (g := t2) (i := 1) (by have := HT.out; omega) (.int .i64 0)).setCell (g := t2) (i := 2) (by have := HT.out; omega) (.int .i64 0)).setCell (g := t2) (i := 3) (by have := HT.out; omega) (.int .u16 V8)).setCell (g := t2) (i := 4) (by have := HT.out; omega) (.int .u16 0)).setCell (g := t2) (i := 5) (by have := HT.out; omega) (.int .i64 0)).setCell (g := t2) (i := 6) (by have := HT.out; omega) (.int .i64 Z))
        clear LW q6
        repeat (first | go_values | go_skip | go_guarded | go_step | go_upon)
        (try simp only [Exit.inBlock, Exit.then])
        refine bodyPost_ret (by simp [results, Tryz.results5, go_sem, rz0, rz1, rz2, rz3, rz4, rz5, rz6]; try rfl) rfl ?_
        exact ⟨_, _, _, _, _, _, _, rfl, fun h1 h2 => by have := HKN.out; omega, LZ.out⟩
      · have h6 := B6.out
        have cs1 := cell_of (j := 1) h6
        have fs1 := free_of (j := 1) h6
        have bs1 := set_blk (i := 1) (v := .int .i64 D) h6
        have cs2 := cell_of (j := 2) bs1
        have fs2 := free_of (j := 2) bs1
        have bs2 := set_blk (i := 2) (v := .int .i64 S2) bs1
        have q6 : (((w7.setCell ⟨t6, 1, none⟩ (.int .i64 D)).setCell ⟨t6, 2, none⟩ (.int .i64 S2))).heap[t6]? = some (insC n D S2 0 0 0 Z) := by simpa using bs2
        have LW : Low w1.heap.size w1 (((w7.setCell ⟨t6, 1, none⟩ (.int .i64 D)).setCell ⟨t6, 2, none⟩ (.int .i64 S2))) := ((L7.out).setCell (g := t6) (i := 1) HT6.out (.int .i64 D)).setCell (g := t6) (i := 2) HT6.out (.int .i64 S2)
        have h2 := LW.some A2.out
        obtain ⟨v0, v1, v2, v3, v4, v5, v6⟩ : InsAt t6 n D S2 0 0 0 Z (((w7.setCell ⟨t6, 1, none⟩ (.int .i64 D)).setCell ⟨t6, 2, none⟩ (.int .i64 S2))) := ⟨cell_of q6, cell_of q6, cell_of q6, cell_of q6, cell_of q6, cell_of q6, cell_of q6⟩
        have cz0 := cell_of (j := 0) h2
        have fz0 := free_of (j := 0) h2
        have bz0 := set_blk (i := 0) (v := .int .i64 n) h2
        have cz1 := cell_of (j := 1) bz0
        have fz1 := free_of (j := 1) bz0
        have bz1 := set_blk (i := 1) (v := .int .i64 D) bz0
        have cz2 := cell_of (j := 2) bz1
        have fz2 := free_of (j := 2) bz1
        have bz2 := set_blk (i := 2) (v := .int .i64 S2) bz1
        have cz3 := cell_of (j := 3) bz2
        have fz3 := free_of (j := 3) bz2
        have bz3 := set_blk (i := 3) (v := .int .u16 0) bz2
        have cz4 := cell_of (j := 4) bz3
        have fz4 := free_of (j := 4) bz3
        have bz4 := set_blk (i := 4) (v := .int .u16 0) bz3
        have cz5 := cell_of (j := 5) bz4
        have fz5 := free_of (j := 5) bz4
        have bz5 := set_blk (i := 5) (v := .int .i64 0) bz4
        have cz6 := cell_of (j := 6) bz5
        have fz6 := free_of (j := 6) bz5
        have bz6 := set_blk (i := 6) (v := .int .i64 Z) bz5
        have rz0 : (((w7.setCell ⟨t6, 1, none⟩ (.int .i64 D)).setCell ⟨t6, 2, none⟩ (.int .i64 S2)).setCell ⟨t2, 0, none⟩ (.int .i64 n)).cell? ⟨t2, 0, none⟩ = some (.int .i64 n) := (cell_of bz0).trans (by simp)
        have rz1 : ((((w7.setCell ⟨t6, 1, none⟩ (.int .i64 D)).setCell ⟨t6, 2, none⟩ (.int .i64 S2)).setCell ⟨t2, 0, none⟩ (.int .i64 n)).setCell ⟨t2, 1, none⟩ (.int .i64 D)).cell? ⟨t2, 1, none⟩ = some (.int .i64 D) := (cell_of bz1).trans (by simp)
        have rz2 : (((((w7.setCell ⟨t6, 1, none⟩ (.int .i64 D)).setCell ⟨t6, 2, none⟩ (.int .i64 S2)).setCell ⟨t2, 0, none⟩ (.int .i64 n)).setCell ⟨t2, 1, none⟩ (.int .i64 D)).setCell ⟨t2, 2, none⟩ (.int .i64 S2)).cell? ⟨t2, 2, none⟩ = some (.int .i64 S2) := (cell_of bz2).trans (by simp)
        have rz3 : ((((((w7.setCell ⟨t6, 1, none⟩ (.int .i64 D)).setCell ⟨t6, 2, none⟩ (.int .i64 S2)).setCell ⟨t2, 0, none⟩ (.int .i64 n)).setCell ⟨t2, 1, none⟩ (.int .i64 D)).setCell ⟨t2, 2, none⟩ (.int .i64 S2)).setCell ⟨t2, 3, none⟩ (.int .u16 0)).cell? ⟨t2, 3, none⟩ = some (.int .u16 0) := (cell_of bz3).trans (by simp)
        have rz4 : (((((((w7.setCell ⟨t6, 1, none⟩ (.int .i64 D)).setCell ⟨t6, 2, none⟩ (.int .i64 S2)).setCell ⟨t2, 0, none⟩ (.int .i64 n)).setCell ⟨t2, 1, none⟩ (.int .i64 D)).setCell ⟨t2, 2, none⟩ (.int .i64 S2)).setCell ⟨t2, 3, none⟩ (.int .u16 0)).setCell ⟨t2, 4, none⟩ (.int .u16 0)).cell? ⟨t2, 4, none⟩ = some (.int .u16 0) := (cell_of bz4).trans (by simp)
        have rz5 : ((((((((w7.setCell ⟨t6, 1, none⟩ (.int .i64 D)).setCell ⟨t6, 2, none⟩ (.int .i64 S2)).setCell ⟨t2, 0, none⟩ (.int .i64 n)).setCell ⟨t2, 1, none⟩ (.int .i64 D)).setCell ⟨t2, 2, none⟩ (.int .i64 S2)).setCell ⟨t2, 3, none⟩ (.int .u16 0)).setCell ⟨t2, 4, none⟩ (.int .u16 0)).setCell ⟨t2, 5, none⟩ (.int .i64 0)).cell? ⟨t2, 5, none⟩ = some (.int .i64 0) := (cell_of bz5).trans (by simp)
        have rz6 : (((((((((w7.setCell ⟨t6, 1, none⟩ (.int .i64 D)).setCell ⟨t6, 2, none⟩ (.int .i64 S2)).setCell ⟨t2, 0, none⟩ (.int .i64 n)).setCell ⟨t2, 1, none⟩ (.int .i64 D)).setCell ⟨t2, 2, none⟩ (.int .i64 S2)).setCell ⟨t2, 3, none⟩ (.int .u16 0)).setCell ⟨t2, 4, none⟩ (.int .u16 0)).setCell ⟨t2, 5, none⟩ (.int .i64 0)).setCell ⟨t2, 6, none⟩ (.int .i64 Z)).cell? ⟨t2, 6, none⟩ = some (.int .i64 Z) := (cell_of bz6).trans (by simp)
        have LZ := Lib.hid (((((((((L0.out.trans (LW.mono HS1.out))).setCell (g := t2) (i := 0) (by have := HT.out; omega) (.int .i64 n)).setCell (g := t2) (i := 1) (by have := HT.out; omega) (.int .i64 D)).setCell (g := t2) (i := 2) (by have := HT.out; omega) (.int .i64 S2)).setCell (g := t2) (i := 3) (by have := HT.out; omega) (.int .u16 0)).setCell (g := t2) (i := 4) (by have := HT.out; omega) (.int .u16 0)).setCell (g := t2) (i := 5) (by have := HT.out; omega) (.int .i64 0)).setCell (g := t2) (i := 6) (by have := HT.out; omega) (.int .i64 Z))
        clear LW q6
        repeat (first | go_values | go_skip | go_guarded | go_step | go_upon)
        (try simp only [Exit.inBlock, Exit.then])
        refine bodyPost_ret (by simp [results, Tryz.results5, go_sem, rz0, rz1, rz2, rz3, rz4, rz5, rz6]; try rfl) rfl ?_
        exact ⟨_, _, _, _, _, _, _, rfl, fun _ _ => ⟨rfl, rfl, .inl ⟨n, D, S2, rfl, rfl, rfl, rfl, by have := HK4.out (by simp); rw [HZZ.out, (kind_regs n (by omega) this.1 this.2).2]; rfl, (HK4.out (by simp)).1, (HK4.out (by simp)).2, hD0, hS20⟩⟩, LZ.out⟩
      · have h6 := B6.out
        have cs1 := cell_of (j := 1) h6
        have fs1 := free_of (j := 1) h6
        have bs1 := set_blk (i := 1) (v := .int .i64 D) h6
        have cs3 := cell_of (j := 3) bs1
        have fs3 := free_of (j := 3) bs1
        have bs3 := set_blk (i := 3) (v := .int .u16 (ext2 (V8 : Int))) bs1
        have q6 : (((w7.setCell ⟨t6, 1, none⟩ (.int .i64 D)).setCell ⟨t6, 3, none⟩ (.int .u16 (ext2 (V8 : Int))))).heap[t6]? = some (insC n D 0 (ext2 (V8 : Int)) 0 0 Z) := by simpa using bs3
        have LW : Low w1.heap.size w1 (((w7.setCell ⟨t6, 1, none⟩ (.int .i64 D)).setCell ⟨t6, 3, none⟩ (.int .u16 (ext2 (V8 : Int))))) := ((L7.out).setCell (g := t6) (i := 1) HT6.out (.int .i64 D)).setCell (g := t6) (i := 3) HT6.out (.int .u16 (ext2 (V8 : Int)))
        have h2 := LW.some A2.out
        obtain ⟨v0, v1, v2, v3, v4, v5, v6⟩ : InsAt t6 n D 0 (ext2 (V8 : Int)) 0 0 Z (((w7.setCell ⟨t6, 1, none⟩ (.int .i64 D)).setCell ⟨t6, 3, none⟩ (.int .u16 (ext2 (V8 : Int))))) := ⟨cell_of q6, cell_of q6, cell_of q6, cell_of q6, cell_of q6, cell_of q6, cell_of q6⟩
        have cz0 := cell_of (j := 0) h2
        have fz0 := free_of (j := 0) h2
        have bz0 := set_blk (i := 0) (v := .int .i64 n) h2
        have cz1 := cell_of (j := 1) bz0
        have fz1 := free_of (j := 1) bz0
        have bz1 := set_blk (i := 1) (v := .int .i64 D) bz0
        have cz2 := cell_of (j := 2) bz1
        have fz2 := free_of (j := 2) bz1
        have bz2 := set_blk (i := 2) (v := .int .i64 0) bz1
        have cz3 := cell_of (j := 3) bz2
        have fz3 := free_of (j := 3) bz2
        have bz3 := set_blk (i := 3) (v := .int .u16 (ext2 (V8 : Int))) bz2
        have cz4 := cell_of (j := 4) bz3
        have fz4 := free_of (j := 4) bz3
        have bz4 := set_blk (i := 4) (v := .int .u16 0) bz3
        have cz5 := cell_of (j := 5) bz4
        have fz5 := free_of (j := 5) bz4
        have bz5 := set_blk (i := 5) (v := .int .i64 0) bz4
        have cz6 := cell_of (j := 6) bz5
        have fz6 := free_of (j := 6) bz5
        have bz6 := set_blk (i := 6) (v := .int .i64 Z) bz5
        have rz0 : (((w7.setCell ⟨t6, 1, none⟩ (.int .i64 D)).setCell ⟨t6, 3, none⟩ (.int .u16 (ext2 (V8 : Int)))).setCell ⟨t2, 0, none⟩ (.int .i64 n)).cell? ⟨t2, 0, none⟩ = some (.int .i64 n) := (cell_of bz0).trans (by simp)
        have rz1 : ((((w7.setCell ⟨t6, 1, none⟩ (.int .i64 D)).setCell ⟨t6, 3, none⟩ (.int .u16 (ext2 (V8 : Int)))).setCell ⟨t2, 0, none⟩ (.int .i64 n)).setCell ⟨t2, 1, none⟩ (.int .i64 D)).cell? ⟨t2, 1, none⟩ = some (.int .i64 D) := (cell_of bz1).trans (by simp)
        have rz2 : (((((w7.setCell ⟨t6, 1, none⟩ (.int .i64 D)).setCell ⟨t6, 3, none⟩ (.int .u16 (ext2 (V8 : Int)))).setCell ⟨t2, 0, none⟩ (.int .i64 n)).setCell ⟨t2, 1, none⟩ (.int .i64 D)).setCell ⟨t2, 2, none⟩ (.int .i64 0)).cell? ⟨t2, 2, none⟩ = some (.int .i64 0) := (cell_of bz2).trans (by simp)
        have rz3 : ((((((w7.setCell ⟨t6, 1, none⟩ (.int .i64 D)).setCell ⟨t6, 3, none⟩ (.int .u16 (ext2 (V8 : Int)))).setCell ⟨t2, 0, none⟩ (.int .i64 n)).setCell ⟨t2, 1, none⟩ (.int .i64 D)).setCell ⟨t2, 2, none⟩ (.int .i64 0)).setCell ⟨t2, 3, none⟩ (.int .u16 (ext2 (V8 : Int)))).cell? ⟨t2, 3, none⟩ = some (.int .u16 (ext2 (V8 : Int))) := (cell_of bz3).trans (by simp)
        have rz4 : (((((((w7.setCell ⟨t6, 1, none⟩ (.int .i64 D)).setCell ⟨t6, 3, none⟩ (.int .u16 (ext2 (V8 : Int)))).setCell ⟨t2, 0, none⟩ (.int .i64 n)).setCell ⟨t2, 1, none⟩ (.int .i64 D)).setCell ⟨t2, 2, none⟩ (.int .i64 0)).setCell ⟨t2, 3, none⟩ (.int .u16 (ext2 (V8 : Int)))).setCell ⟨t2, 4, none⟩ (.int .u16 0)).cell? ⟨t2, 4, none⟩ = some (.int .u16 0) := (cell_of bz4).trans (by simp)
        have rz5 : ((((((((w7.setCell ⟨t6, 1, none⟩ (.int .i64 D)).setCell ⟨t6, 3, none⟩ (.int .u16 (ext2 (V8 : Int)))).setCell ⟨t2, 0, none⟩ (.int .i64 n)).setCell ⟨t2, 1, none⟩ (.int .i64 D)).setCell ⟨t2, 2, none⟩ (.int .i64 0)).setCell ⟨t2, 3, none⟩ (.int .u16 (ext2 (V8 : Int)))).setCell ⟨t2, 4, none⟩ (.int .u16 0)).setCell ⟨t2, 5, none⟩ (.int .i64 0)).cell? ⟨t2, 5, none⟩ = some (.int .i64 0) := (cell_of bz5).trans (by simp)
        have rz6 : (((((((((w7.setCell ⟨t6, 1, none⟩ (.int .i64 D)).setCell ⟨t6, 3, none⟩ (.int .u16 (ext2 (V8 : Int)))).setCell ⟨t2, 0, none⟩ (.int .i64 n)).setCell ⟨t2, 1, none⟩ (.int .i64 D)).setCell ⟨t2, 2, none⟩ (.int .i64 0)).setCell ⟨t2, 3, none⟩ (.int .u16 (ext2 (V8 : Int)))).setCell ⟨t2, 4, none⟩ (.int .u16 0)).setCell ⟨t2, 5, none⟩ (.int .i64 0)).setCell ⟨t2, 6, none⟩ (.int .i64 Z)).cell? ⟨t2, 6, none⟩ = some (.int .i64 Z) := (cell_of bz6).trans (by simp)
        have LZ := Lib.hid (((((((((L0.out.trans (LW.mono HS1.out))).setCell (g := t2) (i := 0) (by have := HT.out; omega) (.int .i64 n)).setCell (g := t2) (i := 1) (by have := HT.out; omega) (.int .i64 D)).setCell (g := t2) (i := 2) (by have := HT.out; omega) (.int .i64 0)).setCell (g := t2) (i := 3) (by have := HT.out; omega) (.int .u16 (ext2 (V8 : Int)))).setCell (g := t2) (i := 4) (by have := HT.out; omega) (.int .u16 0)).setCell (g := t2) (i := 5) (by have := HT.out; omega) (.int .i64 0)).setCell (g := t2) (i := 6) (by have := HT.out; omega) (.int .i64 Z))
        clear LW q6
        go_upto_region 50 with (first | (go_at_call 14; refine (hext _).mono ?_; rintro e u ⟨rfl, hu⟩; rw [hu]; clear hu u))
        repeat (first | go_values | go_skip | go_guarded | go_step | go_upon)
        (try simp only [Exit.inBlock, Exit.then])
        refine bodyPost_ret (by simp [results, Tryz.results5, go_sem, rz0, rz1, rz2, rz3, rz4, rz5, rz6]; try rfl) rfl ?_
        exact ⟨_, _, _, _, _, _, _, rfl, fun _ _ => ⟨rfl, rfl, .inr (.inl ⟨n, D, V8, rfl, rfl, rfl, ext_same V8 hV80, by have := HK5.out (by simp); rw [HZZ.out, (kind_short n (by omega) this.1 this.2).2]; rfl, (HK5.out (by simp)).1, (HK5.out (by simp)).2, hD0, hV80⟩)⟩, LZ.out⟩
      · have h6 := B6.out
        have cs1 := cell_of (j := 1) h6
        have fs1 := free_of (j := 1) h6
        have bs1 := set_blk (i := 1) (v := .int .i64 D) h6
        have cs3 := cell_of (j := 3) bs1
        have fs3 := free_of (j := 3) bs1
        have bs3 := set_blk (i := 3) (v := .int .u16 V) bs1
        have q6 : (((w7.setCell ⟨t6, 1, none⟩ (.int .i64 D)).setCell ⟨t6, 3, none⟩ (.int .u16 V))).heap[t6]? = some (insC n D 0 V 0 0 Z) := by simpa using bs3
        have LW : Low w1.heap.size w1 (((w7.setCell ⟨t6, 1, none⟩ (.int .i64 D)).setCell ⟨t6, 3, none⟩ (.int .u16 V))) := ((L7.out).setCell (g := t6) (i := 1) HT6.out (.int .i64 D)).setCell (g := t6) (i := 3) HT6.out (.int .u16 V)
        have h2 := LW.some A2.out
        obtain ⟨v0, v1, v2, v3, v4, v5, v6⟩ : InsAt t6 n D 0 V 0 0 Z (((w7.setCell ⟨t6, 1, none⟩ (.int .i64 D)).setCell ⟨t6, 3, none⟩ (.int .u16 V))) := ⟨cell_of q6, cell_of q6, cell_of q6, cell_of q6, cell_of q6, cell_of q6, cell_of q6⟩
        have cz0 := cell_of (j := 0) h2
        have fz0 := free_of (j := 0) h2
        have bz0 := set_blk (i := 0) (v := .int .i64 n) h2
        have cz1 := cell_of (j := 1) bz0
        have fz1 := free_of (j := 1) bz0
        have bz1 := set_blk (i := 1) (v := .int .i64 D) bz0
        have cz2 := cell_of (j := 2) bz1
        have fz2 := free_of (j := 2) bz1
        have bz2 := set_blk (i := 2) (v := .int .i64 0) bz1
        have cz3 := cell_of (j := 3) bz2
        have fz3 := free_of (j := 3) bz2
        have bz3 := set_blk (i := 3) (v := .int .u16 V) bz2
        have cz4 := cell_of (j := 4) bz3
        have fz4 := free_of (j := 4) bz3
        have bz4 := set_blk (i := 4) (v := .int .u16 0) bz3
        have cz5 := cell_of (j := 5) bz4
        have fz5 := free_of (j := 5) bz4
        have bz5 := set_blk (i := 5) (v := .int .i64 0) bz4
        have cz6 := cell_of (j := 6) bz5
        have fz6 := free_of (j := 6) bz5
        have bz6 := set_blk (i := 6) (v := .int .i64 Z) bz5
        have rz0 : (((w7.setCell ⟨t6, 1, none⟩ (.int .i64 D)).setCell ⟨t6, 3, none⟩ (.int .u16 V)).setCell ⟨t2, 0, none⟩ (.int .i64 n)).cell? ⟨t2, 0, none⟩ = some (.int .i64 n) := (cell_of bz0).trans (by simp)
        have rz1 : ((((w7.setCell ⟨t6, 1, none⟩ (.int .i64 D)).setCell ⟨t6, 3, none⟩ (.int .u16 V)).setCell ⟨t2, 0, none⟩ (.int .i64 n)).setCell ⟨t2, 1, none⟩ (.int .i64 D)).cell? ⟨t2, 1, none⟩ = some (.int .i64 D) := (cell_of bz1).trans (by simp)
        have rz2 : (((((w7.setCell ⟨t6, 1, none⟩ (.int .i64 D)).setCell ⟨t6, 3, none⟩ (.int .u16 V)).setCell ⟨t2, 0, none⟩ (.int .i64 n)).setCell ⟨t2, 1, none⟩ (.int .i64 D)).setCell ⟨t2, 2, none⟩ (.int .i64 0)).cell? ⟨t2, 2, none⟩ = some (.int .i64 0) := (cell_of bz2).trans (by simp)
        have rz3 : ((((((w7.setCell ⟨t6, 1, none⟩ (.int .i64 D)).setCell ⟨t6, 3, none⟩ (.int .u16 V)).setCell ⟨t2, 0, none⟩ (.int .i64 n)).setCell ⟨t2, 1, none⟩ (.int .i64 D)).setCell ⟨t2, 2, none⟩ (.int .i64 0)).setCell ⟨t2, 3, none⟩ (.int .u16 V)).cell? ⟨t2, 3, none⟩ = some (.int .u16 V) := (cell_of bz3).trans (by simp)
        have rz4 : (((((((w7.setCell ⟨t6, 1, none⟩ (.int .i64 D)).setCell ⟨t6, 3, none⟩ (.int .u16 V)).setCell ⟨t2, 0, none⟩ (.int .i64 n)).setCell ⟨t2, 1, none⟩ (.int .i64 D)).setCell ⟨t2, 2, none⟩ (.int .i64 0)).setCell ⟨t2, 3, none⟩ (.int .u16 V)).setCell ⟨t2, 4, none⟩ (.int .u16 0)).cell? ⟨t2, 4, none⟩ = some (.int .u16 0) := (cell_of bz4).trans (by simp)
        have rz5 : ((((((((w7.setCell ⟨t6, 1, none⟩ (.int .i64 D)).setCell ⟨t6, 3, none⟩ (.int .u16 V)).setCell ⟨t2, 0, none⟩ (.int .i64 n)).setCell ⟨t2, 1, none⟩ (.int .i64 D)).setCell ⟨t2, 2, none⟩ (.int .i64 0)).setCell ⟨t2, 3, none⟩ (.int .u16 V)).setCell ⟨t2, 4, none⟩ (.int .u16 0)).setCell ⟨t2, 5, none⟩ (.int .i64 0)).cell? ⟨t2, 5, none⟩ = some (.int .i64 0) := (cell_of bz5).trans (by simp)
        have rz6 : (((((((((w7.setCell ⟨t6, 1, none⟩ (.int .i64 D)).setCell ⟨t6, 3, none⟩ (.int .u16 V)).setCell ⟨t2, 0, none⟩ (.int .i64 n)).setCell ⟨t2, 1, none⟩ (.int .i64 D)).setCell ⟨t2, 2, none⟩ (.int .i64 0)).setCell ⟨t2, 3, none⟩ (.int .u16 V)).setCell ⟨t2, 4, none⟩ (.int .u16 0)).setCell ⟨t2, 5, none⟩ (.int .i64 0)).setCell ⟨t2, 6, none⟩ (.int .i64 Z)).cell? ⟨t2, 6, none⟩ = some (.int .i64 Z) := (cell_of bz6).trans (by simp)
        have LZ := Lib.hid (((((((((L0.out.trans (LW.mono HS1.out))).setCell (g := t2) (i := 0) (by have := HT.out; omega) (.int .i64 n)).setCell (g := t2) (i := 1) (by have := HT.out; omega) (.int .i64 D)).setCell (g := t2) (i := 2) (by have := HT.out; omega) (.int .i64 0)).setCell (g := t2) (i := 3) (by have := HT.out; omega) (.int .u16 V)).setCell (g := t2) (i := 4) (by have := HT.out; omega) (.int .u16 0)).setCell (g := t2) (i := 5) (by have := HT.out; omega) (.int .i64 0)).setCell (g := t2) (i := 6) (by have := HT.out; omega) (.int .i64 Z))
        clear LW q6
        repeat (first | go_values | go_skip | go_guarded | go_step | go_upon)
        (try simp only [Exit.inBlock, Exit.then])
        refine bodyPost_ret (by simp [results, Tryz.results5, go_sem, rz0, rz1, rz2, rz3, rz4, rz5, rz6]; try rfl) rfl ?_
        exact ⟨_, _, _, _, _, _, _, rfl, fun _ _ => ⟨rfl, rfl, .inr (.inr ⟨n, D, V % 256, V / 256, rfl, rfl, rfl, by omega, by have := HK6.out (by simp); rw [HZZ.out, (kind_long n (by omega) this.1 this.2).2]; rfl, (HK6.out (by simp)).1, (HK6.out (by simp)).2, hD0, by omega, by omega⟩)⟩, LZ.out⟩
      · have h6 := B6.out
        have cs1 := cell_of (j := 1) h6
        have fs1 := free_of (j := 1) h6
        have bs1 := set_blk (i := 1) (v := .int .i64 D) h6
        have cs2 := cell_of (j := 2) bs1
        have fs2 := free_of (j := 2) bs1
        have bs2 := set_blk (i := 2) (v := .int .i64 S2) bs1
        have cs3 := cell_of (j := 3) bs2
        have fs3 := free_of (j := 3) bs2
        have bs3 := set_blk (i := 3) (v := .int .u16 (ext2 (V8 : Int))) bs2
        have q6 : ((((w7.setCell ⟨t6, 1, none⟩ (.int .i64 D)).setCell ⟨t6, 2, none⟩ (.int .i64 S2)).setCell ⟨t6, 3, none⟩ (.int .u16 (ext2 (V8 : Int))))).heap[t6]? = some (insC n D S2 (ext2 (V8 : Int)) 0 0 Z) := by simpa using bs3
        have LW : Low w1.heap.size w1 ((((w7.setCell ⟨t6, 1, none⟩ (.int .i64 D)).setCell ⟨t6, 2, none⟩ (.int .i64 S2)).setCell ⟨t6, 3, none⟩ (.int .u16 (ext2 (V8 : Int))))) := (((L7.out).setCell (g := t6) (i := 1) HT6.out (.int .i64 D)).setCell (g := t6) (i := 2) HT6.out (.int .i64 S2)).setCell (g := t6) (i := 3) HT6.out (.int .u16 (ext2 (V8 : Int)))
        have h2 := LW.some A2.out
        obtain ⟨v0, v1, v2, v3, v4, v5, v6⟩ : InsAt t6 n D S2 (ext2 (V8 : Int)) 0 0 Z ((((w7.setCell ⟨t6, 1, none⟩ (.int .i64 D)).setCell ⟨t6, 2, none⟩ (.int .i64 S2)).setCell ⟨t6, 3, none⟩ (.int .u16 (ext2 (V8 : Int))))) := ⟨cell_of q6, cell_of q6, cell_of q6, cell_of q6, cell_of q6, cell_of q6, cell_of q6⟩
        have cz0 := cell_of (j := 0) h2
        have fz0 := free_of (j := 0) h2
        have bz0 := set_blk (i := 0) (v := .int .i64 n) h2
        have cz1 := cell_of (j := 1) bz0
        have fz1 := free_of (j := 1) bz0
        have bz1 := set_blk (i := 1) (v := .int .i64 D) bz0
        have cz2 := cell_of (j := 2) bz1
        have fz2 := free_of (j := 2) bz1
        have bz2 := set_blk (i := 2) (v := .int .i64 S2) bz1
        have cz3 := cell_of (j := 3) bz2
        have fz3 := free_of (j := 3) bz2
        have bz3 := set_blk (i := 3) (v := .int .u16 (ext2 (V8 : Int))) bz2
        have cz4 := cell_of (j := 4) bz3
        have fz4 := free_of (j := 4) bz3
        have bz4 := set_blk (i := 4) (v := .int .u16 0) bz3
        have cz5 := cell_of (j := 5) bz4
        have fz5 := free_of (j := 5) bz4
        have bz5 := set_blk (i := 5) (v := .int .i64 0) bz4
        have cz6 := cell_of (j := 6) bz5
        have fz6 := free_of (j := 6) bz5
        have bz6 := set_blk (i := 6) (v := .int .i64 Z) bz5
        have rz0 : ((((w7.setCell ⟨t6, 1, none⟩ (.int .i64 D)).setCell ⟨t6, 2, none⟩ (.int .i64 S2)).setCell ⟨t6, 3, none⟩ (.int .u16 (ext2 (V8 : Int)))).setCell ⟨t2, 0, none⟩ (.int .i64 n)).cell? ⟨t2, 0, none⟩ = some (.int .i64 n) := (cell_of bz0).trans (by simp)
        have rz1 : (((((w7.setCell ⟨t6, 1, none⟩ (.int .i64 D)).setCell ⟨t6, 2, none⟩ (.int .i64 S2)).setCell ⟨t6, 3, none⟩ (.int .u16 (ext2 (V8 : Int)))).setCell ⟨t2, 0, none⟩ (.int .i64 n)).setCell ⟨t2, 1, none⟩ (.int .i64 D)).cell? ⟨t2, 1, none⟩ = some (.int .i64 D) := (cell_of bz1).trans (by simp)
        have rz2 : ((((((w7.setCell ⟨t6, 1, none⟩ (.int .i64 D)).setCell ⟨t6, 2, none⟩ (.int .i64 S2)).setCell ⟨t6, 3, none⟩ (.int .u16 (ext2 (V8 : Int)))).setCell ⟨t2, 0, none⟩ (.int .i64 n)).setCell ⟨t2, 1, none⟩ (.int .i64 D)).setCell ⟨t2, 2, none⟩ (.int .i64 S2)).cell? ⟨t2, 2, none⟩ = some (.int .i64 S2) := (cell_of bz2).trans (by simp)
        have rz3 : (((((((w7.setCell ⟨t6, 1, none⟩ (.int .i64 D)).setCell ⟨t6, 2, none⟩ (.int .i64 S2)).setCell ⟨t6, 3, none⟩ (.int .u16 (ext2 (V8 : Int)))).setCell ⟨t2, 0, none⟩ (.int .i64 n)).setCell ⟨t2, 1, none⟩ (.int .i64 D)).setCell ⟨t2, 2, none⟩ (.int .i64 S2)).setCell ⟨t2, 3, none⟩ (.int .u16 (ext2 (V8 : Int)))).cell? ⟨t2, 3, none⟩ = some (.int .u16 (ext2 (V8 : Int))) := (cell_of bz3).trans (by simp)
        have rz4 : ((((((((w7.setCell ⟨t6, 1, none⟩ (.int .i64 D)).setCell ⟨t6, 2, none⟩ (.int .i64 S2)).setCell ⟨t6, 3, none⟩ (.int .u16 (ext2 (V8 : Int)))).setCell ⟨t2, 0, none⟩ (.int .i64 n)).setCell ⟨t2, 1, none⟩ (.int .i64 D)).setCell ⟨t2, 2, none⟩ (.int .i64 S2)).setCell ⟨t2, 3, none⟩ (.int .u16 (ext2 (V8 : Int)))).setCell ⟨t2, 4, none⟩ (.int .u16 0)).cell? ⟨t2, 4, none⟩ = some (.int .u16 0) := (cell_of bz4).trans (by simp)
        have rz5 : (((((((((w7.setCell ⟨t6, 1, none⟩ (.int .i64 D)).setCell ⟨t6, 2, none⟩ (.int .i64 S2)).setCell ⟨t6, 3, none⟩ (.int .u16 (ext2 (V8 : Int)))).setCell ⟨t2, 0, none⟩ (.int .i64 n)).setCell ⟨t2, 1, none⟩ (.int .i64 D)).setCell ⟨t2, 2, none⟩ (.int .i64 S2)).setCell ⟨t2, 3, none⟩ (.int .u16 (ext2 (V8 : Int)))).setCell ⟨t2, 4, none⟩ (.int .u16 0)).setCell ⟨t2, 5, none⟩ (.int .i64 0)).cell? ⟨t2, 5, none⟩ = some (.int .i64 0) := (cell_of bz5).trans (by simp)
        have rz6 : ((((((((((w7.setCell ⟨t6, 1, none⟩ (.int .i64 D)).setCell ⟨t6, 2, none⟩ (.int .i64 S2)).setCell ⟨t6, 3, none⟩ (.int .u16 (ext2 (V8 : Int)))).setCell ⟨t2, 0, none⟩ (.int .i64 n)).setCell ⟨t2, 1, none⟩ (.int .i64 D)).setCell ⟨t2, 2, none⟩ (.int .i64 S2)).setCell ⟨t2, 3, none⟩ (.int .u16 (ext2 (V8 : Int)))).setCell ⟨t2, 4, none⟩ (.int .u16 0)).setCell ⟨t2, 5, none⟩ (.int .i64 0)).setCell ⟨t2, 6, none⟩ (.int .i64 Z)).cell? ⟨t2, 6, none⟩ = some (.int .i64 Z) := (cell_of bz6).trans (by simp)
        have LZ := Lib.hid (((((((((L0.out.trans (LW.mono HS1.out))).setCell (g := t2) (i := 0) (by have := HT.out; omega) (.int .i64 n)).setCell (g := t2) (i := 1) (by have := HT.out; omega) (.int .i64 D)).setCell (g := t2) (i := 2) (by have := HT.out; omega) (.int .i64 S2)).setCell (g := t2) (i := 3) (by have := HT.out; omega) (.int .u16 (ext2 (V8 : Int)))).setCell (g := t2) (i := 4) (by have := HT.out; omega) (.int .u16 0)).setCell (g := t2) (i := 5) (by have := HT.out; omega) (.int .i64 0)).setCell (g := t2) (i := 6) (by have := HT.out; omega) (.int .i64 Z))
        clear LW q6
        go_upto_region 50 with (first | (go_at_call 14; refine (hext _).mono ?_; rintro e u ⟨rfl, hu⟩; rw [hu]; clear hu u))
        repeat (first | go_values | go_skip | go_guarded | go_step | go_upon)
        (try simp only [Exit.inBlock, Exit.then])
        refine bodyPost_ret (by simp [results, Tryz.results5, go_sem, rz0, rz1, rz2, rz3, rz4, rz5, rz6]; try rfl) rfl ?_
        exact ⟨_, _, _, _, _, _, _, rfl, fun h1 h2 => by have := HKN.out; omega, LZ.out⟩
      · have h6 := B6.out
        have cs1 := cell_of (j := 1) h6
        have fs1 := free_of (j := 1) h6
        have bs1 := set_blk (i := 1) (v := .int .i64 D) h6
        have cs2 := cell_of (j := 2) bs1
        have fs2 := free_of (j := 2) bs1
        have bs2 := set_blk (i := 2) (v := .int .i64 S2) bs1
        have cs3 := cell_of (j := 3) bs2
        have fs3 := free_of (j := 3) bs2
        have bs3 := set_blk (i := 3) (v := .int .u16 V) bs2
        have q6 : ((((w7.setCell ⟨t6, 1, none⟩ (.int .i64 D)).setCell ⟨t6, 2, none⟩ (.int .i64 S2)).setCell ⟨t6, 3, none⟩ (.int .u16 V))).heap[t6]? = some (insC n D S2 V 0 0 Z) := by simpa using bs3
        have LW : Low w1.heap.size w1 ((((w7.setCell ⟨t6, 1, none⟩ (.int .i64 D)).setCell ⟨t6, 2, none⟩ (.int .i64 S2)).setCell ⟨t6, 3, none⟩ (.int .u16 V))) := (((L7.out).setCell (g := t6) (i := 1) HT6.out (.int .i64 D)).setCell (g := t6) (i := 2) HT6.out (.int .i64 S2)).setCell (g := t6) (i := 3) HT6.out (.int .u16 V)
        have h2 := LW.some A2.out
        obtain ⟨v0, v1, v2, v3, v4, v5, v6⟩ : InsAt t6 n D S2 V 0 0 Z ((((w7.setCell ⟨t6, 1, none⟩ (.int .i64 D)).setCell ⟨t6, 2, none⟩ (.int .i64 S2)).setCell ⟨t6, 3, none⟩ (.int .u16 V))) := ⟨cell_of q6, cell_of q6, cell_of q6, cell_of q6, cell_of q6, cell_of q6, cell_of q6⟩
        have cz0 := cell_of (j := 0) h2
        have fz0 := free_of (j := 0) h2
        have bz0 := set_blk (i := 0) (v := .int .i64 n) h2
        have cz1 := cell_of (j := 1) bz0
        have fz1 := free_of (j := 1) bz0
        have bz1 := set_blk (i := 1) (v := .int .i64 D) bz0
        have cz2 := cell_of (j := 2) bz1
        have fz2 := free_of (j := 2) bz1
        have bz2 := set_blk (i := 2) (v := .int .i64 S2) bz1
        have cz3 := cell_of (j := 3) bz2
        have fz3 := free_of (j := 3) bz2
        have bz3 := set_blk (i := 3) (v := .int .u16 V) bz2
        have cz4 := cell_of (j := 4) bz3
        have fz4 := free_of (j := 4) bz3
        have bz4 := set_blk (i := 4) (v := .int .u16 0) bz3
        have cz5 := cell_of (j := 5) bz4
        have fz5 := free_of (j := 5) bz4
        have bz5 := set_blk (i := 5) (v := .int .i64 0) bz4
        have cz6 := cell_of (j := 6) bz5
        have fz6 := free_of (j := 6) bz5
        have bz6 := set_blk (i := 6) (v := .int .i64 Z) bz5
        have rz0 : ((((w7.setCell ⟨t6, 1, none⟩ (.int .i64 D)).setCell ⟨t6, 2, none⟩ (.int .i64 S2)).setCell ⟨t6, 3, none⟩ (.int .u16 V)).setCell ⟨t2, 0, none⟩ (.int .i64 n)).cell? ⟨t2, 0, none⟩ = some (.int .i64 n) := (cell_of bz0).trans (by simp)
        have rz1 : (((((w7.setCell ⟨t6, 1, none⟩ (.int .i64 D)).setCell ⟨t6, 2, none⟩ (.int .i64 S2)).setCell ⟨t6, 3, none⟩ (.int .u16 V)).setCell ⟨t2, 0, none⟩ (.int .i64 n)).setCell ⟨t2, 1, none⟩ (.int .i64 D)).cell? ⟨t2, 1, none⟩ = some (.int .i64 D) := (cell_of bz1).trans (by simp)
        have rz2 : ((((((w7.setCell ⟨t6, 1, none⟩ (.int .i64 D)).setCell ⟨t6, 2, none⟩ (.int .i64 S2)).setCell ⟨t6, 3, none⟩ (.int .u16 V)).setCell ⟨t2, 0, none⟩ (.int .i64 n)).setCell ⟨t2, 1, none⟩ (.int .i64 D)).setCell ⟨t2, 2, none⟩ (.int .i64 S2)).cell? ⟨t2, 2, none⟩ = some (.int .i64 S2) := (cell_of bz2).trans (by simp)
        have rz3 : (((((((w7.setCell ⟨t6, 1, none⟩ (.int .i64 D)).setCell ⟨t6, 2, none⟩ (.int .i64 S2)).setCell ⟨t6, 3, none⟩ (.int .u16 V)).setCell ⟨t2, 0, none⟩ (.int .i64 n)).setCell ⟨t2, 1, none⟩ (.int .i64 D)).setCell ⟨t2, 2, none⟩ (.int .i64 S2)).setCell ⟨t2, 3, none⟩ (.int .u16 V)).cell? ⟨t2, 3, none⟩ = some (.int .u16 V) := (cell_of bz3).trans (by simp)
        have rz4 : ((((((((w7.setCell ⟨t6, 1, none⟩ (.int .i64 D)).setCell ⟨t6, 2, none⟩ (.int .i64 S2)).setCell ⟨t6, 3, none⟩ (.int .u16 V)).setCell ⟨t2, 0, none⟩ (.int .i64 n)).setCell ⟨t2, 1, none⟩ (.int .i64 D)).setCell ⟨t2, 2, none⟩ (.int .i64 S2)).setCell ⟨t2, 3, none⟩ (.int .u16 V)).setCell ⟨t2, 4, none⟩ (.int .u16 0)).cell? ⟨t2, 4, none⟩ = some (.int .u16 0) := (cell_of bz4).trans (by simp)
        have rz5 : (((((((((w7.setCell ⟨t6, 1, none⟩ (.int .i64 D)).setCell ⟨t6, 2, none⟩ (.int .i64 S2)).setCell ⟨t6, 3, none⟩ (.int .u16 V)).setCell ⟨t2, 0, none⟩ (.int .i64 n)).setCell ⟨t2, 1, none⟩ (.int .i64 D)).setCell ⟨t2, 2, none⟩ (.int .i64 S2)).setCell ⟨t2, 3, none⟩ (.int .u16 V)).setCell ⟨t2, 4, none⟩ (.int .u16 0)).setCell ⟨t2, 5, none⟩ (.int .i64 0)).cell? ⟨t2, 5, none⟩ = some (.int .i64 0) := (cell_of bz5).trans (by simp)
        have rz6 : ((((((((((w7.setCell ⟨t6, 1, none⟩ (.int .i64 D)).setCell ⟨t6, 2, none⟩ (.int .i64 S2)).setCell ⟨t6, 3, none⟩ (.int .u16 V)).setCell ⟨t2, 0, none⟩ (.int .i64 n)).setCell ⟨t2, 1, none⟩ (.int .i64 D)).setCell ⟨t2, 2, none⟩ (.int .i64 S2)).setCell ⟨t2, 3, none⟩ (.int .u16 V)).setCell ⟨t2, 4, none⟩ (.int .u16 0)).setCell ⟨t2, 5, none⟩ (.int .i64 0)).setCell ⟨t2, 6, none⟩ (.int .i64 Z)).cell? ⟨t2, 6, none⟩ = some (.int .i64 Z) := (cell_of bz6).trans (by simp)
        have LZ := Lib.hid (((((((((L0.out.trans (LW.mono HS1.out))).setCell (g := t2) (i := 0) (by have := HT.out; omega) (.int .i64 n)).setCell (g := t2) (i := 1) (by have := HT.out; omega) (.int .i64 D)).setCell (g := t2) (i := 2) (by have := HT.out; omega) (.int .i64 S2)).setCell (g := t2) (i := 3) (by have := HT.out; omega) (.int .u16 V)).setCell (g := t2) (i := 4) (by have := HT.out; omega) (.int .u16 0)).setCell (g := t2) (i := 5) (by have := HT.out; omega) (.int .i64 0)).setCell (g := t2) (i := 6) (by have := HT.out; omega) (.int .i64 Z))
        clear LW q6
        repeat (first | go_values | go_skip | go_guarded | go_step | go_upon)
        (try simp only [Exit.inBlock, Exit.then])
        refine bodyPost_ret (by simp [results, Tryz.results5, go_sem, rz0, rz1, rz2, rz3, rz4, rz5, rz6]; try rfl) rfl ?_
        exact ⟨_, _, _, _, _, _, _, rfl, fun h1 h2 => by have := HKN.out; omega, LZ.out⟩
      · have h6 := B6.out
        have cs1 := cell_of (j := 1) h6
        have fs1 := free_of (j := 1) h6
        have bs1 := set_blk (i := 1) (v := .int .i64 D) h6
        have cs3 := cell_of (j := 3) bs1
        have fs3 := free_of (j := 3) bs1
        have bs3 := set_blk (i := 3) (v := .int .u16 V) bs1
        have q6 : (((w7.setCell ⟨t6, 1, none⟩ (.int .i64 D)).setCell ⟨t6, 3, none⟩ (.int .u16 V))).heap[t6]? = some (insC n D 0 V 0 0 Z) := by simpa using bs3
        have LW : Low w1.heap.size w1 (((w7.setCell ⟨t6, 1, none⟩ (.int .i64 D)).setCell ⟨t6, 3, none⟩ (.int .u16 V))) := ((L7.out).setCell (g := t6) (i := 1) HT6.out (.int .i64 D)).setCell (g := t6) (i := 3) HT6.out (.int .u16 V)
        have h2 := LW.some A2.out
        obtain ⟨v0, v1, v2, v3, v4, v5, v6⟩ : InsAt t6 n D 0 V 0 0 Z (((w7.setCell ⟨t6, 1, none⟩ (.int .i64 D)).setCell ⟨t6, 3, none⟩ (.int .u16 V))) := ⟨cell_of q6, cell_of q6, cell_of q6, cell_of q6, cell_of q6, cell_of q6, cell_of q6⟩
        have cz0 := cell_of (j := 0) h2
        have fz0 := free_of (j := 0) h2
        have bz0 := set_blk (i := 0) (v := .int .i64 n) h2
        have cz1 := cell_of (j := 1) bz0
        have fz1 := free_of (j := 1) bz0
        have bz1 := set_blk (i := 1) (v := .int .i64 D) bz0
        have cz2 := cell_of (j := 2) bz1
        have fz2 := free_of (j := 2) bz1
        have bz2 := set_blk (i := 2) (v := .int .i64 0) bz1
        have cz3 := cell_of (j := 3) bz2
        have fz3 := free_of (j := 3) bz2
        have bz3 := set_blk (i := 3) (v := .int .u16 V) bz2
        have cz4 := cell_of (j := 4) bz3
        have fz4 := free_of (j := 4) bz3
        have bz4 := set_blk (i := 4) (v := .int .u16 0) bz3
        have cz5 := cell_of (j := 5) bz4
        have fz5 := free_of (j := 5) bz4
        have bz5 := set_blk (i := 5) (v := .int .i64 0) bz4
        have cz6 := cell_of (j := 6) bz5
        have fz6 := free_of (j := 6) bz5
        have bz6 := set_blk (i := 6) (v := .int .i64 Z) bz5
        have rz0 : (((w7.setCell ⟨t6, 1, none⟩ (.int .i64 D)).setCell ⟨t6, 3, none⟩ (.int .u16 V)).setCell ⟨t2, 0, none⟩ (.int .i64 n)).cell? ⟨t2, 0, none⟩ = some (.int .i64 n) := (cell_of bz0).trans (by simp)
        have rz1 : ((((w7.setCell ⟨t6, 1, none⟩ (.int .i64 D)).setCell ⟨t6, 3, none⟩ (.int .u16 V)).setCell ⟨t2, 0, none⟩ (.int .i64 n)).setCell ⟨t2, 1, none⟩ (.int .i64 D)).cell? ⟨t2, 1, none⟩ = some (.int .i64 D) := (cell_of bz1).trans (by simp)
        have rz2 : (((((w7.setCell ⟨t6, 1, none⟩ (.int .i64 D)).setCell ⟨t6, 3, none⟩ (.int .u16 V)).setCell ⟨t2, 0, none⟩ (.int .i64 n)).setCell ⟨t2, 1, none⟩ (.int .i64 D)).setCell ⟨t2, 2, none⟩ (.int .i64 0)).cell? ⟨t2, 2, none⟩ = some (.int .i64 0) := (cell_of bz2).trans (by simp)
        have rz3 : ((((((w7.setCell ⟨t6, 1, none⟩ (.int .i64 D)).setCell ⟨t6, 3, none⟩ (.int .u16 V)).setCell ⟨t2, 0, none⟩ (.int .i64 n)).setCell ⟨t2, 1, none⟩ (.int .i64 D)).setCell ⟨t2, 2, none⟩ (.int .i64 0)).setCell ⟨t2, 3, none⟩ (.int .u16 V)).cell? ⟨t2, 3, none⟩ = some (.int .u16 V) := (cell_of bz3).trans (by simp)
        have rz4 : (((((((w7.setCell ⟨t6, 1, none⟩ (.int .i64 D)).setCell ⟨t6, 3, none⟩ (.int .u16 V)).setCell ⟨t2, 0, none⟩ (.int .i64 n)).setCell ⟨t2, 1, none⟩ (.int .i64 D)).setCell ⟨t2, 2, none⟩ (.int .i64 0)).setCell ⟨t2, 3, none⟩ (.int .u16 V)).setCell ⟨t2, 4, none⟩ (.int .u16 0)).cell? ⟨t2, 4, none⟩ = some (.int .u16 0) := (cell_of bz4).trans (by simp)
        have rz5 : ((((((((w7.setCell ⟨t6, 1, none⟩ (.int .i64 D)).setCell ⟨t6, 3, none⟩ (.int .u16 V)).setCell ⟨t2, 0, none⟩ (.int .i64 n)).setCell ⟨t2, 1, none⟩ (.int .i64 D)).setCell ⟨t2, 2, none⟩ (.int .i64 0)).setCell ⟨t2, 3, none⟩ (.int .u16 V)).setCell ⟨t2, 4, none⟩ (.int .u16 0)).setCell ⟨t2, 5, none⟩ (.int .i64 0)).cell? ⟨t2, 5, none⟩ = some (.int .i64 0) := (cell_of bz5).trans (by simp)
        have rz6 : (((((((((w7.setCell ⟨t6, 1, none⟩ (.int .i64 D)).setCell ⟨t6, 3, none⟩ (.int .u16 V)).setCell ⟨t2, 0, none⟩ (.int .i64 n)).setCell ⟨t2, 1, none⟩ (.int .i64 D)).setCell ⟨t2, 2, none⟩ (.int .i64 0)).setCell ⟨t2, 3, none⟩ (.int .u16 V)).setCell ⟨t2, 4, none⟩ (.int .u16 0)).setCell ⟨t2, 5, none⟩ (.int .i64 0)).setCell ⟨t2, 6, none⟩ (.int .i64 Z)).cell? ⟨t2, 6, none⟩ = some (.int .i64 Z) := (cell_of bz6).trans (by simp)
        have LZ := Lib.hid (((((((((L0.out.trans (LW.mono HS1.out))).setCell (g := t2) (i := 0) (by have := HT.out; omega) (.int .i64 n)).setCell (g := t2) (i := 1) (by have := HT.out; omega) (.int .i64 D)).setCell (g := t2) (i := 2) (by have := HT.out; omega) (.int .i64 0)).setCell (g := t2) (i := 3) (by have := HT.out; omega) (.int .u16 V)).setCell (g := t2) (i := 4) (by have := HT.out; omega) (.int .u16 0)).setCell (g := t2) (i := 5) (by have := HT.out; omega) (.int .i64 0)).setCell (g := t2) (i := 6) (by have := HT.out; omega) (.int .i64 Z))
        clear LW q6
        repeat (first | go_values | go_skip | go_guarded | go_step | go_upon)
        (try simp only [Exit.inBlock, Exit.then])
        refine bodyPost_ret (by simp [results, Tryz.results5, go_sem, rz0, rz1, rz2, rz3, rz4, rz5, rz6]; try rfl) rfl ?_
        exact ⟨_, _, _, _, _, _, _, rfl, fun h1 h2 => by have := HKN.out; omega, LZ.out⟩
      · have h6 := B6.out
        have cs3 := cell_of (j := 3) h6
        have fs3 := free_of (j := 3) h6
        have bs3 := set_blk (i := 3) (v := .int .u16 (ext2 (V8 : Int))) h6
        have q6 : ((w7.setCell ⟨t6, 3, none⟩ (.int .u16 (ext2 (V8 : Int))))).heap[t6]? = some (insC n 0 0 (ext2 (V8 : Int)) 0 0 Z) := by simpa using bs3
        have LW : Low w1.heap.size w1 ((w7.setCell ⟨t6, 3, none⟩ (.int .u16 (ext2 (V8 : Int))))) := (L7.out).setCell (g := t6) (i := 3) HT6.out (.int .u16 (ext2 (V8 : Int)))
        have h2 := LW.some A2.out
        obtain ⟨v0, v1, v2, v3, v4, v5, v6⟩ : InsAt t6 n 0 0 (ext2 (V8 : Int)) 0 0 Z ((w7.setCell ⟨t6, 3, none⟩ (.int .u16 (ext2 (V8 : Int))))) := ⟨cell_of q6, cell_of q6, cell_of q6, cell_of q6, cell_of q6, cell_of q6, cell_of q6⟩
        have cz0 := cell_of (j := 0) h2
        have fz0 := free_of (j := 0) h2
        have bz0 := set_blk (i := 0) (v := .int .i64 n) h2
        have cz1 := cell_of (j := 1) bz0
        have fz1 := free_of (j := 1) bz0
        have bz1 := set_blk (i := 1) (v := .int .i64 0) bz0
        have cz2 := cell_of (j := 2) bz1
        have fz2 := free_of (j := 2) bz1
        have bz2 := set_blk (i := 2) (v := .int .i64 0) bz1
        have cz3 := cell_of (j := 3) bz2
        have fz3 := free_of (j := 3) bz2
        have bz3 := set_blk (i := 3) (v := .int .u16 (ext2 (V8 : Int))) bz2
        have cz4 := cell_of (j := 4) bz3
        have fz4 := free_of (j := 4) bz3
        have bz4 := set_blk (i := 4) (v := .int .u16 0) bz3
        have cz5 := cell_of (j := 5) bz4
        have fz5 := free_of (j := 5) bz4
        have bz5 := set_blk (i := 5) (v := .int .i64 0) bz4
        have cz6 := cell_of (j := 6) bz5
        have fz6 := free_of (j := 6) bz5
        have bz6 := set_blk (i := 6) (v := .int .i64 Z) bz5
        have rz0 : ((w7.setCell ⟨t6, 3, none⟩ (.int .u16 (ext2 (V8 : Int)))).setCell ⟨t2, 0, none⟩ (.int .i64 n)).cell? ⟨t2, 0, none⟩ = some (.int .i64 n) := (cell_of bz0).trans (by simp)
        have rz1 : (((w7.setCell ⟨t6, 3, none⟩ (.int .u16 (ext2 (V8 : Int)))).setCell ⟨t2, 0, none⟩ (.int .i64 n)).setCell ⟨t2, 1, none⟩ (.int .i64 0)).cell? ⟨t2, 1, none⟩ = some (.int .i64 0) := (cell_of bz1).trans (by simp)
        have rz2 : ((((w7.setCell ⟨t6, 3, none⟩ (.int .u16 (ext2 (V8 : Int)))).setCell ⟨t2, 0, none⟩ (.int .i64 n)).setCell ⟨t2, 1, none⟩ (.int .i64 0)).setCell ⟨t2, 2, none⟩ (.int .i64 0)).cell? ⟨t2, 2, none⟩ = some (.int .i64 0) := (cell_of bz2).trans (by simp)
        have rz3 : (((((w7.setCell ⟨t6, 3, none⟩ (.int .u16 (ext2 (V8 : Int)))).setCell ⟨t2, 0, none⟩ (.int .i64 n)).setCell ⟨t2, 1, none⟩ (.int .i64 0)).setCell ⟨t2, 2, none⟩ (.int .i64 0)).setCell ⟨t2, 3, none⟩ (.int .u16 (ext2 (V8 : Int)))).cell? ⟨t2, 3, none⟩ = some (.int .u16 (ext2 (V8 : Int))) := (cell_of bz3).trans (by simp)
        have rz4 : ((((((w7.setCell ⟨t6, 3, none⟩ (.int .u16 (ext2 (V8 : Int)))).setCell ⟨t2, 0, none⟩ (.int .i64 n)).setCell ⟨t2, 1, none⟩ (.int .i64 0)).setCell ⟨t2, 2, none⟩ (.int .i64 0)).setCell ⟨t2, 3, none⟩ (.int .u16 (ext2 (V8 : Int)))).setCell ⟨t2, 4, none⟩ (.int .u16 0)).cell? ⟨t2, 4, none⟩ = some (.int .u16 0) := (cell_of bz4).trans (by simp)
        have rz5 : (((((((w7.setCell ⟨t6, 3, none⟩ (.int .u16 (ext2 (V8 : Int)))).setCell ⟨t2, 0, none⟩ (.int .i64 n)).setCell ⟨t2, 1, none⟩ (.int .i64 0)).setCell ⟨t2, 2, none⟩ (.int .i64 0)).setCell ⟨t2, 3, none⟩ (.int .u16 (ext2 (V8 : Int)))).setCell ⟨t2, 4, none⟩ (.int .u16 0)).setCell ⟨t2, 5, none⟩ (.int .i64 0)).cell? ⟨t2, 5, none⟩ = some (.int .i64 0) := (cell_of bz5).trans (by simp)
        have rz6 : ((((((((w7.setCell ⟨t6, 3, none⟩ (.int .u16 (ext2 (V8 : Int)))).setCell ⟨t2, 0, none⟩ (.int .i64 n)).setCell ⟨t2, 1, none⟩ (.int .i64 0)).setCell ⟨t2, 2, none⟩ (.int .i64 0)).setCell ⟨t2, 3, none⟩ (.int .u16 (ext2 (V8 : Int)))).setCell ⟨t2, 4, none⟩ (.int .u16 0)).setCell ⟨t2, 5, none⟩ (.int .i64 0)).setCell ⟨t2, 6, none⟩ (.int .i64 Z)).cell? ⟨t2, 6, none⟩ = some (.int .i64 Z) := (cell_of bz6).trans (by simp)
        have LZ := Lib.hid (((((((((L0.out.trans (LW.mono HS1.out))).setCell (g := t2) (i := 0) (by have := HT.out; omega) (.int .i64 n)).setCell (g := t2) (i := 1) (by have := HT.out; omega) (.int .i64 0)).setCell (g := t2) (i := 2) (by have := HT.out; omega) (.int .i64 0)).setCell (g := t2) (i := 3) (by have := HT.out; omega) (.int .u16 (ext2 (V8 : Int)))).setCell (g := t2) (i := 4) (by have := HT.out; omega) (.int .u16 0)).setCell (g := t2) (i := 5) (by have := HT.out; omega) (.int .i64 0)).setCell (g := t2) (i := 6) (by have := HT.out; omega) (.int .i64 Z))
        clear LW q6
        go_upto_region 50 with (first | (go_at_call 14; refine (hext _).mono ?_; rintro e u ⟨rfl, hu⟩; rw [hu]; clear hu u))
        repeat (first | go_values | go_skip | go_guarded | go_step | go_upon)
        (try simp only [Exit.inBlock, Exit.then])
        refine bodyPost_ret (by simp [results, Tryz.results5, go_sem, rz0, rz1, rz2, rz3, rz4, rz5, rz6]; try rfl) rfl ?_
        exact ⟨_, _, _, _, _, _, _, rfl, fun h1 h2 => by have := HKN.out; omega, LZ.out⟩
      · have h6 := B6.out
        have cs3 := cell_of (j := 3) h6
        have fs3 := free_of (j := 3) h6
        have bs3 := set_blk (i := 3) (v := .int .u16 V) h6
        have q6 : ((w7.setCell ⟨t6, 3, none⟩ (.int .u16 V))).heap[t6]? = some (insC n 0 0 V 0 0 Z) := by simpa using bs3
        have LW : Low w1.heap.size w1 ((w7.setCell ⟨t6, 3, none⟩ (.int .u16 V))) := (L7.out).setCell (g := t6) (i := 3) HT6.out (.int .u16 V)
        have h2 := LW.some A2.out
        obtain ⟨v0, v1, v2, v3, v4, v5, v6⟩ : InsAt t6 n 0 0 V 0 0 Z ((w7.setCell ⟨t6, 3, none⟩ (.int .u16 V))) := ⟨cell_of q6, cell_of q6, cell_of q6, cell_of q6, cell_of q6, cell_of q6, cell_of q6⟩
        have cz0 := cell_of (j := 0) h2
        have fz0 := free_of (j := 0) h2
        have bz0 := set_blk (i := 0) (v := .int .i64 n) h2
        have cz1 := cell_of (j := 1) bz0
        have fz1 := free_of (j := 1) bz0
        have bz1 := set_blk (i := 1) (v := .int .i64 0) bz0
        have cz2 := cell_of (j := 2) bz1
        have fz2 := free_of (j := 2) bz1
        have bz2 := set_blk (i := 2) (v := .int .i64 0) bz1
        have cz3 := cell_of (j := 3) bz2
        have fz3 := free_of (j := 3) bz2
        have bz3 := set_blk (i := 3) (v := .int .u16 V) bz2
        have cz4 := cell_of (j := 4) bz3
        have fz4 := free_of (j := 4) bz3
        have bz4 := set_blk (i := 4) (v := .int .u16 0) bz3
        have cz5 := cell_of (j := 5) bz4
        have fz5 := free_of (j := 5) bz4
        have bz5 := set_blk (i := 5) (v := .int .i64 0) bz4
        have cz6 := cell_of (j := 6) bz5
        have fz6 := free_of (j := 6) bz5
        have bz6 := set_blk (i := 6) (v := .int .i64 Z) bz5
        have rz0 : ((w7.setCell ⟨t6, 3, none⟩ (.int .u16 V)).setCell ⟨t2, 0, none⟩ (.int .i64 n)).cell? ⟨t2, 0, none⟩ = some (.int .i64 n) := (cell_of bz0).trans (by simp)
        have rz1 : (((w7.setCell ⟨t6, 3, none⟩ (.int .u16 V)).setCell ⟨t2, 0, none⟩ (.int .i64 n)).setCell ⟨t2, 1, none⟩ (.int .i64 0)).cell? ⟨t2, 1, none⟩ = some (.int .i64 0) := (cell_of bz1).trans (by simp)
        have rz2 : ((((w7.setCell ⟨t6, 3, none⟩ (.int .u16 V)).setCell ⟨t2, 0, none⟩ (.int .i64 n)).setCell ⟨t2, 1, none⟩ (.int .i64 0)).setCell ⟨t2, 2, none⟩ (.int .i64 0)).cell? ⟨t2, 2, none⟩ = some (.int .i64 0) := (cell_of bz2).trans (by simp)
        have rz3 : (((((w7.setCell ⟨t6, 3, none⟩ (.int .u16 V)).setCell ⟨t2, 0, none⟩ (.int .i64 n)).setCell ⟨t2, 1, none⟩ (.int .i64 0)).setCell ⟨t2, 2, none⟩ (.int .i64 0)).setCell ⟨t2, 3, none⟩ (.int .u16 V)).cell? ⟨t2, 3, none⟩ = some (.int .u16 V) := (cell_of bz3).trans (by simp)
        have rz4 : ((((((w7.setCell ⟨t6, 3, none⟩ (.int .u16 V)).setCell ⟨t2, 0, none⟩ (.int .i64 n)).setCell ⟨t2, 1, none⟩ (.int .i64 0)).setCell ⟨t2, 2, none⟩ (.int .i64 0)).setCell ⟨t2, 3, none⟩ (.int .u16 V)).setCell ⟨t2, 4, none⟩ (.int .u16 0)).cell? ⟨t2, 4, none⟩ = some (.int .u16 0) := (cell_of bz4).trans (by simp)
        have rz5 : (((((((w7.setCell ⟨t6, 3, none⟩ (.int .u16 V)).setCell ⟨t2, 0, none⟩ (.int .i64 n)).setCell ⟨t2, 1, none⟩ (.int .i64 0)).setCell ⟨t2, 2, none⟩ (.int .i64 0)).setCell ⟨t2, 3, none⟩ (.int .u16 V)).setCell ⟨t2, 4, none⟩ (.int .u16 0)).setCell ⟨t2, 5, none⟩ (.int .i64 0)).cell? ⟨t2, 5, none⟩ = some (.int .i64 0) := (cell_of bz5).trans (by simp)
        have rz6 : ((((((((w7.setCell ⟨t6, 3, none⟩ (.int .u16 V)).setCell ⟨t2, 0, none⟩ (.int .i64 n)).setCell ⟨t2, 1, none⟩ (.int .i64 0)).setCell ⟨t2, 2, none⟩ (.int .i64 0)).setCell ⟨t2, 3, none⟩ (.int .u16 V)).setCell ⟨t2, 4, none⟩ (.int .u16 0)).setCell ⟨t2, 5, none⟩ (.int .i64 0)).setCell ⟨t2, 6, none⟩ (.int .i64 Z)).cell? ⟨t2, 6, none⟩ = some (.int .i64 Z) := (cell_of bz6).trans (by simp)
        have LZ := Lib.hid (((((((((L0.out.trans (LW.mono HS1.out))).setCell (g := t2) (i := 0) (by have := HT.out; omega) (.int .i64 n)).setCell (g := t2) (i := 1) (by have := HT.out; omega) (.int .i64 0)).setCell (g := t2) (i := 2) (by have := HT.out; omega) (.int .i64 0)).setCell (g := t2) (i := 3) (by have := HT.out; omega) (.int .u16 V)).setCell (g := t2) (i := 4) (by have := HT.out; omega) (.int .u16 0)).setCell (g := t2) (i := 5) (by have := HT.out; omega) (.int .i64 0)).setCell (g := t2) (i := 6) (by have := HT.out; omega) (.int .i64 Z))
        clear LW q6
        repeat (first | go_values | go_skip | go_guarded | go_step | go_upon)
        (try simp only [Exit.inBlock, Exit.then])
        refine bodyPost_ret (by simp [results, Tryz.results5, go_sem, rz0, rz1, rz2, rz3, rz4, rz5, rz6]; try rfl) rfl ?_
        exact ⟨_, _, _, _, _, _, _, rfl, fun h1 h2 => by have := HKN.out; omega, LZ.out⟩
      · have h6 := B6.out
        have cs3 := cell_of (j := 3) h6
        have fs3 := free_of (j := 3) h6
        have bs3 := set_blk (i := 3) (v := .int .u16 V) h6
        have cs5 := cell_of (j := 5) bs3
        have fs5 := free_of (j := 5) bs3
        have bs5 := set_blk (i := 5) (v := .int .i64 BK) bs3
        have m12 : (w7.setCell ⟨t6, 3, none⟩ (.int .u16 V)).cell? ⟨t1, 2, none⟩ = some (.int .i64 q2) := (World.cell?_of_block (a := ⟨t1, 2, none⟩) ((set_other HTT.out.1))).trans p2
        have m14 : (w7.setCell ⟨t6, 3, none⟩ (.int .u16 V)).cell? ⟨t1, 4, none⟩ = some (.int .i64 q4) := (World.cell?_of_block (a := ⟨t1, 4, none⟩) ((set_other HTT.out.1))).trans p4
        have m22 : ((w7.setCell ⟨t6, 3, none⟩ (.int .u16 V)).setCell ⟨t6, 5, none⟩ (.int .i64 BK)).cell? ⟨t1, 2, none⟩ = some (.int .i64 q2) := (World.cell?_of_block (a := ⟨t1, 2, none⟩) ((set_other HTT.out.1).trans ((set_other HTT.out.1)))).trans p2
        have m24 : ((w7.setCell ⟨t6, 3, none⟩ (.int .u16 V)).setCell ⟨t6, 5, none⟩ (.int .i64 BK)).cell? ⟨t1, 4, none⟩ = some (.int .i64 q4) := (World.cell?_of_block (a := ⟨t1, 4, none⟩) ((set_other HTT.out.1).trans ((set_other HTT.out.1)))).trans p4
        have q6 : (((w7.setCell ⟨t6, 3, none⟩ (.int .u16 V)).setCell ⟨t6, 5, none⟩ (.int .i64 BK))).heap[t6]? = some (insC n 0 0 V 0 BK Z) := by simpa using bs5
        have LW : Low w1.heap.size w1 (((w7.setCell ⟨t6, 3, none⟩ (.int .u16 V)).setCell ⟨t6, 5, none⟩ (.int .i64 BK))) := ((L7.out).setCell (g := t6) (i := 3) HT6.out (.int .u16 V)).setCell (g := t6) (i := 5) HT6.out (.int .i64 BK)
        have h2 := LW.some A2.out
        obtain ⟨v0, v1, v2, v3, v4, v5, v6⟩ : InsAt t6 n 0 0 V 0 BK Z (((w7.setCell ⟨t6, 3, none⟩ (.int .u16 V)).setCell ⟨t6, 5, none⟩ (.int .i64 BK))) := ⟨cell_of q6, cell_of q6, cell_of q6, cell_of q6, cell_of q6, cell_of q6, cell_of q6⟩
        have cz0 := cell_of (j := 0) h2
        have fz0 := free_of (j := 0) h2
        have bz0 := set_blk (i := 0) (v := .int .i64 n) h2
        have cz1 := cell_of (j := 1) bz0
        have fz1 := free_of (j := 1) bz0
        have bz1 := set_blk (i := 1) (v := .int .i64 0) bz0
        have cz2 := cell_of (j := 2) bz1
        have fz2 := free_of (j := 2) bz1
        have bz2 := set_blk (i := 2) (v := .int .i64 0) bz1
        have cz3 := cell_of (j := 3) bz2
        have fz3 := free_of (j := 3) bz2
        have bz3 := set_blk (i := 3) (v := .int .u16 V) bz2
        have cz4 := cell_of (j := 4) bz3
        have fz4 := free_of (j := 4) bz3
        have bz4 := set_blk (i := 4) (v := .int .u16 0) bz3
        have cz5 := cell_of (j := 5) bz4
        have fz5 := free_of (j := 5) bz4
        have bz5 := set_blk (i := 5) (v := .int .i64 BK) bz4
        have cz6 := cell_of (j := 6) bz5
        have fz6 := free_of (j := 6) bz5
        have bz6 := set_blk (i := 6) (v := .int .i64 Z) bz5
        have rz0 : (((w7.setCell ⟨t6, 3, none⟩ (.int .u16 V)).setCell ⟨t6, 5, none⟩ (.int .i64 BK)).setCell ⟨t2, 0, none⟩ (.int .i64 n)).cell? ⟨t2, 0, none⟩ = some (.int .i64 n) := (cell_of bz0).trans (by simp)
        have rz1 : ((((w7.setCell ⟨t6, 3, none⟩ (.int .u16 V)).setCell ⟨t6, 5, none⟩ (.int .i64 BK)).setCell ⟨t2, 0, none⟩ (.int .i64 n)).setCell ⟨t2, 1, none⟩ (.int .i64 0)).cell? ⟨t2, 1, none⟩ = some (.int .i64 0) := (cell_of bz1).trans (by simp)
        have rz2 : (((((w7.setCell ⟨t6, 3, none⟩ (.int .u16 V)).setCell ⟨t6, 5, none⟩ (.int .i64 BK)).setCell ⟨t2, 0, none⟩ (.int .i64 n)).setCell ⟨t2, 1, none⟩ (.int .i64 0)).setCell ⟨t2, 2, none⟩ (.int .i64 0)).cell? ⟨t2, 2, none⟩ = some (.int .i64 0) := (cell_of bz2).trans (by simp)
        have rz3 : ((((((w7.setCell ⟨t6, 3, none⟩ (.int .u16 V)).setCell ⟨t6, 5, none⟩ (.int .i64 BK)).setCell ⟨t2, 0, none⟩ (.int .i64 n)).setCell ⟨t2, 1, none⟩ (.int .i64 0)).setCell ⟨t2, 2, none⟩ (.int .i64 0)).setCell ⟨t2, 3, none⟩ (.int .u16 V)).cell? ⟨t2, 3, none⟩ = some (.int .u16 V) := (cell_of bz3).trans (by simp)
        have rz4 : (((((((w7.setCell ⟨t6, 3, none⟩ (.int .u16 V)).setCell ⟨t6, 5, none⟩ (.int .i64 BK)).setCell ⟨t2, 0, none⟩ (.int .i64 n)).setCell ⟨t2, 1, none⟩ (.int .i64 0)).setCell ⟨t2, 2, none⟩ (.int .i64 0)).setCell ⟨t2, 3, none⟩ (.int .u16 V)).setCell ⟨t2, 4, none⟩ (.int .u16 0)).cell? ⟨t2, 4, none⟩ = some (.int .u16 0) := (cell_of bz4).trans (by simp)
        have rz5 : ((((((((w7.setCell ⟨t6, 3, none⟩ (.int .u16 V)).setCell ⟨t6, 5, none⟩ (.int .i64 BK)).setCell ⟨t2, 0, none⟩ (.int .i64 n)).setCell ⟨t2, 1, none⟩ (.int .i64 0)).setCell ⟨t2, 2, none⟩ (.int .i64 0)).setCell ⟨t2, 3, none⟩ (.int .u16 V)).setCell ⟨t2, 4, none⟩ (.int .u16 0)).setCell ⟨t2, 5, none⟩ (.int .i64 BK)).cell? ⟨t2, 5, none⟩ = some (.int .i64 BK) := (cell_of bz5).trans (by simp)
        have rz6 : (((((((((w7.setCell ⟨t6, 3, none⟩ (.int .u16 V)).setCell ⟨t6, 5, none⟩ (.int .i64 BK)).setCell ⟨t2, 0, none⟩ (.int .i64 n)).setCell ⟨t2, 1, none⟩ (.int .i64 0)).setCell ⟨t2, 2, none⟩ (.int .i64 0)).setCell ⟨t2, 3, none⟩ (.int .u16 V)).setCell ⟨t2, 4, none⟩ (.int .u16 0)).setCell ⟨t2, 5, none⟩ (.int .i64 BK)).setCell ⟨t2, 6, none⟩ (.int .i64 Z)).cell? ⟨t2, 6, none⟩ = some (.int .i64 Z) := (cell_of bz6).trans (by simp)
        have LZ := Lib.hid (((((((((L0.out.trans (LW.mono HS1.out))).setCell (g := t2) (i := 0) (by have := HT.out; omega) (.int .i64 n)).setCell (g := t2) (i := 1) (by have := HT.out; omega) (.int .i64 0)).setCell (g := t2) (i := 2) (by have := HT.out; omega) (.int .i64 0)).setCell (g := t2) (i := 3) (by have := HT.out; omega) (.int .u16 V)).setCell (g := t2) (i := 4) (by have := HT.out; omega) (.int .u16 0)).setCell (g := t2) (i := 5) (by have := HT.out; omega) (.int .i64 BK)).setCell (g := t2) (i := 6) (by have := HT.out; omega) (.int .i64 Z))
        clear LW q6
        repeat (first | go_values | go_skip | go_guarded | go_step | go_upon)
        (try simp only [Exit.inBlock, Exit.then])
        refine bodyPost_ret (by simp [results, Tryz.results5, go_sem, rz0, rz1, rz2, rz3, rz4, rz5, rz6]; try rfl) rfl ?_
        exact ⟨_, _, _, _, _, _, _, rfl, fun h1 h2 => by have := HKN.out; omega, LZ.out⟩
      · have h6 := B6.out
        have cs1 := cell_of (j := 1) h6
        have fs1 := free_of (j := 1) h6
        have bs1 := set_blk (i := 1) (v := .int .i64 D) h6
        have cs3 := cell_of (j := 3) bs1
        have fs3 := free_of (j := 3) bs1
        have bs3 := set_blk (i := 3) (v := .int .u16 V) bs1
        have cs5 := cell_of (j := 5) bs3
        have fs5 := free_of (j := 5) bs3
        have bs5 := set_blk (i := 5) (v := .int .i64 (1 + (TB : Int))) bs3
        have cs4 := cell_of (j := 4) bs5
        have fs4 := free_of (j := 4) bs5
        have bs4 := set_blk (i := 4) (v := .int .u16 X2) bs5
        have m12 : (w7.setCell ⟨t6, 1, none⟩ (.int .i64 D)).cell? ⟨t1, 2, none⟩ = some (.int .i64 q2) := (World.cell?_of_block (a := ⟨t1, 2, none⟩) ((set_other HTT.out.1))).trans p2
        have m14 : (w7.setCell ⟨t6, 1, none⟩ (.int .i64 D)).cell? ⟨t1, 4, none⟩ = some (.int .i64 q4) := (World.cell?_of_block (a := ⟨t1, 4, none⟩) ((set_other HTT.out.1))).trans p4
        have m22 : ((w7.setCell ⟨t6, 1, none⟩ (.int .i64 D)).setCell ⟨t6, 3, none⟩ (.int .u16 V)).cell? ⟨t1, 2, none⟩ = some (.int .i64 q2) := (World.cell?_of_block (a := ⟨t1, 2, none⟩) ((set_other HTT.out.1).trans ((set_other HTT.out.1)))).trans p2
        have m24 : ((w7.setCell ⟨t6, 1, none⟩ (.int .i64 D)).setCell ⟨t6, 3, none⟩ (.int .u16 V)).cell? ⟨t1, 4, none⟩ = some (.int .i64 q4) := (World.cell?_of_block (a := ⟨t1, 4, none⟩) ((set_other HTT.out.1).trans ((set_other HTT.out.1)))).trans p4
        have m32 : (((w7.setCell ⟨t6, 1, none⟩ (.int .i64 D)).setCell ⟨t6, 3, none⟩ (.int .u16 V)).setCell ⟨t6, 5, none⟩ (.int .i64 (1 + (TB : Int)))).cell? ⟨t1, 2, none⟩ = some (.int .i64 q2) := (World.cell?_of_block (a := ⟨t1, 2, none⟩) ((set_other HTT.out.1).trans ((set_other HTT.out.1).trans ((set_other HTT.out.1))))).trans p2
        have m34 : (((w7.setCell ⟨t6, 1, none⟩ (.int .i64 D)).setCell ⟨t6, 3, none⟩ (.int .u16 V)).setCell ⟨t6, 5, none⟩ (.int .i64 (1 + (TB : Int)))).cell? ⟨t1, 4, none⟩ = some (.int .i64 q4) := (World.cell?_of_block (a := ⟨t1, 4, none⟩) ((set_other HTT.out.1).trans ((set_other HTT.out.1).trans ((set_other HTT.out.1))))).trans p4
        have m42 : ((((w7.setCell ⟨t6, 1, none⟩ (.int .i64 D)).setCell ⟨t6, 3, none⟩ (.int .u16 V)).setCell ⟨t6, 5, none⟩ (.int .i64 (1 + (TB : Int)))).setCell ⟨t6, 4, none⟩ (.int .u16 X2)).cell? ⟨t1, 2, none⟩ = some (.int .i64 q2) := (World.cell?_of_block (a := ⟨t1, 2, none⟩) ((set_other HTT.out.1).trans ((set_other HTT.out.1).trans ((set_other HTT.out.1).trans ((set_other HTT.out.1)))))).trans p2
        have m44 : ((((w7.setCell ⟨t6, 1, none⟩ (.int .i64 D)).setCell ⟨t6, 3, none⟩ (.int .u16 V)).setCell ⟨t6, 5, none⟩ (.int .i64 (1 + (TB : Int)))).setCell ⟨t6, 4, none⟩ (.int .u16 X2)).cell? ⟨t1, 4, none⟩ = some (.int .i64 q4) := (World.cell?_of_block (a := ⟨t1, 4, none⟩) ((set_other HTT.out.1).trans ((set_other HTT.out.1).trans ((set_other HTT.out.1).trans ((set_other HTT.out.1)))))).trans p4
        have q6 : (((((w7.setCell ⟨t6, 1, none⟩ (.int .i64 D)).setCell ⟨t6, 3, none⟩ (.int .u16 V)).setCell ⟨t6, 5, none⟩ (.int .i64 (1 + (TB : Int)))).setCell ⟨t6, 4, none⟩ (.int .u16 X2))).heap[t6]? = some (insC n D 0 V X2 (1 + (TB : Int)) Z) := by simpa using bs4
        have LW : Low w1.heap.size w1 (((((w7.setCell ⟨t6, 1, none⟩ (.int .i64 D)).setCell ⟨t6, 3, none⟩ (.int .u16 V)).setCell ⟨t6, 5, none⟩ (.int .i64 (1 + (TB : Int)))).setCell ⟨t6, 4, none⟩ (.int .u16 X2))) := ((((L7.out).setCell (g := t6) (i := 1) HT6.out (.int .i64 D)).setCell (g := t6) (i := 3) HT6.out (.int .u16 V)).setCell (g := t6) (i := 5) HT6.out (.int .i64 (1 + (TB : Int)))).setCell (g := t6) (i := 4) HT6.out (.int .u16 X2)
        have h2 := LW.some A2.out
        obtain ⟨v0, v1, v2, v3, v4, v5, v6⟩ : InsAt t6 n D 0 V X2 (1 + (TB : Int)) Z (((((w7.setCell ⟨t6, 1, none⟩ (.int .i64 D)).setCell ⟨t6, 3, none⟩ (.int .u16 V)).setCell ⟨t6, 5, none⟩ (.int .i64 (1 + (TB : Int)))).setCell ⟨t6, 4, none⟩ (.int .u16 X2))) := ⟨cell_of q6, cell_of q6, cell_of q6, cell_of q6, cell_of q6, cell_of q6, cell_of q6⟩
        have cz0 := cell_of (j := 0) h2
        have fz0 := free_of (j := 0) h2
        have bz0 := set_blk (i := 0) (v := .int .i64 n) h2
        have cz1 := cell_of (j := 1) bz0
        have fz1 := free_of (j := 1) bz0
        have bz1 := set_blk (i := 1) (v := .int .i64 D) bz0
        have cz2 := cell_of (j := 2) bz1
        have fz2 := free_of (j := 2) bz1
        have bz2 := set_blk (i := 2) (v := .int .i64 0) bz1
        have cz3 := cell_of (j := 3) bz2
        have fz3 := free_of (j := 3) bz2
        have bz3 := set_blk (i := 3) (v := .int .u16 V) bz2
        have cz4 := cell_of (j := 4) bz3
        have fz4 := free_of (j := 4) bz3
        have bz4 := set_blk (i := 4) (v := .int .u16 X2) bz3
        have cz5 := cell_of (j := 5) bz4
        have fz5 := free_of (j := 5) bz4
        have bz5 := set_blk (i := 5) (v := .int .i64 (1 + (TB : Int))) bz4
        have cz6 := cell_of (j := 6) bz5
        have fz6 := free_of (j := 6) bz5
        have bz6 := set_blk (i := 6) (v := .int .i64 Z) bz5
        have rz0 : (((((w7.setCell ⟨t6, 1, none⟩ (.int .i64 D)).setCell ⟨t6, 3, none⟩ (.int .u16 V)).setCell ⟨t6, 5, none⟩ (.int .i64 (1 + (TB : Int)))).setCell ⟨t6, 4, none⟩ (.int .u16 X2)).setCell ⟨t2, 0, none⟩ (.int .i64 n)).cell? ⟨t2, 0, none⟩ = some (.int .i64 n) := (cell_of bz0).trans (by simp)
        have rz1 : ((((((w7.setCell ⟨t6, 1, none⟩ (.int .i64 D)).setCell ⟨t6, 3, none⟩ (.int .u16 V)).setCell ⟨t6, 5, none⟩ (.int .i64 (1 + (TB : Int)))).setCell ⟨t6, 4, none⟩ (.int .u16 X2)).setCell ⟨t2, 0, none⟩ (.int .i64 n)).setCell ⟨t2, 1, none⟩ (.int .i64 D)).cell? ⟨t2, 1, none⟩ = some (.int .i64 D) := (cell_of bz1).trans (by simp)
        have rz2 : (((((((w7.setCell ⟨t6, 1, none⟩ (.int .i64 D)).setCell ⟨t6, 3, none⟩ (.int .u16 V)).setCell ⟨t6, 5, none⟩ (.int .i64 (1 + (TB : Int)))).setCell ⟨t6, 4, none⟩ (.int .u16 X2)).setCell ⟨t2, 0, none⟩ (.int .i64 n)).setCell ⟨t2, 1, none⟩ (.int .i64 D)).setCell ⟨t2, 2, none⟩ (.int .i64 0)).cell? ⟨t2, 2, none⟩ = some (.int .i64 0) := (cell_of bz2).trans (by simp)
        have rz3 : ((((((((w7.setCell ⟨t6, 1, none⟩ (.int .i64 D)).setCell ⟨t6, 3, none⟩ (.int .u16 V)).setCell ⟨t6, 5, none⟩ (.int .i64 (1 + (TB : Int)))).setCell ⟨t6, 4, none⟩ (.int .u16 X2)).setCell ⟨t2, 0, none⟩ (.int .i64 n)).setCell ⟨t2, 1, none⟩ (.int .i64 D)).setCell ⟨t2, 2, none⟩ (.int .i64 0)).setCell ⟨t2, 3, none⟩ (.int .u16 V)).cell? ⟨t2, 3, none⟩ = some (.int .u16 V) := (cell_of bz3).trans (by simp)
        have rz4 : (((((((((w7.setCell ⟨t6, 1, none⟩ (.int .i64 D)).setCell ⟨t6, 3, none⟩ (.int .u16 V)).setCell ⟨t6, 5, none⟩ (.int .i64 (1 + (TB : Int)))).setCell ⟨t6, 4, none⟩ (.int .u16 X2)).setCell ⟨t2, 0, none⟩ (.int .i64 n)).setCell ⟨t2, 1, none⟩ (.int .i64 D)).setCell ⟨t2, 2, none⟩ (.int .i64 0)).setCell ⟨t2, 3, none⟩ (.int .u16 V)).setCell ⟨t2, 4, none⟩ (.int .u16 X2)).cell? ⟨t2, 4, none⟩ = some (.int .u16 X2) := (cell_of bz4).trans (by simp)
        have rz5 : ((((((((((w7.setCell ⟨t6, 1, none⟩ (.int .i64 D)).setCell ⟨t6, 3, none⟩ (.int .u16 V)).setCell ⟨t6, 5, none⟩ (.int .i64 (1 + (TB : Int)))).setCell ⟨t6, 4, none⟩ (.int .u16 X2)).setCell ⟨t2, 0, none⟩ (.int .i64 n)).setCell ⟨t2, 1, none⟩ (.int .i64 D)).setCell ⟨t2, 2, none⟩ (.int .i64 0)).setCell ⟨t2, 3, none⟩ (.int .u16 V)).setCell ⟨t2, 4, none⟩ (.int .u16 X2)).setCell ⟨t2, 5, none⟩ (.int .i64 (1 + (TB : Int)))).cell? ⟨t2, 5, none⟩ = some (.int .i64 (1 + (TB : Int))) := (cell_of bz5).trans (by simp)
        have rz6 : (((((((((((w7.setCell ⟨t6, 1, none⟩ (.int .i64 D)).setCell ⟨t6, 3, none⟩ (.int .u16 V)).setCell ⟨t6, 5, none⟩ (.int .i64 (1 + (TB : Int)))).setCell ⟨t6, 4, none⟩ (.int .u16 X2)).setCell ⟨t2, 0, none⟩ (.int .i64 n)).setCell ⟨t2, 1, none⟩ (.int .i64 D)).setCell ⟨t2, 2, none⟩ (.int .i64 0)).setCell ⟨t2, 3, none⟩ (.int .u16 V)).setCell ⟨t2, 4, none⟩ (.int .u16 X2)).setCell ⟨t2, 5, none⟩ (.int .i64 (1 + (TB : Int)))).setCell ⟨t2, 6, none⟩ (.int .i64 Z)).cell? ⟨t2, 6, none⟩ = some (.int .i64 Z) := (cell_of bz6).trans (by simp)
        have LZ := Lib.hid (((((((((L0.out.trans (LW.mono HS1.out))).setCell (g := t2) (i := 0) (by have := HT.out; omega) (.int .i64 n)).setCell (g := t2) (i := 1) (by have := HT.out; omega) (.int .i64 D)).setCell (g := t2) (i := 2) (by have := HT.out; omega) (.int .i64 0)).setCell (g := t2) (i := 3) (by have := HT.out; omega) (.int .u16 V)).setCell (g := t2) (i := 4) (by have := HT.out; omega) (.int .u16 X2)).setCell (g := t2) (i := 5) (by have := HT.out; omega) (.int .i64 (1 + (TB : Int)))).setCell (g := t2) (i := 6) (by have := HT.out; omega) (.int .i64 Z))
        clear LW q6
        repeat (first | go_values | go_skip | go_guarded | go_step | go_upon)
        (try simp only [Exit.inBlock, Exit.then])
        refine bodyPost_ret (by simp [results, Tryz.results5, go_sem, rz0, rz1, rz2, rz3, rz4, rz5, rz6]; try rfl) rfl ?_
        exact ⟨_, _, _, _, _, _, _, rfl, fun h1 h2 => by have := HKN.out; omega, LZ.out⟩
      · have h6 := B6.out
        have cs1 := cell_of (j := 1) h6
        have fs1 := free_of (j := 1) h6
        have bs1 := set_blk (i := 1) (v := .int .i64 D) h6
        have cs3 := cell_of (j := 3) bs1
        have fs3 := free_of (j := 3) bs1
        have bs3 := set_blk (i := 3) (v := .int .u16 V) bs1
        have q6 : (((w7.setCell ⟨t6, 1, none⟩ (.int .i64 D)).setCell ⟨t6, 3, none⟩ (.int .u16 V))).heap[t6]? = some (insC n D 0 V 0 0 Z) := by simpa using bs3
        have LW : Low w1.heap.size w1 (((w7.setCell ⟨t6, 1, none⟩ (.int .i64 D)).setCell ⟨t6, 3, none⟩ (.int .u16 V))) := ((L7.out).setCell (g := t6) (i := 1) HT6.out (.int .i64 D)).setCell (g := t6) (i := 3) HT6.out (.int .u16 V)
        have h2 := LW.some A2.out
        obtain ⟨v0, v1, v2, v3, v4, v5, v6⟩ : InsAt t6 n D 0 V 0 0 Z (((w7.setCell ⟨t6, 1, none⟩ (.int .i64 D)).setCell ⟨t6, 3, none⟩ (.int .u16 V))) := ⟨cell_of q6, cell_of q6, cell_of q6, cell_of q6, cell_of q6, cell_of q6, cell_of q6⟩
        have cz0 := cell_of (j := 0) h2
        have fz0 := free_of (j := 0) h2
        have bz0 := set_blk (i := 0) (v := .int .i64 n) h2
        have cz1 := cell_of (j := 1) bz0
        have fz1 := free_of (j := 1) bz0
        have bz1 := set_blk (i := 1) (v := .int .i64 D) bz0
        have cz2 := cell_of (j := 2) bz1
        have fz2 := free_of (j := 2) bz1
        have bz2 := set_blk (i := 2) (v := .int .i64 0) bz1
        have cz3 := cell_of (j := 3) bz2
        have fz3 := free_of (j := 3) bz2
        have bz3 := set_blk (i := 3) (v := .int .u16 V) bz2
        have cz4 := cell_of (j := 4) bz3
        have fz4 := free_of (j := 4) bz3
        have bz4 := set_blk (i := 4) (v := .int .u16 0) bz3
        have cz5 := cell_of (j := 5) bz4
        have fz5 := free_of (j := 5) bz4
        have bz5 := set_blk (i := 5) (v := .int .i64 0) bz4
        have cz6 := cell_of (j := 6) bz5
        have fz6 := free_of (j := 6) bz5
        have bz6 := set_blk (i := 6) (v := .int .i64 Z) bz5
        have rz0 : (((w7.setCell ⟨t6, 1, none⟩ (.int .i64 D)).setCell ⟨t6, 3, none⟩ (.int .u16 V)).setCell ⟨t2, 0, none⟩ (.int .i64 n)).cell? ⟨t2, 0, none⟩ = some (.int .i64 n) := (cell_of bz0).trans (by simp)
        have rz1 : ((((w7.setCell ⟨t6, 1, none⟩ (.int .i64 D)).setCell ⟨t6, 3, none⟩ (.int .u16 V)).setCell ⟨t2, 0, none⟩ (.int .i64 n)).setCell ⟨t2, 1, none⟩ (.int .i64 D)).cell? ⟨t2, 1, none⟩ = some (.int .i64 D) := (cell_of bz1).trans (by simp)
        have rz2 : (((((w7.setCell ⟨t6, 1, none⟩ (.int .i64 D)).setCell ⟨t6, 3, none⟩ (.int .u16 V)).setCell ⟨t2, 0, none⟩ (.int .i64 n)).setCell ⟨t2, 1, none⟩ (.int .i64 D)).setCell ⟨t2, 2, none⟩ (.int .i64 0)).cell? ⟨t2, 2, none⟩ = some (.int .i64 0) := (cell_of bz2).trans (by simp)
        have rz3 : ((((((w7.setCell ⟨t6, 1, none⟩ (.int .i64 D)).setCell ⟨t6, 3, none⟩ (.int .u16 V)).setCell ⟨t2, 0, none⟩ (.int .i64 n)).setCell ⟨t2, 1, none⟩ (.int .i64 D)).setCell ⟨t2, 2, none⟩ (.int .i64 0)).setCell ⟨t2, 3, none⟩ (.int .u16 V)).cell? ⟨t2, 3, none⟩ = some (.int .u16 V) := (cell_of bz3).trans (by simp)
        have rz4 : (((((((w7.setCell ⟨t6, 1, none⟩ (.int .i64 D)).setCell ⟨t6, 3, none⟩ (.int .u16 V)).setCell ⟨t2, 0, none⟩ (.int .i64 n)).setCell ⟨t2, 1, none⟩ (.int .i64 D)).setCell ⟨t2, 2, none⟩ (.int .i64 0)).setCell ⟨t2, 3, none⟩ (.int .u16 V)).setCell ⟨t2, 4, none⟩ (.int .u16 0)).cell? ⟨t2, 4, none⟩ = some (.int .u16 0) := (cell_of bz4).trans (by simp)
        have rz5 : ((((((((w7.setCell ⟨t6, 1, none⟩ (.int .i64 D)).setCell ⟨t6, 3, none⟩ (.int .u16 V)).setCell ⟨t2, 0, none⟩ (.int .i64 n)).setCell ⟨t2, 1, none⟩ (.int .i64 D)).setCell ⟨t2, 2, none⟩ (.int .i64 0)).setCell ⟨t2, 3, none⟩ (.int .u16 V)).setCell ⟨t2, 4, none⟩ (.int .u16 0)).setCell ⟨t2, 5, none⟩ (.int .i64 0)).cell? ⟨t2, 5, none⟩ = some (.int .i64 0) := (cell_of bz5).trans (by simp)
        have rz6 : (((((((((w7.setCell ⟨t6, 1, none⟩ (.int .i64 D)).setCell ⟨t6, 3, none⟩ (.int .u16 V)).setCell ⟨t2, 0, none⟩ (.int .i64 n)).setCell ⟨t2, 1, none⟩ (.int .i64 D)).setCell ⟨t2, 2, none⟩ (.int .i64 0)).setCell ⟨t2, 3, none⟩ (.int .u16 V)).setCell ⟨t2, 4, none⟩ (.int .u16 0)).setCell ⟨t2, 5, none⟩ (.int .i64 0)).setCell ⟨t2, 6, none⟩ (.int .i64 Z)).cell? ⟨t2, 6, none⟩ = some (.int .i64 Z) := (cell_of bz6).trans (by simp)
        have LZ := Lib.hid (((((((((L0.out.trans (LW.mono HS1.out))).setCell (g := t2) (i := 0) (by have := HT.out; omega) (.int .i64 n)).setCell (g := t2) (i := 1) (by have := HT.out; omega) (.int .i64 D)).setCell (g := t2) (i := 2) (by have := HT.out; omega) (.int .i64 0)).setCell (g := t2) (i := 3) (by have := HT.out; omega) (.int .u16 V)).setCell (g := t2) (i := 4) (by have := HT.out; omega) (.int .u16 0)).setCell (g := t2) (i := 5) (by have := HT.out; omega) (.int .i64 0)).setCell (g := t2) (i := 6) (by have := HT.out; omega) (.int .i64 Z))
        clear LW q6
        repeat (first | go_values | go_skip | go_guarded | go_step | go_upon)
        (try simp only [Exit.inBlock, Exit.then])
        refine bodyPost_ret (by simp [results, Tryz.results5, go_sem, rz0, rz1, rz2, rz3, rz4, rz5, rz6]; try rfl) rfl ?_
        exact ⟨_, _, _, _, _, _, _, rfl, fun h1 h2 => by have := HKN.out; omega, LZ.out⟩
      · have h6 := B6.out
        have cs1 := cell_of (j := 1) h6
        have fs1 := free_of (j := 1) h6
        have bs1 := set_blk (i := 1) (v := .int .i64 D) h6
        have cs3 := cell_of (j := 3) bs1
        have fs3 := free_of (j := 3) bs1
        have bs3 := set_blk (i := 3) (v := .int .u16 V8) bs1
        have q6 : (((w7.setCell ⟨t6, 1, none⟩ (.int .i64 D)).setCell ⟨t6, 3, none⟩ (.int .u16 V8))).heap[t6]? = some (insC n D 0 V8 0 0 Z) := by simpa using bs3
        have LW : Low w1.heap.size w1 (((w7.setCell ⟨t6, 1, none⟩ (.int .i64 D)).setCell ⟨t6, 3, none⟩ (.int .u16 V8))) := ((L7.out).setCell (g := t6) (i := 1) HT6.out (.int .i64 D)).setCell (g := t6) (i := 3) HT6.out (.int .u16 V8)
        have h2 := LW.some A2.out
        obtain ⟨v0, v1, v2, v3, v4, v5, v6⟩ : InsAt t6 n D 0 V8 0 0 Z (((w7.setCell ⟨t6, 1, none⟩ (.int .i64 D)).setCell ⟨t6, 3, none⟩ (.int .u16 V8))) := ⟨cell_of q6, cell_of q6, cell_of q6, cell_of q6, cell_of q6, cell_of q6, cell_of q6⟩
        have cz0 := cell_of (j := 0) h2
        have fz0 := free_of (j := 0) h2
        have bz0 := set_blk (i := 0) (v := .int .i64 n) h2
        have cz1 := cell_of (j := 1) bz0
        have fz1 := free_of (j := 1) bz0
        have bz1 := set_blk (i := 1) (v := .int .i64 D) bz0
        have cz2 := cell_of (j := 2) bz1
        have fz2 := free_of (j := 2) bz1
        have bz2 := set_blk (i := 2) (v := .int .i64 0) bz1
        have cz3 := cell_of (j := 3) bz2
        have fz3 := free_of (j := 3) bz2
        have bz3 := set_blk (i := 3) (v := .int .u16 V8) bz2
        have cz4 := cell_of (j := 4) bz3
        have fz4 := free_of (j := 4) bz3
        have bz4 := set_blk (i := 4) (v := .int .u16 0) bz3
        have cz5 := cell_of (j := 5) bz4
        have fz5 := free_of (j := 5) bz4
        have bz5 := set_blk (i := 5) (v := .int .i64 0) bz4
        have cz6 := cell_of (j := 6) bz5
        have fz6 := free_of (j := 6) bz5
        have bz6 := set_blk (i := 6) (v := .int .i64 Z) bz5
        have rz0 : (((w7.setCell ⟨t6, 1, none⟩ (.int .i64 D)).setCell ⟨t6, 3, none⟩ (.int .u16 V8)).setCell ⟨t2, 0, none⟩ (.int .i64 n)).cell? ⟨t2, 0, none⟩ = some (.int .i64 n) := (cell_of bz0).trans (by simp)
        have rz1 : ((((w7.setCell ⟨t6, 1, none⟩ (.int .i64 D)).setCell ⟨t6, 3, none⟩ (.int .u16 V8)).setCell ⟨t2, 0, none⟩ (.int .i64 n)).setCell ⟨t2, 1, none⟩ (.int .i64 D)).cell? ⟨t2, 1, none⟩ = some (.int .i64 D) := (cell_of bz1).trans (by simp)
        have rz2 : (((((w7.setCell ⟨t6, 1, none⟩ (.int .i64 D)).setCell ⟨t6, 3, none⟩ (.int .u16 V8)).setCell ⟨t2, 0, none⟩ (.int .i64 n)).setCell ⟨t2, 1, none⟩ (.int .i64 D)).setCell ⟨t2, 2, none⟩ (.int .i64 0)).cell? ⟨t2, 2, none⟩ = some (.int .i64 0) := (cell_of bz2).trans (by simp)
        have rz3 : ((((((w7.setCell ⟨t6, 1, none⟩ (.int .i64 D)).setCell ⟨t6, 3, none⟩ (.int .u16 V8)).setCell ⟨t2, 0, none⟩ (.int .i64 n)).setCell ⟨t2, 1, none⟩ (.int .i64 D)).setCell ⟨t2, 2, none⟩ (.int .i64 0)).setCell ⟨t2, 3, none⟩ (.int .u16 V8)).cell? ⟨t2, 3, none⟩ = some (.int .u16 V8) := (cell_of bz3).trans (by simp)
        have rz4 : (((((((w7.setCell ⟨t6, 1, none⟩ (.int .i64 D)).setCell ⟨t6, 3, none⟩ (.int .u16 V8)).setCell ⟨t2, 0, none⟩ (.int .i64 n)).setCell ⟨t2, 1, none⟩ (.int .i64 D)).setCell ⟨t2, 2, none⟩ (.int .i64 0)).setCell ⟨t2, 3, none⟩ (.int .u16 V8)).setCell ⟨t2, 4, none⟩ (.int .u16 0)).cell? ⟨t2, 4, none⟩ = some (.int .u16 0) := (cell_of bz4).trans (by simp)
        have rz5 : ((((((((w7.setCell ⟨t6, 1, none⟩ (.int .i64 D)).setCell ⟨t6, 3, none⟩ (.int .u16 V8)).setCell ⟨t2, 0, none⟩ (.int .i64 n)).setCell ⟨t2, 1, none⟩ (.int .i64 D)).setCell ⟨t2, 2, none⟩ (.int .i64 0)).setCell ⟨t2, 3, none⟩ (.int .u16 V8)).setCell ⟨t2, 4, none⟩ (.int .u16 0)).setCell ⟨t2, 5, none⟩ (.int .i64 0)).cell? ⟨t2, 5, none⟩ = some (.int .i64 0) := (cell_of bz5).trans (by simp)
        have rz6 : (((((((((w7.setCell ⟨t6, 1, none⟩ (.int .i64 D)).setCell ⟨t6, 3, none⟩ (.int .u16 V8)).setCell ⟨t2, 0, none⟩ (.int .i64 n)).setCell ⟨t2, 1, none⟩ (.int .i64 D)).setCell ⟨t2, 2, none⟩ (.int .i64 0)).setCell ⟨t2, 3, none⟩ (.int .u16 V8)).setCell ⟨t2, 4, none⟩ (.int .u16 0)).setCell ⟨t2, 5, none⟩ (.int .i64 0)).setCell ⟨t2, 6, none⟩ (.int .i64 Z)).cell? ⟨t2, 6, none⟩ = some (.int .i64 Z) := (cell_of bz6).trans (by simp)
        have LZ := Lib.hid (((((((((L0.out.trans (LW.mono HS1.out))).setCell (g := t2) (i := 0) (by have := HT.out; omega) (.int .i64 n)).setCell (g := t2) (i := 1) (by have := HT.out; omega) (.int .i64 D)).setCell (g := t2) (i := 2) (by have := HT.out; omega) (.int .i64 0)).setCell (g := t2) (i := 3) (by have := HT.out; omega) (.int .u16 V8)).setCell (g := t2) (i := 4) (by have := HT.out; omega) (.int .u16 0)).setCell (g := t2) (i := 5) (by have := HT.out; omega) (.int .i64 0)).setCell (g := t2) (i := 6) (by have := HT.out; omega) (.int .i64 Z))
        clear LW q6
        repeat (first | go_values | go_skip | go_guarded | go_step | go_upon)
        (try simp only [Exit.inBlock, Exit.then])
        refine bodyPost_ret (by simp [results, Tryz.results5, go_sem, rz0, rz1, rz2, rz3, rz4, rz5, rz6]; try rfl) rfl ?_
        exact ⟨_, _, _, _, _, _, _, rfl, fun h1 h2 => by have := HKN.out; omega, LZ.out⟩
      · have h6 := B6.out
        have cs1 := cell_of (j := 1) h6
        have fs1 := free_of (j := 1) h6
        have bs1 := set_blk (i := 1) (v := .int .i64 D) h6
        have cs2 := cell_of (j := 2) bs1
        have fs2 := free_of (j := 2) bs1
        have bs2 := set_blk (i := 2) (v := .int .i64 S2) bs1
        have cs3 := cell_of (j := 3) bs2
        have fs3 := free_of (j := 3) bs2
        have bs3 := set_blk (i := 3) (v := .int .u16 V) bs2
        have cs5 := cell_of (j := 5) bs3
        have fs5 := free_of (j := 5) bs3
        have bs5 := set_blk (i := 5) (v := .int .i64 BK) bs3
        have m12 : (w7.setCell ⟨t6, 1, none⟩ (.int .i64 D)).cell? ⟨t1, 2, none⟩ = some (.int .i64 q2) := (World.cell?_of_block (a := ⟨t1, 2, none⟩) ((set_other HTT.out.1))).trans p2
        have m14 : (w7.setCell ⟨t6, 1, none⟩ (.int .i64 D)).cell? ⟨t1, 4, none⟩ = some (.int .i64 q4) := (World.cell?_of_block (a := ⟨t1, 4, none⟩) ((set_other HTT.out.1))).trans p4
        have m22 : ((w7.setCell ⟨t6, 1, none⟩ (.int .i64 D)).setCell ⟨t6, 2, none⟩ (.int .i64 S2)).cell? ⟨t1, 2, none⟩ = some (.int .i64 q2) := (World.cell?_of_block (a := ⟨t1, 2, none⟩) ((set_other HTT.out.1).trans ((set_other HTT.out.1)))).trans p2
        have m24 : ((w7.setCell ⟨t6, 1, none⟩ (.int .i64 D)).setCell ⟨t6, 2, none⟩ (.int .i64 S2)).cell? ⟨t1, 4, none⟩ = some (.int .i64 q4) := (World.cell?_of_block (a := ⟨t1, 4, none⟩) ((set_other HTT.out.1).trans ((set_other HTT.out.1)))).trans p4
        have m32 : (((w7.setCell ⟨t6, 1, none⟩ (.int .i64 D)).setCell ⟨t6, 2, none⟩ (.int .i64 S2)).setCell ⟨t6, 3, none⟩ (.int .u16 V)).cell? ⟨t1, 2, none⟩ = some (.int .i64 q2) := (World.cell?_of_block (a := ⟨t1, 2, none⟩) ((set_other HTT.out.1).trans ((set_other HTT.out.1).trans ((set_other HTT.out.1))))).trans p2
        have m34 : (((w7.setCell ⟨t6, 1, none⟩ (.int .i64 D)).setCell ⟨t6, 2, none⟩ (.int .i64 S2)).setCell ⟨t6, 3, none⟩ (.int .u16 V)).cell? ⟨t1, 4, none⟩ = some (.int .i64 q4) := (World.cell?_of_block (a := ⟨t1, 4, none⟩) ((set_other HTT.out.1).trans ((set_other HTT.out.1).trans ((set_other HTT.out.1))))).trans p4
        have m42 : ((((w7.setCell ⟨t6, 1, none⟩ (.int .i64 D)).setCell ⟨t6, 2, none⟩ (.int .i64 S2)).setCell ⟨t6, 3, none⟩ (.int .u16 V)).setCell ⟨t6, 5, none⟩ (.int .i64 BK)).cell? ⟨t1, 2, none⟩ = some (.int .i64 q2) := (World.cell?_of_block (a := ⟨t1, 2, none⟩) ((set_other HTT.out.1).trans ((set_other HTT.out.1).trans ((set_other HTT.out.1).trans ((set_other HTT.out.1)))))).trans p2
        have m44 : ((((w7.setCell ⟨t6, 1, none⟩ (.int .i64 D)).setCell ⟨t6, 2, none⟩ (.int .i64 S2)).setCell ⟨t6, 3, none⟩ (.int .u16 V)).setCell ⟨t6, 5, none⟩ (.int .i64 BK)).cell? ⟨t1, 4, none⟩ = some (.int .i64 q4) := (World.cell?_of_block (a := ⟨t1, 4, none⟩) ((set_other HTT.out.1).trans ((set_other HTT.out.1).trans ((set_other HTT.out.1).trans ((set_other HTT.out.1)))))).trans p4
        have q6 : (((((w7.setCell ⟨t6, 1, none⟩ (.int .i64 D)).setCell ⟨t6, 2, none⟩ (.int .i64 S2)).setCell ⟨t6, 3, none⟩ (.int .u16 V)).setCell ⟨t6, 5, none⟩ (.int .i64 BK))).heap[t6]? = some (insC n D S2 V 0 BK Z) := by simpa using bs5
        have LW : Low w1.heap.size w1 (((((w7.setCell ⟨t6, 1, none⟩ (.int .i64 D)).setCell ⟨t6, 2, none⟩ (.int .i64 S2)).setCell ⟨t6, 3, none⟩ (.int .u16 V)).setCell ⟨t6, 5, none⟩ (.int .i64 BK))) := ((((L7.out).setCell (g := t6) (i := 1) HT6.out (.int .i64 D)).setCell (g := t6) (i := 2) HT6.out (.int .i64 S2)).setCell (g := t6) (i := 3) HT6.out (.int .u16 V)).setCell (g := t6) (i := 5) HT6.out (.int .i64 BK)
        have h2 := LW.some A2.out
        obtain ⟨v0, v1, v2, v3, v4, v5, v6⟩ : InsAt t6 n D S2 V 0 BK Z (((((w7.setCell ⟨t6, 1, none⟩ (.int .i64 D)).setCell ⟨t6, 2, none⟩ (.int .i64 S2)).setCell ⟨t6, 3, none⟩ (.int .u16 V)).setCell ⟨t6, 5, none⟩ (.int .i64 BK))) := ⟨cell_of q6, cell_of q6, cell_of q6, cell_of q6, cell_of q6, cell_of q6, cell_of q6⟩
        have cz0 := cell_of (j := 0) h2
        have fz0 := free_of (j := 0) h2
        have bz0 := set_blk (i := 0) (v := .int .i64 n) h2
        have cz1 := cell_of (j := 1) bz0
        have fz1 := free_of (j := 1) bz0
        have bz1 := set_blk (i := 1) (v := .int .i64 D) bz0
        have cz2 := cell_of (j := 2) bz1
        have fz2 := free_of (j := 2) bz1
        have bz2 := set_blk (i := 2) (v := .int .i64 S2) bz1
        have cz3 := cell_of (j := 3) bz2
        have fz3 := free_of (j := 3) bz2
        have bz3 := set_blk (i := 3) (v := .int .u16 V) bz2
        have cz4 := cell_of (j := 4) bz3
        have fz4 := free_of (j := 4) bz3
        have bz4 := set_blk (i := 4) (v := .int .u16 0) bz3
        have cz5 := cell_of (j := 5) bz4
        have fz5 := free_of (j := 5) bz4
        have bz5 := set_blk (i := 5) (v := .int .i64 BK) bz4
        have cz6 := cell_of (j := 6) bz5
        have fz6 := free_of (j := 6) bz5
        have bz6 := set_blk (i := 6) (v := .int .i64 Z) bz5
        have rz0 : (((((w7.setCell ⟨t6, 1, none⟩ (.int .i64 D)).setCell ⟨t6, 2, none⟩ (.int .i64 S2)).setCell ⟨t6, 3, none⟩ (.int .u16 V)).setCell ⟨t6, 5, none⟩ (.int .i64 BK)).setCell ⟨t2, 0, none⟩ (.int .i64 n)).cell? ⟨t2, 0, none⟩ = some (.int .i64 n) := (cell_of bz0).trans (by simp)
        have rz1 : ((((((w7.setCell ⟨t6, 1, none⟩ (.int .i64 D)).setCell ⟨t6, 2, none⟩ (.int .i64 S2)).setCell ⟨t6, 3, none⟩ (.int .u16 V)).setCell ⟨t6, 5, none⟩ (.int .i64 BK)).setCell ⟨t2, 0, none⟩ (.int .i64 n)).setCell ⟨t2, 1, none⟩ (.int .i64 D)).cell? ⟨t2, 1, none⟩ = some (.int .i64 D) := (cell_of bz1).trans (by simp)
        have rz2 : (((((((w7.setCell ⟨t6, 1, none⟩ (.int .i64 D)).setCell ⟨t6, 2, none⟩ (.int .i64 S2)).setCell ⟨t6, 3, none⟩ (.int .u16 V)).setCell ⟨t6, 5, none⟩ (.int .i64 BK)).setCell ⟨t2, 0, none⟩ (.int .i64 n)).setCell ⟨t2, 1, none⟩ (.int .i64 D)).setCell ⟨t2, 2, none⟩ (.int .i64 S2)).cell? ⟨t2, 2, none⟩ = some (.int .i64 S2) := (cell_of bz2).trans (by simp)
        have rz3 : ((((((((w7.setCell ⟨t6, 1, none⟩ (.int .i64 D)).setCell ⟨t6, 2, none⟩ (.int .i64 S2)).setCell ⟨t6, 3, none⟩ (.int .u16 V)).setCell ⟨t6, 5, none⟩ (.int .i64 BK)).setCell ⟨t2, 0, none⟩ (.int .i64 n)).setCell ⟨t2, 1, none⟩ (.int .i64 D)).setCell ⟨t2, 2, none⟩ (.int .i64 S2)).setCell ⟨t2, 3, none⟩ (.int .u16 V)).cell? ⟨t2, 3, none⟩ = some (.int .u16 V) := (cell_of bz3).trans (by simp)
        have rz4 : (((((((((w7.setCell ⟨t6, 1, none⟩ (.int .i64 D)).setCell ⟨t6, 2, none⟩ (.int .i64 S2)).setCell ⟨t6, 3, none⟩ (.int .u16 V)).setCell ⟨t6, 5, none⟩ (.int .i64 BK)).setCell ⟨t2, 0, none⟩ (.int .i64 n)).setCell ⟨t2, 1, none⟩ (.int .i64 D)).setCell ⟨t2, 2, none⟩ (.int .i64 S2)).setCell ⟨t2, 3, none⟩ (.int .u16 V)).setCell ⟨t2, 4, none⟩ (.int .u16 0)).cell? ⟨t2, 4, none⟩ = some (.int .u16 0) := (cell_of bz4).trans (by simp)
        have rz5 : ((((((((((w7.setCell ⟨t6, 1, none⟩ (.int .i64 D)).setCell ⟨t6, 2, none⟩ (.int .i64 S2)).setCell ⟨t6, 3, none⟩ (.int .u16 V)).setCell ⟨t6, 5, none⟩ (.int .i64 BK)).setCell ⟨t2, 0, none⟩ (.int .i64 n)).setCell ⟨t2, 1, none⟩ (.int .i64 D)).setCell ⟨t2, 2, none⟩ (.int .i64 S2)).setCell ⟨t2, 3, none⟩ (.int .u16 V)).setCell ⟨t2, 4, none⟩ (.int .u16 0)).setCell ⟨t2, 5, none⟩ (.int .i64 BK)).cell? ⟨t2, 5, none⟩ = some (.int .i64 BK) := (cell_of bz5).trans (by simp)
        have rz6 : (((((((((((w7.setCell ⟨t6, 1, none⟩ (.int .i64 D)).setCell ⟨t6, 2, none⟩ (.int .i64 S2)).setCell ⟨t6, 3, none⟩ (.int .u16 V)).setCell ⟨t6, 5, none⟩ (.int .i64 BK)).setCell ⟨t2, 0, none⟩ (.int .i64 n)).setCell ⟨t2, 1, none⟩ (.int .i64 D)).setCell ⟨t2, 2, none⟩ (.int .i64 S2)).setCell ⟨t2, 3, none⟩ (.int .u16 V)).setCell ⟨t2, 4, none⟩ (.int .u16 0)).setCell ⟨t2, 5, none⟩ (.int .i64 BK)).setCell ⟨t2, 6, none⟩ (.int .i64 Z)).cell? ⟨t2, 6, none⟩ = some (.int .i64 Z) := (cell_of bz6).trans (by simp)
        have LZ := Lib.hid (((((((((L0.out.trans (LW.mono HS1.out))).setCell (g := t2) (i := 0) (by have := HT.out; omega) (.int .i64 n)).setCell (g := t2) (i := 1) (by have := HT.out; omega) (.int .i64 D)).setCell (g := t2) (i := 2) (by have := HT.out; omega) (.int .i64 S2)).setCell (g := t2) (i := 3) (by have := HT.out; omega) (.int .u16 V)).setCell (g := t2) (i := 4) (by have := HT.out; omega) (.int .u16 0)).setCell (g := t2) (i := 5) (by have := HT.out; omega) (.int .i64 BK)).setCell (g := t2) (i := 6) (by have := HT.out; omega) (.int .i64 Z))
        clear LW q6
        repeat (first | go_values | go_skip | go_guarded | go_step | go_upon)
        (try simp only [Exit.inBlock, Exit.then])
        refine bodyPost_ret (by simp [results, Tryz.results5, go_sem, rz0, rz1, rz2, rz3, rz4, rz5, rz6]; try rfl) rfl ?_
        exact ⟨_, _, _, _, _, _, _, rfl, fun h1 h2 => by have := HKN.out; omega, LZ.out⟩
      · have h6 := B6.out
        have cs2 := cell_of (j := 2) h6
        have fs2 := free_of (j := 2) h6
        have bs2 := set_blk (i := 2) (v := .int .i64 S2) h6
        have cs3 := cell_of (j := 3) bs2
        have fs3 := free_of (j := 3) bs2
        have bs3 := set_blk (i := 3) (v := .int .u16 V) bs2
        have cs4 := cell_of (j := 4) bs3
        have fs4 := free_of (j := 4) bs3
        have bs4 := set_blk (i := 4) (v := .int .u16 X4) bs3
        have m12 : (w7.setCell ⟨t6, 2, none⟩ (.int .i64 S2)).cell? ⟨t1, 2, none⟩ = some (.int .i64 q2) := (World.cell?_of_block (a := ⟨t1, 2, none⟩) ((set_other HTT.out.1))).trans p2
        have m14 : (w7.setCell ⟨t6, 2, none⟩ (.int .i64 S2)).cell? ⟨t1, 4, none⟩ = some (.int .i64 q4) := (World.cell?_of_block (a := ⟨t1, 4, none⟩) ((set_other HTT.out.1))).trans p4
        have m22 : ((w7.setCell ⟨t6, 2, none⟩ (.int .i64 S2)).setCell ⟨t6, 3, none⟩ (.int .u16 V)).cell? ⟨t1, 2, none⟩ = some (.int .i64 q2) := (World.cell?_of_block (a := ⟨t1, 2, none⟩) ((set_other HTT.out.1).trans ((set_other HTT.out.1)))).trans p2
        have m24 : ((w7.setCell ⟨t6, 2, none⟩ (.int .i64 S2)).setCell ⟨t6, 3, none⟩ (.int .u16 V)).cell? ⟨t1, 4, none⟩ = some (.int .i64 q4) := (World.cell?_of_block (a := ⟨t1, 4, none⟩) ((set_other HTT.out.1).trans ((set_other HTT.out.1)))).trans p4
        have m32 : (((w7.setCell ⟨t6, 2, none⟩ (.int .i64 S2)).setCell ⟨t6, 3, none⟩ (.int .u16 V)).setCell ⟨t6, 4, none⟩ (.int .u16 X4)).cell? ⟨t1, 2, none⟩ = some (.int .i64 q2) := (World.cell?_of_block (a := ⟨t1, 2, none⟩) ((set_other HTT.out.1).trans ((set_other HTT.out.1).trans ((set_other HTT.out.1))))).trans p2
        have m34 : (((w7.setCell ⟨t6, 2, none⟩ (.int .i64 S2)).setCell ⟨t6, 3, none⟩ (.int .u16 V)).setCell ⟨t6, 4, none⟩ (.int .u16 X4)).cell? ⟨t1, 4, none⟩ = some (.int .i64 q4) := (World.cell?_of_block (a := ⟨t1, 4, none⟩) ((set_other HTT.out.1).trans ((set_other HTT.out.1).trans ((set_other HTT.out.1))))).trans p4
        have q6 : ((((w7.setCell ⟨t6, 2, none⟩ (.int .i64 S2)).setCell ⟨t6, 3, none⟩ (.int .u16 V)).setCell ⟨t6, 4, none⟩ (.int .u16 X4))).heap[t6]? = some (insC n 0 S2 V X4 0 Z) := by simpa using bs4
        have LW : Low w1.heap.size w1 ((((w7.setCell ⟨t6, 2, none⟩ (.int .i64 S2)).setCell ⟨t6, 3, none⟩ (.int .u16 V)).setCell ⟨t6, 4, none⟩ (.int .u16 X4))) := (((L7.out).setCell (g := t6) (i := 2) HT6.out (.int .i64 S2)).setCell (g := t6) (i := 3) HT6.out (.int .u16 V)).setCell (g := t6) (i := 4) HT6.out (.int .u16 X4)
        have h2 := LW.some A2.out
        obtain ⟨v0, v1, v2, v3, v4, v5, v6⟩ : InsAt t6 n 0 S2 V X4 0 Z ((((w7.setCell ⟨t6, 2, none⟩ (.int .i64 S2)).setCell ⟨t6, 3, none⟩ (.int .u16 V)).setCell ⟨t6, 4, none⟩ (.int .u16 X4))) := ⟨cell_of q6, cell_of q6, cell_of q6, cell_of q6, cell_of q6, cell_of q6, cell_of q6⟩
        have cz0 := cell_of (j := 0) h2
        have fz0 := free_of (j := 0) h2
        have bz0 := set_blk (i := 0) (v := .int .i64 n) h2
        have cz1 := cell_of (j := 1) bz0
        have fz1 := free_of (j := 1) bz0
        have bz1 := set_blk (i := 1) (v := .int .i64 0) bz0
        have cz2 := cell_of (j := 2) bz1
        have fz2 := free_of (j := 2) bz1
        have bz2 := set_blk (i := 2) (v := .int .i64 S2) bz1
        have cz3 := cell_of (j := 3) bz2
        have fz3 := free_of (j := 3) bz2
        have bz3 := set_blk (i := 3) (v := .int .u16 V) bz2
        have cz4 := cell_of (j := 4) bz3
        have fz4 := free_of (j := 4) bz3
        have bz4 := set_blk (i := 4) (v := .int .u16 X4) bz3
        have cz5 := cell_of (j := 5) bz4
        have fz5 := free_of (j := 5) bz4
        have bz5 := set_blk (i := 5) (v := .int .i64 0) bz4
        have cz6 := cell_of (j := 6) bz5
        have fz6 := free_of (j := 6) bz5
        have bz6 := set_blk (i := 6) (v := .int .i64 Z) bz5
        have rz0 : ((((w7.setCell ⟨t6, 2, none⟩ (.int .i64 S2)).setCell ⟨t6, 3, none⟩ (.int .u16 V)).setCell ⟨t6, 4, none⟩ (.int .u16 X4)).setCell ⟨t2, 0, none⟩ (.int .i64 n)).cell? ⟨t2, 0, none⟩ = some (.int .i64 n) := (cell_of bz0).trans (by simp)
        have rz1 : (((((w7.setCell ⟨t6, 2, none⟩ (.int .i64 S2)).setCell ⟨t6, 3, none⟩ (.int .u16 V)).setCell ⟨t6, 4, none⟩ (.int .u16 X4)).setCell ⟨t2, 0, none⟩ (.int .i64 n)).setCell ⟨t2, 1, none⟩ (.int .i64 0)).cell? ⟨t2, 1, none⟩ = some (.int .i64 0) := (cell_of bz1).trans (by simp)
        have rz2 : ((((((w7.setCell ⟨t6, 2, none⟩ (.int .i64 S2)).setCell ⟨t6, 3, none⟩ (.int .u16 V)).setCell ⟨t6, 4, none⟩ (.int .u16 X4)).setCell ⟨t2, 0, none⟩ (.int .i64 n)).setCell ⟨t2, 1, none⟩ (.int .i64 0)).setCell ⟨t2, 2, none⟩ (.int .i64 S2)).cell? ⟨t2, 2, none⟩ = some (.int .i64 S2) := (cell_of bz2).trans (by simp)
        have rz3 : (((((((w7.setCell ⟨t6, 2, none⟩ (.int .i64 S2)).setCell ⟨t6, 3, none⟩ (.int .u16 V)).setCell ⟨t6, 4, none⟩ (.int .u16 X4)).setCell ⟨t2, 0, none⟩ (.int .i64 n)).setCell ⟨t2, 1, none⟩ (.int .i64 0)).setCell ⟨t2, 2, none⟩ (.int .i64 S2)).setCell ⟨t2, 3, none⟩ (.int .u16 V)).cell? ⟨t2, 3, none⟩ = some (.int .u16 V) := (cell_of bz3).trans (by simp)
        have rz4 : ((((((((w7.setCell ⟨t6, 2, none⟩ (.int .i64 S2)).setCell ⟨t6, 3, none⟩ (.int .u16 V)).setCell ⟨t6, 4, none⟩ (.int .u16 X4)).setCell ⟨t2, 0, none⟩ (.int .i64 n)).setCell ⟨t2, 1, none⟩ (.int .i64 0)).setCell ⟨t2, 2, none⟩ (.int .i64 S2)).setCell ⟨t2, 3, none⟩ (.int .u16 V)).setCell ⟨t2, 4, none⟩ (.int .u16 X4)).cell? ⟨t2, 4, none⟩ = some (.int .u16 X4) := (cell_of bz4).trans (by simp)
        have rz5 : (((((((((w7.setCell ⟨t6, 2, none⟩ (.int .i64 S2)).setCell ⟨t6, 3, none⟩ (.int .u16 V)).setCell ⟨t6, 4, none⟩ (.int .u16 X4)).setCell ⟨t2, 0, none⟩ (.int .i64 n)).setCell ⟨t2, 1, none⟩ (.int .i64 0)).setCell ⟨t2, 2, none⟩ (.int .i64 S2)).setCell ⟨t2, 3, none⟩ (.int .u16 V)).setCell ⟨t2, 4, none⟩ (.int .u16 X4)).setCell ⟨t2, 5, none⟩ (.int .i64 0)).cell? ⟨t2, 5, none⟩ = some (.int .i64 0) := (cell_of bz5).trans (by simp)
        have rz6 : ((((((((((w7.setCell ⟨t6, 2, none⟩ (.int .i64 S2)).setCell ⟨t6, 3, none⟩ (.int .u16 V)).setCell ⟨t6, 4, none⟩ (.int .u16 X4)).setCell ⟨t2, 0, none⟩ (.int .i64 n)).setCell ⟨t2, 1, none⟩ (.int .i64 0)).setCell ⟨t2, 2, none⟩ (.int .i64 S2)).setCell ⟨t2, 3, none⟩ (.int .u16 V)).setCell ⟨t2, 4, none⟩ (.int .u16 X4)).setCell ⟨t2, 5, none⟩ (.int .i64 0)).setCell ⟨t2, 6, none⟩ (.int .i64 Z)).cell? ⟨t2, 6, none⟩ = some (.int .i64 Z) := (cell_of bz6).trans (by simp)
        have LZ := Lib.hid (((((((((L0.out.trans (LW.mono HS1.out))).setCell (g := t2) (i := 0) (by have := HT.out; omega) (.int .i64 n)).setCell (g := t2) (i := 1) (by have := HT.out; omega) (.int .i64 0)).setCell (g := t2) (i := 2) (by have := HT.out; omega) (.int .i64 S2)).setCell (g := t2) (i := 3) (by have := HT.out; omega) (.int .u16 V)).setCell (g := t2) (i := 4) (by have := HT.out; omega) (.int .u16 X4)).setCell (g := t2) (i := 5) (by have := HT.out; omega) (.int .i64 0)).setCell (g := t2) (i := 6) (by have := HT.out; omega) (.int .i64 Z))
        clear LW q6
        repeat (first | go_values | go_skip | go_guarded | go_step | go_upon)
        (try simp only [Exit.inBlock, Exit.then])
        refine bodyPost_ret (by simp [results, Tryz.results5, go_sem, rz0, rz1, rz2, rz3, rz4, rz5, rz6]; try rfl) rfl ?_
        exact ⟨_, _, _, _, _, _, _, rfl, fun h1 h2 => by have := HKN.out; omega, LZ.out⟩
      · have h6 := B6.out
        have cs1 := cell_of (j := 1) h6
        have fs1 := free_of (j := 1) h6
        have bs1 := set_blk (i := 1) (v := .int .i64 D) h6
        have cs3 := cell_of (j := 3) bs1
        have fs3 := free_of (j := 3) bs1
        have bs3 := set_blk (i := 3) (v := .int .u16 (ext2 (V8 : Int))) bs1
        have q6 : (((w7.setCell ⟨t6, 1, none⟩ (.int .i64 D)).setCell ⟨t6, 3, none⟩ (.int .u16 (ext2 (V8 : Int))))).heap[t6]? = some (insC n D 0 (ext2 (V8 : Int)) 0 0 Z) := by simpa using bs3
        have LW : Low w1.heap.size w1 (((w7.setCell ⟨t6, 1, none⟩ (.int .i64 D)).setCell ⟨t6, 3, none⟩ (.int .u16 (ext2 (V8 : Int))))) := ((L7.out).setCell (g := t6) (i := 1) HT6.out (.int .i64 D)).setCell (g := t6) (i := 3) HT6.out (.int .u16 (ext2 (V8 : Int)))
        have h2 := LW.some A2.out
        obtain ⟨v0, v1, v2, v3, v4, v5, v6⟩ : InsAt t6 n D 0 (ext2 (V8 : Int)) 0 0 Z (((w7.setCell ⟨t6, 1, none⟩ (.int .i64 D)).setCell ⟨t6, 3, none⟩ (.int .u16 (ext2 (V8 : Int))))) := ⟨cell_of q6, cell_of q6, cell_of q6, cell_of q6, cell_of q6, cell_of q6, cell_of q6⟩
        have cz0 := cell_of (j := 0) h2
        have fz0 := free_of (j := 0) h2
        have bz0 := set_blk (i := 0) (v := .int .i64 n) h2
        have cz1 := cell_of (j := 1) bz0
        have fz1 := free_of (j := 1) bz0
        have bz1 := set_blk (i := 1) (v := .int .i64 D) bz0
        have cz2 := cell_of (j := 2) bz1
        have fz2 := free_of (j := 2) bz1
        have bz2 := set_blk (i := 2) (v := .int .i64 0) bz1
        have cz3 := cell_of (j := 3) bz2
        have fz3 := free_of (j := 3) bz2
        have bz3 := set_blk (i := 3) (v := .int .u16 (ext2 (V8 : Int))) bz2
        have cz4 := cell_of (j := 4) bz3
        have fz4 := free_of (j := 4) bz3
        have bz4 := set_blk (i := 4) (v := .int .u16 0) bz3
        have cz5 := cell_of (j := 5) bz4
        have fz5 := free_of (j := 5) bz4
        have bz5 := set_blk (i := 5) (v := .int .i64 0) bz4
        have cz6 := cell_of (j := 6) bz5
        have fz6 := free_of (j := 6) bz5
        have bz6 := set_blk (i := 6) (v := .int .i64 Z) bz5
        have rz0 : (((w7.setCell ⟨t6, 1, none⟩ (.int .i64 D)).setCell ⟨t6, 3, none⟩ (.int .u16 (ext2 (V8 : Int)))).setCell ⟨t2, 0, none⟩ (.int .i64 n)).cell? ⟨t2, 0, none⟩ = some (.int .i64 n) := (cell_of bz0).trans (by simp)
        have rz1 : ((((w7.setCell ⟨t6, 1, none⟩ (.int .i64 D)).setCell ⟨t6, 3, none⟩ (.int .u16 (ext2 (V8 : Int)))).setCell ⟨t2, 0, none⟩ (.int .i64 n)).setCell ⟨t2, 1, none⟩ (.int .i64 D)).cell? ⟨t2, 1, none⟩ = some (.int .i64 D) := (cell_of bz1).trans (by simp)
        have rz2 : (((((w7.setCell ⟨t6, 1, none⟩ (.int .i64 D)).setCell ⟨t6, 3, none⟩ (.int .u16 (ext2 (V8 : Int)))).setCell ⟨t2, 0, none⟩ (.int .i64 n)).setCell ⟨t2, 1, none⟩ (.int .i64 D)).setCell ⟨t2, 2, none⟩ (.int .i64 0)).cell? ⟨t2, 2, none⟩ = some (.int .i64 0) := (cell_of bz2).trans (by simp)
        have rz3 : ((((((w7.setCell ⟨t6, 1, none⟩ (.int .i64 D)).setCell ⟨t6, 3, none⟩ (.int .u16 (ext2 (V8 : Int)))).setCell ⟨t2, 0, none⟩ (.int .i64 n)).setCell ⟨t2, 1, none⟩ (.int .i64 D)).setCell ⟨t2, 2, none⟩ (.int .i64 0)).setCell ⟨t2, 3, none⟩ (.int .u16 (ext2 (V8 : Int)))).cell? ⟨t2, 3, none⟩ = some (.int .u16 (ext2 (V8 : Int))) := (cell_of bz3).trans (by simp)
        have rz4 : (((((((w7.setCell ⟨t6, 1, none⟩ (.int .i64 D)).setCell ⟨t6, 3, none⟩ (.int .u16 (ext2 (V8 : Int)))).setCell ⟨t2, 0, none⟩ (.int .i64 n)).setCell ⟨t2, 1, none⟩ (.int .i64 D)).setCell ⟨t2, 2, none⟩ (.int .i64 0)).setCell ⟨t2, 3, none⟩ (.int .u16 (ext2 (V8 : Int)))).setCell ⟨t2, 4, none⟩ (.int .u16 0)).cell? ⟨t2, 4, none⟩ = some (.int .u16 0) := (cell_of bz4).trans (by simp)
        have rz5 : ((((((((w7.setCell ⟨t6, 1, none⟩ (.int .i64 D)).setCell ⟨t6, 3, none⟩ (.int .u16 (ext2 (V8 : Int)))).setCell ⟨t2, 0, none⟩ (.int .i64 n)).setCell ⟨t2, 1, none⟩ (.int .i64 D)).setCell ⟨t2, 2, none⟩ (.int .i64 0)).setCell ⟨t2, 3, none⟩ (.int .u16 (ext2 (V8 : Int)))).setCell ⟨t2, 4, none⟩ (.int .u16 0)).setCell ⟨t2, 5, none⟩ (.int .i64 0)).cell? ⟨t2, 5, none⟩ = some (.int .i64 0) := (cell_of bz5).trans (by simp)
        have rz6 : (((((((((w7.setCell ⟨t6, 1, none⟩ (.int .i64 D)).setCell ⟨t6, 3, none⟩ (.int .u16 (ext2 (V8 : Int)))).setCell ⟨t2, 0, none⟩ (.int .i64 n)).setCell ⟨t2, 1, none⟩ (.int .i64 D)).setCell ⟨t2, 2, none⟩ (.int .i64 0)).setCell ⟨t2, 3, none⟩ (.int .u16 (ext2 (V8 : Int)))).setCell ⟨t2, 4, none⟩ (.int .u16 0)).setCell ⟨t2, 5, none⟩ (.int .i64 0)).setCell ⟨t2, 6, none⟩ (.int .i64 Z)).cell? ⟨t2, 6, none⟩ = some (.int .i64 Z) := (cell_of bz6).trans (by simp)
        have LZ := Lib.hid (((((((((L0.out.trans (LW.mono HS1.out))).setCell (g := t2) (i := 0) (by have := HT.out; omega) (.int .i64 n)).setCell (g := t2) (i := 1) (by have := HT.out; omega) (.int .i64 D)).setCell (g := t2) (i := 2) (by have := HT.out; omega) (.int .i64 0)).setCell (g := t2) (i := 3) (by have := HT.out; omega) (.int .u16 (ext2 (V8 : Int)))).setCell (g := t2) (i := 4) (by have := HT.out; omega) (.int .u16 0)).setCell (g := t2) (i := 5) (by have := HT.out; omega) (.int .i64 0)).setCell (g := t2) (i := 6) (by have := HT.out; omega) (.int .i64 Z))
        clear LW q6
        go_upto_region 50 with (first | (go_at_call 14; refine (hext _).mono ?_; rintro e u ⟨rfl, hu⟩; rw [hu]; clear hu u))
        repeat (first | go_values | go_skip | go_guarded | go_step | go_upon)
        (try simp only [Exit.inBlock, Exit.then])
        refine bodyPost_ret (by simp [results, Tryz.results5, go_sem, rz0, rz1, rz2, rz3, rz4, rz5, rz6]; try rfl) rfl ?_
        exact ⟨_, _, _, _, _, _, _, rfl, fun h1 h2 => by have := HKN.out; omega, LZ.out⟩

end Go.Proofs.YtjkaoejcdboaiaaGreat
