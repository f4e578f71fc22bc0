/- The maker: op. -/
import Derived.Test.YtahljbkaemhpcaaGreatM8
import Derived.Test.YtahljbkaemhpcaaGreatM6
namespace Go.Proofs.YtahljbkaemhpcaaGreat
open Go.RowKit
set_option linter.unusedVariables false
section
variable {c : Cx} {w0 w : World} {d0 : Mk} {K a : Nat}
theorem take_b (h : St c w0 d0 (K + a) w) (hK : K + 32 ≤ big) (ha : a + 1 ≤ 32) (n : Int) (h0 : 0 < n) (h1 : n ≤ 1099511627776) : Calls Tryz.prog 12 #[.pointer (some ⟨c.m, 0, none⟩), .int .i64 n] w (RetIn n c w0 d0 (K + (a + 1))) :=
  take_st h (by omega) n h0 h1
theorem any_b (h : St c w0 d0 (K + a) w) (hK : K + 32 ≤ big) (ha : a + 4 ≤ 32) (hcur : d0.cur < d0.PL.length) : Calls Tryz.prog 15 #[.pointer (some ⟨c.m, 0, none⟩)] w (Ret c w0 d0 (K + (a + 4))) :=
  any_st c w0 w d0 (K + a) h (by omega) hcur
theorem number_b (h : St c w0 d0 (K + a) w) (hK : K + 32 ≤ big) (ha : a + 3 ≤ 32) (hcur : d0.cur < d0.PL.length) (n : Int) : Calls Tryz.prog 40 #[.pointer (some ⟨c.m, 0, none⟩), .int .u16 n] w (Ret c w0 d0 (K + (a + 3))) :=
  number_st h (by omega) hcur n
theorem emit_b (h : St c w0 d0 (K + a) w) (hK : K + 32 ≤ big) (ha : a + 3 ≤ 32) (hcur : d0.cur < d0.PL.length) (z0 z1 z2 z3 z4 : Int) : Calls Tryz.prog 89 #[.pointer (some ⟨c.m, 0, none⟩), .agg #[.int .i64 z0, .int .i64 z1, .int .i64 z2, .int .i64 z3, .int .u16 z4, .slice none 0 0]] w (Ret c w0 d0 (K + (a + 3))) :=
  emit_plain h (by omega) hcur z0 z1 z2 z3 z4
theorem address_b (h : St c w0 d0 (K + a) w) (hp : PG c w0) (hK : K + 32 ≤ big) (ha : a + 6 ≤ 32) (hcur : d0.cur < d0.PL.length) : Calls Tryz.prog 90 #[.pointer (some ⟨c.m, 0, none⟩)] w (Ret c w0 d0 (K + (a + 6))) :=
  address_st c w0 w d0 (K + a) h hp (by omega) hcur
theorem call_b (h : St c w0 d0 (K + a) w) (hp : PG c w0) (hK : K + 32 ≤ big) (ha : a + 24 ≤ 32) (hcur : d0.cur < d0.PL.length) : Calls Tryz.prog 91 #[.pointer (some ⟨c.m, 0, none⟩)] w (RetE c w0 d0 (K + (a + 24))) := by
  obtain ⟨d, hk, hf, hs⟩ := h
  refine (call_mk c _ w d hk (hp.on hf) (by omega) (by rw [hs.1, hs.2.1]; exact hcur)).mono ?_
  rintro e w' ⟨rfl, d', hk', hf', hs'⟩
  exact ⟨rfl, St.up hf hs hk' hf' hs'⟩
end
set_option maxRecDepth 100000 in
set_option maxHeartbeats 8000000 in
theorem op_st (c : Cx) (w0 w : World) (d0 : Mk) (K : Nat) (h : St c w0 d0 K w) (hp : PG c w0) (hK : K + 32 ≤ big) (hcur : d0.cur < d0.PL.length) : Calls Tryz.prog 37 #[.pointer (some ⟨c.m, 0, none⟩)] w (RetE c w0 d0 (K + 32)) := by
  have hs : St c w0 d0 (K + 0) w := h
  have HP := Lib.hid hp
  have HK : Hid (K + 32 ≤ big) := hK
  clear h hp hK
  go_enter Tryz.func37, Tryz.ntmps37
  go_wp2_with (first
    | (go_at_call 12; (with_reducible refine (take_b hs HK.out (by decide) _ (by decide) (by decide)).mono ?_); rintro e w1 ⟨r1, a1, b1, rfl, hs1⟩; clear hs; have hs := hs1; clear hs1)
    | (go_at_call 15; (with_reducible refine (any_b hs HK.out (by decide) hcur).mono ?_); rintro e w1 ⟨r1, rfl, hs1⟩; clear hs; have hs := hs1; clear hs1)
    | (go_at_call 40; (with_reducible refine (number_b hs HK.out (by decide) hcur _).mono ?_); rintro e w1 ⟨r1, rfl, hs1⟩; clear hs; have hs := hs1; clear hs1)
    | (go_at_call 90; (with_reducible refine (address_b hs HP.out HK.out (by decide) hcur).mono ?_); rintro e w1 ⟨r1, rfl, hs1⟩; clear hs; have hs := hs1; clear hs1)
    | (go_at_call 91; (with_reducible refine (call_b hs HP.out HK.out (by decide) hcur).mono ?_); rintro e w1 ⟨rfl, hs1⟩; clear hs; have hs := hs1; clear hs1)
    | (go_at_call 89; (refine (emit_b hs HK.out (by decide) hcur _ _ _ _ _).mono ?_); rintro e w1 ⟨r1, rfl, hs1⟩; clear hs; have hs := hs1; clear hs1))
  all_goals go_end0
  all_goals exact ⟨rfl, hs.more (Nat.add_le_add_left (by decide) K) HK.out⟩
end Go.Proofs.YtahljbkaemhpcaaGreat
