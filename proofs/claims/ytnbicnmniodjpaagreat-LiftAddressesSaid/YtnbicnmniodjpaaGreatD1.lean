/- word.Get of a string: its first two bytes. -/
import Derived.Test.YtnbicnmniodjpaaGreatProg
import Derived.WalkSpells
import Derived.BigQuiet
import Derived.IntWalk
import Derived.Lib.Hide
import Derived.StillTailTactics
import Derived.Deep.DeepCutAuto
import Derived.Deep.RegionLaw
import Derived.KernelRfl
import Derived.Handy
import Derived.Laws.IdiomStrings
import Derived.Below
set_option linter.unusedSimpArgs false
set_option linter.unusedVariables false
set_option linter.unusedSectionVars false
namespace Go.Proofs.YtnbicnmniodjpaaGreat
open Go.RowKit
set_option linter.unusedVariables false
set_option linter.unusedSectionVars false
set_option maxRecDepth 100000
theorem bits_or_u16_nat (a b : Nat) (ha : a < 65536) (hb : b < 65536) : bits .or .u16 (a : Int) (b : Int) = ((a ||| b : Nat) : Int) := by
  have hx : a ||| b < 2 ^ 16 := Nat.or_lt_two_pow (by omega) (by omega)
  have h1 : (BitVec.ofInt 16 (a : Int)).toNat = a := by
    rw [BitVec.ofInt_natCast, BitVec.toNat_ofNat]; exact Nat.mod_eq_of_lt (by omega)
  have h2 : (BitVec.ofInt 16 (b : Int)).toNat = b := by
    rw [BitVec.ofInt_natCast, BitVec.toNat_ofNat]; exact Nat.mod_eq_of_lt (by omega)
  show IntKind.u16.wrap ((BitVec.ofInt 16 (a : Int) ||| BitVec.ofInt 16 (b : Int)).toNat : Int) = _
  rw [BitVec.toNat_or, h1, h2]
  exact IntWalk.u16_in _ ⟨by omega, by omega⟩
theorem bits_or0 (a : Nat) (ha : a < 256) : bits .or .u16 0 (a : Int) = a := by
  have := bits_or_u16_nat 0 a (by omega) (by omega)
  rw [Nat.zero_or] at this
  exact this
theorem bits_or8 (a b : Nat) (ha : a < 256) (hb : b < 256) : bits .or .u16 (a : Int) ((b : Int) * 256) = ((a + 256 * b : Nat) : Int) := by
  have h := bits_or_u16_nat a (b * 256) (by omega) (by omega)
  have e : a ||| b * 256 = a + 256 * b := by
    have h2 := Nat.shiftLeft_add_eq_or_of_lt (i := 8) (b := a) (by omega) b
    rw [Nat.shiftLeft_eq, show (2 : Nat) ^ 8 = 256 from rfl, Nat.or_comm] at h2
    rw [← h2]; omega
  rw [e] at h
  rw [← h]; congr 1
theorem get_any (w : World) (s : ByteArray) (a b : Nat) (c : Nat) (l : List Nat) (hs : s.data.toList.map UInt8.toNat = a :: b :: c :: l) (ha : a < 256) (hb : b < 256) :
    Calls Tryz.prog 104 #[.string s] w (fun e w' => e = .returned (.int .u16 ((a + 256 * b : Nat) : Int)) ∧ Below w.heap.size w w') := by
  have hsz : 3 ≤ s.size := by
    have := congrArg List.length hs
    simp at this
    have e : s.data.size = s.size := rfl
    omega
  obtain ⟨s2, hs2⟩ : ∃ s2, s2 = s.extract 0 2 := ⟨_, rfl⟩
  have hz2 : s2.size = 2 := by rw [hs2, ByteArray.size_extract]; omega
  have hbr := run_bytes_of_string (P := Tryz.prog) w 9 64 5 s2 Tryz.underlying9 Tryz.underlying64 Tryz.underlying5
  go_enter Tryz.func104, Tryz.ntmps104
  have hmin : min (s.size : Int) 2 = 2 := by omega
  have q1 : ¬ (s.size : Int) ≤ 2 := by omega
  have q2 : ¬ s.size ≤ 2 := by omega
  have q3 : ¬ (s.size : Int) < 2 := by omega
  rw [hs2] at hbr hz2
  clear hs2
  rw [hz2] at hbr
  go_upto_region 3 with fail
  have hd : (s.extract 0 2).data.toList.map UInt8.toNat = [a, b] := by
    rw [ByteArray.data_extract, Array.toList_extract, List.extract_eq_take_drop, List.drop_zero, List.map_take, hs]
    rfl
  obtain ⟨x, y, hxy, hx, hy⟩ : ∃ x y, (s.extract 0 2).data = #[x, y] ∧ x.toNat = a ∧ y.toNat = b := by
    match hq : (s.extract 0 2).data.toList, hd with
    | [x, y], hd =>
      simp at hd
      exact ⟨x, y, by rw [← Array.toArray_toList (xs := (s.extract 0 2).data), hq], hd.1, hd.2⟩
  generalize hC : bytesRow (s.extract 0 2) (grownCap w 2 0 5) = C
  have k0 : C[0]? = some (.int .u8 (a : Int)) := by rw [← hC]; unfold bytesRow; rw [hxy, Array.getElem?_append]; simp [hx]
  have k1 : C[1]? = some (.int .u8 (b : Int)) := by rw [← hC]; unfold bytesRow; rw [hxy, Array.getElem?_append]; simp [hy]
  generalize grownCap w 2 0 5 = cap
  have hp : (w.alloc (.cells C 5 (C.size, C.size + 1))).drew.heap[w.heap.size]? = some (.cells C 5 (C.size, C.size + 1)) := by
    show (w.heap.push _)[w.heap.size]? = _
    simp
  have c0 : (w.alloc (.cells C 5 (C.size, C.size + 1))).drew.cell? ⟨w.heap.size, 0, none⟩ = some (.int .u8 (a : Int)) := by simp only [World.cell?, hp, k0]; rfl
  have c1 : (w.alloc (.cells C 5 (C.size, C.size + 1))).drew.cell? ⟨w.heap.size, 1, none⟩ = some (.int .u8 (b : Int)) := by simp only [World.cell?, hp, k1]; rfl
  have hbl : Below w.heap.size w (w.alloc (.cells C 5 (C.size, C.size + 1))).drew := ((Below.refl _ _).alloc (Nat.le_refl _) _).drew
  generalize (w.alloc (.cells C 5 (C.size, C.size + 1))).drew = wc at c0 c1 hbl ⊢
  have HBL := Lib.hid hbl
  have o0 := bits_or0 a ha
  have o8 := bits_or8 a b ha hb
  clear hbl k0 k1 hC hp hbr hd hxy hx hy q1 q2 q3 hmin hs hsz hz2
  go_loopw [3, 13] (fun v i wr => ∃ k : Nat, k ≤ 2 ∧ i = .int .i64 k ∧ v = .int .u16 ((if k = 0 then 0 else if k = 1 then a else a + 256 * b : Nat) : Int) ∧ wr = wc) (fun _ i _ => 2 - (intOf i).toNat)
  case atStart => exact ⟨0, by decide, rfl, rfl, rfl⟩
  case round =>
    obtain ⟨k, hk, rfl, rfl, rfl⟩ := hrel
    rcases (show k = 0 ∨ k = 1 ∨ k = 2 by omega) with rfl | rfl | rfl
    · go_wp2_with fail
      exact ⟨⟨1, by decide, rfl, by simp, trivial⟩, by decide⟩
    · go_wp2_with fail
      exact ⟨⟨2, by decide, rfl, by simp, trivial⟩, by decide⟩
    · go_wp2_with fail
      refine bodyPost_ret (by simp [results, Tryz.results104, go_sem]; try rfl) rfl ?_
      exact ⟨rfl, HBL.out⟩
end Go.Proofs.YtnbicnmniodjpaaGreat
