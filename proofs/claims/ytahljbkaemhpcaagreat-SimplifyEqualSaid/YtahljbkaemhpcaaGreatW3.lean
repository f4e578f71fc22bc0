/- Joined texts. -/
import Derived.Test.YtahljbkaemhpcaaGreatRows
import Derived.WalkKit
import Derived.WalkSpells
import Derived.BigQuiet
import Derived.IntWalk
import Derived.Lib.Hide
namespace Go.Proofs.YtahljbkaemhpcaaGreat
open Go.RowKit
set_option linter.unusedVariables false
/-- A slice of ints that reads as a list. -/
def RInts (w : World) (sa : Option Addr) (len : Nat) (xs : List Int) : Prop := len = xs.length ∧ ∀ j z, xs[j]? = some z → ∃ g o : Nat, sa = some ⟨g, o, none⟩ ∧ w.cell? ⟨g, o + j, none⟩ = some (.int .i64 z)
def Says (b : Bool) (w : World) (e : Ending) (w' : World) : Prop := e = .returned (.bool b) ∧ ∃ k, w' = w.drewN k
theorem neq_at {α : Type} [BEq α] [LawfulBEq α] {xs ys : List α} {k : Nat} {x y : α} (hx : xs[k]? = some x) (hy : ys[k]? = some y) (h : (x != y) = true) : ¬ xs = ys := by
  rintro rfl
  rw [hx] at hy
  injection hy with e
  subst e
  simp at h
theorem take_next {α : Type} [BEq α] [LawfulBEq α] {xs ys : List α} {k : Nat} {x y : α} (h : xs.take k = ys.take k) (hx : xs[k]? = some x) (hy : ys[k]? = some y) (he : (x != y) = false) : xs.take (k + 1) = ys.take (k + 1) := by
  have e : x = y := by simpa using he
  rw [List.take_add_one, List.take_add_one, h, hx, hy, e]
theorem all_taken {α : Type} {xs ys : List α} {k : Nat} (h : xs.take k = ys.take k) (h1 : xs.length ≤ k) (h2 : ys.length ≤ k) : xs = ys := by
  rwa [List.take_of_length_le h1, List.take_of_length_le h2] at h
set_option maxHeartbeats 400000 in
theorem ints_round (w : World) (sa sb : Option Addr) (len ca cb : Nat) (hlen : len ≤ 1099511627776) (xs ys : List Int) (ha : RInts w sa len xs) (hb : RInts w sb len ys) :
    Calls Tryz.prog 21 #[.slice sa len ca, .slice sb len cb] w (Says (decide (xs = ys)) w) := by
  go_enter Tryz.func21, Tryz.ntmps21
  go_wp2
  go_loopw [5] (fun i wr => ∃ k n : Nat, i = .int .i64 k ∧ k ≤ len ∧ wr = w.drewN n ∧ xs.take k = ys.take k) (fun i _ => len - (intOf i).toNat)
  case atStart => exact ⟨0, 0, rfl, by omega, rfl, rfl⟩
  case round =>
    obtain ⟨k, n, rfl, hk, rfl, heq⟩ := hrel
    by_cases hlt : k < len
    · obtain ⟨x, hx⟩ : ∃ x, xs[k]? = some x := ⟨_, List.getElem?_eq_getElem (by have := ha.1; omega)⟩
      obtain ⟨y, hy⟩ : ∃ y, ys[k]? = some y := ⟨_, List.getElem?_eq_getElem (by have := hb.1; omega)⟩
      obtain ⟨ga, oa, rfl, hca⟩ := ha.2 k x hx
      obtain ⟨gb, ob, rfl, hcb⟩ := hb.2 k y hy
      have hlt' : (k : Int) < (len : Int) := by omega
      have hk0 : (0 : Int) ≤ (k : Int) := by omega
      have HA := Lib.hid ha; have HB := Lib.hid hb; have HX := Lib.hid hx; have HY := Lib.hid hy; have HE := Lib.hid heq
      clear ha hb hx hy heq
      go_wp2
      go_quiet (fail)
      go_wp2
      · go_ret
        have hne : (x != y) = true := by assumption
        exact ⟨by rw [decide_eq_false (neq_at HX.out HY.out hne)]; rfl, n + nq, by simp⟩
      · have hne : (x != y) = false := by assumption
        exact ⟨⟨k + 1, n + nq, by go_num, by omega, rfl, take_next HE.out HX.out HY.out hne⟩, by simp [intOf]; omega⟩
    · have hge : len ≤ k := by omega
      have hge' : (len : Int) ≤ (k : Int) := by omega
      have hd : decide (k < len) = false := by simp; omega
      have HA := Lib.hid ha; have HB := Lib.hid hb; have HE := Lib.hid heq
      clear ha hb heq
      go_wp2
      go_ret
      exact ⟨by rw [decide_eq_true (all_taken HE.out (by have := HA.out.1; omega) (by have := HB.out.1; omega))]; rfl, n, rfl⟩
set_option maxHeartbeats 400000 in
theorem ints_other (w : World) (sa sb : Option Addr) (la lb ca cb : Nat) (h : la ≠ lb) (xs ys : List Int) (ha : la = xs.length) (hb : lb = ys.length) :
    Calls Tryz.prog 21 #[.slice sa la ca, .slice sb lb cb] w (Says (decide (xs = ys)) w) := by
  have hd : ((la : Int) != (lb : Int)) = true := by simp; omega
  have hne : ¬ xs = ys := by rintro rfl; omega
  have H := Lib.hid h; have HA := Lib.hid ha; have HB := Lib.hid hb
  clear h ha hb
  go_enter Tryz.func21, Tryz.ntmps21
  go_wp2
  go_ret
  exact ⟨by rw [decide_eq_false hne]; rfl, 0, rfl⟩
theorem ints_any (w : World) (sa sb : Option Addr) (la lb ca cb : Nat) (hla : la ≤ 1099511627776) (xs ys : List Int) (ha : RInts w sa la xs) (hb : RInts w sb lb ys) :
    Calls Tryz.prog 21 #[.slice sa la ca, .slice sb lb cb] w (Says (decide (xs = ys)) w) := by
  by_cases h : la = lb
  · subst h; exact ints_round w sa sb la ca cb hla xs ys ha hb
  · exact ints_other w sa sb la lb ca cb h xs ys ha.1 hb.1
def Drawn (w w' : World) : Prop := ∃ k, w' = w.drewN k
theorem Drawn.more {w w' : World} (h : Drawn w w') (n : Nat) : Drawn w (w'.drewN n) := by
  obtain ⟨k, rfl⟩ := h; exact ⟨k + n, by simp⟩
theorem RInts.drawn {w w' : World} {sa : Option Addr} {len : Nat} {xs : List Int} (h : RInts w sa len xs) (hd : Drawn w w') : RInts w' sa len xs := by
  obtain ⟨k, rfl⟩ := hd; exact h
set_option maxHeartbeats 400000 in
theorem sameInt_any (x y : Int) (w : World) : Calls Tryz.prog 42 #[.int .i64 x, .int .i64 y] w (fun e w' => e = .returned (.bool (x == y)) ∧ w' = w) := by
  go_enter Tryz.func42, Tryz.ntmps42
  go_wp2
  go_ret
  exact ⟨rfl, rfl⟩
set_option maxHeartbeats 400000 in
theorem eqInt_round (w : World) (sa sb : Option Addr) (len ca cb : Nat) (hlen : len ≤ 1099511627776) (xs ys : List Int) (ha : RInts w sa len xs) (hb : RInts w sb len ys) :
    Calls Tryz.prog 41 #[.slice sa len ca, .slice sb len cb, .func (.func 42) #[] #[]] w (Says (decide (xs = ys)) w) := by
  go_enter Tryz.func41, Tryz.ntmps41
  go_wp2
  go_loopw [15] (fun i wr => ∃ k : Nat, i = .int .i64 k ∧ k ≤ len ∧ Drawn w wr ∧ xs.take k = ys.take k) (fun i _ => len - (intOf i).toNat)
  case atStart => exact ⟨0, rfl, by omega, ⟨0, rfl⟩, rfl⟩
  case round =>
    obtain ⟨k, rfl, hk, hdr, heq⟩ := hrel
    replace ha := ha.drawn hdr
    replace hb := hb.drawn hdr
    by_cases hlt : k < len
    · obtain ⟨x, hx⟩ : ∃ x, xs[k]? = some x := ⟨_, List.getElem?_eq_getElem (by have := ha.1; omega)⟩
      obtain ⟨y, hy⟩ : ∃ y, ys[k]? = some y := ⟨_, List.getElem?_eq_getElem (by have := hb.1; omega)⟩
      obtain ⟨ga, oa, rfl, hca⟩ := ha.2 k x hx
      obtain ⟨gb, ob, rfl, hcb⟩ := hb.2 k y hy
      have hlt' : (k : Int) < (len : Int) := by omega
      have hk0 : (0 : Int) ≤ (k : Int) := by omega
      have HA := Lib.hid ha; have HB := Lib.hid hb; have HX := Lib.hid hx; have HY := Lib.hid hy; have HE := Lib.hid heq
      clear ha hb hx hy heq
      go_wp2
      go_quiet ((go_at_call 42; exact Calls.quiet_of_same (sameInt_any _ _ _)))
      go_wp2
      · go_ret
        have hne : (!(x == y)) = true := by assumption
        exact ⟨by rw [decide_eq_false (neq_at HX.out HY.out hne)]; rfl, hdr.more nq⟩
      · have hne : (!(x == y)) = false := by assumption
        exact ⟨⟨k + 1, by go_num, by omega, hdr.more nq, take_next HE.out HX.out HY.out hne⟩, by simp [intOf]; omega⟩
    · have hge : len ≤ k := by omega
      have hge' : (len : Int) ≤ (k : Int) := by omega
      have HA := Lib.hid ha; have HB := Lib.hid hb; have HE := Lib.hid heq
      clear ha hb heq
      go_wp2
      go_ret
      exact ⟨by rw [decide_eq_true (all_taken HE.out (by have := HA.out.1; omega) (by have := HB.out.1; omega))]; rfl, hdr⟩
set_option maxHeartbeats 400000 in
theorem eqInt_other (w : World) (sa sb : Option Addr) (la lb ca cb : Nat) (h : la ≠ lb) (xs ys : List Int) (ha : la = xs.length) (hb : lb = ys.length) :
    Calls Tryz.prog 41 #[.slice sa la ca, .slice sb lb cb, .func (.func 42) #[] #[]] w (Says (decide (xs = ys)) w) := by
  have hd : ((la : Int) != (lb : Int)) = true := by simp; omega
  have hne : ¬ xs = ys := by rintro rfl; omega
  have H := Lib.hid h; have HA := Lib.hid ha; have HB := Lib.hid hb
  clear h ha hb
  go_enter Tryz.func41, Tryz.ntmps41
  go_wp2
  go_ret
  exact ⟨by rw [decide_eq_false hne]; rfl, 0, rfl⟩
theorem eqInt_any (w : World) (sa sb : Option Addr) (la lb ca cb : Nat) (hla : la ≤ 1099511627776) (xs ys : List Int) (ha : RInts w sa la xs) (hb : RInts w sb lb ys) :
    Calls Tryz.prog 41 #[.slice sa la ca, .slice sb lb cb, .func (.func 42) #[] #[]] w (Says (decide (xs = ys)) w) := by
  by_cases h : la = lb
  · subst h; exact eqInt_round w sa sb la ca cb hla xs ys ha hb
  · exact eqInt_other w sa sb la lb ca cb h xs ys ha.1 hb.1
end Go.Proofs.YtahljbkaemhpcaaGreat
namespace Go.Proofs.YtahljbkaemhpcaaGreat
open Go.RowKit
set_option linter.unusedVariables false
theorem cell_lt {w : World} {p : Addr} {v : Value} (h : w.cell? p = some v) : p.block < w.heap.size := by
  rcases Nat.lt_or_ge p.block w.heap.size with hlt | hge
  · exact hlt
  · have : w.heap[p.block]? = none := Array.getElem?_eq_none hge
    unfold World.cell? at h
    simp [this] at h
theorem bel_some {w w' : World} (h : Below w.heap.size w w') {p : Addr} {v : Value} (hc : w.cell? p = some v) : w'.cell? p = some v := (h.cell (cell_lt hc)).trans hc
theorem RInts.below {w w' : World} {sa : Option Addr} {len : Nat} {xs : List Int} (h : RInts w sa len xs) (hb : Below w.heap.size w w') : RInts w' sa len xs :=
  ⟨h.1, fun j z hj => by obtain ⟨g, o, e, hc⟩ := h.2 j z hj; exact ⟨g, o, e, bel_some hb hc⟩⟩
theorem bel_drewN {B : Nat} {a w : World} (h : Below B a w) (n : Nat) : Below B a (w.drewN n) := ⟨h.os, h.tape, h.output, h.size, h.block⟩
theorem bel_two (w : World) (o o' : Obj) : Below w.heap.size w ((w.alloc o).alloc o') := ((Below.refl _ _).alloc (Nat.le_refl _) _).alloc (by simp) _
/-- An edge of a program's graph, as data. -/
structure Edg where
  block : Int
  args : List Int
  deriving DecidableEq
def SaysB (b : Bool) (w : World) (e : Ending) (w' : World) : Prop := e = .returned (.bool b) ∧ Below w.heap.size w w'
theorem SaysB.of {b b' : Bool} {w w' w'' : World} {e : Ending} (h : Says b w' e w'') (hw : Below w.heap.size w w') (hb : b = b') : SaysB b' w e w'' := by
  obtain ⟨rfl, k, rfl⟩ := h
  exact ⟨by rw [hb], bel_drewN hw k⟩
set_option maxHeartbeats 400000 in
theorem sameEdge_any (w : World) (x y : Edg) (sa sb : Option Addr) (la lb ca cb : Nat) (hla : la ≤ 1099511627776) (ha : RInts w sa la x.args) (hb : RInts w sb lb y.args) :
    Calls Tryz.prog 46 #[.agg #[.int .i64 x.block, .slice sa la ca], .agg #[.int .i64 y.block, .slice sb lb cb]] w (SaysB (decide (x = y)) w) := by
  obtain ⟨bx, xs⟩ := x
  obtain ⟨by_, ys⟩ := y
  simp only at ha hb ⊢
  have HA := Lib.hid ha; have HB := Lib.hid hb
  clear ha hb
  by_cases h : bx = by_
  · subst h
    go_enter Tryz.func46, Tryz.ntmps46
    go_wp2_with (first | (go_at_call 41; refine (eqInt_any _ _ _ _ _ _ _ hla xs ys (HA.out.below (bel_two _ _ _)) (HB.out.below (bel_two _ _ _))).mono ?_; rintro e w' ⟨rfl, k, rfl⟩))
    go_ret
    exact ⟨by simp, bel_drewN (bel_two _ _ _) k⟩
  · have hd : (bx == by_) = false := by simpa using h
    have H := Lib.hid h; clear h
    go_enter Tryz.func46, Tryz.ntmps46
    go_wp2
    go_ret
    exact ⟨by simp [H.out], bel_two _ _ _⟩
end Go.Proofs.YtahljbkaemhpcaaGreat
