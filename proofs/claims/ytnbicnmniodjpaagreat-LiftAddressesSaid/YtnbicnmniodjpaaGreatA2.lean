/- What the law's symbols stand for: the new address, the offset, and what is made of them. -/
import Derived.Test.YtnbicnmniodjpaaGreatA1
import Derived.IntWalk
set_option linter.unusedSimpArgs false
set_option linter.unusedVariables false
set_option linter.unusedSectionVars false
namespace Go.Proofs.YtnbicnmniodjpaaGreat
open Go.RowKit Go.Eng
set_option linter.unusedVariables false
set_option linter.unusedSectionVars false
set_option maxRecDepth 100000
def intIs (b : Int) (m : Nat) : Bool := match b with | .ofNat x => Nat.beq x m | .negSucc _ => false
theorem intIs_eq {b : Int} {m : Nat} (h : intIs b m = true) : b = (m : Int) := by
  unfold intIs at h
  split at h
  · rw [Nat.eq_of_beq_eq_true h]; rfl
  · cases h
def valT (t o : Nat) : Nat → Int
  | 0 => t
  | 1 => (t % 8000 : Nat)
  | 2 => o
  | i + 3 => (16384 + t % 8000 + i : Nat)
def addT (i : Nat) (y : Int) : Option (Bool ⊕ (Nat ⊕ Int)) := match y with
  | .ofNat m => (match Nat.beq i 3 && Nat.ble m 100 with | true => some (.inr (.inl (3 + m))) | false => none)
  | .negSucc _ => none
def binT (n : Nat) (op : BinOp) (k : IntKind) (a b : Nat ⊕ Int) : Option (Bool ⊕ (Nat ⊕ Int)) :=
  match op, k, a, b with
  | .rem, .u16, .inl i, .inr y => (match Nat.beq i 0 && intIs y 8000 with | true => some (.inr (.inl 1)) | false => none)
  | .rem, .u8, .inl i, .inr y => (match Nat.beq i 2 && intIs y 16 with | true => some (.inr (.inr (.ofNat n))) | false => none)
  | .add, .u16, .inr y, .inl i => (match Nat.beq i 1 && intIs y 16384 with | true => some (.inr (.inl 3)) | false => none)
  | .add, .u16, .inl i, .inr y => addT i y
  | .add, .i64, .inl i, .inr y => addT i y
  | .sub, .i64, .inl i, .inr y => (match Nat.ble 4 i && Nat.ble i 103 && intIs y 1 with | true => some (.inr (.inl (i - 1))) | false => none)
  | .lss, .i64, .inl i, .inr y => (match Nat.ble 3 i && Nat.ble i 103 && intIs y 16384 with | true => some (.inl false) | false => none)
  | .gtr, .i64, .inl i, .inr y => (match Nat.ble 3 i && Nat.ble i 103 && intIs y 24575 with | true => some (.inl false) | false => none)
  | .eql, .u16, .inl i, .inl j => (match Nat.beq i j with | true => some (.inl true) | false => none)
  | _, _, _, _ => none
section
variable {P : Program} {w : World} {t : TypeId} {k : IntKind}
theorem r_rem (x y : Nat) (hy : y ≠ 0) : (binOp .rem t (.int k (x : Int)) (.int k (y : Int))).run P w = .ok (.int k ((x % y : Nat) : Int)) w := by
  have h : ¬ ((y : Int) = 0) := by omega
  simp only [binOp, Op.intDiv, ne_eq, not_true, if_false, Sem.run_pure]
  rw [if_neg h]
  rfl
theorem r_add (x y : Int) : (binOp .add t (.int k x) (.int k y)).run P w = .ok (.int k (k.wrap (x + y))) w := by
  simp only [binOp, Op.intArith, ne_eq, not_true, if_false, Sem.run_pure]
theorem r_sub (x y : Int) : (binOp .sub t (.int k x) (.int k y)).run P w = .ok (.int k (k.wrap (x - y))) w := by
  simp only [binOp, Op.intArith, ne_eq, not_true, if_false, Sem.run_pure]
theorem r_lss (x y : Int) (h : ¬ x < y) : (binOp .lss t (.int k x) (.int k y)).run P w = .ok (.bool false) w := by
  simp only [binOp, Op.intCmp, ne_eq, not_true, if_false, Sem.run_pure]
  congr 2; simpa using h
theorem r_gtr (x y : Int) (h : ¬ x > y) : (binOp .gtr t (.int k x) (.int k y)).run P w = .ok (.bool false) w := by
  simp only [binOp, Op.intCmp, ne_eq, not_true, if_false, Sem.run_pure]
  congr 2; simpa using h
theorem r_eql (x : Int) : (binOp .eql t (.int k x) (.int k x)).run P w = .ok (.bool true) w := by
  simp only [binOp, Op.intCmp, ne_eq, not_true, if_false, Sem.run_pure]
  congr 2; simp
end
theorem addT_ok {t o : Nat} {i : Nat} {y : Int} {r : Bool ⊕ (Nat ⊕ Int)} {k : IntKind} (hk : k = .u16 ∨ k = .i64) (h : addT i y = some r) (P : Program) (w : World) (ty : TypeId) :
    (binOp .add ty (.int k (valT t o i)) (.int k y)).run P w = .ok (Sum.elim Value.bool (fun i => Value.int k (Sum.elim (valT t o) id i)) r) w := by
  unfold addT at h
  split at h
  · rename_i m
    split at h <;> cases h
    rename_i hb
    rw [Bool.and_eq_true] at hb
    have h1 := Nat.eq_of_beq_eq_true hb.1
    have h2 := Nat.le_of_ble_eq_true hb.2
    subst h1
    rw [r_add]
    have e : valT t o 3 + Int.ofNat m = valT t o (3 + m) := by
      rw [show 3 + m = m + 3 by omega]
      show ((16384 + t % 8000 + 0 : Nat) : Int) + (m : Int) = ((16384 + t % 8000 + m : Nat) : Int)
      omega
    have hr : 0 ≤ valT t o (3 + m) ∧ valT t o (3 + m) < 65536 := by
      rw [show 3 + m = m + 3 by omega]
      show 0 ≤ ((16384 + t % 8000 + m : Nat) : Int) ∧ ((16384 + t % 8000 + m : Nat) : Int) < 65536
      omega
    rw [e]
    rcases hk with rfl | rfl
    · rw [IntWalk.u16_in _ ⟨hr.1, by omega⟩]; rfl
    · rw [IntWalk.i64_in _ ⟨by omega, by omega⟩]; rfl
  · cases h
theorem valT_ge {t o i : Nat} (h : 3 ≤ i) : valT t o i = ((16384 + t % 8000 + (i - 3) : Nat) : Int) := by
  obtain ⟨j, rfl⟩ : ∃ j, i = j + 3 := ⟨i - 3, by omega⟩
  rfl
theorem binT_ok (t o n : Nat) (ho : o % 16 = n) (op : BinOp) (k : IntKind) (a b : Nat ⊕ Int) (r : Bool ⊕ (Nat ⊕ Int)) (h : binT n op k a b = some r) (P : Program) (w : World) (ty : TypeId) :
    (binOp op ty (.int k (Sum.elim (valT t o) id a)) (.int k (Sum.elim (valT t o) id b))).run P w = .ok (Sum.elim Value.bool (fun i => Value.int k (Sum.elim (valT t o) id i)) r) w := by
  unfold binT at h
  split at h
  · split at h <;> cases h
    rename_i hb
    rw [Bool.and_eq_true] at hb
    have h1 := Nat.eq_of_beq_eq_true hb.1
    have h2 := intIs_eq hb.2
    subst h1 h2
    exact r_rem t 8000 (by decide)
  · split at h <;> cases h
    rename_i hb
    rw [Bool.and_eq_true] at hb
    have h1 := Nat.eq_of_beq_eq_true hb.1
    have h2 := intIs_eq hb.2
    subst h1 h2 ho
    exact r_rem o 16 (by decide)
  · split at h <;> cases h
    rename_i hb
    rw [Bool.and_eq_true] at hb
    have h1 := Nat.eq_of_beq_eq_true hb.1
    have h2 := intIs_eq hb.2
    subst h1 h2
    show (binOp .add ty (.int .u16 ((16384 : Nat) : Int)) (.int .u16 ((t % 8000 : Nat) : Int))).run P w = .ok (.int .u16 ((16384 + t % 8000 + 0 : Nat) : Int)) w
    rw [r_add, IntWalk.u16_in _ ⟨by omega, by omega⟩]
    congr 2
  · exact addT_ok (.inl rfl) h P w ty
  · exact addT_ok (.inr rfl) h P w ty
  · split at h <;> cases h
    rename_i hb
    simp only [Bool.and_eq_true, Nat.ble_eq] at hb
    have h2 := intIs_eq hb.2
    subst h2
    show (binOp .sub ty (.int .i64 (valT t o _)) (.int .i64 ((1 : Nat) : Int))).run P w = .ok (.int .i64 (valT t o _)) w
    rw [r_sub, valT_ge (by omega), valT_ge (by omega), IntWalk.i64_in _ ⟨by omega, by omega⟩]
    congr 2; omega
  · split at h <;> cases h
    rename_i hb
    simp only [Bool.and_eq_true, Nat.ble_eq] at hb
    have h2 := intIs_eq hb.2
    subst h2
    exact r_lss _ _ (by show ¬ (valT t o _ < ((16384 : Nat) : Int)); rw [valT_ge (by omega)]; omega)
  · split at h <;> cases h
    rename_i hb
    simp only [Bool.and_eq_true, Nat.ble_eq] at hb
    have h2 := intIs_eq hb.2
    subst h2
    exact r_gtr _ _ (by show ¬ (valT t o _ > ((24575 : Nat) : Int)); rw [valT_ge (by omega)]; omega)
  · split at h <;> cases h
    rename_i hb
    have h1 := Nat.eq_of_beq_eq_true hb
    subst h1
    exact r_eql _
  · cases h
def convT (k : IntKind) (i : Nat) : Option Nat :=
  match k with
  | .i64 => (match Nat.ble 3 i && Nat.ble i 103 with | true => some i | false => none)
  | .u16 => (match Nat.ble 3 i && Nat.ble i 103 with | true => some i | false => none)
  | _ => none
theorem convT_ok (t o : Nat) (k : IntKind) (i j : Nat) (h : convT k i = some j) : k.wrap (valT t o i) = valT t o j := by
  unfold convT at h
  split at h <;> (try (cases h; done))
  all_goals
    split at h <;> cases h
    rename_i hb
    simp only [Bool.and_eq_true, Nat.ble_eq] at hb
    rw [valT_ge (by omega)]
  · exact IntWalk.i64_in _ ⟨by omega, by omega⟩
  · exact IntWalk.u16_in _ ⟨by omega, by omega⟩
/-- The symbols: 0 the number for the new address, 2 the offset's number; 1 and 3.. what is made of them. -/
@[reducible] def sT (t o n : Nat) (ho : o % 16 = n) : Sym := { val := valT t o, bin := binT n, bin_ok := binT_ok t o n ho, conv := convT, conv_ok := convT_ok t o }
/-- The law, its check of itself answered. -/
noncomputable def hookTrue : Hook := ⟨fun _ args st k _ => match args with | [] => k (.bool true) st | _ => false⟩
noncomputable def hkL (f : FuncId) : Option Hook :=
  match f with
  | 4 => some hookTrue
  | f => hkF f
@[reducible] noncomputable def hk3 : Hooks := { hk := hkL, sweeps := sweepsF, merges := mergesF }
end Go.Proofs.YtnbicnmniodjpaaGreat
