/- A verified interpreter for calls on fixed data, part 1 of 5. -/
import Derived.AtR
import Derived.Laws.World
import Derived.IntWalk
import Derived.LaidEql
import Derived.Laws.StructEq
import Derived.Laws.Pointers
import Derived.MapKept
import Derived.Laws.BytesString
import Derived.Lib.Builder
set_option linter.unusedSimpArgs false
set_option linter.unusedVariables false
set_option linter.unusedSectionVars false
/- A tree of width four over the natural numbers, its laws; the paths to a key are closed terms behind a structure's field. -/
namespace Go.Eng
set_option linter.unusedVariables false

/-- A number handed on in normal form. -/
noncomputable def natK {β : Type} (n : Nat) (k : Nat → β) : β := Nat.rec (k 0) (fun m _ => k (Nat.succ m)) n
theorem natK_eq {β : Type} (n : Nat) (k : Nat → β) : natK n k = k n := by cases n <;> rfl
noncomputable def intK {β : Type} (n : Int) (k : Int → β) : β := Int.rec (fun m => natK m fun m => k (.ofNat m)) (fun m => natK m fun m => k (.negSucc m)) n
theorem intK_eq {β : Type} (n : Int) (k : Int → β) : intK n k = k n := by
  cases n with
  | ofNat m => exact natK_eq m fun m => k (.ofNat m)
  | negSucc m => exact natK_eq m fun m => k (.negSucc m)

structure NW (β : Type) where
  a0 : β
  a1 : β
  a2 : β
  a3 : β
noncomputable def sel4 {γ : Sort _} (i : Nat) (x0 x1 x2 x3 : γ) : γ := Nat.rec (motive := fun _ => γ) x0 (fun i _ => Nat.rec (motive := fun _ => γ) x1 (fun i _ => Nat.rec (motive := fun _ => γ) x2 (fun _ _ => x3) i) i) i
namespace NW
variable {β γ : Type}
noncomputable def pj (i : Nat) (t : NW β) : β := sel4 i t.a0 t.a1 t.a2 t.a3
noncomputable def up (i : Nat) (t : NW β) (x : β) : NW β := sel4 i ⟨x, t.a1, t.a2, t.a3⟩ ⟨t.a0, x, t.a2, t.a3⟩ ⟨t.a0, t.a1, x, t.a3⟩ ⟨t.a0, t.a1, t.a2, x⟩
theorem pj_up {i j : Nat} (hi : i < 4) (hj : j < 4) (t : NW β) (x : β) : pj j (up i t x) = if i = j then x else pj j t := by
  match i, j, hi, hj with
  | 0, 0, _, _ | 0, 1, _, _ | 0, 2, _, _ | 0, 3, _, _ | 1, 0, _, _ | 1, 1, _, _ | 1, 2, _, _ | 1, 3, _, _ | 2, 0, _, _ | 2, 1, _, _ | 2, 2, _, _ | 2, 3, _, _ | 3, 0, _, _ | 3, 1, _, _ | 3, 2, _, _ | 3, 3, _, _ => rfl
end NW
theorem sel4_cases {γ : Type} (p : γ → Prop) (i : Nat) {x0 x1 x2 x3 : γ} (h0 : i = 0 → p x0) (h1 : i = 1 → p x1) (h2 : i = 2 → p x2) (h3 : 3 ≤ i → p x3) : p (sel4 i x0 x1 x2 x3) := by
  match i with
  | 0 => exact h0 rfl
  | 1 => exact h1 rfl
  | 2 => exact h2 rfl
  | n + 3 => exact h3 (by omega)

/-- A tree of a depth: sixteen slots at depth 0, four trees at each further one. -/
noncomputable def TT (α : Type) (d : Nat) : Type := Nat.rec (motive := fun _ => Type) (NW (NW (Option α))) (fun _ t => NW t) d
def toN {α : Type} {d : Nat} (t : TT α (d + 1)) : NW (TT α d) := t
def ofN {α : Type} {d : Nat} (t : NW (TT α d)) : TT α (d + 1) := t
def toZ {α : Type} (t : TT α 0) : NW (NW (Option α)) := t
def ofZ {α : Type} (t : NW (NW (Option α))) : TT α 0 := t
theorem toN_ofN {α : Type} {d : Nat} (t : NW (TT α d)) : toN (ofN t) = t := rfl
theorem toZ_ofZ {α : Type} (t : NW (NW (Option α))) : toZ (ofZ t) = t := rfl
noncomputable def pp {β : Type} (i : Nat) (t : NW (NW β)) : β := (t.pj (i / 4)).pj (i % 4)
noncomputable def uu {β : Type} (i : Nat) (t : NW (NW β)) (x : β) : NW (NW β) := t.up (i / 4) ((t.pj (i / 4)).up (i % 4) x)
theorem pp_uu {β : Type} {i j : Nat} (hi : i < 16) (hj : j < 16) (t : NW (NW β)) (x : β) : pp j (uu i t x) = if i = j then x else pp j t := by
  unfold pp uu
  rw [NW.pj_up (by omega) (by omega)]
  by_cases h : i / 4 = j / 4
  · rw [if_pos h, NW.pj_up (by omega) (by omega)]
    by_cases h2 : i % 4 = j % 4
    · rw [if_pos h2, if_pos (by omega)]
    · rw [if_neg h2, if_neg (by omega), h]
  · rw [if_neg h, if_neg (by omega)]
structure RdF (α : Type) (d : Nat) where
  run : TT α d → Option α
noncomputable def rdG (α : Type) (d : Nat) : Nat → RdF α d :=
  Nat.rec (motive := fun d => Nat → RdF α d) (fun n => sel4 (Nat.div n 4) (sel4 (Nat.mod n 4) ⟨fun (t : NW (NW (Option α))) => t.a0.a0⟩ ⟨fun (t : NW (NW (Option α))) => t.a0.a1⟩ ⟨fun (t : NW (NW (Option α))) => t.a0.a2⟩ ⟨fun (t : NW (NW (Option α))) => t.a0.a3⟩)
      (sel4 (Nat.mod n 4) ⟨fun (t : NW (NW (Option α))) => t.a1.a0⟩ ⟨fun (t : NW (NW (Option α))) => t.a1.a1⟩ ⟨fun (t : NW (NW (Option α))) => t.a1.a2⟩ ⟨fun (t : NW (NW (Option α))) => t.a1.a3⟩)
      (sel4 (Nat.mod n 4) ⟨fun (t : NW (NW (Option α))) => t.a2.a0⟩ ⟨fun (t : NW (NW (Option α))) => t.a2.a1⟩ ⟨fun (t : NW (NW (Option α))) => t.a2.a2⟩ ⟨fun (t : NW (NW (Option α))) => t.a2.a3⟩)
      (sel4 (Nat.mod n 4) ⟨fun (t : NW (NW (Option α))) => t.a3.a0⟩ ⟨fun (t : NW (NW (Option α))) => t.a3.a1⟩ ⟨fun (t : NW (NW (Option α))) => t.a3.a2⟩ ⟨fun (t : NW (NW (Option α))) => t.a3.a3⟩))
    (fun d ih n => sel4 (Nat.div n (Nat.mul 16 (Nat.pow 4 d))) ⟨fun (t : NW (TT α d)) => (ih (Nat.mod n (Nat.mul 16 (Nat.pow 4 d)))).run t.a0⟩ ⟨fun (t : NW (TT α d)) => (ih (Nat.mod n (Nat.mul 16 (Nat.pow 4 d)))).run t.a1⟩ ⟨fun (t : NW (TT α d)) => (ih (Nat.mod n (Nat.mul 16 (Nat.pow 4 d)))).run t.a2⟩ ⟨fun (t : NW (TT α d)) => (ih (Nat.mod n (Nat.mul 16 (Nat.pow 4 d)))).run t.a3⟩) d
noncomputable def rdF (α : Type) (d n : Nat) : RdF α d := Bool.rec (motive := fun _ => RdF α d) ⟨fun _ => none⟩ (rdG α d n) (Nat.blt n (Nat.mul 16 (Nat.pow 4 d)))
structure WrF (α β : Type) (d : Nat) where
  run : TT α d → α → (TT α d → β) → β
noncomputable def wrF (α β : Type) (d : Nat) : Nat → WrF α β d :=
  Nat.rec (motive := fun d => Nat → WrF α β d) (fun n => sel4 (Nat.div n 4) (sel4 (Nat.mod n 4)
      ⟨fun (t : NW (NW (Option α))) v k => NW.rec (motive := fun _ => β) (fun a b c e => NW.rec (motive := fun _ => β) (fun a' b' c' e' => k (NW.mk (NW.mk (some v) b' c' e') b c e)) a) t⟩
      ⟨fun (t : NW (NW (Option α))) v k => NW.rec (motive := fun _ => β) (fun a b c e => NW.rec (motive := fun _ => β) (fun a' b' c' e' => k (NW.mk (NW.mk a' (some v) c' e') b c e)) a) t⟩
      ⟨fun (t : NW (NW (Option α))) v k => NW.rec (motive := fun _ => β) (fun a b c e => NW.rec (motive := fun _ => β) (fun a' b' c' e' => k (NW.mk (NW.mk a' b' (some v) e') b c e)) a) t⟩
      ⟨fun (t : NW (NW (Option α))) v k => NW.rec (motive := fun _ => β) (fun a b c e => NW.rec (motive := fun _ => β) (fun a' b' c' e' => k (NW.mk (NW.mk a' b' c' (some v)) b c e)) a) t⟩)
      (sel4 (Nat.mod n 4)
      ⟨fun (t : NW (NW (Option α))) v k => NW.rec (motive := fun _ => β) (fun a b c e => NW.rec (motive := fun _ => β) (fun a' b' c' e' => k (NW.mk a (NW.mk (some v) b' c' e') c e)) b) t⟩
      ⟨fun (t : NW (NW (Option α))) v k => NW.rec (motive := fun _ => β) (fun a b c e => NW.rec (motive := fun _ => β) (fun a' b' c' e' => k (NW.mk a (NW.mk a' (some v) c' e') c e)) b) t⟩
      ⟨fun (t : NW (NW (Option α))) v k => NW.rec (motive := fun _ => β) (fun a b c e => NW.rec (motive := fun _ => β) (fun a' b' c' e' => k (NW.mk a (NW.mk a' b' (some v) e') c e)) b) t⟩
      ⟨fun (t : NW (NW (Option α))) v k => NW.rec (motive := fun _ => β) (fun a b c e => NW.rec (motive := fun _ => β) (fun a' b' c' e' => k (NW.mk a (NW.mk a' b' c' (some v)) c e)) b) t⟩)
      (sel4 (Nat.mod n 4)
      ⟨fun (t : NW (NW (Option α))) v k => NW.rec (motive := fun _ => β) (fun a b c e => NW.rec (motive := fun _ => β) (fun a' b' c' e' => k (NW.mk a b (NW.mk (some v) b' c' e') e)) c) t⟩
      ⟨fun (t : NW (NW (Option α))) v k => NW.rec (motive := fun _ => β) (fun a b c e => NW.rec (motive := fun _ => β) (fun a' b' c' e' => k (NW.mk a b (NW.mk a' (some v) c' e') e)) c) t⟩
      ⟨fun (t : NW (NW (Option α))) v k => NW.rec (motive := fun _ => β) (fun a b c e => NW.rec (motive := fun _ => β) (fun a' b' c' e' => k (NW.mk a b (NW.mk a' b' (some v) e') e)) c) t⟩
      ⟨fun (t : NW (NW (Option α))) v k => NW.rec (motive := fun _ => β) (fun a b c e => NW.rec (motive := fun _ => β) (fun a' b' c' e' => k (NW.mk a b (NW.mk a' b' c' (some v)) e)) c) t⟩)
      (sel4 (Nat.mod n 4)
      ⟨fun (t : NW (NW (Option α))) v k => NW.rec (motive := fun _ => β) (fun a b c e => NW.rec (motive := fun _ => β) (fun a' b' c' e' => k (NW.mk a b c (NW.mk (some v) b' c' e'))) e) t⟩
      ⟨fun (t : NW (NW (Option α))) v k => NW.rec (motive := fun _ => β) (fun a b c e => NW.rec (motive := fun _ => β) (fun a' b' c' e' => k (NW.mk a b c (NW.mk a' (some v) c' e'))) e) t⟩
      ⟨fun (t : NW (NW (Option α))) v k => NW.rec (motive := fun _ => β) (fun a b c e => NW.rec (motive := fun _ => β) (fun a' b' c' e' => k (NW.mk a b c (NW.mk a' b' (some v) e'))) e) t⟩
      ⟨fun (t : NW (NW (Option α))) v k => NW.rec (motive := fun _ => β) (fun a b c e => NW.rec (motive := fun _ => β) (fun a' b' c' e' => k (NW.mk a b c (NW.mk a' b' c' (some v)))) e) t⟩))
    (fun d ih n => sel4 (Nat.div n (Nat.mul 16 (Nat.pow 4 d)))
      ⟨fun (t : NW (TT α d)) v k => NW.rec (motive := fun _ => β) (fun a b c e => (ih (Nat.mod n (Nat.mul 16 (Nat.pow 4 d)))).run a v fun x => k (NW.mk x b c e)) t⟩
      ⟨fun (t : NW (TT α d)) v k => NW.rec (motive := fun _ => β) (fun a b c e => (ih (Nat.mod n (Nat.mul 16 (Nat.pow 4 d)))).run b v fun x => k (NW.mk a x c e)) t⟩
      ⟨fun (t : NW (TT α d)) v k => NW.rec (motive := fun _ => β) (fun a b c e => (ih (Nat.mod n (Nat.mul 16 (Nat.pow 4 d)))).run c v fun x => k (NW.mk a b x e)) t⟩
      ⟨fun (t : NW (TT α d)) v k => NW.rec (motive := fun _ => β) (fun a b c e => (ih (Nat.mod n (Nat.mul 16 (Nat.pow 4 d)))).run e v fun x => k (NW.mk a b c x)) t⟩) d
noncomputable def rd {α : Type} (d n : Nat) (t : TT α d) : Option α := (rdG α d n).run t
noncomputable def wr {α : Type} (d : Nat) : Nat → TT α d → α → TT α d :=
  Nat.rec (motive := fun d => Nat → TT α d → α → TT α d) (fun n t v => ofZ (uu n (toZ t) (some v))) (fun d ih n t v => ofN (NW.up (n / (16 * 4 ^ d)) (toN t) (ih (n % (16 * 4 ^ d)) ((toN t).pj (n / (16 * 4 ^ d))) v))) d
theorem rd_zero {α : Type} (n : Nat) (t : TT α 0) : rd 0 n t = pp n (toZ t) := by
  show (RdF.run (d := 0) (sel4 (n / 4) (sel4 (n % 4) _ _ _ _) (sel4 (n % 4) _ _ _ _) (sel4 (n % 4) _ _ _ _) (sel4 (n % 4) _ _ _ _)) t : Option α) = sel4 (n % 4) _ _ _ _
  simp only [toZ, NW.pj]
  generalize n / 4 = q
  generalize n % 4 = r
  match q, r with
  | 0, 0 | 0, 1 | 0, 2 | 0, r + 3 | 1, 0 | 1, 1 | 1, 2 | 1, r + 3 | 2, 0 | 2, 1 | 2, 2 | 2, r + 3 | q + 3, 0 | q + 3, 1 | q + 3, 2 | q + 3, r + 3 => rfl
theorem rd_succ {α : Type} (d n : Nat) (t : TT α (d + 1)) : rd (d + 1) n t = rd d (n % (16 * 4 ^ d)) ((toN t).pj (n / (16 * 4 ^ d))) := by
  show (RdF.run (d := d + 1) (sel4 (n / (16 * 4 ^ d)) _ _ _ _) t : Option α) = rd d (n % (16 * 4 ^ d)) (sel4 (n / (16 * 4 ^ d)) _ _ _ _)
  simp only [toN]
  generalize n / (16 * 4 ^ d) = q
  match q with
  | 0 | 1 | 2 | q + 3 => rfl
theorem wr_zero {α : Type} (n : Nat) (t : TT α 0) (v : α) : wr 0 n t v = ofZ (uu n (toZ t) (some v)) := rfl
theorem wr_succ {α : Type} (d n : Nat) (t : TT α (d + 1)) (v : α) : wr (d + 1) n t v = ofN (NW.up (n / (16 * 4 ^ d)) (toN t) (wr d (n % (16 * 4 ^ d)) ((toN t).pj (n / (16 * 4 ^ d))) v)) := rfl
theorem wrF_eq {α β : Type} (d n : Nat) (t : TT α d) (v : α) (k : TT α d → β) : (wrF α β d n).run t v k = k (wr d n t v) := by
  induction d generalizing n with
  | zero =>
    rw [wr_zero]
    show (WrF.run (d := 0) (sel4 (n / 4) (sel4 (n % 4) _ _ _ _) (sel4 (n % 4) _ _ _ _) (sel4 (n % 4) _ _ _ _) (sel4 (n % 4) _ _ _ _)) t v k : β) = _
    simp only [uu, toZ, NW.pj, NW.up]
    generalize n / 4 = q
    generalize n % 4 = r
    match q, r with
    | 0, 0 | 0, 1 | 0, 2 | 0, r + 3 | 1, 0 | 1, 1 | 1, 2 | 1, r + 3 | 2, 0 | 2, 1 | 2, 2 | 2, r + 3 | q + 3, 0 | q + 3, 1 | q + 3, 2 | q + 3, r + 3 => rfl
  | succ d ih =>
    rw [wr_succ]
    show (WrF.run (d := d + 1) (sel4 (n / (16 * 4 ^ d)) _ _ _ _) t v k : β) = _
    simp only [toN, NW.pj, NW.up]
    generalize n / (16 * 4 ^ d) = q
    match q with
    | 0 | 1 | 2 | q + 3 => exact ih _ _ _
theorem rd_wr {α : Type} (d n m : Nat) (hn : n < 16 * 4 ^ d) (hm : m < 16 * 4 ^ d) (t : TT α d) (v : α) : rd d m (wr d n t v) = if n = m then some v else rd d m t := by
  induction d generalizing n m with
  | zero => rw [wr_zero, rd_zero, rd_zero, toZ_ofZ, pp_uu (by simpa using hn) (by simpa using hm)]
  | succ d ih =>
    have hp : 0 < 16 * 4 ^ d := Nat.mul_pos (by omega) (Nat.pow_pos (by omega))
    have e1 := Nat.div_add_mod n (16 * 4 ^ d)
    have e2 := Nat.div_add_mod m (16 * 4 ^ d)
    have hn' : n / (16 * 4 ^ d) < 4 := Nat.div_lt_of_lt_mul (by rw [Nat.pow_succ] at hn; omega)
    have hm' : m / (16 * 4 ^ d) < 4 := Nat.div_lt_of_lt_mul (by rw [Nat.pow_succ] at hm; omega)
    rw [wr_succ, rd_succ, toN_ofN, NW.pj_up hn' hm', rd_succ d m t]
    by_cases h : n / (16 * 4 ^ d) = m / (16 * 4 ^ d)
    · rw [if_pos h, ih _ _ (Nat.mod_lt _ hp) (Nat.mod_lt _ hp)]
      by_cases h2 : n % (16 * 4 ^ d) = m % (16 * 4 ^ d)
      · rw [if_pos h2, if_pos (by rw [← e1, ← e2, h, h2])]
      · rw [if_neg h2, if_neg (fun e => h2 (by rw [e])), h]
    · rw [if_neg h, if_neg (fun e => h (by rw [e]))]
def four {β : Type} (t : β) : NW β := ⟨t, t, t, t⟩
theorem pj_same {β : Type} (i : Nat) (t : β) : NW.pj i (four t) = t := by
  match i with
  | 0 | 1 | 2 | q + 3 => rfl
theorem pp_same {β : Type} (i : Nat) (t : β) : pp i (four (four t)) = t := by unfold pp; rw [pj_same, pj_same]
noncomputable def emp (α : Type) (d : Nat) : TT α d := Nat.rec (motive := fun d => TT α d) (ofZ (four (four none))) (fun d t => ofN (four t)) d
noncomputable def fillT {α : Type} (a : α) (d : Nat) : TT α d := Nat.rec (motive := fun d => TT α d) (ofZ (four (four (some a)))) (fun d t => ofN (four t)) d
theorem rd_emp (α : Type) (d n : Nat) : rd d n (emp α d) = none := by
  induction d generalizing n with
  | zero => rw [rd_zero]; exact pp_same _ _
  | succ d ih =>
    show rd (d + 1) n (ofN (four (emp α d))) = _
    rw [rd_succ, toN_ofN, pj_same, ih]
theorem rd_fillT {α : Type} (a : α) (d n : Nat) : rd d n (fillT a d) = some a := by
  induction d generalizing n with
  | zero => rw [rd_zero]; exact pp_same _ _
  | succ d ih =>
    show rd (d + 1) n (ofN (four (fillT a d))) = _
    rw [rd_succ, toN_ofN, pj_same, ih]

structure Tr (α : Type) where
  d : Nat
  t : TT α d
namespace Tr
variable {α β : Type}
noncomputable def lf : Tr α := ⟨0, ofZ (NW.mk (NW.mk none none none none) (NW.mk none none none none) (NW.mk none none none none) (NW.mk none none none none))⟩
noncomputable def get (t : Tr α) (n : Nat) : Option α := Tr.rec (motive := fun _ => Option α) (fun d t => (rdF α d n).run t) t
noncomputable def getK (t : Tr α) (n : Nat) (b : β) (k : α → β) : β := Tr.rec (motive := fun _ => β) (fun d t => Option.rec (motive := fun _ => β) b k ((rdF α d n).run t)) t
theorem getK_eq (t : Tr α) (n : Nat) (b : β) (k : α → β) : t.getK n b k = match t.get n with | some v => k v | none => b := by
  obtain ⟨d, t⟩ := t
  show Option.rec (motive := fun _ => β) b k ((rdF α d n).run t) = match (rdF α d n).run t with | some v => k v | none => b
  cases (rdF α d n).run t <;> rfl
structure StF (α β : Type) (d : Nat) where
  run : TT α d → α → (Tr α → β) → β
noncomputable def stF (α β : Type) (n : Nat) (fuel : Nat) : (d : Nat) → StF α β d :=
  Nat.rec (motive := fun _ => (d : Nat) → StF α β d) (fun d => ⟨fun t v k => k ⟨d, t⟩⟩)
    (fun _ ih d => Bool.rec (motive := fun _ => StF α β d) ⟨fun t v k => (ih (Nat.succ d)).run (NW.mk t (emp α d) (emp α d) (emp α d) : NW (TT α d)) v k⟩
      ⟨fun t v k => (wrF α β d n).run t v fun t => k ⟨d, t⟩⟩ (Nat.blt n (Nat.mul 16 (Nat.pow 4 d)))) fuel
noncomputable def setK (t : Tr α) (n : Nat) (v : α) (k : Tr α → β) : β := Tr.rec (motive := fun _ => β) (fun d t => (stF α β n (n + 1) d).run t v k) t
noncomputable def set (t : Tr α) (n : Nat) (v : α) : Tr α := t.setK n v id
theorem stF_eq (n fuel d : Nat) (t : TT α d) (v : α) (k : Tr α → β) : (stF α β n fuel d).run t v k = k ((stF α (Tr α) n fuel d).run t v id) := by
  induction fuel generalizing d with
  | zero => rfl
  | succ f ih =>
    show StF.run (Bool.rec (motive := fun _ => StF α β d) _ _ (Nat.blt n (16 * 4 ^ d))) t v k = k (StF.run (Bool.rec (motive := fun _ => StF α (Tr α) d) _ _ (Nat.blt n (16 * 4 ^ d))) t v id)
    cases Nat.blt n (16 * 4 ^ d) with
    | false => exact ih (d + 1) _
    | true =>
      show WrF.run _ t v _ = k (WrF.run _ t v _)
      rw [wrF_eq, wrF_eq]; rfl
theorem setK_eq (t : Tr α) (n : Nat) (v : α) (k : Tr α → β) : t.setK n v k = k (t.set n v) := stF_eq n (n + 1) t.d t.t v k
theorem get_mk (d : Nat) (t : TT α d) (n : Nat) : (Tr.mk d t).get n = if n < 16 * 4 ^ d then rd d n t else none := by
  show (RdF.run (Bool.rec (motive := fun _ => RdF α d) _ _ (Nat.blt n (16 * 4 ^ d))) t) = _
  by_cases h : n < 16 * 4 ^ d
  · rw [if_pos h, show Nat.blt n (16 * 4 ^ d) = true from by simpa [Nat.blt_eq] using h]; rfl
  · have : Nat.blt n (16 * 4 ^ d) = false := by
      cases hb : Nat.blt n (16 * 4 ^ d) with
      | false => rfl
      | true => exact absurd (by simpa [Nat.blt_eq] using hb) h
    rw [if_neg h, this]
theorem get_grow (d : Nat) (t : TT α d) (m : Nat) : (Tr.mk (d + 1) (ofN (NW.mk t (emp α d) (emp α d) (emp α d)))).get m = (Tr.mk d t).get m := by
  rw [get_mk, get_mk]
  have hp : 0 < 16 * 4 ^ d := Nat.mul_pos (by omega) (Nat.pow_pos (by omega))
  by_cases h : m < 16 * 4 ^ d
  · rw [if_pos h, if_pos (by rw [Nat.pow_succ]; omega), rd_succ, toN_ofN, Nat.mod_eq_of_lt h, Nat.div_eq_of_lt h]; rfl
  · rw [if_neg h]
    split
    · rename_i h4
      rw [rd_succ, toN_ofN]
      have hq : m / (16 * 4 ^ d) < 4 := Nat.div_lt_of_lt_mul (by rw [Nat.pow_succ] at h4; omega)
      have hq' : 0 < m / (16 * 4 ^ d) := Nat.div_pos (by omega) hp
      have hall : ∀ q : Nat, q < 4 → 0 < q → NW.pj q (NW.mk t (emp α d) (emp α d) (emp α d)) = emp α d := by
        intro q h1 h2
        have : q = 1 ∨ q = 2 ∨ q = 3 := by omega
        rcases this with h | h | h <;> subst h <;> rfl
      rw [hall _ hq hq']
      exact rd_emp _ _ _
    · rfl
theorem get_st (n fuel : Nat) : ∀ (d : Nat) (t : TT α d) (v : α) (m : Nat), n < 16 * 4 ^ (d + fuel - 1) → 0 < fuel → ((stF α (Tr α) n fuel d).run t v id).get m = if n = m then some v else (Tr.mk d t).get m := by
  induction fuel with
  | zero => intro d t v m _ h; omega
  | succ f ih =>
    intro d t v m h _
    show Tr.get (StF.run (Bool.rec (motive := fun _ => StF α (Tr α) d) _ _ (Nat.blt n (16 * 4 ^ d))) t v id) m = _
    by_cases hb : n < 16 * 4 ^ d
    · rw [show Nat.blt n (16 * 4 ^ d) = true from by simpa [Nat.blt_eq] using hb]
      show Tr.get (WrF.run (wrF α (Tr α) d n) t v _) m = _
      rw [wrF_eq]
      show Tr.get (Tr.mk d (wr d n t v)) m = _
      rw [get_mk, get_mk]
      by_cases hm : m < 16 * 4 ^ d
      · rw [if_pos hm, if_pos hm, rd_wr _ _ _ hb hm]
      · rw [if_neg hm, if_neg hm, if_neg (by omega)]
    · have : Nat.blt n (16 * 4 ^ d) = false := by
        cases hb' : Nat.blt n (16 * 4 ^ d) with
        | false => rfl
        | true => exact absurd (by simpa [Nat.blt_eq] using hb') hb
      rw [this]
      show Tr.get (StF.run (stF α (Tr α) n f (d + 1)) (ofN (NW.mk t (emp α d) (emp α d) (emp α d))) v id) m = _
      cases f with
      | zero => exact absurd h hb
      | succ f =>
        rw [ih (d + 1) _ v m (by rw [show d + 1 + (f + 1) - 1 = d + (f + 1 + 1) - 1 from by omega]; exact h) (by omega), get_grow]
theorem get_lf (n : Nat) : (lf : Tr α).get n = none := by
  show (Tr.mk 0 (emp α 0)).get n = none
  rw [get_mk]; split
  · exact rd_emp _ _ _
  · rfl
theorem lt_pow16 (n : Nat) : n < 16 * 4 ^ n := Nat.lt_of_lt_of_le (Nat.lt_pow_self (a := 4) (by omega)) (Nat.le_mul_of_pos_left _ (by omega))
theorem get_set (t : Tr α) (n m : Nat) (a : α) : (t.set n a).get m = if n = m then some a else t.get m := by
  obtain ⟨d, t⟩ := t
  have h1 : n < 16 * 4 ^ (d + n) := Nat.lt_of_lt_of_le (lt_pow16 n) (Nat.mul_le_mul_left _ (Nat.pow_le_pow_right (by omega) (by omega)))
  exact get_st n (n + 1) d t a m h1 (by omega)
theorem get_set_same (t : Tr α) (n : Nat) (a : α) : (t.set n a).get n = some a := by rw [get_set, if_pos rfl]
theorem get_set_ne (t : Tr α) {n m : Nat} (a : α) (h : n ≠ m) : (t.set n a).get m = t.get m := by rw [get_set, if_neg h]
/-- A full tree: every key that it has has one and the same content. -/
noncomputable def full (a : α) (d : Nat) (k : Tr α → β) : β := natK (Nat.div d 2) fun d => k ⟨d, fillT a d⟩
noncomputable def fullT (a : α) (d : Nat) : Tr α := ⟨Nat.div d 2, fillT a (Nat.div d 2)⟩
theorem full_eq (a : α) (d : Nat) (k : Tr α → β) : full a d k = k (fullT a d) := natK_eq _ _
theorem get_fullT {a : α} {d n : Nat} {b : α} (h : (fullT a d).get n = some b) : b = a := by
  unfold fullT at h
  rw [get_mk] at h
  split at h
  · rw [rd_fillT] at h; exact (Option.some.inj h).symm
  · cases h
end Tr
end Go.Eng
/- The abstract values, the abstract heap, and what the operations that change nothing compute from them. -/
namespace Go.Eng
set_option linter.unusedVariables false

/-- What the symbols stand for, and what operations on them come to. -/
class Sym where
  val : Nat → Int
  bin : BinOp → IntKind → Nat ⊕ Int → Nat ⊕ Int → Option (Bool ⊕ (Nat ⊕ Int)) := fun _ _ _ _ => none
  bin_ok : ∀ op k a b r, bin op k a b = some r → ∀ (P : Program) (w : World) (t : TypeId), (binOp op t (.int k (Sum.elim val id a)) (.int k (Sum.elim val id b))).run P w = .ok (Sum.elim Value.bool (fun i => Value.int k (Sum.elim val id i)) r) w := by intro _ _ _ _ _ h; cases h
  conv : IntKind → Nat → Option Nat := fun _ _ => none
  conv_ok : ∀ k i j, conv k i = some j → k.wrap (val i) = val j := by intro _ _ _ h; cases h
/-- A value whose addresses are numbers of abstract blocks; a slice's capacity is a lower bound of the real one, exact where the mark says so. -/
inductive AV where
  | bool (b : Bool)
  | int (k : IntKind) (n : Int)
  | sym (k : IntKind) (i : Nat)
  | str (s : List Nat)
  | nilp
  | ptr (id ep off : Nat)
  | nils
  | slice (id ep off len cap : Nat) (ex : Bool) (esz : Nat)
  | nilm
  | map (id : Nat)
  | fn (f : FuncId) (first captured : List AV)
  | yield (id : Nat)
  | nilf
  | iface (t : TypeId) (v : AV)
  | nili
  | agg (l : List AV)
  | tup (l : List AV)

structure ACell where
  v : AV
  tag : Nat
structure AEnt where
  key : AV
  val : AV
  born : Nat
/-- An abstract block. 'cells': the type of the elements, the cells with the epoch since which each is known, how many there are (for the latest epoch), the latest epoch, and whether a string has been turned into it. -/
inductive Rec where
  | cells (elem : TypeId) (c : Tr ACell) (top lat : Nat) (sh : Bool)
  | map (es : List AEnt) (clock : Nat)
  | miter (m : Option Nat) (since : Nat) (seen : List Nat) (stepped : Nat)
  | siter (s : List Nat) (pos : Nat)
  | loop (state : LoopState) (pending : Option Code) (fn : FuncId) (env : Tr AV) (n : Nat) (params : List Tmp) (assign body : Code) (defers : Nat)
  | deferred (open_ : Bool)
  | bag (es : List AEnt)
  | dead
/-- 'lim': the blocks below it are read alone. -/
structure St where
  heap : Tr Rec
  next : Nat
  lim : Nat

abbrev Env := Tr AV

/-- A constant's abstract value. -/
def ofV : Nat → Value → Option AV
  | 0, _ => none
  | d + 1, v =>
    match v with
    | .bool b => some (.bool b)
    | .int k n => some (.int k n)
    | .string s => some (.str (s.data.toList.map UInt8.toNat))
    | .pointer none => some .nilp
    | .slice none 0 0 => some .nils
    | .map none => some .nilm
    | .nilFunc => some .nilf
    | .nilIface => some .nili
    | .iface t v => (ofV d v).map (.iface t)
    | .agg cs => (cs.toList.mapM (ofV d)).map .agg
    | .tuple cs => (cs.toList.mapM (ofV d)).map .tup
    | _ => none
def cdepth : Nat := 8

section
variable {β : Type}
/-- An operand's abstract value. -/
noncomputable def evK (e : Env) (o : Operand) (d : β) (k : AV → β) : β :=
  match o with
  | .tmp t => match e.get t with
    | some v => k v
    | none => d
  | .const v => match ofV cdepth v with
    | some v => k v
    | none => d
  | .global _ => d
  | .func f => k (.fn f [] [])
noncomputable def ev (e : Env) (o : Operand) : Option AV := evK e o none some
theorem evK_eq (e : Env) (o : Operand) (d : β) (k : AV → β) : evK e o d k = match ev e o with | some v => k v | none => d := by
  unfold ev evK
  cases o with
  | tmp t => simp only []; cases e.get t <;> rfl
  | const v => simp only []; cases ofV cdepth v <;> rfl
  | global g => rfl
  | func f => rfl
noncomputable def evsK (e : Env) : List Operand → β → (List AV → β) → β
  | [], _, k => k []
  | o :: os, d, k => evK e o d fun v => evsK e os d fun vs => k (v :: vs)
noncomputable def evs (e : Env) (os : List Operand) : Option (List AV) := evsK e os none some
theorem evsK_eq (e : Env) (os : List Operand) (d : β) (k : List AV → β) : evsK e os d k = match evs e os with | some v => k v | none => d := by
  unfold evs
  induction os generalizing β d k with
  | nil => rfl
  | cons o os ih =>
    simp only [evsK]
    rw [evK_eq, evK_eq]
    cases ev e o with
    | none => rfl
    | some v =>
      simp only []
      rw [ih, ih (k := fun vs => some (v :: vs))]
      cases evsK e os none some <;> rfl
theorem evs_cons (e : Env) (o : Operand) (os : List Operand) : evs e (o :: os) = match ev e o, evs e os with | some v, some vs => some (v :: vs) | _, _ => none := by
  show evsK e (o :: os) none some = _
  simp only [evsK]
  rw [evK_eq]
  cases ev e o with
  | none => rfl
  | some v => simp only []; rw [evsK_eq]; cases evs e os <;> rfl
end

/-! Types -/
def isAggB (P : Program) (t : TypeId) : Option Bool :=
  match P.underlying t with
  | some (.struct _) | some (.array _ _) => some true
  | some _ => some false
  | none => none
def szOf (P : Program) (t : TypeId) : Option Nat := (P.info? t).map (·.size)
def bytesOf (P : Program) (t : TypeId) : Option Nat := (P.info? t).map (·.bytes)
/-- The zero value of a type, as cells. -/
def zeroA (P : Program) (t : TypeId) : Option AV := ((P.info? t).bind (·.zero)).bind (ofV cdepth)
def AV.cells : AV → List AV
  | .agg l => l
  | v => [v]
def AV.one : AV → Bool
  | .agg _ | .tup _ => false
  | _ => true

section
variable {β : Type}
/-! Memory -/
noncomputable def cellK (st : St) (id ep off : Nat) (d : β) (k : AV → β) : β :=
  match st.heap.get id with
  | some (.cells _ c top _ _) =>
    match Nat.blt off top with
    | true => match c.get off with
      | some ⟨v, tag⟩ => match Nat.ble tag ep with
        | true => k v
        | false => d
      | none => d
    | false => d
  | _ => d
noncomputable def cell (st : St) (id ep off : Nat) : Option AV := cellK st id ep off none some
theorem cellK_eq (st : St) (id ep off : Nat) (d : β) (k : AV → β) : cellK st id ep off d k = match cell st id ep off with | some v => k v | none => d := by
  unfold cell cellK
  cases st.heap.get id with
  | none => rfl
  | some r =>
    cases r <;> first | rfl | skip
    rename_i c top _ _
    simp only []
    cases Nat.blt off top with
    | false => rfl
    | true =>
      simp only []
      cases c.get off with
      | none => rfl
      | some x => obtain ⟨v, tag⟩ := x; simp only []; cases Nat.ble tag ep <;> rfl
noncomputable def cellsK (st : St) (id ep : Nat) : Nat → Nat → β → (List AV → β) → β
  | 0, off, d, k => k []
  | n + 1, off, d, k => cellK st id ep off d fun v => natK (off + 1) fun off => cellsK st id ep n off d fun vs => k (v :: vs)
noncomputable def cellsOf (st : St) (id ep n off : Nat) : Option (List AV) := cellsK st id ep n off none some
theorem cellsK_eq (st : St) (id ep n off : Nat) (d : β) (k : List AV → β) : cellsK st id ep n off d k = match cellsOf st id ep n off with | some v => k v | none => d := by
  unfold cellsOf
  induction n generalizing β off d k with
  | zero => rfl
  | succ n ih =>
    simp only [cellsK, natK_eq]
    rw [cellK_eq, cellK_eq]
    cases cell st id ep off with
    | none => rfl
    | some v =>
      simp only []
      rw [ih, ih (k := fun vs => some (v :: vs))]
      cases cellsK st id ep n (off + 1) none some <;> rfl
theorem cellsOf_succ (st : St) (id ep n off : Nat) : cellsOf st id ep (n + 1) off = match cell st id ep off, cellsOf st id ep n (off + 1) with | some v, some vs => some (v :: vs) | _, _ => none := by
  show cellsK st id ep (n + 1) off none some = _
  simp only [cellsK, natK_eq]
  rw [cellK_eq]
  cases cell st id ep off with
  | none => rfl
  | some v => simp only []; rw [cellsK_eq]; cases cellsOf st id ep n (off + 1) <;> rfl
/-- What a variable of a type holds. -/
noncomputable def loadK (P : Program) (st : St) (t : TypeId) (id ep off : Nat) (d : β) (k : AV → β) : β :=
  match isAggB P t with
  | some true => match szOf P t with
    | some n => cellsK st id ep n off d fun l => k (.agg l)
    | none => d
  | some false => cellK st id ep off d k
  | none => d
noncomputable def loadA (P : Program) (st : St) (t : TypeId) (id ep off : Nat) : Option AV := loadK P st t id ep off none some
theorem loadK_eq (P : Program) (st : St) (t : TypeId) (id ep off : Nat) (d : β) (k : AV → β) : loadK P st t id ep off d k = match loadA P st t id ep off with | some v => k v | none => d := by
  unfold loadA loadK
  cases isAggB P t with
  | none => rfl
  | some b =>
    cases b with
    | false => simp only []; rw [cellK_eq]; rfl
    | true =>
      simp only []
      cases szOf P t with
      | none => rfl
      | some n => simp only []; rw [cellsK_eq, cellsK_eq (d := none)]; cases cellsOf st id ep n off <;> rfl
end

/-! Equality -/
mutual
def AV.beq : AV → AV → Bool
  | .bool a, .bool b => a == b
  | .int k a, .int k' b => decide (k = k') && decide (a = b)
  | .str a, .str b => decide (a = b)
  | .nilp, .nilp => true
  | .ptr a b c, .ptr a' b' c' => Nat.beq a a' && Nat.beq b b' && Nat.beq c c'
  | .nils, .nils => true
  | .slice a b c l p e z, .slice a1 b1 c1 l1 p1 e1 z1 => Nat.beq a a1 && Nat.beq b b1 && Nat.beq c c1 && Nat.beq l l1 && Nat.beq p p1 && (e == e1) && Nat.beq z z1
  | .nilm, .nilm => true
  | .map a, .map b => Nat.beq a b
  | .fn f a b, .fn f' a' b' => Nat.beq f f' && AV.beqs a a' && AV.beqs b b'
  | .yield a, .yield b => Nat.beq a b
  | .nilf, .nilf => true
  | .iface t v, .iface t' v' => Nat.beq t t' && AV.beq v v'
  | .nili, .nili => true
  | .agg a, .agg b => AV.beqs a b
  | .tup a, .tup b => AV.beqs a b
  | _, _ => false
def AV.beqs : List AV → List AV → Bool
  | [], [] => true
  | a :: l, b :: m => AV.beq a b && AV.beqs l m
  | _, _ => false
end
mutual
theorem AV.eq_of_beq : ∀ (a b : AV), AV.beq a b = true → a = b := by
  intro a b h
  cases a <;> cases b <;> simp only [AV.beq, Bool.and_eq_true, decide_eq_true_eq, beq_iff_eq, Nat.beq_eq, Bool.false_eq_true] at h <;> first | rfl | skip
  · rw [h]
  · rw [h.1, h.2]
  · rw [h]
  · rw [h.1.1, h.1.2, h.2]
  · rw [h.1.1.1.1.1.1, h.1.1.1.1.1.2, h.1.1.1.1.2, h.1.1.1.2, h.1.1.2, h.1.2, h.2]
  · rw [h]
  · rw [h.1.1, AV.eq_of_beqs _ _ h.1.2, AV.eq_of_beqs _ _ h.2]
  · rw [h]
  · rw [h.1, AV.eq_of_beq _ _ h.2]
  · rw [AV.eq_of_beqs _ _ h]
  · rw [AV.eq_of_beqs _ _ h]
theorem AV.eq_of_beqs : ∀ (a b : List AV), AV.beqs a b = true → a = b := by
  intro a b h
  cases a <;> cases b <;> simp only [AV.beqs, Bool.and_eq_true, Bool.false_eq_true] at h
  · rfl
  · rw [AV.eq_of_beq _ _ h.1, AV.eq_of_beqs _ _ h.2]
end
end Go.Eng
/- The relation between abstract and real values, blocks and worlds, and its laws. -/
namespace Go.Eng
set_option linter.unusedVariables false

/-- Where a block lies, in an epoch: the real block, the index in the abstract block of its first cell, and how many cells it has. -/
structure Pl where
  blk : Nat
  base : Nat
  size : Nat
abbrev Rho := Nat → Nat → Option Pl

variable [Sym]
mutual
inductive VRel (ρ : Rho) : AV → Value → Prop where
  | bool (b : Bool) : VRel ρ (.bool b) (.bool b)
  | int (k : IntKind) (n : Int) : VRel ρ (.int k n) (.int k n)
  | sym (k : IntKind) (i : Nat) : VRel ρ (.sym k i) (.int k (Sym.val i))
  | str (l : List Nat) (s : ByteArray) (h : s.data.toList.map UInt8.toNat = l) : VRel ρ (.str l) (.string s)
  | nilp : VRel ρ .nilp (.pointer none)
  | ptr (id ep off : Nat) (p : Pl) (h : ρ id ep = some p) (hb : p.base ≤ off) : VRel ρ (.ptr id ep off) (.pointer (some ⟨p.blk, off - p.base, none⟩))
  | nils : VRel ρ .nils (.slice none 0 0)
  | slice (id ep off len cap : Nat) (ex : Bool) (esz cap' o : Nat) (p : Pl) (h : ρ id ep = some p) (hb : p.base ≤ off) (hc : cap ≤ cap') (he : ex = true → cap' = cap) (hl : len ≤ cap)
      (ho : 0 < cap' → o = off - p.base) (hs : 0 < cap' → off - p.base + cap' * esz ≤ p.size) : VRel ρ (.slice id ep off len cap ex esz) (.slice (some ⟨p.blk, o, none⟩) len cap')
  | nilm : VRel ρ .nilm (.map none)
  | map (id : Nat) (p : Pl) (h : ρ id 0 = some p) : VRel ρ (.map id) (.map (some p.blk))
  | fn (f : FuncId) (a b : List AV) (a' b' : Array Value) (ha : VsRel ρ a a'.toList) (hb : VsRel ρ b b'.toList) : VRel ρ (.fn f a b) (.func (.func f) a' b')
  | yield (id : Nat) (p : Pl) (h : ρ id 0 = some p) : VRel ρ (.yield id) (.func (.yield p.blk) #[] #[])
  | nilf : VRel ρ .nilf .nilFunc
  | iface (t : TypeId) (v : AV) (v' : Value) (h : VRel ρ v v') : VRel ρ (.iface t v) (.iface t v')
  | nili : VRel ρ .nili .nilIface
  | agg (l : List AV) (l' : Array Value) (h : VsRel ρ l l'.toList) : VRel ρ (.agg l) (.agg l')
  | tup (l : List AV) (l' : Array Value) (h : VsRel ρ l l'.toList) : VRel ρ (.tup l) (.tuple l')
inductive VsRel (ρ : Rho) : List AV → List Value → Prop where
  | nil : VsRel ρ [] []
  | cons (v : AV) (v' : Value) (l : List AV) (l' : List Value) (h : VRel ρ v v') (hl : VsRel ρ l l') : VsRel ρ (v :: l) (v' :: l')
end

def Rho.le (ρ ρ' : Rho) : Prop := ∀ id ep p, ρ id ep = some p → ρ' id ep = some p
theorem Rho.le_refl (ρ : Rho) : ρ.le ρ := fun _ _ _ h => h
theorem Rho.le_trans {a b c : Rho} (h : a.le b) (h' : b.le c) : a.le c := fun i e p x => h' i e p (h i e p x)

mutual
theorem VRel.mono {ρ ρ' : Rho} (h : ρ.le ρ') : ∀ {v : AV} {v' : Value}, VRel ρ v v' → VRel ρ' v v'
  | _, _, .bool b => .bool b
  | _, _, .int k n => .int k n
  | _, _, .sym k n => .sym k n
  | _, _, .str l s e => .str l s e
  | _, _, .nilp => .nilp
  | _, _, .ptr id ep off p e hb => .ptr id ep off p (h _ _ _ e) hb
  | _, _, .nils => .nils
  | _, _, .slice id ep off len cap ex esz cap' o p e hb hc he hl ho hs => .slice id ep off len cap ex esz cap' o p (h _ _ _ e) hb hc he hl ho hs
  | _, _, .nilm => .nilm
  | _, _, .map id p e => .map id p (h _ _ _ e)
  | _, _, .fn f a b a' b' ha hb => .fn f a b a' b' (VsRel.mono h ha) (VsRel.mono h hb)
  | _, _, .yield id p e => .yield id p (h _ _ _ e)
  | _, _, .nilf => .nilf
  | _, _, .iface t v v' e => .iface t v v' (VRel.mono h e)
  | _, _, .nili => .nili
  | _, _, .agg l l' e => .agg l l' (VsRel.mono h e)
  | _, _, .tup l l' e => .tup l l' (VsRel.mono h e)
theorem VsRel.mono {ρ ρ' : Rho} (h : ρ.le ρ') : ∀ {v : List AV} {v' : List Value}, VsRel ρ v v' → VsRel ρ' v v'
  | _, _, .nil => .nil
  | _, _, .cons v v' l l' e el => .cons v v' l l' (VRel.mono h e) (VsRel.mono h el)
end
theorem VsRel.length {ρ : Rho} {l : List AV} {l' : List Value} (h : VsRel ρ l l') : l'.length = l.length := by
  induction l generalizing l' with
  | nil => cases h; rfl
  | cons a l ih => cases h with | cons _ _ _ _ _ hl => simp [ih hl]
theorem VsRel.append {ρ : Rho} {a b : List AV} {a' b' : List Value} (h : VsRel ρ a a') (h' : VsRel ρ b b') : VsRel ρ (a ++ b) (a' ++ b') := by
  induction a generalizing a' with
  | nil => cases h; exact h'
  | cons x a ih => cases h with | cons _ _ _ _ hx hl => exact .cons _ _ _ _ hx (ih hl)
theorem VsRel.get {ρ : Rho} {l : List AV} {l' : List Value} (h : VsRel ρ l l') {i : Nat} {v : AV} (hi : l[i]? = some v) : ∃ v', l'[i]? = some v' ∧ VRel ρ v v' := by
  induction l generalizing l' i with
  | nil => simp at hi
  | cons a l ih =>
    cases h with
    | cons _ _ _ _ hx hl =>
      cases i with
      | zero => simp at hi; subst hi; exact ⟨_, by simp, hx⟩
      | succ i => simp at hi; obtain ⟨v', h1, h2⟩ := ih hl hi; exact ⟨v', by simpa using h1, h2⟩
theorem VsRel.drop {ρ : Rho} {l : List AV} {l' : List Value} (h : VsRel ρ l l') (n : Nat) : VsRel ρ (l.drop n) (l'.drop n) := by
  induction n generalizing l l' with
  | zero => simpa using h
  | succ n ih => cases h with
    | nil => simpa using VsRel.nil
    | cons _ _ _ _ _ hl => simpa using ih hl
theorem VsRel.take {ρ : Rho} {l : List AV} {l' : List Value} (h : VsRel ρ l l') (n : Nat) : VsRel ρ (l.take n) (l'.take n) := by
  induction n generalizing l l' with
  | zero => simpa using VsRel.nil
  | succ n ih => cases h with
    | nil => simpa using VsRel.nil
    | cons _ _ _ _ hx hl => simpa using .cons _ _ _ _ hx (ih hl)
theorem VRel.cells {ρ : Rho} {v : AV} {v' : Value} (h : VRel ρ v v') : VsRel ρ v.cells v'.cells.toList := by
  cases h with
  | agg l l' h => exact h
  | _ => exact .cons _ _ _ _ (by constructor <;> assumption) .nil
theorem VRel.one {ρ : Rho} {v : AV} {v' : Value} (h : VRel ρ v v') (ho : v.one = true) : v'.oneCell' = true := by
  cases h <;> first | rfl | (simp [AV.one] at ho)
theorem VRel.slice_inv {ρ : Rho} {id ep off len cap esz : Nat} {ex : Bool} {v' : Value} (h : VRel ρ (.slice id ep off len cap ex esz) v') :
    ∃ (cap' o : Nat) (p : Pl), v' = .slice (some ⟨p.blk, o, none⟩) len cap' ∧ ρ id ep = some p ∧ p.base ≤ off ∧ cap ≤ cap' ∧ (ex = true → cap' = cap) ∧ len ≤ cap ∧ (0 < cap' → o = off - p.base) ∧ (0 < cap' → off - p.base + cap' * esz ≤ p.size) := by
  cases h with
  | slice _ _ _ _ _ _ _ cap' o p hp hb hc he hl ho hs => exact ⟨cap', o, p, rfl, hp, hb, hc, he, hl, ho, hs⟩
theorem VRel.ptr_inv {ρ : Rho} {id ep off : Nat} {v' : Value} (h : VRel ρ (.ptr id ep off) v') : ∃ p : Pl, v' = .pointer (some ⟨p.blk, off - p.base, none⟩) ∧ ρ id ep = some p ∧ p.base ≤ off := by
  cases h with
  | ptr _ _ _ p hp hb => exact ⟨p, rfl, hp, hb⟩
end Go.Eng
/- The relation between the abstract heap and a world; loads, stores and new blocks keep it. -/
namespace Go.Eng
set_option linter.unusedVariables false
variable [Sym]

inductive EntsRel (ρ : Rho) : List AEnt → List MapEntry → Prop where
  | nil : EntsRel ρ [] []
  | cons (e : AEnt) (e' : MapEntry) (l l') (hk : VRel ρ e.key e'.key) (hv : VRel ρ e.val e'.val) (hb : e'.born = e.born) (hl : EntsRel ρ l l') : EntsRel ρ (e :: l) (e' :: l')
theorem EntsRel.mono {ρ ρ' : Rho} (h : ρ.le ρ') {l : List AEnt} {l' : List MapEntry} (hl : EntsRel ρ l l') : EntsRel ρ' l l' := by
  induction l generalizing l' with
  | nil => cases hl; exact .nil
  | cons e l ih => cases hl with | cons _ _ _ _ hk hv hb hl => exact .cons _ _ _ _ (hk.mono h) (hv.mono h) hb (ih hl)

/-- A map whose order is open: its keys are strings, and of some of them it is known what stands there. -/
def BagRel (ρ : Rho) (es : List AEnt) (l : List MapEntry) : Prop :=
  (∀ e' ∈ l, ∃ s, e'.key = .string s) ∧ ∀ e ∈ es, ∃ s : List Nat, e.key = .str s ∧ (∃ e' ∈ l, ∃ b : ByteArray, e'.key = .string b ∧ b.data.toList.map UInt8.toNat = s) ∧
    ∀ e' ∈ l, ∀ b : ByteArray, e'.key = .string b → b.data.toList.map UInt8.toNat = s → VRel ρ e.val e'.val
theorem BagRel.mono {ρ ρ' : Rho} (h : ρ.le ρ') {es : List AEnt} {l : List MapEntry} (hb : BagRel ρ es l) : BagRel ρ' es l := by
  refine ⟨hb.1, fun e he => ?_⟩
  obtain ⟨s, h1, h2, h3⟩ := hb.2 e he
  exact ⟨s, h1, h2, fun e' he' b hb' hs => (h3 e' he' b hb' hs).mono h⟩
/-- What a frame's slots hold. -/
def TRel (ρ : Rho) (e : Env) (tmps : Array Value) : Prop := ∀ t v, e.get t = some v → ∃ v', tmps[t]? = some v' ∧ VRel ρ v v'
theorem TRel.mono {ρ ρ' : Rho} (h : ρ.le ρ') {e : Env} {t : Array Value} (ht : TRel ρ e t) : TRel ρ' e t := fun i v hi => by
  obtain ⟨v', h1, h2⟩ := ht i v hi; exact ⟨v', h1, h2.mono h⟩

def LoopRel (ρ : Rho) (r : Rec) (l : Loop) : Prop :=
  match r with
  | .loop state pending fn env n params assign body defers => l.state = state ∧ l.pending = pending ∧ l.fn = fn ∧ l.tmps.size = n ∧ TRel ρ env l.tmps ∧ l.params.toList = params ∧ l.assign = assign ∧ l.body = body ∧
      ∃ p, ρ defers 0 = some p ∧ p.blk = l.defers
  | _ => False

/-- A block's relation in one epoch. -/
def RecRel (ρ : Rho) (ep : Nat) (p : Pl) (r : Rec) (o : Option Obj) : Prop :=
  match r with
  | .cells elem c top lat sh => ∃ cs lo hi, o = some (.cells cs elem (lo, hi)) ∧ (sh = false → lo = 0 ∧ hi = 0) ∧ (∀ i, lo ≤ i → i < hi → cs.size ≤ i) ∧ cs.size = p.size ∧ (ep ≤ lat ∧ ∀ i x, c.get i = some x → x.tag ≤ lat) ∧
      (∀ i v tag, i < top → c.get i = some ⟨v, tag⟩ → tag ≤ ep → p.base ≤ i → ∃ v', cs[i - p.base]? = some v' ∧ VRel ρ v v') ∧
      (ep = lat → ∀ i, p.base ≤ i → i < top → i - p.base < p.size)
  | .map es clock => ep = 0 ∧ ∃ es', o = some (.map es' clock) ∧ EntsRel ρ es es'.toList
  | .miter m since seen stepped => ep = 0 ∧ ∃ m' seen', o = some (.mapIter m' since seen' stepped) ∧ seen'.toList = seen ∧ (match m with | none => m' = none | some id => ∃ p, ρ id 0 = some p ∧ m' = some p.blk)
  | .siter s pos => ep = 0 ∧ ∃ s', o = some (.stringIter s' pos) ∧ s'.data.toList.map UInt8.toNat = s
  | .loop .. => ep = 0 ∧ ∃ l, o = some (.loop l) ∧ LoopRel ρ r l
  | .deferred b => ep = 0 ∧ o = some (.deferred (if b then some [] else none))
  | .bag es => ep = 0 ∧ ∃ es' clock, o = some (.map es' clock) ∧ BagRel ρ es es'.toList
  | .dead => True
theorem RecRel.mono {ρ ρ' : Rho} (h : ρ.le ρ') {ep : Nat} {p : Pl} {r : Rec} {o : Option Obj} (hr : RecRel ρ ep p r o) : RecRel ρ' ep p r o := by
  cases r with
  | cells elem c top lat sh =>
    obtain ⟨cs, lo, hi, h1, h2, h3, h4, h5, h6, h7⟩ := hr
    exact ⟨cs, lo, hi, h1, h2, h3, h4, h5, fun i v tag a b c' d => by obtain ⟨v', x, y⟩ := h6 i v tag a b c' d; exact ⟨v', x, y.mono h⟩, h7⟩
  | map es clock => obtain ⟨h0, es', h1, h2⟩ := hr; exact ⟨h0, es', h1, h2.mono h⟩
  | miter m since seen stepped =>
    obtain ⟨h0, m', s', h1, h2, h3⟩ := hr
    refine ⟨h0, m', s', h1, h2, ?_⟩
    cases m with
    | none => exact h3
    | some id => obtain ⟨p, a, b⟩ := h3; exact ⟨p, h _ _ _ a, b⟩
  | siter s pos => exact hr
  | loop a b c d e f g i j =>
    obtain ⟨h0, l, h1, x1, x2, x3, x4, x5, x6, x7, x8, q, x9, x10⟩ := hr
    exact ⟨h0, l, h1, x1, x2, x3, x4, x5.mono h, x6, x7, x8, q, h _ _ _ x9, x10⟩
  | deferred b => exact hr
  | bag es => obtain ⟨h0, es', clock, h1, h2⟩ := hr; exact ⟨h0, es', clock, h1, h2.mono h⟩
  | dead => trivial

/-- A block that is read alone. -/
def St.isLocked (st : St) (id : Nat) : Bool := Nat.blt id st.lim
/-- The abstract heap and the world: B are the blocks that no step changes. -/
structure SRel (B : Nat → Prop) (ρ : Rho) (st : St) (w : World) : Prop where
  mapped : ∀ id ep p, ρ id ep = some p → (B p.blk → st.isLocked id = true) ∧ p.blk < w.heap.size ∧ id < st.next ∧ ∃ r, st.heap.get id = some r ∧ RecRel ρ ep p r w.heap[p.blk]?
  inj : ∀ id ep p id' ep' p', ρ id ep = some p → ρ id' ep' = some p' → p.blk = p'.blk → id = id' ∧ p = p'
  low : ∀ b, B b → b < w.heap.size

/-- What a step leaves alone. -/
structure Adv (B : Nat → Prop) (ρ : Rho) (st : St) (w : World) (ρ' : Rho) (st' : St) (w' : World) : Prop where
  le : ρ.le ρ'
  next : st.next ≤ st'.next
  un : ∀ id, id < st.next → (∀ ep, ρ id ep = none) → (∀ ep, ρ' id ep = none) ∧ st'.heap.get id = st.heap.get id
  low : ∀ b, B b → w'.heap[b]? = w.heap[b]?
  size : w.heap.size ≤ w'.heap.size
  os : w'.os = w.os
  out : w'.output = w.output
  fro : ∀ a, B a.block → w'.frozen? a = w.frozen? a
theorem Adv.refl (B : Nat → Prop) (ρ : Rho) (st : St) (w : World) : Adv B ρ st w ρ st w := ⟨Rho.le_refl _, Nat.le_refl _, fun _ _ h => ⟨h, rfl⟩, fun _ _ => rfl, Nat.le_refl _, rfl, rfl, fun _ _ => rfl⟩
theorem Adv.trans {B : Nat → Prop} {ρ ρ₁ ρ₂ : Rho} {st st₁ st₂ : St} {w w₁ w₂ : World} (a : Adv B ρ st w ρ₁ st₁ w₁) (b : Adv B ρ₁ st₁ w₁ ρ₂ st₂ w₂) : Adv B ρ st w ρ₂ st₂ w₂ where
  le := Rho.le_trans a.le b.le
  next := Nat.le_trans a.next b.next
  un id h1 h2 := by
    obtain ⟨x, y⟩ := a.un id h1 h2
    obtain ⟨z, u⟩ := b.un id (Nat.lt_of_lt_of_le h1 a.next) x
    exact ⟨z, u.trans y⟩
  low b' hb := (b.low b' hb).trans (a.low b' hb)
  size := Nat.le_trans a.size b.size
  os := b.os.trans a.os
  out := b.out.trans a.out
  fro x hx := (b.fro x hx).trans (a.fro x hx)
/-- A draw turns nothing. -/
theorem Adv.drew {B : Nat → Prop} {ρ : Rho} {st : St} {w : World} (n : Nat) : Adv B ρ st w ρ st { w with drawn := n } := ⟨Rho.le_refl _, Nat.le_refl _, fun _ _ h => ⟨h, rfl⟩, fun _ _ => rfl, Nat.le_refl _, rfl, rfl, fun _ _ => rfl⟩
/-- A block no part of which is frozen. -/
def Rec.plain (r : Rec) : Bool := match r with | .cells _ _ _ _ sh => !sh | .dead => false | _ => true
theorem RecRel.thaw {ρ : Rho} {ep : Nat} {p : Pl} {r : Rec} {o : Obj} (h : RecRel ρ ep p r (some o)) (hp : r.plain = true) : ∀ cs t lo hi, o = .cells cs t (lo, hi) → hi = 0 := by
  rintro cs t lo hi rfl
  cases r with
  | cells elem c top lat sh =>
    obtain ⟨cs', lo', hi', h1, h2, _⟩ := h
    cases h1
    exact (h2 (by simpa [Rec.plain] using hp)).2
  | map es clock => obtain ⟨_, _, h1, _⟩ := h; cases h1
  | miter => obtain ⟨_, _, _, h1, _⟩ := h; cases h1
  | siter => obtain ⟨_, _, h1, _⟩ := h; cases h1
  | loop => obtain ⟨_, _, h1, _⟩ := h; cases h1
  | deferred => obtain ⟨_, h1⟩ := h; cases h1
  | bag => obtain ⟨_, _, _, h1, _⟩ := h; cases h1
  | dead => simp [Rec.plain] at hp
theorem frozen_push {w : World} {o : Obj} (h : ∀ cs t lo hi, o = .cells cs t (lo, hi) → hi = 0) (a : Addr) : ({ w with heap := w.heap.push o } : World).frozen? a = w.frozen? a := by
  unfold World.frozen?
  by_cases hb : a.block = w.heap.size
  · have h1 : w.heap[a.block]? = none := by simp [hb]
    have h2 : (w.heap.push o)[a.block]? = some o := by rw [hb]; simp
    simp only [h1, h2]
    cases o <;> first | rfl | skip
    rename_i cs t fr
    obtain ⟨lo, hi⟩ := fr
    have := h cs t lo hi rfl
    subst this
    simp
  · have h2 : (w.heap.push o)[a.block]? = w.heap[a.block]? := by rw [Array.getElem?_push, if_neg hb]
    simp only [h2]
theorem SRel.drew {B : Nat → Prop} {ρ : Rho} {st : St} {w : World} (h : SRel B ρ st w) (n : Nat) : SRel B ρ st { w with drawn := n } := ⟨h.mapped, h.inj, h.low⟩

section
variable {B : Nat → Prop} {ρ : Rho} {st : St} {w : World}
theorem addr_add (p : Pl) (off n : Nat) (h : p.base ≤ off) : (⟨p.blk, off - p.base, none⟩ : Addr).add n = ⟨p.blk, off + n - p.base, none⟩ := by
  unfold Addr.add
  split
  · subst_vars; rfl
  · congr 1; simp; omega
/-- A cell that the abstract heap knows. -/
theorem SRel.cell (h : SRel B ρ st w) {id ep off : Nat} {p : Pl} {v : AV} (hp : ρ id ep = some p) (hb : p.base ≤ off) (hc : cell st id ep off = some v) :
    ∃ v', w.cell? ⟨p.blk, off - p.base, none⟩ = some v' ∧ VRel ρ v v' := by
  obtain ⟨_, _, _, r, hr, hrel⟩ := h.mapped _ _ _ hp
  unfold Eng.cell cellK at hc
  rw [hr] at hc
  cases r with
  | cells elem c top lat sh =>
    obtain ⟨cs, lo, hi, h1, h2, h3, h4, h5, h6, h7⟩ := hrel
    simp only [] at hc
    split at hc
    · rename_i ht
      split at hc
      · rename_i v0 tag hg
        split at hc
        · rename_i hle
          cases hc
          have hlt : off < top := by simpa [Nat.blt_eq] using ht
          obtain ⟨v', x, y⟩ := h6 off _ tag hlt hg (Nat.le_of_ble_eq_true hle) hb
          refine ⟨v', ?_, y⟩
          simp only [World.cell?, h1, Option.isSome, Bool.false_eq_true, if_false]
          exact x
        · cases hc
      · cases hc
    · cases hc
  | _ => cases hc
theorem SRel.loadCells (h : SRel B ρ st w) {P : Program} {id ep : Nat} {p : Pl} (hp : ρ id ep = some p) (off0 : Nat) (hb : p.base ≤ off0) : ∀ (n i : Nat) (vs : List AV) (acc : Array Value), cellsOf st id ep n (off0 + i) = some vs →
    ∃ vs', VsRel ρ vs vs' ∧ (loadCellsFrom ⟨p.blk, off0 - p.base, none⟩ i n acc).run P w = .ok (acc ++ vs'.toArray) w := by
  intro n
  induction n with
  | zero =>
    intro i vs acc hc
    cases hc
    exact ⟨[], .nil, by simp [loadCellsFrom]⟩
  | succ n ih =>
    intro i vs acc hc
    rw [cellsOf_succ] at hc
    split at hc
    · rename_i v vs1 e1 e2
      cases hc
      obtain ⟨v', x, y⟩ := h.cell hp (by omega) e1
      obtain ⟨vs', hv, hr⟩ := ih (i + 1) vs1 (acc.push v') (by rw [← Nat.add_assoc]; exact e2)
      refine ⟨v' :: vs', .cons _ _ _ _ y hv, ?_⟩
      have ha := addr_add p off0 i hb
      simp only [loadCellsFrom, Sem.run_bind, run_load, ha, x, Result.andThen_ok, hr]
      congr 1
      simp
    · cases hc
theorem isAgg_run {P : Program} {t : TypeId} {b : Bool} (h : isAggB P t = some b) (w : World) : (isAgg t).run P w = .ok b w := by
  unfold isAggB at h
  simp only [isAgg, underlying, Sem.run_bind, run_program, Result.andThen_ok]
  cases hu : P.underlying t with
  | none => rw [hu] at h; cases h
  | some d =>
    rw [hu] at h
    cases d <;> simp_all
theorem sizeOf_run {P : Program} {t : TypeId} {n : Nat} (h : szOf P t = some n) (w : World) : (sizeOf t).run P w = .ok n w := by
  unfold szOf at h
  simp only [sizeOf, typeInfo, Sem.run_bind, run_program, Result.andThen_ok]
  cases hu : P.info? t with
  | none => rw [hu] at h; cases h
  | some d => rw [hu] at h; simp at h; simp [h]
theorem SRel.load (h : SRel B ρ st w) {P : Program} {t : TypeId} {id ep off : Nat} {p : Pl} {v : AV} (hp : ρ id ep = some p) (hb : p.base ≤ off) (hl : loadA P st t id ep off = some v) :
    ∃ v', VRel ρ v v' ∧ (loadVar t ⟨p.blk, off - p.base, none⟩).run P w = .ok v' w := by
  unfold loadA loadK at hl
  split at hl
  · rename_i ha
    split at hl
    · rename_i n hn
      rw [cellsK_eq] at hl
      split at hl
      · rename_i vs hvs
        cases hl
        obtain ⟨vs', hv, hr⟩ := h.loadCells (P := P) hp off hb n 0 vs #[] hvs
        refine ⟨.agg vs'.toArray, .agg _ _ (by simpa using hv), ?_⟩
        simp only [loadVar, Sem.run_bind, isAgg_run ha, Result.andThen_ok, if_true, sizeOf_run hn, Go.loadCells, hr]
        simp
      · cases hl
    · cases hl
  · rename_i ha
    obtain ⟨v', x, y⟩ := h.cell hp hb hl
    refine ⟨v', y, ?_⟩
    simp only [loadVar, Sem.run_bind, isAgg_run ha, Result.andThen_ok, Bool.false_eq_true, if_false, run_load, x]
  · cases hl
end
end Go.Eng
/- Stores and new blocks, in the abstract heap and in the world. -/
namespace Go.Eng
set_option linter.unusedVariables false
variable [Sym]

section
variable {β : Type}
/-- A store to one cell. -/
noncomputable def putK (st : St) (id ep off : Nat) (v : AV) (d : β) (k : St → β) : β :=
  match v.one with
  | false => d
  | true => match st.heap.get id with
    | some (.cells elem c top lat sh) =>
      match Nat.blt id st.lim, Nat.beq ep lat, Nat.blt off top with
      | false, true, true => c.setK off ⟨v, lat⟩ fun c => st.heap.setK id (.cells elem c top lat sh) fun h => k ⟨h, st.next, st.lim⟩
      | _, _, _ => d
    | _ => d
noncomputable def put (st : St) (id ep off : Nat) (v : AV) : Option St := putK st id ep off v none some
theorem putK_eq (st : St) (id ep off : Nat) (v : AV) (d : β) (k : St → β) : putK st id ep off v d k = match put st id ep off v with | some s => k s | none => d := by
  unfold put putK
  cases v.one with
  | false => rfl
  | true =>
    simp only []
    cases st.heap.get id with
    | none => rfl
    | some r =>
      cases r <;> first | rfl | skip
      simp only [Tr.setK_eq]
      split <;> rfl
theorem put_some {st st' : St} {id ep off : Nat} {v : AV} (h : put st id ep off v = some st') :
    v.one = true ∧ ∃ elem c top sh, st.heap.get id = some (.cells elem c top ep sh) ∧ off < top ∧ st' = ⟨st.heap.set id (.cells elem (c.set off ⟨v, ep⟩) top ep sh), st.next, st.lim⟩ ∧ st.isLocked id = false := by
  unfold put putK at h
  split at h
  · cases h
  · rename_i ho
    split at h
    · rename_i elem c top lat sh hg
      split at h
      · rename_i h0 h1 h2
        simp only [Tr.setK_eq] at h
        cases h
        have e : ep = lat := Nat.eq_of_beq_eq_true h1
        subst e
        exact ⟨ho, elem, c, top, _, hg, by simpa [Nat.blt_eq] using h2, rfl, h0⟩
      · cases h
    · cases h
noncomputable def putsK (st : St) (id ep off : Nat) : List AV → β → (St → β) → β
  | [], d, k => k st
  | v :: vs, d, k => putK st id ep off v d fun st => natK (off + 1) fun off => putsK st id ep off vs d k
noncomputable def puts (st : St) (id ep off : Nat) (vs : List AV) : Option St := putsK st id ep off vs none some
theorem putsK_eq (st : St) (id ep off : Nat) (vs : List AV) (d : β) (k : St → β) : putsK st id ep off vs d k = match puts st id ep off vs with | some s => k s | none => d := by
  unfold puts
  induction vs generalizing st off with
  | nil => rfl
  | cons v vs ih =>
    simp only [putsK, natK_eq]
    rw [putK_eq, putK_eq]
    cases put st id ep off v with
    | none => rfl
    | some s => exact ih s (off + 1)
theorem puts_cons (st : St) (id ep off : Nat) (v : AV) (vs : List AV) : puts st id ep off (v :: vs) = (put st id ep off v).bind fun s => puts s id ep (off + 1) vs := by
  show putsK st id ep off (v :: vs) none some = _
  simp only [putsK, natK_eq]
  rw [putK_eq]
  cases put st id ep off v <;> rfl
end

section
variable {B : Nat → Prop} {ρ : Rho} {st st' : St} {w : World}
theorem setCell_blk {w : World} {blk off : Nat} {v : Value} {cs : Array Value} {elem : TypeId} {fr : Nat × Nat} (h : w.heap[blk]? = some (.cells cs elem fr)) :
    (w.setCell ⟨blk, off, none⟩ v).heap[blk]? = some (.cells (cs.setIfInBounds off v) elem fr) := by
  obtain ⟨hlt, he⟩ := Array.getElem?_eq_some_iff.1 h
  simp only [World.setCell, Option.isSome, Bool.false_eq_true, if_false]
  rw [Array.getElem?_eq_getElem (by rw [Array.size_modify]; exact hlt), Array.getElem_modify_self, he]
theorem setCell_other {w : World} {blk off b : Nat} {v : Value} (h : b ≠ blk) : (w.setCell ⟨blk, off, none⟩ v).heap[b]? = w.heap[b]? := by
  simp only [World.setCell]
  rw [Array.getElem?_modify, if_neg (Ne.symm h)]
theorem setCell_size (w : World) (a : Addr) (v : Value) : (w.setCell a v).heap.size = w.heap.size := by simp [World.setCell]
/-- A block that is not this one keeps its relation. -/
theorem SRel.put (h : SRel B ρ st w) {id ep off : Nat} {p : Pl} {v : AV} {v' : Value} (hp : ρ id ep = some p) (hb : p.base ≤ off) (hv : VRel ρ v v') (hput : Eng.put st id ep off v = some st') :
    (∃ x, w.cell? ⟨p.blk, off - p.base, none⟩ = some x) ∧ w.frozen? ⟨p.blk, off - p.base, none⟩ = false ∧ SRel B ρ st' (w.setCell ⟨p.blk, off - p.base, none⟩ v') ∧ Adv B ρ st w ρ st' (w.setCell ⟨p.blk, off - p.base, none⟩ v') := by
  obtain ⟨ho, elem, c, top, sh, hg, hlt, rfl, hlk⟩ := put_some hput
  obtain ⟨hB, hsz, hnx, r, hr, hrel⟩ := h.mapped _ _ _ hp
  have hB : ¬ B p.blk := fun hb => by rw [hB hb] at hlk; cases hlk
  rw [hg] at hr; cases hr
  obtain ⟨cs, lo, hi, h1, h2, h3, h4, h5, h6, h7⟩ := hrel
  have hin : off - p.base < cs.size := by rw [h4]; exact h7 rfl off hb hlt
  refine ⟨⟨cs[off - p.base], by simp [World.cell?, h1, hin]⟩, ?_, ?_, ?_⟩
  · simp only [World.frozen?, h1]
    cases hd : decide (lo ≤ off - p.base) && decide (off - p.base < hi) with
    | false => rfl
    | true =>
      simp only [Bool.and_eq_true, decide_eq_true_eq] at hd
      have := h3 _ hd.1 hd.2
      omega
  · refine ⟨fun id' ep' p' hp' => ?_, h.inj, by rw [setCell_size]; exact h.low⟩
    obtain ⟨hB', hsz', hnx', r', hr', hrel'⟩ := h.mapped _ _ _ hp'
    refine ⟨hB', by rw [setCell_size]; exact hsz', hnx', ?_⟩
    by_cases hid : id = id'
    · subst hid
      rw [hg] at hr'; cases hr'
      refine ⟨_, Tr.get_set_same _ _ _, ?_⟩
      obtain ⟨cs', lo', hi', g1, g2, g3, g4, g5, g6, g7⟩ := hrel'
      have tg : ∀ i x, (c.set off ⟨v, ep⟩).get i = some x → x.tag ≤ ep := fun i x hx => by
        rw [Tr.get_set] at hx
        split at hx
        · cases hx; exact Nat.le_refl _
        · exact g5.2 i x hx
      by_cases hblk : p'.blk = p.blk
      · obtain ⟨_, hpe⟩ := h.inj _ _ _ _ _ _ hp' hp hblk
        subst hpe
        rw [h1] at g1; cases g1
        refine ⟨_, lo, hi, setCell_blk h1, h2, fun i a b => by rw [Array.size_setIfInBounds]; exact h3 i a b, by rw [Array.size_setIfInBounds]; exact h4, ⟨g5.1, tg⟩, ?_, g7⟩
        intro i u tag hi1 hget htag hbase
        rw [Tr.get_set] at hget
        split at hget
        · rename_i heq
          cases hget
          subst heq
          exact ⟨v', by rw [Array.getElem?_setIfInBounds, if_pos rfl, if_pos hin], hv⟩
        · rename_i hne
          obtain ⟨u', x, y⟩ := g6 i u tag hi1 hget htag hbase
          exact ⟨u', by rw [Array.getElem?_setIfInBounds_ne (by omega)]; exact x, y⟩
      · refine ⟨cs', lo', hi', by rw [setCell_other hblk]; exact g1, g2, g3, g4, ⟨g5.1, tg⟩, ?_, g7⟩
        intro i u tag hi1 hget htag hbase
        rw [Tr.get_set] at hget
        split at hget
        · rename_i heq
          cases hget
          have hep : ep' = ep := Nat.le_antisymm g5.1 htag
          subst hep
          rw [hp] at hp'; cases hp'
          exact absurd rfl hblk
        · exact g6 i u tag hi1 hget htag hbase
    · refine ⟨r', by rw [Tr.get_set_ne _ _ hid]; exact hr', ?_⟩
      have hblk : p'.blk ≠ p.blk := fun e => hid (h.inj _ _ _ _ _ _ hp hp' e.symm).1
      rw [setCell_other hblk]; exact hrel'
  · refine ⟨Rho.le_refl _, Nat.le_refl _, fun i hi hn => ⟨hn, ?_⟩, fun b hb' => setCell_other (by rintro rfl; exact hB hb'), by rw [setCell_size]; exact Nat.le_refl _, rfl, rfl, fun _ _ => World.frozen?_setCell _ _ _ _⟩
    exact Tr.get_set_ne _ _ (fun e => by subst e; rw [hn] at hp; cases hp)
theorem SRel.puts {ep id : Nat} {p : Pl} (hp : ρ id ep = some p) {P : Program} (off0 : Nat) (hb : p.base ≤ off0) : ∀ (vs : List AV) (vs' : List Value) (i : Nat) (st : St) (w : World), SRel B ρ st w → VsRel ρ vs vs' → Eng.puts st id ep (off0 + i) vs = some st' →
    ∃ w', (storeCells ⟨p.blk, off0 - p.base, none⟩ vs' i).run P w = .ok () w' ∧ SRel B ρ st' w' ∧ Adv B ρ st w ρ st' w' := by
  intro vs
  induction vs with
  | nil =>
    intro vs' i st w h hv hs
    cases hv; cases hs
    exact ⟨w, by simp [storeCells], h, .refl _ _ _ _⟩
  | cons v vs ih =>
    intro vs' i st w h hv hs
    cases hv with
    | cons _ v' _ vs' hx hl =>
      rw [puts_cons] at hs
      cases hput : Eng.put st id ep (off0 + i) v with
      | none => rw [hput] at hs; cases hs
      | some s1 =>
        rw [hput] at hs
        obtain ⟨⟨x, hc⟩, hf, hsr, ha⟩ := h.put hp (by omega) hx hput
        obtain ⟨w', h1, h2, h3⟩ := ih vs' (i + 1) s1 _ hsr hl (by rw [← Nat.add_assoc]; exact hs)
        refine ⟨w', ?_, h2, ha.trans h3⟩
        have hone := hx.one (put_some hput).1
        simp only [storeCells, Sem.run_bind, run_store _ _ _ _ _ hone, addr_add p off0 i hb, hc, hf, Bool.false_eq_true, if_false, Result.andThen_ok]
        exact h1
/-- 'ρ' with a block more. -/
def Rho.add (ρ : Rho) (id ep : Nat) (p : Pl) : Rho := fun i e => if i = id ∧ e = ep then some p else ρ i e
theorem Rho.add_same (ρ : Rho) (id ep : Nat) (p : Pl) : ρ.add id ep p id ep = some p := by simp [Rho.add]
theorem Rho.add_le {ρ : Rho} {id ep : Nat} {p : Pl} (h : ρ id ep = none) : ρ.le (ρ.add id ep p) := fun i e q hq => by
  unfold Rho.add
  split
  · rename_i hc; rw [hc.1, hc.2, h] at hq; cases hq
  · exact hq
/-- A new real block for an abstract block that has none. -/
theorem SRel.bear (h : SRel B ρ st w) {id : Nat} {r : Rec} {o : Obj} {n : Nat} (hid : id < st.next) (hun : ∀ ep, ρ id ep = none) (hg : st.heap.get id = some r)
    (hr : ∀ ρ', ρ.le ρ' → ρ' id 0 = some ⟨w.heap.size, 0, n⟩ → RecRel ρ' 0 ⟨w.heap.size, 0, n⟩ r (some o)) :
    SRel B (ρ.add id 0 ⟨w.heap.size, 0, n⟩) st { w with heap := w.heap.push o } := by
  have hle := Rho.add_le (p := ⟨w.heap.size, 0, n⟩) (hun 0)
  refine ⟨fun id' ep' p' hp' => ?_, ?_, fun b hb => by have := h.low b hb; simp; omega⟩
  · unfold Rho.add at hp'
    split at hp'
    · rename_i hc
      obtain ⟨rfl, rfl⟩ := hc
      cases hp'
      refine ⟨fun hb => by have := h.low _ hb; exact absurd this (Nat.lt_irrefl _), by simp, hid, r, hg, ?_⟩
      have := hr _ hle (Rho.add_same _ _ _ _)
      simpa using this
    · obtain ⟨a, b, c, r', d, e⟩ := h.mapped _ _ _ hp'
      refine ⟨a, by simp; omega, c, r', d, ?_⟩
      have : (w.heap.push o)[p'.blk]? = w.heap[p'.blk]? := by rw [Array.getElem?_push, if_neg (by omega)]
      rw [this]; exact e.mono hle
  · intro id1 ep1 p1 id2 ep2 p2 h1 h2 he
    unfold Rho.add at h1 h2
    split at h1 <;> split at h2
    · rename_i c1 c2; cases h1; cases h2; exact ⟨c1.1.trans c2.1.symm, rfl⟩
    · cases h1; have := (h.mapped _ _ _ h2).2.1; simp at he; omega
    · cases h2; have := (h.mapped _ _ _ h1).2.1; simp at he; omega
    · exact h.inj _ _ _ _ _ _ h1 h2 he
/-- A new abstract block, not yet real. -/
def St.grow (st : St) (h : Tr Rec) : St := ⟨h, st.next + 1, st.lim⟩
theorem SRel.reserve (h : SRel B ρ st w) (r : Rec) : SRel B ρ ⟨st.heap.set st.next r, st.next + 1, st.lim⟩ w :=
  ⟨fun id ep p hp => by
    obtain ⟨a, b, c, r', d, e⟩ := h.mapped _ _ _ hp
    exact ⟨a, b, by simp; omega, r', by rw [Tr.get_set_ne _ _ (by omega)]; exact d, e⟩, h.inj, h.low⟩
theorem SRel.none_of_ge (h : SRel B ρ st w) {id : Nat} (hid : st.next ≤ id) (ep : Nat) : ρ id ep = none := by
  cases he : ρ id ep with
  | none => rfl
  | some p => have := (h.mapped _ _ _ he).2.2.1; omega
theorem Adv.bear {id n : Nat} {o : Obj} (h : SRel B ρ st w) (hun : ∀ ep, ρ id ep = none) (hid : st.next ≤ id) (r : Rec) (hst : st' = ⟨st.heap.set id r, st.next + 1, st.lim⟩) (hi : id = st.next) (hfr : ∀ cs t lo hi, o = .cells cs t (lo, hi) → hi = 0) :
    Adv B ρ st w (ρ.add id 0 ⟨w.heap.size, 0, n⟩) st' { w with heap := w.heap.push o } := by
  subst hst
  refine ⟨Rho.add_le (hun 0), by simp, fun i hlt hn => ⟨fun ep => ?_, Tr.get_set_ne _ _ (by omega)⟩, fun b hb => ?_, by simp, rfl, rfl, fun a _ => frozen_push hfr a⟩
  · unfold Rho.add; rw [if_neg (by omega)]; exact hn ep
  · have := h.low b hb
    rw [Array.getElem?_push, if_neg (by omega)]
/-- A new block, abstract and real. -/
theorem SRel.alloc (h : SRel B ρ st w) {r : Rec} {o : Obj} {n : Nat}
    (hr : ∀ ρ', ρ.le ρ' → ρ' st.next 0 = some ⟨w.heap.size, 0, n⟩ → RecRel ρ' 0 ⟨w.heap.size, 0, n⟩ r (some o)) (hpl : r.plain = true := by first | rfl | assumption) :
    ∃ ρ', SRel B ρ' ⟨st.heap.set st.next r, st.next + 1, st.lim⟩ { w with heap := w.heap.push o } ∧ Adv B ρ st w ρ' ⟨st.heap.set st.next r, st.next + 1, st.lim⟩ { w with heap := w.heap.push o } ∧ ρ' st.next 0 = some ⟨w.heap.size, 0, n⟩ :=
  ⟨_, (h.reserve r).bear (id := st.next) (by simp) (fun ep => h.none_of_ge (Nat.le_refl _) ep) (Tr.get_set_same _ _ _) hr,
    Adv.bear h (fun ep => h.none_of_ge (Nat.le_refl _) ep) (Nat.le_refl _) r rfl rfl ((hr _ (Rho.add_le (h.none_of_ge (Nat.le_refl _) 0)) (Rho.add_same _ _ _ _)).thaw hpl), Rho.add_same _ _ _ _⟩
end
end Go.Eng
/- The operations that change nothing: what they compute from abstract values. -/
namespace Go.Eng
set_option linter.unusedVariables false
variable [Sym]

section
variable {β : Type}
noncomputable def strK : List Nat → (List Nat → β) → β
  | [], k => k []
  | a :: l, k => natK a fun a => strK l fun l => k (a :: l)
/-- A value handed on in normal form. -/
noncomputable def forceK (v : AV) (k : AV → β) : β :=
  match v with
  | .bool b => match b with | true => k (.bool true) | false => k (.bool false)
  | .int kd n => intK n fun n => k (.int kd n)
  | .ptr a b c => natK c fun c => k (.ptr a b c)
  | .slice a b c l p e z => natK c fun c => natK l fun l => natK p fun p => match e with | true => k (.slice a b c l p true z) | false => k (.slice a b c l p false z)
  | .str s => strK s fun s => k (.str s)
  | v => k v
theorem strK_eq (l : List Nat) (k : List Nat → β) : strK l k = k l := by
  induction l generalizing k with
  | nil => rfl
  | cons a l ih => simp only [strK, natK_eq, ih]
theorem forceK_eq (v : AV) (k : AV → β) : forceK v k = k v := by
  cases v <;> simp only [forceK, intK_eq, natK_eq, strK_eq]
  · split <;> rfl
  · split <;> rfl
/-- A list of values in normal form; its values are taken as they are. -/
noncomputable def listK : List AV → (List AV → β) → β
  | [], k => k []
  | a :: l, k => listK l fun l => k (a :: l)
theorem listK_eq (l : List AV) (k : List AV → β) : listK l k = k l := by
  induction l generalizing k with
  | nil => rfl
  | cons a l ih => simp only [listK, ih]
end

/-! Integers -/
def half : IntKind → Nat
  | .i8 => 128 | .i16 => 32768 | .i32 => 2147483648 | .i64 => 9223372036854775808
  | .u8 => 256 | .u16 => 65536 | .u32 => 4294967296 | .u64 => 18446744073709551616
/-- 'wrap', where the number fits at once. -/
def wrapF (k : IntKind) (n : Int) : Int :=
  match n with
  | .ofNat m => match Nat.blt m (half k) with | true => .ofNat m | false => k.wrap (.ofNat m)
  | .negSucc m => match k.signed, Nat.blt m (half k) with | true, true => .negSucc m | _, _ => k.wrap (.negSucc m)
theorem wrapF_eq (k : IntKind) (n : Int) : wrapF k n = k.wrap n := by
  cases n with
  | ofNat m =>
    simp only [wrapF]
    cases hb : Nat.blt m (half k) with
    | false => rfl
    | true =>
      have h : m < half k := by simpa [Nat.blt_eq] using hb
      have e : Int.ofNat m = (m : Int) := rfl
      simp only [e]
      cases k <;> simp only [half] at h
      · rw [IntWalk.i8_in _ (by omega)]
      · rw [IntWalk.i16_in _ (by omega)]
      · rw [IntWalk.i32_in _ (by omega)]
      · rw [IntWalk.i64_in _ (by omega)]
      · rw [IntWalk.u8_in _ (by omega)]
      · rw [IntWalk.u16_in _ (by omega)]
      · rw [IntWalk.u32_in _ (by omega)]
      · rw [IntWalk.u64_in _ (by omega)]
  | negSucc m =>
    simp only [wrapF]
    cases hb : Nat.blt m (half k) with
    | false => cases k <;> rfl
    | true =>
      have h : m < half k := by simpa [Nat.blt_eq] using hb
      have e : Int.negSucc m = -(m : Int) - 1 := by omega
      cases k with
      | u8 => rfl
      | u16 => rfl
      | u32 => rfl
      | u64 => rfl
      | i8 => simp only [half] at h; simp only [IntKind.signed]; rw [e, IntWalk.i8_in _ (by omega)]
      | i16 => simp only [half] at h; simp only [IntKind.signed]; rw [e, IntWalk.i16_in _ (by omega)]
      | i32 => simp only [half] at h; simp only [IntKind.signed]; rw [e, IntWalk.i32_in _ (by omega)]
      | i64 => simp only [half] at h; simp only [IntKind.signed]; rw [e, IntWalk.i64_in _ (by omega)]
def BinOp.isEq : BinOp → Bool
  | .eql | .neq => true
  | _ => false
def intA (op : BinOp) (k : IntKind) (x y : Int) : Option AV :=
  match op with
  | .add => some (.int k (wrapF k (x + y)))
  | .sub => some (.int k (wrapF k (x - y)))
  | .mul => some (.int k (wrapF k (x * y)))
  | .quo => match decide (y = 0) with | true => none | false => some (.int k (wrapF k (x.tdiv y)))
  | .rem => match decide (y = 0) with | true => none | false => some (.int k (x.tmod y))
  | .and => some (.int k (k.wrap ((BitVec.ofInt k.bits x &&& BitVec.ofInt k.bits y).toNat)))
  | .or => some (.int k (k.wrap ((BitVec.ofInt k.bits x ||| BitVec.ofInt k.bits y).toNat)))
  | .xor => some (.int k (k.wrap ((BitVec.ofInt k.bits x ^^^ BitVec.ofInt k.bits y).toNat)))
  | .andNot => some (.int k (k.wrap ((BitVec.ofInt k.bits x &&& ~~~(BitVec.ofInt k.bits y)).toNat)))
  | .eql => some (.bool (decide (x = y)))
  | .neq => some (.bool (!decide (x = y)))
  | .lss => some (.bool (decide (x < y)))
  | .leq => some (.bool (decide (x ≤ y)))
  | .gtr => some (.bool (decide (x > y)))
  | .geq => some (.bool (decide (x ≥ y)))
  | _ => none
def shiftA (op : BinOp) (k : IntKind) (x y : Int) : Option AV :=
  match decide (y < 0) with
  | true => none
  | false => match op with
    | .shl => some (.int k (wrapF k (x * 2 ^ (min y.toNat k.bits))))
    | .shr => some (.int k (x.fdiv (2 ^ (min y.toNat k.bits))))
    | _ => none
theorem intA_run {P : Program} {w : World} {op : BinOp} {k : IntKind} {x y : Int} {v : AV} (h : intA op k x y = some v) : ∃ v', (∀ ρ, VRel ρ v v') ∧ ∀ t, (binOp op t (.int k x) (.int k y)).run P w = .ok v' w := by
  unfold intA at h
  cases op <;> simp only [] at h <;> (try (cases h; done))
  all_goals (try (split at h <;> (try (cases h; done))))
  all_goals cases h
  all_goals refine ⟨_, fun ρ => (by first | exact .int _ _ | exact .bool _), fun t => ?_⟩
  all_goals simp only [binOp, Op.intArith, Op.intDiv, Op.intBits, Op.intCmp, ne_eq, not_true, if_false, Sem.run_pure, wrapF_eq]
  all_goals (try (rename_i hy; have hy := of_decide_eq_false hy; rw [if_neg hy]; rfl))
  all_goals (try rfl)
  all_goals (congr 2; rw [Bool.eq_iff_iff]; simp)
theorem shiftA_run {P : Program} {w : World} {op : BinOp} {k k2 : IntKind} {x y : Int} {v : AV} (h : shiftA op k x y = some v) : ∃ v', (∀ ρ, VRel ρ v v') ∧ ∀ t, (binOp op t (.int k x) (.int k2 y)).run P w = .ok v' w := by
  unfold shiftA at h
  split at h
  · cases h
  · rename_i hy
    have hy := of_decide_eq_false hy
    cases op <;> simp only [] at h <;> cases h
    all_goals refine ⟨_, fun ρ => .int _ _, fun t => ?_⟩
    all_goals simp only [binOp, Op.shift, if_neg hy, Sem.run_pure, wrapF_eq]
end Go.Eng
/- Equality of abstract values, and keys of maps. -/
namespace Go.Eng
set_option linter.unusedVariables false
variable [Sym]

/-- A part of a struct or an array. -/
def partA (P : Program) (t : TypeId) (l : List AV) (off : Nat) : Option AV :=
  match isAggB P t with
  | some true => match szOf P t with
    | some n => some (.agg ((l.drop off).take n))
    | none => none
  | some false => l[off]?
  | none => none
theorem partA_run {P : Program} {ρ : Rho} {t : TypeId} {l : List AV} {l' : Array Value} {off : Nat} {v : AV} (hl : VsRel ρ l l'.toList) (h : partA P t l off = some v) : ∃ v', VRel ρ v v' ∧ ∀ w, (part t l' off).run P w = .ok v' w := by
  unfold partA at h
  split at h
  · rename_i ha
    split at h
    · rename_i n hn
      cases h
      refine ⟨.agg (l'.extract off (off + n)), .agg _ _ ?_, fun w => ?_⟩
      · have := (hl.drop off).take n
        rw [Array.toList_extract]
        simpa [List.extract_eq_take_drop] using this
      · simp only [part, Sem.run_bind, isAgg_run ha, Result.andThen_ok, if_true, sizeOf_run hn, Sem.run_pure]
    · cases h
  · rename_i ha
    obtain ⟨v', h1, h2⟩ := hl.get h
    refine ⟨v', h2, fun w => ?_⟩
    have : l'[off]? = some v' := by simpa using h1
    simp only [part, Sem.run_bind, isAgg_run ha, Result.andThen_ok, Bool.false_eq_true, if_false, this, Sem.run_pure]
  · cases h
/-- A block whose address can be compared. -/
noncomputable def plainBlk (st : St) (id : Nat) : Bool :=
  match st.heap.get id with
  | some (.cells _ _ _ _ sh) => !sh
  | _ => false
def eqFieldsA (P : Program) (eq : TypeId → AV → AV → Option Bool) (xs ys : List AV) : List Field → Option Bool
  | [] => some true
  | f :: fs =>
    match decide (f.name ≠ "_") with
    | true => match partA P f.type xs f.offset, partA P f.type ys f.offset with
      | some a, some b => match eq f.type a b with
        | some true => eqFieldsA P eq xs ys fs
        | some false => some false
        | none => none
      | _, _ => none
    | false => eqFieldsA P eq xs ys fs
def eqElemsA (P : Program) (eq : AV → AV → Option Bool) (e : TypeId) (sz : Nat) (xs ys : List AV) : Nat → Nat → Option Bool
  | 0, _ => some true
  | n + 1, i => match partA P e xs (i * sz), partA P e ys (i * sz) with
    | some a, some b => match eq a b with
      | some true => eqElemsA P eq e sz xs ys n (i + 1)
      | some false => some false
      | none => none
    | _, _ => none
noncomputable def eqA (P : Program) (st : St) : Nat → TypeId → AV → AV → Option Bool
  | 0, _, _, _ => none
  | d + 1, t, x, y =>
    match P.underlying t, x, y with
    | some .bool, .bool a, .bool b => some (a == b)
    | some (.int _), .int k a, .int k' b => match decide (k = k') with | true => some (decide (a = b)) | false => none
    | some .string, .str a, .str b => some (decide (a = b))
    | some (.pointer _), .nilp, .nilp => some true
    | some (.pointer _), .nilp, .ptr .. => some false
    | some (.pointer _), .ptr .., .nilp => some false
    | some (.pointer e), .ptr i p o, .ptr i' p' o' =>
      match szOf P e with
      | some (n + 1) => match Nat.beq i i' with
        | true => match Nat.beq p p' with | true => some (Nat.beq o o') | false => none
        | false => match plainBlk st i, plainBlk st i' with | true, true => some false | _, _ => none
      | _ => none
    | some (.struct fs), .agg xs, .agg ys => match P.stoodInHeld t with
      | true => none
      | false => eqFieldsA P (eqA P st d) xs ys fs.toList
    | some (.array n e), .agg xs, .agg ys => match szOf P e with
      | some sz => eqElemsA P (eqA P st d e) e sz xs ys n 0
      | none => none
    | some (.slice _), .nils, .nils => some true
    | some (.slice _), .nils, .slice .. => some false
    | some (.slice _), .slice .., .nils => some false
    | some (.map _ _), .nilm, .nilm => some true
    | some (.map _ _), .nilm, .map _ => some false
    | some (.map _ _), .map _, .nilm => some false
    | some (.func _ _ _), .nilf, .nilf => some true
    | some (.func _ _ _), .nilf, .fn .. => some false
    | some (.func _ _ _), .fn .., .nilf => some false
    | _, _, _ => none
theorem strEq_run {a b : List Nat} {s s' : ByteArray} (h : s.data.toList.map UInt8.toNat = a) (h' : s'.data.toList.map UInt8.toNat = b) : (s.toList == s'.toList) = decide (a = b) := by
  rw [ByteArray.toList_eq, ByteArray.toList_eq]
  subst h h'
  rw [Bool.eq_iff_iff]
  simp only [beq_iff_eq, decide_eq_true_eq]
  constructor
  · intro e; rw [e]
  · intro e
    exact (List.map_inj_right (fun x y => by intro hxy; exact UInt8.toNat_inj.1 hxy)).1 e
/-- Two arrays are compared element by element. -/
def eqElems (d : Nat) (e : TypeId) (sz : Nat) (xs ys : Array Value) : Nat → Nat → Sem Bool
  | 0, _ => pure true
  | n + 1, i => do
    let a ← part e xs (i * sz)
    let b ← part e ys (i * sz)
    let r ← Op.equalIn d e a b
    if (!r) = true then pure false else eqElems d e sz xs ys n (i + 1)
theorem run_equalIn_array {P : Program} (d : Nat) (t : TypeId) (n : Nat) (e : TypeId) (sz : Nat) (xs ys : Array Value) (hu : P.underlying t = some (.array n e)) (hs : szOf P e = some sz) (w : World) :
    (Op.equalIn (d + 1) t (.agg xs) (.agg ys)).run P w = (eqElems d e sz xs ys n 0).run P w := by
  simp only [Op.equalIn, Sem.run_bind, run_underlying hu, Result.andThen_ok, sizeOf_run hs]
  rw [Std.Legacy.Range.forIn_eq_forIn_range']
  have hr : (List.range' 0 ([0:n] : Std.Legacy.Range).size 1) = List.range' 0 n := by simp [Std.Legacy.Range.size]
  rw [show List.range' ([0:n] : Std.Legacy.Range).start ([0:n] : Std.Legacy.Range).size ([0:n] : Std.Legacy.Range).step = List.range' 0 n from hr]
  clear hr hu hs
  generalize 0 = i
  induction n generalizing w i with
  | zero => simp [eqElems]
  | succ n ih =>
    simp only [List.range'_succ, List.forIn_cons, eqElems, Sem.run_bind]
    generalize (part e xs (i * sz)).run P w = r1
    cases r1 with
    | ok a w1 =>
      simp only [Result.andThen_ok]
      generalize (part e ys (i * sz)).run P w1 = r2
      cases r2 with
      | ok b w2 =>
        simp only [Result.andThen_ok]
        generalize (Op.equalIn d e a b).run P w2 = r3
        cases r3 with
        | ok r w3 =>
          cases r
          · simp
          · simp only [Result.andThen_ok, Bool.not_true, Bool.false_eq_true, if_false, Sem.run_pure]
            exact ih w3 _
        | halt x w3 => simp [Result.andThen]
      | halt x w2 => simp [Result.andThen]
    | halt x w1 => simp [Result.andThen]
theorem eqElems_run {P : Program} {ρ : Rho} {w : World} (d : Nat) (e : TypeId) (sz : Nat) (eq : AV → AV → Option Bool) {xs ys : List AV} {xs' ys' : Array Value} (hx : VsRel ρ xs xs'.toList) (hy : VsRel ρ ys ys'.toList)
    (heq : ∀ (x y : AV) (x' y' : Value) (b : Bool), VRel ρ x x' → VRel ρ y y' → eq x y = some b → (Op.equalIn d e x' y').run P w = .ok b w) :
    ∀ (n i : Nat) (b : Bool), eqElemsA P eq e sz xs ys n i = some b → (eqElems d e sz xs' ys' n i).run P w = .ok b w := by
  intro n
  induction n with
  | zero => intro i b h; simp only [eqElemsA] at h; cases h; rfl
  | succ n ih =>
    intro i b h
    simp only [eqElemsA] at h
    split at h
    · rename_i a1 b1 e1 e2
      obtain ⟨a1', r1, r2⟩ := partA_run hx e1
      obtain ⟨b1', s1, s2⟩ := partA_run hy e2
      simp only [eqElems, Sem.run_bind, r2, s2, Result.andThen_ok]
      split at h
      · rename_i q
        rw [heq _ _ _ _ _ r1 s1 q]
        simp only [Result.andThen_ok, Bool.not_true, Bool.false_eq_true, if_false]
        exact ih _ _ h
      · rename_i q
        cases h
        rw [heq _ _ _ _ _ r1 s1 q]
        simp
      · cases h
    · cases h
section
variable {B : Nat → Prop} {ρ : Rho} {st : St} {w : World} {P : Program}
theorem plain_heap (h : SRel B ρ st w) {id ep : Nat} {p : Pl} (hp : ρ id ep = some p) (hb : plainBlk st id = true) : ∃ cs e, w.heap[p.blk]? = some (.cells cs e (0, 0)) := by
  obtain ⟨_, _, _, r, hr, hrel⟩ := h.mapped _ _ _ hp
  unfold plainBlk at hb
  rw [hr] at hb
  cases r <;> simp only [] at hb <;> (try (cases hb; done))
  obtain ⟨cs, lo, hi, h1, h2, _⟩ := hrel
  obtain ⟨rfl, rfl⟩ := h2 (by simpa using hb)
  exact ⟨cs, _, h1⟩
theorem eqA_run (h : SRel B ρ st w) : ∀ (d : Nat),
    (∀ (t : TypeId) (x y : AV) (x' y' : Value) (b : Bool), VRel ρ x x' → VRel ρ y y' → eqA P st d t x y = some b → (Op.equalIn d t x' y').run P w = .ok b w) ∧
    (∀ (fs : List Field) (xs ys : List AV) (xs' ys' : Array Value) (b : Bool), VsRel ρ xs xs'.toList → VsRel ρ ys ys'.toList → eqFieldsA P (eqA P st d) xs ys fs = some b → (Op.eqFields d xs' ys' fs).run P w = .ok b w) := by
  intro d
  induction d with
  | zero =>
    refine ⟨fun t x y x' y' b _ _ he => by simp [eqA] at he, ?_⟩
    intro fs
    induction fs with
    | nil => intro xs ys xs' ys' b _ _ he; simp only [eqFieldsA] at he; cases he; rfl
    | cons f fs ih =>
      intro xs ys xs' ys' b hx hy he
      simp only [eqFieldsA] at he
      split at he
      · split at he
        · rename_i a1 b1 _ _
          simp only [eqA] at he
          cases he
        · cases he
      · rename_i hn
        simp only [Op.eqFields, if_neg (of_decide_eq_false hn)]
        exact ih _ _ _ _ _ hx hy he
  | succ d ihd =>
    have hA : ∀ (t : TypeId) (x y : AV) (x' y' : Value) (b : Bool), VRel ρ x x' → VRel ρ y y' → eqA P st (d + 1) t x y = some b → (Op.equalIn (d + 1) t x' y').run P w = .ok b w := by
      intro t x y x' y' b hx hy he
      unfold eqA at he
      split at he <;> (try (cases he; done))
      · rename_i hu; cases hx; cases hy; cases he; exact run_equalIn_bool w d t _ _ hu
      · rename_i hu; cases hx; cases hy
        split at he
        · rename_i hk; have hk := of_decide_eq_true hk; subst hk; cases he; exact run_equalIn_int w d t _ _ _ _ hu
        · cases he
      · rename_i hu; cases hx with
        | str _ s h1 => cases hy with
          | str _ s' h2 => cases he; rw [run_equalIn_string w d t _ _ hu, strEq_run h1 h2]
      · rename_i hu; cases hx; cases hy; cases he; simp [Op.equalIn, run_underlying hu]
      · rename_i hu; cases hx; cases hy; cases he; simp [Op.equalIn, run_underlying hu]
      · rename_i hu; cases hx; cases hy; cases he; simp [Op.equalIn, run_underlying hu]
      · rename_i hu
        cases hx with
        | ptr _ _ _ p hp hb =>
          cases hy with
          | ptr _ _ _ p' hp' hb' =>
            split at he
            · rename_i n hn
              have hs := sizeOf_run hn w
              split at he
              · rename_i hi
                have hi := Nat.eq_of_beq_eq_true hi
                subst hi
                split at he
                · rename_i hpp
                  have hpp := Nat.eq_of_beq_eq_true hpp
                  subst hpp
                  rw [hp] at hp'; cases hp'
                  cases he
                  simp only [Op.equalIn, Sem.run_bind, run_underlying hu, Result.andThen_ok, hs]
                  simp only [ne_eq, Nat.add_one_ne_zero, not_false_eq_true, if_true, sameAddr, beq_self_eq_true, Sem.run_pure]
                  congr 1
                  rw [Bool.eq_iff_iff]
                  simp only [beq_iff_eq, Addr.mk.injEq, true_and, and_true, Nat.beq_eq]
                  omega
                · cases he
              · rename_i hi
                split at he
                · rename_i q1 q2
                  cases he
                  have hne : p.blk ≠ p'.blk := fun e => by
                    have := (h.inj _ _ _ _ _ _ hp hp' e).1
                    subst this
                    simp at hi
                  obtain ⟨c1, e1, g1⟩ := plain_heap h hp q1
                  obtain ⟨c2, e2, g2⟩ := plain_heap h hp' q2
                  simp only [Op.equalIn, Sem.run_bind, run_underlying hu, Result.andThen_ok, hs]
                  simp only [ne_eq, Nat.add_one_ne_zero, not_false_eq_true, if_true]
                  have hne' : ∀ a b : Nat, (⟨p.blk, a, none⟩ : Addr) ≠ ⟨p'.blk, b, none⟩ := fun a b e => hne (congrArg Addr.block e)
                  exact run_sameAddr_other _ (hne' _ _) g1 g2
                · cases he
            · cases he
      · rename_i fs _ _ hu
        cases hx with
        | agg _ xs' hxs => cases hy with
          | agg _ ys' hys =>
            split at he
            · cases he
            · rename_i hst
              have hf : P.fieldsOf t = fs := by unfold Program.fieldsOf; rw [hu]
              rw [run_equalIn_struct w d t _ _ (by rw [hf]; exact hu) hst, hf]
              exact ihd.2 _ _ _ _ _ _ hxs hys he
      · rename_i n e _ _ hu
        cases hx with
        | agg _ xs' hxs => cases hy with
          | agg _ ys' hys =>
            split at he
            · rename_i sz hsz
              rw [run_equalIn_array d t n e sz _ _ hu hsz w]
              exact eqElems_run d e sz (eqA P st d e) hxs hys (fun x y x' y' b hx hy he => ihd.1 _ _ _ _ _ _ hx hy he) n 0 b he
            · cases he
      all_goals (rename_i hu; cases hx; cases hy; cases he; simp [Op.equalIn, run_underlying hu])
    refine ⟨hA, ?_⟩
    intro fs
    induction fs with
    | nil => intro xs ys xs' ys' b _ _ he; simp only [eqFieldsA] at he; cases he; rfl
    | cons f fs ih =>
      intro xs ys xs' ys' b hx hy he
      simp only [eqFieldsA] at he
      split at he
      · rename_i hn
        split at he
        · rename_i a1 b1 e1 e2
          obtain ⟨a1', r1, r2⟩ := partA_run hx e1
          obtain ⟨b1', s1, s2⟩ := partA_run hy e2
          simp only [Op.eqFields, if_pos (of_decide_eq_true hn), Sem.run_bind, r2, s2, Result.andThen_ok]
          split at he
          · rename_i eq
            rw [hA _ _ _ _ _ _ r1 s1 eq]
            simp only [Result.andThen_ok, Bool.not_true, Bool.false_eq_true, if_false]
            exact ih _ _ _ _ _ hx hy he
          · rename_i eq
            cases he
            rw [hA _ _ _ _ _ _ r1 s1 eq]
            simp
          · cases he
        · cases he
      · rename_i hn
        simp only [Op.eqFields, if_neg (of_decide_eq_false hn)]
        exact ih _ _ _ _ _ hx hy he
end
end Go.Eng
/- Constants; maps: keys, look-up, store. -/
namespace Go.Eng
set_option linter.unusedVariables false
variable [Sym]

theorem mapM_rel {ρ : Rho} (f : Value → Option AV) (hf : ∀ v a, f v = some a → VRel ρ a v) : ∀ (l : List Value) (as : List AV), l.mapM f = some as → VsRel ρ as l := by
  intro l
  induction l with
  | nil => intro as h; simp at h; subst h; exact .nil
  | cons v l ih =>
    intro as h
    simp only [List.mapM_cons] at h
    cases hv : f v with
    | none => simp [hv] at h
    | some a =>
      cases hl : l.mapM f with
      | none => simp [hv, hl] at h
      | some as' => simp [hv, hl] at h; subst h; exact .cons _ _ _ _ (hf _ _ hv) (ih _ hl)
theorem ofV_rel (ρ : Rho) : ∀ (d : Nat) (v : Value) (a : AV), ofV d v = some a → VRel ρ a v := by
  intro d
  induction d with
  | zero => intro v a h; simp [ofV] at h
  | succ d ih =>
    intro v a h
    unfold ofV at h
    split at h <;> (try (cases h; done))
    · cases h; exact .bool _
    · cases h; exact .int _ _
    · cases h; exact .str _ _ rfl
    · cases h; exact .nilp
    · cases h; exact .nils
    · cases h; exact .nilm
    · cases h; exact .nilf
    · cases h; exact .nili
    · rename_i t v
      cases hv : ofV d v with
      | none => simp [hv] at h
      | some b => simp [hv] at h; subst h; exact .iface _ _ _ (ih _ _ hv)
    · rename_i cs
      cases hv : cs.toList.mapM (ofV d) with
      | none => simp [hv] at h
      | some b => simp [hv] at h; subst h; exact .agg _ _ (mapM_rel _ ih _ _ hv)
    · rename_i cs
      cases hv : cs.toList.mapM (ofV d) with
      | none => simp [hv] at h
      | some b => simp [hv] at h; subst h; exact .tup _ _ (mapM_rel _ ih _ _ hv)
theorem zeroA_run {P : Program} {t : TypeId} {z : AV} (h : zeroA P t = some z) : ∃ z', (∀ ρ, VRel ρ z z') ∧ ∀ w, (zeroValue t).run P w = .ok z' w := by
  unfold zeroA at h
  cases hi : P.info? t with
  | none => simp [hi] at h
  | some i =>
    cases hz : i.zero with
    | none => simp [hi, hz] at h
    | some z' =>
      simp [hi, hz] at h
      refine ⟨z', fun ρ => ofV_rel ρ _ _ _ h, fun w => ?_⟩
      simp only [zeroValue, typeInfo, Sem.run_bind, run_program, hi, Sem.run_pure, Result.andThen_ok, hz]

def ckFieldsA (P : Program) (ck : TypeId → AV → Bool) (l : List AV) : List Field → Bool
  | [] => true
  | f :: fs =>
    match decide (f.name ≠ "_") with
    | true => match partA P f.type l f.offset with
      | some a => ck f.type a && ckFieldsA P ck l fs
      | none => false
    | false => ckFieldsA P ck l fs
def ckElemsA (P : Program) (ck : AV → Bool) (e : TypeId) (sz : Nat) (l : List AV) : Nat → Nat → Bool
  | 0, _ => true
  | n + 1, i => match partA P e l (i * sz) with
    | some a => ck a && ckElemsA P ck e sz l n (i + 1)
    | none => false
/-- A key that can be asked for. -/
def ckA (P : Program) : Nat → TypeId → AV → Bool
  | 0, _, _ => false
  | d + 1, t, v =>
    match P.underlying t with
    | some (.interface _) => false
    | some (.array n e) => match szOf P e, v with
      | some sz, .agg l => ckElemsA P (ckA P d e) e sz l n 0
      | _, _ => false
    | some (.struct fs) => match v with
      | .agg l => ckFieldsA P (ckA P d) l fs.toList
      | _ => false
    | some _ => true
    | none => false
theorem ckA_run {P : Program} {ρ : Rho} (em : Bool) (m : Nat) (w : World) : ∀ (d : Nat),
    (∀ (t : TypeId) (v : AV) (v' : Value), VRel ρ v v' → ckA P d t v = true → (Instr.checkKey em (d + m) t v').run P w = .ok () w) ∧
    (∀ (fs : List Field) (l : List AV) (l' : Array Value) (g : Field → PUnit → Sem (ForInStep PUnit)),
      (∀ f, f.name ≠ "_" → ∀ w, (g f PUnit.unit).run P w = ((part f.type l' f.offset).run P w).andThen fun a w' => ((Instr.checkKey em (d + m) f.type a).run P w').andThen fun _ w'' => .ok (.yield PUnit.unit) w'') →
      (∀ f, ¬ f.name ≠ "_" → ∀ w, (g f PUnit.unit).run P w = .ok (.yield PUnit.unit) w) → VsRel ρ l l'.toList → ckFieldsA P (ckA P d) l fs = true →
      (forIn fs PUnit.unit g).run P w = .ok PUnit.unit w) := by
  intro d
  induction d with
  | zero =>
    refine ⟨fun t v v' _ h => by simp [ckA] at h, ?_⟩
    intro fs
    induction fs with
    | nil => intro l l' g g1 g2 _ _; rfl
    | cons f fs ih =>
      intro l l' g g1 g2 hl h
      simp only [ckFieldsA] at h
      split at h
      · split at h
        · simp [ckA] at h
        · cases h
      · rename_i hn
        simp only [List.forIn_cons, Sem.run_bind, g2 f (of_decide_eq_false hn), Result.andThen_ok]
        exact ih l l' g g1 g2 hl h
  | succ d ihd =>
    have hA : ∀ (t : TypeId) (v : AV) (v' : Value), VRel ρ v v' → ckA P (d + 1) t v = true → (Instr.checkKey em (d + 1 + m) t v').run P w = .ok () w := by
      intro t v v' hv h
      have e : d + 1 + m = (d + m) + 1 := by omega
      rw [e]
      unfold ckA at h
      split at h
      · cases h
      · rename_i n el hu
        split at h
        · rename_i sz l hsz
          cases hv with
          | agg _ l' hl =>
            simp only [Instr.checkKey, Sem.run_bind, run_underlying hu, Result.andThen_ok]
            have hloop : ∀ (n i : Nat), ckElemsA P (ckA P d el) el sz l n i = true → (forIn (List.range' i n) PUnit.unit fun (i : Nat) (r : PUnit) => (do
                let q ← sizeOf el
                let a ← part el l' (i * q)
                Instr.checkKey em (d + m) el a
                pure (ForInStep.yield PUnit.unit) : Sem (ForInStep PUnit))).run P w = .ok PUnit.unit w := by
              intro n
              induction n with
              | zero => intro i _; rfl
              | succ n ih =>
                intro i h
                simp only [ckElemsA] at h
                split at h
                · rename_i a ea
                  rw [Bool.and_eq_true] at h
                  obtain ⟨a', r1, r2⟩ := partA_run hl ea
                  simp only [List.range'_succ, List.forIn_cons, Sem.run_bind, sizeOf_run hsz, Result.andThen_ok, r2, ihd.1 _ _ _ r1 h.1, Sem.run_pure]
                  exact ih (i + 1) h.2
                · cases h
            have := hloop n 0 h
            simp at this ⊢
            rw [this]
            rfl
        · cases h
      · rename_i fs hu
        split at h
        · cases hv with
          | agg _ l' hl =>
            simp only [Instr.checkKey, Sem.run_bind, run_underlying hu, Result.andThen_ok]
            rw [← Array.forIn_toList]
            have := ihd.2 fs.toList _ l' (fun f r => do
              if f.name ≠ "_" then
                let a ← part f.type l' f.offset
                Instr.checkKey em (d + m) f.type a
                pure (ForInStep.yield PUnit.unit)
              else pure (ForInStep.yield PUnit.unit)) (fun f hf w => by simp only [if_pos hf, Sem.run_bind, Sem.run_pure]) (fun f hf w => by simp only [if_neg hf, Sem.run_pure]) hl h
            rw [this]; rfl
        · cases h
      · rename_i u h1 h2 h3 hu
        simp only [Instr.checkKey, Sem.run_bind, run_underlying hu, Result.andThen_ok]
        cases u <;> first | rfl | (exact (h1 _ rfl).elim) | (exact (h2 _ _ rfl).elim) | (exact (h3 _ rfl).elim)
      · cases h
    refine ⟨hA, ?_⟩
    intro fs
    induction fs with
    | nil => intro l l' g g1 g2 _ _; rfl
    | cons f fs ih =>
      intro l l' g g1 g2 hl h
      simp only [ckFieldsA] at h
      split at h
      · rename_i hn
        split at h
        · rename_i a ea
          obtain ⟨a', r1, r2⟩ := partA_run hl ea
          simp only [Bool.and_eq_true] at h
          simp only [List.forIn_cons, Sem.run_bind, g1 f (of_decide_eq_true hn), r2, Result.andThen_ok, hA _ _ _ r1 h.1]
          exact ih l l' g g1 g2 hl h.2
        · cases h
      · rename_i hn
        simp only [List.forIn_cons, Sem.run_bind, g2 f (of_decide_eq_false hn), Result.andThen_ok]
        exact ih l l' g g1 g2 hl h
end Go.Eng
/- Maps: look-up, store, entries, deletion. -/
namespace Go.Eng
set_option linter.unusedVariables false
variable [Sym]

noncomputable def findA (P : Program) (st : St) (kt : TypeId) (k : AV) : List AEnt → Nat → Option (Option (Nat × AV))
  | [], _ => some none
  | e :: es, i => match eqA P st 10000 kt k e.key with
    | some true => some (some (i, e.val))
    | some false => findA P st kt k es (i + 1)
    | none => none
/-- What is known to stand under a key in a map whose order is open. -/
noncomputable def bagA (k : AV) : List AEnt → Option AV
  | [] => none
  | e :: es => match AV.beq e.key k with
    | true => some e.val
    | false => bagA k es
theorem bagA_some {k v : AV} : ∀ {es : List AEnt}, bagA k es = some v → ∃ e ∈ es, e.key = k ∧ e.val = v := by
  intro es
  induction es with
  | nil => intro h; cases h
  | cons e es ih =>
    intro h
    unfold bagA at h
    split at h
    · rename_i hb
      cases h
      exact ⟨e, List.mem_cons_self .., AV.eq_of_beq _ _ hb, rfl⟩
    · obtain ⟨e', h1, h2⟩ := ih h
      exact ⟨e', List.mem_cons_of_mem _ h1, h2⟩
theorem bytes_beq_self (a : ByteArray) : (a == a) = true := by
  show (a.data == a.data) = true
  simp
theorem bytes_beq_ne {a b : ByteArray} (h : a ≠ b) : (a == b) = false := by
  show (a.data == b.data) = false
  have : a.data ≠ b.data := fun e => h (ByteArray.ext e)
  simpa using this
theorem findNow_str {b0 : ByteArray} : ∀ (l : List MapEntry) (i : Nat), (∀ e' ∈ l, ∃ s, e'.key = .string s) → (∃ e' ∈ l, e'.key = .string b0) →
    ∃ j e', e' ∈ l ∧ e'.key = .string b0 ∧ Instr.findNow .string (.string b0) l i = some (some (j, e'.val)) := by
  intro l
  induction l with
  | nil => rintro i _ ⟨e, he, _⟩; cases he
  | cons e l ih =>
    rintro i h1 ⟨e', he', hk'⟩
    obtain ⟨s, hs⟩ := h1 e (List.mem_cons_self ..)
    by_cases h : b0 = s
    · subst h
      exact ⟨i, e, List.mem_cons_self .., hs, by simp only [Instr.findNow, Instr.sameNow, hs, bytes_beq_self]⟩
    · have hne : (b0 == s) = false := bytes_beq_ne h
      have hl : e' ∈ l := by
        rcases List.mem_cons.1 he' with rfl | hl
        · rw [hs] at hk'; cases hk'; exact absurd rfl h
        · exact hl
      obtain ⟨j, e2, g1, g2, g3⟩ := ih (i + 1) (fun x hx => h1 x (List.mem_cons_of_mem _ hx)) ⟨e', hl, hk'⟩
      exact ⟨j, e2, List.mem_cons_of_mem _ g1, g2, by simp only [Instr.findNow, Instr.sameNow, hs, hne]; exact g3⟩
theorem sameNow_equal {P : Program} {w : World} {kt : TypeId} {desc : TypeDesc} {x y : Value} {b : Bool} (hu : P.underlying kt = some desc) (h : Instr.sameNow desc x y = some b) : (Op.equal kt x y).run P w = .ok b w := by
  unfold Instr.sameNow at h
  unfold Op.equal Op.maxDepth
  split at h
  · split at h
    · rename_i hk; subst hk; cases h; exact run_equalIn_int w 9999 kt _ _ _ _ hu
    · cases h
  · cases h; rw [run_equalIn_string w 9999 kt _ _ hu, ← beq_toListBytes]
  · cases h; exact run_equalIn_bool w 9999 kt _ _ hu
  · cases h
def FindRel (ρ : Rho) (r : Option (Nat × AV)) (r' : Option (Nat × Value)) : Prop :=
  match r with
  | none => r' = none
  | some (j, v) => ∃ v', r' = some (j, v') ∧ VRel ρ v v'
section
variable {B : Nat → Prop} {ρ : Rho} {st : St} {w : World} {P : Program}
theorem findA_run (h : SRel B ρ st w) {kt : TypeId} {desc : TypeDesc} (hu : P.underlying kt = some desc) {k : AV} {k' : Value} (hk : VRel ρ k k') : ∀ (es : List AEnt) (es' : List MapEntry) (i : Nat) (r : Option (Nat × AV)), EntsRel ρ es es' → findA P st kt k es i = some r →
    ∃ r', FindRel ρ r r' ∧ (Instr.findAsking kt k' es' i).run P w = .ok r' w ∧ ∀ r2, Instr.findNow desc k' es' i = some r2 → r2 = r' := by
  intro es
  induction es with
  | nil =>
    intro es' i r he hf
    cases he; cases hf
    exact ⟨none, rfl, rfl, fun r2 h2 => by simp [Instr.findNow] at h2; exact h2.symm⟩
  | cons e es ih =>
    intro es' i r he hf
    cases he with
    | cons _ e' _ es' hek hev hb hl =>
      simp only [findA] at hf
      split at hf
      · rename_i heq
        cases hf
        have hr := (eqA_run h 10000).1 _ _ _ _ _ _ hk hek heq
        refine ⟨some (i, e'.val), ⟨_, rfl, hev⟩, ?_, fun r2 h2 => ?_⟩
        · simp only [Instr.findAsking, Sem.run_bind]
          have hr' : (Op.equal kt k' e'.key).run P w = .ok true w := hr
          rw [hr']; simp
        · simp only [Instr.findNow] at h2
          split at h2
          · cases h2; rfl
          · rename_i hs
            have := sameNow_equal (w := w) hu hs
            have hr' : (Op.equal kt k' e'.key).run P w = .ok true w := hr
            rw [hr'] at this; cases this
          · cases h2
      · rename_i heq
        have hr := (eqA_run h 10000).1 _ _ _ _ _ _ hk hek heq
        have hr' : (Op.equal kt k' e'.key).run P w = .ok false w := hr
        obtain ⟨r', a, b, c⟩ := ih es' (i + 1) r hl hf
        refine ⟨r', a, ?_, fun r2 h2 => ?_⟩
        · simp only [Instr.findAsking, Sem.run_bind, hr', Result.andThen_ok]
          simpa using b
        · simp only [Instr.findNow] at h2
          split at h2
          · rename_i hs
            have := sameNow_equal (w := w) hu hs
            rw [hr'] at this; cases this
          · exact c r2 h2
          · cases h2
      · cases hf
theorem findKey_run (h : SRel B ρ st w) {kt : TypeId} {desc : TypeDesc} (hu : P.underlying kt = some desc) {k : AV} {k' : Value} (hk : VRel ρ k k') {es : List AEnt} {es' : List MapEntry} {r : Option (Nat × AV)} (he : EntsRel ρ es es') (hf : findA P st kt k es 0 = some r) :
    ∃ r', FindRel ρ r r' ∧ (Instr.findKey kt k' es').run P w = .ok r' w := by
  obtain ⟨r', a, b, c⟩ := findA_run h hu hk es es' 0 r he hf
  refine ⟨r', a, ?_⟩
  simp only [Instr.findKey, Sem.run_bind, run_underlying hu, Result.andThen_ok]
  split
  · rename_i r2 h2; rw [c _ h2]; rfl
  · exact b
end
/-- A value that reads as itself. -/
def kbA : Nat → AV → Bool
  | 0, _ => false
  | _ + 1, .bool _ => true
  | _ + 1, .int _ _ => true
  | _ + 1, .str _ => true
  | _ + 1, .nilp => true
  | _ + 1, .ptr .. => true
  | d + 1, .agg l => l.all (kbA d)
  | _, _ => false
theorem bytes_inj {s s' : ByteArray} (h : s.data.toList.map UInt8.toNat = s'.data.toList.map UInt8.toNat) : s = s' := by
  have := (List.map_inj_right (fun x y => by intro hxy; exact UInt8.toNat_inj.1 hxy)).1 h
  obtain ⟨⟨a⟩⟩ := s
  obtain ⟨⟨b⟩⟩ := s'
  simp at this
  rw [this]
theorem kbA_bits {ρ : Rho} (m : Nat) : ∀ (d : Nat) (v : AV) (a b : Value), kbA d v = true → VRel ρ v a → VRel ρ v b → Instr.sameBits (d + m) a b = true := by
  intro d
  induction d with
  | zero => intro v a b h _ _; simp [kbA] at h
  | succ d ih =>
    intro v a b h ha hb
    have e : d + 1 + m = (d + m) + 1 := by omega
    rw [e]
    cases ha <;> simp only [kbA] at h <;> (try (cases h; done))
    · cases hb; simp [Instr.sameBits]
    · cases hb; simp [Instr.sameBits]
    · rename_i l s hs
      cases hb with
      | str _ s' hs' =>
        obtain rfl := bytes_inj (hs.trans hs'.symm)
        simp only [Instr.sameBits, beq_toListBytes, beq_self_eq_true]
    · cases hb; simp [Instr.sameBits]
    · rename_i hp _
      cases hb with
      | ptr _ _ _ p' hp' _ => rw [hp] at hp'; cases hp'; simp [Instr.sameBits]
    · rename_i l l' hl
      cases hb with
      | agg _ l2 hl2 =>
        have h1 := hl.length
        have h2 := hl2.length
        simp only [Instr.sameBits, Bool.and_eq_true, beq_iff_eq]
        refine ⟨by rw [← Array.length_toList, ← Array.length_toList, h1, h2], ?_⟩
        rw [List.all_eq_true]
        rintro ⟨x, y⟩ hxy
        obtain ⟨i, hi⟩ := List.getElem?_of_mem hxy
        rw [List.getElem?_zip_eq_some] at hi
        simp only at hi ⊢
        have hil : i < l.length := by
          have := (List.getElem?_eq_some_iff.1 hi.1).1
          omega
        obtain ⟨x', hx1, hx2⟩ := hl.get (List.getElem?_eq_getElem hil)
        obtain ⟨y', hy1, hy2⟩ := hl2.get (List.getElem?_eq_getElem hil)
        rw [hi.1] at hx1; cases hx1
        rw [hi.2] at hy1; cases hy1
        exact ih _ _ _ (List.all_eq_true.1 h _ (List.getElem_mem hil)) hx2 hy2
theorem keyStays_run {P : Program} {ρ : Rho} {v : AV} {a b : Value} (h : kbA 8 v = true) (ha : VRel ρ v a) (hb : VRel ρ v b) (w : World) : (Instr.keyThatStays a b).run P w = .ok b w := by
  have := kbA_bits 9992 8 v a b h ha hb
  unfold Instr.keyThatStays
  rw [if_pos this]
  rfl
def entsMod : List AEnt → Nat → AV → AV → List AEnt
  | [], _, _, _ => []
  | e :: es, 0, k, v => ⟨k, v, e.born⟩ :: es
  | e :: es, i + 1, k, v => e :: entsMod es i k v
theorem entsMod_rel {ρ : Rho} {k v : AV} {k' v' : Value} (hk : VRel ρ k k') (hv : VRel ρ v v') : ∀ (es : List AEnt) (es' : List MapEntry) (i : Nat), EntsRel ρ es es' → EntsRel ρ (entsMod es i k v) (es'.modify i fun e => { e with key := k', val := v' }) := by
  intro es
  induction es with
  | nil => intro es' i h; cases h; simpa [entsMod] using EntsRel.nil
  | cons e es ih =>
    intro es' i h
    cases h with
    | cons _ e' _ es' h1 h2 h3 hl =>
      cases i with
      | zero => simp only [entsMod, List.modify_zero_cons]; exact .cons _ _ _ _ hk hv h3 hl
      | succ i => simp only [entsMod, List.modify_succ_cons]; exact .cons _ _ _ _ h1 h2 h3 (ih _ _ hl)
theorem EntsRel.append {ρ : Rho} {a b : List AEnt} {a' b' : List MapEntry} (h : EntsRel ρ a a') (h' : EntsRel ρ b b') : EntsRel ρ (a ++ b) (a' ++ b') := by
  induction a generalizing a' with
  | nil => cases h; exact h'
  | cons x a ih => cases h with | cons _ _ _ _ h1 h2 h3 hl => exact .cons _ _ _ _ h1 h2 h3 (ih hl)
theorem EntsRel.get {ρ : Rho} {l : List AEnt} {l' : List MapEntry} (h : EntsRel ρ l l') {i : Nat} {e : AEnt} (hi : l[i]? = some e) : ∃ e', l'[i]? = some e' ∧ VRel ρ e.key e'.key ∧ VRel ρ e.val e'.val ∧ e'.born = e.born := by
  induction l generalizing l' i with
  | nil => simp at hi
  | cons a l ih =>
    cases h with
    | cons _ _ _ _ h1 h2 h3 hl =>
      cases i with
      | zero => simp at hi; subst hi; exact ⟨_, by simp, h1, h2, h3⟩
      | succ i => simp at hi; simpa using ih hl hi
theorem EntsRel.length {ρ : Rho} {l : List AEnt} {l' : List MapEntry} (h : EntsRel ρ l l') : l'.length = l.length := by
  induction l generalizing l' with
  | nil => cases h; rfl
  | cons a l ih => cases h with | cons _ _ _ _ _ _ _ hl => simp [ih hl]
section
variable {B : Nat → Prop} {ρ : Rho} {st : St} {w : World}
def Rec.isCells : Rec → Bool
  | .cells .. => true
  | .dead => true
  | _ => false
/-- A block that is no cells is laid anew. -/
theorem SRel.setObj (h : SRel B ρ st w) {id : Nat} {p : Pl} {r r' : Rec} {o' : Obj} (hp : ρ id 0 = some p) (hg : st.heap.get id = some r) (hc : r.isCells = false) (hr : RecRel ρ 0 p r' (some o')) (hpl : r'.plain = true := by first | rfl | assumption) (hlk : st.isLocked id = false := by assumption) :
    SRel B ρ ⟨st.heap.set id r', st.next, st.lim⟩ { w with heap := w.heap.setIfInBounds p.blk o' } ∧ Adv B ρ st w ρ ⟨st.heap.set id r', st.next, st.lim⟩ { w with heap := w.heap.setIfInBounds p.blk o' } := by
  obtain ⟨hB, hsz, hnx, r0, hr0, hrel⟩ := h.mapped _ _ _ hp
  have hB : ¬ B p.blk := fun hb => by rw [hB hb] at hlk; cases hlk
  refine ⟨⟨fun id' ep' p' hp' => ?_, h.inj, by simp; exact h.low⟩, ⟨Rho.le_refl _, Nat.le_refl _, fun i hi hn => ⟨hn, ?_⟩, fun b hb => ?_, by simp, rfl, rfl, fun a => ?_⟩⟩
  · obtain ⟨a, b, c, r1, d, e⟩ := h.mapped _ _ _ hp'
    refine ⟨a, by simpa using b, c, ?_⟩
    by_cases hid : id = id'
    · subst hid
      rw [hg] at d; cases d
      have hep : ep' = 0 := by cases r <;> first | (simp [Rec.isCells] at hc; done) | exact e.1
      subst hep
      rw [hp] at hp'; cases hp'
      refine ⟨r', Tr.get_set_same _ _ _, ?_⟩
      simpa [hsz] using hr
    · refine ⟨r1, by rw [Tr.get_set_ne _ _ hid]; exact d, ?_⟩
      have hne : p.blk ≠ p'.blk := fun e => hid (h.inj _ _ _ _ _ _ hp hp' e).1
      simp only [Array.getElem?_setIfInBounds_ne hne]; exact e
  · exact Tr.get_set_ne _ _ (fun e => by subst e; rw [hn] at hp; cases hp)
  · simp only []; rw [Array.getElem?_setIfInBounds_ne (by rintro rfl; exact hB hb)]
  · intro _
    unfold World.frozen?
    by_cases ha : a.block = p.blk
    · have h2 : (w.heap.setIfInBounds p.blk o')[a.block]? = some o' := by rw [ha, Array.getElem?_setIfInBounds, if_pos rfl, if_pos hsz]
      have hth := hr.thaw hpl
      have hold : ∀ cs t fr, w.heap[a.block]? ≠ some (.cells cs t fr) := by
        intro cs t fr hh
        rw [ha] at hh
        rw [hg] at hr0; cases hr0
        rw [hh] at hrel
        cases r with
        | cells => simp [Rec.isCells] at hc
        | map es clock => obtain ⟨_, _, h1, _⟩ := hrel; cases h1
        | miter => obtain ⟨_, _, _, h1, _⟩ := hrel; cases h1
        | siter => obtain ⟨_, _, h1, _⟩ := hrel; cases h1
        | loop => obtain ⟨_, _, h1, _⟩ := hrel; cases h1
        | deferred => obtain ⟨_, h1⟩ := hrel; cases h1
        | bag => obtain ⟨_, _, _, h1, _⟩ := hrel; cases h1
        | dead => simp [Rec.isCells] at hc
      simp only [h2]
      have h3 : (match w.heap[a.block]? with | some (.cells _ _ (lo, hi)) => decide (lo ≤ a.off) && decide (a.off < hi) | _ => false) = false := by
        split
        · rename_i hh; exact absurd hh (hold _ _ _)
        · rfl
      refine Eq.trans ?_ h3.symm
      cases o' <;> first | rfl | skip
      rename_i cs t fr
      obtain ⟨lo, hi⟩ := fr
      have := hth cs t lo hi rfl
      subst this
      simp
    · have h2 : (w.heap.setIfInBounds p.blk o')[a.block]? = w.heap[a.block]? := Array.getElem?_setIfInBounds_ne (Ne.symm ha)
      simp only [h2]
end
end Go.Eng
/- The quiet operations: what they compute from abstract values. -/
namespace Go.Eng
set_option linter.unusedVariables false
variable [Sym]

def isConstO : Operand → Bool
  | .const _ => true
  | _ => false
def guardA (P : Program) (t : TypeId) (x y : Operand) (a b : AV) : Bool :=
  match a, b with
  | .nili, .nili => isConstO x || isConstO y
  | .agg _, .agg _ => !(P.eqGuardType P.depth t)
  | .sym _ _, _ => false
  | _, .sym _ _ => false
  | _, _ => true
def ltA : List Nat → List Nat → Bool
  | _, [] => false
  | [], _ :: _ => true
  | a :: x, b :: y => Nat.blt a b || (Nat.beq a b && ltA x y)
def strA (op : BinOp) (x y : List Nat) : Option AV :=
  match op with
  | .add => match Nat.ble (x.length + y.length) 4611686018427387904 with | true => some (.str (x ++ y)) | false => none
  | .eql => some (.bool (decide (x = y)))
  | .neq => some (.bool (!decide (x = y)))
  | .lss => some (.bool (ltA x y))
  | .leq => some (.bool (ltA x y || decide (x = y)))
  | .gtr => some (.bool (!(ltA x y || decide (x = y))))
  | .geq => some (.bool (!ltA x y))
  | _ => none
def symR (k : IntKind) : Bool ⊕ (Nat ⊕ Int) → AV
  | .inl b => .bool b
  | .inr (.inl i) => .sym k i
  | .inr (.inr n) => .int k n
/-- An operation on symbols. -/
def symA (op : BinOp) (a b : AV) : Option AV :=
  match a, b with
  | .sym k i, .sym k' j => match decide (k = k') with
    | true => (Sym.bin op k (.inl i) (.inl j)).map (symR k)
    | false => none
  | .sym k i, .int k' n => match decide (k = k') with
    | true => (Sym.bin op k (.inl i) (.inr n)).map (symR k)
    | false => none
  | .int k m, .sym k' j => match decide (k = k') with
    | true => (Sym.bin op k (.inr m) (.inl j)).map (symR k)
    | false => none
  | _, _ => none
noncomputable def binA (P : Program) (st : St) (op : BinOp) (t : TypeId) (x y : Operand) (a b : AV) : Option AV :=
  match a, b with
  | .sym k i, b => symA op (.sym k i) b
  | .int k m, .sym k' j => symA op (.int k m) (.sym k' j)
  | .int k m, .int k' n => match op with
    | .shl => shiftA .shl k m n
    | .shr => shiftA .shr k m n
    | op => match decide (k = k') with | true => intA op k m n | false => none
  | .str m, .str n => strA op m n
  | a, b => match op, guardA P t x y a b with
    | .eql, true => (eqA P st 10000 t a b).map .bool
    | .neq, true => (eqA P st 10000 t a b).map fun r => .bool (!r)
    | _, _ => none
def unA (op : UnOp) (a : AV) : Option AV :=
  match op, a with
  | .neg, .int k n => some (.int k (wrapF k (0 - n)))
  | .xor, .int k n => some (.int k (k.wrap ((BitVec.ofInt k.bits (if k.signed then -1 else k.max) ^^^ BitVec.ofInt k.bits n).toNat)))
  | .not, .bool b => some (.bool (!b))
  | _, _ => none
def convA (P : Program) (s t : TypeId) (a : AV) : Option AV :=
  match P.underlying s, P.underlying t, a with
  | some _, some (.int k), .int _ n => some (.int k (wrapF k n))
  | some _, some (.int k), .sym _ i => (Sym.conv k i).map (.sym k)
  | some _, some .string, .str x => some (.str x)
  | _, _, _ => none
/-- The bytes of a row. -/
def bytesA : List AV → Option (List Nat)
  | [] => some []
  | .int .u8 (.ofNat n) :: l => match Nat.blt n 256 with
    | true => match bytesA l with | some r => some (n :: r) | none => none
    | false => none
  | _ => none
/-- A row of bytes as a string. -/
noncomputable def bytesC (P : Program) (st : St) (s t : TypeId) (a : AV) : Option AV :=
  match P.underlying s, P.underlying t, a with
  | some (.slice el), some .string, .nils => match P.underlying el with | some (.int .u8) => some (.str []) | _ => none
  | some (.slice el), some .string, .slice id ep off len _ _ sz => match P.underlying el, Nat.beq sz 1 with
    | some (.int .u8), true => match cellsOf st id ep len off with
      | some l => match bytesA l with | some r => some (.str r) | none => none
      | none => none
    | _, _ => none
  | _, _, _ => none
/-- The head of a block as a bare pointer, and back. -/
noncomputable def ptrC (P : Program) (st : St) (s t : TypeId) (a : AV) : Option AV :=
  match P.underlying s, P.underlying t, a with
  | some (.pointer el), some .unsafePointer, .ptr id ep 0 => match szOf P el, cell st id ep 0 with
    | some (n + 1), some _ => some (.ptr id ep 0)
    | _, _ => none
  | some .unsafePointer, some (.pointer el), .ptr id ep 0 => match st.heap.get id, szOf P el with
    | some (.cells elem _ _ _ _), some (n + 1) => match Nat.beq elem el, cell st id ep n with
      | true, some _ => some (.ptr id ep 0)
      | _, _ => none
    | _, _ => none
  | _, _, _ => none
noncomputable def convB (P : Program) (st : St) (s t : TypeId) (a : AV) : Option AV :=
  match convA P s t a with
  | some v => some v
  | none => match bytesC P st s t a with
    | some v => some v
    | none => ptrC P st s t a
def fldA (P : Program) (t : TypeId) (f : Nat) : Option Field :=
  match P.underlying t with
  | some (.struct fs) => fs[f]?
  | _ => none
/-- An index in bounds. -/
def idxA (i : Int) (len : Nat) : Option Nat :=
  match i with
  | .ofNat m => match Nat.blt m len with | true => some m | false => none
  | .negSucc _ => none
def boundA (v : AV) (y : Nat) : Option Nat :=
  match v with
  | .int _ (.ofNat m) => match Nat.ble m y with | true => some m | false => none
  | _ => none
def optA (v : Option AV) (y d : Nat) : Option Nat :=
  match v with
  | some v => boundA v y
  | none => some d
noncomputable def sliceA (P : Program) (st : St) (t : TypeId) (x : AV) (lo hi mx : Option AV) : Option AV :=
  match P.underlying t, x with
  | some (.array n el), .ptr id ep off =>
    match szOf P el, st.heap.get id with
    | some (sz' + 1), some (.cells _ _ top lat _) =>
      let sz := sz' + 1
      match Nat.beq ep lat, Nat.ble (off + n * sz) top with
      | true, true => match mx with
        | none => (optA hi n n).bind fun h => (optA lo h 0).bind fun l => some (.slice id ep (off + l * sz) (h - l) (n - l) true sz)
        | some _ => none
      | _, _ => none
    | _, _ => none
  | some (.slice el), .slice id ep off len cap ex sz =>
    match szOf P el with
    | some sz' => match Nat.beq sz sz' with
      | true => match mx with
        | some mx => (boundA mx cap).bind fun m => (optA hi m len).bind fun h => (optA lo h 0).bind fun l => match hi with | some _ => some (.slice id ep (off + l * sz) (h - l) (m - l) true sz) | none => none
        | none => (optA hi cap len).bind fun h => (optA lo h 0).bind fun l => some (.slice id ep (off + l * sz) (h - l) (cap - l) ex sz)
      | false => none
    | none => none
  | some (.slice el), .nils =>
    match szOf P el with
    | some _ => match mx with
      | some _ => none
      | none => (optA hi 0 0).bind fun h => (optA lo h 0).bind fun l => some .nils
    | none => none
  | some .string, .str s =>
    match mx with
    | some _ => none
    | none => (optA hi s.length s.length).bind fun h => (optA lo h 0).bind fun l => some (.str ((s.drop l).take (h - l)))
  | _, _ => none
def lenA (P : Program) (st : St) (t : TypeId) (x : AV) (hp : Nat → Option Rec) : Option Nat :=
  match P.underlying t, x with
  | some .string, .str s => some s.length
  | some (.array n _), _ => some n
  | some (.pointer a), _ => match P.underlying a with | some (.array n _) => some n | _ => none
  | some (.slice _), .slice _ _ _ l _ _ _ => some l
  | some (.slice _), .nils => some 0
  | some (.map _ _), .nilm => some 0
  | some (.map _ _), .map id => match hp id with | some (.map es _) => some es.length | _ => none
  | _, _ => none
def okA (ok : Bool) (v : AV) (b : Bool) : AV :=
  match ok with
  | true => .tup [v, .bool b]
  | false => v
def lookR (P : Program) (et : TypeId) (ok : Bool) (r : Option (Option (Nat × AV))) : Option AV :=
  match r with
  | some (some (_, v)) => some (okA ok v true)
  | some none => match zeroA P et with
    | some z => some (okA ok z false)
    | none => none
  | none => none
noncomputable def lookA (P : Program) (st : St) (t : TypeId) (x k : AV) (ok : Bool) : Option AV :=
  match P.underlying t with
  | some (.map kt et) => match ckA P 8 kt k with
    | true => match x with
      | .nilm => lookR P et ok (some none)
      | .map id => match st.heap.get id with
        | some (.map es _) => lookR P et ok (findA P st kt k es 0)
        | some (.bag es) => (match P.underlying kt, k, bagA k es with | some .string, .str _, some v => some (okA ok v true) | _, _, _ => none)
        | _ => none
      | _ => none
    | false => none
  | _ => none
def setMany : List AV → Nat → List AV → List AV
  | l, _, [] => l
  | l, off, v :: vs => setMany (l.set off v) (off + 1) vs
def fillA (place : Nat → Option (Nat × Nat)) : List AV → List (Nat × AV) → Option (List AV)
  | l, [] => some l
  | l, (i, v) :: rest => match place i with
    | some (off, sz) => match Nat.beq v.cells.length sz, Nat.ble (off + v.cells.length) l.length with
      | true, true => fillA place (setMany l off v.cells) rest
      | _, _ => none
    | none => none
def fieldsPl (P : Program) (fs : Array Field) (i : Nat) : Option (Nat × Nat) :=
  match fs[i]? with
  | some f => (szOf P f.type).map fun n => (f.offset, n)
  | none => none
def allSz (P : Program) (fs : Array Field) : Bool := fs.toList.all fun f => (szOf P f.type).isSome
def buildA (P : Program) (t : TypeId) (parts : List (Nat × AV)) : Option AV :=
  match zeroA P t with
  | some z => match P.underlying t with
    | some (.struct fs) => match allSz P fs with
      | true => (fillA (fieldsPl P fs) z.cells parts).map .agg
      | false => none
    | some (.array _ e) => match szOf P e with
      | some n => (fillA (fun i => some (i * n, n)) z.cells parts).map .agg
      | none => none
    | _ => none
  | none => none
def pickMM (mx : Bool) (x y : Int) : Int :=
  match mx with
  | true => match decide (y > x) with | true => y | false => x
  | false => match decide (y < x) with | true => y | false => x
def minMaxA (mx : Bool) : AV → List AV → Option AV
  | a, [] => some a
  | a, b :: rest => match a, b with
    | .int k x, .int _ y => minMaxA mx (.int k (pickMM mx x y)) rest
    | _, _ => none

section
variable {β : Type}
noncomputable def evpK (e : Env) : List (Nat × Operand) → β → (List (Nat × AV) → β) → β
  | [], _, k => k []
  | (i, o) :: os, d, k => evK e o d fun v => evpK e os d fun vs => k ((i, v) :: vs)
noncomputable def evp (e : Env) (os : List (Nat × Operand)) : Option (List (Nat × AV)) := evpK e os none some
theorem evpK_eq (e : Env) (os : List (Nat × Operand)) (d : β) (k : List (Nat × AV) → β) : evpK e os d k = match evp e os with | some v => k v | none => d := by
  unfold evp
  induction os generalizing β d k with
  | nil => rfl
  | cons o os ih =>
    obtain ⟨i, o⟩ := o
    simp only [evpK]
    rw [evK_eq, evK_eq]
    cases ev e o with
    | none => rfl
    | some v =>
      simp only []
      rw [ih, ih (k := fun vs => some ((i, v) :: vs))]
      cases evpK e os none some <;> rfl
theorem evp_cons (e : Env) (i : Nat) (o : Operand) (os : List (Nat × Operand)) : evp e ((i, o) :: os) = match ev e o, evp e os with | some v, some vs => some ((i, v) :: vs) | _, _ => none := by
  show evpK e ((i, o) :: os) none some = _
  simp only [evpK]
  rw [evK_eq]
  cases ev e o with
  | none => rfl
  | some v => simp only []; rw [evpK_eq]; cases evp e os <;> rfl
noncomputable def evoK (e : Env) (o : Option Operand) (d : β) (k : Option AV → β) : β :=
  match o with
  | some o => evK e o d fun v => k (some v)
  | none => k none
noncomputable def evo (e : Env) (o : Option Operand) : Option (Option AV) := evoK e o none some
theorem evoK_eq (e : Env) (o : Option Operand) (d : β) (k : Option AV → β) : evoK e o d k = match evo e o with | some v => k v | none => d := by
  unfold evo evoK
  cases o with
  | none => rfl
  | some o => simp only []; rw [evK_eq, evK_eq]; cases ev e o <;> rfl
/-- A result handed on in normal form. -/
noncomputable def outK (r : Option AV) (d : β) (k : AV → β) : β :=
  match r with
  | some v => forceK v k
  | none => d
theorem outK_eq (r : Option AV) (d : β) (k : AV → β) : outK r d k = match r with | some v => k v | none => d := by
  unfold outK; cases r <;> simp only [forceK_eq]
noncomputable def aggK (r : Option AV) (d : β) (k : AV → β) : β :=
  match r with
  | some (.agg l) => listK l fun l => k (.agg l)
  | some v => k v
  | none => d
theorem aggK_eq (r : Option AV) (d : β) (k : AV → β) : aggK r d k = match r with | some v => k v | none => d := by
  unfold aggK; cases r with
  | none => rfl
  | some v => cases v <;> simp only [listK_eq]
noncomputable def opQK (P : Program) (st : St) (e : Env) (o : Oper) (d : β) (k : AV → β) : β :=
  match o.op with
  | .move x => evK e x d k
  | .assign x => evK e x d k
  | .pick c a b => evK e c d fun c => match c with | .bool true => evK e a d k | .bool false => evK e b d k | _ => d
  | .load t a => evK e a d fun a => match a with | .ptr id ep off => loadK P st t id ep off d k | _ => d
  | .nilCheck x => evK e x d fun v => match v with | .ptr a b c => k (.ptr a b c) | .fn a b c => k (.fn a b c) | .iface a b => k (.iface a b) | .slice a b c l m x z => k (.slice a b c l m x z) | .map a => k (.map a) | _ => d
  | .binOp op t x y _ => evK e x d fun a => evK e y d fun b => outK (binA P st op t x y a b) d k
  | .unOp op _ x => evK e x d fun a => outK (unA op a) d k
  | .convert s t x => evK e x d fun a => outK (convB P st s t a) d k
  | .extract x i => evK e x d fun v => match v with | .tup l => (match l[i]? with | some v => k v | none => d) | _ => d
  | .makeFunc (.func f) a b => evsK e a.toList d fun a => evsK e b.toList d fun b => k (.fn f a b)
  | .makeInterface t x => evK e x d fun v => match P.underlying t with | some (.interface _) => d | some _ => k (.iface t v) | none => d
  | .field t x f => evK e x d fun v => match v with | .agg l => (match fldA P t f with | some f => aggK (partA P f.type l f.offset) d k | none => d) | _ => d
  | .fieldAddr t x f => evK e x d fun v => match v with
    | .ptr id ep off => (match fldA P t f with
      | some f => (match szOf P f.type with
        | some (_ + 1) => natK (off + f.offset) fun off => k (.ptr id ep off)
        | _ => d)
      | none => d)
    | _ => d
  | .indexAddr t x i => evK e x d fun v => evK e i d fun j => match j with
    | .int _ j => (match P.underlying t, v with
      | some (.array len el), .ptr id ep off => (match idxA j len, szOf P el with | some j, some sz => natK (off + j * sz) fun off => k (.ptr id ep off) | _, _ => d)
      | some (.slice el), .slice id ep off len _ _ sz => (match idxA j len, szOf P el with | some j, some sz' => (match Nat.beq sz sz' with | true => natK (off + j * sz) fun off => k (.ptr id ep off) | false => d) | _, _ => d)
      | _, _ => d)
    | _ => d
  | .index t x i => evK e x d fun v => evK e i d fun j => match j with
    | .int _ j => (match P.underlying t, v with
      | some (.array len el), .agg l => (match idxA j len, szOf P el with | some j, some sz => aggK (partA P el l (j * sz)) d k | _, _ => d)
      | some .string, .str s => (match idxA j s.length with | some j => (match s[j]? with | some b => outK (some (.int .u8 (.ofNat b))) d k | none => d) | none => d)
      | _, _ => d)
    | _ => d
  | .slice t x lo hi mx => evK e x d fun v => evoK e lo d fun lo => evoK e hi d fun hi => evoK e mx d fun mx => outK (sliceA P st t v lo hi mx) d k
  | .lookup t x i ok => evK e x d fun v => evK e i d fun i => match lookA P st t v i ok with | some v => k v | none => d
  | .build t parts => evpK e parts.toList d fun ps => aggK (buildA P t ps) d k
  | .call c => (match c.callee with
    | .builtin .len => (match c.args.toList, c.argTypes[0]? with
      | [x], some t => evK e x d fun v => (match lenA P st t v st.heap.get with | some n => natK n fun n => k (.int .i64 (.ofNat n)) | none => d)
      | _, _ => d)
    | .builtin .min => evsK e c.args.toList d fun l => (match l with | a :: l => outK (minMaxA false a l) d k | [] => d)
    | .builtin .max => evsK e c.args.toList d fun l => (match l with | a :: l => outK (minMaxA true a l) d k | [] => d)
    | _ => d)
  | _ => d
noncomputable def opQ (P : Program) (st : St) (e : Env) (o : Oper) : Option AV := opQK P st e o none some
theorem opQK_eq (P : Program) (st : St) (e : Env) (o : Oper) (d : β) (k : AV → β) : opQK P st e o d k = match opQ P st e o with | some v => k v | none => d := by
  unfold opQ opQK
  obtain ⟨dst, op, type, pos, after, guard⟩ := o
  cases op <;> simp only [evK_eq, loadK_eq, outK_eq, aggK_eq, evsK_eq, evpK_eq, evoK_eq, natK_eq]
  all_goals (try rfl)
  case makeFunc fn first captured =>
    cases fn <;> first | rfl | skip
    simp only []
    cases evs e first.toList with
    | none => rfl
    | some a => simp only []; cases evs e captured.toList <;> rfl
  case call c =>
    obtain ⟨cl, args, tys⟩ := c
    cases cl <;> first | rfl | skip
    rename_i b
    cases b <;> first | rfl | skip
    all_goals simp only []
    · split
      · rename_i x t _ _
        cases ev e x with
        | none => rfl
        | some v => simp only []; cases lenA P st t v st.heap.get <;> rfl
      · rfl
    all_goals (cases evs e args.toList with
      | none => rfl
      | some l => cases l with
        | nil => rfl
        | cons a l => simp only []; first | (cases minMaxA true a l <;> rfl) | (cases minMaxA false a l <;> rfl))
  all_goals (repeat' (first | rfl | split))
  all_goals (try (simp_all; done))
end
end Go.Eng
/- The quiet operations: the model computes what the abstract ones say. -/
namespace Go.Eng
set_option linter.unusedVariables false
variable [Sym]

section
variable {B : Nat → Prop} {ρ : Rho} {st : St} {w : World} {P : Program} {e : Env} {a : Act}
theorem ev_rel (ht : TRel ρ e a.tmps) {x : Operand} {v : AV} (h : ev e x = some v) : VRel ρ v (a.eval x) := by
  unfold ev evK at h
  cases x with
  | tmp t =>
    simp only [] at h
    split at h
    · rename_i v0 hv
      cases h
      obtain ⟨v', h1, h2⟩ := ht _ _ hv
      simpa [Act.eval, h1] using h2
    · cases h
  | const v0 =>
    simp only [] at h
    split at h
    · rename_i v1 hv; cases h; exact ofV_rel ρ _ _ _ hv
    · cases h
  | global g => cases h
  | func f => cases h; exact .fn _ _ _ _ _ .nil .nil
theorem evs_rel (ht : TRel ρ e a.tmps) : ∀ (xs : List Operand) (vs : List AV), evs e xs = some vs → VsRel ρ vs (xs.map a.eval) := by
  intro xs
  induction xs with
  | nil => intro vs h; cases h; exact .nil
  | cons x xs ih =>
    intro vs h
    rw [evs_cons] at h
    split at h
    · rename_i v1 v2 h1 h2; cases h; exact .cons _ _ _ _ (ev_rel ht h1) (ih _ h2)
    · cases h
theorem evs_relA (ht : TRel ρ e a.tmps) (xs : Array Operand) (vs : List AV) (h : evs e xs.toList = some vs) : VsRel ρ vs (xs.map a.eval).toList := by
  rw [Array.toList_map]; exact evs_rel ht _ _ h
theorem guard_run {op : BinOp} {t : TypeId} {x y : Operand} {u v : AV} {u' v' : Value} (hu : VRel ρ u u') (hv : VRel ρ v v') (hg : guardA P t x y u v = true) : (eqGuard op t x y u' v').run P w = .ok () w := by
  unfold eqGuard
  cases op <;> first | rfl | (cases hu <;> cases hv <;> first | rfl | skip)
  all_goals first
    | (simp only [guardA, Bool.not_eq_true'] at hg
       simp only [Bool.not_true, Bool.false_eq_true, if_false, Sem.run_bind, run_program, Result.andThen_ok, hg, Bool.not_false, if_true, Sem.run_pure]
       done)
    | (cases x <;> cases y <;> first | rfl | (simp [guardA, isConstO] at hg))
theorem guard_int {op : BinOp} {t : TypeId} {x y : Operand} {k k' : IntKind} {m n : Int} : (eqGuard op t x y (.int k m) (.int k' n)).run P w = .ok () w := by
  unfold eqGuard; cases op <;> rfl
theorem guard_str {op : BinOp} {t : TypeId} {x y : Operand} {m n : ByteArray} : (eqGuard op t x y (.string m) (.string n)).run P w = .ok () w := by
  unfold eqGuard; cases op <;> rfl
theorem ltA_eq : ∀ (x y : List UInt8), Op.bytesLess x y = ltA (x.map UInt8.toNat) (y.map UInt8.toNat) := by
  intro x
  induction x with
  | nil => intro y; cases y <;> rfl
  | cons a x ih =>
    intro y
    cases y with
    | nil => rfl
    | cons b y =>
      simp only [Op.bytesLess, List.map_cons, ltA, ih]
      congr 1
      · rw [Bool.eq_iff_iff]; simp [Nat.blt_eq, UInt8.lt_iff_toNat_lt]
      · congr 1
        rw [Bool.eq_iff_iff]; simp [Nat.beq_eq, ← UInt8.toNat_inj]
theorem strA_run {op : BinOp} {m n : List Nat} {s s' : ByteArray} {v : AV} (h1 : s.data.toList.map UInt8.toNat = m) (h2 : s'.data.toList.map UInt8.toNat = n) (h : strA op m n = some v) :
    ∃ v', (∀ ρ, VRel ρ v v') ∧ (Op.stringOp op s s').run P w = .ok v' w := by
  have e1 : (s.toList == s'.toList) = decide (m = n) := strEq_run h1 h2
  have e2 : Op.bytesLess s.toList s'.toList = ltA m n := by rw [ByteArray.toList_eq, ByteArray.toList_eq, ltA_eq, h1, h2]
  unfold strA at h
  unfold Op.stringOp
  split at h
  · split at h
    · rename_i hb
      cases h
      have hs1 : s.size = m.length := by rw [← h1, List.length_map, Array.length_toList]; rfl
      have hs2 : s'.size = n.length := by rw [← h2, List.length_map, Array.length_toList]; rfl
      have hle : m.length + n.length ≤ 4611686018427387904 := Nat.le_of_ble_eq_true hb
      refine ⟨.string (s ++ s'), fun ρ => .str _ _ ?_, ?_⟩
      · rw [← h1, ← h2]; simp
      · simp only []
        rw [if_neg (by rw [hs1, hs2]; show ¬ ((m.length + n.length : Nat) : Int) > 9223372036854775807; omega)]
        rfl
    · cases h
  all_goals first
    | (cases h; done)
    | (cases h; exact ⟨_, fun ρ => .bool _, by simp only [e1, e2]; rfl⟩)
theorem symA_ints {op : BinOp} {u v r : AV} {u' v' : Value} (hu : VRel ρ u u') (hv : VRel ρ v v') (hr : symA op u v = some r) : ∃ k m k' n, u' = .int k m ∧ v' = .int k' n := by
  unfold symA at hr
  split at hr <;> (try (cases hr; done)) <;> cases hu <;> cases hv <;> exact ⟨_, _, _, _, rfl, rfl⟩
theorem symA_run {op : BinOp} {u v r : AV} {u' v' : Value} (hu : VRel ρ u u') (hv : VRel ρ v v') (hr : symA op u v = some r) :
    ∃ r', VRel ρ r r' ∧ ∀ t, (binOp op t u' v').run P w = .ok r' w := by
  have key : ∀ (k : IntKind) (a b : Nat ⊕ Int), (Sym.bin op k a b).map (symR k) = some r → ∃ r', VRel ρ r r' ∧ ∀ t, (binOp op t (.int k (Sum.elim Sym.val id a)) (.int k (Sum.elim Sym.val id b))).run P w = .ok r' w := by
    intro k a b h
    rw [Option.map_eq_some_iff] at h
    obtain ⟨q, hq, rfl⟩ := h
    refine ⟨Sum.elim Value.bool (fun i => Value.int k (Sum.elim Sym.val id i)) q, ?_, fun t => Sym.bin_ok op k a b q hq P w t⟩
    cases q with
    | inl b => exact .bool _
    | inr i =>
      cases i with
      | inl i => exact .sym _ _
      | inr n => exact .int _ _
  unfold symA at hr
  split at hr <;> (try (cases hr; done))
  all_goals
    split at hr <;> (try (cases hr; done))
    rename_i hk
    have hk := of_decide_eq_true hk
    subst hk
    cases hu; cases hv
    first
      | exact key _ (.inl _) (.inl _) hr
      | exact key _ (.inl _) (.inr _) hr
      | exact key _ (.inr _) (.inl _) hr
theorem binA_run (h : SRel B ρ st w) {op : BinOp} {t : TypeId} {x y : Operand} {u v r : AV} {u' v' : Value} (hu : VRel ρ u u') (hv : VRel ρ v v') (hr : binA P st op t x y u v = some r) :
    ∃ r', VRel ρ r r' ∧ (do eqGuard op t x y u' v'; binOp op t u' v' : Sem Value).run P w = .ok r' w := by
  unfold binA at hr
  split at hr
  · obtain ⟨r', a1, a2⟩ := symA_run (P := P) (w := w) hu hv hr
    refine ⟨r', a1, ?_⟩
    obtain ⟨k1, n1, k2, n2, rfl, rfl⟩ := symA_ints hu hv hr
    simp only [Sem.run_bind, guard_int, Result.andThen_ok]
    exact a2 t
  · obtain ⟨r', a1, a2⟩ := symA_run (P := P) (w := w) hu hv hr
    refine ⟨r', a1, ?_⟩
    obtain ⟨k1, n1, k2, n2, rfl, rfl⟩ := symA_ints hu hv hr
    simp only [Sem.run_bind, guard_int, Result.andThen_ok]
    exact a2 t
  · cases hu; cases hv
    simp only [Sem.run_bind, guard_int, Result.andThen_ok]
    split at hr
    · obtain ⟨r', a1, a2⟩ := shiftA_run hr; exact ⟨r', a1 ρ, a2 t⟩
    · obtain ⟨r', a1, a2⟩ := shiftA_run hr; exact ⟨r', a1 ρ, a2 t⟩
    · split at hr
      · rename_i hk
        have hk := of_decide_eq_true hk
        subst hk
        obtain ⟨r', a1, a2⟩ := intA_run hr; exact ⟨r', a1 ρ, a2 t⟩
      · cases hr
  · cases hu with
    | str _ s h1 => cases hv with
      | str _ s' h2 =>
        simp only [Sem.run_bind, guard_str, Result.andThen_ok]
        obtain ⟨r', a1, a2⟩ := strA_run (P := P) (w := w) h1 h2 hr
        refine ⟨r', a1 ρ, ?_⟩
        cases op <;> exact a2
  · rename_i hn1 hn2
    split at hr
    · rename_i hg
      cases heq : eqA P st 10000 t u v with
      | none => simp [heq] at hr
      | some b =>
        simp [heq] at hr; subst hr
        have hrun : (Op.equal t u' v').run P w = .ok b w := (eqA_run h 10000).1 _ _ _ _ _ _ hu hv heq
        refine ⟨.bool b, .bool b, ?_⟩
        simp only [Sem.run_bind, guard_run hu hv hg, Result.andThen_ok]
        have : (binOp .eql t u' v').run P w = ((Op.equal t u' v').run P w).andThen fun b w' => .ok (.bool b) w' := by
          cases hu <;> cases hv <;> first
            | (simp [guardA] at hg; done)
            | (exact absurd rfl (hn1 _ _ _ _ rfl))
            | (exact absurd rfl (hn2 _ _ rfl))
            | (simp only [binOp, Sem.run_bind, Sem.run_pure])
        rw [this, hrun]; rfl
    · rename_i hg
      cases heq : eqA P st 10000 t u v with
      | none => simp [heq] at hr
      | some b =>
        simp [heq] at hr; subst hr
        have hrun : (Op.equal t u' v').run P w = .ok b w := (eqA_run h 10000).1 _ _ _ _ _ _ hu hv heq
        refine ⟨.bool (!b), .bool _, ?_⟩
        simp only [Sem.run_bind, guard_run hu hv hg, Result.andThen_ok]
        have : (binOp .neq t u' v').run P w = ((Op.equal t u' v').run P w).andThen fun b w' => .ok (.bool (!b)) w' := by
          cases hu <;> cases hv <;> first
            | (simp [guardA] at hg; done)
            | (exact absurd rfl (hn1 _ _ _ _ rfl))
            | (exact absurd rfl (hn2 _ _ rfl))
            | (simp only [binOp, Sem.run_bind, Sem.run_pure])
        rw [this, hrun]; rfl
    · cases hr
end
end Go.Eng
/- The quiet operations, continued: slices, lengths, parts, look-ups. -/
namespace Go.Eng
set_option linter.unusedVariables false
variable [Sym]

section
variable {B : Nat → Prop} {ρ : Rho} {st : St} {w : World} {P : Program}
theorem idxA_spec {i : Int} {n j : Nat} (h : idxA i n = some j) : i = (j : Int) ∧ j < n := by
  unfold idxA at h
  split at h
  · split at h
    · rename_i hb; cases h; exact ⟨rfl, by simpa [Nat.blt_eq] using hb⟩
    · cases h
  · cases h
theorem boundA_run {v : AV} {v' : Value} {y n : Nat} {code : BoundsCode} (hv : VRel ρ v v') (h : boundA v y = some n) : (Instr.sliceBound v' y code).run P w = .ok n w ∧ n ≤ y := by
  unfold boundA at h
  split at h
  · rename_i k m
    cases hv
    split at h
    · rename_i hb
      cases h
      have hle := Nat.le_of_ble_eq_true hb
      refine ⟨?_, hle⟩
      have e : (Int.ofNat n) = (n : Int) := rfl
      simp only [Instr.sliceBound, asIntOf, Sem.run_bind, Sem.run_pure, Result.andThen_ok, Sem.run_ite, e]
      rw [if_pos ⟨by omega, by omega⟩]
      rfl
    · cases h
  · cases h
/-- An optional bound, abstract and real. -/
inductive ORel (ρ : Rho) : Option AV → Option Value → Prop where
  | none : ORel ρ none none
  | some (v : AV) (v' : Value) (h : VRel ρ v v') : ORel ρ (some v) (some v')
theorem boundA_le {v : AV} {y y2 n : Nat} (h : boundA v y = some n) (hy : y ≤ y2) : boundA v y2 = some n := by
  unfold boundA at h ⊢
  split at h
  · split at h
    · rename_i hb
      cases h
      show (match Nat.ble n y2 with | true => some n | false => none) = some n
      rw [Nat.ble_eq_true_of_le (Nat.le_trans (Nat.le_of_ble_eq_true hb) hy)]
    · cases h
  · cases h
theorem bounds_run {isS : Bool} {len cap rcap : Nat} {lo hi : Option AV} {lo' hi' : Option Value} {h l : Nat} (hlo : ORel ρ lo lo') (hhi : ORel ρ hi hi') (hc : cap ≤ rcap) (h1 : optA hi cap len = some h) (h2 : optA lo h 0 = some l) :
    (Instr.sliceBounds isS len rcap lo' hi' none).run P w = .ok (l, h, rcap) w ∧ l ≤ h ∧ (h ≤ cap ∨ h = len) := by
  cases hhi with
  | none =>
    simp only [optA] at h1; cases h1
    cases hlo with
    | none => simp only [optA] at h2; cases h2; exact ⟨rfl, by omega, .inr rfl⟩
    | some v v' hv =>
      simp only [optA] at h2
      refine ⟨?_, (boundA_run (P := P) (w := w) (code := .index) hv h2).2, .inr rfl⟩
      simp only [Instr.sliceBounds, Sem.run_bind, Sem.run_pure, Result.andThen_ok, (boundA_run hv h2).1]
  | some u u' hu =>
    simp only [optA] at h1
    have hb := boundA_run (P := P) (w := w) (code := if isS then .sliceAcap else .sliceAlen) hu (boundA_le h1 hc)
    have hle : h ≤ cap := (boundA_run (P := P) (w := w) (code := .index) hu h1).2
    cases hlo with
    | none =>
      simp only [optA] at h2; cases h2
      refine ⟨?_, by omega, .inl hle⟩
      simp only [Instr.sliceBounds, Sem.run_bind, Sem.run_pure, Result.andThen_ok, hb.1]
    | some v v' hv =>
      simp only [optA] at h2
      refine ⟨?_, (boundA_run (P := P) (w := w) (code := .index) hv h2).2, .inl hle⟩
      simp only [Instr.sliceBounds, Sem.run_bind, Sem.run_pure, Result.andThen_ok, hb.1, (boundA_run hv h2).1]
theorem bounds3_run {isS : Bool} {len cap rcap : Nat} {lo : Option AV} {hi mx : AV} {lo' : Option Value} {hi' mx' : Value} {m h l : Nat} (hlo : ORel ρ lo lo') (hhi : VRel ρ hi hi') (hmx : VRel ρ mx mx') (hc : cap ≤ rcap) (h0 : boundA mx cap = some m) (h1 : boundA hi m = some h) (h2 : optA lo h 0 = some l) :
    (Instr.sliceBounds isS len rcap lo' (some hi') (some mx')).run P w = .ok (l, h, m) w ∧ l ≤ h ∧ h ≤ m ∧ m ≤ cap := by
  have hb := boundA_le h0 hc
  refine ⟨?_, ?_, (boundA_run (P := P) (w := w) (code := .index) hhi h1).2, (boundA_run (P := P) (w := w) (code := .index) hmx h0).2⟩
  · cases hlo with
    | none => simp only [optA] at h2; cases h2; simp only [Instr.sliceBounds, Sem.run_bind, Sem.run_pure, Result.andThen_ok, (boundA_run hmx hb).1, (boundA_run hhi h1).1]
    | some v v' hv =>
      simp only [optA] at h2
      simp only [Instr.sliceBounds, Sem.run_bind, Sem.run_pure, Result.andThen_ok, (boundA_run hmx hb).1, (boundA_run hhi h1).1, (boundA_run hv h2).1]
  · cases hlo with
    | none => simp only [optA] at h2; cases h2; omega
    | some v v' hv => exact (boundA_run (P := P) (w := w) (code := .index) hv h2).2
theorem und_run {t : TypeId} {d : TypeDesc} (h : P.underlying t = some d) (w : World) : (underlying t).run P w = .ok d w := run_underlying h w
theorem bind3 {α β γ δ : Type} {x : Option α} {f : α → Option β} {g : α → β → Option γ} {k : α → β → γ → δ} {r : δ} (h : (x.bind fun m => (f m).bind fun h => (g m h).bind fun l => some (k m h l)) = some r) :
    ∃ m h l, x = some m ∧ f m = some h ∧ g m h = some l ∧ r = k m h l := by
  cases hx : x with
  | none => simp [hx] at h
  | some m =>
    cases hf : f m with
    | none => simp [hx, hf] at h
    | some b =>
      cases hg : g m b with
      | none => simp [hx, hf, hg] at h
      | some c => simp [hx, hf, hg] at h; exact ⟨m, b, c, rfl, hf, hg, h.symm⟩
theorem bind2 {α β δ : Type} {x : Option α} {f : α → Option β} {k : α → β → δ} {r : δ} (h : (x.bind fun m => (f m).bind fun h => some (k m h)) = some r) :
    ∃ m h, x = some m ∧ f m = some h ∧ r = k m h := by
  cases hx : x with
  | none => simp [hx] at h
  | some m =>
    cases hf : f m with
    | none => simp [hx, hf] at h
    | some b => simp [hx, hf] at h; exact ⟨m, b, rfl, hf, h.symm⟩
theorem cut_addr (p : Pl) {off : Nat} (n m l : Nat) (hb : p.base ≤ off) : (if m = l then (⟨p.blk, off - p.base, none⟩ : Addr) else (⟨p.blk, off - p.base, none⟩ : Addr).add n) = ⟨p.blk, if m = l then off - p.base else off + n - p.base, none⟩ := by
  split
  · rfl
  · exact addr_add p off _ hb
theorem sliceA_run (hs : SRel B ρ st w) {t : TypeId} {x v : AV} {x' : Value} {lo hi mx : Option AV} {lo' hi' mx' : Option Value} (hx : VRel ρ x x') (hlo : ORel ρ lo lo') (hhi : ORel ρ hi hi') (hmx : ORel ρ mx mx') (h : sliceA P st t x lo hi mx = some v) :
    ∃ v', VRel ρ v v' ∧ (Instr.sliceAt t x' lo' hi' mx').run P w = .ok v' w := by
  unfold sliceA at h
  split at h
  · -- an array behind a pointer
    rename_i n el id ep off hu
    cases hx with
    | ptr _ _ _ p hp hb =>
      split at h
      · rename_i sz0 elem c top lat sh hsz hg
        simp only [] at h
        obtain ⟨sz, hsz0⟩ : ∃ sz, sz = sz0 + 1 := ⟨_, rfl⟩
        rw [← hsz0] at h
        split at h
        · rename_i q1 q2
          have q1 := Nat.eq_of_beq_eq_true q1
          have q2 := Nat.le_of_ble_eq_true q2
          subst q1
          obtain ⟨_, _, _, r, hr, hrel⟩ := hs.mapped _ _ _ hp
          rw [hg] at hr; cases hr
          obtain ⟨cs, lo0, hi0, g1, g2, g3, g4, g5, g6, g7⟩ := hrel
          have room : ∀ m, 0 < m → m ≤ n → off - p.base + m * sz ≤ p.size := by
            intro m hm0 hm
            have h1 : m * sz ≤ n * sz := Nat.mul_le_mul_right _ hm
            have h2 : 0 < m * sz := Nat.mul_pos hm0 (by omega)
            have := g7 rfl (off + m * sz - 1) (by omega) (by omega)
            omega
          have fin : ∀ (l h m : Nat), l ≤ h → h ≤ m → m ≤ n → VRel ρ (.slice id ep (off + l * sz) (h - l) (m - l) true sz) (.slice (some ⟨p.blk, if m = l then off - p.base else off + l * sz - p.base, none⟩) (h - l) (m - l)) := by
            intro l h m a b c
            refine .slice _ _ _ _ _ _ _ _ _ p hp (by omega) (Nat.le_refl _) (fun _ => rfl) (by omega) (fun hc => by rw [if_neg (by omega)]) (fun hc => ?_)
            have h3 : (m - l) * sz + l * sz = m * sz := by rw [← Nat.add_mul]; congr 1; omega
            have := room m (by omega) c
            omega
          split at h
          · cases hmx
            obtain ⟨hh, l, e1, e2, rfl⟩ := bind2 h
            obtain ⟨hr, a1, a2⟩ := bounds_run (P := P) (w := w) (isS := false) hlo hhi (Nat.le_refl n) e1 e2
            refine ⟨_, fin l hh n a1 (by omega) (Nat.le_refl _), ?_⟩
            simp only [Instr.sliceAt, Sem.run_bind, run_underlying hu, Result.andThen_ok, Instr.sureAddr, Sem.run_pure, hr, sizeOf_run hsz, Nat.succ_eq_add_one, ← hsz0, cut_addr p _ _ _ hb]
          · cases h
        · cases h
      · cases h
  · rename_i el id ep off len cap ex sz hu
    cases hx with
    | slice _ _ _ _ _ _ _ cap' o p hp hb hc he hl ho hsz =>
      split at h
      · rename_i sz' hsz'
        split at h
        · rename_i q1
          have q1 := Nat.eq_of_beq_eq_true q1
          subst q1
          have fin : ∀ (l h m m' : Nat) (x : Bool), l ≤ h → h ≤ m → m ≤ m' → m' ≤ cap' → (x = true → m' = m) → VRel ρ (.slice id ep (off + l * sz) (h - l) (m - l) x sz) (.slice (if m' = l then some ⟨p.blk, o, none⟩ else (some (⟨p.blk, o, none⟩ : Addr)).map (·.add (l * sz))) (h - l) (m' - l)) := by
            intro l h m m' x a b c d f
            have e0 : ∃ o', (if m' = l then some (⟨p.blk, o, none⟩ : Addr) else (some (⟨p.blk, o, none⟩ : Addr)).map (·.add (l * sz))) = some ⟨p.blk, o', none⟩ ∧ (0 < m' - l → o' = off + l * sz - p.base) := by
              by_cases hml : m' = l
              · exact ⟨o, by rw [if_pos hml], fun hh => by omega⟩
              · rw [if_neg hml]
                have hoo := ho (by omega)
                subst hoo
                exact ⟨off + l * sz - p.base, by simp [addr_add p off _ hb], fun _ => rfl⟩
            obtain ⟨o', e1, e2⟩ := e0
            rw [e1]
            refine .slice _ _ _ _ _ _ _ _ _ p hp (by omega) (by omega) (fun hx => by rw [f hx]) (by omega) e2 (fun hh => ?_)
            have h3 : (m' - l) * sz + l * sz = m' * sz := by rw [← Nat.add_mul]; congr 1; omega
            have h4 : m' * sz ≤ cap' * sz := Nat.mul_le_mul_right _ d
            have := hsz (by omega)
            omega
          split at h
          · -- with a bound of capacity
            rename_i mx0
            cases hmx with
            | some _ u' hu' =>
              cases hhi with
              | none =>
                exfalso
                cases hbm : boundA mx0 cap <;> simp [hbm] at h
              | some z z' hz =>
                simp only [] at h
                obtain ⟨m, hh, l, e1, e2, e3, rfl⟩ := bind3 h
                obtain ⟨a, b, c, d⟩ := bounds3_run (P := P) (w := w) (isS := true) (len := len) hlo hz hu' hc e1 e2 e3
                refine ⟨_, fin l hh m m true b c (Nat.le_refl _) (by omega) (fun _ => rfl), ?_⟩
                simp only [Instr.sliceAt, Instr.slice, Sem.run_bind, run_underlying hu, Result.andThen_ok, a, sizeOf_run hsz', Sem.run_pure]
          · cases hmx
            obtain ⟨hh, l, e1, e2, rfl⟩ := bind2 h
            obtain ⟨a, b, c⟩ := bounds_run (P := P) (w := w) (isS := true) hlo hhi hc e1 e2
            refine ⟨_, fin l hh cap cap' ex b (by omega) hc (Nat.le_refl _) he, ?_⟩
            simp only [Instr.sliceAt, Instr.slice, Sem.run_bind, run_underlying hu, Result.andThen_ok, a, sizeOf_run hsz', Sem.run_pure]
        · cases h
      · cases h
  · rename_i el hu
    cases hx
    split at h
    · rename_i sz' hsz'
      split at h
      · cases h
      · cases hmx
        obtain ⟨hh, l, e1, e2, rfl⟩ := bind2 h
        obtain ⟨a, b, c⟩ := bounds_run (P := P) (w := w) (isS := true) hlo hhi (Nat.le_refl 0) e1 e2
        obtain rfl : hh = 0 := by omega
        obtain rfl : l = 0 := by omega
        refine ⟨_, .nils, ?_⟩
        simp only [Instr.sliceAt, Instr.slice, Sem.run_bind, run_underlying hu, Result.andThen_ok, a, sizeOf_run hsz', Sem.run_pure]
        rfl
    · cases h
  · rename_i s hu
    cases hx with
    | str _ s' hs' =>
      split at h
      · cases h
      · cases hmx
        obtain ⟨hh, l, e1, e2, rfl⟩ := bind2 h
        have hsz : s'.size = s.length := by rw [← hs', List.length_map, Array.length_toList]; rfl
        obtain ⟨a, b, c⟩ := bounds_run (P := P) (w := w) (isS := false) hlo hhi (Nat.le_refl s.length) e1 e2
        refine ⟨.string (s'.extract l hh), .str _ _ ?_, ?_⟩
        · rw [← hs']
          simp [ByteArray.data_extract, List.extract_eq_take_drop, List.map_take, List.map_drop]
        · simp only [Instr.sliceAt, Instr.slice, Sem.run_bind, run_underlying hu, Result.andThen_ok, Option.isSome, Bool.false_eq_true, if_false, hsz, a, Sem.run_pure]
  · cases h
end
end Go.Eng
/- The quiet operations, ended: what the model computes is what the abstract operation says. -/
namespace Go.Eng
set_option linter.unusedVariables false
variable [Sym]

section
variable {B : Nat → Prop} {ρ : Rho} {st : St} {w : World} {P : Program} {e : Env} {a : Act}
theorem unA_run {op : UnOp} {x v : AV} {x' : Value} (hx : VRel ρ x x') (h : unA op x = some v) : ∃ v', VRel ρ v v' ∧ (Op.unary op x').run P w = .ok v' w := by
  unfold unA at h
  split at h
  · cases hx; cases h; rw [wrapF_eq]; exact ⟨_, .int _ _, rfl⟩
  · cases hx; cases h; exact ⟨_, .int _ _, rfl⟩
  · cases hx; cases h; exact ⟨_, .bool _, rfl⟩
  · cases h
theorem convA_run {s t : TypeId} {x v : AV} {x' : Value} (hx : VRel ρ x x') (h : convA P s t x = some v) : ∃ v', VRel ρ v v' ∧ (convert s t x').run P w = .ok v' w := by
  unfold convA at h
  split at h
  · rename_i u k k0 n h1 h2
    cases hx; cases h
    rw [wrapF_eq]
    refine ⟨_, .int _ _, ?_⟩
    simp only [convert, Sem.run_bind, run_underlying h1, run_underlying h2, Result.andThen_ok]
    rfl
  · rename_i u k k0 i h1 h2
    cases hx
    rw [Option.map_eq_some_iff] at h
    obtain ⟨j, hj, rfl⟩ := h
    refine ⟨_, .sym _ _, ?_⟩
    simp only [convert, Sem.run_bind, run_underlying h1, run_underlying h2, Result.andThen_ok]
    rw [← Sym.conv_ok k i j hj]
    rfl
  · rename_i u s0 h1 h2
    cases hx with
    | str _ s' hs => 
      cases h
      refine ⟨_, .str _ _ hs, ?_⟩
      simp only [convert, Sem.run_bind, run_underlying h1, run_underlying h2, Result.andThen_ok]
      rfl
  · cases h
theorem bytesA_vals {ρ : Rho} : ∀ (l : List AV) (r : List Nat) (vs : List Value), bytesA l = some r → VsRel ρ l vs → vs = (r.map (fun n : Nat => (n : Int))).map (Value.int .u8) ∧ ∀ n ∈ r, n < 256 := by
  intro l
  induction l with
  | nil =>
    intro r vs h hv
    cases h
    cases hv
    exact ⟨rfl, fun _ hn => by cases hn⟩
  | cons a l ih =>
    intro r vs h hv
    cases hv with
    | cons _ v' _ vs hx hl =>
      unfold bytesA at h
      split at h
      · rename_i e; cases e
      · rename_i n l' e
        cases e
        split at h
        · rename_i hlt
          split at h
          · rename_i r' hr
            cases h
            obtain ⟨h1, h2⟩ := ih _ _ hr hl
            cases hx
            refine ⟨by rw [h1]; rfl, fun m hm => ?_⟩
            rcases List.mem_cons.1 hm with rfl | hm
            · simpa [Nat.blt_eq] using hlt
            · exact h2 m hm
          · cases h
        · cases h
      · cases h
theorem push_bytes : ∀ (r : List Nat) (s : ByteArray), (∀ n ∈ r, n < 256) → ((r.map (fun n : Nat => (n : Int))).foldl (fun (r : ByteArray) n => r.push (UInt8.ofNat n.toNat)) s).data.toList.map UInt8.toNat = s.data.toList.map UInt8.toNat ++ r := by
  intro r
  induction r with
  | nil => intro s _; simp
  | cons n r ih =>
    intro s h
    simp only [List.map_cons, List.foldl_cons]
    rw [ih _ (fun m hm => h m (List.mem_cons_of_mem _ hm))]
    have hn := h n (List.mem_cons_self ..)
    simp [ByteArray.push]
    omega
theorem bytesC_run (hs : SRel B ρ st w) {s t : TypeId} {x v : AV} {x' : Value} (hx : VRel ρ x x') (h : bytesC P st s t x = some v) : ∃ v', VRel ρ v v' ∧ (convert s t x').run P w = .ok v' w := by
  unfold bytesC at h
  split at h
  · rename_i el h1 h2
    split at h
    · rename_i h3
      cases h
      cases hx
      exact ⟨.string .empty, .str _ _ rfl, by rw [run_convert_bytes_string w s t el _ _ _ h1 h3 h2]; rfl⟩
    · cases h
  · rename_i el id ep off len cap ex sz h1 h2
    split at h
    · rename_i h3 hsz
      split at h
      · rename_i l hl
        split at h
        · rename_i r hr
          cases h
          obtain ⟨cap', o, p, rfl, hp, hb, hc, he, hlc, ho, hsz'⟩ := hx.slice_inv
          have hload : ∃ vs, VsRel ρ l vs ∧ (loadCells ⟨p.blk, o, none⟩ len).run P w = .ok vs.toArray w := by
            by_cases h0 : len = 0
            · subst h0
              have : l = [] := by simpa [cellsOf, cellsK] using hl.symm
              subst this
              exact ⟨[], .nil, rfl⟩
            · have := ho (by omega)
              subst this
              obtain ⟨vs', hv, hrun⟩ := hs.loadCells (P := P) hp off hb len 0 l #[] (by simpa using hl)
              exact ⟨vs', hv, by simpa [loadCells] using hrun⟩
          obtain ⟨vs, hv, hrun⟩ := hload
          obtain ⟨h5, h6⟩ := bytesA_vals _ _ _ hr hv
          rw [h5] at hrun
          refine ⟨_, .str _ _ ?_, by rw [run_convert_bytes_string w s t el _ _ _ h1 h3 h2]; exact run_bytesToString w _ _ _ _ hrun⟩
          rw [push_bytes _ _ h6]
          rfl
        · cases h
      · cases h
    · cases h
  · cases h
theorem cellsOf_sz {t : TypeId} {n : Nat} (h : szOf P t = some n) : P.cellsOf t = n := by
  unfold Program.cellsOf
  unfold szOf at h
  rw [h]; rfl
theorem headLies {e : TypeId} {n c : Nat} (he : P.cellsOf e = n + 1) (hc : n < c) : liesAt P P.depth e (c / P.cellsOf e) 0 e 1 = true := by
  have hd : P.depth = (2 * (P.types.size + Made.depth) + 1) + 1 := rfl
  have hq : 1 ≤ c / (n + 1) := (Nat.one_le_div_iff (by omega)).2 (by omega)
  rw [hd]
  simp only [liesAt, Bool.or_eq_true]
  left
  rw [hd]
  simp [rowAt, he, sameLayout, hq]
/-- A known cell lies in its block. -/
theorem cell_in (hs : SRel B ρ st w) {id ep off : Nat} {p : Pl} {v : AV} (hp : ρ id ep = some p) (hb : p.base ≤ off) (hc : cell st id ep off = some v) :
    ∃ elem c top lat sh cs lo hi, st.heap.get id = some (.cells elem c top lat sh) ∧ w.heap[p.blk]? = some (.cells cs elem (lo, hi)) ∧ off - p.base < cs.size := by
  obtain ⟨v', h1, _⟩ := hs.cell hp hb hc
  obtain ⟨_, _, _, r, hr, hrel⟩ := hs.mapped _ _ _ hp
  unfold Eng.cell cellK at hc
  rw [hr] at hc
  cases r <;> simp only [] at hc <;> (try (cases hc; done))
  rename_i elem c top lat sh
  obtain ⟨cs, lo, hi, g1, _⟩ := hrel
  refine ⟨elem, c, top, lat, sh, cs, lo, hi, hr, g1, ?_⟩
  simp only [World.cell?, g1] at h1
  exact (Array.getElem?_eq_some_iff.1 (by simpa using h1)).1
theorem ptrC_run (hs : SRel B ρ st w) {s t : TypeId} {x v : AV} {x' : Value} (hx : VRel ρ x x') (h : ptrC P st s t x = some v) : ∃ v', VRel ρ v v' ∧ (convert s t x').run P w = .ok v' w := by
  unfold ptrC at h
  split at h
  · rename_i el id ep h1 h2
    split at h
    · rename_i n v0 h3 h4
      cases h
      obtain ⟨p, rfl, hp, hb⟩ := hx.ptr_inv
      obtain ⟨elem, c, top, lat, sh, cs, lo, hi, g1, g2, g3⟩ := cell_in hs hp hb h4
      refine ⟨_, hx, ?_⟩
      have hsh : w.shape? p.blk = some (elem, cs.size) := by simp [World.shape?, g2]
      obtain ⟨j, hj, hjs⟩ := Option.map_eq_some_iff.1 h3
      exact Lib.run_to_unsafe w _ h1 h2 hj (by omega) hsh g3
    · cases h
  · rename_i el id ep h1 h2
    split at h
    · rename_i elem c top lat sh n g1 h3
      split at h
      · rename_i v0 hb h4
        cases h
        have := Nat.eq_of_beq_eq_true hb
        subst this
        obtain ⟨p, rfl, hp, hb⟩ := hx.ptr_inv
        have hbase : p.base = 0 := by omega
        obtain ⟨elem', c', top', lat', sh', cs, lo, hi, q1, q2, q3⟩ := cell_in hs hp (by omega) h4
        rw [g1] at q1
        cases q1
        refine ⟨_, hx, ?_⟩
        have hsh : w.shape? p.blk = some (elem, cs.size) := by simp [World.shape?, q2]
        obtain ⟨j, hj, hjs⟩ := Option.map_eq_some_iff.1 h3
        have hl := headLies (P := P) (c := cs.size) (cellsOf_sz h3) (by omega)
        have h0 : (0 : Nat) - p.base = 0 := by omega
        rw [h0]
        exact Lib.run_from_unsafe w _ h1 h2 hj hsh hl
      · cases h
    · cases h
  · cases h
theorem convB_run (hs : SRel B ρ st w) {s t : TypeId} {x v : AV} {x' : Value} (hx : VRel ρ x x') (h : convB P st s t x = some v) : ∃ v', VRel ρ v v' ∧ (convert s t x').run P w = .ok v' w := by
  unfold convB at h
  split at h
  · rename_i u hu
    cases h
    exact convA_run hx hu
  · split at h
    · rename_i u hu
      cases h
      exact bytesC_run hs hx hu
    · exact ptrC_run hs hx h
theorem lenA_run (hs : SRel B ρ st w) {t ty : TypeId} {tys : Array TypeId} {x : AV} {x' : Value} {n : Nat} (hx : VRel ρ x x') (ht : tys[0]? = some t) (h : lenA P st t x st.heap.get = some n) : (Builtin.len_ tys ty #[x']).run P w = .ok (.int .i64 n) w := by
  unfold lenA at h
  have h0 : (#[x'] : Array Value)[0]? = some x' := rfl
  split at h
  · rename_i s hu
    cases hx with
    | str _ s' hs' =>
      cases h
      have hsz : s'.size = s.length := by rw [← hs', List.length_map, Array.length_toList]; rfl
      simp only [Builtin.len_, ht, h0, Sem.run_bind, run_underlying hu, Result.andThen_ok, goInt, hsz]; rfl
  · rename_i m el hu
    cases h
    simp only [Builtin.len_, ht, h0, Sem.run_bind, run_underlying hu, Result.andThen_ok]
    cases x' <;> rfl
  · rename_i q hu
    split at h
    · rename_i m el hu2
      cases h
      simp only [Builtin.len_, ht, h0, Sem.run_bind, run_underlying hu, Result.andThen_ok]
      cases x' <;> (simp only [run_underlying hu2, Result.andThen_ok]; rfl)
    · cases h
  · rename_i hu
    cases hx; cases h
    simp only [Builtin.len_, ht, h0, Sem.run_bind, run_underlying hu, Result.andThen_ok]; rfl
  · rename_i hu
    cases hx; cases h
    simp only [Builtin.len_, ht, h0, Sem.run_bind, run_underlying hu, Result.andThen_ok]; rfl
  · rename_i hu
    cases hx; cases h
    simp only [Builtin.len_, ht, h0, Sem.run_bind, run_underlying hu, Result.andThen_ok]; rfl
  · rename_i id hu
    cases hx with
    | map _ p hp =>
      split at h
      · rename_i es clock hg
        cases h
        obtain ⟨_, _, _, r, hr, hrel⟩ := hs.mapped _ _ _ hp
        rw [hg] at hr; cases hr
        obtain ⟨_, es', he, hrl⟩ := hrel
        have hl := hrl.length
        simp only [Builtin.len_, ht, h0, Sem.run_bind, run_underlying hu, Result.andThen_ok, getObj, Sem.run, he, goInt]
        rw [← hl, Array.length_toList]; rfl
      · cases h
  · cases h
def MapAt (w : World) (x' : Value) (es : Array MapEntry) : Prop := (x' = .map none ∧ es = #[]) ∨ ∃ b clock, x' = .map (some b) ∧ w.heap[b]? = some (.map es clock)
theorem look_fin {t kt et : TypeId} {x' k' : Value} {ok : Bool} {es : Array MapEntry} {r' : Option (Nat × Value)} (hu : P.underlying t = some (.map kt et)) (hck : ∀ em, (Instr.checkKey em 10000 kt k').run P w = .ok () w) (hm : MapAt w x' es)
    (hf : (Instr.findKey kt k' es.toList).run P w = .ok r' w) : (Instr.lookup t x' k' ok).run P w = match r' with
      | some (_, v) => .ok (if ok then .tuple #[v, .bool true] else v) w
      | none => ((zeroValue et).run P w).andThen fun z w' => .ok (if ok then .tuple #[z, .bool false] else z) w' := by
  rcases hm with ⟨rfl, rfl⟩ | ⟨b, clock, rfl, hb⟩
  · cases r' with
    | none =>
      simp only [Instr.lookup, Sem.run_bind, run_underlying hu, Result.andThen_ok, Sem.run_pure, hck, hf]
    | some q =>
      simp only [Instr.lookup, Sem.run_bind, run_underlying hu, Result.andThen_ok, Sem.run_pure, hck, hf]
  · cases r' with
    | none =>
      simp only [Instr.lookup, Sem.run_bind, run_underlying hu, Result.andThen_ok, getObj, Sem.run, hb, Sem.run_pure, hck, hf]
    | some q =>
      simp only [Instr.lookup, Sem.run_bind, run_underlying hu, Result.andThen_ok, getObj, Sem.run, hb, Sem.run_pure, hck, hf]
theorem lookA_run (hs : SRel B ρ st w) {t : TypeId} {x k v : AV} {x' k' : Value} {ok : Bool} (hx : VRel ρ x x') (hk : VRel ρ k k') (h : lookA P st t x k ok = some v) : ∃ v', VRel ρ v v' ∧ (Instr.lookup t x' k' ok).run P w = .ok v' w := by
  unfold lookA at h
  split at h
  · rename_i kt et hu
    split at h
    · rename_i hck
      have hkt : ∃ d, P.underlying kt = some d := by
        unfold ckA at hck
        cases hd : P.underlying kt with
        | none => rw [hd] at hck; cases hck
        | some d => exact ⟨d, rfl⟩
      obtain ⟨desc, hkt⟩ := hkt
      have hckr : ∀ em, (Instr.checkKey em 10000 kt k').run P w = .ok () w := fun em => (ckA_run em 9992 w 8).1 _ _ _ hk hck
      have two : ∀ (es : Array MapEntry) (r : Option (Nat × AV)) (r' : Option (Nat × Value)), FindRel ρ r r' → MapAt w x' es → (Instr.findKey kt k' es.toList).run P w = .ok r' w →
          lookR P et ok (some r) = some v → ∃ v', VRel ρ v v' ∧ (Instr.lookup t x' k' ok).run P w = .ok v' w := by
        intro es r r' hf h1 h2 h3
        have hfin := look_fin (ok := ok) hu hckr h1 h2
        unfold lookR at h3
        cases r with
        | some q =>
          obtain ⟨j, u⟩ := q
          obtain ⟨u', rfl, hu'⟩ := hf
          cases h3
          refine ⟨_, ?_, hfin⟩
          cases ok
          · exact hu'
          · exact .tup _ _ (.cons _ _ _ _ hu' (.cons _ _ _ _ (.bool _) .nil))
        | none =>
          cases hf
          simp only [] at h3
          split at h3
          · rename_i z hz
            cases h3
            obtain ⟨z', hz1, hz2⟩ := zeroA_run hz
            simp only [hz2, Result.andThen_ok] at hfin
            refine ⟨_, ?_, hfin⟩
            cases ok
            · exact hz1 ρ
            · exact .tup _ _ (.cons _ _ _ _ (hz1 ρ) (.cons _ _ _ _ (.bool _) .nil))
          · cases h3
      cases hx with
      | nilm =>
        refine two #[] none none rfl (.inl ⟨rfl, rfl⟩) ?_ h
        simp only [Instr.findKey, Sem.run_bind, run_underlying hkt, Result.andThen_ok]; rfl
      | map id p hp =>
        obtain ⟨_, _, _, r, hr, hrel⟩ := hs.mapped _ _ _ hp
        simp only [hr] at h
        cases r <;> simp only [] at h <;> (try (cases h; done))
        · rename_i es clock
          obtain ⟨_, es', he, hrl⟩ := hrel
          cases hfa : findA P st kt k es 0 with
          | none => rw [hfa] at h; simp [lookR] at h
          | some r =>
            rw [hfa] at h
            obtain ⟨r', hf, hrun⟩ := findKey_run hs hkt hk hrl hfa
            exact two es' r r' hf (.inr ⟨_, _, rfl, he⟩) hrun h
        · rename_i es
          obtain ⟨_, es', clock, he, hstr, hbag⟩ := hrel
          split at h <;> (try (cases h; done))
          rename_i s0 v0 hks hba
          cases h
          obtain ⟨e, he1, he2, rfl⟩ := bagA_some hba
          obtain ⟨s, q1, ⟨e1, q2, b1, q3, q4⟩, q5⟩ := hbag e he1
          rw [he2] at q1
          cases q1
          rw [hks] at hkt
          cases hkt
          cases hk with
          | str _ b0 hb0 =>
            have hbb : b1 = b0 := bytes_inj (q4.trans hb0.symm)
            subst hbb
            obtain ⟨j, e', g1, g2, g3⟩ := findNow_str es'.toList 0 hstr ⟨e1, q2, q3⟩
            have hrun : (Instr.findKey kt (.string b1) es'.toList).run P w = .ok (some (j, e'.val)) w := by
              simp only [Instr.findKey, Sem.run_bind, run_underlying hks, Result.andThen_ok, g3, Sem.run_pure]
            exact two es' (some (j, e.val)) (some (j, e'.val)) ⟨_, rfl, q5 e' g1 b1 g2 hb0⟩ (.inr ⟨_, _, rfl, he⟩) hrun rfl
      | _ => simp at h
    · cases h
  · cases h
end
end Go.Eng
