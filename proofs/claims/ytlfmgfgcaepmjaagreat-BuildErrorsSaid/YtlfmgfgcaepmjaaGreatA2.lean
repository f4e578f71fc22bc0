/- The law's symbol: its argument, of which the remainder by 8 is known; the law's own check answered. -/
import Derived.Test.YtlfmgfgcaepmjaaGreatA3
set_option linter.unusedSimpArgs false
set_option linter.unusedVariables false
set_option linter.unusedSectionVars false
set_option linter.unusedSimpArgs false
set_option linter.unusedVariables false
set_option linter.unusedSectionVars false
namespace Go.Proofs.YtlfmgfgcaepmjaaGreat
open Go.RowKit Go.Eng
set_option linter.unusedVariables false
set_option linter.unusedSectionVars false
set_option maxRecDepth 100000
def intIs (b : Int) (m : Nat) : Bool := match b with | .ofNat x => Nat.beq x m | .negSucc _ => false
theorem intIs_eq {b : Int} {m : Nat} (h : intIs b m = true) : b = (m : Int) := by
  unfold intIs at h
  split at h
  · rw [Nat.eq_of_beq_eq_true h]; rfl
  · cases h
def binO (n : Nat) (op : BinOp) (k : IntKind) (a b : Nat ⊕ Int) : Option (Bool ⊕ (Nat ⊕ Int)) :=
  match op, k, a, b with
  | .rem, .u8, .inl i, .inr y => (match Nat.beq i 0 && intIs y 8 with | true => some (.inr (.inr (.ofNat n))) | false => none)
  | _, _, _, _ => none
theorem r_rem {P : Program} {w : World} {t : TypeId} {k : IntKind} (x y : Nat) (hy : y ≠ 0) : (binOp .rem t (.int k (x : Int)) (.int k (y : Int))).run P w = .ok (.int k ((x % y : Nat) : Int)) w := by
  have h : ¬ ((y : Int) = 0) := by omega
  simp only [binOp, Op.intDiv, ne_eq, not_true, if_false, Sem.run_pure]
  rw [if_neg h]
  rfl
theorem binO_ok (o n : Nat) (ho : o % 8 = n) (op : BinOp) (k : IntKind) (a b : Nat ⊕ Int) (r : Bool ⊕ (Nat ⊕ Int)) (h : binO n op k a b = some r) (P : Program) (w : World) (ty : TypeId) :
    (binOp op ty (.int k (Sum.elim (fun _ => (o : Int)) id a)) (.int k (Sum.elim (fun _ => (o : Int)) id b))).run P w = .ok (Sum.elim Value.bool (fun i => Value.int k (Sum.elim (fun _ => (o : Int)) id i)) r) w := by
  unfold binO at h
  split at h
  · split at h <;> cases h
    rename_i hb
    rw [Bool.and_eq_true] at hb
    have h1 := Nat.eq_of_beq_eq_true hb.1
    have h2 := intIs_eq hb.2
    subst h1 h2 ho
    exact r_rem o 8 (by decide)
  · cases h
@[reducible] def sO (o n : Nat) (ho : o % 8 = n) : Sym := { val := fun _ => (o : Int), bin := binO n, bin_ok := binO_ok o n ho }
noncomputable def hookTrue : Hook := ⟨fun _ args st k _ => match args with | [] => k (.bool true) st | _ => false⟩
noncomputable def hkL (f : FuncId) : Option Hook :=
  match f with
  | 4 => some hookTrue
  | f => hkF f
@[reducible] noncomputable def hk3 : Hooks := { hk := hkL }
theorem hk3_ok (S : Sym) : @HooksOK S hk3 Tryz.prog := by
  letI := S
  letI := hk3
  refine ⟨fun f h hf => ?_⟩
  have hf : hkL f = some h := hf
  unfold hkL at hf
  split at hf
  · cases hf
    intro call hcall B args st k kp hk ρ w args' hs ha
    refine ⟨⟨Tryz.f4, _, Tryz.func4, rfl, by decide⟩, ?_⟩
    unfold hookTrue at hk
    simp only [] at hk
    split at hk <;> (try (cases hk; done))
    obtain ⟨al⟩ := args'
    cases ha
    refine (sanity_any w).mono ?_
    rintro e w' ⟨rfl, hO⟩
    exact .inl ⟨_, st, ρ, _, rfl, hk, hO.rel hs, .bool _, hO.adv hs⟩
  · unfold hkF at hf
    split at hf <;> cases hf
    · exact hookCaught_ok
    · exact hookOps_ok
    · exact hookCheck_ok
end Go.Proofs.YtlfmgfgcaepmjaaGreat
