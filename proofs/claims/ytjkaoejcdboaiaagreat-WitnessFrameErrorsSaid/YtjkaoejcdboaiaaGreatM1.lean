/- The hooks of this seat. -/
import Derived.Test.YtjkaoejcdboaiaaGreatN2
set_option linter.unusedSimpArgs false
set_option linter.unusedVariables false
set_option linter.unusedSectionVars false
/- image.Code, answered off its contract. -/
namespace Go.Proofs.YtjkaoejcdboaiaaGreat
open Go.RowKit Go.Eng
set_option linter.unusedVariables false
set_option linter.unusedSectionVars false
set_option maxRecDepth 100000
def dropK : Nat → List Nat → (List Nat → Bool) → Bool
  | 0, l, k => k l
  | n + 1, [], k => k []
  | n + 1, _ :: r, k => dropK n r k
theorem dropK_eq (n : Nat) (l : List Nat) (k : List Nat → Bool) : dropK n l k = k (l.drop n) := by
  induction n generalizing l with
  | zero => rfl
  | succ n ih => cases l <;> simp [dropK, ih]
def takeK : Nat → List Nat → (List Nat → Bool) → Bool
  | 0, _, k => k []
  | n + 1, [], k => k []
  | n + 1, x :: r, k => takeK n r fun r => k (x :: r)
theorem takeK_eq (n : Nat) (l : List Nat) (k : List Nat → Bool) : takeK n l k = k (l.take n) := by
  induction n generalizing l k with
  | zero => rfl
  | succ n ih => cases l <;> simp [takeK, ih]
noncomputable def codeK (st : St) (id ep off a n : Nat) (k : KR) (z : Unit → Bool) : Bool :=
  cellK st id ep off false fun v => match v with
    | .str l => dropK a l fun r => match r with
      | [] => z ()
      | x :: r => takeK n (x :: r) fun q => k (.str q) st
    | _ => false
noncomputable def hookCode : Hook := ⟨fun call args st k kp => match args with
  | [.agg [.slice id ep off len _ _ _, _, _, _, _], .agg [.int .i64 (.ofNat 0), .int .u16 (.ofNat a)], .int .i64 (.ofNat n)] =>
    match Nat.blt 0 len && Nat.blt a 4096 && Nat.blt 0 n with
    | true => codeK st id ep off a n k fun _ => call 43 args st k kp
    | false => call 43 args st k kp
  | _ => call 43 args st k kp⟩
theorem codeK_true {st : St} {id ep off a n : Nat} {k : KR} {z : Unit → Bool} (h : codeK st id ep off a n k z = true) : (∃ l, cell st id ep off = some (.str l) ∧ a < l.length ∧ k (.str ((l.drop a).take n)) st = true) ∨ z () = true := by
  unfold codeK at h
  rw [cellK_eq] at h
  split at h <;> (try (cases h; done))
  rename_i v hv
  split at h <;> (try (cases h; done))
  rename_i l
  rw [dropK_eq] at h
  split at h
  · exact .inr h
  rename_i x r hr
  rw [takeK_eq] at h
  refine .inl ⟨l, hv, ?_, by rw [hr]; exact h⟩
  rcases Nat.lt_or_ge a l.length with hl | hl
  · exact hl
  · rw [List.drop_eq_nil_of_le hl] at hr; cases hr
theorem cut_list (s : ByteArray) (a n : Nat) : (s.extract a (a + min n (s.size - a))).data.toList.map UInt8.toNat = ((s.data.toList.map UInt8.toNat).drop a).take n := by
  rw [ByteArray.data_extract, Array.toList_extract, List.extract_eq_take_drop, ← List.map_drop, ← List.map_take]
  congr 1
  have : a + min n (s.size - a) - a = min n (s.size - a) := by omega
  rw [this]
  rw [List.take_eq_take_iff, List.length_drop]
  show min (min n (s.data.size - a)) (s.data.toList.length - a) = min n (s.data.toList.length - a)
  rw [Array.length_toList]
  omega
theorem hook43_ok [S : Sym] [Hooks] : HookOK Tryz.prog 43 hookCode := by
  intro call hcall B args st k kp hk ρ w args' hs ha
  have hfb : call 43 args st k kp = true → Callable Tryz.prog 43 ∧ Calls Tryz.prog 43 args' w (Went B ρ st w k kp) := fun h => hcall B 43 args st k kp h ρ w args' hs ha
  unfold hookCode at hk
  simp only [] at hk
  split at hk
  case h_2 => exact hfb hk
  rename_i id ep off len cap ex esz x1 x2 x3 x4 a n
  split at hk
  case h_2 => exact hfb hk
  rename_i hb
  simp only [Bool.and_eq_true, Nat.blt_eq] at hb
  obtain ⟨⟨hb1, hb2⟩, hb3⟩ := hb
  rcases codeK_true hk with ⟨l, hc, hal, hk⟩ | hk
  case inr => exact hfb hk
  refine ⟨⟨Tryz.f43, _, Tryz.func43, rfl, by decide⟩, ?_⟩
  obtain ⟨al⟩ := args'
  cases ha with
  | cons _ _ _ _ h1 h2 =>
  cases h2 with
  | cons _ _ _ _ h2 h3 =>
  cases h3 with
  | cons _ _ _ _ h3 h4 =>
  cases h4
  cases h3
  cases h1 with
  | agg _ A1 hA1 =>
  cases h2 with
  | agg _ A2 hA2 =>
  obtain ⟨A1⟩ := A1
  obtain ⟨A2⟩ := A2
  cases hA1 with
  | cons _ _ _ _ g1 hA1 =>
  cases hA1 with
  | cons _ _ _ _ g2 hA1 =>
  cases hA1 with
  | cons _ _ _ _ g3 hA1 =>
  cases hA1 with
  | cons _ _ _ _ g4 hA1 =>
  cases hA1 with
  | cons _ _ _ _ g5 hA1 =>
  cases hA1
  cases hA2 with
  | cons _ _ _ _ e1 hA2 =>
  cases hA2 with
  | cons _ _ _ _ e2 hA2 =>
  cases hA2
  cases e1
  cases e2
  obtain ⟨cap', o, p, rfl, hp, hb, hc1, he, hl, ho, hsz⟩ := g1.slice_inv
  obtain ⟨v', hv1, hv2⟩ := hs.cell hp hb hc
  cases hv2 with
  | str _ s hstr =>
  have ho' : o = off - p.base := ho (by omega)
  subst ho'
  have hlen : a < s.size := by rw [← hstr, List.length_map, Array.length_toList] at hal; exact hal
  refine (code_at (a : Int) (by omega) (by omega) p.blk (off - p.base) len cap' hb1 _ _ _ _ s w hv1 (by omega) n hb3).mono ?_
  rintro e w' ⟨rfl, hO⟩
  refine .inl ⟨_, st, ρ, _, rfl, hk, hO.rel hs, ?_, hO.adv hs⟩
  refine .str _ _ ?_
  rw [Int.toNat_natCast, cut_list, hstr]
end Go.Proofs.YtjkaoejcdboaiaaGreat
namespace Go.Proofs.YtjkaoejcdboaiaaGreat
open Go.RowKit Go.Eng
set_option linter.unusedVariables false
set_option linter.unusedSectionVars false
set_option maxRecDepth 100000
noncomputable def hkF (f : FuncId) : Option Hook :=
  match f with
  | 20 => some hookClone
  | 25 => some (hookMap 25)
  | 26 => some hookGuard
  | 42 => some (hookTable decT)
  | 43 => some hookCode
  | 72 => some (hookTable valT)
  | 105 => some hookClone
  | _ => none
@[reducible] noncomputable def hk : Hooks := ⟨hkF⟩
theorem hk_ok (S : Sym) : @HooksOK S hk Tryz.prog := by
  letI := S
  letI := hk
  refine ⟨fun f h hf => ?_⟩
  have hf : hkF f = some h := hf
  unfold hkF at hf
  split at hf <;> cases hf
  · exact hook20_ok
  · exact hookMap_ok _ _
  · exact hookGuard_ok
  · exact hook42_ok
  · exact hook43_ok
  · exact hook72_ok
  · exact hook105_ok
end Go.Proofs.YtjkaoejcdboaiaaGreat
