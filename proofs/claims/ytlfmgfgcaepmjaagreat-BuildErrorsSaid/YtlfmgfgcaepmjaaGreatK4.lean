/- The hook for caught. -/
import Derived.Test.YtlfmgfgcaepmjaaGreatE5
import Derived.Test.YtlfmgfgcaepmjaaGreatK3
set_option linter.unusedSimpArgs false
set_option linter.unusedVariables false
set_option linter.unusedSectionVars false
set_option linter.unusedSimpArgs false
set_option linter.unusedVariables false
set_option linter.unusedSectionVars false
set_option linter.unusedSectionVars false
set_option linter.unusedVariables false
namespace Go.Proofs.YtlfmgfgcaepmjaaGreat
open Go.RowKit Go.Eng
variable [Sym] [Hooks]
/-- The record of a failure's variable. -/
noncomputable def fRec : Rec := .cells 133 (trGo [.int .i64 0, .str []] 0 .lf) 2 0 false
noncomputable def isF (st : St) (f : Nat) : Bool := match st.heap.get f with | some (.cells e _ _ _ false) => Nat.beq e 133 | _ => false
noncomputable def endF (f : Nat) (a : Int) (s : List Nat) (k : KR) (st : St) : Bool := isF st f && putsK st f 0 0 [.int .i64 a, .str s] false fun st => k (.agg [.int .i64 a, .str s]) st
noncomputable def hookCaught : Hook := ⟨fun call args st k _ => match args with
  | [.fn g first cap] => newK st fRec fun f st => call g (first ++ cap) st (fun _ st => endF f 0 [] k st)
      (fun v st => match v with
        | .iface t (.agg [.int .i64 a, .str s]) => Nat.beq t 133 && endF f a s k st
        | _ => false)
  | _ => false⟩
theorem only_alloc {u : World} (o : Obj) : Only u (u.alloc o) := by
  have hlow : ∀ b, b < u.heap.size → (u.alloc o).heap[b]? = u.heap[b]? := fun b hb => by
    show (u.heap.push _)[b]? = _
    rw [Array.getElem?_push, if_neg (by omega)]
  refine ⟨hlow, by show _ ≤ (u.heap.push _).size; simp, rfl, rfl, fun a ha => ?_⟩
  unfold World.frozen?
  rw [hlow _ ha]
theorem Only.refl (u : World) : Only u u := ⟨fun _ _ => rfl, Nat.le_refl _, rfl, rfl, fun _ _ => rfl⟩
theorem endF_ok {B : Nat → Prop} {ρ : Rho} {st : St} {u : World} {f S : Nat} {a : Int} {l : List Nat} {s : ByteArray} (hb : s.data.toList.map UInt8.toNat = l) {k : KR} (hs : SRel B ρ st u) (hp : ρ f 0 = some ⟨S, 0, 2⟩) (h : endF f a l k st = true) :
    ∃ x y, u.heap[S]? = some (.cells #[x, y] 133) ∧ ∀ u2, Only u u2 → ∃ st', k (.agg [.int .i64 a, .str l]) st' = true ∧ SRel B ρ st' (put2 u2 S a s) ∧ Adv B ρ st u ρ st' (put2 u2 S a s) := by
  unfold endF at h
  rw [Bool.and_eq_true, putsK_eq] at h
  obtain ⟨h1, h2⟩ := h
  split at h2 <;> (try (cases h2; done))
  rename_i st' hst
  obtain ⟨_, _, _, r, hr, hrel⟩ := hs.mapped _ _ _ hp
  unfold isF at h1
  rw [hr] at h1
  split at h1 <;> (try (cases h1; done))
  rename_i e c top lat heq
  cases heq
  have he : e = 133 := Nat.eq_of_beq_eq_true h1
  subst he
  obtain ⟨cs, lo, hi, g1, g2, _, g4, _⟩ := hrel
  obtain ⟨rfl, rfl⟩ := g2 rfl
  have hcs : ∃ x y, cs = #[x, y] := by
    have h3 : cs.toList.length = 2 := by simpa using g4
    match hl : cs.toList, h3 with
    | [x, y], _ => exact ⟨x, y, by rw [← Array.toArray_toList (xs := cs), hl]⟩
  obtain ⟨x, y, rfl⟩ := hcs
  refine ⟨x, y, g1, fun u2 ho => ?_⟩
  simp only [puts_cons] at hst
  obtain ⟨s1, e1, hst⟩ := Option.bind_eq_some_iff.1 hst
  obtain ⟨s2, e2, hst⟩ := Option.bind_eq_some_iff.1 hst
  have : s2 = st' := by simpa [puts, putsK] using hst
  subst this
  obtain ⟨_, _, r1, d1⟩ := (ho.rel hs).put hp (Nat.zero_le 0) (.int .i64 a) e1
  obtain ⟨_, _, r2, d2⟩ := r1.put hp (Nat.zero_le (0 + 1)) (.str l s hb) e2
  exact ⟨s2, h2, r2, ((ho.adv hs).trans d1).trans d2⟩
theorem hookCaught_ok : HookOK Tryz.prog 39 hookCaught := by
  intro call hcall B args st k kp h ρ w args' hs ha
  revert ha
  simp only [hookCaught] at h
  split at h <;> (try (cases h; done))
  rename_i g first cap
  intro ha
  rw [newK_eq] at h
  have hal : args'.toList.length = 1 := ha.length
  obtain ⟨v0, hv0⟩ : ∃ v0, args' = #[v0] := by
    match hl : args'.toList, hal with
    | [v0], _ => exact ⟨v0, by rw [← Array.toArray_toList (xs := args'), hl]⟩
  subst hv0
  cases ha with
  | cons _ _ _ _ hx _ =>
    cases hx with
    | fn _ _ _ first' cap' f1 f2 =>
      refine ⟨⟨Tryz.f39, _, Tryz.func39, rfl, by decide⟩, ?_⟩
      have hz : VsRel ρ [.int .i64 0, .str []] (#[.int .i64 0, .string ⟨#[]⟩] : Array Value).toList := .cons _ _ _ _ (.int _ _) (.cons _ _ _ _ (.str _ _ rfl) .nil)
      obtain ⟨ρ1, s1, d1, m1⟩ := hs.alloc (r := fRec) (o := fz) (n := 2) (fun ρ' hle _ => cellsRec hz w.heap.size ρ' hle)
      have hav : VsRel ρ1 (first ++ cap) (first' ++ cap').toList := by
        rw [Array.toList_append]; exact (f1.mono d1.le).append (f2.mono d1.le)
      obtain ⟨⟨fn, c, c1, c2, c3⟩, hcl⟩ := hcall B g _ _ _ _ h ρ1 (w.alloc fz) (first' ++ cap') s1 hav
      refine caught_run (fun args u => callFunc_run c1 c2 c3 args u) w _ (hcl.mono ?_)
      rintro e u (⟨v, st', ρ', v', rfl, q1, q2, q3, q4⟩ | ⟨v, st', ρ', v', rfl, q1, q2, q3, q4⟩)
      · obtain ⟨x, y, e1, e2⟩ := endF_ok (s := ⟨#[]⟩) rfl q2 (q4.le _ _ _ m1) q1
        refine ⟨x, y, e1, .inl ⟨v', rfl, ?_⟩⟩
        obtain ⟨st2, e3, e4, e5⟩ := e2 u (Only.refl u)
        exact .inl ⟨_, st2, ρ', _, rfl, e3, e4, .agg _ _ (.cons _ _ _ _ (.int _ _) (.cons _ _ _ _ (.str _ _ rfl) .nil)), (d1.trans q4).trans e5⟩
      · dsimp only at q1
        split at q1 <;> (try (cases q1; done))
        rename_i t a s
        rw [Bool.and_eq_true] at q1
        have ht : t = 133 := Nat.eq_of_beq_eq_true q1.1
        subst ht
        cases q3 with
        | iface _ _ v1 hv1 =>
          have hv1' : ∃ b : ByteArray, v1 = fv a b ∧ b.data.toList.map UInt8.toNat = s := by
            cases hv1 with
            | agg _ l' hl =>
              cases l' with
              | mk l =>
                simp only at hl
                cases hl with
                | cons _ _ _ _ ha hl =>
                  cases hl with
                  | cons _ _ _ _ hb hl =>
                    cases hl; cases ha
                    cases hb with
                    | str _ b hb => exact ⟨b, rfl, hb⟩
          obtain ⟨b, rfl, hb⟩ := hv1'
          obtain ⟨x, y, e1, e2⟩ := endF_ok hb q2 (q4.le _ _ _ m1) q1.2
          refine ⟨x, y, e1, .inr ⟨a, b, rfl, ?_⟩⟩
          obtain ⟨st2, e3, e4, e5⟩ := e2 _ (only_alloc (fzz a b))
          exact .inl ⟨_, st2, ρ', _, rfl, e3, e4, .agg _ _ (.cons _ _ _ _ (.int _ _) (.cons _ _ _ _ (.str _ _ hb) .nil)), (d1.trans q4).trans e5⟩
end Go.Proofs.YtlfmgfgcaepmjaaGreat
