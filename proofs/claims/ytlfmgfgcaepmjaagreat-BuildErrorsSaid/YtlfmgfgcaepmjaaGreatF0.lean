/- A hook that answers calls by runs of their own: the blocks that the arguments reach are plain, and what the call hands back is new. -/
import Derived.Test.YtlfmgfgcaepmjaaGreatE5
set_option linter.unusedSimpArgs false
set_option linter.unusedVariables false
set_option linter.unusedSectionVars false
namespace Go.Eng
set_option linter.unusedVariables false
set_option linter.unusedSectionVars false
variable [Sym]
/-- A value whose slices lie in numbered blocks: the numbers replaced. -/
def subV (src : Nat → Nat × Nat) : Nat → AV → AV
  | d + 1, .agg l => .agg (l.map (subV src d))
  | d + 1, .tup l => .tup (l.map (subV src d))
  | _, .slice j _ o l c x z => .slice (src j).1 (src j).2 o l c x z
  | _, v => v
def okV (n : Nat) : Nat → AV → Bool
  | _, .bool _ => true
  | _, .int _ _ => true
  | _, .str _ => true
  | _, .nils => true
  | _, .slice j _ _ _ _ _ _ => Nat.blt j n
  | d + 1, .agg l => l.all (okV n d)
  | d + 1, .tup l => l.all (okV n d)
  | _, _ => false
theorem sub_rel {ρ ρ' : Rho} {src tgt : Nat → Nat × Nat} {n : Nat} (hm : ∀ j, j < n → ∀ p, ρ (src j).1 (src j).2 = some p → ρ' (tgt j).1 (tgt j).2 = some p) :
    ∀ (d : Nat) (u : AV) (v' : Value), okV n d u = true → VRel ρ (subV src d u) v' → VRel ρ' (subV tgt d u) v' := by
  intro d
  induction d with
  | zero =>
    intro u v' h hv
    cases u <;> simp only [okV] at h <;> (try (cases h; done)) <;> simp only [subV] at hv ⊢
    · cases hv; exact .bool _
    · cases hv; exact .int _ _
    · cases hv; exact .str _ _ (by assumption)
    · cases hv; exact .nils
    · rename_i j e o l c x z
      have hj : j < n := by simpa [Nat.blt_eq] using h
      cases hv with
      | slice _ _ _ _ _ _ _ cap' o' p h1 h2 h3 h4 h5 h6 h7 => exact .slice _ _ _ _ _ _ _ cap' o' p (hm j hj p h1) h2 h3 h4 h5 h6 h7
  | succ d ih =>
    have key : ∀ (l : List AV) (l' : List Value), l.all (okV n d) = true → VsRel ρ (l.map (subV src d)) l' → VsRel ρ' (l.map (subV tgt d)) l' := by
      intro l
      induction l with
      | nil => intro l' _ h; cases h; exact .nil
      | cons a l ihl =>
        intro l' h hl
        rw [List.all_cons, Bool.and_eq_true] at h
        rw [List.map_cons] at hl ⊢
        cases hl with
        | cons _ _ _ _ h1 h2 => exact .cons _ _ _ _ (ih _ _ h.1 h1) (ihl _ h.2 h2)
    intro u v' h hv
    cases u <;> simp only [okV] at h <;> (try (cases h; done)) <;> simp only [subV] at hv ⊢
    · cases hv; exact .bool _
    · cases hv; exact .int _ _
    · cases hv; exact .str _ _ (by assumption)
    · cases hv; exact .nils
    · rename_i j e o l c x z
      have hj : j < n := by simpa [Nat.blt_eq] using h
      cases hv with
      | slice _ _ _ _ _ _ _ cap' o' p h1 h2 h3 h4 h5 h6 h7 => exact .slice _ _ _ _ _ _ _ cap' o' p (hm j hj p h1) h2 h3 h4 h5 h6 h7
    · cases hv; exact .agg _ _ (key _ _ h (by assumption))
    · cases hv; exact .tup _ _ (key _ _ h (by assumption))
theorem subs_rel {ρ ρ' : Rho} {src tgt : Nat → Nat × Nat} {n d : Nat} (hm : ∀ j, j < n → ∀ p, ρ (src j).1 (src j).2 = some p → ρ' (tgt j).1 (tgt j).2 = some p) :
    ∀ (l : List AV) (l' : List Value), l.all (okV n d) = true → VsRel ρ (l.map (subV src d)) l' → VsRel ρ' (l.map (subV tgt d)) l' := by
  intro l
  induction l with
  | nil => intro l' _ h; cases h; exact .nil
  | cons a l ihl =>
    intro l' h hl
    rw [List.all_cons, Bool.and_eq_true] at h
    rw [List.map_cons] at hl ⊢
    cases hl with
    | cons _ _ _ _ h1 h2 => exact .cons _ _ _ _ (sub_rel hm _ _ _ h.1 h1) (ihl _ h.2 h2)
/-- Do the cells hold these values? -/
noncomputable def cellsTo (src : Nat → Nat × Nat) (ep : Nat) (c : Tr ACell) : List AV → Nat → Bool
  | [], _ => true
  | v :: vs, i => match c.get i with
    | some ⟨v', tag⟩ => match AV.beq v' (subV src 3 v) && Nat.ble tag ep with
      | true => cellsTo src ep c vs (i + 1)
      | false => false
    | none => false
noncomputable def blockTo (src : Nat → Nat × Nat) (st : St) (id ep : Nat) (elem : TypeId) (vs : List AV) : Bool :=
  match st.heap.get id with
  | some (.cells elem' c top _ sh) => Nat.beq elem elem' && Nat.ble vs.length top && !sh && cellsTo src ep c vs 0
  | _ => false
theorem cellsTo_get {src : Nat → Nat × Nat} {ep : Nat} {c : Tr ACell} : ∀ {vs : List AV} {i : Nat}, cellsTo src ep c vs i = true → ∀ j v, vs[j]? = some v → ∃ tag, tag ≤ ep ∧ c.get (i + j) = some ⟨subV src 3 v, tag⟩
  | [], i, _, j, v, hv => by simp at hv
  | u :: vs, i, h, j, v, hv => by
    unfold cellsTo at h
    split at h
    · rename_i v' tag hg
      split at h <;> (try (cases h; done))
      rename_i hb
      rw [Bool.and_eq_true] at hb
      have e := AV.eq_of_beq _ _ hb.1
      subst e
      cases j with
      | zero => simp at hv; subst hv; exact ⟨tag, Nat.le_of_ble_eq_true hb.2, hg⟩
      | succ j =>
        obtain ⟨t', a, b⟩ := cellsTo_get h j v (by simpa using hv)
        exact ⟨t', a, by rw [show i + (j + 1) = i + 1 + j by omega]; exact b⟩
    · cases h
/-- A block, seen anew: with the cells that are named alone, and with other numbers for the blocks that its cells point into. -/
theorem blockTo_rel {src tgt : Nat → Nat × Nat} {n : Nat} {ρ ρ' : Rho} (hm : ∀ j, j < n → ∀ p, ρ (src j).1 (src j).2 = some p → ρ' (tgt j).1 (tgt j).2 = some p) {st : St} {id ep : Nat} {elem : TypeId} {vs : List AV} (hv : vs.all (okV n 3) = true) (h : blockTo src st id ep elem vs = true)
    {p : Pl} {r : Rec} {o : Option Obj} (hr : st.heap.get id = some r) (hrel : RecRel ρ ep p r o) : RecRel ρ' 0 p (recOf elem (vs.map (subV tgt 3))) o := by
  unfold blockTo at h
  rw [hr] at h
  split at h
  · rename_i elem' c top lat sh heq
    cases heq
    simp only [Bool.and_eq_true, Bool.not_eq_true'] at h
    obtain ⟨⟨⟨h1, h2⟩, h3⟩, h4⟩ := h
    have e := Nat.eq_of_beq_eq_true h1
    subst e
    have h2 := Nat.le_of_ble_eq_true h2
    obtain ⟨cs, lo, hi, g1, g2, g3, g4, g5, g6, g7⟩ := hrel
    obtain ⟨rfl, rfl⟩ := g2 h3
    have key : ∀ (i : Nat) (u : AV), vs[i]? = some u → p.base ≤ i → ∃ v', cs[i - p.base]? = some v' ∧ VRel ρ' (subV tgt 3 u) v' := by
      intro i u hu hb
      obtain ⟨tag, ht, hg⟩ := cellsTo_get h4 i u hu
      rw [Nat.zero_add] at hg
      have hlt : i < vs.length := (List.getElem?_eq_some_iff.1 hu).1
      obtain ⟨v', a, b⟩ := g6 i _ tag (by omega) hg ht hb
      have hok : okV n 3 u = true := List.all_eq_true.1 hv u (List.mem_of_getElem? hu)
      exact ⟨v', a, sub_rel hm 3 u v' hok b⟩
    refine ⟨cs, 0, 0, g1, fun _ => ⟨rfl, rfl⟩, fun i q1 q2 => by omega, g4, ⟨Nat.le_refl _, fun i x hx => ?_⟩, fun i v tag q1 q2 q3 q4 => ?_, fun _ i q1 q2 => ?_⟩
    · rw [rowTr_lf] at hx
      obtain ⟨v, _, rfl⟩ := Option.map_eq_some_iff.1 hx
      exact Nat.le_refl _
    · rw [rowTr_lf] at q2
      obtain ⟨u, hu, e⟩ := Option.map_eq_some_iff.1 q2
      cases e
      rw [List.getElem?_map, Option.map_eq_some_iff] at hu
      obtain ⟨u0, hu0, rfl⟩ := hu
      exact key i u0 hu0 q4
    · rw [List.length_map] at q2
      obtain ⟨u, hu⟩ : ∃ u : AV, vs[i]? = some u := ⟨_, List.getElem?_eq_getElem (by omega)⟩
      obtain ⟨v', a, _⟩ := key i u hu q1
      have := (Array.getElem?_eq_some_iff.1 a).1
      show i - p.base < p.size
      omega
  · cases h
end Go.Eng
