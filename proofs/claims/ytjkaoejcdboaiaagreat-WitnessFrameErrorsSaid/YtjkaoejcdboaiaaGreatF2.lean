/- The answers of witness.Find in the law's own check. -/
import Derived.Test.YtjkaoejcdboaiaaGreatE5
import Derived.Test.YtjkaoejcdboaiaaGreatM1
set_option linter.unusedSimpArgs false
set_option linter.unusedVariables false
set_option linter.unusedSectionVars false
/- A hook that answers calls by runs of their own: the blocks that the arguments reach are plain, and what the call hands back is new. -/
namespace Go.Eng
set_option linter.unusedVariables false
set_option linter.unusedSectionVars false
variable [Sym]
/-- A value whose slices lie in numbered blocks: the numbers replaced. -/
def subV (src : Nat → Nat × Nat) : Nat → AV → AV
  | d + 1, .agg l => .agg (l.map (subV src d))
  | d + 1, .tup l => .tup (l.map (subV src d))
  | _, .slice j _ o l c x z => .slice (src j).1 (src j).2 o l c x z
  | _, v => v
def okV (n : Nat) : Nat → AV → Bool
  | _, .bool _ => true
  | _, .int _ _ => true
  | _, .str _ => true
  | _, .nils => true
  | _, .slice j _ _ _ _ _ _ => Nat.blt j n
  | d + 1, .agg l => l.all (okV n d)
  | d + 1, .tup l => l.all (okV n d)
  | _, _ => false
theorem sub_rel {ρ ρ' : Rho} {src tgt : Nat → Nat × Nat} {n : Nat} (hm : ∀ j, j < n → ∀ p, ρ (src j).1 (src j).2 = some p → ρ' (tgt j).1 (tgt j).2 = some p) :
    ∀ (d : Nat) (u : AV) (v' : Value), okV n d u = true → VRel ρ (subV src d u) v' → VRel ρ' (subV tgt d u) v' := by
  intro d
  induction d with
  | zero =>
    intro u v' h hv
    cases u <;> simp only [okV] at h <;> (try (cases h; done)) <;> simp only [subV] at hv ⊢
    · cases hv; exact .bool _
    · cases hv; exact .int _ _
    · cases hv; exact .str _ _ (by assumption)
    · cases hv; exact .nils
    · rename_i j e o l c x z
      have hj : j < n := by simpa [Nat.blt_eq] using h
      cases hv with
      | slice _ _ _ _ _ _ _ cap' o' p h1 h2 h3 h4 h5 h6 h7 => exact .slice _ _ _ _ _ _ _ cap' o' p (hm j hj p h1) h2 h3 h4 h5 h6 h7
  | succ d ih =>
    have key : ∀ (l : List AV) (l' : List Value), l.all (okV n d) = true → VsRel ρ (l.map (subV src d)) l' → VsRel ρ' (l.map (subV tgt d)) l' := by
      intro l
      induction l with
      | nil => intro l' _ h; cases h; exact .nil
      | cons a l ihl =>
        intro l' h hl
        rw [List.all_cons, Bool.and_eq_true] at h
        rw [List.map_cons] at hl ⊢
        cases hl with
        | cons _ _ _ _ h1 h2 => exact .cons _ _ _ _ (ih _ _ h.1 h1) (ihl _ h.2 h2)
    intro u v' h hv
    cases u <;> simp only [okV] at h <;> (try (cases h; done)) <;> simp only [subV] at hv ⊢
    · cases hv; exact .bool _
    · cases hv; exact .int _ _
    · cases hv; exact .str _ _ (by assumption)
    · cases hv; exact .nils
    · rename_i j e o l c x z
      have hj : j < n := by simpa [Nat.blt_eq] using h
      cases hv with
      | slice _ _ _ _ _ _ _ cap' o' p h1 h2 h3 h4 h5 h6 h7 => exact .slice _ _ _ _ _ _ _ cap' o' p (hm j hj p h1) h2 h3 h4 h5 h6 h7
    · cases hv; exact .agg _ _ (key _ _ h (by assumption))
    · cases hv; exact .tup _ _ (key _ _ h (by assumption))
theorem subs_rel {ρ ρ' : Rho} {src tgt : Nat → Nat × Nat} {n d : Nat} (hm : ∀ j, j < n → ∀ p, ρ (src j).1 (src j).2 = some p → ρ' (tgt j).1 (tgt j).2 = some p) :
    ∀ (l : List AV) (l' : List Value), l.all (okV n d) = true → VsRel ρ (l.map (subV src d)) l' → VsRel ρ' (l.map (subV tgt d)) l' := by
  intro l
  induction l with
  | nil => intro l' _ h; cases h; exact .nil
  | cons a l ihl =>
    intro l' h hl
    rw [List.all_cons, Bool.and_eq_true] at h
    rw [List.map_cons] at hl ⊢
    cases hl with
    | cons _ _ _ _ h1 h2 => exact .cons _ _ _ _ (sub_rel hm _ _ _ h.1 h1) (ihl _ h.2 h2)
/-- Do the cells hold these values? -/
noncomputable def cellsTo (src : Nat → Nat × Nat) (ep : Nat) (c : Tr ACell) : List AV → Nat → Bool
  | [], _ => true
  | v :: vs, i => match c.get i with
    | some ⟨v', tag⟩ => match AV.beq v' (subV src 3 v) && Nat.ble tag ep with
      | true => cellsTo src ep c vs (i + 1)
      | false => false
    | none => false
noncomputable def blockTo (src : Nat → Nat × Nat) (st : St) (id ep : Nat) (elem : TypeId) (vs : List AV) : Bool :=
  match st.heap.get id with
  | some (.cells elem' c top _ sh) => Nat.beq elem elem' && Nat.ble vs.length top && !sh && cellsTo src ep c vs 0
  | _ => false
theorem cellsTo_get {src : Nat → Nat × Nat} {ep : Nat} {c : Tr ACell} : ∀ {vs : List AV} {i : Nat}, cellsTo src ep c vs i = true → ∀ j v, vs[j]? = some v → ∃ tag, tag ≤ ep ∧ c.get (i + j) = some ⟨subV src 3 v, tag⟩
  | [], i, _, j, v, hv => by simp at hv
  | u :: vs, i, h, j, v, hv => by
    unfold cellsTo at h
    split at h
    · rename_i v' tag hg
      split at h <;> (try (cases h; done))
      rename_i hb
      rw [Bool.and_eq_true] at hb
      have e := AV.eq_of_beq _ _ hb.1
      subst e
      cases j with
      | zero => simp at hv; subst hv; exact ⟨tag, Nat.le_of_ble_eq_true hb.2, hg⟩
      | succ j =>
        obtain ⟨t', a, b⟩ := cellsTo_get h j v (by simpa using hv)
        exact ⟨t', a, by rw [show i + (j + 1) = i + 1 + j by omega]; exact b⟩
    · cases h
/-- A block, seen anew: with the cells that are named alone, and with other numbers for the blocks that its cells point into. -/
theorem blockTo_rel {src tgt : Nat → Nat × Nat} {n : Nat} {ρ ρ' : Rho} (hm : ∀ j, j < n → ∀ p, ρ (src j).1 (src j).2 = some p → ρ' (tgt j).1 (tgt j).2 = some p) {st : St} {id ep : Nat} {elem : TypeId} {vs : List AV} (hv : vs.all (okV n 3) = true) (h : blockTo src st id ep elem vs = true)
    {p : Pl} {r : Rec} {o : Option Obj} (hr : st.heap.get id = some r) (hrel : RecRel ρ ep p r o) : RecRel ρ' 0 p (recOf elem (vs.map (subV tgt 3))) o := by
  unfold blockTo at h
  rw [hr] at h
  split at h
  · rename_i elem' c top lat sh heq
    cases heq
    simp only [Bool.and_eq_true, Bool.not_eq_true'] at h
    obtain ⟨⟨⟨h1, h2⟩, h3⟩, h4⟩ := h
    have e := Nat.eq_of_beq_eq_true h1
    subst e
    have h2 := Nat.le_of_ble_eq_true h2
    obtain ⟨cs, lo, hi, g1, g2, g3, g4, g5, g6, g7⟩ := hrel
    obtain ⟨rfl, rfl⟩ := g2 h3
    have key : ∀ (i : Nat) (u : AV), vs[i]? = some u → p.base ≤ i → ∃ v', cs[i - p.base]? = some v' ∧ VRel ρ' (subV tgt 3 u) v' := by
      intro i u hu hb
      obtain ⟨tag, ht, hg⟩ := cellsTo_get h4 i u hu
      rw [Nat.zero_add] at hg
      have hlt : i < vs.length := (List.getElem?_eq_some_iff.1 hu).1
      obtain ⟨v', a, b⟩ := g6 i _ tag (by omega) hg ht hb
      have hok : okV n 3 u = true := List.all_eq_true.1 hv u (List.mem_of_getElem? hu)
      exact ⟨v', a, sub_rel hm 3 u v' hok b⟩
    refine ⟨cs, 0, 0, g1, fun _ => ⟨rfl, rfl⟩, fun i q1 q2 => by omega, g4, ⟨Nat.le_refl _, fun i x hx => ?_⟩, fun i v tag q1 q2 q3 q4 => ?_, fun _ i q1 q2 => ?_⟩
    · rw [rowTr_lf] at hx
      obtain ⟨v, _, rfl⟩ := Option.map_eq_some_iff.1 hx
      exact Nat.le_refl _
    · rw [rowTr_lf] at q2
      obtain ⟨u, hu, e⟩ := Option.map_eq_some_iff.1 q2
      cases e
      rw [List.getElem?_map, Option.map_eq_some_iff] at hu
      obtain ⟨u0, hu0, rfl⟩ := hu
      exact key i u0 hu0 q4
    · rw [List.length_map] at q2
      obtain ⟨u, hu⟩ : ∃ u : AV, vs[i]? = some u := ⟨_, List.getElem?_eq_getElem (by omega)⟩
      obtain ⟨v', a, _⟩ := key i u hu q1
      have := (Array.getElem?_eq_some_iff.1 a).1
      show i - p.base < p.size
      omega
  · cases h
end Go.Eng
/- The hook that answers calls by runs of their own. -/
namespace Go.Eng
set_option linter.unusedVariables false
set_option linter.unusedSectionVars false
variable [Sym]
/-- A block that stands is adopted. -/
theorem SRel.adopt {B : Nat → Prop} {ρ : Rho} {st : St} {w : World} (hs : SRel B ρ st w) {p : Pl} {r : Rec} (hB : ¬ B p.blk) (hhi : p.blk < w.heap.size) (hfree : ∀ id ep q, ρ id ep = some q → q.blk ≠ p.blk)
    (hr : RecRel (ρ.add st.next 0 p) 0 p r w.heap[p.blk]?) :
    SRel B (ρ.add st.next 0 p) ⟨st.heap.set st.next r, st.next + 1, st.lim⟩ w ∧ Adv B ρ st w (ρ.add st.next 0 p) ⟨st.heap.set st.next r, st.next + 1, st.lim⟩ w := by
  have hun : ∀ ep, ρ st.next ep = none := fun ep => hs.none_of_ge (Nat.le_refl _) ep
  have hle := Rho.add_le (p := p) (hun 0)
  refine ⟨⟨fun id ep q hq => ?_, ?_, hs.low⟩, ⟨hle, by simp, fun id hid hn => ⟨fun ep => ?_, Tr.get_set_ne _ _ (by omega)⟩, fun b hb => rfl, Nat.le_refl _, rfl, rfl, fun _ => rfl⟩⟩
  · unfold Rho.add at hq
    split at hq
    · rename_i hc
      obtain ⟨rfl, rfl⟩ := hc
      cases hq
      exact ⟨fun hb => (hB hb).elim, hhi, by simp, r, Tr.get_set_same _ _ _, hr⟩
    · obtain ⟨a, b, c, r', d, e⟩ := hs.mapped _ _ _ hq
      exact ⟨a, b, by simp; omega, r', by rw [Tr.get_set_ne _ _ (by omega)]; exact d, e.mono hle⟩
  · intro id1 ep1 p1 id2 ep2 p2 h1 h2 he
    unfold Rho.add at h1 h2
    split at h1 <;> split at h2
    · rename_i c1 c2; cases h1; cases h2; exact ⟨c1.1.trans c2.1.symm, rfl⟩
    · cases h1; exact (hfree _ _ _ h2 he.symm).elim
    · cases h2; exact (hfree _ _ _ h1 he).elim
    · exact hs.inj _ _ _ _ _ _ h1 h2 he
  · unfold Rho.add; rw [if_neg (by omega)]; exact hn ep
/-- A number is passed over. -/
theorem SRel.skip {B : Nat → Prop} {ρ : Rho} {st : St} {w : World} (hs : SRel B ρ st w) (r : Rec) :
    SRel B ρ ⟨st.heap.set st.next r, st.next + 1, st.lim⟩ w ∧ Adv B ρ st w ρ ⟨st.heap.set st.next r, st.next + 1, st.lim⟩ w := by
  refine ⟨⟨fun id ep q hq => ?_, hs.inj, hs.low⟩, ⟨Rho.le_refl _, by simp, fun id hid hn => ⟨hn, Tr.get_set_ne _ _ (by omega)⟩, fun b hb => rfl, Nat.le_refl _, rfl, rfl, fun _ => rfl⟩⟩
  obtain ⟨a, b, c, r', d, e⟩ := hs.mapped _ _ _ hq
  exact ⟨a, b, by simp; omega, r', by rw [Tr.get_set_ne _ _ (by omega)]; exact d, e⟩
/-- Blocks of plain cells, added to what is known. -/
noncomputable def addAll (base : Nat) : List (TypeId × List AV) → St → St
  | [], st => st
  | (e, vs) :: l, st => addAll base l ⟨st.heap.set st.next (recOf e (vs.map (subV (fun j => (base + j, 0)) 3))), st.next + 1, st.lim⟩
noncomputable def addAllK (base : Nat) : List (TypeId × List AV) → St → (St → Bool) → Bool
  | [], st, k => k st
  | (e, vs) :: l, st, k => newK st (recOf e (vs.map (subV (fun j => (base + j, 0)) 3))) fun _ st => addAllK base l st k
theorem addAllK_eq (base : Nat) (k : St → Bool) : ∀ (l : List (TypeId × List AV)) (st : St), addAllK base l st k = k (addAll base l st) := by
  intro l
  induction l with
  | nil => intro st; rfl
  | cons a l ih => intro st; obtain ⟨e, vs⟩ := a; rw [addAllK, newK_eq, ih]; rfl
theorem addAll_next (base : Nat) : ∀ (l : List (TypeId × List AV)) (st : St), (addAll base l st).next = st.next + l.length ∧ (addAll base l st).lim = st.lim := by
  intro l
  induction l with
  | nil => intro st; exact ⟨rfl, rfl⟩
  | cons a l ih =>
    intro st
    obtain ⟨e, vs⟩ := a
    obtain ⟨h1, h2⟩ := ih ⟨st.heap.set st.next (recOf e (vs.map (subV (fun j => (base + j, 0)) 3))), st.next + 1, st.lim⟩
    exact ⟨by rw [addAll, h1]; simp; omega, by rw [addAll, h2]⟩
theorem addAll_old (base : Nat) : ∀ (l : List (TypeId × List AV)) (st : St) (i : Nat), i < st.next → (addAll base l st).heap.get i = st.heap.get i := by
  intro l
  induction l with
  | nil => intro st i _; rfl
  | cons a l ih =>
    intro st i hi
    obtain ⟨e, vs⟩ := a
    rw [addAll, ih _ i (by show i < st.next + 1; omega)]
    exact Tr.get_set_ne _ _ (by omega)
theorem addAll_get (base : Nat) : ∀ (l : List (TypeId × List AV)) (st : St) (j : Nat) (e : TypeId) (vs : List AV), l[j]? = some (e, vs) → (addAll base l st).heap.get (st.next + j) = some (recOf e (vs.map (subV (fun j => (base + j, 0)) 3))) := by
  intro l
  induction l with
  | nil => intro st j e vs h; simp at h
  | cons a l ih =>
    intro st j e vs h
    obtain ⟨e0, vs0⟩ := a
    cases j with
    | zero =>
      simp at h
      obtain ⟨rfl, rfl⟩ := h
      rw [addAll, Nat.add_zero, addAll_old _ _ _ _ (by show st.next < st.next + 1; omega)]
      exact Tr.get_set_same _ _ _
    | succ j =>
      have := ih ⟨st.heap.set st.next (recOf e0 (vs0.map (subV (fun j => (base + j, 0)) 3))), st.next + 1, st.lim⟩ j e vs (by simpa using h)
      rw [addAll, ← this]
      congr 1
      show _ = st.next + 1 + j
      omega
/-- Has a run left these blocks, all of them new? -/
noncomputable def newsOk (src : Nat → Nat × Nat) (lim : Nat) (st : St) : List (TypeId × List AV) → Nat → Bool
  | [], _ => true
  | (e, vs) :: l, i => blockTo src st (src i).1 (src i).2 e vs && vs.all (okV i 3) && Nat.ble lim (src i).1 && (List.range i).all (fun j => !(Nat.beq (src j).1 (src i).1)) && newsOk src lim st l (i + 1)
theorem take_all {B : Nat → Prop} {ρ ρ' : Rho} {st st' : St} {w : World} {S lim base : Nat} {src : Nat → Nat × Nat} (hBS : ∀ b, B b → b < S) (hs' : SRel (fun b => b < S) ρ' st' w) (hlim : st'.lim ≤ lim) :
    ∀ (l : List (TypeId × List AV)) (i : Nat) (ρi : Rho) (sti : St), newsOk src lim st' l i = true → SRel B ρi sti w → Adv B ρ st w ρi sti w → sti.next = base + i →
      (∀ j, j < i → ∀ p, ρ' (src j).1 (src j).2 = some p → ρi (base + j) 0 = some p) → (∀ id ep q, ρi id ep = some q → q.blk < S ∨ ∃ j, j < i ∧ ρ' (src j).1 (src j).2 = some q) →
      ∃ ρn, SRel B ρn (addAll base l sti) w ∧ Adv B ρ st w ρn (addAll base l sti) w ∧ (∀ j, j < i + l.length → ∀ p, ρ' (src j).1 (src j).2 = some p → ρn (base + j) 0 = some p) := by
  intro l
  induction l with
  | nil => intro i ρi sti _ h1 h2 h3 h4 h5; exact ⟨ρi, h1, h2, h4⟩
  | cons a l ih =>
    intro i ρi sti hn h1 h2 h3 h4 h5
    obtain ⟨e, vs⟩ := a
    simp only [newsOk, Bool.and_eq_true] at hn
    obtain ⟨⟨⟨⟨n1, n2⟩, n3⟩, n4⟩, n5⟩ := hn
    have n3 := Nat.le_of_ble_eq_true n3
    have hlen : i + ((e, vs) :: l).length = i + 1 + l.length := by simp; omega
    rw [hlen, addAll]
    cases hp : ρ' (src i).1 (src i).2 with
    | none =>
      obtain ⟨s1, s2⟩ := h1.skip (recOf e (vs.map (subV (fun j => (base + j, 0)) 3)))
      refine ih (i + 1) ρi _ n5 s1 (h2.trans s2) (by show sti.next + 1 = _; omega) (fun j hj p q => ?_) (fun id ep q hq => ?_)
      · rcases Nat.lt_or_ge j i with h | h
        · exact h4 j h p q
        · have : j = i := by omega
          subst this
          rw [hp] at q; cases q
      · rcases h5 id ep q hq with h | ⟨j, a, b⟩
        · exact .inl h
        · exact .inr ⟨j, by omega, b⟩
    | some p =>
      obtain ⟨m1, m2, m3, r, m4, m5⟩ := hs'.mapped _ _ _ hp
      have hge : S ≤ p.blk := by
        rcases Nat.lt_or_ge p.blk S with h | h
        · have := m1 h
          have : Nat.blt (src i).1 st'.lim = true := this
          rw [Nat.blt_eq] at this
          omega
        · exact h
      have hm : ∀ j, j < i → ∀ q, ρ' (src j).1 (src j).2 = some q → (ρi.add sti.next 0 p) (base + j) 0 = some q := fun j hj q hq => by
        unfold Rho.add
        rw [if_neg (by omega)]
        exact h4 j hj q hq
      have hrr := blockTo_rel (tgt := fun j => (base + j, 0)) hm n2 n1 m4 m5
      obtain ⟨s1, s2⟩ := h1.adopt (fun hb => by have := hBS _ hb; omega) m2 (fun id ep q hq he => by
        rcases h5 id ep q hq with h | ⟨j, a, b⟩
        · omega
        · have := (hs'.inj _ _ _ _ _ _ b hp he).1
          have h6 := List.all_eq_true.1 n4 j (List.mem_range.2 a)
          rw [this] at h6
          simp at h6) hrr
      refine ih (i + 1) _ _ n5 s1 (h2.trans s2) (by show sti.next + 1 = _; omega) (fun j hj q hq => ?_) (fun id ep q hq => ?_)
      · rcases Nat.lt_or_ge j i with h | h
        · exact hm j h q hq
        · have : j = i := by omega
          subst this
          rw [hp] at hq; cases hq
          rw [← h3]
          exact Rho.add_same _ _ _ _
      · unfold Rho.add at hq
        split at hq
        · cases hq
          exact .inr ⟨i, by omega, hp⟩
        · rcases h5 id ep q hq with h | ⟨j, a, b⟩
          · exact .inl h
          · exact .inr ⟨j, by omega, b⟩
/-- A call, and what it comes to. -/
structure Memo where
  args : List AV
  starts : List (TypeId × List AV)
  res : AV
  news : List (TypeId × List AV)
  src : List (Nat × Nat)
def Memo.at (M : Memo) (j : Nat) : Nat × Nat := M.src.getD j (0, 0)
def selfN (j : Nat) : Nat × Nat := (j, 0)
noncomputable def Memo.state (M : Memo) : St := addAll 0 M.starts ⟨.lf, 0, M.starts.length⟩
noncomputable def Memo.done (M : Memo) (v : AV) (st : St) : Bool :=
  AV.beq v (subV M.at 6 M.res) && okV M.news.length 6 M.res && Nat.ble st.lim M.starts.length && newsOk M.at M.starts.length st M.news 0
/-- The run behind an answer. -/
noncomputable def Memo.runs [Hooks] (P : Program) (fuel : Nat) (f : FuncId) (M : Memo) : Bool :=
  runFS P fuel f M.state (M.args.map (subV selfN 6)) M.done
def slicesA : Nat → AV → List Nat
  | d + 1, .agg l => l.flatMap (slicesA d)
  | _, .slice j .. => [j]
  | _, _ => []
noncomputable def startsOk (n : Nat) (src : Nat → Nat × Nat) (st : St) : List (TypeId × List AV) → Nat → Bool
  | [], _ => true
  | (e, vs) :: l, i => blockTo src st (src i).1 0 e vs && vs.all (okV n 3) && (List.range i).all (fun j => !(Nat.beq (src j).1 (src i).1)) && startsOk n src st l (i + 1)
def idsAt (ids : List Nat) (j : Nat) : Nat × Nat := (ids.getD j 0, 0)
noncomputable def slicesR (st : St) (id : Nat) : List Nat :=
  match st.heap.get id with
  | some (.cells _ c top _ _) => (List.range top).flatMap fun i => match c.get i with
    | some ⟨v, _⟩ => slicesA 3 v
    | none => []
  | _ => []
noncomputable def idsOf (args : List AV) (st : St) : List Nat := (fun l => l ++ l.flatMap (slicesR st)) (args.flatMap (slicesA 3))
noncomputable def Memo.fits (M : Memo) (args : List AV) (st : St) : Bool :=
  (fun ids => AV.beqs args (M.args.map (subV (idsAt ids) 6)) && M.args.all (okV M.starts.length 6) && startsOk M.starts.length (idsAt ids) st M.starts 0) (idsOf args st)
noncomputable def findM (args : List AV) (st : St) : List Memo → Option Memo
  | [] => none
  | M :: l => match M.fits args st with | true => some M | false => findM args st l
theorem findM_some {args : List AV} {st : St} {M : Memo} : ∀ {tbl : List Memo}, findM args st tbl = some M → M ∈ tbl ∧ M.fits args st = true := by
  intro tbl
  induction tbl with
  | nil => intro h; cases h
  | cons e l ih =>
    intro h
    unfold findM at h
    split at h
    · rename_i hb; cases h; exact ⟨List.mem_cons_self .., hb⟩
    · obtain ⟨a, b⟩ := ih h; exact ⟨List.mem_cons_of_mem _ a, b⟩
noncomputable def hookMemo (tbl : List Memo) : Hook := ⟨fun _ args st k _ => match findM args st tbl with
  | some M => addAllK st.next M.news st fun st' => k (subV (fun j => (st.next + j, 0)) 6 M.res) st'
  | none => false⟩
theorem startsOk_at {n : Nat} {src : Nat → Nat × Nat} {st : St} : ∀ {l : List (TypeId × List AV)} {i : Nat}, startsOk n src st l i = true → ∀ (j : Nat) (e : TypeId) (vs : List AV), l[j]? = some (e, vs) → blockTo src st (src (i + j)).1 0 e vs = true ∧ vs.all (okV n 3) = true ∧ ∀ q, q < i + j → (src q).1 ≠ (src (i + j)).1 := by
  intro l
  induction l with
  | nil => intro i _ j e vs h; simp at h
  | cons a l ih =>
    intro i h j e vs hj
    obtain ⟨e0, vs0⟩ := a
    simp only [startsOk, Bool.and_eq_true] at h
    obtain ⟨⟨⟨n1, n2⟩, n3⟩, n4⟩ := h
    cases j with
    | zero =>
      simp at hj
      obtain ⟨rfl, rfl⟩ := hj
      refine ⟨n1, n2, fun q hq he => ?_⟩
      have h6 := List.all_eq_true.1 n3 q (List.mem_range.2 hq)
      rw [Nat.add_zero] at he
      rw [he] at h6
      simp at h6
    | succ j =>
      have := ih n4 j e vs (by simpa using hj)
      rw [show i + (j + 1) = i + 1 + j by omega]
      exact this
theorem hookMemo_ok {P : Program} [Hooks] {f : FuncId} {tbl : List Memo} (hm : P.follows .mixedOrders = true) (hc : Callable P f) {kk : Hooks} (hkk : @HooksOK _ kk P) {fuel : Nat} (hr : ∀ M ∈ tbl, @Memo.runs kk P fuel f M = true) : HookOK P f (hookMemo tbl) := by
  intro call _ B args st k kp h ρ w args' hs ha
  refine ⟨hc, ?_⟩
  have h : (match findM args st tbl with
    | some M => addAllK st.next M.news st fun st' => k (subV (fun j => (st.next + j, 0)) 6 M.res) st'
    | none => false) = true := h
  split at h <;> (try (cases h; done))
  rename_i M hf
  obtain ⟨hmem, hfit⟩ := findM_some hf
  rw [addAllK_eq] at h
  unfold Memo.fits at hfit
  generalize idsOf args st = ids at hfit
  simp only [Bool.and_eq_true] at hfit
  obtain ⟨⟨f1, f2⟩, f3⟩ := hfit
  have e1 := AV.eq_of_beqs _ _ f1
  have hrun := hr M hmem
  have hnext : M.state.next = M.starts.length ∧ M.state.lim = M.starts.length := by
    obtain ⟨a, b⟩ := addAll_next 0 M.starts ⟨.lf, 0, M.starts.length⟩
    exact ⟨by rw [Memo.state, a]; simp, by rw [Memo.state, b]⟩
  obtain ⟨ρ0, hρ0⟩ : ∃ ρ0 : Rho, ρ0 = fun j ep => if ep = 0 ∧ j < M.starts.length then ρ (idsAt ids j).1 0 else none := ⟨_, rfl⟩
  have g0 : ∀ j ep p, ρ0 j ep = some p → ep = 0 ∧ j < M.starts.length ∧ ρ (idsAt ids j).1 0 = some p := fun j ep p hp => by
    rw [hρ0] at hp
    simp only at hp
    split at hp
    · rename_i hh; exact ⟨hh.1, hh.2, hp⟩
    · cases hp
  have hs0 : SRel (fun b => b < w.heap.size) ρ0 M.state w := by
    refine ⟨fun j ep p hp => ?_, fun j ep p j' ep' p' hp hp' he => ?_, fun b hb => hb⟩
    · obtain ⟨rfl, hj, hq⟩ := g0 _ _ _ hp
      obtain ⟨_, m2, m3, r, m4, m5⟩ := hs.mapped _ _ _ hq
      obtain ⟨⟨e, vs⟩, hl⟩ : ∃ x, M.starts[j]? = some x := ⟨_, List.getElem?_eq_getElem hj⟩
      obtain ⟨b1, b2, _⟩ := startsOk_at f3 j e vs hl
      rw [Nat.zero_add] at b1
      have hget := addAll_get 0 M.starts ⟨.lf, 0, M.starts.length⟩ j e vs hl
      rw [show (⟨.lf, 0, M.starts.length⟩ : St).next + j = j from Nat.zero_add j] at hget
      refine ⟨fun _ => ?_, m2, by rw [hnext.1]; exact hj, _, hget, blockTo_rel (src := idsAt ids) (tgt := fun j => (0 + j, 0)) (n := M.starts.length) (fun j hj q hq => ?_) b2 b1 m4 m5⟩
      rotate_left
      · rw [hρ0]
        show (if 0 = 0 ∧ 0 + j < M.starts.length then ρ (idsAt ids (0 + j)).1 0 else none) = some q
        rw [Nat.zero_add, if_pos ⟨rfl, hj⟩]
        exact hq
      show Nat.blt j M.state.lim = true
      rw [hnext.2, Nat.blt_eq]; exact hj
    · obtain ⟨rfl, hj, hq⟩ := g0 _ _ _ hp
      obtain ⟨rfl, hj', hq'⟩ := g0 _ _ _ hp'
      obtain ⟨i1, i2⟩ := hs.inj _ _ _ _ _ _ hq hq' he
      refine ⟨?_, i2⟩
      obtain ⟨⟨e, vs⟩, hl⟩ : ∃ x, M.starts[j]? = some x := ⟨_, List.getElem?_eq_getElem hj⟩
      obtain ⟨⟨e', vs'⟩, hl'⟩ : ∃ x, M.starts[j']? = some x := ⟨_, List.getElem?_eq_getElem hj'⟩
      have d1 := (startsOk_at f3 j e vs hl).2.2 j'
      have d2 := (startsOk_at f3 j' e' vs' hl').2.2 j
      rw [Nat.zero_add] at d1 d2
      rcases Nat.lt_trichotomy j j' with h | h | h
      · exact (d2 h i1).elim
      · exact h
      · exact (d1 h i1.symm).elim
  have ha0 : VsRel ρ0 (M.args.map (subV selfN 6)) args'.toList := by
    rw [e1] at ha
    refine subs_rel (src := idsAt ids) (tgt := selfN) (n := M.starts.length) (fun j hj p hp => ?_) _ _ f2 ha
    rw [hρ0]
    simp only [selfN]
    rw [if_pos ⟨trivial, hj⟩]
    exact hp
  letI := kk
  refine (runFS_calls hm hs0 ha0 hrun).mono ?_
  rintro e w' ⟨v, st', ρ', v', rfl, q1, q2, q3, q4⟩
  have hO := Only.of_adv q4
  replace q1 : M.done v st' = true := q1
  unfold Memo.done at q1
  simp only [Bool.and_eq_true] at q1
  obtain ⟨⟨⟨d1, d2⟩, d3⟩, d4⟩ := q1
  have e2 := AV.eq_of_beq _ _ d1
  subst e2
  have hlim := Nat.le_of_ble_eq_true d3
  obtain ⟨ρn, s1, s2, s3⟩ := take_all (base := st.next) hs.low q3 hlim M.news 0 ρ st d4 (hO.rel hs) (Adv.refl _ _ _ _) rfl (fun j hj => by omega) (fun id ep q hq => .inl (hs.mapped _ _ _ hq).2.1)
  rw [Nat.zero_add] at s3
  exact .inl ⟨_, _, ρn, v', rfl, h, s1, sub_rel s3 6 M.res v' d2 q2, (hO.adv hs).trans s2⟩
end Go.Eng
namespace Go.Proofs.YtjkaoejcdboaiaaGreat
open Go.RowKit Go.Eng
set_option linter.unusedVariables false
set_option linter.unusedSectionVars false
set_option maxRecDepth 100000
/-- The bytes of a bank with code at 16. -/
def bankL (l : List Nat) : List Nat := List.replicate 16 0 ++ (l ++ List.replicate (4080 - l.length) 0)
def imgA (j : Nat) : AV := .agg [.slice j 0 0 1 1 true 1, .int .u16 16, .int .u16 0, .nils, .nils]
def findArgs : List AV := [imgA 0, imgA 1, .agg [.slice 2 0 0 1 1 true 4, .slice 3 0 0 1 1 true 1, .nils], .int .i64 0, .int .i64 1000]
def findStarts (a c : List Nat) : List (TypeId × List AV) := [(9, [.str (bankL a)]), (9, [.str (bankL c)]), (104, [.int .i64 0, .int .u16 16, .int .i64 0, .int .u16 16]), (3, [.int .i64 1])]
/-- A witness is found. -/
def foundM (a c : List Nat) : Memo := ⟨findArgs, findStarts a c, .tup [.agg [.slice 1 0 0 1 1 true 9], .int .i64 0],
  [(113, [.int .i64 2, .int .i64 (-3), .int .i64 2, .int .i64 (-3)]),
   (110, [.int .i64 0, .int .u16 16, .int .i64 0, .int .u16 16, .int .i64 0, .int .i64 0, .int .i64 (-1), .int .i64 (-1), .slice 0 0 0 1 1 false 4])], [(66, 0), (67, 0)]⟩
/-- No witness is found. -/
def noneM (a c : List Nat) : Memo := ⟨findArgs, findStarts a c, .tup [.agg [.nils], .int .i64 90], [], []⟩
def a0 : List Nat := [160, 1, 2, 32, 1, 1]
def c0 : List Nat := [160, 0, 2, 1]
def a1 : List Nat := [160, 0, 2, 49, 0, 1, 1]
def c1 : List Nat := [160, 3, 2, 32, 3, 65, 0, 1, 0, 1]
def a3 : List Nat := [160, 0, 2, 145, 0, 1, 1]
def c3 : List Nat := [160, 0, 2, 145, 0, 2, 1]
def a4 : List Nat := [17, 0, 1]
/-- A witness is accepted. -/
def checkM (a c : List Nat) : Memo := ⟨[imgA 0, imgA 1, .agg [.slice 2 0 0 1 1 true 4, .slice 3 0 0 1 1 true 1, .nils], .int .i64 0, .agg [.slice 4 0 0 1 1 true 9], .int .i64 1000],
  findStarts a c ++ [(110, [.int .i64 0, .int .u16 16, .int .i64 0, .int .u16 16, .int .i64 0, .int .i64 0, .int .i64 (-1), .int .i64 (-1), .slice 5 0 0 1 1 false 4]), (113, [.int .i64 2, .int .i64 (-3), .int .i64 2, .int .i64 (-3)])],
  .agg [.int .i64 0, .int .i64 0, .int .u16 0], [], []⟩
end Go.Proofs.YtjkaoejcdboaiaaGreat
