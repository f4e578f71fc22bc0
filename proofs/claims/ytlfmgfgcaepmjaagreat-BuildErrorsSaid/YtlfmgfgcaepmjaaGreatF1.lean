/- The hook that answers calls by runs of their own. -/
import Derived.Test.YtlfmgfgcaepmjaaGreatF0
set_option linter.unusedSimpArgs false
set_option linter.unusedVariables false
set_option linter.unusedSectionVars false
namespace Go.Eng
set_option linter.unusedVariables false
set_option linter.unusedSectionVars false
variable [Sym]
/-- A block that stands is adopted. -/
theorem SRel.adopt {B : Nat → Prop} {ρ : Rho} {st : St} {w : World} (hs : SRel B ρ st w) {p : Pl} {r : Rec} (hB : ¬ B p.blk) (hhi : p.blk < w.heap.size) (hfree : ∀ id ep q, ρ id ep = some q → q.blk ≠ p.blk)
    (hr : RecRel (ρ.add st.next 0 p) 0 p r w.heap[p.blk]?) :
    SRel B (ρ.add st.next 0 p) ⟨st.heap.set st.next r, st.next + 1, st.lim⟩ w ∧ Adv B ρ st w (ρ.add st.next 0 p) ⟨st.heap.set st.next r, st.next + 1, st.lim⟩ w := by
  have hun : ∀ ep, ρ st.next ep = none := fun ep => hs.none_of_ge (Nat.le_refl _) ep
  have hle := Rho.add_le (p := p) (hun 0)
  refine ⟨⟨fun id ep q hq => ?_, ?_, hs.low⟩, ⟨hle, by simp, fun id hid hn => ⟨fun ep => ?_, Tr.get_set_ne _ _ (by omega)⟩, fun b hb => rfl, Nat.le_refl _, rfl, rfl, fun _ _ => rfl⟩⟩
  · unfold Rho.add at hq
    split at hq
    · rename_i hc
      obtain ⟨rfl, rfl⟩ := hc
      cases hq
      exact ⟨fun hb => (hB hb).elim, hhi, by simp, r, Tr.get_set_same _ _ _, hr⟩
    · obtain ⟨a, b, c, r', d, e⟩ := hs.mapped _ _ _ hq
      exact ⟨a, b, by simp; omega, r', by rw [Tr.get_set_ne _ _ (by omega)]; exact d, e.mono hle⟩
  · intro id1 ep1 p1 id2 ep2 p2 h1 h2 he
    unfold Rho.add at h1 h2
    split at h1 <;> split at h2
    · rename_i c1 c2; cases h1; cases h2; exact ⟨c1.1.trans c2.1.symm, rfl⟩
    · cases h1; exact (hfree _ _ _ h2 he.symm).elim
    · cases h2; exact (hfree _ _ _ h1 he).elim
    · exact hs.inj _ _ _ _ _ _ h1 h2 he
  · unfold Rho.add; rw [if_neg (by omega)]; exact hn ep
/-- A number is passed over. -/
theorem SRel.skip {B : Nat → Prop} {ρ : Rho} {st : St} {w : World} (hs : SRel B ρ st w) (r : Rec) :
    SRel B ρ ⟨st.heap.set st.next r, st.next + 1, st.lim⟩ w ∧ Adv B ρ st w ρ ⟨st.heap.set st.next r, st.next + 1, st.lim⟩ w := by
  refine ⟨⟨fun id ep q hq => ?_, hs.inj, hs.low⟩, ⟨Rho.le_refl _, by simp, fun id hid hn => ⟨hn, Tr.get_set_ne _ _ (by omega)⟩, fun b hb => rfl, Nat.le_refl _, rfl, rfl, fun _ _ => rfl⟩⟩
  obtain ⟨a, b, c, r', d, e⟩ := hs.mapped _ _ _ hq
  exact ⟨a, b, by simp; omega, r', by rw [Tr.get_set_ne _ _ (by omega)]; exact d, e⟩
/-- Blocks of plain cells, added to what is known. -/
noncomputable def addAll (base : Nat) : List (TypeId × List AV) → St → St
  | [], st => st
  | (e, vs) :: l, st => addAll base l ⟨st.heap.set st.next (recOf e (vs.map (subV (fun j => (base + j, 0)) 3))), st.next + 1, st.lim⟩
noncomputable def addAllK (base : Nat) : List (TypeId × List AV) → St → (St → Bool) → Bool
  | [], st, k => k st
  | (e, vs) :: l, st, k => newK st (recOf e (vs.map (subV (fun j => (base + j, 0)) 3))) fun _ st => addAllK base l st k
theorem addAllK_eq (base : Nat) (k : St → Bool) : ∀ (l : List (TypeId × List AV)) (st : St), addAllK base l st k = k (addAll base l st) := by
  intro l
  induction l with
  | nil => intro st; rfl
  | cons a l ih => intro st; obtain ⟨e, vs⟩ := a; rw [addAllK, newK_eq, ih]; rfl
theorem addAll_next (base : Nat) : ∀ (l : List (TypeId × List AV)) (st : St), (addAll base l st).next = st.next + l.length ∧ (addAll base l st).lim = st.lim := by
  intro l
  induction l with
  | nil => intro st; exact ⟨rfl, rfl⟩
  | cons a l ih =>
    intro st
    obtain ⟨e, vs⟩ := a
    obtain ⟨h1, h2⟩ := ih ⟨st.heap.set st.next (recOf e (vs.map (subV (fun j => (base + j, 0)) 3))), st.next + 1, st.lim⟩
    exact ⟨by rw [addAll, h1]; simp; omega, by rw [addAll, h2]⟩
theorem addAll_old (base : Nat) : ∀ (l : List (TypeId × List AV)) (st : St) (i : Nat), i < st.next → (addAll base l st).heap.get i = st.heap.get i := by
  intro l
  induction l with
  | nil => intro st i _; rfl
  | cons a l ih =>
    intro st i hi
    obtain ⟨e, vs⟩ := a
    rw [addAll, ih _ i (by show i < st.next + 1; omega)]
    exact Tr.get_set_ne _ _ (by omega)
theorem addAll_get (base : Nat) : ∀ (l : List (TypeId × List AV)) (st : St) (j : Nat) (e : TypeId) (vs : List AV), l[j]? = some (e, vs) → (addAll base l st).heap.get (st.next + j) = some (recOf e (vs.map (subV (fun j => (base + j, 0)) 3))) := by
  intro l
  induction l with
  | nil => intro st j e vs h; simp at h
  | cons a l ih =>
    intro st j e vs h
    obtain ⟨e0, vs0⟩ := a
    cases j with
    | zero =>
      simp at h
      obtain ⟨rfl, rfl⟩ := h
      rw [addAll, Nat.add_zero, addAll_old _ _ _ _ (by show st.next < st.next + 1; omega)]
      exact Tr.get_set_same _ _ _
    | succ j =>
      have := ih ⟨st.heap.set st.next (recOf e0 (vs0.map (subV (fun j => (base + j, 0)) 3))), st.next + 1, st.lim⟩ j e vs (by simpa using h)
      rw [addAll, ← this]
      congr 1
      show _ = st.next + 1 + j
      omega
/-- Has a run left these blocks, all of them new? -/
noncomputable def newsOk (src : Nat → Nat × Nat) (lim : Nat) (st : St) : List (TypeId × List AV) → Nat → Bool
  | [], _ => true
  | (e, vs) :: l, i => blockTo src st (src i).1 (src i).2 e vs && vs.all (okV i 3) && Nat.ble lim (src i).1 && (List.range i).all (fun j => !(Nat.beq (src j).1 (src i).1)) && newsOk src lim st l (i + 1)
theorem take_all {B : Nat → Prop} {ρ ρ' : Rho} {st st' : St} {w : World} {S lim base : Nat} {src : Nat → Nat × Nat} (hBS : ∀ b, B b → b < S) (hs' : SRel (fun b => b < S) ρ' st' w) (hlim : st'.lim ≤ lim) :
    ∀ (l : List (TypeId × List AV)) (i : Nat) (ρi : Rho) (sti : St), newsOk src lim st' l i = true → SRel B ρi sti w → Adv B ρ st w ρi sti w → sti.next = base + i →
      (∀ j, j < i → ∀ p, ρ' (src j).1 (src j).2 = some p → ρi (base + j) 0 = some p) → (∀ id ep q, ρi id ep = some q → q.blk < S ∨ ∃ j, j < i ∧ ρ' (src j).1 (src j).2 = some q) →
      ∃ ρn, SRel B ρn (addAll base l sti) w ∧ Adv B ρ st w ρn (addAll base l sti) w ∧ (∀ j, j < i + l.length → ∀ p, ρ' (src j).1 (src j).2 = some p → ρn (base + j) 0 = some p) := by
  intro l
  induction l with
  | nil => intro i ρi sti _ h1 h2 h3 h4 h5; exact ⟨ρi, h1, h2, h4⟩
  | cons a l ih =>
    intro i ρi sti hn h1 h2 h3 h4 h5
    obtain ⟨e, vs⟩ := a
    simp only [newsOk, Bool.and_eq_true] at hn
    obtain ⟨⟨⟨⟨n1, n2⟩, n3⟩, n4⟩, n5⟩ := hn
    have n3 := Nat.le_of_ble_eq_true n3
    have hlen : i + ((e, vs) :: l).length = i + 1 + l.length := by simp; omega
    rw [hlen, addAll]
    cases hp : ρ' (src i).1 (src i).2 with
    | none =>
      obtain ⟨s1, s2⟩ := h1.skip (recOf e (vs.map (subV (fun j => (base + j, 0)) 3)))
      refine ih (i + 1) ρi _ n5 s1 (h2.trans s2) (by show sti.next + 1 = _; omega) (fun j hj p q => ?_) (fun id ep q hq => ?_)
      · rcases Nat.lt_or_ge j i with h | h
        · exact h4 j h p q
        · have : j = i := by omega
          subst this
          rw [hp] at q; cases q
      · rcases h5 id ep q hq with h | ⟨j, a, b⟩
        · exact .inl h
        · exact .inr ⟨j, by omega, b⟩
    | some p =>
      obtain ⟨m1, m2, m3, r, m4, m5⟩ := hs'.mapped _ _ _ hp
      have hge : S ≤ p.blk := by
        rcases Nat.lt_or_ge p.blk S with h | h
        · have := m1 h
          have : Nat.blt (src i).1 st'.lim = true := this
          rw [Nat.blt_eq] at this
          omega
        · exact h
      have hm : ∀ j, j < i → ∀ q, ρ' (src j).1 (src j).2 = some q → (ρi.add sti.next 0 p) (base + j) 0 = some q := fun j hj q hq => by
        unfold Rho.add
        rw [if_neg (by omega)]
        exact h4 j hj q hq
      have hrr := blockTo_rel (tgt := fun j => (base + j, 0)) hm n2 n1 m4 m5
      obtain ⟨s1, s2⟩ := h1.adopt (fun hb => by have := hBS _ hb; omega) m2 (fun id ep q hq he => by
        rcases h5 id ep q hq with h | ⟨j, a, b⟩
        · omega
        · have := (hs'.inj _ _ _ _ _ _ b hp he).1
          have h6 := List.all_eq_true.1 n4 j (List.mem_range.2 a)
          rw [this] at h6
          simp at h6) hrr
      refine ih (i + 1) _ _ n5 s1 (h2.trans s2) (by show sti.next + 1 = _; omega) (fun j hj q hq => ?_) (fun id ep q hq => ?_)
      · rcases Nat.lt_or_ge j i with h | h
        · exact hm j h q hq
        · have : j = i := by omega
          subst this
          rw [hp] at hq; cases hq
          rw [← h3]
          exact Rho.add_same _ _ _ _
      · unfold Rho.add at hq
        split at hq
        · cases hq
          exact .inr ⟨i, by omega, hp⟩
        · rcases h5 id ep q hq with h | ⟨j, a, b⟩
          · exact .inl h
          · exact .inr ⟨j, by omega, b⟩
/-- A call, and what it comes to. -/
structure Memo where
  args : List AV
  starts : List (TypeId × List AV)
  res : AV
  news : List (TypeId × List AV)
  srcs : List (List (Nat × Nat))
def srcAt (src : List (Nat × Nat)) (j : Nat) : Nat × Nat := src.getD j (0, 0)
def selfN (j : Nat) : Nat × Nat := (j, 0)
noncomputable def Memo.state (M : Memo) : St := addAll 0 M.starts ⟨.lf, 0, M.starts.length⟩
noncomputable def Memo.doneAt (M : Memo) (src : List (Nat × Nat)) (v : AV) (st : St) : Bool :=
  AV.beq v (subV (srcAt src) 6 M.res) && okV M.news.length 6 M.res && Nat.ble st.lim M.starts.length && newsOk (srcAt src) M.starts.length st M.news 0
noncomputable def Memo.done (M : Memo) (v : AV) (st : St) : Bool := M.srcs.any fun src => M.doneAt src v st
/-- The run behind an answer. -/
noncomputable def Memo.runs [Hooks] (P : Program) (fuel : Nat) (f : FuncId) (M : Memo) : Bool :=
  runFS P fuel f M.state (M.args.map (subV selfN 6)) M.done
def slicesA : Nat → AV → List (Nat × Nat)
  | d + 1, .agg l => l.flatMap (slicesA d)
  | _, .slice j ep .. => [(j, ep)]
  | _, _ => []
noncomputable def startsOk (n : Nat) (src : Nat → Nat × Nat) (st : St) : List (TypeId × List AV) → Nat → Bool
  | [], _ => true
  | (e, vs) :: l, i => blockTo src st (src i).1 (src i).2 e vs && vs.all (okV n 3) && (List.range i).all (fun j => !(Nat.beq (src j).1 (src i).1)) && startsOk n src st l (i + 1)
def idsAt (ids : List (Nat × Nat)) (j : Nat) : Nat × Nat := ids.getD j (0, 0)
noncomputable def slicesR (st : St) (id : Nat × Nat) : List (Nat × Nat) :=
  match st.heap.get id.1 with
  | some (.cells _ c top _ _) => (List.range top).flatMap fun i => match c.get i with
    | some ⟨v, _⟩ => slicesA 3 v
    | none => []
  | _ => []
/-- The blocks that are reached, each once. -/
noncomputable def reachA (st : St) : Nat → List (Nat × Nat) → List (Nat × Nat) → List (Nat × Nat)
  | 0, _, seen => seen
  | _ + 1, [], seen => seen
  | f + 1, x :: r, seen => match seen.any fun y => Nat.beq y.1 x.1 with
    | true => reachA st f r seen
    | false => reachA st f (slicesR st x ++ r) (seen ++ [x])
noncomputable def idsOf (args : List AV) (st : St) : List (Nat × Nat) := reachA st 400 (args.flatMap (slicesA 6)) []
noncomputable def Memo.fits (M : Memo) (args : List AV) (st : St) : Bool :=
  (fun ids => AV.beqs args (M.args.map (subV (idsAt ids) 6)) && M.args.all (okV M.starts.length 6) && startsOk M.starts.length (idsAt ids) st M.starts 0) (idsOf args st)
noncomputable def findM (args : List AV) (st : St) : List Memo → Option Memo
  | [] => none
  | M :: l => match M.fits args st with | true => some M | false => findM args st l
theorem findM_some {args : List AV} {st : St} {M : Memo} : ∀ {tbl : List Memo}, findM args st tbl = some M → M ∈ tbl ∧ M.fits args st = true := by
  intro tbl
  induction tbl with
  | nil => intro h; cases h
  | cons e l ih =>
    intro h
    unfold findM at h
    split at h
    · rename_i hb; cases h; exact ⟨List.mem_cons_self .., hb⟩
    · obtain ⟨a, b⟩ := ih h; exact ⟨List.mem_cons_of_mem _ a, b⟩
noncomputable def hookMemo (tbl : List Memo) : Hook := ⟨fun _ args st k _ => match findM args st tbl with
  | some M => addAllK st.next M.news st fun st' => k (subV (fun j => (st.next + j, 0)) 6 M.res) st'
  | none => false⟩
theorem startsOk_at {n : Nat} {src : Nat → Nat × Nat} {st : St} : ∀ {l : List (TypeId × List AV)} {i : Nat}, startsOk n src st l i = true → ∀ (j : Nat) (e : TypeId) (vs : List AV), l[j]? = some (e, vs) → blockTo src st (src (i + j)).1 (src (i + j)).2 e vs = true ∧ vs.all (okV n 3) = true ∧ ∀ q, q < i + j → (src q).1 ≠ (src (i + j)).1 := by
  intro l
  induction l with
  | nil => intro i _ j e vs h; simp at h
  | cons a l ih =>
    intro i h j e vs hj
    obtain ⟨e0, vs0⟩ := a
    simp only [startsOk, Bool.and_eq_true] at h
    obtain ⟨⟨⟨n1, n2⟩, n3⟩, n4⟩ := h
    cases j with
    | zero =>
      simp at hj
      obtain ⟨rfl, rfl⟩ := hj
      refine ⟨n1, n2, fun q hq he => ?_⟩
      have h6 := List.all_eq_true.1 n3 q (List.mem_range.2 hq)
      rw [Nat.add_zero] at he
      rw [he] at h6
      simp at h6
    | succ j =>
      have := ih n4 j e vs (by simpa using hj)
      rw [show i + (j + 1) = i + 1 + j by omega]
      exact this
/-- What an answer says, whether a run shows it or a proof. -/
def Memo.holds (P : Program) (f : FuncId) (M : Memo) : Prop :=
  ∀ (w : World) (ρ0 : Rho) (args' : Array Value), SRel (fun b => b < w.heap.size) ρ0 M.state w → VsRel ρ0 (M.args.map (subV selfN 6)) args'.toList →
    Calls P f args' w (fun e w' => ∃ v st' ρ' v', e = .returned v' ∧ M.done v st' = true ∧ VRel ρ' v v' ∧ SRel (fun b => b < w.heap.size) ρ' st' w' ∧ Adv (fun b => b < w.heap.size) ρ0 M.state w ρ' st' w')
theorem Memo.holds_of {P : Program} {f : FuncId} {M : Memo} (hm : P.follows .mixedOrders = true) {kk : Hooks} (hkk : @HooksOK _ kk P) {fuel : Nat} (hr : @Memo.runs _ kk P fuel f M = true) : M.holds P f := by
  intro w ρ0 args' hs ha
  letI := kk
  refine (runFS_calls hm hs ha hr).mono ?_
  rintro e w' ⟨v, st', ρ', v', rfl, q1, q2, q3, q4⟩
  exact ⟨v, st', ρ', v', rfl, q1, q2, q3, q4⟩
theorem hookMemoT_ok {P : Program} [Hooks] {f : FuncId} {tbl : List Memo} (hc : Callable P f) (hr : ∀ M ∈ tbl, Memo.holds P f M) : HookOK P f (hookMemo tbl) := by
  intro call _ B args st k kp h ρ w args' hs ha
  refine ⟨hc, ?_⟩
  have h : (match findM args st tbl with
    | some M => addAllK st.next M.news st fun st' => k (subV (fun j => (st.next + j, 0)) 6 M.res) st'
    | none => false) = true := h
  split at h <;> (try (cases h; done))
  rename_i M hf
  obtain ⟨hmem, hfit⟩ := findM_some hf
  rw [addAllK_eq] at h
  unfold Memo.fits at hfit
  generalize idsOf args st = ids at hfit
  simp only [Bool.and_eq_true] at hfit
  obtain ⟨⟨f1, f2⟩, f3⟩ := hfit
  have e1 := AV.eq_of_beqs _ _ f1
  have hrun := hr M hmem
  have hnext : M.state.next = M.starts.length ∧ M.state.lim = M.starts.length := by
    obtain ⟨a, b⟩ := addAll_next 0 M.starts ⟨.lf, 0, M.starts.length⟩
    exact ⟨by rw [Memo.state, a]; simp, by rw [Memo.state, b]⟩
  obtain ⟨ρ0, hρ0⟩ : ∃ ρ0 : Rho, ρ0 = fun j ep => if ep = 0 ∧ j < M.starts.length then ρ (idsAt ids j).1 (idsAt ids j).2 else none := ⟨_, rfl⟩
  have g0 : ∀ j ep p, ρ0 j ep = some p → ep = 0 ∧ j < M.starts.length ∧ ρ (idsAt ids j).1 (idsAt ids j).2 = some p := fun j ep p hp => by
    rw [hρ0] at hp
    simp only at hp
    split at hp
    · rename_i hh; exact ⟨hh.1, hh.2, hp⟩
    · cases hp
  have hs0 : SRel (fun b => b < w.heap.size) ρ0 M.state w := by
    refine ⟨fun j ep p hp => ?_, fun j ep p j' ep' p' hp hp' he => ?_, fun b hb => hb⟩
    · obtain ⟨rfl, hj, hq⟩ := g0 _ _ _ hp
      obtain ⟨_, m2, m3, r, m4, m5⟩ := hs.mapped _ _ _ hq
      obtain ⟨⟨e, vs⟩, hl⟩ : ∃ x, M.starts[j]? = some x := ⟨_, List.getElem?_eq_getElem hj⟩
      obtain ⟨b1, b2, _⟩ := startsOk_at f3 j e vs hl
      rw [Nat.zero_add] at b1
      have hget := addAll_get 0 M.starts ⟨.lf, 0, M.starts.length⟩ j e vs hl
      rw [show (⟨.lf, 0, M.starts.length⟩ : St).next + j = j from Nat.zero_add j] at hget
      refine ⟨fun _ => ?_, m2, by rw [hnext.1]; exact hj, _, hget, blockTo_rel (src := idsAt ids) (tgt := fun j => (0 + j, 0)) (n := M.starts.length) (fun j hj q hq => ?_) b2 b1 m4 m5⟩
      rotate_left
      · rw [hρ0]
        show (if 0 = 0 ∧ 0 + j < M.starts.length then ρ (idsAt ids (0 + j)).1 (idsAt ids (0 + j)).2 else none) = some q
        rw [Nat.zero_add, if_pos ⟨rfl, hj⟩]
        exact hq
      show Nat.blt j M.state.lim = true
      rw [hnext.2, Nat.blt_eq]; exact hj
    · obtain ⟨rfl, hj, hq⟩ := g0 _ _ _ hp
      obtain ⟨rfl, hj', hq'⟩ := g0 _ _ _ hp'
      obtain ⟨i1, i2⟩ := hs.inj _ _ _ _ _ _ hq hq' he
      refine ⟨?_, i2⟩
      obtain ⟨⟨e, vs⟩, hl⟩ : ∃ x, M.starts[j]? = some x := ⟨_, List.getElem?_eq_getElem hj⟩
      obtain ⟨⟨e', vs'⟩, hl'⟩ : ∃ x, M.starts[j']? = some x := ⟨_, List.getElem?_eq_getElem hj'⟩
      have d1 := (startsOk_at f3 j e vs hl).2.2 j'
      have d2 := (startsOk_at f3 j' e' vs' hl').2.2 j
      rw [Nat.zero_add] at d1 d2
      rcases Nat.lt_trichotomy j j' with h | h | h
      · exact (d2 h i1).elim
      · exact h
      · exact (d1 h i1.symm).elim
  have ha0 : VsRel ρ0 (M.args.map (subV selfN 6)) args'.toList := by
    rw [e1] at ha
    refine subs_rel (src := idsAt ids) (tgt := selfN) (n := M.starts.length) (fun j hj p hp => ?_) _ _ f2 ha
    rw [hρ0]
    simp only [selfN]
    rw [if_pos ⟨trivial, hj⟩]
    exact hp
  refine (hrun w ρ0 args' hs0 ha0).mono ?_
  rintro e w' ⟨v, st', ρ', v', rfl, q1, q2, q3, q4⟩
  have hO := Only.of_adv q4
  replace q1 : M.done v st' = true := q1
  unfold Memo.done at q1
  obtain ⟨src, _, q1⟩ := List.any_eq_true.1 q1
  unfold Memo.doneAt at q1
  simp only [Bool.and_eq_true] at q1
  obtain ⟨⟨⟨d1, d2⟩, d3⟩, d4⟩ := q1
  have e2 := AV.eq_of_beq _ _ d1
  subst e2
  have hlim := Nat.le_of_ble_eq_true d3
  obtain ⟨ρn, s1, s2, s3⟩ := take_all (base := st.next) hs.low q3 hlim M.news 0 ρ st d4 (hO.rel hs) (Adv.refl _ _ _ _) rfl (fun j hj => by omega) (fun id ep q hq => .inl (hs.mapped _ _ _ hq).2.1)
  rw [Nat.zero_add] at s3
  exact .inl ⟨_, _, ρn, v', rfl, h, s1, sub_rel s3 6 M.res v' d2 q2, (hO.adv hs).trans s2⟩
theorem hookMemo_ok {P : Program} [Hooks] {f : FuncId} {tbl : List Memo} (hm : P.follows .mixedOrders = true) (hc : Callable P f) {kk : Hooks} (hkk : @HooksOK _ kk P) {fuel : Nat} (hr : ∀ M ∈ tbl, @Memo.runs _ kk P fuel f M = true) : HookOK P f (hookMemo tbl) :=
  hookMemoT_ok hc fun M hM => Memo.holds_of hm hkk (hr M hM)
end Go.Eng
