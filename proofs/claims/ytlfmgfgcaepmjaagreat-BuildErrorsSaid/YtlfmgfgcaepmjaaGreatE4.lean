/- A verified interpreter for calls on fixed data, part 4 of 5. -/
import Derived.Test.YtlfmgfgcaepmjaaGreatE3
import Derived.Orders
import Derived.RowKit3
set_option linter.unusedSimpArgs false
set_option linter.unusedVariables false
set_option linter.unusedSectionVars false
/- An operation looks at its own operands alone. -/
namespace Go.Eng
set_option linter.unusedVariables false
variable [Sym] [Hooks]

theorem evs_congr {e e' : Env} : ∀ (l : List Operand), (∀ x ∈ l, ev e' x = ev e x) → evs e' l = evs e l := by
  intro l
  induction l with
  | nil => intro _; rfl
  | cons x l ih =>
    intro h
    have h1 := ih fun y hy => h y (List.mem_cons_of_mem _ hy)
    have h2 := h x (List.mem_cons_self ..)
    unfold evs at *
    simp only [evsK]
    rw [evK_eq, evK_eq, h2]
    cases ev e x with
    | none => rfl
    | some v =>
      simp only []
      have := evsK_eq e' l none (fun vs => some (v :: vs))
      rw [this, evsK_eq e l none (fun vs => some (v :: vs))]
      unfold evs
      rw [h1]
theorem evp_congr {e e' : Env} : ∀ (l : List (Nat × Operand)), (∀ x ∈ l, ev e' x.2 = ev e x.2) → evp e' l = evp e l := by
  intro l
  induction l with
  | nil => intro _; rfl
  | cons x l ih =>
    intro h
    obtain ⟨i, x⟩ := x
    have h1 := ih fun y hy => h y (List.mem_cons_of_mem _ hy)
    have h2 := h (i, x) (List.mem_cons_self ..)
    unfold evp at *
    simp only [evpK]
    rw [evK_eq, evK_eq, h2]
    cases ev e x with
    | none => rfl
    | some v =>
      simp only []
      rw [evpK_eq e' l none (fun vs => some ((i, v) :: vs)), evpK_eq e l none (fun vs => some ((i, v) :: vs))]
      unfold evp
      rw [h1]
theorem evo_congr {e e' : Env} (x : Option Operand) (h : ∀ y ∈ x.toArray, ev e' y = ev e y) : evo e' x = evo e x := by
  cases x with
  | none => rfl
  | some x =>
    unfold evo evoK
    simp only []
    rw [evK_eq, evK_eq, h x (by simp)]
theorem opQ_congr {P : Program} {st : St} {e e' : Env} {o : Oper} (h : ∀ x ∈ o.op.operands, ev e' x = ev e x) : opQ P st e' o = opQ P st e o := by
  unfold opQ opQK
  obtain ⟨dst, op, type, pos, after, guard⟩ := o
  simp only at h
  cases op <;> simp only [Op.operands] at h <;> simp only [evK_eq, evsK_eq, evpK_eq, evoK_eq]
  case makeFunc fn first captured =>
    cases fn <;> first | rfl | skip
    simp only []
    rw [evs_congr first.toList (fun x hx => h x (by simp at hx; simp [hx])), evs_congr captured.toList (fun x hx => h x (by simp at hx; simp [hx]))]
  case build t ps => rw [evp_congr ps.toList (fun x hx => h x.2 (by simp; exact ⟨x.1, by simpa using hx⟩))]
  case slice t x lo hi mx =>
    rw [h x (by simp), evo_congr lo (fun y hy => h y (by simp at hy; simp [hy])), evo_congr hi (fun y hy => h y (by simp at hy; simp [hy])), evo_congr mx (fun y hy => h y (by simp at hy; simp [hy]))]
  case call c =>
    obtain ⟨cl, args, tys⟩ := c
    have h2 : ∀ x ∈ args.toList, ev e' x = ev e x := fun x hx => h x (by simp at hx; simp [Call.operands, hx])
    cases cl <;> first | rfl | skip
    rename_i b
    cases b <;> first | rfl | skip
    case len =>
      simp only []
      split
      · rename_i x t hl _
        rw [h2 x (by rw [hl]; simp)]
      · rfl
    all_goals (simp only []; rw [evs_congr args.toList h2])
  all_goals (first | rfl | (simp_all; done))
theorem opA_congr {P : Program} {e e' : Env} {o : Oper} (h : ∀ x ∈ o.op.operands, ev e' x = ev e x) : opA P e' o = opA P e o := by
  unfold opA opAK
  obtain ⟨dst, op, type, pos, after, guard⟩ := o
  simp only at h
  cases op <;> simp only [Op.operands] at h <;> simp only [evK_eq, evpK_eq]
  case buildSlice t n ps => rw [evp_congr ps.toList (fun x hx => h x.2 (by simp; exact ⟨x.1, by simpa using hx⟩))]
  case makeMap t r => cases r <;> simp_all
  all_goals (first | rfl | (simp_all; done))
theorem opEK_congr {P : Program} {st : St} {e e' : Env} {o : Oper} {k : AV → St → Bool} (h : ∀ x ∈ o.op.operands, ev e' x = ev e x) : opEK P st e' o k = opEK P st e o k := by
  unfold opEK
  obtain ⟨dst, op, type, pos, after, guard⟩ := o
  simp only at h
  cases op <;> simp only [Op.operands] at h <;> simp only [evK_eq, evsK_eq]
  case call c =>
    obtain ⟨cl, args, tys⟩ := c
    have h2 : ∀ x ∈ args.toList, ev e' x = ev e x := fun x hx => h x (by simp at hx; simp [Call.operands, hx])
    cases cl <;> first | rfl | skip
    rename_i b
    cases b <;> first | rfl | skip
    all_goals (simp only []; rw [evs_congr args.toList h2])
  all_goals (first | rfl | (simp_all; done))
theorem opK_congr {P : Program} {rec : RecX} {st : St} {e e' : Env} {o : Oper} {k kp : KR} (h : ∀ x ∈ o.op.operands, ev e' x = ev e x) : opK P rec e' o st k kp = opK P rec e o st k kp := by
  unfold opK
  split
  · rw [opQK_eq, opQK_eq, opQ_congr h]
  · rw [opAK_eq, opAK_eq, opA_congr h]
  · exact opEK_congr h
  · split
    · rename_i f args tys hop
      rw [hop] at h
      simp only [Op.operands, Call.operands] at h
      rw [evK_eq, evK_eq, h f (by simp)]
      simp only [evsK_eq]
      rw [evs_congr args.toList (fun x hx => h x (by simp at hx; simp [hx]))]
    · rename_i x hop
      rw [hop] at h
      rw [evK_eq, evK_eq, h x (by simp [Op.operands])]
    · rfl
/-- A frame's slots, cut down to some. -/
noncomputable def restr (e : Env) : List Tmp → Env
  | [] => .lf
  | t :: ts => match e.get t with
    | some v => (restr e ts).set t v
    | none => restr e ts
theorem get_restr (e : Env) (t : Tmp) : ∀ ts : List Tmp, (restr e ts).get t = if t ∈ ts then e.get t else none := by
  intro ts
  induction ts with
  | nil => simp [restr, Tr.get_lf]
  | cons s ts ih =>
    simp only [restr]
    cases hs : e.get s with
    | none =>
      simp only [ih]
      by_cases h : t = s
      · subst h; simp [hs]
      · simp [h]
    | some v =>
      simp only [Tr.get_set]
      by_cases h : s = t
      · subst h; simp [hs]
      · rw [if_neg h, ih]; simp [Ne.symm h]
theorem ev_congr_get {e e' : Env} {o : Oper} {ops : Array Oper} (h : ∀ t ∈ looks ops o, e'.get t = e.get t) : ∀ x ∈ o.op.operands, ev e' x = ev e x := by
  intro x hx
  cases x with
  | tmp t =>
    have : t ∈ looks ops o := by
      unfold looks
      exact List.mem_append_left _ (List.mem_filterMap.2 ⟨.tmp t, by simpa using hx, rfl⟩)
    unfold ev evK
    simp only [h t this]
  | const v => rfl
  | global g => rfl
  | func f => rfl
theorem wantA_congr {e e' : Env} {o : Oper} {ops : Array Oper} (h : ∀ t ∈ looks ops o, e'.get t = e.get t) : wantA ops o e' = wantA ops o e := by
  unfold wantA
  cases hg : o.guard with
  | none => rfl
  | some gw =>
    obtain ⟨g, want⟩ := gw
    simp only []
    cases ht : (ops[g]?).bind (·.dst) with
    | none => rfl
    | some t =>
      simp only []
      rw [h t (by unfold looks; rw [hg]; simp only [ht]; simp)]
end Go.Eng
/- Regions whose order is open: the bookkeeping. -/
namespace Go.Eng
set_option linter.unusedVariables false
variable [Sym] [Hooks]

theorem mem_readyL {ops : Array Oper} {done : List Nat} {i : Nat} : i ∈ readyL ops done ↔ i < ops.size ∧ i ∉ done ∧ ∀ j ∈ preds ops i, j ∈ done := by
  unfold readyL
  rw [List.mem_filter, List.mem_range, Bool.and_eq_true, Bool.not_eq_true', List.all_eq_true]
  constructor
  · rintro ⟨h1, h2, h3⟩
    exact ⟨h1, fun hm => by simp [hm] at h2, fun j hj => by simpa using h3 j hj⟩
  · rintro ⟨h1, h2, h3⟩
    exact ⟨h1, by simpa using h2, fun j hj => by simpa using h3 j hj⟩
theorem mkT_succ (ops : Array Oper) (f : Nat) (done : List Nat) : mkT ops (f + 1) done = match readyL ops done with
    | [] => .fin
    | r :: rs => match (r :: rs).find? (quietCls ops) with
      | some i => .one i (mkT ops f (i :: done))
      | none => alts (fun i => mkT ops f (i :: done)) r rs := rfl
theorem alts_go {P : Program} {rec : RecX} {c : Ctx} {ops : Array Oper} {g : Nat → DT} {done : List Nat} {e : Env} {st : St} {k : Env → St → Bool} {kp : KR} : ∀ (rs : List Nat) (r : Nat), drawGo P rec c ops (alts g r rs) done e st k kp = true → ∀ i ∈ r :: rs, drawGo P rec c ops (.one i (g i)) done e st k kp = true := by
  intro rs
  induction rs with
  | nil => intro r h i hi; simp at hi; subst hi; exact h
  | cons x xs ih =>
    intro r h i hi
    have h : (drawGo P rec c ops (.one r (g r)) done e st k kp && drawGo P rec c ops (alts g x xs) done e st k kp) = true := h
    rw [Bool.and_eq_true] at h
    rcases List.mem_cons.1 hi with rfl | hi
    · exact h.1
    · exact ih x h.2 i hi
theorem nodup_len : ∀ (l U : List Nat), l.Nodup → (∀ v ∈ l, v ∈ U) → l.length ≤ U.length
  | [], _, _, _ => by simp
  | x :: l, U, hn, hs => by
    have hx := hs x (List.mem_cons_self ..)
    obtain ⟨h1, h2⟩ := List.nodup_cons.1 hn
    have ih := nodup_len l (U.erase x) h2 (fun v hv => (List.mem_erase_of_ne (by rintro rfl; exact h1 hv)).2 (hs v (List.mem_cons_of_mem _ hv)))
    rw [List.length_erase_of_mem hx] at ih
    have := List.length_pos_of_mem hx
    simp only [List.length_cons]
    omega
theorem done_lt {n : Nat} {done : List Nat} {i : Nat} (hi : i < n) (hd : i ∉ done) (nd : done.Nodup) (dlt : ∀ j ∈ done, j < n) : done.length < n := by
  have := nodup_len (i :: done) (List.range n) (List.nodup_cons.2 ⟨hd, nd⟩) (fun v hv => by
    rw [List.mem_range]
    rcases List.mem_cons.1 hv with rfl | hv
    · exact hi
    · exact dlt v hv)
  simp at this
  omega
theorem dstsOk_at {ops : Array Oper} (h : dstsOk ops = true) {i j : Nat} {x y : Oper} {d : Tmp} (hi : ops[i]? = some x) (hj : ops[j]? = some y) (hd : x.dst = some d) :
    (i = j → d ∉ looks ops y ∨ 2 ≤ opClass y) ∧ (i ≠ j → y.dst ≠ some d ∧ (d ∉ looks ops y ∨ i ∈ preds ops j ∨ (2 ≤ opClass x ∧ j ∈ anc ops ops.size i))) := by
  unfold dstsOk at h
  rw [List.all_eq_true] at h
  have h := h i (List.mem_range.2 (Array.getElem?_eq_some_iff.1 hi).1)
  rw [List.all_eq_true] at h
  have h := h j (List.mem_range.2 (Array.getElem?_eq_some_iff.1 hj).1)
  rw [hi, hj] at h
  simp only [hd] at h
  refine ⟨fun hij => ?_, fun hij => ?_⟩
  · subst hij
    rw [Nat.beq_refl] at h
    simp only [Bool.or_eq_true, Bool.not_eq_true', List.contains_eq_mem, decide_eq_false_iff_not, Nat.ble_eq] at h
    exact h
  · have hb : Nat.beq i j = false := by
      cases hq : Nat.beq i j with
      | false => rfl
      | true => exact absurd (Nat.eq_of_beq_eq_true hq) hij
    rw [hb] at h
    simp only [Bool.and_eq_true, Bool.or_eq_true, Bool.not_eq_true', List.contains_eq_mem, decide_eq_false_iff_not, decide_eq_true_eq, Nat.ble_eq] at h
    refine ⟨fun hy => ?_, ?_⟩
    · have := h.1
      rw [hy] at this
      simp at this
    · rcases h.2 with (h1 | h1) | h1
      · exact .inl h1
      · exact .inr (.inl h1)
      · exact .inr (.inr h1)
theorem mem_unite {a : Nat} : ∀ {l m : List Nat}, a ∈ unite l m → a ∈ l ∨ a ∈ m := by
  intro l
  induction l with
  | nil => intro m h; exact .inr h
  | cons x l ih =>
    intro m h
    simp only [unite] at h
    split at h
    · rcases ih h with h | h
      · exact .inl (List.mem_cons_of_mem _ h)
      · exact .inr h
    · rcases ih h with h | h
      · exact .inl (List.mem_cons_of_mem _ h)
      · rcases List.mem_cons.1 h with rfl | h
        · exact .inl (List.mem_cons_self ..)
        · exact .inr h
theorem mem_uniteAll {a : Nat} : ∀ {l : List (List Nat)}, a ∈ uniteAll l → ∃ m ∈ l, a ∈ m := by
  intro l
  induction l with
  | nil => intro h; cases h
  | cons x l ih =>
    intro h
    rcases mem_unite h with h | h
    · exact ⟨x, List.mem_cons_self .., h⟩
    · obtain ⟨m, h1, h2⟩ := ih h
      exact ⟨m, List.mem_cons_of_mem _ h1, h2⟩
/-- What is closed under 'must stand before' holds whatever must stand before. -/
theorem anc_closed {ops : Array Oper} {R : Nat → Prop} (hc : ∀ j, R j → ∀ i ∈ preds ops j, R i) : ∀ (f i : Nat), (∀ j ∈ preds ops i, R j) → ∀ j ∈ anc ops f i, R j := by
  intro f
  induction f with
  | zero => intro i _ j hj; cases hj
  | succ f ih =>
    intro i hi j hj
    obtain ⟨m, h1, h2⟩ := mem_uniteAll hj
    rcases List.mem_cons.1 h1 with rfl | h1
    · exact hi j h2
    · obtain ⟨q, h3, rfl⟩ := List.mem_map.1 h1
      exact ih q (hc q (hi q h3)) j h2
theorem mem_preds {ops : Array Oper} {i j : Nat} {o : Oper} (ho : ops[j]? = some o) : i ∈ preds ops j ↔ ∃ e ∈ o.after, Region.binds .any e = true ∧ e.on = i := by
  unfold preds
  rw [ho]
  simp only [List.mem_map, List.mem_filter, Array.mem_toList_iff]
  constructor
  · rintro ⟨e, ⟨h1, h2⟩, h3⟩; exact ⟨e, h1, h2, h3⟩
  · rintro ⟨e, h1, h2, h3⟩; exact ⟨e, ⟨h1, h2⟩, h3⟩
/-- If nothing is ready then all is done. -/
theorem ready_nil {ops : Array Oper} (hlt : (List.range ops.size).all (fun j => (preds ops j).all fun i => Nat.blt i j) = true) {listed : Array Bool} (hs : listed.size = ops.size) (hr : Region.ready .any ops listed = []) : ∀ j, j < ops.size → listed.getD j false = true := by
  intro j
  induction j using Nat.strongRecOn with
  | ind j ih =>
    intro hj
    cases hl : listed.getD j false with
    | true => rfl
    | false =>
      have ho : ops[j]? = some ops[j] := Array.getElem?_eq_getElem hj
      have : j ∈ Region.ready .any ops listed := mem_ready.2 ⟨by
        have h2 : j < listed.size := by omega
        simp [h2] at hl ⊢; exact hl, ops[j], ho, fun e he hb => by
          have hp : e.on ∈ preds ops j := (mem_preds ho).2 ⟨e, he, hb, rfl⟩
          rw [List.all_eq_true] at hlt
          have h3 := hlt j (List.mem_range.2 hj)
          rw [List.all_eq_true] at h3
          have h4 : e.on < j := by simpa [Nat.blt_eq] using h3 _ hp
          exact ih _ h4 (by omega)⟩
      rw [hr] at this
      cases this
end Go.Eng
/- Regions whose order is open: what holds along the way. -/
namespace Go.Eng
set_option linter.unusedVariables false
variable [Sym] [Hooks]

/-- What an operation done ahead of its turn owes. -/
def Late (P : Program) (ops : Array Oper) (n n0 : Nat) (AL : Nat → Prop) (ids : Nat → Nat) (ρ : Rho) (e : Env) (st : St) (j : Nat) : Prop :=
  ∃ o, ops[j]? = some o ∧ opClass o < 2 ∧ (∀ d, o.dst = some d → d < n) ∧
    ((wantA ops o e = some false ∧ ∀ d, o.dst = some d → e.get d = some undefA) ∨
     (wantA ops o e = some true ∧ opClass o = 0 ∧ ∃ v, opQ P st e o = some v ∧ ∀ d, o.dst = some d → e.get d = some v) ∨
     (wantA ops o e = some true ∧ opClass o = 1 ∧ AL j ∧ ∃ r s, opA P e o = some (r, s) ∧ (∀ d, o.dst = some d → e.get d = some (s.mk (ids j))) ∧ st.heap.get (ids j) = some r ∧ n0 ≤ ids j ∧ ids j < st.next ∧ ∀ ep, ρ (ids j) ep = none))
structure DInv (B : Nat → Prop) (P : Program) (rec : RecX) (c : Ctx) (ops : Array Oper) (k : Env → St → Bool) (kp : KR) (ρ0 : Rho) (st0 : St) (w0 : World) (ds : List Nat) (b : Frame)
    (f : Nat) (done : List Nat) (real : Nat → Prop) (AL : Nat → Prop) (ids : Nat → Nat) (e : Env) (st : St) (ρ : Rho) (w : World) (a : Act) : Prop where
  go : drawGo P rec c ops (mkT ops f done) done e st k kp = true
  adv : Adv B ρ0 st0 w0 ρ st w
  rel : SRel B ρ st w
  slots : ∀ t v, e.get t = some v → (∀ j o, j ∈ done → ¬ real j → ops[j]? = some o → o.dst ≠ some t) → ∃ v', a.tmps[t]? = some v' ∧ VRel ρ v v'
  size : a.tmps.size = c.n
  marks : DRel ρ ds a.defers
  kind : b.kind = .normal
  fn : b.fn = c.fn
  round : RoundRel ρ c.round b.roundOf
  fuel : ops.size ≤ f + done.length
  nd : done.Nodup
  dlt : ∀ j ∈ done, j < ops.size
  sub : ∀ j, real j → j ∈ done
  closed : ∀ j, real j → ∀ i ∈ preds ops j, real i
  closedD : ∀ j ∈ done, ∀ i ∈ preds ops j, i ∈ done
  late : ∀ j ∈ done, ¬ real j → Late P ops c.n st0.next AL ids ρ e st j
  al : ∀ j, AL j → j ∈ done ∧ ids j < st.next
  inj : ∀ j j', AL j → AL j' → ids j = ids j' → j = j'

section
variable {B : Nat → Prop} {P : Program} {rec : RecX} {c : Ctx} {ops : Array Oper} {k : Env → St → Bool} {kp : KR} {ρ0 : Rho} {st0 : St} {w0 : World} {ds : List Nat} {b : Frame}
  {f : Nat} {done : List Nat} {real : Nat → Prop} {AL : Nat → Prop} {ids : Nat → Nat} {e : Env} {st : St} {ρ : Rho} {w : World} {a : Act}
/-- A slot put anew. -/
noncomputable def putE (e : Env) (dst : Option Tmp) (v : AV) : Env := match dst with | some d => e.set d v | none => e
theorem putEK_eq' {n : Nat} {e : Env} {dst : Option Tmp} {v : AV} {k : Env → Bool} (h : putEK n e dst v k = true) : (∀ d, dst = some d → d < n) ∧ k (putE e dst v) = true := by
  unfold putEK at h
  cases dst with
  | none => exact ⟨(fun d hd => by cases hd), h⟩
  | some d =>
    simp only at h
    split at h
    · rename_i hlt
      rw [Tr.setK_eq] at h
      exact ⟨fun d' hd => by cases hd; simpa [Nat.blt_eq] using hlt, h⟩
    · cases h
theorem get_putE_ne {e : Env} {dst : Option Tmp} {v : AV} {t : Tmp} (h : dst ≠ some t) : (putE e dst v).get t = e.get t := by
  cases dst with
  | none => rfl
  | some d => exact Tr.get_set_ne _ _ (fun hd => h (by rw [hd]))
theorem get_putE {e : Env} {dst : Option Tmp} {v : AV} {t : Tmp} (h : dst = some t) : (putE e dst v).get t = some v := by
  subst h; exact Tr.get_set_same _ _ _
/-- What a slot put anew leaves of an operation done before. -/
theorem Late.put {n n0 : Nat} {st' : St} {ρ' : Rho} {AL' : Nat → Prop} {ids' : Nat → Nat} {j : Nat} {dst : Option Tmp} {v : AV} (h : Late P ops n n0 AL ids ρ e st j)
    (hlook : ∀ y, ops[j]? = some y → ∀ d, dst = some d → d ∉ looks ops y) (hdst : ∀ y, ops[j]? = some y → ∀ d, dst = some d → y.dst ≠ some d)
    (hq : ∀ y, ops[j]? = some y → wantA ops y (putE e dst v) = some true → opClass y = 0 → (∃ v', opQ P st e y = some v' ∧ ∀ d, y.dst = some d → (putE e dst v).get d = some v') → ∃ v', opQ P st' (putE e dst v) y = some v' ∧ ∀ d, y.dst = some d → (putE e dst v).get d = some v')
    (hal : AL j → AL' j) (hid : AL j → ids' j = ids j) (hrec : AL j → ids j < st.next → (∀ ep, ρ (ids j) ep = none) → st'.heap.get (ids j) = st.heap.get (ids j) ∧ (∀ ep, ρ' (ids j) ep = none) ∧ ids j < st'.next) :
    Late P ops n n0 AL' ids' ρ' (putE e dst v) st' j := by
  obtain ⟨o, ho, hc, hn, hh⟩ := h
  have hl : ∀ t ∈ looks ops o, (putE e dst v).get t = e.get t := fun t ht => get_putE_ne (fun hd => hlook o ho t hd ht)
  have hw := wantA_congr (ops := ops) hl
  have hg : ∀ d, o.dst = some d → (putE e dst v).get d = e.get d := fun d hd => get_putE_ne (fun he => hdst o ho d he hd)
  refine ⟨o, ho, hc, hn, ?_⟩
  rcases hh with ⟨h1, h2⟩ | ⟨h1, h2, u, h3, h4⟩ | ⟨h1, h2, h3, r, s, h4, h5, h6, h7, h8, h9⟩
  · exact .inl ⟨hw.trans h1, fun d hd => (hg d hd).trans (h2 d hd)⟩
  · exact .inr (.inl ⟨hw.trans h1, h2, hq o ho (hw.trans h1) h2 ⟨u, h3, fun d hd => (hg d hd).trans (h4 d hd)⟩⟩)
  · obtain ⟨g1, g2, g3⟩ := hrec h3 h8 h9
    refine .inr (.inr ⟨hw.trans h1, h2, hal h3, r, s, (opA_congr (ev_congr_get hl)).trans h4, ?_, ?_, ?_, ?_, ?_⟩)
    · rw [hid h3]; exact fun d hd => (hg d hd).trans (h5 d hd)
    · rw [hid h3, g1]; exact h6
    · rw [hid h3]; exact h7
    · rw [hid h3]; exact g3
    · rw [hid h3]; exact g2
theorem recheck_at {l : List Nat} (h : recheck P ops st e l = true) {j : Nat} (hj : j ∈ l) {o : Oper} (ho : ops[j]? = some o) (hc : opClass o = 0) (hw : wantA ops o e = some true) :
    ∃ v, opQ P st e o = some v ∧ ∀ d, o.dst = some d → e.get d = some v := by
  induction l with
  | nil => cases hj
  | cons i l ih =>
    simp only [recheck, Bool.and_eq_true] at h
    rcases List.mem_cons.1 hj with rfl | hj
    · have h := h.1
      rw [ho] at h
      simp only [hc, hw, opQK_eq] at h
      split at h <;> (try (cases h; done))
      rename_i v hv
      refine ⟨v, hv, fun d hd => ?_⟩
      rw [hd] at h
      simp only at h
      split at h <;> (try (cases h; done))
      rename_i u hu
      rw [hu, AV.eq_of_beq _ _ h]
    · exact ih h.2 hj
/-- An operation of the schedule that neither writes nor calls: nothing happens at the machine. -/
theorem DInv.ahead {i : Nat} (hreg : regOk ops = true) (h : DInv B P rec c ops k kp ρ0 st0 w0 ds b (f + 1) done real AL ids e st ρ w a) (hf : (readyL ops done).find? (quietCls ops) = some i) :
    ∃ AL' ids' e' st', DInv B P rec c ops k kp ρ0 st0 w0 ds b f (i :: done) real AL' ids' e' st' ρ w a := by
  have hi : quietCls ops i = true := List.find?_some hf
  obtain ⟨hlt, hnd, hpre⟩ := mem_readyL.1 (List.mem_of_find?_eq_some hf)
  have hdst : dstsOk ops = true := by unfold regOk at hreg; simp only [Bool.and_eq_true] at hreg; exact hreg.1
  have ho : ops[i]? = some ops[i] := Array.getElem?_eq_getElem hlt
  generalize ops[i] = o at ho
  have hc : opClass o < 2 := by unfold quietCls at hi; rw [ho] at hi; simpa [Nat.blt_eq] using hi
  have hgo := h.go
  have hT : mkT ops (f + 1) done = .one i (mkT ops f (i :: done)) := by
    rw [mkT_succ]
    cases h0 : readyL ops done with
    | nil => rw [h0] at hf; cases hf
    | cons r rs => rw [h0] at hf; simp only [hf]
  rw [hT] at hgo
  simp only [drawGo, ho] at hgo
  have hself : ∀ d, o.dst = some d → d ∉ looks ops o := fun d hd => ((dstsOk_at hdst ho ho hd).1 rfl).resolve_right (by omega)
  have hother : ∀ j ∈ done, ∀ y, ops[j]? = some y → ∀ d, o.dst = some d → d ∉ looks ops y := fun j hj y hy d hd => by
    have hne : i ≠ j := fun e => hnd (e ▸ hj)
    rcases ((dstsOk_at hdst ho hy hd).2 hne).2 with h1 | h1 | h1
    · exact h1
    · exact absurd (h.closedD j hj i h1) hnd
    · omega
  have hdiff : ∀ j ∈ done, ∀ y, ops[j]? = some y → ∀ d, o.dst = some d → y.dst ≠ some d := fun j hj y hy d hd => ((dstsOk_at hdst ho hy hd).2 (fun e => hnd (e ▸ hj))).1
  have hnr : ¬ real i := fun hr => hnd (h.sub i hr)
  have hfuel : ops.size ≤ f + (i :: done).length := by have := h.fuel; simp only [List.length_cons]; omega
  have hnd' : (i :: done).Nodup := List.nodup_cons.2 ⟨hnd, h.nd⟩
  have hdlt : ∀ j ∈ i :: done, j < ops.size := fun j hj => by
    rcases List.mem_cons.1 hj with rfl | hj
    · exact hlt
    · exact h.dlt j hj
  have hslots : ∀ u t v, (putE e o.dst u).get t = some v → (∀ j y, j ∈ i :: done → ¬ real j → ops[j]? = some y → y.dst ≠ some t) → ∃ v', a.tmps[t]? = some v' ∧ VRel ρ v v' := fun u t v ht hl => by
    have hne : o.dst ≠ some t := hl i o (List.mem_cons_self ..) hnr ho
    rw [get_putE_ne hne] at ht
    exact h.slots t v ht (fun j y hj => hl j y (List.mem_cons_of_mem _ hj))
  have hclD : ∀ j ∈ i :: done, ∀ q ∈ preds ops j, q ∈ i :: done := fun j hj q hq => by
    rcases List.mem_cons.1 hj with rfl | hj
    · exact List.mem_cons_of_mem _ (hpre q hq)
    · exact List.mem_cons_of_mem _ (h.closedD j hj q hq)
  have hl : ∀ u, ∀ t ∈ looks ops o, (putE e o.dst u).get t = e.get t := fun u t ht => get_putE_ne (fun hd => hself t hd ht)
  split at hgo
  · rename_i hw
    unfold opK at hgo
    have hc01 : opClass o = 0 ∨ opClass o = 1 := by omega
    rcases hc01 with hc0 | hc1
    · rw [hc0] at hgo
      simp only [opQK_eq] at hgo
      split at hgo <;> (try (cases hgo; done))
      rename_i v hv
      obtain ⟨hn, hgo⟩ := putEK_eq' hgo
      simp only [Bool.true_and] at hgo
      refine ⟨AL, ids, _, _, hgo, h.adv, h.rel, hslots v, h.size, h.marks, h.kind, h.fn, h.round, hfuel, hnd', hdlt, fun j hj => List.mem_cons_of_mem _ (h.sub j hj), h.closed, hclD, fun j hj hr => ?_,
        fun j hj => ⟨List.mem_cons_of_mem _ (h.al j hj).1, (h.al j hj).2⟩, h.inj⟩
      rcases List.mem_cons.1 hj with rfl | hj
      · exact ⟨o, ho, hc, hn, .inr (.inl ⟨(wantA_congr (hl v)).trans hw, hc0, v, (opQ_congr (ev_congr_get (hl v))).trans hv, fun d hd => get_putE hd⟩)⟩
      · exact (h.late j hj hr).put (hother j hj) (hdiff j hj) (fun y hy _ _ ⟨v', g1, g2⟩ => ⟨v', (opQ_congr (ev_congr_get (ops := ops) (fun t ht => get_putE_ne (fun hd => hother j hj y hy t hd ht)))).trans g1, g2⟩)
          id (fun _ => rfl) (fun _ g1 g2 => ⟨rfl, g2, g1⟩)
    · rw [hc1] at hgo
      simp only [opAK_eq] at hgo
      split at hgo <;> (try (cases hgo; done))
      rename_i r s hrs
      rw [newK_eq] at hgo
      obtain ⟨hn, hgo⟩ := putEK_eq' hgo
      simp only [Bool.and_eq_true] at hgo
      obtain ⟨hre, hgo⟩ := hgo
      have hidne : ∀ j, AL j → j ≠ i := fun j hj e => hnd (e ▸ (h.al j hj).1)
      refine ⟨fun j => AL j ∨ j = i, fun j => if j = i then st.next else ids j, _, _, hgo, h.adv.trans ⟨Rho.le_refl _, by simp, fun q hq hn => ⟨hn, Tr.get_set_ne _ _ (by omega)⟩, fun _ _ => rfl, Nat.le_refl _, rfl, rfl, fun _ _ => rfl⟩, h.rel.reserve r, hslots _, h.size, h.marks, h.kind, h.fn, h.round, hfuel, hnd', hdlt, fun j hj => List.mem_cons_of_mem _ (h.sub j hj), h.closed, hclD, fun j hj hr => ?_, ?_, ?_⟩
      · rcases List.mem_cons.1 hj with rfl | hj
        · refine ⟨o, ho, hc, hn, .inr (.inr ⟨(wantA_congr (hl _)).trans hw, hc1, .inr rfl, r, s, (opA_congr (ev_congr_get (hl _))).trans hrs, fun d hd => ?_, ?_, ?_, ?_, ?_⟩)⟩
          · simp only [if_pos]; exact get_putE hd
          · simp only [if_pos]; exact Tr.get_set_same _ _ _
          · simp only [if_pos]; exact h.adv.next
          · simp
          · simp only [if_pos]; exact fun ep => h.rel.none_of_ge (Nat.le_refl _) ep
        · exact (h.late j hj hr).put (hother j hj) (hdiff j hj) (fun y hy g1 g2 _ => recheck_at hre hj hy g2 g1) .inl (fun hj => if_neg (hidne j hj))
            (fun _ g1 g2 => ⟨Tr.get_set_ne _ _ (by omega), g2, by simp only; omega⟩)
      · rintro j (hj | rfl)
        · rw [if_neg (hidne j hj)]
          exact ⟨List.mem_cons_of_mem _ (h.al j hj).1, by have := (h.al j hj).2; simp only; omega⟩
        · simp
      · rintro j j' (hj | rfl) (hj' | rfl) he
        · rw [if_neg (hidne j hj), if_neg (hidne j' hj')] at he; exact h.inj _ _ hj hj' he
        · rw [if_neg (hidne j hj), if_pos rfl] at he; have := (h.al j hj).2; omega
        · rw [if_neg (hidne j' hj'), if_pos rfl] at he; have := (h.al j' hj').2; omega
        · rfl
  · rename_i hw
    obtain ⟨hn, hgo⟩ := putEK_eq' hgo
    refine ⟨AL, ids, _, _, hgo, h.adv, h.rel, hslots _, h.size, h.marks, h.kind, h.fn, h.round, hfuel, hnd', hdlt, fun j hj => List.mem_cons_of_mem _ (h.sub j hj), h.closed, hclD, fun j hj hr => ?_,
      fun j hj => ⟨List.mem_cons_of_mem _ (h.al j hj).1, (h.al j hj).2⟩, h.inj⟩
    rcases List.mem_cons.1 hj with rfl | hj
    · exact ⟨o, ho, hc, hn, .inl ⟨(wantA_congr (hl _)).trans hw, fun d hd => get_putE hd⟩⟩
    · exact (h.late j hj hr).put (hother j hj) (hdiff j hj) (fun y hy _ _ ⟨v', g1, g2⟩ => ⟨v', (opQ_congr (ev_congr_get (ops := ops) (fun t ht => get_putE_ne (fun hd => hother j hj y hy t hd ht)))).trans g1, g2⟩)
        id (fun _ => rfl) (fun _ g1 g2 => ⟨rfl, g2, g1⟩)
  · cases hgo
theorem DInv.saturate (hreg : regOk ops = true) : ∀ {f done AL ids e st}, DInv B P rec c ops k kp ρ0 st0 w0 ds b f done real AL ids e st ρ w a →
    ∃ f' done' AL' ids' e' st', DInv B P rec c ops k kp ρ0 st0 w0 ds b f' done' real AL' ids' e' st' ρ w a ∧ (f' = 0 ∨ (readyL ops done').find? (quietCls ops) = none) := by
  intro f
  induction f with
  | zero => intro done AL ids e st h; exact ⟨0, done, AL, ids, e, st, h, .inl rfl⟩
  | succ f ih =>
    intro done AL ids e st h
    cases hq : (readyL ops done).find? (quietCls ops) with
    | some i => obtain ⟨AL', ids', e', st', h'⟩ := h.ahead hreg hq; exact ih h'
    | none => exact ⟨f + 1, done, AL, ids, e, st, h, .inr hq⟩
end
end Go.Eng
/- Regions whose order is open: the machine's steps. -/
namespace Go.Eng
set_option linter.unusedVariables false
variable [Sym] [Hooks]

section
variable {B : Nat → Prop} {P : Program} {rec : RecX} {c : Ctx} {ops : Array Oper} {k : Env → St → Bool} {kp : KR} {ρ0 : Rho} {st0 : St} {w0 : World} {ds : List Nat} {b : Frame}
  {f : Nat} {done : List Nat} {real : Nat → Prop} {AL : Nat → Prop} {ids : Nat → Nat} {e : Env} {st : St} {ρ : Rho} {w : World} {a : Act}
theorem regOk_parts (h : regOk ops = true) : dstsOk ops = true ∧ (List.range ops.size).all (fun j => (preds ops j).all fun i => Nat.blt i j) = true := by
  unfold regOk at h
  simp only [Bool.and_eq_true] at h
  exact h
theorem get_look {o : Oper} : ∀ t ∈ looks ops o, (restr e (looks ops o)).get t = e.get t := fun t ht => by rw [get_restr, if_pos ht]
theorem DInv.trel (hdst : dstsOk ops = true) (h : DInv B P rec c ops k kp ρ0 st0 w0 ds b f done real AL ids e st ρ w a) {i : Nat} {o : Oper} (ho : ops[i]? = some o) (hself : i ∈ done → opClass o < 2) (hp : ∀ j ∈ preds ops i, real j) :
    TRel ρ (restr e (looks ops o)) a.tmps := by
  intro t v hv
  rw [get_restr] at hv
  split at hv <;> (try (cases hv; done))
  rename_i ht
  refine h.slots t v hv (fun j y hj hr hy hd => ?_)
  by_cases hij : j = i
  · subst hij
    rw [ho] at hy; cases hy
    have := hself hj
    rcases (dstsOk_at hdst ho ho hd).1 rfl with h1 | h1
    · exact h1 ht
    · omega
  · rcases ((dstsOk_at hdst hy ho hd).2 hij).2 with h1 | h1 | h1
    · exact h1 ht
    · exact hr (hp j h1)
    · obtain ⟨y', hy', hc, _⟩ := h.late j hj hr
      rw [hy] at hy'; cases hy'
      omega
theorem Act.get_put {a : Act} {dst : Option Tmp} {v : Value} {t : Tmp} (h : dst = some t) (hlt : t < a.tmps.size) : (a.put dst v).tmps[t]? = some v := by
  subst h
  simp only [Act.put]; rw [Array.getElem?_setIfInBounds, if_pos rfl, if_pos hlt]
theorem Act.get_put_ne {a : Act} {dst : Option Tmp} {v : Value} {t : Tmp} (h : dst ≠ some t) : (a.put dst v).tmps[t]? = a.tmps[t]? := by
  cases dst with
  | none => rfl
  | some d => simp only [Act.put]; exact Array.getElem?_setIfInBounds_ne (fun hd => h (by rw [hd]))
theorem Act.size_put {a : Act} {dst : Option Tmp} {v : Value} : (a.put dst v).tmps.size = a.tmps.size := by
  cases dst <;> simp [Act.put]
theorem Act.defers_put {a : Act} {dst : Option Tmp} {v : Value} : (a.put dst v).defers = a.defers := by
  cases dst <;> rfl
/-- An operation done before its turn has its turn. -/
theorem DInv.land (h : DInv B P rec c ops k kp ρ0 st0 w0 ds b f done real AL ids e st ρ w a) {i : Nat} {o : Oper} (hd : i ∈ done) (ho : ops[i]? = some o) (hp : ∀ j ∈ preds ops i, real j) (hn : ∀ d, o.dst = some d → d < c.n)
    {ρ' : Rho} {w' : World} {v' : Value} (hle : ρ.le ρ') (hs : SRel B ρ' st w') (hadv : Adv B ρ0 st0 w0 ρ' st w') (hv : ∀ d, o.dst = some d → ∃ v, e.get d = some v ∧ VRel ρ' v v')
    (hun : ∀ j, AL j → j ≠ i → (∀ ep, ρ (ids j) ep = none) → ∀ ep, ρ' (ids j) ep = none) :
    DInv B P rec c ops k kp ρ0 st0 w0 ds b f done (fun j => real j ∨ j = i) AL ids e st ρ' w' (a.put o.dst v') := by
  refine ⟨h.go, hadv, hs, fun t v ht hl => ?_, by rw [Act.size_put]; exact h.size, by rw [Act.defers_put]; exact h.marks.mono hle, h.kind, h.fn, h.round.mono hle, h.fuel, h.nd, h.dlt, ?_, ?_, h.closedD, ?_, h.al, h.inj⟩
  · by_cases hdt : o.dst = some t
    · obtain ⟨u, h1, h2⟩ := hv t hdt
      rw [h1] at ht; cases ht
      exact ⟨v', Act.get_put hdt (by rw [h.size]; exact hn t hdt), h2⟩
    · rw [Act.get_put_ne hdt]
      obtain ⟨u, h1, h2⟩ := h.slots t v ht (fun j y hj hr hy => by
        by_cases hij : j = i
        · subst hij; rw [ho] at hy; cases hy; exact hdt
        · exact hl j y hj (fun hh => hh.elim hr hij) hy)
      exact ⟨u, h1, h2.mono hle⟩
  · rintro j (hj | rfl)
    · exact h.sub j hj
    · exact hd
  · rintro j (hj | rfl) q hq
    · exact .inl (h.closed j hj q hq)
    · exact .inl (hp q hq)
  · intro j hj hr
    obtain ⟨y, hy, hc, hny, hh⟩ := h.late j hj (fun hh => hr (.inl hh))
    refine ⟨y, hy, hc, hny, ?_⟩
    rcases hh with hh | hh | ⟨h1, h2, h3, r, s, h4, h5, h6, h7, h8, h9⟩
    · exact .inl hh
    · exact .inr (.inl hh)
    · exact .inr (.inr ⟨h1, h2, h3, r, s, h4, h5, h6, h7, h8, hun j h3 (fun hh => hr (.inr hh)) h9⟩)
theorem Adv.bear' {id n : Nat} {o : Obj} (h : Adv B ρ0 st0 w0 ρ st w) (hB : ∀ b, B b → b < w.heap.size) (hid : st0.next ≤ id) (hun : ∀ ep, ρ id ep = none) (hfr : ∀ cs t lo hi, o = .cells cs t (lo, hi) → hi = 0) : Adv B ρ0 st0 w0 (ρ.add id 0 ⟨w.heap.size, 0, n⟩) st { w with heap := w.heap.push o } := by
  refine ⟨Rho.le_trans h.le (Rho.add_le (hun 0)), h.next, fun q hq hn => ?_, fun b hb => ?_, by have := h.size; simp; omega, h.os, h.out, fun a ha => (frozen_push hfr a).trans (h.fro a ha)⟩
  · obtain ⟨h1, h2⟩ := h.un q hq hn
    refine ⟨fun ep => ?_, h2⟩
    unfold Rho.add
    rw [if_neg (by omega)]
    exact h1 ep
  · rw [← h.low b hb]
    have := hB b hb
    rw [Array.getElem?_push, if_neg (by omega)]
theorem DInv.late_step (hreg : regOk ops = true) (h : DInv B P rec c ops k kp ρ0 st0 w0 ds b f done real AL ids e st ρ w a) {i : Nat} (hd : i ∈ done) (hr : ¬ real i) (hp : ∀ j ∈ preds ops i, real j) (rest : List Nat) (kk : List Item) (cs : List Frame) :
    ∃ ρ' w' a', DInv B P rec c ops k kp ρ0 st0 w0 ds b f done (fun j => real j ∨ j = i) AL ids e st ρ' w' a' ∧
      Steps P (lone (b.atR a (.inRegion ops (i :: rest) :: kk)) cs w) (lone (b.atR a' (.inRegion ops rest :: kk)) cs w') := by
  obtain ⟨hdst, _⟩ := regOk_parts hreg
  obtain ⟨o, ho, hc, hn, hh⟩ := h.late i hd hr
  have ht := h.trel hdst ho (fun _ => hc) hp
  have hwc := wantA_congr (ops := ops) (o := o) (get_look (ops := ops) (e := e) (o := o))
  have hev := ev_congr_get (ops := ops) (o := o) (get_look (ops := ops) (e := e) (o := o))
  rcases hh with ⟨h1, h2⟩ | ⟨h1, h2, v, h3, h4⟩ | ⟨h1, h2, h3, r, s, h4, h5, h6, h7, h8, h9⟩
  · have hw := wantA_spec ht (hwc.trans h1)
    refine ⟨ρ, w, _, h.land hd ho hp hn (v' := undef) (Rho.le_refl _) h.rel h.adv (fun d hd => ⟨_, h2 d hd, .tup _ _ .nil⟩) (fun _ _ _ g => g), .one ?_⟩
    have := stepR_op_skip (P := P) (b := b) (a := a) (k := kk) (cs := cs) (w := w) (ops := ops) (i := i) (rest := rest) (by rw [ho]; simp [hw])
    rw [ho] at this
    exact this
  · have hw := wantA_spec ht (hwc.trans h1)
    obtain ⟨v', g1, g2⟩ := opQ_run (a := a) h.rel ht ((opQ_congr hev).trans h3)
    exact ⟨ρ, w, _, h.land hd ho hp hn (Rho.le_refl _) h.rel h.adv (fun d hd => ⟨_, h4 d hd, g1⟩) (fun _ _ _ g => g), .one (step_value ho hw (class_defer (.inr trivial) (.inl h2)) g2 (.inl rfl))⟩
  · have hw := wantA_spec ht (hwc.trans h1)
    obtain ⟨obj, n, v', g1, g2, g3⟩ := opA_run (a := a) h.rel ht ((opA_congr hev).trans h4)
    refine ⟨ρ.add (ids i) 0 ⟨w.heap.size, 0, n⟩, _, _, h.land hd ho hp hn (Rho.add_le (h9 0)) (h.rel.bear h8 h9 h6 (fun ρ' hle _ => g2 ρ' hle)) (h.adv.bear' h.rel.low h7 h9 ((g2 ρ (Rho.le_refl _)).thaw (opA_plain h4))) (fun d hd => ⟨_, h5 d hd, g3 _ _ (Rho.add_same _ _ _ _)⟩) (fun j hj hne hu ep => ?_), .one (step_value ho hw (class_defer (.inr trivial) (.inr (.inl h2))) g1 (.inl rfl))⟩
    unfold Rho.add
    rw [if_neg (fun hh => hne (h.inj _ _ hj h3 hh.1))]
    exact hu ep
/-- A writing operation has its turn. -/
theorem DInv.eff_step [HooksOK P] (hrec : RecOK P rec) (hreg : regOk ops = true) {i : Nat} (h : DInv B P rec c ops k kp ρ0 st0 w0 ds b (f + 1) done real AL ids e st ρ w a) (hgo : drawGo P rec c ops (.one i (mkT ops f (i :: done))) done e st k kp = true) (hlt : i < ops.size) (hnd : i ∉ done) (hi : quietCls ops i = false) (hp : ∀ j ∈ preds ops i, real j) (rest : List Nat) (kk : List Item) (cs : List Frame) :
    (∃ e' st' ρ' w' a', DInv B P rec c ops k kp ρ0 st0 w0 ds b f (i :: done) (fun j => real j ∨ j = i) AL ids e' st' ρ' w' a' ∧
      Steps P (lone (b.atR a (.inRegion ops (i :: rest) :: kk)) cs w) (lone (b.atR a' (.inRegion ops rest :: kk)) cs w')) ∨
    (∃ v st' ρ' v' a' w' todo, kp v st' = true ∧ SRel B ρ' st' w' ∧ VRel ρ' v v' ∧ FRel ρ' c .lf ds b a' ∧ Adv B ρ0 st0 w0 ρ' st' w' ∧
      Steps P (lone (b.atR a (.inRegion ops (i :: rest) :: kk)) cs w) (lone ((b.atR a' todo).raise (chain v')) cs w')) := by
  obtain ⟨hdst, _⟩ := regOk_parts hreg
  have hpre : ∀ j ∈ preds ops i, j ∈ done := fun j hj => h.sub j (hp j hj)
  have ho : ops[i]? = some ops[i] := Array.getElem?_eq_getElem hlt
  generalize ops[i] = o at ho
  have hc : 2 ≤ opClass o := by
    unfold quietCls at hi
    rw [ho] at hi
    have : ¬ opClass o < 2 := fun hh => by
      rw [← Nat.blt_eq] at hh
      have hi' : Nat.blt (opClass o) 2 = false := hi
      rw [hh] at hi'
      cases hi'
    omega
  have ht := h.trel hdst ho (fun hd => absurd hd hnd) hp
  have hwc := wantA_congr (ops := ops) (o := o) (get_look (ops := ops) (e := e) (o := o))
  have hev := ev_congr_get (ops := ops) (o := o) (get_look (ops := ops) (e := e) (o := o))
  simp only [drawGo, ho] at hgo
  have hanc : ∀ j, j ∈ anc ops ops.size i → real j := anc_closed h.closed _ _ hp
  have hne : ∀ j ∈ done, j ≠ i := fun j hj e => hnd (e ▸ hj)
  have hother : ∀ j ∈ done, ¬ real j → ∀ y, ops[j]? = some y → ∀ d, o.dst = some d → d ∉ looks ops y := fun j hj hr y hy d hd => by
    rcases ((dstsOk_at hdst ho hy hd).2 (fun e => hne j hj e.symm)).2 with h1 | h1 | h1
    · exact h1
    · exact absurd (h.closedD j hj i h1) hnd
    · exact absurd (hanc j h1.2) hr
  have hdiff : ∀ j ∈ done, ∀ y, ops[j]? = some y → ∀ d, o.dst = some d → y.dst ≠ some d := fun j hj y hy d hd => ((dstsOk_at hdst ho hy hd).2 (fun e => hne j hj e.symm)).1
  have hfuel : ops.size ≤ f + (i :: done).length := by have := h.fuel; simp only [List.length_cons]; omega
  have hnd' : (i :: done).Nodup := List.nodup_cons.2 ⟨hnd, h.nd⟩
  have hdlt : ∀ j ∈ i :: done, j < ops.size := fun j hj => by
    rcases List.mem_cons.1 hj with rfl | hj
    · exact hlt
    · exact h.dlt j hj
  have hclD : ∀ j ∈ i :: done, ∀ q ∈ preds ops j, q ∈ i :: done := fun j hj q hq => by
    rcases List.mem_cons.1 hj with rfl | hj
    · exact List.mem_cons_of_mem _ (hpre q hq)
    · exact List.mem_cons_of_mem _ (h.closedD j hj q hq)
  have hsub : ∀ j, (real j ∨ j = i) → j ∈ i :: done := by
    rintro j (hj | rfl)
    · exact List.mem_cons_of_mem _ (h.sub j hj)
    · exact List.mem_cons_self ..
  have hclo : ∀ j, (real j ∨ j = i) → ∀ q ∈ preds ops j, (real q ∨ q = i) := by
    rintro j (hj | rfl) q hq
    · exact .inl (h.closed j hj q hq)
    · exact .inl (hp q hq)
  have hslots : ∀ (u : AV) (u' : Value) (ρ' : Rho), ρ.le ρ' → VRel ρ' u u' → (∀ d, o.dst = some d → d < c.n) → ∀ t v, (putE e o.dst u).get t = some v → (∀ j y, j ∈ i :: done → ¬ (real j ∨ j = i) → ops[j]? = some y → y.dst ≠ some t) → ∃ v', (a.put o.dst u').tmps[t]? = some v' ∧ VRel ρ' v v' := fun u u' ρ' hle hu hn t v ht hl => by
    by_cases hdt : o.dst = some t
    · rw [get_putE hdt] at ht; cases ht
      exact ⟨u', Act.get_put hdt (by rw [h.size]; exact hn t hdt), hu⟩
    · rw [Act.get_put_ne hdt]
      rw [get_putE_ne hdt] at ht
      obtain ⟨x, h1, h2⟩ := h.slots t v ht (fun j y hj hr hy => hl j y (List.mem_cons_of_mem _ hj) (fun hh => hh.elim hr (hne j hj)) hy)
      exact ⟨x, h1, h2.mono hle⟩
  split at hgo
  · rename_i hw
    have hw' := wantA_spec ht (hwc.trans hw)
    rw [← opK_congr hev] at hgo
    rcases opK_spec (b := b) (kk := kk) (cs := cs) (rest := rest) hrec h.rel ht ho hw' hgo with ⟨v, st', ρ', v', w', g1, g2, g3, g4, g5⟩ | ⟨v, st', ρ', v', w', todo, g1, g2, g3, g4, g5⟩
    rotate_left
    · exact .inr ⟨v, st', ρ', v', a, w', todo, g1, g2, g3, ⟨fun t u hu => (by rw [Tr.get_lf] at hu; cases hu), h.size, h.marks.mono g4.le, h.kind, h.fn, h.round.mono g4.le⟩, h.adv.trans g4, g5⟩
    obtain ⟨hn, g1⟩ := putEK_eq' g1
    rw [Bool.and_eq_true] at g1
    obtain ⟨hre, hgo'⟩ := g1
    have hre : recheck P ops st' (putE e o.dst v) (done.filter fun j => !(anc ops ops.size i).contains j) = true := by
      split at hre
      · omega
      · omega
      · exact hre
    refine .inl ⟨_, st', ρ', w', _, ⟨hgo', h.adv.trans g4, g2, hslots v v' ρ' g4.le g3 hn, by rw [Act.size_put]; exact h.size, by rw [Act.defers_put]; exact h.marks.mono g4.le, h.kind, h.fn, h.round.mono g4.le, hfuel, hnd', hdlt, hsub, hclo, hclD, fun j hj hr => ?_,
      fun j hj => ⟨List.mem_cons_of_mem _ (h.al j hj).1, Nat.lt_of_lt_of_le (h.al j hj).2 g4.next⟩, h.inj⟩, g5⟩
    have hj : j ∈ done := (List.mem_cons.1 hj).resolve_left (fun e => hr (.inr e))
    have hr : ¬ real j := fun hh => hr (.inl hh)
    refine (h.late j hj hr).put (hother j hj hr) (hdiff j hj) (fun y hy q1 q2 _ => recheck_at hre (List.mem_filter.2 ⟨hj, ?_⟩) hy q2 q1) id (fun _ => rfl) (fun _ q1 q2 => ⟨(g4.un _ q1 q2).2, (g4.un _ q1 q2).1, Nat.lt_of_lt_of_le q1 g4.next⟩)
    have : j ∉ anc ops ops.size i := fun hh => hr (hanc j hh)
    simp [this]
  · rename_i hw
    have hw' := wantA_spec ht (hwc.trans hw)
    obtain ⟨hn, hgo⟩ := putEK_eq' hgo
    refine .inl ⟨_, st, ρ, w, a.put o.dst undef, ⟨hgo, h.adv, h.rel, hslots undefA undef ρ (Rho.le_refl _) (.tup _ _ .nil) hn, by rw [Act.size_put]; exact h.size, by rw [Act.defers_put]; exact h.marks, h.kind, h.fn, h.round, hfuel, hnd', hdlt, hsub, hclo, hclD, fun j hj hr => ?_,
      fun j hj => ⟨List.mem_cons_of_mem _ (h.al j hj).1, (h.al j hj).2⟩, h.inj⟩, .one ?_⟩
    · have hj : j ∈ done := (List.mem_cons.1 hj).resolve_left (fun e => hr (.inr e))
      have hr : ¬ real j := fun hh => hr (.inl hh)
      exact (h.late j hj hr).put (hother j hj hr) (hdiff j hj) (fun y hy _ _ ⟨v', q1, q2⟩ => ⟨v', (opQ_congr (ev_congr_get (ops := ops) (fun t ht => get_putE_ne (fun hd => hother j hj hr y hy t hd ht)))).trans q1, q2⟩)
        id (fun _ => rfl) (fun _ q1 q2 => ⟨rfl, q2, q1⟩)
    · have := stepR_op_skip (P := P) (b := b) (a := a) (k := kk) (cs := cs) (w := w) (ops := ops) (i := i) (rest := rest) (by rw [ho]; simp [hw'])
      rw [ho] at this
      exact this
  · cases hgo
end
end Go.Eng
/- Regions whose order is open: every order. -/
namespace Go.Eng
set_option linter.unusedVariables false
variable [Sym] [Hooks]

section
variable {B : Nat → Prop} {P : Program} {rec : RecX} {c : Ctx} {ops : Array Oper} {k : Env → St → Bool} {kp : KR} {ρ0 : Rho} {st0 : St} {w0 : World} {ds : List Nat} {b : Frame}
  {f : Nat} {done : List Nat} {AL : Nat → Prop} {ids : Nat → Nat} {e : Env} {st : St} {ρ : Rho} {w : World} {a : Act}
/-- What is not yet done. -/
def undone (ops : Array Oper) (listed : Array Bool) : List Nat := (List.range ops.size).filter fun i => !listed.getD i false
theorem undone_lt {listed : Array Bool} (hs : listed.size = ops.size) {i : Nat} (hi : i < ops.size) (hu : listed.getD i false = false) :
    (undone ops (listed.setIfInBounds i true)).length < (undone ops listed).length := by
  have h1 : undone ops (listed.setIfInBounds i true) = (undone ops listed).filter (fun j => !decide (j = i)) := by
    unfold undone
    rw [List.filter_filter]
    apply List.filter_congr
    intro j hj
    by_cases hij : j = i
    · subst hij
      have : j < listed.size := by omega
      simp [this]
    · have : (listed.setIfInBounds i true)[j]? = listed[j]? := Array.getElem?_setIfInBounds_ne (Ne.symm hij)
      simp [this, hij]
  rw [h1]
  refine List.length_filter_lt_length_iff_exists.2 ⟨i, ?_, by simp⟩
  unfold undone
  exact List.mem_filter.2 ⟨List.mem_range.2 hi, by rw [hu]; rfl⟩
theorem DInv.real_congr {real real' : Nat → Prop} (h : DInv B P rec c ops k kp ρ0 st0 w0 ds b f done real AL ids e st ρ w a) (hrr : ∀ j, real j ↔ real' j) : DInv B P rec c ops k kp ρ0 st0 w0 ds b f done real' AL ids e st ρ w a := by
  have : real = real' := funext fun j => propext (hrr j)
  rw [← this]; exact h
theorem set_iff {listed : Array Bool} (hs : listed.size = ops.size) {i : Nat} (hi : i < ops.size) (j : Nat) : (listed.getD j false = true ∨ j = i) ↔ (listed.setIfInBounds i true).getD j false = true := by
  by_cases hij : j = i
  · subst hij
    have : j < listed.size := by omega
    simp [this]
  · have : (listed.setIfInBounds i true)[j]? = listed[j]? := Array.getElem?_setIfInBounds_ne (Ne.symm hij)
    simp [this, hij]
/-- What a region comes to. -/
def DEnd (B : Nat → Prop) (P : Program) (c : Ctx) (k : Env → St → Bool) (kp : KR) (ρ0 : Rho) (st0 : St) (w0 : World) (ds : List Nat) (b : Frame) (kk : List Item) (cs : List Frame) (m : Machine) : Prop :=
  (∃ e' st' ρ' a' w', k e' st' = true ∧ SRel B ρ' st' w' ∧ FRel ρ' c e' ds b a' ∧ Adv B ρ0 st0 w0 ρ' st' w' ∧ Steps P m (lone (b.atR a' kk) cs w')) ∨
  (∃ v st' ρ' v' a' w' todo, kp v st' = true ∧ SRel B ρ' st' w' ∧ VRel ρ' v v' ∧ FRel ρ' c .lf ds b a' ∧ Adv B ρ0 st0 w0 ρ' st' w' ∧ Steps P m (lone ((b.atR a' todo).raise (chain v')) cs w'))
theorem DEnd.head {kk : List Item} {cs : List Frame} {m m' : Machine} (hm : Steps P m m') (h : DEnd B P c k kp ρ0 st0 w0 ds b kk cs m') : DEnd B P c k kp ρ0 st0 w0 ds b kk cs m := by
  rcases h with ⟨e', st', ρ', a', w', h1, h2, h3, h4, h5⟩ | ⟨v, st', ρ', v', a', w', todo, h1, h2, h3, h4, h5, h6⟩
  · exact .inl ⟨e', st', ρ', a', w', h1, h2, h3, h4, hm.trans h5⟩
  · exact .inr ⟨v, st', ρ', v', a', w', todo, h1, h2, h3, h4, h5, hm.trans h6⟩
theorem draw_all [HooksOK P] (hrec : RecOK P rec) (hreg : regOk ops = true) (kk : List Item) (cs : List Frame) : ∀ (fuel t : Nat) (listed : Array Bool) (f : Nat) (done : List Nat) (AL : Nat → Prop) (ids : Nat → Nat) (e : Env) (st : St) (ρ : Rho) (w : World) (a : Act),
    listed.size = ops.size → (undone ops listed).length ≤ fuel → DInv B P rec c ops k kp ρ0 st0 w0 ds b f done (fun j => listed.getD j false = true) AL ids e st ρ w a → (f = 0 ∨ (readyL ops done).find? (quietCls ops) = none) →
    DEnd B P c k kp ρ0 st0 w0 ds b kk cs (lone (b.atR a (.inRegion ops (Region.linearise.go .any ops fuel t listed []) :: kk)) cs w) := by
  have fin : ∀ (listed : Array Bool) (f : Nat) (done : List Nat) (AL : Nat → Prop) (ids : Nat → Nat) (e : Env) (st : St) (ρ : Rho) (w : World) (a : Act), (∀ j, j < ops.size → listed.getD j false = true) →
      DInv B P rec c ops k kp ρ0 st0 w0 ds b f done (fun j => listed.getD j false = true) AL ids e st ρ w a →
      DEnd B P c k kp ρ0 st0 w0 ds b kk cs (lone (b.atR a (.inRegion ops [] :: kk)) cs w) := by
    intro listed f done AL ids e st ρ w a hall h
    have hT : mkT ops f done = .fin := by
      have hnil : readyL ops done = [] := by
        cases hr : readyL ops done with
        | nil => rfl
        | cons r rs =>
          obtain ⟨h1, h2, _⟩ := mem_readyL.1 (show r ∈ readyL ops done by rw [hr]; exact List.mem_cons_self ..)
          exact absurd (h.sub r (hall r h1)) h2
      cases f with
      | zero => rfl
      | succ f => rw [mkT_succ, hnil]
    have hgo := h.go
    rw [hT] at hgo
    exact .inl ⟨e, st, ρ, a, w, hgo, h.rel, ⟨fun t v ht => h.slots t v ht (fun j y hj hr hy => absurd (hall j (Array.getElem?_eq_some_iff.1 hy).1) hr), h.size, h.marks, h.kind, h.fn, h.round⟩, h.adv, .one stepR_region_end⟩
  obtain ⟨hdst, hlt⟩ := regOk_parts hreg
  intro fuel
  induction fuel with
  | zero =>
    intro t listed f done AL ids e st ρ w a hs hu h hsat
    simp only [Region.linearise.go, List.reverse_nil]
    refine fin listed f done AL ids e st ρ w a (fun j hj => ?_) h
    cases hl : listed.getD j false with
    | true => rfl
    | false =>
      have : j ∈ undone ops listed := List.mem_filter.2 ⟨List.mem_range.2 hj, by rw [hl]; rfl⟩
      have h0 : undone ops listed = [] := List.length_eq_zero_iff.1 (by omega)
      rw [h0] at this; cases this
  | succ fuel ih =>
    intro t listed f done AL ids e st ρ w a hs hu h hsat
    simp only [Region.linearise.go]
    change DEnd B P c k kp ρ0 st0 w0 ds b kk cs (lone (b.atR a (.inRegion ops (match (Region.ready .any ops listed)[t % (Region.ready .any ops listed).length]? with
        | some i => Region.linearise.go .any ops fuel (t / (Region.ready .any ops listed).length) (listed.setIfInBounds i true) [i]
        | none => [].reverse) :: kk)) cs w)
    cases hi : (Region.ready .any ops listed)[t % (Region.ready .any ops listed).length]? with
    | none =>
      have hnil : Region.ready .any ops listed = [] := by
        cases hr : Region.ready .any ops listed with
        | nil => rfl
        | cons x xs =>
          rw [hr] at hi
          have hlt : t % (x :: xs).length < (x :: xs).length := Nat.mod_lt _ (by simp)
          simp at hi
          simp at hlt
          omega
      exact fin listed f done AL ids e st ρ w a (ready_nil hlt hs hnil) h
    | some i =>
      simp only []
      rw [linearise_go_acc, List.reverse_singleton, List.singleton_append]
      obtain ⟨hnl, o, ho, hpre⟩ := mem_ready.1 (List.mem_of_getElem? hi)
      have hisz : i < ops.size := (Array.getElem?_eq_some_iff.1 ho).1
      have hnr : listed.getD i false = false := by
        have h2 : i < listed.size := by omega
        simp [h2] at hnl ⊢; exact hnl
      have hp : ∀ j ∈ preds ops i, listed.getD j false = true := fun j hj => by
        obtain ⟨ed, h1, h2, rfl⟩ := (mem_preds ho).1 hj
        exact hpre ed h1 h2
      have hs' : (listed.setIfInBounds i true).size = ops.size := by rw [Array.size_setIfInBounds]; exact hs
      have hu' := undone_lt hs hisz hnr
      by_cases hd : i ∈ done
      · obtain ⟨ρ', w', a', h1, h2⟩ := h.late_step hreg hd (by rw [hnr]; simp) hp (Region.linearise.go .any ops fuel (t / (Region.ready .any ops listed).length) (listed.setIfInBounds i true) []) kk cs
        exact .head h2 (ih (t / (Region.ready .any ops listed).length) (listed.setIfInBounds i true) f done AL ids e st ρ' w' a' hs' (by omega) (h1.real_congr (set_iff hs hisz)) hsat)
      · have hlt2 := done_lt hisz hd h.nd h.dlt
        have hmem : i ∈ readyL ops done := mem_readyL.2 ⟨hisz, hd, fun j hj => h.sub j (hp j hj)⟩
        cases f with
        | zero => have := h.fuel; omega
        | succ f =>
          have hnone := hsat.resolve_left (by omega)
          have hq : quietCls ops i = false := by
            have := List.find?_eq_none.1 hnone i hmem
            simpa using this
          have hgo := h.go
          have hT : ∃ r rs, readyL ops done = r :: rs ∧ mkT ops (f + 1) done = alts (fun i => mkT ops f (i :: done)) r rs := by
            cases hr : readyL ops done with
            | nil => rw [hr] at hmem; cases hmem
            | cons r rs =>
              refine ⟨r, rs, rfl, ?_⟩
              rw [hr] at hnone
              rw [mkT_succ, hr]
              simp only [hnone]
          obtain ⟨r, rs, hr, hT⟩ := hT
          rw [hT] at hgo
          have hgo := alts_go rs r hgo i (by rw [← hr]; exact hmem)
          rcases h.eff_step hrec hreg hgo hisz hd hq hp (Region.linearise.go .any ops fuel (t / (Region.ready .any ops listed).length) (listed.setIfInBounds i true) []) kk cs with ⟨e1, st1, ρ1, w1, a1, h1, h2⟩ | ⟨v, st', ρ', v', a', w', todo, g1, g2, g3, g4, g5, g6⟩
          · obtain ⟨f', done', AL', ids', e', st', h3, h4⟩ := h1.saturate hreg
            exact .head h2 (ih (t / (Region.ready .any ops listed).length) (listed.setIfInBounds i true) f' done' AL' ids' e' st' ρ1 w1 a1 hs' (by omega) (h3.real_congr (set_iff hs hisz)) h4)
          · exact .inr ⟨v, st', ρ', v', a', w', todo, g1, g2, g3, g4, g5, g6⟩
theorem draw_ok [HooksOK P] (hm : P.follows .mixedOrders = true) : DrawOK P := by
  intro B rec hrec c ops e st k kp h ρ w ds b a kk cs id hs hf
  unfold drawK at h
  split at h <;> (try (cases h; done))
  rename_i hreg
  have h0 : DInv B P rec c ops k kp ρ st w ds b ops.size [] (fun j => (Array.replicate ops.size false).getD j false = true) (fun _ => False) (fun _ => 0) e st ρ { w with drawn := w.drawn + 1 } a := by
    have hno : ∀ j, ¬ (Array.replicate ops.size false).getD j false = true := fun j hj => by
      by_cases hjs : j < ops.size <;> simp [hjs] at hj
    exact ⟨h, .drew _, hs.drew _, fun t v ht _ => hf.slots t v ht, hf.size, hf.marks, hf.kind, hf.fn, hf.round, by simp, List.nodup_nil, (fun j hj => by cases hj),
      fun j hj => absurd hj (hno j), fun j hj => absurd hj (hno j), (fun j hj => by cases hj), (fun j hj => by cases hj), fun j hj => hj.elim, fun j _ hj => hj.elim⟩
  obtain ⟨f', done', AL', ids', e', st', h3, h4⟩ := h0.saturate hreg
  have hend := draw_all hrec hreg kk cs ops.size (w.tape w.drawn (.order b.fn id)) (Array.replicate ops.size false) f' done' AL' ids' e' st' ρ _ a (by simp) (by unfold undone; exact Nat.le_trans (List.length_filter_le _ _) (by simp)) h3 h4
  refine DEnd.head (.one stepR_region_draw) ?_
  simp only [Region.schedule, hm, Bool.true_or, if_true]
  exact hend
end
end Go.Eng
/- A call of a function from nothing, as the rows ask for it. -/
namespace Go.Eng
set_option linter.unusedVariables false
variable [Sym] [Hooks]

def isTrue (v : AV) : Bool := match v with | .bool true => true | _ => false
end Go.Eng
