/- A verified interpreter for calls on fixed data, part 2 of 5. -/
import Derived.Test.YtlfmgfgcaepmjaaGreatE1
set_option linter.unusedSimpArgs false
set_option linter.unusedVariables false
set_option linter.unusedSectionVars false
/- Structs and arrays that are built; the quiet operations as a whole. -/
namespace Go.Eng
set_option linter.unusedVariables false
variable [Sym]

theorem VsRel.set {ρ : Rho} {l : List AV} {l' : List Value} (h : VsRel ρ l l') (i : Nat) {v : AV} {v' : Value} (hv : VRel ρ v v') : VsRel ρ (l.set i v) (l'.set i v') := by
  induction l generalizing l' i with
  | nil => cases h; exact .nil
  | cons a l ih =>
    cases h with
    | cons _ _ _ _ hx hl => cases i with
      | zero => exact .cons _ _ _ _ hv hl
      | succ i => exact .cons _ _ _ _ hx (ih hl i)
theorem setMany_rel {ρ : Rho} (off : Nat) : ∀ (vs : List AV) (vs' : List Value) (k : Nat) (l : List AV) (arr : Array Value), VsRel ρ l arr.toList → VsRel ρ vs vs' →
    VsRel ρ (setMany l (off + k) vs) ((vs'.zipIdx k).foldl (fun cs (p : Value × Nat) => cs.setIfInBounds (off + p.2) p.1) arr).toList := by
  intro vs
  induction vs with
  | nil => intro vs' k l arr hl hv; cases hv; exact hl
  | cons v vs ih =>
    intro vs' k l arr hl hv
    cases hv with
    | cons _ v' _ vs' hx hl2 =>
      simp only [setMany, List.zipIdx_cons, List.foldl_cons]
      have := ih vs' (k + 1) (l.set (off + k) v) (arr.setIfInBounds (off + k) v') (by rw [Array.toList_setIfInBounds]; exact hl.set _ hx) hl2
      rw [← Nat.add_assoc] at this
      exact this
theorem setMany_length : ∀ (vs l : List AV) (k : Nat), (setMany l k vs).length = l.length := by
  intro vs
  induction vs with
  | nil => intro l k; rfl
  | cons v vs ih => intro l k; simp only [setMany, ih, List.length_set]
inductive PsRel (ρ : Rho) : List (Nat × AV) → List (Nat × Value) → Prop where
  | nil : PsRel ρ [] []
  | cons (i : Nat) (v : AV) (v' : Value) (l l') (h : VRel ρ v v') (hl : PsRel ρ l l') : PsRel ρ ((i, v) :: l) ((i, v') :: l')
theorem fill_run {ρ : Rho} {pA : Nat → Option (Nat × Nat)} {pR : Nat → Option (Nat × Nat)} (hp : ∀ i r, pA i = some r → pR i = some r) : ∀ (ps : List (Nat × AV)) (ps' : List (Nat × Value)) (l : List AV) (arr : Array Value) (l2 : List AV), PsRel ρ ps ps' → VsRel ρ l arr.toList → fillA pA l ps = some l2 →
    ∃ arr2, Instr.fill pR arr ps' = some arr2 ∧ VsRel ρ l2 arr2.toList := by
  intro ps
  induction ps with
  | nil => intro ps' l arr l2 h hl hf; cases h; cases hf; exact ⟨arr, rfl, hl⟩
  | cons p ps ih =>
    intro ps' l arr l2 h hl hf
    cases h with
    | cons i v v' _ ps' hv hps =>
      simp only [fillA] at hf
      split at hf
      · rename_i off sz hpl
        split at hf
        · rename_i q1 q2
          have q1 := Nat.eq_of_beq_eq_true q1
          have q2 := Nat.le_of_ble_eq_true q2
          have hc := hv.cells
          have hlen := hc.length
          have hlen2 := hl.length
          have hset := setMany_rel off v.cells v'.cells.toList 0 l arr hl hc
          obtain ⟨arr2, h1, h2⟩ := ih ps' (setMany l off v.cells) (v'.cells.zipIdx.foldl (fun cs (c, j) => cs.setIfInBounds (off + j) c) arr) l2 hps (by
            have e : v'.cells.zipIdx.foldl (fun cs (p : Value × Nat) => cs.setIfInBounds (off + p.2) p.1) arr = (v'.cells.toList.zipIdx 0).foldl (fun cs (p : Value × Nat) => cs.setIfInBounds (off + p.2) p.1) arr := by
              rw [← Array.foldl_toList, Array.toList_zipIdx]
            show VsRel ρ _ (v'.cells.zipIdx.foldl (fun cs (p : Value × Nat) => cs.setIfInBounds (off + p.2) p.1) arr).toList
            rw [e]
            simpa using hset) hf
          refine ⟨arr2, ?_, h2⟩
          simp only [Instr.fill, hp _ _ hpl]
          rw [if_neg]
          · exact h1
          · have e1 : v'.cells.size = v.cells.length := by rw [← Array.length_toList]; exact hlen
            have e2 : arr.size = l.length := by rw [← Array.length_toList]; exact hlen2
            simp only [e1, e2, Bool.or_eq_true, decide_eq_true_eq, not_or]
            omega
        · cases hf
      · cases hf
theorem mapM_size_run {P : Program} {w : World} : ∀ (fs : List Field), (fs.all fun f => (szOf P f.type).isSome) = true → (fs.mapM fun f => (do pure (f.offset, ← sizeOf f.type) : Sem (Nat × Nat))).run P w = .ok (fs.map fun f => (f.offset, (szOf P f.type).getD 0)) w := by
  intro fs
  induction fs with
  | nil => intro _; rfl
  | cons f fs ih =>
    intro h
    simp only [List.all_cons, Bool.and_eq_true] at h
    obtain ⟨n, hn⟩ := Option.isSome_iff_exists.1 h.1
    simp only [List.mapM_cons, Sem.run_bind, sizeOf_run hn, Result.andThen_ok, Sem.run_pure, ih h.2, List.map_cons, hn, Option.getD_some]
section
variable {B : Nat → Prop} {ρ : Rho} {st : St} {w : World} {P : Program} {e : Env} {a : Act}
theorem evp_rel (ht : TRel ρ e a.tmps) : ∀ (xs : List (Nat × Operand)) (vs : List (Nat × AV)), evp e xs = some vs → PsRel ρ vs (xs.map fun (i, x) => (i, a.eval x)) := by
  intro xs
  induction xs with
  | nil => intro vs h; cases h; exact .nil
  | cons x xs ih =>
    obtain ⟨i, x⟩ := x
    intro vs h
    rw [evp_cons] at h
    split at h
    · rename_i v1 v2 h1 h2; cases h; exact .cons _ _ _ _ _ (ev_rel ht h1) (ih _ h2)
    · cases h
theorem evo_rel (ht : TRel ρ e a.tmps) {x : Option Operand} {v : Option AV} (h : evo e x = some v) : ORel ρ v (x.map a.eval) := by
  unfold evo evoK at h
  cases x with
  | none => cases h; exact .none
  | some x =>
    simp only [] at h
    rw [evK_eq] at h
    split at h
    · rename_i u hu; cases h; exact .some _ _ (ev_rel ht hu)
    · cases h
theorem buildA_run {t : TypeId} {ps : List (Nat × AV)} {ps' : Array (Nat × Value)} {v : AV} (hp : PsRel ρ ps ps'.toList) (h : buildA P t ps = some v) : ∃ v', VRel ρ v v' ∧ (Instr.build t ps').run P w = .ok v' w := by
  unfold buildA at h
  split at h
  · rename_i z hz
    obtain ⟨z', hz1, hz2⟩ := zeroA_run hz
    split at h
    · rename_i fs hu
      split at h
      · rename_i hall
        cases hf : fillA (fieldsPl P fs) z.cells ps with
        | none => simp [hf] at h
        | some l2 =>
          simp [hf] at h; subst h
          have hm : (fs.mapM fun f => (do pure (f.offset, ← sizeOf f.type) : Sem (Nat × Nat))).run P w = .ok (fs.map fun f => (f.offset, (szOf P f.type).getD 0)) w := by
            rw [Array.mapM_eq_mapM_toList]
            simp only [Sem.run_map, mapM_size_run fs.toList hall, Result.andThen_ok]
            congr 1
            apply Array.ext'
            simp
          obtain ⟨arr2, h1, h2⟩ := fill_run (pR := fun i => (fs.map fun f => (f.offset, (szOf P f.type).getD 0))[i]?) (fun i r hr => by
            unfold fieldsPl at hr
            rw [Array.getElem?_map]
            cases hfi : fs[i]? with
            | none => rw [hfi] at hr; cases hr
            | some f =>
              rw [hfi] at hr
              simp only [Option.map_some] at hr ⊢
              cases hsz : szOf P f.type with
              | none => simp [hsz] at hr
              | some n => simp [hsz] at hr; simp [hr]) ps ps'.toList z.cells z'.cells l2 hp (hz1 ρ).cells hf
          refine ⟨.agg arr2, .agg _ _ h2, ?_⟩
          simp only [Instr.build, Sem.run_bind, hz2, Result.andThen_ok, run_underlying hu, hm, h1, Sem.run_pure]
      · cases h
    · rename_i n el hu
      split at h
      · rename_i sz hsz
        cases hf : fillA (fun i => some (i * sz, sz)) z.cells ps with
        | none => simp [hf] at h
        | some l2 =>
          simp [hf] at h; subst h
          obtain ⟨arr2, h1, h2⟩ := fill_run (pR := fun i => some (i * sz, sz)) (fun i r hr => hr) ps ps'.toList z.cells z'.cells l2 hp (hz1 ρ).cells hf
          refine ⟨.agg arr2, .agg _ _ h2, ?_⟩
          simp only [Instr.build, Sem.run_bind, hz2, Result.andThen_ok, run_underlying hu, sizeOf_run hsz, h1, Sem.run_pure]
      · cases h
    · cases h
  · cases h
theorem minMaxA_run {mx : Bool} : ∀ (l : List AV) (l' : List Value) (x v : AV) (x' : Value), VsRel ρ l l' → VRel ρ x x' → minMaxA mx x l = some v →
    ∃ v', VRel ρ v v' ∧ (l'.foldlM (if mx then Builtin.max2 else Builtin.min2) x').run P w = .ok v' w := by
  intro l
  induction l with
  | nil =>
    intro l' x v x' hl hx h
    cases hl
    simp only [minMaxA] at h
    cases h
    exact ⟨x', hx, rfl⟩
  | cons y l ih =>
    intro l' x v x' hl hx h
    cases hl with
    | cons _ y' _ l' hy hl =>
      simp only [minMaxA] at h
      split at h
      · cases hx; cases hy
        rename_i k m k2 n
        obtain ⟨v', h1, h2⟩ := ih l' _ v _ hl (.int k (pickMM mx m n)) h
        refine ⟨v', h1, ?_⟩
        simp only [List.foldlM_cons, Sem.run_bind]
        have : ((if mx then Builtin.max2 else Builtin.min2) (.int k m) (.int k2 n)).run P w = .ok (.int k (pickMM mx m n)) w := by
          cases mx
          · show (pure (Value.int k (if n < m then n else m)) : Sem Value).run P w = _
            simp only [Sem.run_pure, pickMM]
            by_cases hc : n < m <;> simp [hc]
          · show (pure (Value.int k (if n > m then n else m)) : Sem Value).run P w = _
            simp only [Sem.run_pure, pickMM]
            by_cases hc : n > m <;> simp [hc]
        rw [this]
        exact h2
      · cases h
theorem opQ_run (hs : SRel B ρ st w) (ht : TRel ρ e a.tmps) {o : Oper} {v : AV} (h : opQ P st e o = some v) : ∃ v', VRel ρ v v' ∧ (execOp a.eval o).run P w = .ok (.value v') w := by
  obtain ⟨dst, op, type, pos, after, guard⟩ := o
  unfold opQ opQK at h
  have fin : ∀ (s : Sem Value), (∃ v', VRel ρ v v' ∧ s.run P w = .ok v' w) → ∃ v', VRel ρ v v' ∧ (do pure (.value (← s)) : Sem Next).run P w = .ok (.value v') w := by
    rintro s ⟨v', h1, h2⟩
    exact ⟨v', h1, by simp only [Sem.run_bind, h2, Result.andThen_ok, Sem.run_pure]⟩
  cases op <;> simp only [] at h <;> (try (cases h; done))
  case move x => exact ⟨_, ev_rel ht h, rfl⟩
  case assign x => exact ⟨_, ev_rel ht h, rfl⟩
  case pick c x y =>
    rw [evK_eq] at h
    split at h
    · rename_i c0 hc
      have hcr := ev_rel ht hc
      split at h
      · cases hcv : a.eval c <;> rw [hcv] at hcr <;> cases hcr
        exact ⟨_, ev_rel ht h, by simp only [execOp, hcv, Sem.run_bind, asBool, Sem.run_pure, Result.andThen_ok, if_true]⟩
      · cases hcv : a.eval c <;> rw [hcv] at hcr <;> cases hcr
        exact ⟨_, ev_rel ht h, by simp only [execOp, hcv, Sem.run_bind, asBool, Sem.run_pure, Result.andThen_ok, Bool.false_eq_true, if_false]⟩
      · cases h
    · cases h
  case build t parts =>
    rw [evpK_eq] at h
    split at h
    · rename_i ps hps
      rw [aggK_eq] at h
      split at h
      · rename_i r hr
        cases h
        have hp := evp_rel ht _ _ hps
        exact fin _ (buildA_run (ps' := parts.map fun (i, x) => (i, a.eval x)) (by rw [Array.toList_map]; exact hp) hr)
      · cases h
    · cases h
  case load t x =>
    rw [evK_eq] at h
    split at h
    · rename_i x0 hx
      have hxr := ev_rel ht hx
      split at h
      · rename_i id ep off
        rw [loadK_eq] at h
        split at h
        · rename_i r hr
          cases h
          cases hxv : a.eval x <;> rw [hxv] at hxr <;> cases hxr
          rename_i p hp hb
          obtain ⟨v', h1, h2⟩ := hs.load (P := P) hp hb hr
          exact fin _ ⟨v', h1, by simp only [Instr.loadAt, hxv, Instr.sureAddr, Sem.run_bind, Sem.run_pure, Result.andThen_ok, h2]⟩
        · cases h
      · cases h
    · cases h
  case nilCheck x =>
    rw [evK_eq] at h
    split at h
    · rename_i x0 hx
      have hxr := ev_rel ht hx
      split at h <;> (try (cases h; done)) <;> cases h
      all_goals
        cases hxv : a.eval x <;> rw [hxv] at hxr <;> cases hxr
        refine ⟨_, by first | exact .ptr _ _ _ _ ‹_› ‹_› | exact .fn _ _ _ _ _ ‹_› ‹_› | exact .iface _ _ _ ‹_› | exact .map _ _ ‹_› | exact .slice _ _ _ _ _ _ _ _ _ _ ‹_› ‹_› ‹_› ‹_› ‹_› ‹_› ‹_›, by simp only [execOp, hxv, Sem.run_pure]⟩
    · cases h
  case binOp op t x y yt =>
    rw [evK_eq] at h
    split at h
    · rename_i x0 hx
      rw [evK_eq] at h
      split at h
      · rename_i y0 hy
        rw [outK_eq] at h
        split at h
        · rename_i r hr
          cases h
          exact fin _ (binA_run hs (ev_rel ht hx) (ev_rel ht hy) hr)
        · cases h
      · cases h
    · cases h
  case unOp op t x =>
    rw [evK_eq] at h
    split at h
    · rename_i x0 hx
      rw [outK_eq] at h
      split at h
      · rename_i r hr; cases h; exact fin _ (unA_run (ev_rel ht hx) hr)
      · cases h
    · cases h
  case convert s t x =>
    rw [evK_eq] at h
    split at h
    · rename_i x0 hx
      rw [outK_eq] at h
      split at h
      · rename_i r hr; cases h; exact fin _ (convB_run hs (ev_rel ht hx) hr)
      · cases h
    · cases h
  case makeInterface t x =>
    rw [evK_eq] at h
    split at h
    · rename_i x0 hx
      split at h
      · cases h
      · rename_i d hni hd
        cases h
        refine fin _ ⟨_, .iface _ _ _ (ev_rel ht hx), ?_⟩
        simp only [Instr.makeInterface, Sem.run_bind, run_underlying hd, Result.andThen_ok]
        cases d <;> first | rfl | (exact (hni _ rfl).elim)
      · cases h
    · cases h
  case makeFunc fn first captured =>
    cases fn <;> simp only [] at h <;> (try (cases h; done))
    rw [evsK_eq] at h
    split at h
    · rename_i l1 h1
      rw [evsK_eq] at h
      split at h
      · rename_i l2 h2
        cases h
        exact fin _ ⟨_, .fn _ _ _ _ _ (evs_relA ht _ _ h1) (evs_relA ht _ _ h2), rfl⟩
      · cases h
    · cases h
  case slice t x lo hi mx =>
    rw [evK_eq] at h
    split at h
    · rename_i x0 hx
      rw [evoK_eq] at h
      split at h
      · rename_i lo0 hlo
        rw [evoK_eq] at h
        split at h
        · rename_i hi0 hhi
          rw [evoK_eq] at h
          split at h
          · rename_i mx0 hmx
            rw [outK_eq] at h
            split at h
            · rename_i r hr; cases h; exact fin _ (sliceA_run hs (ev_rel ht hx) (evo_rel ht hlo) (evo_rel ht hhi) (evo_rel ht hmx) hr)
            · cases h
          · cases h
        · cases h
      · cases h
    · cases h
  case fieldAddr t x f =>
    rw [evK_eq] at h
    split at h
    · rename_i x0 hx
      have hxr := ev_rel ht hx
      split at h
      · split at h
        · rename_i fd hfd
          split at h
          · rename_i n hn
            rw [natK_eq] at h
            cases h
            cases hxv : a.eval x <;> rw [hxv] at hxr <;> cases hxr
            rename_i p hp hb
            refine fin _ ⟨_, .ptr _ _ _ p hp (by omega), ?_⟩
            unfold fldA at hfd
            split at hfd
            · rename_i fs hu
              simp only [Instr.fieldAt, hxv, Instr.sureAddr, Sem.run_bind, run_underlying hu, Result.andThen_ok, hfd, Sem.run_pure, fieldPlace, sizeOf_run hn]
              rw [if_neg (by omega)]
              simp only [Sem.run_pure, Result.andThen_ok, addr_add p _ _ hb]
            · cases hfd
          · cases h
        · cases h
      · cases h
    · cases h
  case field t x f =>
    rw [evK_eq] at h
    split at h
    · rename_i x0 hx
      have hxr := ev_rel ht hx
      split at h
      · split at h
        · rename_i fd hfd
          rw [aggK_eq] at h
          split at h
          · rename_i r hr
            cases h
            cases hxv : a.eval x <;> rw [hxv] at hxr <;> cases hxr
            rename_i hl
            obtain ⟨v', h1, h2⟩ := partA_run hl hr
            refine fin _ ⟨v', h1, ?_⟩
            unfold fldA at hfd
            split at hfd
            · rename_i fs hu
              simp only [Instr.field, hxv, asAgg, Sem.run_bind, run_underlying hu, Result.andThen_ok, hfd, Sem.run_pure, h2]
            · cases hfd
          · cases h
        · cases h
      · cases h
    · cases h
  case indexAddr t x i =>
    rw [evK_eq] at h
    split at h
    · rename_i x0 hx
      have hxr := ev_rel ht hx
      rw [evK_eq] at h
      split at h
      · rename_i i0 hi
        have hir := ev_rel ht hi
        split at h
        · cases hiv : a.eval i <;> rw [hiv] at hir <;> cases hir
          split at h
          · rename_i len el id ep off hu
            split at h
            · rename_i j sz hj hsz
              rw [natK_eq] at h
              cases h
              obtain ⟨rfl, hlt⟩ := idxA_spec hj
              cases hxv : a.eval x <;> rw [hxv] at hxr <;> cases hxr
              rename_i p hp hb
              refine fin _ ⟨_, .ptr _ _ _ p hp (by omega), ?_⟩
              simp only [Instr.indexAt, hxv, hiv, asIntOf, Instr.sureAddr, Sem.run_bind, run_underlying hu, Result.andThen_ok, Sem.run_pure]
              rw [if_pos ⟨by omega, by omega⟩]
              simp only [Sem.run_bind, sizeOf_run hsz, Result.andThen_ok, Sem.run_pure, Int.toNat_natCast, addr_add p _ _ hb]
            · cases h
          · rename_i el id ep off len cap ex sz0 hu
            split at h
            · rename_i j sz hj hsz
              split at h
              · rename_i hz
                have hz := Nat.eq_of_beq_eq_true hz
                subst hz
                rw [natK_eq] at h
                cases h
                obtain ⟨rfl, hlt⟩ := idxA_spec hj
                obtain ⟨cap', o, p, hxv, hp, hb, hc, he, hl, ho, hs'⟩ := hxr.slice_inv
                refine fin _ ⟨_, .ptr _ _ _ p hp (by omega), ?_⟩
                have hoo := ho (by omega)
                subst hoo
                simp only [Instr.indexAt, hxv, hiv, asIntOf, Sem.run_bind, run_underlying hu, Result.andThen_ok, Sem.run_pure]
                rw [if_pos ⟨by omega, by omega⟩]
                simp only [Sem.run_bind, sizeOf_run hsz, Result.andThen_ok, Sem.run_pure, Int.toNat_natCast, addr_add p _ _ hb]
              · cases h
            · cases h
          · cases h
        · cases h
      · cases h
    · cases h
  case index t x i =>
    rw [evK_eq] at h
    split at h
    · rename_i x0 hx
      have hxr := ev_rel ht hx
      rw [evK_eq] at h
      split at h
      · rename_i i0 hi
        have hir := ev_rel ht hi
        split at h
        · cases hiv : a.eval i <;> rw [hiv] at hir <;> cases hir
          split at h
          · rename_i len el l hu
            split at h
            · rename_i j sz hj hsz
              rw [aggK_eq] at h
              split at h
              · rename_i r hr
                cases h
                obtain ⟨rfl, hlt⟩ := idxA_spec hj
                cases hxv : a.eval x <;> rw [hxv] at hxr <;> cases hxr
                rename_i hl
                obtain ⟨v', h1, h2⟩ := partA_run hl hr
                refine fin _ ⟨v', h1, ?_⟩
                simp only [Instr.index, hxv, hiv, asIntOf, Sem.run_bind, run_underlying hu, Result.andThen_ok, Sem.run_pure]
                rw [if_pos ⟨by omega, by omega⟩]
                simp only [Sem.run_bind, sizeOf_run hsz, Result.andThen_ok, Int.toNat_natCast, h2]
              · cases h
            · cases h
          · rename_i s hu
            split at h
            · rename_i j hj
              split at h
              · rename_i b hb
                rw [outK_eq] at h
                cases h
                obtain ⟨rfl, hlt⟩ := idxA_spec hj
                cases hxv : a.eval x <;> rw [hxv] at hxr <;> cases hxr
                rename_i s' hs'
                have hsz : s'.size = s.length := by rw [← hs', List.length_map, Array.length_toList]; rfl
                refine fin _ ⟨_, .int _ _, ?_⟩
                simp only [Instr.index, hxv, hiv, asIntOf, Sem.run_bind, run_underlying hu, Result.andThen_ok, Sem.run_pure]
                rw [if_pos (by omega)]
                have hb' : s'[j]? = some (UInt8.ofNat b) ∧ (UInt8.ofNat b).toNat = b := by
                  rw [← hs', List.getElem?_map] at hb
                  cases hgd : s'.data.toList[j]? with
                  | none => rw [hgd] at hb; cases hb
                  | some u =>
                    rw [hgd] at hb
                    simp only [Option.map_some, Option.some.injEq] at hb
                    subst hb
                    refine ⟨?_, by simp⟩
                    have hlt2 : j < s'.size := by omega
                    have e1 : s'[j]? = some s'[j] := getElem?_pos s' j hlt2
                    have e2 : s'.data.toList[j]? = some s'[j] := by
                      rw [Array.getElem?_toList]
                      exact Array.getElem?_eq_getElem (xs := s'.data) hlt2
                    rw [e2] at hgd
                    rw [e1, hgd]; simp
                simp only [Int.toNat_natCast, hb'.1, Sem.run_pure, hb'.2]
                rfl
              · cases h
            · cases h
          · cases h
        · cases h
      · cases h
    · cases h
  case lookup t x i ok =>
    rw [evK_eq] at h
    split at h
    · rename_i x0 hx
      rw [evK_eq] at h
      split at h
      · rename_i i0 hi
        split at h
        · rename_i r hr
          cases h
          exact fin _ (lookA_run hs (ev_rel ht hx) (ev_rel ht hi) hr)
        · cases h
      · cases h
    · cases h
  case extract x i =>
    rw [evK_eq] at h
    split at h
    · rename_i x0 hx
      have hxr := ev_rel ht hx
      split at h
      · split at h
        · rename_i r hr
          cases h
          cases hxv : a.eval x <;> rw [hxv] at hxr <;> cases hxr
          rename_i hl
          obtain ⟨v', h1, h2⟩ := hl.get hr
          refine fin _ ⟨v', h2, ?_⟩
          rename_i arr
          have : arr[i]? = some v' := by simpa using h1
          simp only [Instr.extract, hxv, this, Sem.run_pure]
        · cases h
      · cases h
    · cases h
  case call c =>
    obtain ⟨cl, args, tys⟩ := c
    cases cl <;> simp only [] at h <;> (try (cases h; done))
    rename_i b
    cases b <;> simp only [] at h <;> (try (cases h; done))
    · split at h
      · rename_i x t hargs htys
        rw [evK_eq] at h
        split at h
        · rename_i x0 hx
          split at h
          · rename_i n hn
            rw [natK_eq] at h
            cases h
            refine ⟨_, .int _ _, ?_⟩
            have hargs' : args = #[x] := by apply Array.ext'; simpa using hargs
            subst hargs'
            have := lenA_run (ty := type) hs (ev_rel ht hx) htys hn
            simp only [execOp, resolve, Sem.run_bind, Sem.run_pure, Result.andThen_ok, invoke, builtin]
            have e : (#[x] : Array Operand).map a.eval = #[a.eval x] := by simp
            rw [e, this]; rfl
          · cases h
        · cases h
      · cases h
    all_goals
      rw [evsK_eq] at h
      split at h
      · rename_i l hl
        split at h
        · rename_i x0 l0
          rw [outK_eq] at h
          split at h
          · rename_i r hr
            cases h
            have hrel := evs_relA ht _ _ hl
            cases hra : (args.map a.eval).toList with
            | nil => rw [hra] at hrel; cases hrel
            | cons y ys =>
              rw [hra] at hrel
              cases hrel with
              | cons _ _ _ _ hy hys =>
                obtain ⟨v', h1, h2⟩ := minMaxA_run (P := P) (w := w) _ _ _ _ _ hys hy hr
                refine ⟨v', h1, ?_⟩
                simp only [if_true, Bool.false_eq_true, if_false] at h2
                simp only [execOp, resolve, Sem.run_bind, Sem.run_pure, Result.andThen_ok, invoke, builtin, Builtin.max_, Builtin.min_, hra, h2]
          · cases h
        · cases h
      · cases h
end
end Go.Eng
/- The operations that only make a block. -/
namespace Go.Eng
set_option linter.unusedVariables false
variable [Sym]

noncomputable def trGo : List AV → Nat → Tr ACell → Tr ACell
  | [], _, t => t
  | v :: vs, i, t => trGo vs (i + 1) (t.set i ⟨v, 0⟩)
noncomputable def trGoK {β : Type} : List AV → Nat → Tr ACell → (Tr ACell → β) → β
  | [], _, t, k => k t
  | v :: vs, i, t, k => t.setK i ⟨v, 0⟩ fun t => natK (i + 1) fun i => trGoK vs i t k
theorem trGoK_eq {β : Type} : ∀ (vs : List AV) (i : Nat) (t : Tr ACell) (k : Tr ACell → β), trGoK vs i t k = k (trGo vs i t) := by
  intro vs
  induction vs with
  | nil => intro i t k; rfl
  | cons v vs ih => intro i t k; simp only [trGoK, trGo, Tr.setK_eq, natK_eq, ih]
theorem trGo_get : ∀ (vs : List AV) (i : Nat) (t : Tr ACell) (j : Nat) (v : AV) (tag : Nat), (trGo vs i t).get j = some ⟨v, tag⟩ → (i ≤ j ∧ vs[j - i]? = some v ∧ tag = 0) ∨ t.get j = some ⟨v, tag⟩ := by
  intro vs
  induction vs with
  | nil => intro i t j v tag h; exact .inr h
  | cons u vs ih =>
    intro i t j v tag h
    rcases ih (i + 1) _ j v tag h with ⟨h1, h2, h3⟩ | h4
    · refine .inl ⟨by omega, ?_, h3⟩
      have : j - i = (j - (i + 1)) + 1 := by omega
      rw [this]; simpa using h2
    · rw [Tr.get_set] at h4
      split at h4
      · rename_i hij
        cases h4
        subst hij
        exact .inl ⟨Nat.le_refl _, by simp, rfl⟩
      · exact .inr h4
noncomputable def tile : Nat → List AV → List AV
  | 0, _ => []
  | n + 1, l => l ++ tile n l
theorem tile_length (n : Nat) (l : List AV) : (tile n l).length = n * l.length := by
  induction n with
  | zero => simp [tile]
  | succ n ih => simp [tile, ih, Nat.add_mul]; omega
theorem tile_get (n : Nat) (l : List AV) (i : Nat) (v : AV) (h : (tile n l)[i]? = some v) : i < n * l.length ∧ l[i % l.length]? = some v := by
  induction n generalizing i with
  | zero => simp [tile] at h
  | succ n ih =>
    simp only [tile] at h
    rw [List.getElem?_append] at h
    split at h
    · rename_i hi
      refine ⟨?_, by rw [Nat.mod_eq_of_lt hi]; exact h⟩
      rw [Nat.add_mul]; omega
    · rename_i hi
      obtain ⟨h1, h2⟩ := ih _ h
      refine ⟨by rw [Nat.add_mul]; omega, ?_⟩
      rw [← h2, Nat.mod_eq_sub_mod (by omega)]
theorem tile_get_lt : ∀ (n : Nat) (l : List AV) (i : Nat), i < n * l.length → (tile n l)[i]? = l[i % l.length]? := by
  intro n l i hi
  have hlt : i < (tile n l).length := by rw [tile_length]; exact hi
  rw [List.getElem?_eq_getElem hlt]
  exact ((tile_get n l i _ (List.getElem?_eq_getElem hlt)).2).symm
theorem VsRel.of_get {ρ : Rho} : ∀ (l : List AV) (l' : List Value), l'.length = l.length → (∀ (i : Nat) (v : AV), l[i]? = some v → ∃ v', l'[i]? = some v' ∧ VRel ρ v v') → VsRel ρ l l' := by
  intro l
  induction l with
  | nil => intro l' h _; cases l' with | nil => exact .nil | cons _ _ => simp at h
  | cons a l ih =>
    intro l' h hg
    cases l' with
    | nil => simp at h
    | cons b l' =>
      obtain ⟨v', h1, h2⟩ := hg 0 a (by simp)
      simp at h1; subst h1
      exact .cons _ _ _ _ h2 (ih l' (by simpa using h) fun i v hi => by simpa using hg (i + 1) v (by simpa using hi))
/-- The model's own row of zeros. -/
theorem zerosArr {ρ : Rho} {z : List AV} {zc : Array Value} (hz : VsRel ρ z zc.toList) {n i : Nat} {v : AV} (hi : i < n) (h : z[i % z.length]? = some v) : ∃ v', ((Array.range n).map (zc[· % zc.size]!))[i]? = some v' ∧ VRel ρ v v' := by
  obtain ⟨v', h1, h2⟩ := hz.get h
  have hlen : zc.size = z.length := by rw [← Array.length_toList]; exact hz.length
  refine ⟨v', ?_, h2⟩
  have h1' : zc[i % zc.size]? = some v' := by rw [hlen]; simpa using h1
  have h3 : zc[i % zc.size]! = v' := by rw [getElem!_def, h1']
  simp [hi, h3]
/-- What an operation that makes a block hands back. -/
inductive ARes where
  | ptr
  | map
  | slice (len cap sz : Nat)
def ARes.mk (r : ARes) (id : Nat) : AV :=
  match r with
  | .ptr => .ptr id 0 0
  | .map => .map id
  | .slice len cap sz => .slice id 0 0 len cap true sz
section
variable {β : Type}
noncomputable def zerosK (z : List AV) (c : Nat) (k : Tr ACell → β) : β :=
  match z with
  | [v] => Tr.full ⟨v, 0⟩ (Nat.log2 (c + 1) + 2) k
  | z => listK (tile c z) fun l => trGoK l 0 .lf k
noncomputable def zeros (z : List AV) (c : Nat) : Tr ACell :=
  match z with
  | [v] => Tr.fullT ⟨v, 0⟩ (Nat.log2 (c + 1) + 2)
  | z => trGo (tile c z) 0 .lf
theorem zerosK_eq (z : List AV) (c : Nat) (k : Tr ACell → β) : zerosK z c k = k (zeros z c) := by
  unfold zerosK zeros
  split
  · exact Tr.full_eq _ _ _
  · rw [listK_eq, trGoK_eq]
theorem zeros_get {z : List AV} {c i : Nat} {v : AV} {tag : Nat} (hz : z ≠ []) (h : (zeros z c).get i = some ⟨v, tag⟩) : tag = 0 ∧ z[i % z.length]? = some v := by
  unfold zeros at h
  split at h
  · have := Tr.get_fullT h
    cases this
    exact ⟨rfl, by simp [Nat.mod_one]⟩
  · rcases trGo_get _ _ _ _ _ _ h with ⟨h1, h2, h3⟩ | h4
    · exact ⟨h3, (tile_get _ _ _ _ h2).2⟩
    · rw [Tr.get_lf] at h4; cases h4
def natOf (v : AV) : Option Nat :=
  match v with
  | .int _ (.ofNat n) => some n
  | _ => none
noncomputable def opAK (P : Program) (e : Env) (o : Oper) (d : β) (k : Rec → ARes → β) : β :=
  match o.op with
  | .alloc t => match zeroA P t with
    | some z => listK z.cells fun l => trGoK l 0 .lf fun c => natK l.length fun n => k (.cells t c n 0 false) .ptr
    | none => d
  | .box t x => evK e x d fun v => listK v.cells fun l => trGoK l 0 .lf fun c => natK l.length fun n => k (.cells t c n 0 false) .ptr
  | .makeMap t r => match r with
    | none => k (.map [] 0) .map
    | some r => evK e r d fun r => match r, P.underlying t with | .int _ _, some (.map _ _) => k (.map [] 0) .map | _, _ => d
  | .makeSlice t l c => evK e l d fun l => evK e c d fun c => match natOf l, natOf c, P.underlying t with
    | some l, some c, some (.slice el) => match szOf P el, bytesOf P el, zeroA P el with
      | some (sz + 1), some by_, some z => match Nat.ble l c, Nat.ble (by_ * c) 281474976710656, Nat.ble c 4611686018427387904, Nat.beq z.cells.length (sz + 1) with
        | true, true, true, true => zerosK z.cells c fun t => natK (c * (sz + 1)) fun top => k (.cells el t top 0 false) (.slice l c (sz + 1))
        | _, _, _, _ => d
      | _, _, _ => d
    | _, _, _ => d
  | .buildSlice t len parts => match P.underlying t with
    | some (.slice el) => match szOf P el, zeroA P el with
      | some (sz + 1), some z => match Nat.ble (len * (sz + 1)) 16777216, Nat.beq z.cells.length (sz + 1) with
        | true, true => evpK e parts.toList d fun ps => match fillA (fun i => some (i * (sz + 1), sz + 1)) (tile len z.cells) ps with
          | some l => listK l fun l => trGoK l 0 .lf fun c => natK (len * (sz + 1)) fun top => k (.cells el c top 0 false) (.slice len len (sz + 1))
          | none => d
        | _, _ => d
      | _, _ => d
    | _ => d
  | _ => d
noncomputable def opA (P : Program) (e : Env) (o : Oper) : Option (Rec × ARes) := opAK P e o none fun r s => some (r, s)
theorem opAK_eq (P : Program) (e : Env) (o : Oper) (d : β) (k : Rec → ARes → β) : opAK P e o d k = match opA P e o with | some (r, s) => k r s | none => d := by
  unfold opA opAK
  obtain ⟨dst, op, type, pos, after, guard⟩ := o
  cases op <;> simp only [evK_eq, evpK_eq, listK_eq, trGoK_eq, natK_eq, zerosK_eq] <;> (try rfl)
  all_goals (repeat' (first | rfl | split))
  all_goals (try (simp_all; done))
end
theorem cellsRec {ρ : Rho} {elem : TypeId} {l : List AV} {cs : Array Value} (h : VsRel ρ l cs.toList) (blk : Nat) : ∀ ρ', ρ.le ρ' → RecRel ρ' 0 ⟨blk, 0, cs.size⟩ (.cells elem (trGo l 0 .lf) l.length 0 false) (some (.cells cs elem (0, 0))) := by
  intro ρ' hle
  have hlen := h.length
  have hsz : cs.size = l.length := by rw [← Array.length_toList]; exact hlen
  refine ⟨cs, 0, 0, rfl, fun _ => ⟨rfl, rfl⟩, fun i h1 h2 => by omega, rfl, ⟨Nat.le_refl _, fun i x hx => by
    obtain ⟨u, tag⟩ := x
    rcases trGo_get _ _ _ _ _ _ hx with ⟨_, _, h3⟩ | h4
    · simp only []; omega
    · rw [Tr.get_lf] at h4; cases h4⟩, ?_, fun _ i _ hi => by simp only [hsz]; omega⟩
  intro i v tag hi hg ht hb
  rcases trGo_get _ _ _ _ _ _ hg with ⟨_, h2, _⟩ | h4
  · obtain ⟨v', h5, h6⟩ := (h.mono hle).get h2
    exact ⟨v', by simpa using h5, h6⟩
  · rw [Tr.get_lf] at h4; cases h4
section
variable {B : Nat → Prop} {ρ : Rho} {st : St} {w : World} {P : Program} {e : Env} {a : Act}
theorem opA_plain {P : Program} {e : Env} {o : Oper} {r : Rec} {s : ARes} (h : opA P e o = some (r, s)) : r.plain = true := by
  obtain ⟨dst, op, type, pos, after, guard⟩ := o
  unfold opA opAK at h
  cases op <;> simp only [evK_eq, evpK_eq, listK_eq, trGoK_eq, natK_eq, zerosK_eq] at h <;> (try (cases h; done))
  all_goals (repeat' (first | (cases h; rfl) | (cases h; done) | split at h))
theorem opA_run (hs : SRel B ρ st w) (ht : TRel ρ e a.tmps) {o : Oper} {r : Rec} {s : ARes} (h : opA P e o = some (r, s)) :
    ∃ obj n v', (execOp a.eval o).run P w = .ok (.value v') { w with heap := w.heap.push obj } ∧ (∀ ρ', ρ.le ρ' → RecRel ρ' 0 ⟨w.heap.size, 0, n⟩ r (some obj)) ∧ (∀ ρ' id, ρ' id 0 = some ⟨w.heap.size, 0, n⟩ → VRel ρ' (s.mk id) v') := by
  obtain ⟨dst, op, type, pos, after, guard⟩ := o
  unfold opA opAK at h
  cases op <;> simp only [evK_eq, evpK_eq, listK_eq, trGoK_eq, natK_eq, zerosK_eq] at h <;> (try (cases h; done))
  case alloc t =>
    split at h
    · rename_i z hz
      cases h
      obtain ⟨z', hz1, hz2⟩ := zeroA_run hz
      refine ⟨_, _, _, ?_, cellsRec (hz1 ρ).cells w.heap.size, fun ρ' id hid => .ptr id 0 0 _ hid (Nat.zero_le _)⟩
      simp only [execOp, Instr.alloc, Sem.run_bind, hz2, Result.andThen_ok, newVar, newRow, run_newObj, Sem.run_pure]
    · cases h
  case box t x =>
    split at h
    · rename_i v hv
      cases h
      refine ⟨_, _, _, ?_, cellsRec (ev_rel ht hv).cells w.heap.size, fun ρ' id hid => .ptr id 0 0 _ hid (Nat.zero_le _)⟩
      simp only [execOp, Instr.box, Sem.run_bind, Result.andThen_ok, newVar, newRow, run_newObj, Sem.run_pure]
    · cases h
  case makeMap t r =>
    have key : ∀ ρ', ρ.le ρ' → RecRel ρ' 0 ⟨w.heap.size, 0, 0⟩ (.map [] 0) (some (.map #[] 0)) := fun ρ' _ => ⟨rfl, #[], rfl, .nil⟩
    cases r with
    | none =>
      cases h
      refine ⟨_, 0, _, ?_, key, fun ρ' id hid => .map id _ hid⟩
      simp only [execOp, Instr.makeMap, Option.map, Sem.run_bind, Result.andThen_ok, run_newObj, Sem.run_pure]
    | some x =>
      simp only [] at h
      split at h
      · rename_i v hv
        split at h
        · rename_i k n d1 d2 hu
          cases h
          have hr := ev_rel ht hv
          cases hxv : a.eval x <;> rw [hxv] at hr <;> cases hr
          refine ⟨_, 0, _, ?_, key, fun ρ' id hid => .map id _ hid⟩
          simp only [execOp, Instr.makeMap, Option.map, hxv, Sem.run_bind, run_underlying hu, asInt, asIntOf, Result.andThen_ok, run_newObj, Sem.run_pure]
        · cases h
      · cases h
  case makeSlice t l c =>
    split at h
    · rename_i l0 hl
      split at h
      · rename_i c0 hc
        split at h
        · rename_i ln cn el hln hcn hu
          split at h
          · rename_i sz by_ z hsz hby hz
            split at h
            · rename_i q1 q2 q3 q4
              have q1 := Nat.le_of_ble_eq_true q1
              have q2 := Nat.le_of_ble_eq_true q2
              have q3 := Nat.le_of_ble_eq_true q3
              have q4 := Nat.eq_of_beq_eq_true q4
              cases h
              have hlr := ev_rel ht hl
              have hcr := ev_rel ht hc
              obtain ⟨kl, e1⟩ : ∃ k, l0 = .int k (.ofNat ln) := by
                unfold natOf at hln; split at hln
                · cases hln; exact ⟨_, rfl⟩
                · cases hln
              obtain ⟨kc, e2⟩ : ∃ k, c0 = .int k (.ofNat cn) := by
                unfold natOf at hcn; split at hcn
                · cases hcn; exact ⟨_, rfl⟩
                · cases hcn
              subst e1 e2
              cases hlv : a.eval l <;> rw [hlv] at hlr <;> cases hlr
              cases hcv : a.eval c <;> rw [hcv] at hcr <;> cases hcr
              obtain ⟨z', hz1, hz2⟩ := zeroA_run hz
              obtain ⟨ti, hti, hbt⟩ : ∃ ti, P.info? el = some ti ∧ ti.bytes = by_ := by
                unfold bytesOf at hby
                cases hi : P.info? el with
                | none => simp [hi] at hby
                | some ti => simp [hi] at hby; exact ⟨ti, rfl, hby⟩
              have hzc := (hz1 ρ).cells
              have hwl : IntKind.i64.wrap (Int.ofNat ln) = (ln : Int) := IntWalk.i64_in _ (by have : (Int.ofNat ln) = (ln : Int) := rfl; omega)
              have hwc : IntKind.i64.wrap (Int.ofNat cn) = (cn : Int) := IntWalk.i64_in _ (by have : (Int.ofNat cn) = (cn : Int) := rfl; omega)
              obtain ⟨zz, hzz⟩ : ∃ zz : Array Value, zz = if cn * (sz + 1) = 0 then #[] else z'.cells := ⟨_, rfl⟩
              refine ⟨.cells ((Array.range (cn * (sz + 1))).map (zz[· % zz.size]!)) el, cn * (sz + 1), .slice (some ⟨w.heap.size, 0, none⟩) ln cn, ?_, ?_, ?_⟩
              · have hnot : ¬ ((decide ((cn : Int) < 0) || decide ((ti.bytes : Int) * (cn : Int) > 2 ^ 48) || decide ((ln : Int) < 0) || decide ((ln : Int) > (cn : Int))) = true) := by
                  have hm : ((ti.bytes : Int) * (cn : Int)) = ((by_ * cn : Nat) : Int) := by rw [hbt]; simp
                  simp only [hm, Bool.or_eq_true, decide_eq_true_eq, not_or]
                  omega
                simp only [execOp, Instr.makeSlice, hlv, hcv, Sem.run_bind, run_underlying hu, asInt, asIntOf, Result.andThen_ok, Sem.run_pure, typeInfo, run_program, hti, hwl, hwc]
                rw [if_neg hnot]
                simp only [Sem.run_bind, run_askRoom, Result.andThen_ok, sizeOf_run hsz, Int.toNat_natCast]
                simp only [Nat.succ_eq_add_one]
                by_cases h0 : cn * (sz + 1) = 0
                · rw [if_pos h0] at hzz ⊢
                  subst hzz
                  simp only [Result.andThen_ok, newRow, Sem.run_bind, run_newObj, Sem.run_pure]
                · rw [if_neg h0] at hzz ⊢
                  subst hzz
                  simp only [Result.andThen_ok, hz2, newRow, Sem.run_bind, run_newObj, Sem.run_pure]
              · intro ρ' hle
                have hne : z.cells ≠ [] := fun e => by rw [e] at q4; simp at q4
                refine ⟨_, 0, 0, rfl, fun _ => ⟨rfl, rfl⟩, fun i h1 h2 => by omega, by simp, ⟨Nat.le_refl _, fun i x hx => by
                  obtain ⟨u, tag⟩ := x
                  have := (zeros_get hne hx).1
                  simp only []; omega⟩, ?_, fun _ i _ hi => hi⟩
                intro i v tag hi hg _ _
                obtain ⟨_, h5⟩ := zeros_get hne hg
                have e3 : zz = z'.cells := by rw [hzz, if_neg (by omega)]
                subst e3
                obtain ⟨v', h6, h7⟩ := zerosArr hzc hi h5
                exact ⟨v', by simpa using h6, h7.mono hle⟩
              · intro ρ' id hid
                exact .slice id 0 0 ln cn true (sz + 1) cn 0 _ hid (Nat.zero_le _) (Nat.le_refl _) (fun _ => rfl) q1 (fun _ => by simp) (fun _ => by simp)
            · cases h
          · cases h
        · cases h
      · cases h
    · cases h
  case buildSlice t len parts =>
    split at h
    · rename_i el hu
      split at h
      · rename_i sz z hsz hz
        split at h
        · rename_i q1 q2
          have q1 := Nat.le_of_ble_eq_true q1
          have q2 := Nat.eq_of_beq_eq_true q2
          split at h
          · rename_i ps hps
            split at h
            · rename_i l hl
              cases h
              have hp := evp_rel ht _ _ hps
              obtain ⟨z', hz1, hz2⟩ := zeroA_run hz
              have hzc := (hz1 ρ).cells
              obtain ⟨zz, hzz⟩ : ∃ zz : Array Value, zz = if len * (sz + 1) = 0 then #[] else z'.cells := ⟨_, rfl⟩
              have htile : VsRel ρ (tile len z.cells) ((Array.range (len * (sz + 1))).map (zz[· % zz.size]!)).toList := by
                refine VsRel.of_get _ _ (by simp [tile_length, q2]) fun i v hi => ?_
                obtain ⟨h5, h6⟩ := tile_get _ _ _ _ hi
                rw [q2] at h5
                have e3 : zz = z'.cells := by rw [hzz, if_neg (by omega)]
                subst e3
                obtain ⟨v', h7, h8⟩ := zerosArr (n := len * (sz + 1)) hzc h5 h6
                exact ⟨v', by rw [Array.getElem?_toList]; exact h7, h8⟩
              obtain ⟨arr2, h1, h2⟩ := fill_run (pR := fun i => some (i * (sz + 1), sz + 1)) (fun i r hr => hr) ps (parts.map fun (i, x) => (i, a.eval x)).toList _ _ l (by rw [Array.toList_map]; exact hp) htile hl
              have hlen : l.length = len * (sz + 1) := by
                have : ∀ (qs : List (Nat × AV)) (u l2 : List AV), fillA (fun i => some (i * (sz + 1), sz + 1)) u qs = some l2 → l2.length = u.length := by
                  intro qs
                  induction qs with
                  | nil => intro u l2 hq; cases hq; rfl
                  | cons q qs ih =>
                    intro u l2 hq
                    obtain ⟨i, v⟩ := q
                    simp only [fillA] at hq
                    split at hq
                    · rw [ih _ _ hq, setMany_length]
                    · cases hq
                rw [this _ _ _ hl, tile_length, q2]
              have hsz2 : arr2.size = len * (sz + 1) := by rw [← Array.length_toList, h2.length, hlen]
              refine ⟨.cells arr2 el, len * (sz + 1), .slice (some ⟨w.heap.size, 0, none⟩) len len, ?_, ?_, ?_⟩
              · simp only [execOp, Instr.buildSlice, Sem.run_bind, run_underlying hu, Result.andThen_ok, sizeOf_run hsz]
                rw [if_neg (by simp only [Nat.succ_eq_add_one]; omega)]
                simp only [Nat.succ_eq_add_one]
                by_cases h0 : len * (sz + 1) = 0
                · rw [if_pos h0] at hzz ⊢
                  subst hzz
                  simp only [Sem.run_bind, Sem.run_pure, Result.andThen_ok, h1, newRow, run_newObj]
                · rw [if_neg h0] at hzz ⊢
                  subst hzz
                  simp only [Sem.run_bind, Sem.run_pure, hz2, Result.andThen_ok, h1, newRow, run_newObj]
              · intro ρ' hle
                have := cellsRec (elem := el) h2 w.heap.size ρ' hle
                rw [hlen, hsz2] at this
                exact this
              · intro ρ' id hid
                exact .slice id 0 0 len len true (sz + 1) len 0 _ hid (Nat.zero_le _) (Nat.le_refl _) (fun _ => rfl) (Nat.le_refl _) (fun _ => by simp) (fun _ => by simp)
            · cases h
          · cases h
        · cases h
      · cases h
    · cases h
end
end Go.Eng
/- The operations that write. -/
namespace Go.Eng
set_option linter.unusedVariables false
variable [Sym]

def strCells (s : List Nat) : List AV := s.map fun b => .int .u8 (.ofNat b)
def undefA : AV := .tup []
/-- How many elements a slice or a string has. -/
def lenOfA (x : AV) : Option Nat :=
  match x with
  | .nils => some 0
  | .slice _ _ _ n _ _ _ => some n
  | .str s => some s.length
  | _ => none
noncomputable def firstK {β : Type} (st : St) (sz n : Nat) (x : AV) (d : β) (k : List AV → β) : β :=
  match x with
  | .nils => k []
  | .slice id ep off _ _ _ _ => cellsK st id ep (n * sz) off d k
  | .str s => listK (strCells (s.take n)) k
  | _ => d
noncomputable def first (st : St) (sz n : Nat) (x : AV) : Option (List AV) := firstK st sz n x none some
theorem firstK_eq {β : Type} (st : St) (sz n : Nat) (x : AV) (d : β) (k : List AV → β) : firstK st sz n x d k = match first st sz n x with | some l => k l | none => d := by
  unfold first firstK
  cases x <;> first | rfl | skip
  · simp only [listK_eq]
  · simp only []; rw [cellsK_eq, cellsK_eq (d := none)]; cases cellsOf st _ _ _ _ <;> rfl
def notInt (P : Program) (t : Option TypeId) : Bool :=
  match t with
  | some t => match P.underlying t with
    | some (.slice _) => true
    | some .string => true
    | _ => false
  | none => false
noncomputable def setTags (tag : Nat) : List AV → Nat → Tr ACell → Tr ACell
  | [], _, t => t
  | v :: vs, i, t => setTags tag vs (i + 1) (t.set i ⟨v, tag⟩)
noncomputable def setTagsK {β : Type} (tag : Nat) : List AV → Nat → Tr ACell → (Tr ACell → β) → β
  | [], _, t, k => k t
  | v :: vs, i, t, k => t.setK i ⟨v, tag⟩ fun t => natK (i + 1) fun i => setTagsK tag vs i t k
theorem setTagsK_eq {β : Type} (tag : Nat) : ∀ (vs : List AV) (i : Nat) (t : Tr ACell) (k : Tr ACell → β), setTagsK tag vs i t k = k (setTags tag vs i t) := by
  intro vs
  induction vs with
  | nil => intro i t k; rfl
  | cons v vs ih => intro i t k; simp only [setTagsK, setTags, Tr.setK_eq, natK_eq, ih]
theorem setTags_get (tag : Nat) : ∀ (vs : List AV) (i : Nat) (t : Tr ACell) (j : Nat), (setTags tag vs i t).get j = if i ≤ j ∧ j < i + vs.length then (vs[j - i]?).map fun v => ⟨v, tag⟩ else t.get j := by
  intro vs
  induction vs with
  | nil => intro i t j; rw [if_neg (by simp only [List.length_nil]; omega)]; rfl
  | cons v vs ih =>
    intro i t j
    simp only [setTags, ih, List.length_cons]
    by_cases h1 : i + 1 ≤ j ∧ j < i + 1 + vs.length
    · rw [if_pos h1, if_pos (by omega)]
      have : j - i = (j - (i + 1)) + 1 := by omega
      rw [this, List.getElem?_cons_succ]
    · rw [if_neg h1]
      by_cases h2 : i = j
      · subst h2
        rw [Tr.get_set_same, if_pos (by omega)]
        simp only [Nat.sub_self, List.getElem?_cons_zero, Option.map_some]
      · rw [Tr.get_set_ne _ _ h2, if_neg (by omega)]
/-- A new row. -/
noncomputable def rowK (st : St) (el : TypeId) (l : List AV) (k : Nat → St → Bool) : Bool :=
  trGoK l 0 .lf fun c => natK l.length fun n => st.heap.setK st.next (.cells el c n 0 false) fun h => natK (st.next + 1) fun nx => k st.next ⟨h, nx, st.lim⟩
theorem rowK_eq (st : St) (el : TypeId) (l : List AV) (k : Nat → St → Bool) : rowK st el l k = k st.next ⟨st.heap.set st.next (.cells el (trGo l 0 .lf) l.length 0 false), st.next + 1, st.lim⟩ := by
  unfold rowK; rw [trGoK_eq, natK_eq, Tr.setK_eq, natK_eq]
noncomputable def appendK (P : Program) (st : St) (tys : Array TypeId) (s x : AV) (k : AV → St → Bool) : Bool :=
  match tys[0]? with
  | some sT => match P.underlying sT, notInt P tys[1]? with
    | some (.slice el), true => match szOf P el, bytesOf P el, lenOfA x, zeroA P el with
      | some (sz + 1), some (by_ + 1), some n, some z =>
        firstK st (sz + 1) n x false fun new => match Nat.beq new.length (n * (sz + 1)), Nat.beq z.cells.length (sz + 1) with
        | false, _ => false
        | _, false => false
        | true, true => match s with
          | .nils => match Nat.beq n 0 with
            | true => k .nils st
            | false => match Nat.ble (2 * n * (by_ + 1)) 281474976710656 with
              | true => rowK st el new fun id st => k (.slice id 0 0 n n false (sz + 1)) st
              | false => false
          | .slice id ep off len cap ex sz' => match Nat.beq sz' (sz + 1) with
            | false => false
            | true => natK (len + n) fun need => match Nat.ble need cap with
              | true => putsK st id ep (off + len * (sz + 1)) new false fun st => k (.slice id ep off need cap ex sz') st
              | false => match Nat.ble (2 * need * (by_ + 1)) 281474976710656 with
                | false => false
                | true => match ex with
                  | true => firstK st (sz + 1) len s false fun old => match Nat.beq old.length (len * (sz + 1)) with
                    | true => rowK st el (old ++ new) fun id st => k (.slice id 0 0 need need false (sz + 1)) st
                    | false => false
                  | false => match st.heap.get id with
                    | some (.cells el' c top lat sh) => match Nat.beq ep lat, Nat.ble (off + len * (sz + 1)) top, new.all AV.one, Nat.beq el' el, Nat.blt id st.lim with
                      | true, true, true, true, false => natK (lat + 1) fun lat => setTagsK lat new (off + len * (sz + 1)) c fun c => natK (off + need * (sz + 1)) fun top =>
                          st.heap.setK id (.cells el' c top lat sh) fun h => k (.slice id lat off need need false sz') ⟨h, st.next, st.lim⟩
                      | _, _, _, _, _ => false
                    | _ => false
          | _ => false
      | _, _, _, _ => false
    | _, _ => false
  | none => false
end Go.Eng
/- append: whether there is room or not. -/
namespace Go.Eng
set_option linter.unusedVariables false
variable [Sym]

section
variable {B : Nat → Prop} {ρ : Rho} {st : St} {w : World} {P : Program}
theorem lenOfA_run {x : AV} {x' : Value} {n : Nat} (hx : VRel ρ x x') (h : lenOfA x = some n) : (Builtin.lenOf x').run P w = .ok n w := by
  unfold lenOfA at h
  split at h
  · cases hx; cases h; rfl
  · obtain ⟨cap', o, p, rfl, _⟩ := hx.slice_inv; cases h; rfl
  · cases hx with
    | str _ s hs =>
      cases h
      have : s.size = (s.data.toList.map UInt8.toNat).length := by rw [List.length_map, Array.length_toList]; rfl
      rw [← hs, ← this]; rfl
  · cases h
theorem first_run (hs : SRel B ρ st w) {x : AV} {x' : Value} {sz n m : Nat} {l : List AV} (hx : VRel ρ x x') (hm : lenOfA x = some m) (hn : n ≤ m) (h : first st sz n x = some l) : ∃ l' : Array Value, VsRel ρ l l'.toList ∧ (Builtin.firstCells sz n x').run P w = .ok l' w := by
  unfold first firstK at h
  split at h
  · cases hx; cases h; exact ⟨#[], .nil, rfl⟩
  · rename_i id ep off len cap ex esz
    obtain ⟨cap', o, p, rfl, hp, hb, hc, he, hl, ho, hsz⟩ := hx.slice_inv
    cases hm
    rw [cellsK_eq] at h
    split at h
    · rename_i vs hvs
      cases h
      by_cases h0 : n * sz = 0
      · rw [h0] at hvs
        cases hvs
        exact ⟨#[], .nil, by simp only [Builtin.firstCells, h0]; rfl⟩
      · have hcp : 0 < cap' := by
          have : 0 < n := Nat.pos_of_ne_zero fun e => h0 (by rw [e]; simp)
          omega
        have hoo := ho hcp
        subst hoo
        obtain ⟨vs', hv, hr⟩ := hs.loadCells (P := P) hp off hb (n * sz) 0 l #[] hvs
        exact ⟨vs'.toArray, by simpa using hv, by simp only [Builtin.firstCells, Go.loadCells, hr]; simp⟩
    · cases h
  · cases hx with
    | str _ s hs' =>
      simp only [listK_eq] at h
      cases h
      refine ⟨(s.extract 0 n).data.map fun b => .int .u8 b.toNat, ?_, rfl⟩
      rw [← hs']
      refine VsRel.of_get _ _ (by simp [strCells, List.length_take]) fun i v hi => ?_
      simp only [strCells, List.getElem?_map, Option.map_eq_some_iff] at hi
      obtain ⟨b, hb, rfl⟩ := hi
      rw [List.getElem?_take] at hb
      split at hb
      · rename_i hin
        rw [List.getElem?_map, Option.map_eq_some_iff] at hb
        obtain ⟨u, hu, rfl⟩ := hb
        refine ⟨.int .u8 u.toNat, ?_, .int _ _⟩
        simp only [Array.toList_map, List.getElem?_map, Option.map_eq_some_iff]
        refine ⟨u, ?_, rfl⟩
        rw [ByteArray.data_extract, Array.toList_extract]
        simp only [List.extract_eq_take_drop, List.drop_zero, Nat.sub_zero]
        rw [List.getElem?_take, if_pos hin]; exact hu
      · cases hb
  · cases h
theorem growBy_le (newLen : Nat) : ∀ (r c : Nat), 256 ≤ c → c < newLen → Builtin.growBy newLen r c ≤ 2 * newLen := by
  intro r
  induction r with
  | zero => intro c h1 h2; simp only [Builtin.growBy]; omega
  | succ r ih =>
    intro c h1 h2
    simp only [Builtin.growBy]
    split
    · omega
    · by_cases h3 : c + (c + 768) / 4 < newLen
      · exact ih _ (by omega) h3
      · have h4 : ∀ r, Builtin.growBy newLen r (c + (c + 768) / 4) = c + (c + 768) / 4 := by
          intro r
          cases r with
          | zero => rfl
          | succ r => simp only [Builtin.growBy]; rw [if_pos (by omega)]
        rw [h4]; omega
theorem nextcap_le {need cap : Nat} (h : cap < need) : Builtin.nextslicecap need cap ≤ 2 * need := by
  unfold Builtin.nextslicecap
  split
  · omega
  · split
    · omega
    · exact growBy_le _ _ _ (by omega) h
theorem notInt_spec {t : Option TypeId} (h : notInt P t = true) : ∃ xT, t = some xT ∧ ((∃ q, P.underlying xT = some (.slice q)) ∨ P.underlying xT = some .string) := by
  unfold notInt at h
  split at h
  · rename_i xT
    split at h
    · rename_i q hq; exact ⟨xT, rfl, .inl ⟨q, hq⟩⟩
    · rename_i hq; exact ⟨xT, rfl, .inr hq⟩
    · cases h
  · cases h
/-- The model's append, where the elements do not fit. -/
theorem grow_run {tys : Array TypeId} {ty sT el : TypeId} {sz by_ n len cap : Nat} {base : Option Addr} {x' z' : Value} {old new : Array Value} {ti : TypeInfo} (h0 : tys[0]? = some sT) (hu : P.underlying sT = some (.slice el)) (hi : notInt P tys[1]? = true)
    (hsz : ti.size = sz) (hti : P.info? el = some ti) (hbt : ti.bytes = by_) (hz : ti.zero = some z') (hby1 : 1 ≤ by_) (hn : (Builtin.lenOf x').run P w = .ok n w) (hcap : cap < len + n) (hroom : 2 * (len + n) * by_ ≤ 281474976710656)
    (hold : (Builtin.firstCells sz len (.slice base len cap)).run P w.drew = .ok old w.drew) (hnew : (Builtin.firstCells sz n x').run P w.drew = .ok new w.drew) :
    ∃ newCap, len + n ≤ newCap ∧ (Builtin.append_ tys ty #[.slice base len cap, x']).run P w = .ok (.slice (some ⟨w.heap.size, 0, none⟩) (len + n) newCap) (w.drew.alloc (.cells (old ++ new ++ Builtin.zeroCells z'.cells (newCap - (len + n))) el)) := by
  obtain ⟨xT, h1, hd⟩ := notInt_spec hi
  have hsmall : len + n ≤ 281474976710656 := by
    have : 1 * (2 * (len + n)) ≤ by_ * (2 * (len + n)) := Nat.mul_le_mul_right _ hby1
    have e : by_ * (2 * (len + n)) = 2 * (len + n) * by_ := Nat.mul_comm _ _
    omega
  have hnc : ¬ (281474976710656 < Builtin.nextslicecap (len + n) cap * ti.bytes) := by
    have := Nat.mul_le_mul_right by_ (nextcap_le hcap)
    rw [hbt]; omega
  have h63 : ¬ (9223372036854775807 < ((len : Int) + (n : Int))) := by omega
  have hfit : ¬ (len + n ≤ cap) := by omega
  refine ⟨Question.cut (.appendCap (len + n) cap el) (w.tape w.drawn (.appendCap (len + n) cap el)), by simp only [Question.cut]; omega, ?_⟩
  subst hsz
  rcases hd with ⟨q, hd⟩ | hd
  · simp [Builtin.append_, h0, h1, run_underlying hu, run_underlying hd, sizeOf, typeInfo, zeroValue, hti, hz, hn, hfit, h63, hnc, Question.forced, hold, hnew, newRow]
  · simp [Builtin.append_, h0, h1, run_underlying hu, run_underlying hd, sizeOf, typeInfo, zeroValue, hti, hz, hn, hfit, h63, hnc, Question.forced, hold, hnew, newRow]
/-- The model's append, where they do. -/
theorem room_run {tys : Array TypeId} {ty sT el : TypeId} {sz n len cap : Nat} {base : Option Addr} {x' : Value} {new : Array Value} {w' : World} (h0 : tys[0]? = some sT) (hu : P.underlying sT = some (.slice el)) (hi : notInt P tys[1]? = true)
    (hsz : szOf P el = some sz) (hn : (Builtin.lenOf x').run P w = .ok n w) (hcap : len + n ≤ cap) (hnew : (Builtin.firstCells sz n x').run P w = .ok new w)
    (hst : (match base with | some a => storeCells (a.add (len * sz)) new.toList | none => pure () : Sem Unit).run P w = .ok () w') :
    (Builtin.append_ tys ty #[.slice base len cap, x']).run P w = .ok (.slice base (len + n) cap) w' := by
  obtain ⟨xT, h1, hd⟩ := notInt_spec hi
  rcases hd with ⟨q, hd⟩ | hd
  all_goals
    cases base with
    | none =>
      simp only [Sem.run_pure] at hst
      cases hst
      simp [Builtin.append_, h0, h1, run_underlying hu, run_underlying hd, sizeOf_run hsz, hn, hcap, hnew]
    | some b =>
      simp only [] at hst
      simp [Builtin.append_, h0, h1, run_underlying hu, run_underlying hd, sizeOf_run hsz, hn, hcap, hnew, hst]
theorem info_of {el : TypeId} {a b : Nat} {z : AV} (h1 : szOf P el = some a) (h2 : bytesOf P el = some b) (h3 : zeroA P el = some z) : ∃ ti z', P.info? el = some ti ∧ ti.size = a ∧ ti.bytes = b ∧ ti.zero = some z' ∧ ∀ ρ, VRel ρ z z' := by
  unfold szOf at h1
  unfold bytesOf at h2
  unfold zeroA at h3
  cases hi : P.info? el with
  | none => simp [hi] at h1
  | some ti =>
    simp [hi] at h1 h2 h3
    cases hz : ti.zero with
    | none => simp [hz] at h3
    | some z' => simp [hz] at h3; exact ⟨ti, z', rfl, h1, h2, hz, fun ρ => ofV_rel ρ _ _ _ h3⟩
theorem rowRec {elem : TypeId} {l : List AV} {pre rest : Array Value} (h : VsRel ρ l pre.toList) (blk : Nat) : ∀ ρ', ρ.le ρ' → RecRel ρ' 0 ⟨blk, 0, (pre ++ rest).size⟩ (.cells elem (trGo l 0 .lf) l.length 0 false) (some (.cells (pre ++ rest) elem (0, 0))) := by
  intro ρ' hle
  have hsz : pre.size = l.length := by rw [← Array.length_toList]; exact h.length
  refine ⟨pre ++ rest, 0, 0, rfl, fun _ => ⟨rfl, rfl⟩, fun i h1 h2 => by omega, rfl, ⟨Nat.le_refl _, fun i x hx => by
    obtain ⟨u, tag⟩ := x
    rcases trGo_get _ _ _ _ _ _ hx with ⟨_, _, h3⟩ | h4
    · simp only []; omega
    · (rw [Tr.get_lf] at h4; cases h4)⟩, ?_, fun _ i _ hi => by simp only [Array.size_append, hsz]; omega⟩
  intro i v tag hi hg ht hb
  rcases trGo_get _ _ _ _ _ _ hg with ⟨_, h2, _⟩ | h4
  · obtain ⟨v', h5, h6⟩ := (h.mono hle).get h2
    refine ⟨v', ?_, h6⟩
    have h7 : pre[i]? = some v' := by simpa using h5
    show (pre ++ rest)[i - 0]? = some v'
    rw [Nat.sub_zero, Array.getElem?_append_left (Array.getElem?_eq_some_iff.1 h7).1]
    exact h7
  · (rw [Tr.get_lf] at h4; cases h4)
/-- A new row, with what the model lays behind it. -/
theorem row_run (hs : SRel B ρ st w) {el : TypeId} {l : List AV} {pre rest : Array Value} (h : VsRel ρ l pre.toList) :
    ∃ ρ', SRel B ρ' ⟨st.heap.set st.next (.cells el (trGo l 0 .lf) l.length 0 false), st.next + 1, st.lim⟩ (w.drew.alloc (.cells (pre ++ rest) el)) ∧
      Adv B ρ st w ρ' ⟨st.heap.set st.next (.cells el (trGo l 0 .lf) l.length 0 false), st.next + 1, st.lim⟩ (w.drew.alloc (.cells (pre ++ rest) el)) ∧ ρ' st.next 0 = some ⟨w.heap.size, 0, (pre ++ rest).size⟩ := by
  obtain ⟨ρ', h1, h2, h3⟩ := (hs.drew (w.drawn + 1)).alloc (r := .cells el (trGo l 0 .lf) l.length 0 false) (o := .cells (pre ++ rest) el) (n := (pre ++ rest).size) (fun ρ' hle _ => rowRec h _ ρ' hle)
  exact ⟨ρ', h1, (Adv.drew (w.drawn + 1)).trans h2, h3⟩
theorem zc_size {z : Array Value} {n : Nat} : (Builtin.zeroCells z n).size = n * z.size := by simp [Builtin.zeroCells]
theorem loadRow {w : World} {blk : Nat} {cs : Array Value} {elem : TypeId} {fr : Nat × Nat} (h : w.heap[blk]? = some (.cells cs elem fr)) (o : Nat) : ∀ (n i : Nat) (acc : Array Value), o + i + n ≤ cs.size → (loadCellsFrom ⟨blk, o, none⟩ i n acc).run P w = .ok (acc ++ cs.extract (o + i) (o + i + n)) w := by
  intro n
  induction n with
  | zero => intro i acc _; simp [loadCellsFrom]; exact Nat.min_le_left _ _
  | succ n ih =>
    intro i acc hle
    have ha : (⟨blk, o, none⟩ : Addr).add i = ⟨blk, o + i, none⟩ := addr_add ⟨blk, 0, 0⟩ o i (Nat.zero_le _)
    have hc : w.cell? ⟨blk, o + i, none⟩ = some cs[o + i] := by simp [World.cell?, h]
    simp only [loadCellsFrom, Sem.run_bind, run_load, ha, hc, Result.andThen_ok]
    rw [ih (i + 1) _ (by omega)]
    congr 1
    apply Array.ext'
    simp only [Array.toList_append, Array.toList_push, Array.toList_extract, List.extract_eq_take_drop, List.append_assoc]
    congr 1
    have e1 : o + i + (n + 1) - (o + i) = n + 1 := by omega
    have e2 : o + (i + 1) + n - (o + (i + 1)) = n := by omega
    rw [e1, e2]
    have hd : cs.toList.drop (o + i) = cs[o + i] :: cs.toList.drop (o + (i + 1)) := by
      rw [List.drop_eq_getElem_cons (by simpa using (by omega : o + i < cs.size))]
      simp [Nat.add_assoc]
    rw [hd]
    simp
theorem storeRow {blk o : Nat} {elem : TypeId} {lo hi : Nat} : ∀ (vs : List Value) (i : Nat) (w : World) (cs : Array Value), w.heap[blk]? = some (.cells cs elem (lo, hi)) → (∀ j, lo ≤ j → j < hi → cs.size ≤ j) → (∀ v ∈ vs, v.oneCell' = true) → o + i + vs.length ≤ cs.size →
    ∃ w' cs', (storeCells ⟨blk, o, none⟩ vs i).run P w = .ok () w' ∧ w'.heap[blk]? = some (.cells cs' elem (lo, hi)) ∧ cs'.size = cs.size ∧ (∀ j : Nat, cs'[j]? = if o + i ≤ j ∧ j < o + i + vs.length then vs[j - (o + i)]? else cs[j]?) ∧
      (∀ b, b ≠ blk → w'.heap[b]? = w.heap[b]?) ∧ w'.heap.size = w.heap.size ∧ w'.os = w.os ∧ w'.output = w.output := by
  intro vs
  induction vs with
  | nil =>
    intro i w cs h _ _ _
    exact ⟨w, cs, rfl, h, rfl, fun j => by rw [if_neg (by simp only [List.length_nil]; omega)], fun _ _ => rfl, rfl, rfl, rfl⟩
  | cons v vs ih =>
    intro i w cs h hfr hone hle
    simp only [List.length_cons] at hle
    have ha : (⟨blk, o, none⟩ : Addr).add i = ⟨blk, o + i, none⟩ := addr_add ⟨blk, 0, 0⟩ o i (Nat.zero_le _)
    have hin : o + i < cs.size := by omega
    have hc : w.cell? ⟨blk, o + i, none⟩ = some cs[o + i] := by simp [World.cell?, h, hin]
    have hf : w.frozen? ⟨blk, o + i, none⟩ = false := by
      simp only [World.frozen?, h]
      cases hd : decide (lo ≤ o + i) && decide (o + i < hi) with
      | false => rfl
      | true =>
        simp only [Bool.and_eq_true, decide_eq_true_eq] at hd
        have := hfr _ hd.1 hd.2
        omega
    obtain ⟨w', cs', e1, e2, e3, e4, e5, e6, e7, e8⟩ := ih (i + 1) (w.setCell ⟨blk, o + i, none⟩ v) (cs.setIfInBounds (o + i) v) (setCell_blk h) (fun j a b => by rw [Array.size_setIfInBounds]; exact hfr j a b) (fun u hu => hone u (List.mem_cons_of_mem _ hu)) (by rw [Array.size_setIfInBounds]; omega)
    refine ⟨w', cs', ?_, e2, by rw [e3, Array.size_setIfInBounds], fun j => ?_, fun b hb => (e5 b hb).trans (setCell_other hb), by rw [e6, setCell_size], e7, e8⟩
    · simp only [storeCells, Sem.run_bind, run_store _ _ _ _ _ (hone v (List.mem_cons_self ..)), ha, hc, hf, Bool.false_eq_true, if_false, Result.andThen_ok]
      exact e1
    · rw [e4]
      by_cases hj : o + (i + 1) ≤ j ∧ j < o + (i + 1) + vs.length
      · rw [if_pos hj, if_pos (by simp only [List.length_cons]; omega)]
        have : j - (o + i) = (j - (o + (i + 1))) + 1 := by omega
        rw [this, List.getElem?_cons_succ]
      · rw [if_neg hj, Array.getElem?_setIfInBounds]
        by_cases hji : o + i = j
        · subst hji
          rw [if_pos rfl, if_pos hin, if_pos (by simp only [List.length_cons]; omega)]
          simp
        · rw [if_neg hji, if_neg (by simp only [List.length_cons]; omega)]
theorem fresh_slice {ρ' : Rho} {id blk need newCap sz : Nat} {pre : Array Value} {z z' : AV} {zc : Array Value} (h : ρ' id 0 = some ⟨blk, 0, (pre ++ Builtin.zeroCells zc (newCap - need)).size⟩) (hpre : pre.size = need * sz) (hz : zc.size = sz) (hle : need ≤ newCap) :
    VRel ρ' (.slice id 0 0 need need false sz) (.slice (some ⟨blk, 0, none⟩) need newCap) := by
  refine .slice _ _ _ _ _ _ _ newCap 0 _ h (Nat.zero_le _) hle (fun e => by cases e) (Nat.le_refl _) (fun _ => rfl) (fun _ => ?_)
  simp only [Array.size_append, zc_size, hpre, hz, Nat.sub_zero, Nat.zero_add]
  have : need * sz + (newCap - need) * sz = newCap * sz := by rw [← Nat.add_mul]; congr 1; omega
  omega
theorem VsRel.ones : ∀ {l : List AV} {l' : List Value}, VsRel ρ l l' → l.all AV.one = true → ∀ v ∈ l', v.oneCell' = true
  | _, _, .nil, _, v, hv => by cases hv
  | _, _, .cons a a' l l' h hl, ha, v, hv => by
    simp only [List.all_cons, Bool.and_eq_true] at ha
    cases hv with
    | head => exact h.one ha.1
    | tail _ hv => exact VsRel.ones hl ha.2 v hv
theorem setTags_cases {tag a0 i : Nat} {new : List AV} {c : Tr ACell} {x : ACell} (h : (setTags tag new a0 c).get i = some x) : (a0 ≤ i ∧ i < a0 + new.length ∧ x.tag = tag ∧ new[i - a0]? = some x.v) ∨ (¬ (a0 ≤ i ∧ i < a0 + new.length) ∧ c.get i = some x) := by
  rw [setTags_get] at h
  split at h
  · rename_i hc
    simp only [Option.map_eq_some_iff] at h
    obtain ⟨v, hv, rfl⟩ := h
    exact .inl ⟨hc.1, hc.2, rfl, hv⟩
  · rename_i hc; exact .inr ⟨hc, h⟩
/-- The elements fit, though the abstract heap could not know. -/
theorem SRel.inPlace (hs : SRel B ρ st w) {id ep a0 top sz len n cap' off o : Nat} {el' : TypeId} {c : Tr ACell} {sh : Bool} {p : Pl} {new : List AV} {new' : Array Value} (hlk : st.isLocked id = false) (hp : ρ id ep = some p) (hg : st.heap.get id = some (.cells el' c top ep sh))
    (hb : p.base ≤ off) (ho : 0 < cap' → o = off - p.base) (hsz : 0 < cap' → off - p.base + cap' * sz ≤ p.size) (hfit : len + n ≤ cap') (hpos : 0 < cap') (hlen : new.length = n * sz) (ha0 : a0 = off + len * sz) (htop : a0 ≤ top) (hone : new.all AV.one = true) (hnew : VsRel ρ new new'.toList) :
    ∃ w', (storeCells ((⟨p.blk, o, none⟩ : Addr).add (len * sz)) new'.toList).run P w = .ok () w' ∧ SRel B (ρ.add id (ep + 1) p) ⟨st.heap.set id (.cells el' (setTags (ep + 1) new a0 c) (a0 + new.length) (ep + 1) sh), st.next, st.lim⟩ w' ∧
      Adv B ρ st w (ρ.add id (ep + 1) p) ⟨st.heap.set id (.cells el' (setTags (ep + 1) new a0 c) (a0 + new.length) (ep + 1) sh), st.next, st.lim⟩ w' := by
  obtain ⟨hB0, hbsz, hnx, r, hr, hrel⟩ := hs.mapped _ _ _ hp
  have hB : ¬ B p.blk := fun hb => by rw [hB0 hb] at hlk; cases hlk
  rw [hg] at hr; cases hr
  obtain ⟨cs, lo, hi, g1, g2, g3, g4, g5, g6, g7⟩ := hrel
  have hoo := ho hpos
  subst hoo
  have hss := hsz hpos
  have hun : ρ id (ep + 1) = none := by
    cases hx : ρ id (ep + 1) with
    | none => rfl
    | some q =>
      obtain ⟨_, _, _, r, hr, hrel⟩ := hs.mapped _ _ _ hx
      rw [hg] at hr; cases hr
      obtain ⟨_, _, _, _, _, _, _, h5, _⟩ := hrel
      have := h5.1; omega
  have hle := Rho.add_le (p := p) hun
  have hm1 : (len + n) * sz ≤ cap' * sz := Nat.mul_le_mul_right _ hfit
  have hm2 : (len + n) * sz = len * sz + n * sz := Nat.add_mul _ _ _
  have hnl : new'.toList.length = new.length := hnew.length
  obtain ⟨w', cs', e1, e2, e3, e4, e5, e6, e7, e8⟩ := storeRow (P := P) (o := off - p.base + len * sz) new'.toList 0 w cs g1 g3 (hnew.ones hone) (by rw [hnl, hlen, g4]; omega)
  have haddr : (⟨p.blk, off - p.base, none⟩ : Addr).add (len * sz) = ⟨p.blk, off - p.base + len * sz, none⟩ := addr_add ⟨p.blk, 0, 0⟩ (off - p.base) _ (Nat.zero_le _)
  have keep : ∀ i, p.base ≤ i → i < a0 → cs'[i - p.base]? = cs[i - p.base]? := fun i h1 h2 => by rw [e4, if_neg (by omega)]
  have tags : ∀ i x, (setTags (ep + 1) new a0 c).get i = some x → x.tag ≤ ep + 1 := fun i x hx => by
    rcases setTags_cases hx with ⟨_, _, h3, _⟩ | ⟨_, h4⟩
    · omega
    · have := g5.2 i x h4; omega
  refine ⟨w', by rw [haddr]; exact e1, ⟨?_, ?_, by rw [e6]; exact hs.low⟩, ⟨hle, Nat.le_refl _, fun i hi hn => ⟨fun e => ?_, ?_⟩, fun b hb' => e5 b (by rintro rfl; exact hB hb'), by rw [e6]; exact Nat.le_refl _, e7, e8, fun a _ => by
    unfold World.frozen?
    by_cases ha : a.block = p.blk
    · rw [ha, e2, g1]
    · rw [e5 _ ha]⟩⟩
  · intro id' ep' p' hp'
    unfold Rho.add at hp'
    split at hp'
    · rename_i hc
      obtain ⟨rfl, rfl⟩ := hc
      cases hp'
      refine ⟨fun hb => absurd hb hB, by rw [e6]; exact hbsz, hnx, _, Tr.get_set_same _ _ _, cs', lo, hi, e2, g2, fun i a b => by rw [e3]; exact g3 i a b, by rw [e3]; exact g4, ⟨Nat.le_refl _, tags⟩, ?_, ?_⟩
      · intro i v tag hi1 hget htag hbase
        rcases setTags_cases hget with ⟨h1, h2, _, h4⟩ | ⟨h1, h2⟩
        · obtain ⟨v', h5, h6⟩ := hnew.get h4
          refine ⟨v', ?_, h6.mono hle⟩
          rw [e4, if_pos ⟨by omega, by rw [hnl]; omega⟩]
          rw [← h5]; congr 1; omega
        · have hia : i < a0 := by omega
          obtain ⟨v', h5, h6⟩ := g6 i v tag (by omega) h2 (g5.2 i _ h2) hbase
          exact ⟨v', by rw [keep i hbase hia]; exact h5, h6.mono hle⟩
      · intro _ i hi1 hi2
        rw [hlen] at hi2
        omega
    · obtain ⟨a1, a2, a3, r', a4, a5⟩ := hs.mapped _ _ _ hp'
      refine ⟨a1, by rw [e6]; exact a2, a3, ?_⟩
      by_cases hid : id = id'
      · subst hid
        rw [hg] at a4; cases a4
        refine ⟨_, Tr.get_set_same _ _ _, ?_⟩
        obtain ⟨cs2, lo2, hi2, k1, k2, k3, k4, k5, k6, k7⟩ := a5
        have hsmall : ∀ i v tag, i < a0 + new.length → (setTags (ep + 1) new a0 c).get i = some ⟨v, tag⟩ → tag ≤ ep' → i < a0 ∧ c.get i = some ⟨v, tag⟩ := by
          intro i v tag hi1 hget htag
          rcases setTags_cases hget with ⟨_, _, h3, _⟩ | ⟨h1, h2⟩
          · have := k5.1; simp only [] at h3; omega
          · exact ⟨by omega, h2⟩
        by_cases hblk : p'.blk = p.blk
        · obtain ⟨_, hpe⟩ := hs.inj _ _ _ _ _ _ hp' hp hblk
          subst hpe
          rw [g1] at k1; cases k1
          refine ⟨cs', lo, hi, e2, g2, fun i a b => by rw [e3]; exact g3 i a b, by rw [e3]; exact g4, ⟨Nat.le_succ_of_le k5.1, tags⟩, ?_, fun e => by have := k5.1; omega⟩
          intro i v tag hi1 hget htag hbase
          obtain ⟨h1, h2⟩ := hsmall i v tag hi1 hget htag
          obtain ⟨v', h5, h6⟩ := k6 i v tag (by omega) h2 htag hbase
          exact ⟨v', by rw [keep i hbase h1]; exact h5, h6.mono hle⟩
        · refine ⟨cs2, lo2, hi2, by rw [e5 _ hblk]; exact k1, k2, k3, k4, ⟨Nat.le_succ_of_le k5.1, tags⟩, ?_, fun e => by have := k5.1; omega⟩
          intro i v tag hi1 hget htag hbase
          obtain ⟨h1, h2⟩ := hsmall i v tag hi1 hget htag
          obtain ⟨v', h5, h6⟩ := k6 i v tag (by omega) h2 htag hbase
          exact ⟨v', h5, h6.mono hle⟩
      · refine ⟨r', by rw [Tr.get_set_ne _ _ hid]; exact a4, ?_⟩
        have hblk : p'.blk ≠ p.blk := fun e => hid (hs.inj _ _ _ _ _ _ hp hp' e.symm).1
        rw [e5 _ hblk]; exact a5.mono hle
  · intro id1 ep1 p1 id2 ep2 p2 h1 h2 he
    unfold Rho.add at h1 h2
    split at h1 <;> split at h2
    · rename_i c1 c2; cases h1; cases h2; exact ⟨c1.1.trans c2.1.symm, rfl⟩
    · rename_i c1 _; cases h1; obtain ⟨x, y⟩ := hs.inj _ _ _ _ _ _ hp h2 he; exact ⟨c1.1.trans x, y⟩
    · rename_i _ c2; cases h2; obtain ⟨x, y⟩ := hs.inj _ _ _ _ _ _ h1 hp he; exact ⟨x.trans c2.1.symm, y⟩
    · exact hs.inj _ _ _ _ _ _ h1 h2 he
  · unfold Rho.add
    split
    · rename_i hc; rw [hc.1] at hn; rw [hn] at hp; cases hp
    · exact hn e
  · exact Tr.get_set_ne _ _ (fun e => by subst e; rw [hn] at hp; cases hp)
/-- The elements do not fit: a new block, of which the old epochs know nothing. -/
theorem SRel.regrow (hs : SRel B ρ st w) {id ep a0 top sz len off : Nat} {el : TypeId} {c : Tr ACell} {sh : Bool} {p : Pl} {new : List AV} {old' new' rest cs : Array Value} {fr : Nat × Nat} (hlk : st.isLocked id = false) (hp : ρ id ep = some p) (hg : st.heap.get id = some (.cells el c top ep sh))
    (hb : p.base ≤ off) (hcs : w.heap[p.blk]? = some (.cells cs el fr)) (hold : ∀ j, j < len * sz → old'[j]? = cs[off - p.base + j]?) (holds : old'.size = len * sz) (ha0 : a0 = off + len * sz) (htop : a0 ≤ top) (hnew : VsRel ρ new new'.toList) :
    SRel B (ρ.add id (ep + 1) ⟨w.heap.size, off, (old' ++ new' ++ rest).size⟩) ⟨st.heap.set id (.cells el (setTags (ep + 1) new a0 c) (a0 + new.length) (ep + 1) sh), st.next, st.lim⟩ (w.drew.alloc (.cells (old' ++ new' ++ rest) el)) ∧
      Adv B ρ st w (ρ.add id (ep + 1) ⟨w.heap.size, off, (old' ++ new' ++ rest).size⟩) ⟨st.heap.set id (.cells el (setTags (ep + 1) new a0 c) (a0 + new.length) (ep + 1) sh), st.next, st.lim⟩ (w.drew.alloc (.cells (old' ++ new' ++ rest) el)) := by
  obtain ⟨hB0, hbsz, hnx, r, hr, hrel⟩ := hs.mapped _ _ _ hp
  have hB : ¬ B p.blk := fun hb => by rw [hB0 hb] at hlk; cases hlk
  rw [hg] at hr; cases hr
  obtain ⟨cs0, lo, hi, g1, g2, g3, g4, g5, g6, g7⟩ := hrel
  rw [hcs] at g1; cases g1
  have hun : ρ id (ep + 1) = none := by
    cases hx : ρ id (ep + 1) with
    | none => rfl
    | some q =>
      obtain ⟨_, _, _, r, hr, hrel⟩ := hs.mapped _ _ _ hx
      rw [hg] at hr; cases hr
      obtain ⟨_, _, _, _, _, _, _, h5, _⟩ := hrel
      have := h5.1; omega
  have hle := Rho.add_le (p := ⟨w.heap.size, off, (old' ++ new' ++ rest).size⟩) hun
  have hnl : new'.size = new.length := by rw [← Array.length_toList]; exact hnew.length
  have tags : ∀ i x, (setTags (ep + 1) new a0 c).get i = some x → x.tag ≤ ep + 1 := fun i x hx => by
    rcases setTags_cases hx with ⟨_, _, h3, _⟩ | ⟨_, h4⟩
    · omega
    · have := g5.2 i x h4; omega
  have hheap : (w.drew.alloc (.cells (old' ++ new' ++ rest) el)).heap = w.heap.push (.cells (old' ++ new' ++ rest) el) := rfl
  refine ⟨⟨?_, ?_, fun b hb => by rw [hheap]; simp; have := hs.low b hb; omega⟩, ⟨hle, Nat.le_refl _, fun i hi hn => ⟨fun e => ?_, ?_⟩, fun b hb' => ?_, by rw [hheap]; simp, rfl, rfl, fun a _ => frozen_push (w := w.drew) (fun _ _ _ _ he => by cases he; rfl) a⟩⟩
  · intro id' ep' p' hp'
    unfold Rho.add at hp'
    split at hp'
    · rename_i hc
      obtain ⟨rfl, rfl⟩ := hc
      cases hp'
      refine ⟨fun hb => absurd (hs.low _ hb) (Nat.lt_irrefl _), by rw [hheap]; simp, hnx, _, Tr.get_set_same _ _ _, _, 0, 0, by rw [hheap]; simp, fun _ => ⟨rfl, rfl⟩, fun i h1 h2 => by omega, rfl, ⟨Nat.le_refl _, tags⟩, ?_, ?_⟩
      · intro i v tag hi1 hget htag hbase
        simp only [] at hbase
        rcases setTags_cases hget with ⟨h1, h2, _, h4⟩ | ⟨h1, h2⟩
        · obtain ⟨v', h5, h6⟩ := hnew.get h4
          refine ⟨v', ?_, h6.mono hle⟩
          have h7 : new'[i - a0]? = some v' := by simpa using h5
          show (old' ++ new' ++ rest)[i - off]? = some v'
          rw [Array.append_assoc, Array.getElem?_append_right (by omega), Array.getElem?_append_left (by omega)]
          rw [← h7]; congr 1; omega
        · have hia : i < a0 := by omega
          obtain ⟨v', h5, h6⟩ := g6 i v tag (by omega) h2 (g5.2 i _ h2) (by omega)
          refine ⟨v', ?_, h6.mono hle⟩
          show (old' ++ new' ++ rest)[i - off]? = some v'
          rw [Array.append_assoc, Array.getElem?_append_left (by omega), hold _ (by omega), ← h5]
          congr 1; omega
      · intro _ i hi1 hi2
        simp only [Array.size_append] at *
        omega
    · obtain ⟨a1, a2, a3, r', a4, a5⟩ := hs.mapped _ _ _ hp'
      have hold2 : (w.heap.push (.cells (old' ++ new' ++ rest) el))[p'.blk]? = w.heap[p'.blk]? := by rw [Array.getElem?_push, if_neg (by omega)]
      refine ⟨a1, by rw [hheap]; simp; omega, a3, ?_⟩
      by_cases hid : id = id'
      · subst hid
        rw [hg] at a4; cases a4
        refine ⟨_, Tr.get_set_same _ _ _, ?_⟩
        obtain ⟨cs2, lo2, hi2, k1, k2, k3, k4, k5, k6, k7⟩ := a5
        refine ⟨cs2, lo2, hi2, by rw [hheap, hold2]; exact k1, k2, k3, k4, ⟨Nat.le_succ_of_le k5.1, tags⟩, ?_, fun e => by have := k5.1; omega⟩
        intro i v tag hi1 hget htag hbase
        rcases setTags_cases hget with ⟨_, _, h3, _⟩ | ⟨h1, h2⟩
        · have := k5.1; simp only [] at h3; omega
        · obtain ⟨v', h5, h6⟩ := k6 i v tag (by omega) h2 htag hbase
          exact ⟨v', h5, h6.mono hle⟩
      · exact ⟨r', by rw [Tr.get_set_ne _ _ hid]; exact a4, by rw [hheap, hold2]; exact a5.mono hle⟩
  · intro id1 ep1 p1 id2 ep2 p2 h1 h2 he
    unfold Rho.add at h1 h2
    split at h1 <;> split at h2
    · rename_i c1 c2; cases h1; cases h2; exact ⟨c1.1.trans c2.1.symm, rfl⟩
    · cases h1; have := (hs.mapped _ _ _ h2).2.1; simp only [] at he; omega
    · cases h2; have := (hs.mapped _ _ _ h1).2.1; simp only [] at he; omega
    · exact hs.inj _ _ _ _ _ _ h1 h2 he
  · unfold Rho.add
    split
    · rename_i hc; rw [hc.1] at hn; rw [hn] at hp; cases hp
    · exact hn e
  · exact Tr.get_set_ne _ _ (fun e => by subst e; rw [hn] at hp; cases hp)
  · rw [hheap]; have := hs.low b hb'; rw [Array.getElem?_push, if_neg (by omega)]
theorem appendK_run (hs : SRel B ρ st w) {tys : Array TypeId} {ty : TypeId} {s x : AV} {s' x' : Value} {k : AV → St → Bool} (hS : VRel ρ s s') (hX : VRel ρ x x') (h : appendK P st tys s x k = true) :
    ∃ v st' ρ' v' w', k v st' = true ∧ (Builtin.append_ tys ty #[s', x']).run P w = .ok v' w' ∧ VRel ρ' v v' ∧ SRel B ρ' st' w' ∧ Adv B ρ st w ρ' st' w' := by
  unfold appendK at h
  split at h <;> (try (cases h; done))
  rename_i sT h0
  split at h <;> (try (cases h; done))
  rename_i el hu hi
  split at h <;> (try (cases h; done))
  rename_i sz by_ n z hsz hby hn hz
  obtain ⟨ti, z', hti, htsz, htby, htz, hzr⟩ := info_of hsz hby hz
  rw [firstK_eq] at h
  split at h <;> (try (cases h; done))
  rename_i new hnew
  split at h <;> (try (cases h; done))
  rename_i q1 q2
  have q1 := Nat.eq_of_beq_eq_true q1
  have q2 := Nat.eq_of_beq_eq_true q2
  obtain ⟨new', hnr, hnrun⟩ := first_run (P := P) hs hX hn (Nat.le_refl n) hnew
  obtain ⟨new2, hnr2, hnrun2⟩ := first_run (P := P) (hs.drew (w.drawn + 1)) hX hn (Nat.le_refl n) hnew
  have hzc : z'.cells.size = sz + 1 := by
    have := (hzr ρ).cells.length
    rw [← Array.length_toList, this, q2]
  have hln := lenOfA_run (P := P) (w := w) hX hn
  have hnsz : new2.size = n * (sz + 1) := by rw [← Array.length_toList, hnr2.length, q1]
  split at h
  · -- onto nil
    cases hS
    split at h
    · rename_i hn0
      have hn0 := Nat.eq_of_beq_eq_true hn0
      subst hn0
      exact ⟨.nils, st, ρ, _, w, h, room_run h0 hu hi hsz hln (Nat.le_refl _) hnrun rfl, .nils, hs, .refl _ _ _ _⟩
    · rename_i hn0
      split at h <;> (try (cases h; done))
      rename_i hroom
      have hroom := Nat.le_of_ble_eq_true hroom
      rw [rowK_eq] at h
      have hpos : 0 < n := Nat.pos_of_ne_zero fun e => by subst e; simp at hn0
      obtain ⟨newCap, hcap, hrun⟩ := grow_run (ty := ty) (len := 0) (cap := 0) (base := none) (old := #[]) h0 hu hi htsz hti htby htz (by omega) hln (by omega) (by simpa using hroom) rfl hnrun2
      obtain ⟨ρ', r1, r2, r3⟩ := row_run (el := el) hs (pre := #[] ++ new2) (rest := Builtin.zeroCells z'.cells (newCap - (0 + n))) (by simpa using hnr2)
      refine ⟨_, _, ρ', _, _, h, hrun, ?_, r1, r2⟩
      simp only [Nat.zero_add] at r3 ⊢
      exact fresh_slice (z := z) (z' := z) r3 (by simpa using hnsz) hzc (by omega)
  · rename_i id ep off len cap ex sz'
    obtain ⟨cap', o, p, rfl, hp, hb, hc, he, hl, ho, hsb⟩ := hS.slice_inv
    split at h <;> (try (cases h; done))
    rename_i hz'
    have hz' := Nat.eq_of_beq_eq_true hz'
    subst hz'
    rw [natK_eq] at h
    split at h
    · -- there is room for sure
      rename_i hroom
      have hroom := Nat.le_of_ble_eq_true hroom
      rw [putsK_eq] at h
      split at h <;> (try (cases h; done))
      rename_i st' hputs
      by_cases h00 : cap' = 0
      · have hn0 : n = 0 := by omega
        have hl0 : len = 0 := by omega
        subst hn0
        have : new = [] := by cases new with | nil => rfl | cons _ _ => simp at q1
        subst this
        cases hputs
        have hne : new' = #[] := by apply Array.ext'; cases hnr' : new'.toList with | nil => rfl | cons _ _ => rw [hnr'] at hnr; cases hnr
        subst hne
        exact ⟨_, st, ρ, _, w, h, room_run h0 hu hi hsz hln (by omega) hnrun rfl, .slice _ _ _ _ _ _ _ cap' o p hp hb hc he hroom ho hsb, hs, .refl _ _ _ _⟩
      · have hoo := ho (by omega)
        subst hoo
        obtain ⟨w', g1, g2, g3⟩ := SRel.puts (B := B) hp (P := P) (off + len * (sz + 1)) (by omega) new new'.toList 0 st w hs hnr hputs
        refine ⟨_, st', ρ, _, w', h, room_run h0 hu hi hsz hln (by omega) hnrun ?_, .slice _ _ _ _ _ _ _ cap' _ p hp hb hc he hroom ho hsb, g2, g3⟩
        simp only [addr_add p _ _ hb]
        exact g1
    · rename_i hroom
      split at h <;> (try (cases h; done))
      rename_i hfit
      have hfit := Nat.le_of_ble_eq_true hfit
      have hnb : cap < len + n := by
        rcases Nat.lt_or_ge cap (len + n) with h1 | h1
        · exact h1
        · rw [Nat.ble_eq_true_of_le h1] at hroom; cases hroom
      split at h
      · -- there is no room for sure
        have hex := he rfl
        subst hex
        rw [firstK_eq] at h
        split at h <;> (try (cases h; done))
        rename_i old hold
        split at h <;> (try (cases h; done))
        rename_i q3
        have q3 := Nat.eq_of_beq_eq_true q3
        rw [rowK_eq] at h
        obtain ⟨old2, hor2, horun2⟩ := first_run (P := P) (hs.drew (w.drawn + 1)) hS (m := len) rfl (Nat.le_refl len) hold
        have hosz : old2.size = len * (sz + 1) := by rw [← Array.length_toList, hor2.length, q3]
        obtain ⟨newCap, hcap, hrun⟩ := grow_run (ty := ty) h0 hu hi htsz hti htby htz (by omega) hln hnb hfit horun2 hnrun2
        obtain ⟨ρ', r1, r2, r3⟩ := row_run (el := el) hs (pre := old2 ++ new2) (rest := Builtin.zeroCells z'.cells (newCap - (len + n))) (l := old ++ new) (by rw [Array.toList_append]; exact hor2.append hnr2)
        exact ⟨_, _, ρ', _, _, h, hrun, fresh_slice (z := z) (z' := z) r3 (by rw [Array.size_append, hosz, hnsz, ← Nat.add_mul]) hzc hcap, r1, r2⟩
      · split at h <;> (try (cases h; done))
        rename_i el' c top lat sh hg
        split at h <;> (try (cases h; done))
        rename_i q4 q5 q6 q7 hlk
        have q4 := Nat.eq_of_beq_eq_true q4
        have q5 := Nat.le_of_ble_eq_true q5
        have q7 := Nat.eq_of_beq_eq_true q7
        subst q4 q7
        rw [natK_eq, setTagsK_eq, natK_eq, Tr.setK_eq] at h
        have htop : off + (len + n) * (sz + 1) = off + len * (sz + 1) + new.length := by rw [q1, Nat.add_mul]; omega
        rw [htop] at h
        by_cases hin : len + n ≤ cap'
        · obtain ⟨w', g1, g2, g3⟩ := hs.inPlace (P := P) hlk hp hg hb ho hsb hin (by omega) q1 rfl q5 q6 hnr
          refine ⟨_, _, _, _, w', h, room_run h0 hu hi hsz hln hin hnrun ?_, ?_, g2, g3⟩
          · exact g1
          · exact .slice _ _ _ _ _ _ _ cap' o p (Rho.add_same _ _ _ _) hb hin (fun e => by cases e) (Nat.le_refl _) ho hsb
        · obtain ⟨hB, hbsz, hnx, r, hr, hrel⟩ := hs.mapped _ _ _ hp
          rw [hg] at hr; cases hr
          obtain ⟨cs, lo, hi', g1, g2, g3, g4, g5, g6, g7⟩ := hrel
          have hl2 : len * (sz + 1) ≤ cap' * (sz + 1) := Nat.mul_le_mul_right _ (by omega)
          have hold : ∃ old' : Array Value, (Builtin.firstCells (sz + 1) len (.slice (some ⟨p.blk, o, none⟩) len cap')).run P w.drew = .ok old' w.drew ∧ old'.size = len * (sz + 1) ∧ ∀ j, j < len * (sz + 1) → old'[j]? = cs[off - p.base + j]? := by
            by_cases hl0 : len = 0
            · subst hl0
              exact ⟨#[], by simp only [Builtin.firstCells, Nat.zero_mul]; rfl, by simp, fun j hj => by omega⟩
            · have hoo := ho (by omega)
              subst hoo
              have hss := hsb (by omega)
              have hd : w.drew.heap[p.blk]? = some (.cells cs el' (lo, hi')) := g1
              refine ⟨cs.extract (off - p.base) (off - p.base + len * (sz + 1)), ?_, by rw [Array.size_extract]; omega, fun j hj => ?_⟩
              · have := loadRow (P := P) hd (off - p.base) (len * (sz + 1)) 0 #[] (by omega)
                simp only [Builtin.firstCells, Go.loadCells, this]
                simp
              · rw [Array.getElem?_extract, if_pos (by omega)]
          obtain ⟨old', k1, k2, k3⟩ := hold
          obtain ⟨newCap, hcap, hrun⟩ := grow_run (ty := ty) h0 hu hi htsz hti htby htz (by omega) hln (by omega) hfit k1 hnrun2
          obtain ⟨r1, r2⟩ := hs.regrow (rest := Builtin.zeroCells z'.cells (newCap - (len + n))) hlk hp hg hb g1 k3 k2 rfl q5 hnr2
          refine ⟨_, _, _, _, _, h, hrun, ?_, r1, r2⟩
          refine .slice _ _ _ _ _ _ _ newCap 0 _ (Rho.add_same _ _ _ _) (Nat.le_refl _) hcap (fun e => by cases e) (Nat.le_refl _) (fun _ => by simp) (fun _ => ?_)
          simp only [Array.size_append, zc_size, k2, hnsz, hzc, Nat.sub_self, Nat.zero_add]
          have e1 : len * (sz + 1) + n * (sz + 1) + (newCap - (len + n)) * (sz + 1) = newCap * (sz + 1) := by rw [← Nat.add_mul, ← Nat.add_mul]; congr 1; omega
          omega
  · cases h
end
end Go.Eng
