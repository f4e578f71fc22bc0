/- The hooks for operators and for NoEscape. -/
import Derived.Test.YtlfmgfgcaepmjaaGreatF1
import Derived.Test.YtlfmgfgcaepmjaaGreatD5
import Derived.Laws.Externs
import Derived.Lib.Builder
set_option linter.unusedSimpArgs false
set_option linter.unusedVariables false
set_option linter.unusedSectionVars false
set_option linter.unusedSimpArgs false
set_option linter.unusedVariables false
set_option linter.unusedSectionVars false
namespace Go.Proofs.YtlfmgfgcaepmjaaGreat
open Go.RowKit Go.Eng
set_option linter.unusedVariables false
set_option linter.unusedSectionVars false
set_option maxRecDepth 100000
variable [Sym] [Hooks]
/-- operators (unsigned): of its map '+' alone is known. -/
noncomputable def hookOps : Hook := ⟨fun _ args st k _ => match args with
  | [.ptr id ep off, .bool false] => newK st (recOf 144 [.ptr id ep off]) fun b st => newK st (recOf 3 [.int .i64 5]) fun c st => newK st (.bag [⟨.str [43], .fn 648 [] [.ptr b 0 0, .ptr c 0 0], 0⟩]) fun m st => k (.map m) st
  | _ => false⟩
/-- copyCheck: a builder notes where it lies. -/
noncomputable def hookCheck : Hook := ⟨fun _ args st k _ => match args with
  | [.ptr id ep 0] => (match st.heap.get id with
    | some (.cells elem _ _ _ false) => (match Nat.beq elem 600, cell st id ep 0, cell st id ep 1 with
      | true, some .nilp, some _ => putsK st id ep 0 [.ptr id ep 0] false fun st => k (.tup []) st
      | true, some (.ptr i e 0), some _ => (match Nat.beq i id && Nat.beq e ep with | true => k (.tup []) st | false => false)
      | _, _, _ => false)
    | _ => false)
  | _ => false⟩
theorem only_low {w w' : World} (h : Low w.heap.size w w') : Only w w' :=
  ⟨h.block, h.size, h.os, h.out, fun a ha => by unfold World.frozen?; rw [h.block _ ha]⟩
theorem low_only {w w' : World} (h : Only w w') : Low w.heap.size w w' := ⟨h.os, h.out, h.size, h.low⟩
theorem hookOps_ok : HookOK Tryz.prog 576 hookOps := by
  intro call hcall B args st k kp hk ρ w args' hs ha
  refine ⟨⟨Tryz.f576, _, Tryz.func576, rfl, by decide⟩, ?_⟩
  unfold hookOps at hk
  simp only [] at hk
  split at hk <;> (try (cases hk; done))
  rename_i id ep off
  rw [newK_eq, newK_eq, newK_eq] at hk
  obtain ⟨al⟩ := args'
  cases ha with
  | cons _ v1 _ _ h1 h2 =>
  cases h2 with
  | cons _ _ _ _ h2 h3 =>
  cases h3
  cases h2
  obtain ⟨pv, rfl, _, _⟩ := h1.ptr_inv
  have h1' := h1
  refine (operators_run _ w).mono ?_
  rintro e w' ⟨m, c, es, clock, rfl, hm, hc, hL, hbx, hcd, hmp, hkeys, hplus⟩
  have hOn := only_low hL
  have hs1 := hOn.rel hs
  have hold : ∀ id ep q, ρ id ep = some q → q.blk < w.heap.size := fun id ep q hq => (hs.mapped _ _ _ hq).2.1
  have hBl : ∀ b, B b → b < w.heap.size := hs.low
  obtain ⟨b0, hb0⟩ : ∃ b0, b0 = w.heap.size := ⟨_, rfl⟩
  rw [← hb0] at hbx hm hc hkeys
  have hmc : c ≠ m := by rintro rfl; rw [hcd] at hmp; cases hmp
  obtain ⟨s2, d2⟩ := hs1.adopt (p := ⟨b0, 0, 1⟩) (r := recOf 144 [.ptr id ep off]) (fun hb => by have := hBl b0 hb; omega) (heap_lt hbx) (fun id ep q hq e => by have := hold id ep q hq; have e : q.blk = b0 := e; omega)
    (by exact recOf_rel (cs := #[_]) hbx (.cons _ _ _ _ (h1.mono (Rho.add_le (hs1.none_of_ge (Nat.le_refl _) 0))) .nil))
  obtain ⟨ρ2, hρ2⟩ : ∃ ρ2, ρ2 = ρ.add st.next 0 ⟨b0, 0, 1⟩ := ⟨_, rfl⟩
  rw [← hρ2] at s2 d2
  have n1 : ρ2 st.next 0 = some ⟨b0, 0, 1⟩ := by rw [hρ2]; exact Rho.add_same _ _ _ _
  have hold2 : ∀ id ep q, ρ2 id ep = some q → q.blk ≤ b0 := fun id ep q hq => by
    rw [hρ2] at hq
    unfold Rho.add at hq
    split at hq
    · cases hq; exact Nat.le_refl _
    · have := hold id ep q hq; omega
  obtain ⟨s3, d3⟩ := s2.adopt (p := ⟨c, 0, 1⟩) (r := recOf 3 [.int .i64 5]) (fun hb => by have := hBl c hb; omega) (heap_lt hcd) (fun id ep q hq e => by have := hold2 id ep q hq; have e : q.blk = c := e; omega)
    (by exact recOf_rel (cs := #[.int .i64 5]) hcd (.cons _ _ _ _ (.int _ _) .nil))
  obtain ⟨ρ3, hρ3⟩ : ∃ ρ3, ρ3 = ρ2.add (st.next + 1) 0 ⟨c, 0, 1⟩ := ⟨_, rfl⟩
  change SRel B (ρ2.add (st.next + 1) 0 ⟨c, 0, 1⟩) _ w' at s3
  change Adv B ρ2 _ w' (ρ2.add (st.next + 1) 0 ⟨c, 0, 1⟩) _ w' at d3
  rw [← hρ3] at s3 d3
  have n2 : ρ3 (st.next + 1) 0 = some ⟨c, 0, 1⟩ := by rw [hρ3]; exact Rho.add_same _ _ _ _
  have n1' : ρ3 st.next 0 = some ⟨b0, 0, 1⟩ := d3.le _ _ _ n1
  have hold3 : ∀ id ep q, ρ3 id ep = some q → q.blk ≠ m := fun id ep q hq => by
    rw [hρ3] at hq
    unfold Rho.add at hq
    split at hq
    · cases hq; exact hmc
    · have := hold2 id ep q hq; omega
  obtain ⟨s4, d4⟩ := s3.adopt (p := ⟨m, 0, 0⟩) (r := .bag [⟨.str [43], .fn 648 [] [.ptr st.next 0 0, .ptr (st.next + 1) 0 0], 0⟩]) (fun hb => by have := hBl m hb; omega) (heap_lt hmp) (fun id ep q hq e => hold3 id ep q hq e) (by
    refine ⟨rfl, es, clock, hmp, fun e' he' => ?_, fun e he => ?_⟩
    · obtain ⟨k, hk, _⟩ := hkeys e' he'
      exact ⟨k, hk⟩
    · rw [List.mem_singleton] at he
      subst he
      refine ⟨[43], rfl, ?_, fun e' he' b hb hbs => ?_⟩
      · obtain ⟨e', he', hk⟩ := hplus
        exact ⟨e', he', _, hk, rfl⟩
      · obtain ⟨kk, hkk, hv⟩ := hkeys e' he'
        rw [hkk] at hb
        have hkb : kk = b := by cases hb; rfl
        rw [← hkb] at hbs
        have hk2 : kk = (⟨#[43]⟩ : ByteArray) := bytes_inj (hbs.trans (show [43] = (#[43] : Array UInt8).toList.map UInt8.toNat from rfl))
        rw [hv hk2]
        have hle : ρ3.le (ρ3.add (st.next + 1 + 1) 0 ⟨m, 0, 0⟩) := Rho.add_le (s3.none_of_ge (Nat.le_refl _) 0)
        exact .fn _ _ _ #[] #[_, _] .nil (.cons _ _ _ _ (.ptr _ _ _ ⟨b0, 0, 1⟩ (hle _ _ _ n1') (Nat.le_refl _)) (.cons _ _ _ _ (.ptr _ _ _ ⟨c, 0, 1⟩ (hle _ _ _ n2) (Nat.le_refl _)) .nil)))
  refine .inl ⟨_, _, ρ3.add (st.next + 1 + 1) 0 ⟨m, 0, 0⟩, _, rfl, hk, s4, .map _ ⟨m, 0, 0⟩ (Rho.add_same _ _ _ _), ?_⟩
  exact (((hOn.adv hs).trans d2).trans d3).trans d4
theorem size600 : (Tryz.prog.info? 600).map (·.size) = some 2 := by kernel_rfl
set_option maxHeartbeats 1000000 in
theorem check_used (b : Nat) (w : World) (h0 : w.cell? ⟨b, 0, none⟩ = some (.pointer (some ⟨b, 0, none⟩))) :
    Calls Tryz.prog 610 #[.pointer (some ⟨b, 0, none⟩)] w fun e w' => e = .returned (.tuple #[]) ∧ w' = w := by
  obtain ⟨j, hj, _⟩ := Option.map_eq_some_iff.1 size600
  go_enter Tryz.func610, Tryz.ntmps610
  go_wp2
  rw [Lib.run_neq_ptr_same w _ Tryz.underlying598 hj]
  go_wp2
  go_end0
  exact ⟨rfl, rfl⟩
set_option maxHeartbeats 1000000 in
theorem check_fresh (b : Nat) (w : World) (cs : Array Value) (hh : w.heap[b]? = some (.cells cs 600 (0, 0))) (hc0 : cs[0]? = some (.pointer none)) (h2 : 1 < cs.size) :
    Calls Tryz.prog 610 #[.pointer (some ⟨b, 0, none⟩)] w fun e w' => e = .returned (.tuple #[]) ∧ w' = w.setCell ⟨b, 0, none⟩ (.pointer (some ⟨b, 0, none⟩)) := by
  obtain ⟨j, hj, hjs⟩ := Option.map_eq_some_iff.1 size600
  have h0 : w.cell? ⟨b, 0, none⟩ = some (.pointer none) := (cell_of hh).trans hc0
  have hfz : w.frozen? ⟨b, 0, none⟩ = false := free_of hh
  have hsh : w.shape? b = some (600, cs.size) := by simp [World.shape?, hh]
  have hlies : liesAt Tryz.prog Tryz.prog.depth 600 (cs.size / Tryz.prog.cellsOf 600) 0 600 1 = true := headLies (cellsOf_sz size600) h2
  go_enter Tryz.func610, Tryz.ntmps610
  go_wp2
  rw [Lib.run_to_unsafe w ⟨b, 0, none⟩ Tryz.underlying598 Tryz.underlying718 hj (by rw [hjs]; decide) hsh (by show 0 < cs.size; omega)]
  simp only [Result.andThen]
  rw [Oper.upon_value]
  go_wp2
  rw [run_callFunc_extern Tryz.func662 (by kernel_rfl) (by kernel_rfl) (by kernel_rfl) (e := Extern.AbiNoEscape.same) (by kernel_rfl)]
  rw [Lib.run_noEscape]
  simp only [Result.andThen]
  rw [Oper.upon_value]
  go_wp2
  rw [Lib.run_from_unsafe w ⟨b, 0, none⟩ Tryz.underlying718 Tryz.underlying598 hj hsh hlies]
  simp only [Result.andThen]
  rw [Oper.upon_value]
  go_wp2
  go_end0
  exact ⟨rfl, rfl⟩
theorem hookCheck_ok : HookOK Tryz.prog 610 hookCheck := by
  intro call hcall B args st k kp hk ρ w args' hs ha
  refine ⟨⟨Tryz.f610, _, Tryz.func610, rfl, by decide⟩, ?_⟩
  unfold hookCheck at hk
  simp only [] at hk
  split at hk <;> (try (cases hk; done))
  rename_i id ep
  obtain ⟨al⟩ := args'
  cases ha with
  | cons _ v1 _ _ h1 h2 =>
  cases h2
  obtain ⟨p, rfl, hp, hb⟩ := h1.ptr_inv
  have hbase : p.base = 0 := by omega
  have hz : (0 : Nat) - p.base = 0 := by omega
  rw [hz]
  split at hk <;> (try (cases hk; done))
  rename_i elem c top lat hg
  split at hk <;> (try (cases hk; done))
  · rename_i v2 he hc0 hc1
    have he := Nat.eq_of_beq_eq_true he
    subst he
    rw [putsK_eq] at hk
    split at hk <;> (try (cases hk; done))
    rename_i st' hst
    simp only [puts_cons] at hst
    obtain ⟨s1, e1, hst⟩ := Option.bind_eq_some_iff.1 hst
    have : s1 = st' := by simpa [puts, putsK] using hst
    subst this
    obtain ⟨v0, q1, q2⟩ := hs.cell hp hb hc0
    cases q2
    obtain ⟨elem', _, _, _, _, cs, lo, hi, g1, g2, g3⟩ := cell_in hs hp (by omega) hc1
    rw [hg] at g1
    cases g1
    obtain ⟨_, _, _, r, hr, hrel⟩ := hs.mapped _ _ _ hp
    rw [hg] at hr
    cases hr
    obtain ⟨cs', lo', hi', f1, f2, _⟩ := hrel
    rw [g2] at f1
    cases f1
    obtain ⟨rfl, rfl⟩ := f2 rfl
    rw [hz, cell_of g2] at q1
    refine (check_fresh p.blk w cs g2 q1 (by omega)).mono ?_
    rintro e w' ⟨rfl, rfl⟩
    obtain ⟨_, _, r1, d1⟩ := hs.put hp hb (.ptr id ep 0 p hp hb) e1
    rw [hz] at r1 d1
    exact .inl ⟨_, s1, ρ, _, rfl, hk, r1, .tup _ _ .nil, d1⟩
  · rename_i i e v2 he hc0 hc1
    split at hk <;> (try (cases hk; done))
    rename_i hie
    rw [Bool.and_eq_true] at hie
    have h3 := Nat.eq_of_beq_eq_true hie.1
    have h4 := Nat.eq_of_beq_eq_true hie.2
    subst h3 h4
    obtain ⟨v0, q1, q2⟩ := hs.cell hp hb hc0
    obtain ⟨p', rfl, hp', hb'⟩ := q2.ptr_inv
    rw [hp] at hp'
    cases hp'
    rw [hz] at q1
    refine (check_used p.blk w q1).mono ?_
    rintro e w' ⟨rfl, rfl⟩
    exact .inl ⟨_, st, ρ, _, rfl, hk, hs, .tup _ _ .nil, .refl _ _ _ _⟩
end Go.Proofs.YtlfmgfgcaepmjaaGreat
