/- Calls on fixed data with flat results; formatOf and Size of every byte. -/
import Derived.Test.YtjkaoejcdboaiaaGreatE5
import Derived.Test.YtjkaoejcdboaiaaGreatK3
import Derived.Shelf.SlMaps.Clone
import Derived.WalkSpells
import Derived.BigQuiet
import Derived.IntWalk
import Derived.Lib.Hide
import Derived.StillTailTactics
import Derived.Deep.RegionHeld3
import Derived.Deep.DeepCutAuto
import Derived.Deep.RegionLaw
import Derived.KernelRfl
set_option linter.unusedSimpArgs false
set_option linter.unusedVariables false
set_option linter.unusedSectionVars false
/- The hook for guard. -/
set_option linter.unusedSectionVars false
namespace Go.Proofs.YtjkaoejcdboaiaaGreat
open Go.RowKit Go.Eng
variable [Sym] [Hooks]
/-- The record of a failure's variable. -/
noncomputable def fRec : Rec := .cells 115 (trGo [.int .i64 0, .int .i64 0, .int .u16 0] 0 .lf) 3 0 false
noncomputable def isF (st : St) (f : Nat) : Bool := match st.heap.get f with | some (.cells e _ _ _ false) => Nat.beq e 115 | _ => false
noncomputable def endF (f : Nat) (a b n : Int) (k : KR) (st : St) : Bool := isF st f && putsK st f 0 0 [.int .i64 a, .int .i64 b, .int .u16 n] false fun st => k (.agg [.int .i64 a, .int .i64 b, .int .u16 n]) st
noncomputable def hookGuard : Hook := ⟨fun call args st k _ => match args with
  | [.fn g first cap] => newK st fRec fun f st => call g (first ++ cap) st (fun _ st => endF f 0 0 0 k st)
      (fun v st => match v with
        | .iface t (.agg [.int .i64 a, .int .i64 b, .int .u16 n]) => Nat.beq t 115 && endF f a b n k st
        | _ => false)
  | _ => false⟩
theorem only_put3 {u : World} (ka ba na : Int) : Only u (put3 (u.alloc fz) u.heap.size ka ba na) := by
  have hlow : ∀ b, b < u.heap.size → (put3 (u.alloc fz) u.heap.size ka ba na).heap[b]? = u.heap[b]? := fun b hb => by
    unfold put3
    rw [Go.Proofs.YtjkaoejcdboaiaaGreat.set_other (by omega), Go.Proofs.YtjkaoejcdboaiaaGreat.set_other (by omega), Go.Proofs.YtjkaoejcdboaiaaGreat.set_other (by omega)]
    show (u.heap.push _)[b]? = _
    rw [Array.getElem?_push, if_neg (by omega)]
  have hnew : (put3 (u.alloc fz) u.heap.size ka ba na).heap[u.heap.size]? = some (.cells #[.int .i64 ka, .int .i64 ba, .int .u16 na] 115) := set_blk (set_blk (set_blk (heap_new u _)))
  have hsz : (put3 (u.alloc fz) u.heap.size ka ba na).heap.size = u.heap.size + 1 := by
    unfold put3
    rw [setCell_size, setCell_size, setCell_size]
    show (u.heap.push _).size = _
    simp
  refine ⟨hlow, by omega, rfl, rfl, fun a => ?_⟩
  unfold World.frozen?
  rcases Nat.lt_trichotomy a.block u.heap.size with h | h | h
  · rw [hlow _ h]
  · rw [h, hnew]
    simp
  · have h1 : u.heap[a.block]? = none := Array.getElem?_eq_none (by omega)
    have h2 : (put3 (u.alloc fz) u.heap.size ka ba na).heap[a.block]? = none := Array.getElem?_eq_none (by omega)
    rw [h1, h2]
theorem Only.refl (u : World) : Only u u := ⟨fun _ _ => rfl, Nat.le_refl _, rfl, rfl, fun _ => rfl⟩
theorem endF_ok {B : Nat → Prop} {ρ : Rho} {st : St} {u : World} {f S : Nat} {a b n : Int} {k : KR} (hs : SRel B ρ st u) (hp : ρ f 0 = some ⟨S, 0, 3⟩) (h : endF f a b n k st = true) :
    ∃ x y z, u.heap[S]? = some (.cells #[x, y, z] 115) ∧ ∀ u2, Only u u2 → ∃ st', k (.agg [.int .i64 a, .int .i64 b, .int .u16 n]) st' = true ∧ SRel B ρ st' (put3 u2 S a b n) ∧ Adv B ρ st u ρ st' (put3 u2 S a b n) := by
  unfold endF at h
  rw [Bool.and_eq_true, putsK_eq] at h
  obtain ⟨h1, h2⟩ := h
  split at h2 <;> (try (cases h2; done))
  rename_i st' hst
  obtain ⟨_, _, _, r, hr, hrel⟩ := hs.mapped _ _ _ hp
  unfold isF at h1
  rw [hr] at h1
  split at h1 <;> (try (cases h1; done))
  rename_i e c top lat heq
  cases heq
  have he : e = 115 := Nat.eq_of_beq_eq_true h1
  subst he
  obtain ⟨cs, lo, hi, g1, g2, _, g4, _⟩ := hrel
  obtain ⟨rfl, rfl⟩ := g2 rfl
  have hcs : ∃ x y z, cs = #[x, y, z] := by
    have h3 : cs.toList.length = 3 := by simpa using g4
    match hl : cs.toList, h3 with
    | [x, y, z], _ => exact ⟨x, y, z, by rw [← Array.toArray_toList (xs := cs), hl]⟩
  obtain ⟨x, y, z, rfl⟩ := hcs
  refine ⟨x, y, z, g1, fun u2 ho => ?_⟩
  simp only [puts_cons] at hst
  obtain ⟨s1, e1, hst⟩ := Option.bind_eq_some_iff.1 hst
  obtain ⟨s2, e2, hst⟩ := Option.bind_eq_some_iff.1 hst
  obtain ⟨s3, e3, hst⟩ := Option.bind_eq_some_iff.1 hst
  have : s3 = st' := by simpa [puts, putsK] using hst
  subst this
  obtain ⟨_, _, r1, d1⟩ := (ho.rel hs).put hp (Nat.zero_le 0) (.int .i64 a) e1
  obtain ⟨_, _, r2, d2⟩ := r1.put hp (Nat.zero_le (0 + 1)) (.int .i64 b) e2
  obtain ⟨_, _, r3, d3⟩ := r2.put hp (Nat.zero_le (0 + 1 + 1)) (.int .u16 n) e3
  exact ⟨s3, h2, r3, (((ho.adv hs).trans d1).trans d2).trans d3⟩
theorem hookGuard_ok : HookOK Tryz.prog 26 hookGuard := by
  intro call hcall B args st k kp h ρ w args' hs ha
  revert ha
  simp only [hookGuard] at h
  split at h <;> (try (cases h; done))
  rename_i g first cap
  intro ha
  rw [newK_eq] at h
  have hal : args'.toList.length = 1 := ha.length
  obtain ⟨v0, hv0⟩ : ∃ v0, args' = #[v0] := by
    match hl : args'.toList, hal with
    | [v0], _ => exact ⟨v0, by rw [← Array.toArray_toList (xs := args'), hl]⟩
  subst hv0
  cases ha with
  | cons _ _ _ _ hx _ =>
    cases hx with
    | fn _ _ _ first' cap' f1 f2 =>
      refine ⟨⟨Tryz.f26, _, Tryz.func26, rfl, by decide⟩, ?_⟩
      have hz : VsRel ρ [.int .i64 0, .int .i64 0, .int .u16 0] (#[.int .i64 0, .int .i64 0, .int .u16 0] : Array Value).toList := .cons _ _ _ _ (.int _ _) (.cons _ _ _ _ (.int _ _) (.cons _ _ _ _ (.int _ _) .nil))
      obtain ⟨ρ1, s1, d1, m1⟩ := hs.alloc (r := fRec) (o := fz) (n := 3) (fun ρ' hle _ => cellsRec hz w.heap.size ρ' hle)
      have hav : VsRel ρ1 (first ++ cap) (first' ++ cap').toList := by
        rw [Array.toList_append]; exact (f1.mono d1.le).append (f2.mono d1.le)
      obtain ⟨⟨fn, c, c1, c2, c3⟩, hcl⟩ := hcall B g _ _ _ _ h ρ1 (w.alloc fz) (first' ++ cap') s1 hav
      refine guard_run (fun args u => callFunc_run c1 c2 c3 args u) w _ (hcl.mono ?_)
      rintro e u (⟨v, st', ρ', v', rfl, q1, q2, q3, q4⟩ | ⟨v, st', ρ', v', rfl, q1, q2, q3, q4⟩)
      · obtain ⟨x, y, z, e1, e2⟩ := endF_ok q2 (q4.le _ _ _ m1) q1
        refine ⟨x, y, z, e1, .inl ⟨v', rfl, ?_⟩⟩
        obtain ⟨st2, e3, e4, e5⟩ := e2 u (Only.refl u)
        exact .inl ⟨_, st2, ρ', _, rfl, e3, e4, .agg _ _ (.cons _ _ _ _ (.int _ _) (.cons _ _ _ _ (.int _ _) (.cons _ _ _ _ (.int _ _) .nil))), (d1.trans q4).trans e5⟩
      · dsimp only at q1
        split at q1 <;> (try (cases q1; done))
        rename_i t a b n
        rw [Bool.and_eq_true] at q1
        have ht : t = 115 := Nat.eq_of_beq_eq_true q1.1
        subst ht
        obtain ⟨x, y, z, e1, e2⟩ := endF_ok q2 (q4.le _ _ _ m1) q1.2
        cases q3 with
        | iface _ _ v1 hv1 =>
          have hv1' : v1 = fv a b n := by
            cases hv1 with
            | agg _ l' hl =>
              cases l' with
              | mk l =>
                simp only at hl
                cases hl with
                | cons _ _ _ _ ha hl =>
                  cases hl with
                  | cons _ _ _ _ hb hl =>
                    cases hl with
                    | cons _ _ _ _ hc hl => cases hl; cases ha; cases hb; cases hc; rfl
          subst hv1'
          refine ⟨x, y, z, e1, .inr ⟨a, b, n, rfl, ?_⟩⟩
          obtain ⟨st2, e3, e4, e5⟩ := e2 _ (only_put3 a b n)
          exact .inl ⟨_, st2, ρ', _, rfl, e3, e4, .agg _ _ (.cons _ _ _ _ (.int _ _) (.cons _ _ _ _ (.int _ _) (.cons _ _ _ _ (.int _ _) .nil))), (d1.trans q4).trans e5⟩
end Go.Proofs.YtjkaoejcdboaiaaGreat
/- maps.Clone: its contracts, and its hook. -/
set_option linter.unusedSectionVars false
namespace Go.Proofs.YtjkaoejcdboaiaaGreat
open Go.RowKit Go.Eng
set_option maxRecDepth 100000 in
set_option maxHeartbeats 2000000 in
theorem clone20 (b : Nat) (es : Array MapEntry) (clock : Nat) (w : World) (hb : w.heap[b]? = some (.map es clock)) :
    Calls Tryz.prog 20 #[.map (some b)] w fun e w' => e = .returned (.map (some w.heap.size)) ∧ w' = w.alloc (.map es clock) := by
  have hu : Tryz.prog.underlying 76 = some (.map 3 3) := by kernel_rfl
  have hq := fun w => run_eql_map_nil_sl (P := Tryz.prog) w 76 _ _ (some b) hu
  go_enter Tryz.func20, Tryz.ntmps20
  go_wp2
  rw [run_callFunc_extern Tryz.func41 (by kernel_rfl) (by kernel_rfl) (by kernel_rfl) (e := Extern.MapsClone.clone) (by kernel_rfl), run_maps_clone_sl w 76 hb]
  simp only [Result.andThen]
  rw [Oper.upon_value]
  go_wp2
  rw [run_typeAssert_map_sl _ 76 20 _ _ _ hu]
  simp only [Result.andThen]
  rw [Oper.upon_value]
  go_wp2
  go_ret
  exact ⟨rfl, rfl⟩
set_option maxRecDepth 100000 in
set_option maxHeartbeats 2000000 in
theorem clone105 (b : Nat) (es : Array MapEntry) (clock : Nat) (w : World) (hb : w.heap[b]? = some (.map es clock)) :
    Calls Tryz.prog 105 #[.map (some b)] w fun e w' => e = .returned (.map (some w.heap.size)) ∧ w' = w.alloc (.map es clock) := by
  have hu : Tryz.prog.underlying 153 = some (.map 3 4) := by kernel_rfl
  have hq := fun w => run_eql_map_nil_sl (P := Tryz.prog) w 153 _ _ (some b) hu
  go_enter Tryz.func105, Tryz.ntmps105
  go_wp2
  rw [run_callFunc_extern Tryz.func41 (by kernel_rfl) (by kernel_rfl) (by kernel_rfl) (e := Extern.MapsClone.clone) (by kernel_rfl), run_maps_clone_sl w 153 hb]
  simp only [Result.andThen]
  rw [Oper.upon_value]
  go_wp2
  rw [run_typeAssert_map_sl _ 153 20 _ _ _ hu]
  simp only [Result.andThen]
  rw [Oper.upon_value]
  go_wp2
  go_ret
  exact ⟨rfl, rfl⟩
set_option maxRecDepth 100000 in
set_option maxHeartbeats 2000000 in
theorem clone20_nil (w : World) : Calls Tryz.prog 20 #[.map none] w fun e w' => e = .returned (.map none) ∧ w' = w := by
  have hu : Tryz.prog.underlying 76 = some (.map 3 3) := by kernel_rfl
  have hq := fun w => run_eql_map_nil_sl (P := Tryz.prog) w 76 _ _ none hu
  go_enter Tryz.func20, Tryz.ntmps20
  go_wp2
  go_ret
  exact ⟨rfl, rfl⟩
set_option maxRecDepth 100000 in
set_option maxHeartbeats 2000000 in
theorem clone105_nil (w : World) : Calls Tryz.prog 105 #[.map none] w fun e w' => e = .returned (.map none) ∧ w' = w := by
  have hu : Tryz.prog.underlying 153 = some (.map 3 4) := by kernel_rfl
  have hq := fun w => run_eql_map_nil_sl (P := Tryz.prog) w 153 _ _ none hu
  go_enter Tryz.func105, Tryz.ntmps105
  go_wp2
  go_ret
  exact ⟨rfl, rfl⟩
variable [Sym] [Hooks]
noncomputable def hookClone : Hook := ⟨fun _ args st k _ => match args with
  | [.nilm] => k .nilm st
  | [.map id] => (match st.heap.get id with
    | some (.map es c) => newK st (.map es c) fun id st => k (.map id) st
    | _ => false)
  | _ => false⟩
theorem hookClone_ok {f : FuncId} (hc : Callable Tryz.prog f) (h0 : ∀ w, Calls Tryz.prog f #[.map none] w fun e w' => e = .returned (.map none) ∧ w' = w)
    (h1 : ∀ (b : Nat) (es : Array MapEntry) (clock : Nat) (w : World), w.heap[b]? = some (.map es clock) → Calls Tryz.prog f #[.map (some b)] w fun e w' => e = .returned (.map (some w.heap.size)) ∧ w' = w.alloc (.map es clock)) : HookOK Tryz.prog f hookClone := by
  intro call _ B args st k kp h ρ w args' hs ha
  refine ⟨hc, ?_⟩
  revert ha
  simp only [hookClone] at h
  split at h <;> (try (cases h; done))
  · intro ha
    obtain ⟨v0, hv0⟩ : ∃ v0, args' = #[v0] := by
      match hl : args'.toList, (show args'.toList.length = 1 from ha.length) with
      | [v0], _ => exact ⟨v0, by rw [← Array.toArray_toList (xs := args'), hl]⟩
    subst hv0
    cases ha with
    | cons _ _ _ _ hx _ =>
      cases hx
      refine (h0 w).mono ?_
      rintro e w' ⟨rfl, rfl⟩
      exact .inl ⟨_, st, ρ, _, rfl, h, hs, .nilm, .refl _ _ _ _⟩
  · rename_i id
    intro ha
    split at h <;> (try (cases h; done))
    rename_i es c hg
    rw [newK_eq] at h
    obtain ⟨v0, hv0⟩ : ∃ v0, args' = #[v0] := by
      match hl : args'.toList, (show args'.toList.length = 1 from ha.length) with
      | [v0], _ => exact ⟨v0, by rw [← Array.toArray_toList (xs := args'), hl]⟩
    subst hv0
    cases ha with
    | cons _ _ _ _ hx _ =>
      cases hx with
      | map _ p hp =>
        obtain ⟨es', he, hrl⟩ := map_at hs hp hg
        refine (h1 _ es' c w he).mono ?_
        rintro e w' ⟨rfl, rfl⟩
        obtain ⟨ρ2, s1, s2, s3⟩ := hs.alloc (r := .map es c) (o := .map es' c) (n := 0) (fun ρ' hle _ => ⟨rfl, es', rfl, hrl.mono hle⟩)
        exact .inl ⟨_, _, ρ2, _, rfl, h, s1, .map _ _ s3, s2⟩
theorem hook20_ok : HookOK Tryz.prog 20 hookClone := hookClone_ok ⟨Tryz.f20, _, Tryz.func20, rfl, by decide⟩ clone20_nil clone20
theorem hook105_ok : HookOK Tryz.prog 105 hookClone := hookClone_ok ⟨Tryz.f105, _, Tryz.func105, rfl, by decide⟩ clone105_nil clone105
end Go.Proofs.YtjkaoejcdboaiaaGreat
/- Small functions of isa: width, extend, formats, formatOf. -/
namespace Go.Proofs.YtjkaoejcdboaiaaGreat
open Go.RowKit
set_option linter.unusedVariables false
set_option linter.unusedSectionVars false
set_option maxRecDepth 100000
theorem follows : Tryz.prog.follows .mixedOrders = true := by kernel_rfl
/-- How many bytes a field has. -/
def widthP (f : Int) : Nat := if f = 0 then 0 else if f = 6 ∨ f = 7 then 2 else 1
theorem width_any (f : Int) (w : World) : Calls Tryz.prog 92 #[.int .i64 f] w (fun e w' => e = .returned (.int .i64 (widthP f)) ∧ w' = w) := by
  by_cases h0 : f = 0
  · subst h0
    go_enter Tryz.func92, Tryz.ntmps92
    go_wp2
    go_ret
    exact ⟨rfl, rfl⟩
  · by_cases h6 : f = 6
    · subst h6
      go_enter Tryz.func92, Tryz.ntmps92
      go_wp2
      go_ret
      exact ⟨rfl, rfl⟩
    · by_cases h7 : f = 7
      · subst h7
        go_enter Tryz.func92, Tryz.ntmps92
        go_wp2
        go_ret
        exact ⟨rfl, rfl⟩
      · have hw : widthP f = 1 := by unfold widthP; rw [if_neg h0, if_neg (by omega)]
        rw [hw]
        have e0 : (f == 0) = false := by simpa using h0
        have e6 : (f == 6) = false := by simpa using h6
        have e7 : (f == 7) = false := by simpa using h7
        go_enter Tryz.func92, Tryz.ntmps92
        go_wp2
        go_ret
        exact ⟨rfl, rfl⟩
/-- A byte, extended with its sign. -/
def extP (c : Nat) : Int := IntKind.u16.wrap (IntKind.i16.wrap (IntKind.i8.wrap c))
theorem extend_any (c : Nat) (w : World) : Calls Tryz.prog 95 #[.int .u8 c] w (fun e w' => e = .returned (.int .u16 (extP c)) ∧ w' = w) := by
  go_enter Tryz.func95, Tryz.ntmps95
  go_wp2
  go_ret
  exact ⟨rfl, rfl⟩
end Go.Proofs.YtjkaoejcdboaiaaGreat
namespace Go.Proofs.YtjkaoejcdboaiaaGreat
open Go.RowKit Go.Eng
set_option linter.unusedVariables false
set_option linter.unusedSectionVars false
set_option maxRecDepth 100000
/-- The value that an abstract value without addresses stands for. -/
def valV : Nat → AV → Value
  | _, .bool b => .bool b
  | _, .int k n => .int k n
  | d + 1, .agg l => .agg (l.map (valV d)).toArray
  | d + 1, .tup l => .tuple (l.map (valV d)).toArray
  | _, _ => undef
def plainA : Nat → AV → Bool
  | _, .bool _ => true
  | _, .int _ _ => true
  | d + 1, .agg l => l.all (plainA d)
  | d + 1, .tup l => l.all (plainA d)
  | _, _ => false
theorem valV_rel [Sym] : ∀ (d : Nat) (v : AV) (v' : Value) (ρ : Rho), plainA d v = true → VRel ρ v v' → v' = valV d v := by
  intro d
  induction d with
  | zero =>
    intro v v' ρ h hv
    cases hv <;> simp [plainA] at h
    · rfl
    · rfl
  | succ d ih =>
    have key : ∀ (l : List AV) (l' : List Value) (ρ : Rho), l.all (plainA d) = true → VsRel ρ l l' → l' = l.map (valV d) := by
      intro l
      induction l with
      | nil => intro l' ρ _ h; cases h; rfl
      | cons a l ihl =>
        intro l' ρ h hl
        cases hl with
        | cons _ _ _ _ h1 h2 =>
          rw [List.all_cons, Bool.and_eq_true] at h
          rw [List.map_cons, ih _ _ _ h.1 h1, ihl _ _ h.2 h2]
    intro v v' ρ h hv
    cases hv <;> simp only [plainA] at h <;> (try (cases h; done))
    · rfl
    · rfl
    · rename_i l l' hl
      show _ = Value.agg (l.map (valV d)).toArray
      rw [← key _ _ _ h hl]
    · rename_i l l' hl
      show _ = Value.tuple (l.map (valV d)).toArray
      rw [← key _ _ _ h hl]
@[reducible] def s0 : Sym := ⟨fun _ => 0⟩
@[reducible] def k0 : Hooks := ⟨fun _ => none⟩
/-- A run whose result is this flat value. -/
noncomputable def flatRun (f : FuncId) (args : List AV) (c : AV) : Bool :=
  @runFS k0 Tryz.prog 100000 f ⟨.lf, 0, 0⟩ args (fun v _ => AV.beq v c)
theorem flat_calls {f : FuncId} {args : List AV} {args' : Array Value} {c : AV} (ha : ∀ ρ : Rho, @VsRel s0 ρ args args'.toList) (hc : plainA 6 c = true) (h : flatRun f args c = true) (w : World) :
    Calls Tryz.prog f args' w (fun e w' => e = .returned (valV 6 c) ∧ Only w w') := by
  letI := s0
  letI := k0
  haveI : HooksOK Tryz.prog := ⟨fun f h hk => by cases hk⟩
  have hs : SRel (fun b => b < w.heap.size) (fun _ _ => none) ⟨.lf, 0, 0⟩ w := ⟨fun _ _ _ h => by (cases h), fun _ _ _ _ _ _ h => by (cases h), fun _ h => h⟩
  refine (runFS_calls follows hs (ha _) h).mono ?_
  rintro e w' ⟨v, st', ρ', v', rfl, h1, h2, h3, h4⟩
  have e := AV.eq_of_beq _ _ h1
  subst e
  exact ⟨by rw [valV_rel 6 _ _ _ hc h2], Only.of_adv h4⟩
/-- The formats: first and last operation, and the fields. -/
def fmts : List (Nat × Nat × List Int) :=
  [(0x00, 0x05, [0, 0, 0, 0]), (0x10, 0x13, [2, 0, 0, 0]), (0x14, 0x15, [4, 0, 0, 0]), (0x20, 0x2e, [1, 0, 0, 0]), (0x30, 0x3e, [2, 5, 0, 0]), (0x40, 0x4e, [2, 6, 0, 0]),
   (0x50, 0x53, [1, 5, 0, 0]), (0x58, 0x5b, [1, 6, 0, 0]), (0x54, 0x57, [2, 6, 0, 0]), (0x60, 0x6d, [5, 0, 0, 0]), (0x70, 0x7d, [6, 0, 0, 0]), (0x80, 0x80, [5, 0, 0, 0]), (0x81, 0x82, [6, 0, 0, 0]),
   (0x83, 0x84, [8, 6, 0, 0]), (0x85, 0x85, [2, 9, 6, 7]), (0x86, 0x86, [2, 6, 0, 0]), (0x90, 0x91, [2, 4, 0, 0]), (0x92, 0x93, [1, 8, 6, 0]), (0x96, 0x96, [3, 6, 7, 0]), (0xa0, 0xa1, [2, 4, 0, 0]), (0xa2, 0xa3, [2, 5, 0, 0])]
def fmtOf (op : Nat) : Option (List Int) := (fmts.find? fun f => Nat.ble f.1 op && Nat.ble op f.2.1).map (·.2.2)
def fmtA (op : Nat) : AV := match fmtOf op with
  | some fs => .tup [.agg (fs.map fun n => .int .i64 n), .bool true]
  | none => .tup [.agg [.int .i64 0, .int .i64 0, .int .i64 0, .int .i64 0], .bool false]
theorem bytes_all {p : Nat → Bool} (h0 : (List.range' 0 64).all p = true) (h1 : (List.range' 64 64).all p = true) (h2 : (List.range' 128 64).all p = true) (h3 : (List.range' 192 64).all p = true) {n : Nat} (hn : n < 256) : p n = true := by
  rw [List.all_eq_true] at h0 h1 h2 h3
  by_cases a : n < 64
  · exact h0 n (List.mem_range'.2 ⟨n, a, by omega⟩)
  · by_cases b : n < 128
    · exact h1 n (List.mem_range'.2 ⟨n - 64, by omega, by omega⟩)
    · by_cases c : n < 192
      · exact h2 n (List.mem_range'.2 ⟨n - 128, by omega, by omega⟩)
      · exact h3 n (List.mem_range'.2 ⟨n - 192, by omega, by omega⟩)
theorem plain_fmt (op : Nat) : plainA 6 (fmtA op) = true := by
  unfold fmtA
  split
  · rename_i fs _
    simp [plainA]
  · rfl
/-- How many bytes an instruction has. -/
def sizeP (op : Nat) : Nat := match fmtOf op with
  | some fs => fs.foldl (fun n f => n + widthP f) 1
  | none => 0
def sizeA (op : Nat) : AV := .int .i64 (.ofNat (sizeP op))
end Go.Proofs.YtjkaoejcdboaiaaGreat
