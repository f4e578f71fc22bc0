/- A verified interpreter for calls on fixed data, part 3 of 5. -/
import Derived.Test.YtlfmgfgcaepmjaaGreatE2
set_option linter.unusedSimpArgs false
set_option linter.unusedVariables false
set_option linter.unusedSectionVars false
/- The other operations that write: stores, maps, iterators, copy, clear. -/
namespace Go.Eng
set_option linter.unusedVariables false
variable [Sym]

noncomputable def spK {α β : Type} : List α → (List α → β) → β
  | [], k => k []
  | a :: l, k => spK l fun l => k (a :: l)
theorem spK_eq {α β : Type} (l : List α) (k : List α → β) : spK l k = k l := by
  induction l generalizing k with
  | nil => rfl
  | cons a l ih => simp only [spK, ih]
/-- A block is laid anew. -/
noncomputable def relayK (st : St) (id : Nat) (r : Rec) (k : St → Bool) : Bool :=
  match Nat.blt id st.lim with
  | true => false
  | false => st.heap.setK id r fun h => k ⟨h, st.next, st.lim⟩
theorem relayK_true {st : St} {id : Nat} {r : Rec} {k : St → Bool} (h : relayK st id r k = true) : st.isLocked id = false ∧ k ⟨st.heap.set id r, st.next, st.lim⟩ = true := by
  unfold relayK at h
  split at h
  · cases h
  · rename_i hl
    rw [Tr.setK_eq] at h
    exact ⟨hl, h⟩
noncomputable def newK (st : St) (r : Rec) (k : Nat → St → Bool) : Bool := st.heap.setK st.next r fun h => natK (st.next + 1) fun n => k st.next ⟨h, n, st.lim⟩
theorem newK_eq (st : St) (r : Rec) (k : Nat → St → Bool) : newK st r k = k st.next ⟨st.heap.set st.next r, st.next + 1, st.lim⟩ := by unfold newK; rw [Tr.setK_eq, natK_eq]
def sameKey (es : List AEnt) (i : Nat) (key : AV) : Bool :=
  match es[i]? with
  | some e => AV.beq e.key key && kbA 8 key
  | none => false
noncomputable def mapPutK (P : Program) (st : St) (t : TypeId) (m key x : AV) (k : AV → St → Bool) : Bool :=
  match P.underlying t, m with
  | some (.map kt _), .map id => match st.heap.get id with
    | some (.map es clock) => match ckA P 8 kt key with
      | true => match findA P st kt key es 0 with
        | some (some (i, _)) => match sameKey es i key with
          | true => spK (entsMod es i key x) fun es => relayK st id (.map es clock) fun st => k undefA st
          | false => false
        | some none => spK (es ++ [⟨key, x, clock⟩]) fun es => natK (clock + 1) fun c => relayK st id (.map es c) fun st => k undefA st
        | none => false
      | false => false
    | _ => false
  | _, _ => false
/-- A key is struck out. -/
noncomputable def mapDelK (P : Program) (st : St) (tys : Array TypeId) (m key : AV) (k : AV → St → Bool) : Bool :=
  match tys[0]? with
  | none => false
  | some t => match P.underlying t, m with
    | some (.map kt _), .nilm => (match ckA P 8 kt key with | true => k undefA st | false => false)
    | some (.map kt _), .map id => (match st.heap.get id with
      | some (.map es clock) => (match ckA P 8 kt key with
        | true => (match findA P st kt key es 0 with
          | some (some (i, _)) => spK (es.eraseIdx i) fun es => relayK st id (.map es clock) fun st => k undefA st
          | some none => spK es fun es => relayK st id (.map es clock) fun st => k undefA st
          | none => false)
        | false => false)
      | _ => false)
    | _, _ => false
noncomputable def mapEntK (P : Program) (st : St) (t : TypeId) (m key : AV) (k : AV → St → Bool) : Bool :=
  match P.underlying t, m with
  | some (.map kt et), .map id => match st.heap.get id with
    | some (.map es clock) => match ckA P 8 kt key with
      | true => match findA P st kt key es 0 with
        | some (some (i, v)) => match sameKey es i key, es[i]?, Nat.blt id st.lim with
          | true, some e, false => k (.tup [v, .int .i64 (.ofNat e.born)]) st
          | _, _, _ => false
        | some none => match zeroA P et with
          | some z => spK (es ++ [⟨key, z, clock⟩]) fun es => natK (clock + 1) fun c => relayK st id (.map es c) fun st => k (.tup [z, .int .i64 (.ofNat clock)]) st
          | none => false
        | none => false
      | false => false
    | _ => false
  | _, _ => false
def bornIdx (b : Nat) : List AEnt → Nat → Option Nat
  | [], _ => none
  | e :: es, i => match Nat.beq e.born b with | true => some i | false => bornIdx b es (i + 1)
noncomputable def entPutK (st : St) (m s x : AV) (k : AV → St → Bool) : Bool :=
  match m, s with
  | .map id, .int _ (.ofNat b) => match st.heap.get id with
    | some (.map es clock) => match bornIdx b es 0 with
      | some i => match es[i]? with
        | some e => spK (entsMod es i e.key x) fun es => relayK st id (.map es clock) fun st => k undefA st
        | none => false
      | none => false
    | _ => false
  | _, _ => false
noncomputable def rangeK (P : Program) (st : St) (t : TypeId) (x : AV) (k : AV → St → Bool) : Bool :=
  match P.underlying t, x with
  | some (.map _ _), .nilm => newK st (.miter none 0 [] 0) fun id st => k (.ptr id 0 0) st
  | some (.map _ _), .map m => match st.heap.get m with
    | some (.map _ clock) => newK st (.miter (some m) clock [] clock) fun id st => k (.ptr id 0 0) st
    | _ => false
  | _, _ => false
noncomputable def entryK (st : St) (x : AV) (k : AV → St → Bool) : Bool :=
  match x with
  | .ptr id 0 0 => match st.heap.get id with
    | some (.miter (some m) _ seen stepped) => match st.heap.get m, seen.getLast? with
      | some (.map es clock), some stamp => match Nat.beq clock stepped with
        | true => match es.find? (fun e => Nat.beq e.born stamp) with
          | some e => k (.tup [e.key, e.val]) st
          | none => false
        | false => false
      | _, _ => false
    | _ => false
  | _ => false
/-- The entries that an iterator may give next; 'none': it may end. -/
def candA (es : List AEnt) (since : Nat) (seen : List Nat) : List (Option AEnt) :=
  (match (es.filter fun e => !seen.contains e.born).filter (fun e => Nat.blt e.born since) with | [] => [none] | _ => []) ++
  (((es.filter fun e => !seen.contains e.born).filter (fun e => Nat.blt e.born since)) ++ ((es.filter fun e => !seen.contains e.born).filter (fun e => !Nat.blt e.born since))).map some
def overA : AV := .tup [.bool false]
noncomputable def nextAll (st : St) (id m since : Nat) (seen : List Nat) (clock : Nat) (k : AV → St → Bool) : List (Option AEnt) → Bool
  | [] => true
  | none :: l => k overA st && nextAll st id m since seen clock k l
  | some e :: l => (spK (seen ++ [e.born]) fun s => relayK st id (.miter (some m) since s clock) fun st => k (.tup [.bool true, e.key, e.val]) st) && nextAll st id m since seen clock k l
noncomputable def nextK (st : St) (x : AV) (isS : Bool) (k : AV → St → Bool) : Bool :=
  match x, isS with
  | .ptr id 0 0, false => match st.heap.get id with
    | some (.miter none _ _ _) => k overA st
    | some (.miter (some m) since seen stepped) => match st.heap.get m with
      | some (.map es clock) => match !seen.isEmpty && !es.isEmpty && es.all (fun e => Nat.ble stepped e.born) with
        | true => false
        | false => spK (candA es since seen) fun l => nextAll st id m since seen clock k l
      | _ => false
    | _ => false
  | _, _ => false
noncomputable def copyK (P : Program) (st : St) (tys : Array TypeId) (s x : AV) (k : AV → St → Bool) : Bool :=
  match tys[0]? with
  | some sT => match P.underlying sT, lenOfA s, lenOfA x with
    | some (.slice el), some n, some m => match szOf P el with
      | some sz => natK (Nat.min m n) fun c => firstK st sz c x false fun l => match s with
        | .nils => k (.int .i64 (.ofNat c)) st
        | .slice id ep off _ _ _ _ => putsK st id ep off l false fun st => k (.int .i64 (.ofNat c)) st
        | _ => false
      | none => false
    | _, _, _ => false
  | none => false
noncomputable def clearK (P : Program) (st : St) (tys : Array TypeId) (s : AV) (k : AV → St → Bool) : Bool :=
  match tys[0]? with
  | some sT => match P.underlying sT, s with
    | some (.map _ _), .nilm => k undefA st
    | some (.map _ _), .map id => match st.heap.get id with
      | some (.map _ clock) => relayK st id (.map [] clock) fun st => k undefA st
      | _ => false
    | some (.slice _), .nils => k undefA st
    | some (.slice el), .slice id ep off n _ _ _ => match n with
      | 0 => k undefA st
      | n => match zeroA P el with
        | some z => listK (tile n z.cells) fun l => putsK st id ep off l false fun st => k undefA st
        | none => false
    | _, _ => false
  | none => false
noncomputable def usdK (st : St) (s : AV) (k : AV → St → Bool) : Bool :=
  match s with
  | .nils => k .nilp st
  | .slice id ep off _ (c + 1) _ _ => k (.ptr id ep off) st
  | _ => false
/-- A row's head as a string: the row is not looked at again. -/
noncomputable def ustrK (P : Program) (st : St) (tys : Array TypeId) (p n : AV) (k : AV → St → Bool) : Bool :=
  match tys[0]? with
  | some pt => match n with
    | .int .i64 (.ofNat 0) => (match p with
      | .nilp => k (.str []) st
      | .ptr _ _ _ => k (.str []) st
      | _ => false)
    | .int .i64 (.ofNat (m + 1)) => (match p with
      | .ptr id ep 0 => (match P.underlying pt, st.heap.get id with
        | some (.pointer el), some (.cells elem _ _ _ _) => (match Nat.beq elem el, szOf P el, Nat.ble (m + 1) 9223372036854775807 with
          | true, some 1, true => (match cellsOf st id ep (m + 1) 0 with
            | some l => (match bytesA l with
              | some r => relayK st id .dead fun st => k (.str r) st
              | none => false)
            | none => false)
          | _, _, _ => false)
        | _, _ => false)
      | _ => false)
    | _ => false
  | none => false
noncomputable def opEK (P : Program) (st : St) (e : Env) (o : Oper) (k : AV → St → Bool) : Bool :=
  match o.op with
  | .assign x => evK e x false fun v => k v st
  | .store t a x => evK e a false fun a => evK e x false fun v => match a with
    | .ptr id ep off => (match szOf P t with
      | some n => (match Nat.beq v.cells.length n with | true => putsK st id ep off v.cells false fun st => k undefA st | false => false)
      | none => false)
    | _ => false
  | .mapUpdate t m key x => evK e m false fun m => evK e key false fun key => evK e x false fun x => mapPutK P st t m key x k
  | .insert t m key x => evK e m false fun m => evK e key false fun key => evK e x false fun x => mapPutK P st t m key x k
  | .mapEntry t m key => evK e m false fun m => evK e key false fun key => mapEntK P st t m key k
  | .entryStore _ m s x => evK e m false fun m => evK e s false fun s => evK e x false fun x => entPutK st m s x k
  | .range t x => evK e x false fun x => rangeK P st t x k
  | .entry x => evK e x false fun x => entryK st x k
  | .next x isS => evK e x false fun x => nextK st x isS k
  | .call c => (match c.callee with
    | .builtin .append => evsK e c.args.toList false fun l => (match l with | [s, x] => appendK P st c.argTypes s x k | _ => false)
    | .builtin .copy => evsK e c.args.toList false fun l => (match l with | [s, x] => copyK P st c.argTypes s x k | _ => false)
    | .builtin .delete => evsK e c.args.toList false fun l => (match l with | [m, key] => mapDelK P st c.argTypes m key k | _ => false)
    | .builtin .clear => evsK e c.args.toList false fun l => (match l with | [s] => clearK P st c.argTypes s k | _ => false)
    | .builtin .unsafeSliceData => evsK e c.args.toList false fun l => (match l with | [s] => usdK st s k | _ => false)
    | .builtin .unsafeString => evsK e c.args.toList false fun l => (match l with | [p, n] => ustrK P st c.argTypes p n k | _ => false)
    | _ => false)
  | _ => false
end Go.Eng
/- The operations that write: the model does what the abstract ones say. -/
namespace Go.Eng
set_option linter.unusedVariables false
variable [Sym]

/-- What an operation hands to the rest of its region. -/
def Hands (n : Next) (v : Value) : Prop := n = .value v ∨ (n = .skip ∧ v = undef)
def ERes (B : Nat → Prop) (ρ : Rho) (st : St) (w : World) (P : Program) (k : AV → St → Bool) (s : Sem Next) : Prop :=
  ∃ v st' ρ' v' w' nx, k v st' = true ∧ s.run P w = .ok nx w' ∧ Hands nx v' ∧ VRel ρ' v v' ∧ SRel B ρ' st' w' ∧ Adv B ρ st w ρ' st' w'
theorem undefA_rel (ρ : Rho) : VRel ρ undefA undef := .tup [] #[] .nil
section
variable {B : Nat → Prop} {ρ : Rho} {st : St} {w : World} {P : Program} {k : AV → St → Bool}
theorem ERes.ofV {s : Sem Value} (h : ∃ v st' ρ' v' w', k v st' = true ∧ s.run P w = .ok v' w' ∧ VRel ρ' v v' ∧ SRel B ρ' st' w' ∧ Adv B ρ st w ρ' st' w') : ERes B ρ st w P k (do pure (.value (← s))) := by
  obtain ⟨v, st', ρ', v', w', h1, h2, h3, h4, h5⟩ := h
  exact ⟨v, st', ρ', v', w', .value v', h1, by simp only [Sem.run_bind, h2, Result.andThen_ok, Sem.run_pure], .inl rfl, h3, h4, h5⟩
theorem ERes.ofU {s : Sem Unit} (h : ∃ st' ρ' w', k undefA st' = true ∧ s.run P w = .ok () w' ∧ SRel B ρ' st' w' ∧ Adv B ρ st w ρ' st' w') : ERes B ρ st w P k (do s; pure .skip) := by
  obtain ⟨st', ρ', w', h1, h2, h4, h5⟩ := h
  exact ⟨undefA, st', ρ', undef, w', .skip, h1, by simp only [Sem.run_bind, h2, Result.andThen_ok, Sem.run_pure], .inr ⟨rfl, rfl⟩, undefA_rel _, h4, h5⟩
theorem map_at (hs : SRel B ρ st w) {id : Nat} {p : Pl} {es : List AEnt} {clock : Nat} (hp : ρ id 0 = some p) (hg : st.heap.get id = some (.map es clock)) : ∃ es', w.heap[p.blk]? = some (.map es' clock) ∧ EntsRel ρ es es'.toList := by
  obtain ⟨_, _, _, r, hr, hrel⟩ := hs.mapped _ _ _ hp
  rw [hg] at hr; cases hr
  exact hrel.2
theorem ck_und {t : TypeId} {v : AV} {d : Nat} (h : ckA P d t v = true) : ∃ desc, P.underlying t = some desc := by
  cases d with
  | zero => simp [ckA] at h
  | succ d =>
    unfold ckA at h
    cases hd : P.underlying t with
    | none => rw [hd] at h; cases h
    | some desc => exact ⟨desc, rfl⟩
def rowB : Obj → Bool
  | .cells .. => true
  | _ => false
theorem getObj_run {b : Nat} {o : Obj} (h : w.heap[b]? = some o) (hn : rowB o = false) : (getObj b).run P w = .ok o w := by
  cases o <;> first | (simp [rowB] at hn; done) | simp only [getObj, Sem.run, h]
theorem setObj_run {b : Nat} {o o' : Obj} (h : w.heap[b]? = some o) (hn : rowB o = false) : (setObj b o').run P w = .ok () { w with heap := w.heap.setIfInBounds b o' } := by
  cases o <;> first | (simp [rowB] at hn; done) | simp only [Go.setObj, Sem.run, h]
theorem mapPut_run (hs : SRel B ρ st w) {t : TypeId} {m key x : AV} {m' key' x' : Value} (hm : VRel ρ m m') (hk : VRel ρ key key') (hx : VRel ρ x x') (h : mapPutK P st t m key x k = true) :
    ∃ st' ρ' w', k undefA st' = true ∧ (Instr.mapUpdate t m' key' x').run P w = .ok () w' ∧ SRel B ρ' st' w' ∧ Adv B ρ st w ρ' st' w' := by
  unfold mapPutK at h
  split at h <;> (try (cases h; done))
  rename_i kt et id hu
  split at h <;> (try (cases h; done))
  rename_i es clock hg
  split at h <;> (try (cases h; done))
  rename_i hck
  cases hm with
  | map _ p hp =>
    obtain ⟨es', he, hrl⟩ := map_at hs hp hg
    obtain ⟨desc, hkt⟩ := ck_und hck
    have hckr := (ckA_run (P := P) (ρ := ρ) false 9992 w 8).1 _ _ _ hk hck
    have hgo := getObj_run (P := P) he rfl
    split at h <;> (try (cases h; done))
    · rename_i i v hf
      obtain ⟨r', hfr, hfrun⟩ := findKey_run hs hkt hk hrl hf
      obtain ⟨v', rfl, hv'⟩ := hfr
      split at h <;> (try (cases h; done))
      rename_i hsk
      rw [spK_eq] at h
      obtain ⟨hlk, h⟩ := relayK_true h
      unfold sameKey at hsk
      split at hsk <;> (try (cases hsk; done))
      rename_i e hei
      simp only [Bool.and_eq_true] at hsk
      have hke := AV.eq_of_beq _ _ hsk.1
      obtain ⟨e', he1, he2, he3, he4⟩ := hrl.get hei
      rw [hke] at he2
      have hst := keyStays_run (P := P) hsk.2 he2 hk w
      have he1' : es'[i]? = some e' := by simpa using he1
      obtain ⟨s1, s2⟩ := hs.setObj (r' := .map (entsMod es i key x) clock) (o' := .map (es'.modify i fun e => { e with key := key', val := x' }) clock) hp hg rfl ⟨rfl, _, rfl, by rw [Array.toList_modify]; exact entsMod_rel hk hx es es'.toList i hrl⟩
      refine ⟨_, ρ, _, h, ?_, s1, s2⟩
      simp only [Instr.mapUpdate, Sem.run_bind, run_underlying hu, Result.andThen_ok, hgo, hckr, hfrun, he1', Option.map_some, Option.getD_some, hst, setObj_run he rfl]
    · rename_i hf
      obtain ⟨r', hfr, hfrun⟩ := findKey_run hs hkt hk hrl hf
      cases hfr
      rw [spK_eq, natK_eq] at h
      obtain ⟨hlk, h⟩ := relayK_true h
      obtain ⟨s1, s2⟩ := hs.setObj (r' := .map (es ++ [⟨key, x, clock⟩]) (clock + 1)) (o' := .map (es'.push { key := key', val := x', born := clock }) (clock + 1)) hp hg rfl ⟨rfl, _, rfl, by rw [Array.toList_push]; exact hrl.append (.cons _ _ _ _ hk hx rfl .nil)⟩
      refine ⟨_, ρ, _, h, ?_, s1, s2⟩
      simp only [Instr.mapUpdate, Sem.run_bind, run_underlying hu, Result.andThen_ok, hgo, hckr, hfrun, setObj_run he rfl]
theorem entsErase_rel {ρ : Rho} : ∀ {es : List AEnt} {es' : List MapEntry} (i : Nat), EntsRel ρ es es' → EntsRel ρ (es.eraseIdx i) (es'.eraseIdx i)
  | _, _, _, .nil => .nil
  | _, _, 0, .cons _ _ _ _ _ _ _ hl => hl
  | _, _, i + 1, .cons e e' l l' h1 h2 h3 hl => .cons e e' _ _ h1 h2 h3 (entsErase_rel i hl)
theorem erase_toList (es : Array MapEntry) (i : Nat) : (es.eraseIdxIfInBounds i).toList = es.toList.eraseIdx i := by
  unfold Array.eraseIdxIfInBounds
  split
  · simp
  · rw [List.eraseIdx_of_length_le]
    rw [Array.length_toList]; omega
theorem mapDel_run (hs : SRel B ρ st w) {tys : Array TypeId} {ty : TypeId} {m key : AV} {m' key' : Value} (hm : VRel ρ m m') (hk : VRel ρ key key') (h : mapDelK P st tys m key k = true) :
    ∃ v st' ρ' v' w', k v st' = true ∧ (Builtin.delete_ tys ty #[m', key']).run P w = .ok v' w' ∧ VRel ρ' v v' ∧ SRel B ρ' st' w' ∧ Adv B ρ st w ρ' st' w' := by
  unfold mapDelK at h
  split at h <;> (try (cases h; done))
  rename_i t h0
  have e0 : (#[m', key'] : Array Value)[0]? = some m' := rfl
  have e1 : (#[m', key'] : Array Value)[1]? = some key' := rfl
  split at h <;> (try (cases h; done))
  · rename_i kt et hu
    split at h <;> (try (cases h; done))
    rename_i hck
    cases hm
    have hckr := (ckA_run (P := P) (ρ := ρ) true 9992 w 8).1 _ _ _ hk hck
    refine ⟨_, st, ρ, .tuple #[], w, h, ?_, undefA_rel _, hs, .refl _ _ _ _⟩
    simp only [Builtin.delete_, h0, e0, e1, Sem.run_bind, run_underlying hu, Result.andThen_ok, Sem.run_pure, hckr]
  · rename_i kt et id hu
    split at h <;> (try (cases h; done))
    rename_i es clock hg
    split at h <;> (try (cases h; done))
    rename_i hck
    cases hm with
    | map _ p hp =>
      obtain ⟨es', he, hrl⟩ := map_at hs hp hg
      obtain ⟨desc, hkt⟩ := ck_und hck
      have hckr := (ckA_run (P := P) (ρ := ρ) es'.isEmpty 9992 w 8).1 _ _ _ hk hck
      have hgo := getObj_run (P := P) he rfl
      split at h <;> (try (cases h; done))
      · rename_i i v hf
        obtain ⟨r', hfr, hfrun⟩ := findKey_run hs hkt hk hrl hf
        obtain ⟨v', rfl, hv'⟩ := hfr
        rw [spK_eq] at h
        obtain ⟨hlk, h⟩ := relayK_true h
        obtain ⟨s1, s2⟩ := hs.setObj (r' := .map (es.eraseIdx i) clock) (o' := .map (es'.eraseIdxIfInBounds i) clock) hp hg rfl ⟨rfl, _, rfl, by rw [erase_toList]; exact entsErase_rel i hrl⟩
        refine ⟨_, _, ρ, .tuple #[], _, h, ?_, undefA_rel _, s1, s2⟩
        simp only [Builtin.delete_, h0, e0, e1, Sem.run_bind, run_underlying hu, Result.andThen_ok, Sem.run_pure, hgo, hckr, hfrun, setObj_run (P := P) he rfl]
      · rename_i hf
        obtain ⟨r', hfr, hfrun⟩ := findKey_run hs hkt hk hrl hf
        cases hfr
        rw [spK_eq] at h
        obtain ⟨hlk, h⟩ := relayK_true h
        obtain ⟨s1, s2⟩ := hs.setObj (r' := .map es clock) (o' := .map es' clock) hp hg rfl ⟨rfl, _, rfl, hrl⟩
        refine ⟨_, _, ρ, .tuple #[], _, h, ?_, undefA_rel _, s1, s2⟩
        simp only [Builtin.delete_, h0, e0, e1, Sem.run_bind, run_underlying hu, Result.andThen_ok, Sem.run_pure, hgo, hckr, hfrun, setObj_run (P := P) he rfl]
theorem entsMod_same : ∀ (es : List AEnt) (i : Nat) (e : AEnt), es[i]? = some e → entsMod es i e.key e.val = es := by
  intro es
  induction es with
  | nil => intro i e h; simp at h
  | cons a es ih =>
    intro i e h
    cases i with
    | zero => simp at h; subst h; rfl
    | succ i => simp at h; simp only [entsMod, ih i e h]
theorem find_val {st : St} {kt : TypeId} {key : AV} : ∀ (es : List AEnt) (i j : Nat) (v : AV), findA P st kt key es i = some (some (j, v)) → ∃ e, i ≤ j ∧ es[j - i]? = some e ∧ e.val = v := by
  intro es
  induction es with
  | nil => intro i j v h; simp [findA] at h
  | cons e es ih =>
    intro i j v h
    simp only [findA] at h
    split at h
    · cases h; exact ⟨e, Nat.le_refl _, by simp, rfl⟩
    · obtain ⟨e', h1, h2, h3⟩ := ih _ _ _ h
      refine ⟨e', by omega, ?_, h3⟩
      have : j - i = (j - (i + 1)) + 1 := by omega
      rw [this]; simpa using h2
    · cases h
theorem mapEnt_run (hs : SRel B ρ st w) {t : TypeId} {m key : AV} {m' key' : Value} (hm : VRel ρ m m') (hk : VRel ρ key key') (h : mapEntK P st t m key k = true) :
    ∃ v st' ρ' v' w', k v st' = true ∧ (Instr.mapEntry t m' key').run P w = .ok v' w' ∧ VRel ρ' v v' ∧ SRel B ρ' st' w' ∧ Adv B ρ st w ρ' st' w' := by
  unfold mapEntK at h
  split at h <;> (try (cases h; done))
  rename_i kt et id hu
  split at h <;> (try (cases h; done))
  rename_i es clock hg
  split at h <;> (try (cases h; done))
  rename_i hck
  cases hm with
  | map _ p hp =>
    obtain ⟨es', he, hrl⟩ := map_at hs hp hg
    obtain ⟨desc, hkt⟩ := ck_und hck
    have hckr := (ckA_run (P := P) (ρ := ρ) false 9992 w 8).1 _ _ _ hk hck
    have hgo := getObj_run (P := P) he rfl
    split at h <;> (try (cases h; done))
    · rename_i i v hf
      obtain ⟨r', hfr, hfrun⟩ := findKey_run hs hkt hk hrl hf
      obtain ⟨v', rfl, hv'⟩ := hfr
      split at h <;> (try (cases h; done))
      rename_i e hsk hei hlk
      unfold sameKey at hsk
      rw [hei] at hsk
      simp only [Bool.and_eq_true] at hsk
      have hke := AV.eq_of_beq _ _ hsk.1
      obtain ⟨e', he1, he2, he3, he4⟩ := hrl.get hei
      rw [hke] at he2
      have hst := keyStays_run (P := P) hsk.2 he2 hk w
      have he1' : es'[i]? = some e' := by simpa using he1
      have hrel2 : EntsRel ρ es (es'.modify i fun e => { e with key := key' }).toList := by
        rw [Array.toList_modify]
        have h1 := entsMod_rel hk he3 es es'.toList i hrl
        have h2 : entsMod es i key e.val = es := by rw [← hke]; exact entsMod_same es i e hei
        rw [h2] at h1
        have h3 : (es'.toList.modify i fun e => { e with key := key', val := e'.val }) = (es'.toList.modify i fun e => { e with key := key' }) := by
          apply List.ext_getElem?
          intro j
          simp only [List.getElem?_modify]
          by_cases hij : i = j
          · subst hij; simp only [he1]; rfl
          · simp [hij]
        rw [h3] at h1
        exact h1
      obtain ⟨s1, s2⟩ := hs.setObj (r' := .map es clock) (o' := .map (es'.modify i fun e => { e with key := key' }) clock) hp hg rfl ⟨rfl, _, rfl, hrel2⟩
      refine ⟨_, st, ρ, .tuple #[v', goInt e'.born], { w with heap := w.heap.setIfInBounds p.blk (.map (es'.modify i fun e => { e with key := key' }) clock) }, h, ?_, ?_, ?_, ?_⟩
      · simp only [Instr.mapEntry, Sem.run_bind, run_underlying hu, Result.andThen_ok, hgo, hckr, hfrun, he1', Option.map_some, Option.getD_some, hst, setObj_run he rfl, Sem.run_pure]
      · refine .tup _ _ (.cons _ _ _ _ hv' (.cons _ _ _ _ ?_ .nil))
        rw [he4]; exact .int _ _
      · exact ⟨fun id' ep' p' hp' => by
          obtain ⟨a1, a2, a3, r, a4, a5⟩ := s1.mapped id' ep' p' hp'
          refine ⟨a1, a2, a3, r, ?_, a5⟩
          rw [← a4]
          by_cases hid : id = id'
          · subst hid; rw [Tr.get_set_same]; exact hg
          · rw [Tr.get_set_ne _ _ hid], s1.inj, s1.low⟩
      · exact ⟨s2.le, s2.next, fun i hi hn => ⟨hn, rfl⟩, s2.low, s2.size, s2.os, s2.out, s2.fro⟩
    · rename_i hf
      obtain ⟨r', hfr, hfrun⟩ := findKey_run hs hkt hk hrl hf
      cases hfr
      split at h <;> (try (cases h; done))
      rename_i z hz
      obtain ⟨z', hz1, hz2⟩ := zeroA_run hz
      rw [spK_eq, natK_eq] at h
      obtain ⟨hlk, h⟩ := relayK_true h
      obtain ⟨s1, s2⟩ := hs.setObj (r' := .map (es ++ [⟨key, z, clock⟩]) (clock + 1)) (o' := .map (es'.push { key := key', val := z', born := clock }) (clock + 1)) hp hg rfl ⟨rfl, _, rfl, by rw [Array.toList_push]; exact hrl.append (.cons _ _ _ _ hk (hz1 ρ) rfl .nil)⟩
      refine ⟨_, _, ρ, .tuple #[z', goInt clock], _, h, ?_, .tup _ _ (.cons _ _ _ _ (hz1 ρ) (.cons _ _ _ _ (.int _ _) .nil)), s1, s2⟩
      simp only [Instr.mapEntry, Sem.run_bind, run_underlying hu, Result.andThen_ok, hgo, hckr, hfrun, hz2, setObj_run he rfl, Sem.run_pure]
end
end Go.Eng
/- Iterators, copy, clear, stores; the writing operations as a whole. -/
namespace Go.Eng
set_option linter.unusedVariables false
variable [Sym]

section
variable {B : Nat → Prop} {ρ : Rho} {st : St} {w : World} {P : Program} {k : AV → St → Bool} {e : Env} {a : Act}
theorem bornIdx_spec {b : Nat} : ∀ (es : List AEnt) (es' : List MapEntry) (i j : Nat), EntsRel ρ es es' → bornIdx b es i = some j → i ≤ j ∧ es'.findIdx? (fun e => (e.born : Int) == (b : Int)) = some (j - i) := by
  intro es
  induction es with
  | nil => intro es' i j _ h; simp [bornIdx] at h
  | cons e es ih =>
    intro es' i j hr h
    cases hr with
    | cons _ e' _ es' h1 h2 h3 hl =>
      simp only [bornIdx] at h
      rw [List.findIdx?_cons, h3]
      split at h
      · rename_i hb
        cases h
        have hb := Nat.eq_of_beq_eq_true hb
        subst hb
        exact ⟨Nat.le_refl _, by simp⟩
      · rename_i hb
        obtain ⟨g1, g2⟩ := ih es' (i + 1) j hl h
        refine ⟨by omega, ?_⟩
        have hne : ((e.born : Int) == (b : Int)) = false := by
          rw [beq_eq_false_iff_ne]
          intro he
          have : e.born = b := by exact_mod_cast he
          subst this
          simp at hb
        rw [hne, g2]
        simp only [Bool.false_eq_true, if_false, Option.map_some]
        congr 1; omega
theorem entPut_run (hs : SRel B ρ st w) {t : TypeId} {m s x : AV} {m' s' x' : Value} (hm : VRel ρ m m') (hS : VRel ρ s s') (hx : VRel ρ x x') (h : entPutK st m s x k = true) :
    ∃ st' ρ' w', k undefA st' = true ∧ (Instr.entryStore t m' s' x').run P w = .ok () w' ∧ SRel B ρ' st' w' ∧ Adv B ρ st w ρ' st' w' := by
  unfold entPutK at h
  split at h <;> (try (cases h; done))
  rename_i id kd b
  split at h <;> (try (cases h; done))
  rename_i es clock hg
  split at h <;> (try (cases h; done))
  rename_i i hbi
  split at h <;> (try (cases h; done))
  rename_i en hen
  rw [spK_eq] at h
  obtain ⟨hlk, h⟩ := relayK_true h
  cases hS
  cases hm with
  | map _ p hp =>
    obtain ⟨es', he, hrl⟩ := map_at hs hp hg
    have hgo := getObj_run (P := P) he rfl
    obtain ⟨_, hfi⟩ := bornIdx_spec es es'.toList 0 i hrl hbi
    obtain ⟨e', he1, he2, he3, he4⟩ := hrl.get hen
    have hfi' : es'.findIdx? (fun e => (e.born : Int) == (b : Int)) = some i := by
      have e9 : ∀ f, es'.findIdx? f = es'.toList.findIdx? f := fun f => by cases es'; simp
      rw [e9]; simpa using hfi
    have hrel : EntsRel ρ (entsMod es i en.key x) (es'.modify i fun e => { e with val := x' }).toList := by
      rw [Array.toList_modify]
      have h1 := entsMod_rel he2 hx es es'.toList i hrl
      have h3 : (es'.toList.modify i fun e => { e with key := e'.key, val := x' }) = (es'.toList.modify i fun e => { e with val := x' }) := by
        apply List.ext_getElem?
        intro j
        simp only [List.getElem?_modify]
        by_cases hij : i = j
        · subst hij; simp only [he1]; rfl
        · simp [hij]
      rw [h3] at h1
      exact h1
    obtain ⟨s1, s2⟩ := hs.setObj (r' := .map (entsMod es i en.key x) clock) (o' := .map (es'.modify i fun e => { e with val := x' }) clock) hp hg rfl ⟨rfl, _, rfl, hrel⟩
    refine ⟨_, ρ, _, h, ?_, s1, s2⟩
    have hi : (Int.ofNat b) = (b : Int) := rfl
    simp only [Instr.entryStore, Sem.run_bind, Result.andThen_ok, hgo, asInt, asIntOf, Sem.run_pure, hi, hfi', setObj_run he rfl]
theorem range_run (hs : SRel B ρ st w) {t : TypeId} {x : AV} {x' : Value} (hx : VRel ρ x x') (h : rangeK P st t x k = true) :
    ∃ v st' ρ' v' w', k v st' = true ∧ (Instr.range t x').run P w = .ok v' w' ∧ VRel ρ' v v' ∧ SRel B ρ' st' w' ∧ Adv B ρ st w ρ' st' w' := by
  unfold rangeK at h
  split at h <;> (try (cases h; done))
  · rename_i hu
    cases hx
    rw [newK_eq] at h
    obtain ⟨ρ', h1, h2, h3⟩ := hs.alloc (r := .miter none 0 [] 0) (o := .mapIter none 0 #[] 0) (n := 0) (fun ρ' _ _ => ⟨rfl, none, #[], rfl, rfl, rfl⟩)
    refine ⟨_, _, ρ', _, _, h, ?_, .ptr _ _ _ _ h3 (Nat.le_refl _), h1, h2⟩
    simp only [Instr.range, Sem.run_bind, run_underlying hu, Result.andThen_ok, run_newObj, Sem.run_pure]
  · rename_i m hu
    split at h <;> (try (cases h; done))
    rename_i es clock hg
    rw [newK_eq] at h
    cases hx with
    | map _ p hp =>
      obtain ⟨es', he, hrl⟩ := map_at hs hp hg
      have hgo := getObj_run (P := P) he rfl
      obtain ⟨ρ', h1, h2, h3⟩ := hs.alloc (r := .miter (some m) clock [] clock) (o := .mapIter (some p.blk) clock #[] clock) (n := 0) (fun ρ' hle _ => ⟨rfl, some p.blk, #[], rfl, rfl, p, hle _ _ _ hp, rfl⟩)
      refine ⟨_, _, ρ', _, _, h, ?_, .ptr _ _ _ _ h3 (Nat.le_refl _), h1, h2⟩
      simp only [Instr.range, Sem.run_bind, run_underlying hu, Result.andThen_ok, hgo, run_newObj, Sem.run_pure]
def OptId (ρ : Rho) (m m' : Option Nat) : Prop :=
  match m with
  | none => m' = none
  | some id => ∃ p, ρ id 0 = some p ∧ m' = some p.blk
theorem iter_at (hs : SRel B ρ st w) {id : Nat} {p : Pl} {m : Option Nat} {since stepped : Nat} {seen : List Nat} (hp : ρ id 0 = some p) (hg : st.heap.get id = some (.miter m since seen stepped)) :
    ∃ m' seen', w.heap[p.blk]? = some (.mapIter m' since seen' stepped) ∧ seen'.toList = seen ∧ OptId ρ m m' := by
  obtain ⟨_, _, _, r, hr, hrel⟩ := hs.mapped _ _ _ hp
  rw [hg] at hr; cases hr
  exact hrel.2
theorem find_rel {stamp : Nat} : ∀ (es : List AEnt) (es' : List MapEntry) (en : AEnt), EntsRel ρ es es' → es.find? (fun e => Nat.beq e.born stamp) = some en → ∃ e', es'.find? (·.born == stamp) = some e' ∧ VRel ρ en.key e'.key ∧ VRel ρ en.val e'.val := by
  intro es
  induction es with
  | nil => intro es' en _ h; simp at h
  | cons e es ih =>
    intro es' en hr h
    cases hr with
    | cons _ e' _ es' h1 h2 h3 hl =>
      simp only [List.find?_cons] at h ⊢
      cases hb : Nat.beq e.born stamp with
      | true =>
        rw [hb] at h
        simp only [Option.some.injEq] at h
        subst h
        have hb := Nat.eq_of_beq_eq_true hb
        rw [h3, hb]
        simp only [beq_self_eq_true]
        exact ⟨_, rfl, h1, h2⟩
      | false =>
        rw [hb] at h
        have hne : (e'.born == stamp) = false := by
          rw [h3, beq_eq_false_iff_ne]
          intro he; rw [he] at hb; simp at hb
        rw [hne]
        exact ih _ _ hl h
theorem entry_run (hs : SRel B ρ st w) {x : AV} {x' : Value} (hx : VRel ρ x x') (h : entryK st x k = true) :
    ∃ v st' ρ' v' w', k v st' = true ∧ (Instr.entry x').run P w = .ok v' w' ∧ VRel ρ' v v' ∧ SRel B ρ' st' w' ∧ Adv B ρ st w ρ' st' w' := by
  unfold entryK at h
  split at h <;> (try (cases h; done))
  rename_i id
  split at h <;> (try (cases h; done))
  rename_i m since seen stepped hg
  split at h <;> (try (cases h; done))
  rename_i es clock stamp hgm hl
  split at h <;> (try (cases h; done))
  rename_i hcl
  have hcl := Nat.eq_of_beq_eq_true hcl
  split at h <;> (try (cases h; done))
  rename_i en hen
  obtain ⟨p, rfl, hp, hb⟩ := hx.ptr_inv
  obtain ⟨m', seen', h1, h2, q, hq, rfl⟩ := iter_at hs hp hg
  obtain ⟨es', he, hrl⟩ := map_at hs hq hgm
  obtain ⟨e', hf, hk, hv⟩ := find_rel es es'.toList en hrl hen
  have hback : seen'.back? = some stamp := by rw [← h2] at hl; simpa [Array.back?_eq_getElem?, List.getLast?_eq_getElem?] using hl
  have hf' : es'.find? (·.born == stamp) = some e' := by
    have e9 : ∀ f, es'.find? f = es'.toList.find? f := fun f => by cases es'; simp
    rw [e9]; exact hf
  refine ⟨_, st, ρ, .tuple #[e'.key, e'.val], w, h, ?_, .tup _ _ (.cons _ _ _ _ hk (.cons _ _ _ _ hv .nil)), hs, .refl _ _ _ _⟩
  have hz : 0 - p.base = 0 := by omega
  subst hcl
  simp only [Instr.entry, hz, Sem.run_bind, getObj_run (P := P) h1 rfl, Result.andThen_ok, hback, getObj_run (P := P) he rfl, hf', bne_self_eq_false, Bool.false_eq_true, if_false, Sem.run_pure]
inductive CRel (ρ : Rho) : List (Option AEnt) → List (Option MapEntry) → Prop where
  | nil : CRel ρ [] []
  | stop (l l') (h : CRel ρ l l') : CRel ρ (none :: l) (none :: l')
  | goes (e : AEnt) (e' : MapEntry) (l l') (hk : VRel ρ e.key e'.key) (hv : VRel ρ e.val e'.val) (hb : e'.born = e.born) (h : CRel ρ l l') : CRel ρ (some e :: l) (some e' :: l')
theorem EntsRel.filter {f : AEnt → Bool} {g : MapEntry → Bool} (hfg : ∀ e e', e'.born = e.born → g e' = f e) : ∀ {l : List AEnt} {l' : List MapEntry}, EntsRel ρ l l' → EntsRel ρ (l.filter f) (l'.filter g)
  | _, _, .nil => .nil
  | _, _, .cons e e' l l' hk hv hb hl => by
    rw [List.filter_cons, List.filter_cons, hfg e e' hb]
    split
    · exact .cons _ _ _ _ hk hv hb (EntsRel.filter hfg hl)
    · exact EntsRel.filter hfg hl
theorem CRel.ofEnts : ∀ {l : List AEnt} {l' : List MapEntry}, EntsRel ρ l l' → CRel ρ (l.map some) (l'.map some)
  | _, _, .nil => .nil
  | _, _, .cons e e' l l' hk hv hb hl => .goes _ _ _ _ hk hv hb (CRel.ofEnts hl)
theorem CRel.get : ∀ {l : List (Option AEnt)} {l' : List (Option MapEntry)}, CRel ρ l l' → ∀ i, i < l'.length → (l[i]? = some none ∧ l'[i]? = some none) ∨ ∃ e e', l[i]? = some (some e) ∧ l'[i]? = some (some e') ∧ VRel ρ e.key e'.key ∧ VRel ρ e.val e'.val ∧ e'.born = e.born
  | _, _, .nil, i, hi => by simp at hi
  | _, _, .stop l l' h, i, hi => by
    cases i with
    | zero => exact .inl ⟨rfl, rfl⟩
    | succ i => simpa using CRel.get h i (by simpa using hi)
  | _, _, .goes e e' l l' hk hv hb h, i, hi => by
    cases i with
    | zero => exact .inr ⟨e, e', rfl, rfl, hk, hv, hb⟩
    | succ i => simpa using CRel.get h i (by simpa using hi)
theorem nextAll_none {id m since clock : Nat} {seen : List Nat} : ∀ {l : List (Option AEnt)} {i : Nat}, nextAll st id m since seen clock k l = true → l[i]? = some none → k overA st = true := by
  intro l
  induction l with
  | nil => intro i _ h; simp at h
  | cons c l ih =>
    intro i h hi
    cases c with
    | none =>
      simp only [nextAll, Bool.and_eq_true] at h
      exact h.1
    | some e =>
      simp only [nextAll, Bool.and_eq_true] at h
      cases i with
      | zero => simp at hi
      | succ i => exact ih h.2 (by simpa using hi)
theorem nextAll_some {id m since clock : Nat} {seen : List Nat} {en : AEnt} : ∀ {l : List (Option AEnt)} {i : Nat}, nextAll st id m since seen clock k l = true → l[i]? = some (some en) → st.isLocked id = false ∧ k (.tup [.bool true, en.key, en.val]) ⟨st.heap.set id (.miter (some m) since (seen ++ [en.born]) clock), st.next, st.lim⟩ = true := by
  intro l
  induction l with
  | nil => intro i _ h; simp at h
  | cons c l ih =>
    intro i h hi
    cases c with
    | none =>
      simp only [nextAll, Bool.and_eq_true] at h
      cases i with
      | zero => simp at hi
      | succ i => exact ih h.2 (by simpa using hi)
    | some e =>
      simp only [nextAll, Bool.and_eq_true, spK_eq] at h
      cases i with
      | zero => simp at hi; subst hi; exact relayK_true h.1
      | succ i => exact ih h.2 (by simpa using hi)
theorem next_run (hs : SRel B ρ st w) {x : AV} {x' : Value} {isS : Bool} {ty : TypeId} (hx : VRel ρ x x') (h : nextK st x isS k = true) :
    ∃ v st' ρ' v' w', k v st' = true ∧ (Instr.next x' isS ty).run P w = .ok v' w' ∧ VRel ρ' v v' ∧ SRel B ρ' st' w' ∧ Adv B ρ st w ρ' st' w' := by
  unfold nextK at h
  split at h <;> (try (cases h; done))
  rename_i id
  obtain ⟨p, rfl, hp, hb⟩ := hx.ptr_inv
  have hz : 0 - p.base = 0 := by omega
  have over : VRel ρ overA (.tuple #[.bool false]) := .tup _ _ (.cons _ _ _ _ (.bool _) .nil)
  split at h <;> (try (cases h; done))
  · rename_i since seen stepped hg
    obtain ⟨m', seen', h1, h2, rfl⟩ := iter_at hs hp hg
    refine ⟨_, st, ρ, _, w, h, ?_, over, hs, .refl _ _ _ _⟩
    simp only [Instr.next, hz, Sem.run_bind, getObj_run (P := P) h1 rfl, Result.andThen_ok, Sem.run_pure]
  · rename_i m since seen stepped hg
    obtain ⟨m', seen', h1, h2, q, hq, rfl⟩ := iter_at hs hp hg
    split at h <;> (try (cases h; done))
    rename_i es clock hgm
    obtain ⟨es', he, hrl⟩ := map_at hs hq hgm
    split at h <;> (try (cases h; done))
    rename_i hcond
    rw [spK_eq] at h
    have hemp : (!seen'.isEmpty && !es'.isEmpty && es'.all (fun e => decide (e.born ≥ stepped))) = false := by
      rw [← hcond]
      have e1 : seen'.isEmpty = seen.isEmpty := by rw [← h2]; simp
      have e2 : es'.isEmpty = es.isEmpty := by
        have := hrl.length
        rw [Array.length_toList] at this
        cases hes : es with
        | nil => rw [hes] at this; simp at this; simp [this]
        | cons a l => rw [hes] at this; simp only [List.isEmpty_cons]; cases hee : es'.isEmpty with | false => rfl | true => rw [Array.isEmpty_iff_size_eq_zero] at hee; simp at this; omega
      have e3 : ∀ (l : List AEnt) (l' : List MapEntry), EntsRel ρ l l' → l'.all (fun e => decide (e.born ≥ stepped)) = l.all (fun e => Nat.ble stepped e.born) := by
        intro l
        induction l with
        | nil => intro l' hl; cases hl; rfl
        | cons a l ih =>
          intro l' hl
          cases hl with
          | cons _ b _ l' _ _ hb hl =>
            simp only [List.all_cons, ih _ hl, hb]
            congr 1
            rw [Bool.eq_iff_iff]; simp [Nat.ble_eq]
      have e4 : es'.all (fun e => decide (e.born ≥ stepped)) = es'.toList.all (fun e => decide (e.born ≥ stepped)) := by cases es'; simp
      rw [e1, e2, e4, e3 _ _ hrl]
    obtain ⟨left, hleft⟩ : ∃ l, l = es'.filter fun e => !seen'.contains e.born := ⟨_, rfl⟩
    obtain ⟨cands, hcands⟩ : ∃ c : Array (Option MapEntry), c = (if (left.filter fun e => decide (e.born < since)).isEmpty then #[none] else #[]) ++ ((left.filter fun e => decide (e.born < since)) ++ (left.filter fun e => decide (e.born ≥ since))).map some := ⟨_, rfl⟩
    have hl1 : EntsRel ρ (es.filter fun e => !seen.contains e.born) left.toList := by
      rw [hleft, Array.toList_filter]
      refine hrl.filter fun e e' hb => ?_
      rw [hb, ← h2]; simp
    have hl2 : EntsRel ρ ((es.filter fun e => !seen.contains e.born).filter fun e => Nat.blt e.born since) (left.filter fun e => decide (e.born < since)).toList := by
      rw [Array.toList_filter]
      refine hl1.filter fun e e' hb => ?_
      rw [hb, Bool.eq_iff_iff]; simp [Nat.blt_eq]
    have hl3 : EntsRel ρ ((es.filter fun e => !seen.contains e.born).filter fun e => !Nat.blt e.born since) (left.filter fun e => decide (e.born ≥ since)).toList := by
      rw [Array.toList_filter]
      refine hl1.filter fun e e' hb => ?_
      rw [hb, Bool.eq_iff_iff]
      cases hbl : Nat.blt e.born since with
      | true => have := hbl; rw [Nat.blt_eq] at this; simp; omega
      | false =>
        simp
        rcases Nat.lt_or_ge e.born since with h5 | h5
        · have : Nat.blt e.born since = true := by rw [Nat.blt_eq]; exact h5
          rw [this] at hbl; cases hbl
        · exact h5
    have hc : CRel ρ (candA es since seen) cands.toList ∧ 0 < cands.size := by
      have h5 := CRel.ofEnts (hl2.append hl3)
      unfold candA
      have h6 := hl2.length
      rw [hcands]
      cases hold : (es.filter fun e => !seen.contains e.born).filter fun e => Nat.blt e.born since with
      | nil =>
        rw [hold] at h6
        have h7 : (left.filter fun e => decide (e.born < since)).isEmpty = true := by
          rw [Array.isEmpty_iff_size_eq_zero, ← Array.length_toList, h6]; rfl
        rw [h7]
        rw [hold] at h5
        refine ⟨?_, by rw [if_pos rfl, Array.size_append]; have : (#[none] : Array (Option MapEntry)).size = 1 := rfl; omega⟩
        simp only [if_true, Array.toList_append, Array.toList_map]
        exact .stop _ _ (by simpa using h5)
      | cons b l =>
        rw [hold] at h6
        have h7 : (left.filter fun e => decide (e.born < since)).isEmpty = false := by
          cases hee : (left.filter fun e => decide (e.born < since)).isEmpty with
          | false => rfl
          | true => rw [Array.isEmpty_iff_size_eq_zero, ← Array.length_toList, h6] at hee; simp at hee
        rw [h7]
        rw [hold] at h5
        refine ⟨?_, ?_⟩
        · simp only [Bool.false_eq_true, if_false, Array.toList_append, Array.toList_map]
          simpa using h5
        · have : 0 < (left.filter fun e => decide (e.born < since)).size := by rw [← Array.length_toList, h6]; simp
          simp only [Bool.false_eq_true, if_false, Array.size_append, Array.size_map]
          omega
    have hmain : ∀ s : Sem Value, s = (do
        match cands[← choose (.mapNext cands.size)]? with
        | some (some e) =>
          setObj p.blk (.mapIter (some q.blk) since (seen'.push e.born) clock)
          pure (.tuple #[.bool true, e.key, e.val])
        | some none => pure (.tuple #[.bool false])
        | none => stuck "Next: no such candidate") →
        ∃ v st' ρ' v' w', k v st' = true ∧ s.run P w = .ok v' w' ∧ VRel ρ' v v' ∧ SRel B ρ' st' w' ∧ Adv B ρ st w ρ' st' w' := by
      rintro s rfl
      have hch : ∃ j d, j < cands.size ∧ (choose (.mapNext cands.size)).run P w = .ok j { w with drawn := d } := by
        by_cases hf : cands.size ≤ 1
        · refine ⟨0, w.drawn, hc.2, ?_⟩
          rw [run_choose, if_pos (by simp [Question.forced, hf])]
        · refine ⟨_, w.drawn + 1, ?_, by rw [run_choose, if_neg (by simp [Question.forced]; omega)]⟩
          simp only [Question.cut]
          exact Nat.mod_lt _ hc.2
      obtain ⟨j, d, hj, hrun⟩ := hch
      simp only [Sem.run_bind, hrun, Result.andThen_ok]
      rcases hc.1.get j (by simpa using hj) with ⟨g1, g2⟩ | ⟨en, e', g1, g2, g3, g4, g5⟩
      · have g2' : cands[j]? = some none := by simpa using g2
        refine ⟨_, st, ρ, _, _, nextAll_none h g1, by rw [g2']; rfl, over, hs.drew d, .drew d⟩
      · have g2' : cands[j]? = some (some e') := by simpa using g2
        have hsd := hs.drew d
        obtain ⟨hlk, hkn⟩ := nextAll_some h g1
        obtain ⟨s1, s2⟩ := hsd.setObj (r' := .miter (some m) since (seen ++ [en.born]) clock) (o' := .mapIter (some q.blk) since (seen'.push e'.born) clock) hp hg rfl ⟨rfl, _, _, rfl, by rw [Array.toList_push, h2, g5], q, hq, rfl⟩
        refine ⟨_, _, ρ, .tuple #[.bool true, e'.key, e'.val], _, hkn, ?_, .tup _ _ (.cons _ _ _ _ (.bool _) (.cons _ _ _ _ g3 (.cons _ _ _ _ g4 .nil))), s1, (Adv.drew d).trans s2⟩
        rw [g2']
        have h1d : ({ w with drawn := d } : World).heap[p.blk]? = some (.mapIter (some q.blk) since seen' stepped) := h1
        simp only [Sem.run_bind, setObj_run (P := P) h1d rfl, Result.andThen_ok, Sem.run_pure]
    have hcond' : ¬ ((!seen'.isEmpty && !es'.isEmpty && es'.all (fun e => decide (e.born ≥ stepped))) = true) := by rw [hemp]; simp
    obtain ⟨v, st', ρ', v', w', r1, r2, r3, r4, r5⟩ := hmain _ rfl
    refine ⟨v, st', ρ', v', w', r1, ?_, r3, r4, r5⟩
    rw [← r2, hcands, hleft]
    simp only [Instr.next, hz, Sem.run_bind, getObj_run (P := P) h1 rfl, getObj_run (P := P) he rfl, Result.andThen_ok]
    rw [if_neg hcond']
    simp only [Sem.run_bind]
    rfl
end
end Go.Eng
/- Copy, clear, stores; the writing operations as a whole. -/
namespace Go.Eng
set_option linter.unusedVariables false
variable [Sym]

section
variable {B : Nat → Prop} {ρ : Rho} {st : St} {w : World} {P : Program} {k : AV → St → Bool} {e : Env} {a : Act}
theorem copy_run (hs : SRel B ρ st w) {tys : Array TypeId} {ty : TypeId} {s x : AV} {s' x' : Value} (hS : VRel ρ s s') (hx : VRel ρ x x') (h : copyK P st tys s x k = true) :
    ∃ v st' ρ' v' w', k v st' = true ∧ (Builtin.copy_ tys ty #[s', x']).run P w = .ok v' w' ∧ VRel ρ' v v' ∧ SRel B ρ' st' w' ∧ Adv B ρ st w ρ' st' w' := by
  unfold copyK at h
  split at h <;> (try (cases h; done))
  rename_i sT h0
  split at h <;> (try (cases h; done))
  rename_i el n m hu hn hm
  split at h <;> (try (cases h; done))
  rename_i sz hsz
  rw [natK_eq, firstK_eq] at h
  split at h <;> (try (cases h; done))
  rename_i l hl
  have hln := lenOfA_run (P := P) (w := w) hx hm
  obtain ⟨l', hr, hrun⟩ := first_run (P := P) (n := Nat.min m n) hs hx hm (show Nat.min m n ≤ m from Nat.min_le_left m n) hl
  have e0 : ∀ u v : Value, (#[u, v] : Array Value)[0]? = some u := fun _ _ => rfl
  have e1 : ∀ u v : Value, (#[u, v] : Array Value)[1]? = some v := fun _ _ => rfl
  split at h <;> (try (cases h; done))
  · cases hS
    cases hn
    refine ⟨_, st, ρ, .int .i64 (Nat.min m 0), w, h, ?_, .int _ _, hs, .refl _ _ _ _⟩
    simp only [Builtin.copy_, h0, e0, e1, Sem.run_bind, run_underlying hu, Result.andThen_ok, hln, sizeOf_run hsz, hrun, Sem.run_pure, goInt]
  · rename_i id ep off len cap ex esz
    obtain ⟨cap', o, p, rfl, hp, hb, hc, he, hl2, ho, hsb⟩ := hS.slice_inv
    cases hn
    rw [putsK_eq] at h
    split at h <;> (try (cases h; done))
    rename_i st' hputs
    by_cases hz : l' = #[]
    · subst hz
      have : l = [] := by cases hr; rfl
      subst this
      cases hputs
      refine ⟨_, st, ρ, .int .i64 (Nat.min m n), w, h, ?_, .int _ _, hs, .refl _ _ _ _⟩
      simp only [Builtin.copy_, h0, e0, e1, Sem.run_bind, run_underlying hu, Result.andThen_ok, hln, sizeOf_run hsz, hrun, Sem.run_pure, goInt, storeCells]
    · have hcp : 0 < cap' := by
        rcases Nat.eq_zero_or_pos cap' with h1 | h1
        · exfalso
          have h2 : Nat.min m n = 0 := by
            have h9 : Nat.min m n ≤ n := Nat.min_le_right m n
            omega
          apply hz
          rw [h2] at hrun
          apply Array.ext'
          have h3 : l = [] := by
            rw [h2] at hl
            unfold first firstK at hl
            split at hl
            · cases hl; rfl
            · rw [cellsK_eq, Nat.zero_mul] at hl
              cases hl; rfl
            · rw [listK_eq] at hl; cases hl; rfl
            · cases hl
          subst h3
          cases hr' : l'.toList with
          | nil => rfl
          | cons _ _ => rw [hr'] at hr; cases hr
        · exact h1
      have hoo := ho hcp
      subst hoo
      obtain ⟨w', g1, g2, g3⟩ := SRel.puts (B := B) hp (P := P) off hb l l'.toList 0 st w hs hr hputs
      refine ⟨_, st', ρ, .int .i64 (Nat.min m n), w', h, ?_, .int _ _, g2, g3⟩
      simp only [Builtin.copy_, h0, e0, e1, Sem.run_bind, run_underlying hu, Result.andThen_ok, hln, sizeOf_run hsz, hrun, Sem.run_pure, goInt, g1]
theorem clear_run (hs : SRel B ρ st w) {tys : Array TypeId} {ty : TypeId} {s : AV} {s' : Value} (hS : VRel ρ s s') (h : clearK P st tys s k = true) :
    ∃ v st' ρ' v' w', k v st' = true ∧ (Builtin.clear_ tys ty #[s']).run P w = .ok v' w' ∧ VRel ρ' v v' ∧ SRel B ρ' st' w' ∧ Adv B ρ st w ρ' st' w' := by
  unfold clearK at h
  split at h <;> (try (cases h; done))
  rename_i sT h0
  have e0 : ∀ u : Value, (#[u] : Array Value)[0]? = some u := fun _ => rfl
  split at h <;> (try (cases h; done))
  · rename_i hu
    cases hS
    refine ⟨_, st, ρ, .tuple #[], w, h, ?_, undefA_rel _, hs, .refl _ _ _ _⟩
    simp only [Builtin.clear_, h0, e0, Sem.run_bind, run_underlying hu, Result.andThen_ok, Sem.run_pure]
  · rename_i id hu
    split at h <;> (try (cases h; done))
    rename_i es clock hg
    obtain ⟨hlk, h⟩ := relayK_true h
    cases hS with
    | map _ p hp =>
      obtain ⟨es', he, hrl⟩ := map_at hs hp hg
      obtain ⟨s1, s2⟩ := hs.setObj (r' := .map [] clock) (o' := .map #[] clock) hp hg rfl ⟨rfl, _, rfl, .nil⟩
      refine ⟨_, _, ρ, .tuple #[], _, h, ?_, undefA_rel _, s1, s2⟩
      simp only [Builtin.clear_, h0, e0, Sem.run_bind, run_underlying hu, Result.andThen_ok, Sem.run_pure, getObj_run (P := P) he rfl, setObj_run (P := P) he rfl]
  · rename_i hu
    cases hS
    refine ⟨_, st, ρ, .tuple #[], w, h, ?_, undefA_rel _, hs, .refl _ _ _ _⟩
    simp only [Builtin.clear_, h0, e0, Sem.run_bind, run_underlying hu, Result.andThen_ok, Sem.run_pure]
  · rename_i el id ep off n cap ex esz hu
    obtain ⟨cap', o, p, rfl, hp, hb, hc, he, hl2, ho, hsb⟩ := hS.slice_inv
    split at h
    · refine ⟨_, st, ρ, .tuple #[], w, h, ?_, undefA_rel _, hs, .refl _ _ _ _⟩
      simp only [Builtin.clear_, h0, e0, Sem.run_bind, run_underlying hu, Result.andThen_ok, Sem.run_pure]
    · rename_i hn0
      split at h <;> (try (cases h; done))
      rename_i z hz
      rw [listK_eq, putsK_eq] at h
      split at h <;> (try (cases h; done))
      rename_i st' hputs
      obtain ⟨z', hz1, hz2⟩ := zeroA_run hz
      have hpos : 0 < n := Nat.pos_of_ne_zero hn0
      have hoo := ho (by omega)
      subst hoo
      have hzc := (hz1 ρ).cells
      have hzl : z'.cells.size = z.cells.length := by rw [← Array.length_toList]; exact hzc.length
      have hv : VsRel ρ (tile n z.cells) (Builtin.zeroCells z'.cells n).toList := by
        refine VsRel.of_get _ _ (by rw [Array.length_toList, zc_size, tile_length, hzl]) fun i v hi => ?_
        obtain ⟨h5, h6⟩ := tile_get _ _ _ _ hi
        obtain ⟨v', h7, h8⟩ := zerosArr (n := n * z'.cells.size) hzc (by rw [hzl]; exact h5) h6
        refine ⟨v', ?_, h8⟩
        rw [Array.getElem?_toList]
        exact h7
      obtain ⟨w', g1, g2, g3⟩ := SRel.puts (B := B) hp (P := P) off hb _ _ 0 st w hs hv hputs
      refine ⟨_, st', ρ, .tuple #[], w', h, ?_, undefA_rel _, g2, g3⟩
      obtain ⟨n', rfl⟩ : ∃ n', n = n' + 1 := ⟨n - 1, by omega⟩
      simp only [Builtin.clear_, h0, e0, Sem.run_bind, run_underlying hu, Result.andThen_ok, Sem.run_pure, hz2, g1]
theorem store_run (hs : SRel B ρ st w) {t : TypeId} {x v : AV} {x' v' : Value} (hx : VRel ρ x x') (hv : VRel ρ v v') {id ep off n : Nat} (hxe : x = .ptr id ep off) (hsz : szOf P t = some n) (hl : v.cells.length = n) (h : putsK st id ep off v.cells false (fun st => k undefA st) = true) :
    ∃ st' ρ' w', k undefA st' = true ∧ (Instr.storeAt t x' v').run P w = .ok () w' ∧ SRel B ρ' st' w' ∧ Adv B ρ st w ρ' st' w' := by
  subst hxe
  obtain ⟨p, rfl, hp, hb⟩ := hx.ptr_inv
  rw [putsK_eq] at h
  split at h <;> (try (cases h; done))
  rename_i st' hputs
  have hc := hv.cells
  have hcl : v'.cells.size = n := by rw [← Array.length_toList, hc.length, hl]
  obtain ⟨w', g1, g2, g3⟩ := SRel.puts (B := B) hp (P := P) off hb _ _ 0 st w hs hc hputs
  refine ⟨st', ρ, w', h, ?_, g2, g3⟩
  simp only [Instr.storeAt, Instr.sureAddr, Sem.run_bind, Sem.run_pure, Result.andThen_ok, storeVar, sizeOf_run hsz, hcl, ne_eq, not_true, if_false]
  exact g1
theorem usd_run (hs : SRel B ρ st w) {tys : Array TypeId} {ty : TypeId} {s : AV} {s' : Value} (hS : VRel ρ s s') (h : usdK st s k = true) :
    ∃ v st' ρ' v' w', k v st' = true ∧ (Builtin.unsafeSliceData_ tys ty #[s']).run P w = .ok v' w' ∧ VRel ρ' v v' ∧ SRel B ρ' st' w' ∧ Adv B ρ st w ρ' st' w' := by
  unfold usdK at h
  split at h
  · cases hS
    exact ⟨_, st, ρ, .pointer none, w, h, rfl, .nilp, hs, .refl _ _ _ _⟩
  · rename_i id ep off len c ex esz
    obtain ⟨cap', o, p, rfl, hp, hb, hc, he, hl2, ho, hsb⟩ := hS.slice_inv
    have hoo := ho (by omega)
    subst hoo
    obtain ⟨c', rfl⟩ : ∃ c', cap' = c' + 1 := ⟨cap' - 1, by omega⟩
    exact ⟨_, st, ρ, .pointer (some ⟨p.blk, off - p.base, none⟩), w, h, rfl, .ptr _ _ _ p hp hb, hs, .refl _ _ _ _⟩
  · cases h
/-- A row that is not looked at again. -/
theorem SRel.bury (hs : SRel B ρ st w) {id ep : Nat} {p : Pl} (hp : ρ id ep = some p) (hlk : st.isLocked id = false) (n : Nat) (a : Addr) (ha : a.block = p.blk) :
    SRel B ρ ⟨st.heap.set id .dead, st.next, st.lim⟩ (w.freeze a n) ∧ Adv B ρ st w ρ ⟨st.heap.set id .dead, st.next, st.lim⟩ (w.freeze a n) := by
  have hB : ¬ B p.blk := fun hb => by
    have := (hs.mapped _ _ _ hp).1 hb
    rw [this] at hlk; cases hlk
  have hsame : ∀ b, b ≠ p.blk → (w.freeze a n).heap[b]? = w.heap[b]? := fun b hb => by
    unfold World.freeze
    split
    · rfl
    · simp only [Array.getElem?_modify]
      rw [if_neg (by rw [ha]; exact fun h => hb h.symm)]
  have hsize : (w.freeze a n).heap.size = w.heap.size := by
    unfold World.freeze
    split <;> simp
  refine ⟨⟨fun id' ep' p' hp' => ?_, hs.inj, fun b hb => by rw [hsize]; exact hs.low b hb⟩, ⟨Rho.le_refl _, Nat.le_refl _, fun i hi hn => ⟨hn, ?_⟩, fun b hb => hsame b (by rintro rfl; exact hB hb), by rw [hsize]; exact Nat.le_refl _, ?_, ?_, fun x hx => ?_⟩⟩
  · obtain ⟨m1, m2, m3, r, m4, m5⟩ := hs.mapped _ _ _ hp'
    refine ⟨m1, by rw [hsize]; exact m2, m3, ?_⟩
    by_cases hid : id = id'
    · subst hid
      exact ⟨.dead, Tr.get_set_same _ _ _, trivial⟩
    · refine ⟨r, by rw [Tr.get_set_ne _ _ hid]; exact m4, ?_⟩
      rw [hsame _ (fun e => hid (hs.inj _ _ _ _ _ _ hp hp' e.symm).1)]
      exact m5
  · exact Tr.get_set_ne _ _ (fun e => by subst e; rw [hn] at hp; cases hp)
  · unfold World.freeze; split <;> rfl
  · unfold World.freeze; split <;> rfl
  · have := hsame x.block (by rintro e; exact hB (e ▸ hx))
    unfold World.frozen?
    rw [this]
theorem cellsOf_length : ∀ {n off : Nat} {l : List AV} {id ep : Nat}, cellsOf st id ep n off = some l → l.length = n := by
  intro n
  induction n with
  | zero => intro off l id ep h; cases h; rfl
  | succ n ih =>
    intro off l id ep h
    rw [cellsOf_succ] at h
    split at h
    · rename_i v vs e1 e2
      cases h
      simp [ih e2]
    · cases h
theorem SRel.cells_at (h : SRel B ρ st w) {id ep : Nat} {p : Pl} (hp : ρ id ep = some p) : ∀ {n off : Nat} {l : List AV}, p.base ≤ off → cellsOf st id ep n off = some l →
    ∃ vs, VsRel ρ l vs ∧ ∀ j u, vs[j]? = some u → w.cell? ((⟨p.blk, off - p.base, none⟩ : Addr).add j) = some u := by
  intro n
  induction n with
  | zero => intro off l _ hc; cases hc; exact ⟨[], .nil, fun j u hj => by simp at hj⟩
  | succ n ih =>
    intro off l hb hc
    rw [cellsOf_succ] at hc
    split at hc
    · rename_i v vs1 e1 e2
      cases hc
      obtain ⟨v', x, y⟩ := h.cell hp hb e1
      obtain ⟨vs', hv, hr⟩ := ih (by omega) e2
      refine ⟨v' :: vs', .cons _ _ _ _ y hv, fun j u hj => ?_⟩
      cases j with
      | zero =>
        simp at hj
        subst hj
        have : (⟨p.blk, off - p.base, none⟩ : Addr).add 0 = ⟨p.blk, off - p.base, none⟩ := by simp [Addr.add]
        rw [this]
        exact x
      | succ j =>
        have := hr j u (by simpa using hj)
        rw [addr_add p (off + 1) j (by omega)] at this
        rw [addr_add p off (j + 1) hb, show off + (j + 1) - p.base = off + 1 + j - p.base by omega]
        exact this
    · cases hc
theorem loadBytes_run : ∀ (r : List Nat) (vs : List Value) (a : Addr) (acc : ByteArray), vs = r.map (fun n : Nat => Value.int .u8 (n : Int)) → (∀ j u, vs[j]? = some u → w.cell? (a.add j) = some u) →
    (loadBytes a acc r.length).run P w = .ok ((r.map (fun n : Nat => (n : Int))).foldl (fun (s : ByteArray) n => s.push (UInt8.ofNat n.toNat)) acc) w := by
  intro r
  induction r with
  | nil => intro vs a acc _ _; simp [loadBytes]
  | cons n r ih =>
    intro vs a acc hvs hc
    subst hvs
    have h0 : w.cell? a = some (.int .u8 (n : Int)) := by
      have := hc 0 _ rfl
      simpa [Addr.add] using this
    have ih' := ih _ (a.add 1) (acc.push (UInt8.ofNat ((n : Int).toNat))) rfl (fun j y hy => by
      have := hc (j + 1) y (by simpa using hy)
      have e : (a.add 1).add j = a.add (j + 1) := by
        unfold Addr.add
        by_cases hj : j = 0
        · subst hj; simp
        · simp [hj]; omega
      rw [e]; exact this)
    simp only [List.length_cons, loadBytes, Sem.run_bind, run_load, h0, Result.andThen_ok]
    rw [List.map_cons, List.foldl_cons]
    exact ih'
theorem ustr_def (tys : Array TypeId) (ty : TypeId) (p : Option Addr) (m : Int) : ∃ s1 s2 s3 s4 s5 : String, Builtin.unsafeString_ tys ty #[.pointer p, .int .i64 m] =
    (do
      let n ← asInt (.int .i64 m)
      let some pt := tys[0]? | stuck s1
      if n < 0 then runtimePanic (.error s2)
      if n > IntKind.i64.max then unsupported (.unsafePointer s3)
      match p with
      | none =>
        if n = 0 then pure (.string .empty)
        else runtimePanic (.error s4)
      | some a =>
        if n = 0 then pure (.string .empty)
        else if ← variablesAt a (← elemOf pt) n.toNat then do
          let s ← loadBytes a .empty n.toNat
          freeze a n.toNat
          pure (.string s)
        else unsupported (.unsafePointer s5)) := ⟨_, _, _, _, _, rfl⟩
theorem ustr_run (hs : SRel B ρ st w) {tys : Array TypeId} {ty : TypeId} {x y : AV} {x' y' : Value} (hX : VRel ρ x x') (hY : VRel ρ y y') (h : ustrK P st tys x y k = true) :
    ∃ v st' ρ' v' w', k v st' = true ∧ (Builtin.unsafeString_ tys ty #[x', y']).run P w = .ok v' w' ∧ VRel ρ' v v' ∧ SRel B ρ' st' w' ∧ Adv B ρ st w ρ' st' w' := by
  unfold ustrK at h
  split at h <;> (try (cases h; done))
  rename_i pt hpt
  have hmax : IntKind.i64.max = 9223372036854775807 := rfl
  split at h <;> (try (cases h; done))
  · cases hY
    split at h <;> (try (cases h; done))
    · cases hX
      refine ⟨_, st, ρ, .string .empty, w, h, ?_, .str _ _ rfl, hs, .refl _ _ _ _⟩
      obtain ⟨s1, s2, s3, s4, s5, hd⟩ := ustr_def tys ty _ _; rw [hd]; simp [asInt, asIntOf, hpt, hmax]
    · rename_i id ep off
      obtain ⟨p, rfl, hp, hb⟩ := hX.ptr_inv
      refine ⟨_, st, ρ, .string .empty, w, h, ?_, .str _ _ rfl, hs, .refl _ _ _ _⟩
      obtain ⟨s1, s2, s3, s4, s5, hd⟩ := ustr_def tys ty _ _; rw [hd]; simp [asInt, asIntOf, hpt, hmax]
  · rename_i m
    cases hY
    split at h <;> (try (cases h; done))
    rename_i id ep
    obtain ⟨p, rfl, hp, hb⟩ := hX.ptr_inv
    split at h <;> (try (cases h; done))
    rename_i el elem c top lat sh hu hg
    split at h <;> (try (cases h; done))
    rename_i he hsz hble
    have := Nat.eq_of_beq_eq_true he
    subst this
    have hble := Nat.le_of_ble_eq_true hble
    split at h <;> (try (cases h; done))
    rename_i l hl
    split at h <;> (try (cases h; done))
    rename_i r hr
    obtain ⟨hlk, h⟩ := relayK_true h
    have hbase : p.base = 0 := by omega
    obtain ⟨vs, hv, hrun⟩ := hs.cells_at hp hb hl
    obtain ⟨h5, h6⟩ := bytesA_vals _ _ _ hr hv
    obtain ⟨_, _, _, rr, hrr, hrel⟩ := hs.mapped _ _ _ hp
    rw [hg] at hrr
    cases hrr
    obtain ⟨cs, lo, hi, g1, _⟩ := hrel
    have hlen : r.length = m + 1 := by
      have e1 := hv.length
      rw [h5, List.length_map, List.length_map] at e1
      have e2 := cellsOf_length hl
      omega
    have hsh : w.shape? p.blk = some (elem, cs.size) := by simp [World.shape?, g1]
    have hcell : ∀ j u, vs[j]? = some u → w.cell? ((⟨p.blk, 0 - p.base, none⟩ : Addr).add j) = some u := hrun
    have hm : m + 1 ≤ cs.size := by
      obtain ⟨u, hu⟩ : ∃ u, vs[m]? = some u := ⟨_, List.getElem?_eq_getElem (by rw [h5]; simp; omega)⟩
      have := hcell m u hu
      rw [addr_add p 0 m (by omega)] at this
      simp only [World.cell?, g1] at this
      have q : cs[0 + m - p.base]? = some u := by simpa using this
      have q := (Array.getElem?_eq_some_iff.1 q).1
      omega
    have hlies : liesAt P P.depth elem (cs.size / P.cellsOf elem) 0 elem (m + 1) = true := by
      have hc1 : P.cellsOf elem = 1 := cellsOf_sz hsz
      have hd : P.depth = (2 * (P.types.size + Made.depth) + 1) + 1 := rfl
      rw [hd]
      simp only [liesAt, Bool.or_eq_true]
      left
      rw [hd]
      simp [rowAt, hc1, sameLayout, hm]
    have hlb := loadBytes_run (P := P) r vs ⟨p.blk, 0 - p.base, none⟩ .empty (by rw [h5, List.map_map]; rfl) hcell
    rw [hlen] at hlb
    obtain ⟨s1, s2⟩ := hs.bury hp hlk (m + 1) ⟨p.blk, 0 - p.base, none⟩ rfl
    have hbs := push_bytes r .empty h6
    obtain ⟨out, hout⟩ : ∃ out, (r.map (fun n : Nat => (n : Int))).foldl (fun (s : ByteArray) n => s.push (UInt8.ofNat n.toNat)) .empty = out := ⟨_, rfl⟩
    rw [hout] at hbs hlb
    refine ⟨_, _, ρ, .string out, _, h, ?_, .str _ out (by rw [hbs]; rfl), s1, s2⟩
    · have h63 : ¬ (9223372036854775807 : Int) < (m : Int) + 1 := by omega
      have hneg : ¬ (m : Int) + 1 < 0 := by omega
      have hz : ¬ (m : Int) + 1 = 0 := by omega
      have htn : ((m : Int) + 1).toNat = m + 1 := by omega
      simp only [hbase] at hlb ⊢
      obtain ⟨s1, s2, s3, s4, s5, hd⟩ := ustr_def tys ty _ _
      rw [hd]
      simp [asInt, asIntOf, hpt, hmax, h63, hneg, hz, htn, variablesAt, hsh, elemOf, run_underlying hu, hlies, hlb]
theorem two_args (ht : TRel ρ e a.tmps) {args : Array Operand} {x y : AV} (h : evs e args.toList = some [x, y]) : ∃ x' y', args.map a.eval = #[x', y'] ∧ VRel ρ x x' ∧ VRel ρ y y' := by
  have hr := evs_relA ht _ _ h
  cases hm : (args.map a.eval).toList with
  | nil => rw [hm] at hr; cases hr
  | cons u l =>
    rw [hm] at hr
    cases hr with
    | cons _ _ _ _ h1 h2 => cases h2 with
      | cons _ v _ l' h3 h4 => cases h4; exact ⟨u, v, by apply Array.ext'; rw [hm], h1, h3⟩
theorem one_arg (ht : TRel ρ e a.tmps) {args : Array Operand} {x : AV} (h : evs e args.toList = some [x]) : ∃ x', args.map a.eval = #[x'] ∧ VRel ρ x x' := by
  have hr := evs_relA ht _ _ h
  cases hm : (args.map a.eval).toList with
  | nil => rw [hm] at hr; cases hr
  | cons u l =>
    rw [hm] at hr
    cases hr with
    | cons _ _ _ _ h1 h2 => cases h2; exact ⟨u, by apply Array.ext'; rw [hm], h1⟩
theorem opE_run (hs : SRel B ρ st w) (ht : TRel ρ e a.tmps) {o : Oper} (h : opEK P st e o k = true) : ERes B ρ st w P k (execOp a.eval o) := by
  obtain ⟨dst, op, type, pos, after, guard⟩ := o
  unfold opEK at h
  cases op <;> simp only [evK_eq, evsK_eq] at h <;> (try (cases h; done))
  case assign x =>
    split at h <;> (try (cases h; done))
    rename_i x0 hx
    exact ⟨x0, st, ρ, a.eval x, w, .value (a.eval x), h, rfl, .inl rfl, ev_rel ht hx, hs, .refl _ _ _ _⟩
  case store t x y =>
    split at h <;> (try (cases h; done))
    rename_i x0 hx
    split at h <;> (try (cases h; done))
    rename_i y0 hy
    split at h <;> (try (cases h; done))
    split at h <;> (try (cases h; done))
    rename_i n hn
    split at h <;> (try (cases h; done))
    rename_i hl
    exact ERes.ofU (store_run hs (ev_rel ht hx) (ev_rel ht hy) rfl hn (Nat.eq_of_beq_eq_true hl) h)
  case mapUpdate t m kk x =>
    split at h <;> (try (cases h; done))
    rename_i x0 hx
    split at h <;> (try (cases h; done))
    rename_i y0 hy
    split at h <;> (try (cases h; done))
    rename_i z0 hz
    exact ERes.ofU (mapPut_run hs (ev_rel ht hx) (ev_rel ht hy) (ev_rel ht hz) h)
  case insert t m kk x =>
    split at h <;> (try (cases h; done))
    rename_i x0 hx
    split at h <;> (try (cases h; done))
    rename_i y0 hy
    split at h <;> (try (cases h; done))
    rename_i z0 hz
    exact ERes.ofU (mapPut_run hs (ev_rel ht hx) (ev_rel ht hy) (ev_rel ht hz) h)
  case mapEntry t m kk =>
    split at h <;> (try (cases h; done))
    rename_i x0 hx
    split at h <;> (try (cases h; done))
    rename_i y0 hy
    exact ERes.ofV (mapEnt_run hs (ev_rel ht hx) (ev_rel ht hy) h)
  case entryStore t m s x =>
    split at h <;> (try (cases h; done))
    rename_i x0 hx
    split at h <;> (try (cases h; done))
    rename_i y0 hy
    split at h <;> (try (cases h; done))
    rename_i z0 hz
    exact ERes.ofU (entPut_run hs (ev_rel ht hx) (ev_rel ht hy) (ev_rel ht hz) h)
  case range t x =>
    split at h <;> (try (cases h; done))
    rename_i x0 hx
    exact ERes.ofV (range_run hs (ev_rel ht hx) h)
  case entry x =>
    split at h <;> (try (cases h; done))
    rename_i x0 hx
    exact ERes.ofV (entry_run hs (ev_rel ht hx) h)
  case next x isS =>
    split at h <;> (try (cases h; done))
    rename_i x0 hx
    exact ERes.ofV (next_run hs (ev_rel ht hx) h)
  case call c =>
    obtain ⟨cl, args, tys⟩ := c
    cases cl <;> simp only [] at h <;> (try (cases h; done))
    rename_i b
    cases b <;> simp only [] at h <;> (try (cases h; done))
    all_goals
      split at h <;> (try (cases h; done))
      rename_i l hl
      split at h <;> (try (cases h; done))
    · obtain ⟨x', y', hm, h1, h2⟩ := two_args ht hl
      have := ERes.ofV (appendK_run (ty := type) hs h1 h2 h)
      obtain ⟨v, st', ρ', v', w', nx, r1, r2, r3⟩ := this
      refine ⟨v, st', ρ', v', w', nx, r1, ?_, r3⟩
      simp only [execOp, resolve, Sem.run_bind, Sem.run_pure, Result.andThen_ok, invoke, builtin, hm]
      simpa only [Sem.run_bind, Sem.run_pure] using r2
    · obtain ⟨x', hm, h1⟩ := one_arg ht hl
      have := ERes.ofV (clear_run (ty := type) hs h1 h)
      obtain ⟨v, st', ρ', v', w', nx, r1, r2, r3⟩ := this
      refine ⟨v, st', ρ', v', w', nx, r1, ?_, r3⟩
      simp only [execOp, resolve, Sem.run_bind, Sem.run_pure, Result.andThen_ok, invoke, builtin, hm]
      simpa only [Sem.run_bind, Sem.run_pure] using r2
    · obtain ⟨x', y', hm, h1, h2⟩ := two_args ht hl
      have := ERes.ofV (copy_run (ty := type) hs h1 h2 h)
      obtain ⟨v, st', ρ', v', w', nx, r1, r2, r3⟩ := this
      refine ⟨v, st', ρ', v', w', nx, r1, ?_, r3⟩
      simp only [execOp, resolve, Sem.run_bind, Sem.run_pure, Result.andThen_ok, invoke, builtin, hm]
      simpa only [Sem.run_bind, Sem.run_pure] using r2
    · obtain ⟨x', y', hm, h1, h2⟩ := two_args ht hl
      have := ERes.ofV (mapDel_run (ty := type) hs h1 h2 h)
      obtain ⟨v, st', ρ', v', w', nx, r1, r2, r3⟩ := this
      refine ⟨v, st', ρ', v', w', nx, r1, ?_, r3⟩
      simp only [execOp, resolve, Sem.run_bind, Sem.run_pure, Result.andThen_ok, invoke, builtin, hm]
      simpa only [Sem.run_bind, Sem.run_pure] using r2
    · obtain ⟨x', hm, h1⟩ := one_arg ht hl
      have := ERes.ofV (usd_run (P := P) (tys := tys) (ty := type) hs h1 h)
      obtain ⟨v, st', ρ', v', w', nx, r1, r2, r3⟩ := this
      refine ⟨v, st', ρ', v', w', nx, r1, ?_, r3⟩
      simp only [execOp, resolve, Sem.run_bind, Sem.run_pure, Result.andThen_ok, invoke, builtin, hm]
      simpa only [Sem.run_bind, Sem.run_pure] using r2
    · obtain ⟨x', y', hm, h1, h2⟩ := two_args ht hl
      have := ERes.ofV (ustr_run (ty := type) hs h1 h2 h)
      obtain ⟨v, st', ρ', v', w', nx, r1, r2, r3⟩ := this
      refine ⟨v, st', ρ', v', w', nx, r1, ?_, r3⟩
      simp only [execOp, resolve, Sem.run_bind, Sem.run_pure, Result.andThen_ok, invoke, builtin, hm]
      simpa only [Sem.run_bind, Sem.run_pure] using r2
end
end Go.Eng
/- The abstract interpreter: regions, code, calls, rounds of a range over a function. -/
namespace Go.Eng
set_option linter.unusedVariables false
variable [Sym]

/-- How a piece of code ends. -/
inductive AX where
  | norm
  | exit (id : Nat)
  | ret
  | pan (v : AV)
/-- What is fixed for a frame: its function, how many slots it has, the loop whose round it is. -/
structure Ctx where
  fn : FuncId
  n : Nat
  round : Option Nat
abbrev KX := AX → Env → List Nat → St → Bool
/-- How a call goes on: what it hands back, or what it panics with. -/
abbrev KR := AV → St → Bool
def noP : KR := fun _ _ => false
/-- A call that a proved contract answers. -/
structure Hook where
  run : (FuncId → List AV → St → KR → KR → Bool) → List AV → St → KR → KR → Bool
/-- The functions whose calls are answered so. -/
class Hooks where
  hk : FuncId → Option Hook
  /-- Where marks may stand in the rows that a function sweeps. -/
  sweeps : FuncId → List Nat := fun _ => []
  /-- Regions of a function behind which orders may be merged. -/
  merges : FuncId → List Nat := fun _ => []
variable [Hooks]

/-- Is the operation wanted? -/
noncomputable def wantA (ops : Array Oper) (o : Oper) (e : Env) : Option Bool :=
  match o.guard with
  | none => some true
  | some (g, want) => match (ops[g]?).bind (·.dst) with
    | some t => match e.get t with
      | some (.bool b) => some (b == want)
      | some _ => some false
      | none => none
    | none => some false
noncomputable def putEK (n : Nat) (e : Env) (dst : Option Tmp) (v : AV) (k : Env → Bool) : Bool :=
  match dst with
  | some d => match Nat.blt d n with
    | true => e.setK d v k
    | false => false
  | none => k e
/-- The class of an operation: 0 quiet, 1 makes a block, 2 writes, 3 calls. -/
def opClass (o : Oper) : Nat :=
  match o.op with
  | .move _ | .pick .. | .load .. | .nilCheck _ | .binOp .. | .unOp .. | .convert .. | .extract .. | .makeFunc .. | .makeInterface .. | .field .. | .fieldAddr .. | .indexAddr .. | .index .. | .slice .. | .lookup .. | .build .. => 0
  | .call { callee := .builtin .len, .. } | .call { callee := .builtin .min, .. } | .call { callee := .builtin .max, .. } => 0
  | .alloc _ | .box .. | .makeMap .. | .makeSlice .. | .buildSlice .. => 1
  | .call { callee := .value _, .. } | .panic _ => 3
  | _ => 2
/-- The elder blocks for deferred calls are taken at the return. -/
noncomputable def unwindK (st : St) : List Nat → (St → Bool) → Bool
  | [], k => k st
  | d :: ds, k => match st.heap.get d with
    | some (.deferred true) => relayK st d (.deferred false) fun st => unwindK st ds k
    | _ => false
noncomputable def resultsK (P : Program) (st : St) (e : Env) : List ResultVar → (List AV → Bool) → Bool
  | [], k => k []
  | .tmp t :: rs, k => match e.get t with
    | some v => resultsK P st e rs fun vs => k (v :: vs)
    | none => false
  | .cell a t :: rs, k => match e.get a with
    | some (.ptr id ep off) => loadK P st t id ep off false fun v => resultsK P st e rs fun vs => k (v :: vs)
    | _ => false
def resA (vs : List AV) : AV :=
  match vs with
  | [v] => v
  | vs => .tup vs
noncomputable def argsK : List AV → Nat → Env → (Env → Bool) → Bool
  | [], _, e, k => k e
  | v :: vs, i, e, k => e.setK i v fun e => natK (i + 1) fun i => argsK vs i e k
abbrev RecX := Ctx → Code → Env → List Nat → St → KX → Bool
def callable (fn : Func) : Bool := !(fn.name == "runtime.NumGoroutine")
/-- A call of a function with a body. -/
noncomputable def callB (P : Program) (rec : RecX) (f : FuncId) (args : List AV) (st : St) (k kp : KR) : Bool :=
  match P.funcs[f]? with
  | some fn => match fn.body, callable fn, Nat.ble args.length fn.ntmps with
    | some c, true, true => argsK args 0 .lf fun e => rec ⟨f, fn.ntmps, none⟩ c e [] st fun x e ds st => match x with
      | .exit _ => false
      | .pan v => kp v st
      | _ => unwindK st ds fun st => resultsK P st e fn.results.toList fun vs => k (resA vs) st
    | _, _, _ => false
  | none => false
noncomputable def callK (P : Program) (rec : RecX) (f : FuncId) (args : List AV) (st : St) (k kp : KR) : Bool :=
  match Hooks.hk f with
  | some h => h.run (callB P rec) args st k kp
  | none => callB P rec f args st k kp
noncomputable def setParamsK (n : Nat) : List Tmp → List AV → Env → (Env → Bool) → Bool
  | [], [], e, k => k e
  | t :: ts, v :: vs, e, k => match Nat.blt t n with | true => e.setK t v fun e => setParamsK n ts vs e k | false => false
  | _, _, _, _ => false
/-- A loop's record is laid anew, in another state. -/
noncomputable def relayLoopK (st : St) (id : Nat) (s : LoopState) (p : Option Code) (k : St → Bool) : Bool :=
  match st.heap.get id with
  | some (.loop _ _ fn env n params assign body defers) => relayK st id (.loop s p fn env n params assign body defers) k
  | _ => false
noncomputable def roundK (rec : RecX) (id : Nat) (args : List AV) (st : St) (k : AV → St → Bool) : Bool :=
  match st.heap.get id with
  | some (.loop _ _ fn env n params assign body defers) => setParamsK n params args env fun e =>
    rec ⟨fn, n, some id⟩ assign e [] st fun x e ds st => match x, ds with
      | .norm, [] => match st.heap.get id with
        | some (.loop .ready p0 _ _ _ _ _ _ _) => relayLoopK st id .busy p0 fun st =>
          rec ⟨fn, n, some id⟩ body e [] st fun x e ds st => match ds with
            | [] => match x with
              | .norm => relayLoopK st id .ready none fun st => k (.bool true) st
              | .exit j => relayLoopK st id .done (some (.exit j)) fun st => k (.bool false) st
              | .ret => relayLoopK st id .done (some .ret) fun st => k (.bool false) st
              | .pan _ => false
            | _ :: _ => false
        | _ => false
      | _, _ => false
  | _ => false
noncomputable def callVK (P : Program) (rec : RecX) (f : AV) (args : List AV) (st : St) (k kp : KR) : Bool :=
  match f with
  | .fn g first cap => callK P rec g (first ++ args ++ cap) st k kp
  | .yield id => roundK rec id args st k
  | _ => false
/-- One operation. -/
noncomputable def opK (P : Program) (rec : RecX) (e : Env) (o : Oper) (st : St) (k kp : KR) : Bool :=
  match opClass o with
  | 0 => opQK P st e o false fun v => k v st
  | 1 => opAK P e o false fun r s => newK st r fun id st => k (s.mk id) st
  | 2 => opEK P st e o k
  | _ => match o.op with
    | .call { callee := .value f, args, .. } => evK e f false fun f => evsK e args.toList false fun args => callVK P rec f args st k kp
    | .panic x => evK e x false fun v => match v with | .iface t u => kp (.iface t u) st | _ => false
    | _ => false
noncomputable def opsK (P : Program) (rec : RecX) (c : Ctx) (ops : Array Oper) : List Nat → Env → St → (Env → St → Bool) → KR → Bool
  | [], e, st, k, _ => k e st
  | i :: is, e, st, k, kp => match ops[i]? with
    | none => opsK P rec c ops is e st k kp
    | some o => match wantA ops o e with
      | some true => opK P rec e o st (fun v st => putEK c.n e o.dst v fun e => opsK P rec c ops is e st k kp) kp
      | some false => putEK c.n e o.dst undefA fun e => opsK P rec c ops is e st k kp
      | none => false
noncomputable def rangeFK (P : Program) (rec : RecX) (c : Ctx) (f : Operand) (params : Array Tmp) (assign body : Code) (e : Env) (ds : List Nat) (st : St) (k : KX) : Bool :=
  evK e f false fun f =>
    (fun (go : Nat → List Nat → St → Bool) => match c.round with
      | none => newK st (.deferred true) fun d st => go d (d :: ds) st
      | some l => match st.heap.get l with
        | some (.loop _ _ _ _ _ _ _ _ d) => go d ds st
        | _ => false) fun d ds st =>
      newK st (.loop .ready none c.fn e c.n params.toList assign body d) fun l st =>
        callVK P rec f [.yield l] st (fun _ st => match st.heap.get l with
          | some (.loop s p _ _ _ _ _ _ _) => match s with
            | .busy => false
            | _ => relayLoopK st l .exhausted p fun st => match p with
              | none => k .norm e ds st
              | some (.exit j) => k (.exit j) e ds st
              | some .ret => k .ret e ds st
              | some _ => false
          | _ => false) noP
/-! Regions whose order is open -/
def preds (ops : Array Oper) (j : Nat) : List Nat :=
  match ops[j]? with
  | some o => (o.after.toList.filter fun e => Region.binds .any e).map (·.on)
  | none => []
def unite : List Nat → List Nat → List Nat
  | [], m => m
  | a :: l, m => match m.contains a with | true => unite l m | false => unite l (a :: m)
def uniteAll : List (List Nat) → List Nat
  | [] => []
  | l :: ls => unite l (uniteAll ls)
/-- What must stand before an operation. -/
def anc (ops : Array Oper) : Nat → Nat → List Nat
  | 0, _ => []
  | f + 1, j => uniteAll (preds ops j :: (preds ops j).map (anc ops f))
def quietCls (ops : Array Oper) (i : Nat) : Bool :=
  match ops[i]? with
  | some o => Nat.blt (opClass o) 2
  | none => true
/-- How a region is worked off, whatever writes as late as can be; 'alt': either way must do. -/
inductive DT where
  | fin
  | one (i : Nat) (t : DT)
  | alt (a b : DT)
def readyL (ops : Array Oper) (done : List Nat) : List Nat := (List.range ops.size).filter fun i => !done.contains i && (preds ops i).all done.contains
def alts (g : Nat → DT) : Nat → List Nat → DT
  | r, [] => .one r (g r)
  | r, x :: xs => .alt (.one r (g r)) (alts g x xs)
def mkT (ops : Array Oper) : Nat → List Nat → DT
  | 0, _ => .fin
  | f + 1, done => match readyL ops done with
    | [] => .fin
    | r :: rs => match (r :: rs).find? (quietCls ops) with
      | some i => .one i (mkT ops f (i :: done))
      | none => alts (fun i => mkT ops f (i :: done)) r rs
noncomputable def recheck (P : Program) (ops : Array Oper) (st : St) (e : Env) : List Nat → Bool
  | [] => true
  | i :: is => (match ops[i]? with
    | some o => match opClass o, wantA ops o e with
      | 0, some true => opQK P st e o false fun v => match o.dst with
        | some d => match e.get d with
          | some u => AV.beq v u
          | none => false
        | none => true
      | 0, none => false
      | _, _ => true
    | none => true) && recheck P ops st e is
noncomputable def drawGo (P : Program) (rec : RecX) (c : Ctx) (ops : Array Oper) : DT → List Nat → Env → St → (Env → St → Bool) → KR → Bool
  | .fin, _, e, st, k, _ => k e st
  | .one i t, done, e, st, k, kp => match ops[i]? with
    | none => false
    | some o => match wantA ops o e with
      | some true => opK P rec e o st (fun v st => putEK c.n e o.dst v fun e =>
          (match opClass o with
            | 0 => true
            | 1 => recheck P ops st e done
            | _ => recheck P ops st e (done.filter fun j => !(anc ops ops.size i).contains j)) && drawGo P rec c ops t (i :: done) e st k kp) kp
      | some false => putEK c.n e o.dst undefA fun e => drawGo P rec c ops t (i :: done) e st k kp
      | none => false
  | .alt a b, done, e, st, k, kp => drawGo P rec c ops a done e st k kp && drawGo P rec c ops b done e st k kp
def looks (ops : Array Oper) (o : Oper) : List Tmp :=
  (o.op.operands.toList.filterMap fun x => match x with | .tmp t => some t | _ => none) ++
  (match o.guard with
    | some (g, _) => ((ops[g]?).bind (·.dst)).toList
    | none => [])
def dstsOk (ops : Array Oper) : Bool :=
  (List.range ops.size).all fun i => (List.range ops.size).all fun j => match ops[i]?, ops[j]? with
    | some x, some y => match x.dst with
      | some d => match Nat.beq i j with
        | true => !(looks ops y).contains d || Nat.ble 2 (opClass y)
        | false => (match y.dst with | some d' => !Nat.beq d d' | none => true) && (!(looks ops y).contains d || (preds ops j).contains i || (Nat.ble 2 (opClass x) && (anc ops ops.size i).contains j))
      | none => true
    | _, _ => true
def regOk (ops : Array Oper) : Bool :=
  dstsOk ops && (List.range ops.size).all fun j => (preds ops j).all fun i => Nat.blt i j
noncomputable def drawK (P : Program) (rec : RecX) (c : Ctx) (ops : Array Oper) (e : Env) (st : St) (k : Env → St → Bool) (kp : KR) : Bool :=
  match regOk ops with
  | true => drawGo P rec c ops (mkT ops ops.size []) [] e st k kp
  | false => false

/-- A panic leaves a frame without deferred calls. -/
noncomputable def panK (ds : List Nat) (k : KX) : KR := fun v st => List.rec (motive := fun _ => Bool) (k (.pan v) .lf [] st) (fun _ _ _ => false) ds
/-- Code. -/
noncomputable def codeK (P : Program) (rec : RecX) (c : Ctx) (x : Code) (e : Env) (ds : List Nat) (st : St) (k : KX) : Bool :=
  match x with
  | .skip => k .norm e ds st
  | .label _ => k .norm e ds st
  | .region _ ops false => opsK P rec c ops (List.range ops.size) e st (fun e st => k .norm e ds st) (panK ds k)
  | .region _ ops true => drawK P rec c ops e st (fun e st => k .norm e ds st) (panK ds k)
  | .seq a b => rec c a e ds st fun x e ds st => match x with
    | .norm => rec c b e ds st k
    | x => k x e ds st
  | .cond o a b => evK e o false fun v => match v with
    | .bool true => rec c a e ds st k
    | .bool false => rec c b e ds st k
    | _ => false
  | .block id b => rec c b e ds st fun x e ds st => match x with
    | .exit j => match Nat.beq j id with
      | true => k .norm e ds st
      | false => k (.exit j) e ds st
    | x => k x e ds st
  | .loop b => rec c b e ds st fun x e ds st => match x with
    | .norm => rec c (.loop b) e ds st k
    | x => k x e ds st
  | .scope b => rec c b e ds st k
  | .exit id => k (.exit id) e ds st
  | .ret => k .ret e ds st
  | .rangeFunc f params assign body => rangeFK P rec c f params assign body e ds st k
  | _ => false
noncomputable def exec (P : Program) (fuel : Nat) : RecX := Nat.rec (fun _ _ _ _ _ _ => false) (fun _ rec c x e ds st k => codeK P rec c x e ds st k) fuel
theorem exec_succ (P : Program) (n : Nat) (c : Ctx) (x : Code) (e : Env) (ds : List Nat) (st : St) (k : KX) : exec P (n + 1) c x e ds st k = codeK P (exec P n) c x e ds st k := rfl
/-- A call of a function from nothing. -/
noncomputable def run (P : Program) (fuel : Nat) (f : FuncId) (args : List AV) (ok : AV → Bool) : Bool := callB P (exec P fuel) f args ⟨.lf, 0, 0⟩ (fun v _ => ok v) noP
end Go.Eng
/- The abstract interpreter is sound: the notions, and the small pieces of a frame. -/
namespace Go.Eng
set_option linter.unusedVariables false
variable [Sym] [Hooks]

/-- A frame's marks for deferred calls. -/
inductive DRel (ρ : Rho) : List Nat → List Deferred → Prop where
  | nil : DRel ρ [] []
  | cons (id : Nat) (p : Pl) (l : List Nat) (l' : List Deferred) (h : ρ id 0 = some p) (hl : DRel ρ l l') : DRel ρ (id :: l) ({ target := .collected p.blk, args := #[] } :: l')
theorem DRel.mono {ρ ρ' : Rho} (h : ρ.le ρ') : ∀ {l : List Nat} {l' : List Deferred}, DRel ρ l l' → DRel ρ' l l'
  | _, _, .nil => .nil
  | _, _, .cons id p l l' e hl => .cons id p l l' (h _ _ _ e) (hl.mono h)
def RoundRel (ρ : Rho) (r : Option Nat) (r' : Option Nat) : Prop :=
  match r with
  | none => r' = none
  | some id => ∃ p, ρ id 0 = some p ∧ r' = some p.blk
theorem RoundRel.mono {ρ ρ' : Rho} (h : ρ.le ρ') {r r' : Option Nat} (hr : RoundRel ρ r r') : RoundRel ρ' r r' := by
  cases r with
  | none => exact hr
  | some id => obtain ⟨p, a, b⟩ := hr; exact ⟨p, h _ _ _ a, b⟩
/-- A frame between two steps. -/
structure FRel (ρ : Rho) (c : Ctx) (e : Env) (ds : List Nat) (b : Frame) (a : Act) : Prop where
  slots : TRel ρ e a.tmps
  size : a.tmps.size = c.n
  marks : DRel ρ ds a.defers
  kind : b.kind = .normal
  fn : b.fn = c.fn
  round : RoundRel ρ c.round b.roundOf
theorem FRel.mono {ρ ρ' : Rho} (h : ρ.le ρ') {c : Ctx} {e : Env} {ds : List Nat} {b : Frame} {a : Act} (hf : FRel ρ c e ds b a) : FRel ρ' c e ds b a :=
  ⟨hf.slots.mono h, hf.size, hf.marks.mono h, hf.kind, hf.fn, hf.round.mono h⟩
/-- A panic's chain. -/
def chain (v : Value) : List PanicEntry := [{ v, recovered := false }]
/-- Where a piece of code arrives. -/
def Arr (P : Program) (ρ : Rho) (m : Machine) (b : Frame) (k : List Item) (cs : List Frame) (x : AX) (a : Act) (w : World) : Prop :=
  match x with
  | .norm => Steps P m (lone (b.atR a k) cs w)
  | .exit id => ∃ j, exitTo id (j ++ k) = exitTo id k ∧ Steps P m (lone (b.atR a (.code (.exit id) :: (j ++ k))) cs w)
  | .ret => ∃ todo, Steps P m (lone (b.atR a (.code .ret :: todo)) cs w)
  | .pan v => ∃ v' todo, VRel ρ v v' ∧ a.defers = [] ∧ Steps P m (lone ((b.atR a todo).raise (chain v')) cs w)
theorem Arr.of_steps {P : Program} {ρ : Rho} {m m₁ : Machine} {b : Frame} {k : List Item} {cs : List Frame} {x : AX} {a : Act} {w : World} (h : Steps P m m₁) (h' : Arr P ρ m₁ b k cs x a w) : Arr P ρ m b k cs x a w := by
  cases x with
  | norm => exact h.trans h'
  | exit id => obtain ⟨j, hj, hs⟩ := h'; exact ⟨j, hj, h.trans hs⟩
  | ret => obtain ⟨todo, hs⟩ := h'; exact ⟨todo, h.trans hs⟩
  | pan v => obtain ⟨v', todo, h1, h2, hs⟩ := h'; exact ⟨v', todo, h1, h2, h.trans hs⟩
section
variable {B : Nat → Prop} {ρ : Rho} {st : St} {w : World} {P : Program}
/-- What the rest of the run is handed. -/
def XRes (B : Nat → Prop) (P : Program) (c : Ctx) (b : Frame) (ρ : Rho) (st : St) (w : World) (m : Machine) (kk : List Item) (cs : List Frame) (k : KX) : Prop :=
  ∃ x e' ds' st' ρ' a' w', k x e' ds' st' = true ∧ SRel B ρ' st' w' ∧ FRel ρ' c e' ds' b a' ∧ Adv B ρ st w ρ' st' w' ∧ Arr P ρ' m b kk cs x a' w'
/-- The interpreter, at some fuel, is sound. -/
def RecOK (P : Program) (rec : RecX) : Prop :=
  ∀ (B : Nat → Prop) (c : Ctx) (x : Code) (e : Env) (ds : List Nat) (st : St) (k : KX), rec c x e ds st k = true →
    ∀ (ρ : Rho) (w : World) (b : Frame) (a : Act) (kk : List Item) (cs : List Frame), SRel B ρ st w → FRel ρ c e ds b a → XRes B P c b ρ st w (lone (b.atR a (.code x :: kk)) cs w) kk cs k
/-- How a call ends. -/
def Went (B : Nat → Prop) (ρ : Rho) (st : St) (w : World) (k kp : KR) (e : Ending) (w' : World) : Prop :=
  (∃ v st' ρ' v', e = .returned v' ∧ k v st' = true ∧ SRel B ρ' st' w' ∧ VRel ρ' v v' ∧ Adv B ρ st w ρ' st' w') ∨
  (∃ v st' ρ' v', e = .panicked (chain v') ∧ kp v st' = true ∧ SRel B ρ' st' w' ∧ VRel ρ' v v' ∧ Adv B ρ st w ρ' st' w')
/-- A function that the machine enters. -/
def Callable (P : Program) (f : FuncId) : Prop := ∃ fn c, P.funcs[f]? = some fn ∧ fn.body = some c ∧ callable fn = true
/-- A sound answer to calls of a function. -/
def CallOK (B : Nat → Prop) (P : Program) (f : FuncId) (call : List AV → St → KR → KR → Bool) : Prop :=
  ∀ args st k kp, call args st k kp = true → ∀ (ρ : Rho) (w : World) (args' : Array Value), SRel B ρ st w → VsRel ρ args args'.toList → Callable P f ∧ Calls P f args' w (Went B ρ st w k kp)
def HookOK (P : Program) (f : FuncId) (h : Hook) : Prop :=
  ∀ (call : FuncId → List AV → St → KR → KR → Bool), (∀ B g, CallOK B P g (call g)) → ∀ B, CallOK B P f (h.run call)
class HooksOK (P : Program) : Prop where
  ok : ∀ f h, Hooks.hk f = some h → HookOK P f h
/-- A call, of whatever sort, that the machine takes from an operation's outcome: 'nx' is 'enter' or 'round'. -/
def CallRes (B : Nat → Prop) (P : Program) (ρ : Rho) (st : St) (w : World) (fr : Frame) (cs : List Frame) (k kp : KR) : Prop :=
  ∀ c, (∃ v st' ρ' v' w', k v st' = true ∧ SRel B ρ' st' w' ∧ VRel ρ' v v' ∧ Adv B ρ st w ρ' st' w' ∧ Steps P (lone fr (c :: cs) w) (lone (c.finish v') cs w')) ∨
    (∃ v st' ρ' v' w', kp v st' = true ∧ SRel B ρ' st' w' ∧ VRel ρ' v v' ∧ Adv B ρ st w ρ' st' w' ∧ Steps P (lone fr (c :: cs) w) (lone (c.raise (chain v')) cs w'))
theorem callRes_of {f : FuncId} {args' : Array Value} {k kp : KR} {cs : List Frame} (h : Calls P f args' w (Went B ρ st w k kp)) : CallRes B P ρ st w (Frame.enter P f args' .normal) cs k kp := by
  intro c
  obtain ⟨e, w', fr, hw, hc, _, hl⟩ := h (c :: cs)
  rcases hw with ⟨v, st', ρ', v', rfl, h1, h2, h3, h4⟩ | ⟨v, st', ρ', v', rfl, h1, h2, h3, h4⟩
  · exact .inl ⟨v, st', ρ', v', w', h1, h2, h3, h4, Steps.trans hc (.one (step_leave_returned hl))⟩
  · exact .inr ⟨v, st', ρ', v', w', h1, h2, h3, h4, Steps.trans hc (.one (step_leave_panicked hl))⟩
theorem wantA_spec {ops : Array Oper} {o : Oper} {e : Env} {tmps : Array Value} {b : Bool} (ht : TRel ρ e tmps) (h : wantA ops o e = some b) : Region.wanted o (yielded ops tmps) = b := by
  unfold wantA at h
  unfold Region.wanted
  split at h
  · rename_i hg; rw [hg]; cases h; rfl
  · rename_i g want hg
    rw [hg]
    simp only [yielded]
    split at h
    · rename_i t hd
      rw [hd]
      simp only [Option.bind_some]
      split at h
      · rename_i b' hv
        cases h
        obtain ⟨v', h1, h2⟩ := ht _ _ hv
        cases h2
        rw [h1]
        cases b' <;> cases want <;> rfl
      · rename_i v hnb hv
        cases h
        obtain ⟨v', h1, h2⟩ := ht _ _ hv
        rw [h1]
        cases h2 <;> first | rfl | (exact (hnb _ rfl).elim)
      · cases h
    · rename_i hd
      rw [hd]
      cases h; rfl
theorem putEK_spec {c : Ctx} {e : Env} {ds : List Nat} {b : Frame} {a : Act} {dst : Option Tmp} {v : AV} {v' : Value} {k : Env → Bool} (hf : FRel ρ c e ds b a) (hv : VRel ρ v v') (h : putEK c.n e dst v k = true) : ∃ e', k e' = true ∧ FRel ρ c e' ds b (a.put dst v') := by
  unfold putEK at h
  split at h
  · rename_i d
    split at h
    · rename_i hlt
      rw [Tr.setK_eq] at h
      have hlt : d < a.tmps.size := by rw [hf.size]; simpa [Nat.blt_eq] using hlt
      refine ⟨_, h, ⟨fun t u hu => ?_, by simp only [Act.put, Array.size_setIfInBounds]; exact hf.size, hf.marks, hf.kind, hf.fn, hf.round⟩⟩
      rw [Tr.get_set] at hu
      split at hu
      · rename_i hd; subst hd; cases hu
        exact ⟨v', by simp only [Act.put]; rw [Array.getElem?_setIfInBounds, if_pos rfl, if_pos hlt], hv⟩
      · rename_i hd
        obtain ⟨u', h1, h2⟩ := hf.slots t u hu
        exact ⟨u', by simp only [Act.put]; rw [Array.getElem?_setIfInBounds_ne hd]; exact h1, h2⟩
    · cases h
  · exact ⟨e, h, hf⟩
theorem resultsK_spec (hs : SRel B ρ st w) {e : Env} {tmps : Array Value} (ht : TRel ρ e tmps) : ∀ (rs : List ResultVar) (k : List AV → Bool), resultsK P st e rs k = true →
    ∃ vs vs', k vs = true ∧ VsRel ρ vs vs' ∧ (rs.mapM (fun r => match r with | .tmp t => pure (tmps.getD t undef) | .cell a t => do loadVar t (← asAddr (tmps.getD a undef)) : ResultVar → Sem Value)).run P w = .ok vs' w := by
  intro rs
  induction rs with
  | nil => intro k h; exact ⟨[], [], h, .nil, rfl⟩
  | cons r rs ih =>
    intro k h
    cases r with
    | tmp t =>
      simp only [resultsK] at h
      split at h <;> (try (cases h; done))
      rename_i v hv
      obtain ⟨vs, vs', h1, h2, h3⟩ := ih _ h
      obtain ⟨v', h4, h5⟩ := ht _ _ hv
      refine ⟨v :: vs, v' :: vs', h1, .cons _ _ _ _ h5 h2, ?_⟩
      have : tmps.getD t undef = v' := by simp [h4]
      simp only [List.mapM_cons, Sem.run_bind, Sem.run_pure, Result.andThen_ok, h3, this]
    | cell a t =>
      simp only [resultsK] at h
      split at h <;> (try (cases h; done))
      rename_i id ep off hv
      rw [loadK_eq] at h
      split at h <;> (try (cases h; done))
      rename_i v hl
      obtain ⟨vs, vs', h1, h2, h3⟩ := ih _ h
      obtain ⟨u', h4, h5⟩ := ht _ _ hv
      obtain ⟨p, rfl, hp, hb⟩ := h5.ptr_inv
      obtain ⟨v', h6, h7⟩ := hs.load (P := P) hp hb hl
      refine ⟨v :: vs, v' :: vs', h1, .cons _ _ _ _ h6 h2, ?_⟩
      have : tmps.getD a undef = .pointer (some ⟨p.blk, off - p.base, none⟩) := by simp [h4]
      have hA : (asAddr (.pointer (some ⟨p.blk, off - p.base, none⟩))).run P w = .ok ⟨p.blk, off - p.base, none⟩ w := rfl
      simp only [List.mapM_cons, Sem.run_bind]
      rw [this, hA]
      simp only [Sem.run_pure, Result.andThen_ok, h7, h3]
theorem results_spec (hs : SRel B ρ st w) {e : Env} {tmps : Array Value} (ht : TRel ρ e tmps) {fn : Func} {k : List AV → Bool} (h : resultsK P st e fn.results.toList k = true) :
    ∃ vs v', k vs = true ∧ VRel ρ (resA vs) v' ∧ (results fn tmps).run P w = .ok v' w := by
  obtain ⟨vs, vs', h1, h2, h3⟩ := resultsK_spec hs ht _ _ h
  have hrun : (fn.results.mapM (fun r => match r with | .tmp t => pure (tmps.getD t undef) | .cell a t => do loadVar t (← asAddr (tmps.getD a undef)) : ResultVar → Sem Value)).run P w = .ok vs'.toArray w := by
    rw [Array.mapM_eq_mapM_toList]
    simp only [Sem.run_map, h3, Result.andThen_ok]
  refine ⟨vs, if h : vs'.toArray.size = 1 then vs'.toArray[0] else .tuple vs'.toArray, h1, ?_, ?_⟩
  · cases h2 with
    | nil => exact .tup _ _ .nil
    | cons v v' l l' hv hl => cases hl with
      | nil => exact hv
      | cons u u' m m' hu hm => exact .tup _ _ (.cons _ _ _ _ hv (.cons _ _ _ _ hu hm))
  · simp only [results, Sem.run_bind]
    erw [hrun]
    rfl
end
end Go.Eng
/- Calls. -/
namespace Go.Eng
set_option linter.unusedVariables false
variable [Sym] [Hooks]

section
variable {B : Nat → Prop} {ρ : Rho} {st : St} {w : World} {P : Program}
theorem relay_deferred (hs : SRel B ρ st w) {d : Nat} {p : Pl} (hlk : st.isLocked d = false) (hp : ρ d 0 = some p) (hg : st.heap.get d = some (.deferred true)) :
    (Instr.takeDeferred p.blk).run P w = .ok [] { w with heap := w.heap.setIfInBounds p.blk (.deferred none) } ∧
      SRel B ρ ⟨st.heap.set d (.deferred false), st.next, st.lim⟩ { w with heap := w.heap.setIfInBounds p.blk (.deferred none) } ∧ Adv B ρ st w ρ ⟨st.heap.set d (.deferred false), st.next, st.lim⟩ { w with heap := w.heap.setIfInBounds p.blk (.deferred none) } := by
  obtain ⟨_, _, _, r, hr, hrel⟩ := hs.mapped _ _ _ hp
  rw [hg] at hr; cases hr
  have hh : w.heap[p.blk]? = some (.deferred (some [])) := hrel.2
  obtain ⟨s1, s2⟩ := hs.setObj (r' := .deferred false) (o' := .deferred none) hp hg rfl ⟨rfl, rfl⟩
  refine ⟨?_, s1, s2⟩
  simp only [Instr.takeDeferred, Sem.run_bind, getObj_run (P := P) hh rfl, Result.andThen_ok, setObj_run (P := P) hh rfl, Sem.run_pure]
theorem step_mark {fr : Frame} {cs : List Frame} {blk : Nat} {ds : List Deferred} {w' : World} (hm : fr.mode = .returning) (hd : fr.defers = { target := .collected blk, args := #[] } :: ds) (hr : (Instr.takeDeferred blk).run P w = .ok [] w') :
    step P (lone fr cs w) = .next (lone { fr with defers := ds } cs w') :=
  step_lone_go (by
    simp only [stepG, hm, unwind, hd, Sem.runT_eq, hr]
    simp)
theorem unwindK_spec : ∀ (l : List Nat) (st : St) (w : World) (k : St → Bool) (fr : Frame) (ds : List Deferred), SRel B ρ st w → DRel ρ l ds → fr.mode = .returning → fr.defers = ds → unwindK st l k = true →
    ∃ st' w', k st' = true ∧ SRel B ρ st' w' ∧ Adv B ρ st w ρ st' w' ∧ ∀ cs, Steps P (lone fr cs w) (lone { fr with defers := [] } cs w') := by
  intro l
  induction l with
  | nil =>
    intro st w k fr ds hs hd hm hf h
    cases hd
    refine ⟨st, w, h, hs, .refl _ _ _ _, fun cs => ?_⟩
    have : ({ fr with defers := [] } : Frame) = fr := by rw [← hf]
    rw [this]; exact .refl _ _
  | cons d l ih =>
    intro st w k fr ds hs hd hm hf h
    cases hd with
    | cons _ p _ ds' hp hl =>
      simp only [unwindK] at h
      split at h <;> (try (cases h; done))
      rename_i hg
      obtain ⟨hlk, h⟩ := relayK_true h
      obtain ⟨hr, s1, s2⟩ := relay_deferred (P := P) hs hlk hp hg
      obtain ⟨st', w', h1, h2, h3, h4⟩ := ih _ _ k { fr with defers := ds' } ds' s1 hl hm rfl h
      exact ⟨st', w', h1, h2, s2.trans h3, fun cs => .head (step_mark hm hf hr) (h4 cs)⟩
theorem argsK_spec : ∀ (vs : List AV) (i : Nat) (e : Env) (k : Env → Bool) (tmps : Array Value), argsK vs i e k = true → TRel ρ e tmps → (∀ j v, vs[j]? = some v → ∃ v', tmps[i + j]? = some v' ∧ VRel ρ v v') → ∃ e', k e' = true ∧ TRel ρ e' tmps := by
  intro vs
  induction vs with
  | nil => intro i e k tmps h ht _; exact ⟨e, h, ht⟩
  | cons v vs ih =>
    intro i e k tmps h ht hv
    simp only [argsK, Tr.setK_eq, natK_eq] at h
    refine ih (i + 1) _ k tmps h (fun t u hu => ?_) (fun j u hj => ?_)
    · rw [Tr.get_set] at hu
      split at hu
      · rename_i hit; subst hit; cases hu
        simpa using hv 0 v (by simp)
      · exact ht t u hu
    · have := hv (j + 1) u (by simpa using hj)
      rw [Nat.add_assoc, Nat.add_comm 1 j]; exact this
/-- A function's body, from its entry to its return. -/
theorem callBody_spec {rec : RecX} (hrec : RecOK P rec) (f : FuncId) : CallOK B P f (callB P rec f) := by
  intro args st k kp h ρ w args' hs ha
  unfold callB at h
  split at h <;> (try (cases h; done))
  rename_i fn hfn
  split at h <;> (try (cases h; done))
  rename_i c hc hcall hlen
  have hlen := Nat.le_of_ble_eq_true hlen
  refine ⟨⟨fn, c, hfn, hc, hcall⟩, fun cs => ?_⟩
  have hal : args'.size = args.length := by rw [← Array.length_toList]; exact ha.length
  obtain ⟨tmps, htm⟩ : ∃ t : Array Value, t = args' ++ Array.replicate (fn.ntmps - args'.size) undef := ⟨_, rfl⟩
  obtain ⟨e, he, hte⟩ := argsK_spec (ρ := ρ) args 0 .lf _ tmps h (fun t v hv => by rw [Tr.get_lf] at hv; cases hv) (fun j v hj => by
    obtain ⟨v', h1, h2⟩ := ha.get hj
    refine ⟨v', ?_, h2⟩
    have h3 : args'[j]? = some v' := by simpa using h1
    rw [Nat.zero_add, htm, Array.getElem?_append_left (Array.getElem?_eq_some_iff.1 h3).1]
    exact h3)
  let b : Frame := { (default : Frame) with fn := f, kind := .normal }
  have henter : Frame.enter P f args' .normal = b.atR { tmps, defers := [] } [.code c] := by
    simp [Frame.enter, Frame.atR, hfn, hc, b, htm]
    rfl
  have hf : FRel ρ ⟨f, fn.ntmps, none⟩ e [] b { tmps, defers := [] } := ⟨hte, by rw [htm]; simp; omega, .nil, rfl, rfl, rfl⟩
  obtain ⟨x, e', ds', st', ρ', a', w', hk, hs', hf', hadv, harr⟩ := hrec _ _ _ _ _ _ _ he ρ w b _ [] cs hs hf
  rw [← henter] at harr
  -- the frame panics
  by_cases hpan : ∃ v, x = .pan v
  · obtain ⟨v, rfl⟩ := hpan
    obtain ⟨v', todo, h1, h2, hst⟩ := harr
    exact ⟨.panicked (chain v'), w', _, .inr ⟨v, st', ρ', v', rfl, hk, hs', h1, hadv⟩, hst, rfl, rfl, h2, fn, hfn⟩
  -- the frame returns
  have ret : ∃ fr, fr.mode = .returning ∧ fr.fn = f ∧ fr.kind = .normal ∧ fr.tmps = a'.tmps ∧ fr.defers = a'.defers ∧ Steps P (lone (Frame.enter P f args' .normal) cs w) (lone fr cs w') ∧ (unwindK st' ds' fun st => resultsK P st e' fn.results.toList fun vs => k (resA vs) st) = true := by
    cases x with
    | exit j => cases hk
    | norm => exact ⟨_, rfl, rfl, rfl, rfl, rfl, Steps.trans harr (.one (stepR_end (b := b) rfl)), hk⟩
    | ret => obtain ⟨todo, hst⟩ := harr; exact ⟨_, rfl, rfl, rfl, rfl, rfl, Steps.trans hst (.one (stepR_ret (b := b) rfl)), hk⟩
    | pan v => exact absurd ⟨v, rfl⟩ hpan
  obtain ⟨fr, m1, m2, m3, m4, m5, m6, m7⟩ := ret
  obtain ⟨st2, w2, n1, n2, n3, n4⟩ := unwindK_spec (P := P) ds' st' w' _ fr a'.defers hs' hf'.marks m1 m5 m7
  have ht2 : TRel ρ' e' fr.tmps := by rw [m4]; exact hf'.slots
  obtain ⟨vs, v', r1, r2, r3⟩ := results_spec n2 ht2 n1
  exact ⟨.returned v', w2, { fr with defers := [] }, .inl ⟨_, st2, ρ', v', rfl, r1, n2, r2, hadv.trans n3⟩, m6.trans (n4 cs), m2, m1, rfl, m3, fn, by rw [m2]; exact hfn, r3⟩
theorem call_spec [HooksOK P] {rec : RecX} (hrec : RecOK P rec) (f : FuncId) : CallOK B P f (callK P rec f) := by
  intro args st k kp h
  unfold callK at h
  split at h
  · rename_i hk hf
    exact HooksOK.ok f hk hf (callB P rec) (fun B g => callBody_spec (B := B) hrec g) B args st k kp h
  · exact callBody_spec hrec f args st k kp h
theorem callFunc_run {f : FuncId} {fn : Func} {c : Code} (hf : P.funcs[f]? = some fn) (hb : fn.body = some c) (hc : callable fn = true) (args : Array Value) (w : World) : (callFunc f args).run P w = .ok (.enter f args) w := by
  unfold callable at hc
  have hn : (fn.name == "runtime.NumGoroutine") = false := by simpa using hc
  simp only [callFunc, Sem.run_bind, run_program, Result.andThen_ok, hf, hn, Bool.false_eq_true, if_false, hb, Option.isNone, Sem.run_pure]
end
end Go.Eng
/- Rounds of a range over a function; calls of function values. -/
namespace Go.Eng
set_option linter.unusedVariables false
variable [Sym] [Hooks]

section
variable {B : Nat → Prop} {ρ : Rho} {st : St} {w : World} {P : Program}
theorem loop_at (hs : SRel B ρ st w) {id : Nat} {p : Pl} {s0 : LoopState} {p0 : Option Code} {fn : FuncId} {env : Tr AV} {n : Nat} {params : List Tmp} {assign body : Code} {defers : Nat} (hp : ρ id 0 = some p) (hg : st.heap.get id = some (.loop s0 p0 fn env n params assign body defers)) :
    ∃ l, w.heap[p.blk]? = some (.loop l) ∧ LoopRel ρ (.loop s0 p0 fn env n params assign body defers) l := by
  obtain ⟨_, _, _, r, hr, hrel⟩ := hs.mapped _ _ _ hp
  rw [hg] at hr; cases hr
  exact hrel.2
theorem relay_loop (hs : SRel B ρ st w) {id : Nat} {p : Pl} {s0 : LoopState} {p0 : Option Code} {fn : FuncId} {env : Tr AV} {n : Nat} {params : List Tmp} {assign body : Code} {defers : Nat} (hlk : st.isLocked id = false) (hp : ρ id 0 = some p) (hg : st.heap.get id = some (.loop s0 p0 fn env n params assign body defers)) {l : Loop}
    (hl : LoopRel ρ (.loop s0 p0 fn env n params assign body defers) l) (s : LoopState) (pd : Option Code) :
    SRel B ρ ⟨st.heap.set id (.loop s pd fn env n params assign body defers), st.next, st.lim⟩ { w with heap := w.heap.setIfInBounds p.blk (.loop { l with state := s, pending := pd }) } ∧
      Adv B ρ st w ρ ⟨st.heap.set id (.loop s pd fn env n params assign body defers), st.next, st.lim⟩ { w with heap := w.heap.setIfInBounds p.blk (.loop { l with state := s, pending := pd }) } := by
  refine hs.setObj hp hg rfl ⟨rfl, _, rfl, ?_⟩
  obtain ⟨x1, x2, x3, x4, x5, x6, x7, x8, x9⟩ := hl
  exact ⟨rfl, rfl, x3, x4, x5, x6, x7, x8, x9⟩
theorem relayLoopK_at {st : St} {id : Nat} {s0 : LoopState} {p0 : Option Code} {fn : FuncId} {env : Tr AV} {n : Nat} {params : List Tmp} {assign body : Code} {defers : Nat} (hg : st.heap.get id = some (.loop s0 p0 fn env n params assign body defers)) {s : LoopState} {pd : Option Code} {k : St → Bool} (h : relayLoopK st id s pd k = true) :
    st.isLocked id = false ∧ k ⟨st.heap.set id (.loop s pd fn env n params assign body defers), st.next, st.lim⟩ = true := by
  unfold relayLoopK at h
  rw [hg] at h
  exact relayK_true h
theorem setParams_spec {n : Nat} : ∀ (ts : List Tmp) (vs : List AV) (e : Env) (k : Env → Bool) (vs' : List Value) (tmps : Array Value), setParamsK n ts vs e k = true → TRel ρ e tmps → tmps.size = n → VsRel ρ vs vs' →
    vs'.length = ts.length ∧ ∃ e', k e' = true ∧ TRel ρ e' ((ts.zip vs').foldl (fun tmps (p : Tmp × Value) => tmps.setIfInBounds p.1 p.2) tmps) ∧ ((ts.zip vs').foldl (fun tmps (p : Tmp × Value) => tmps.setIfInBounds p.1 p.2) tmps).size = n := by
  intro ts
  induction ts with
  | nil =>
    intro vs e k vs' tmps h ht hn hv
    cases vs with
    | nil => cases hv; exact ⟨rfl, e, h, ht, hn⟩
    | cons _ _ => cases h
  | cons t ts ih =>
    intro vs e k vs' tmps h ht hn hv
    cases vs with
    | nil => cases h
    | cons v vs =>
      cases hv with
      | cons _ v' _ vs' hx hl =>
        simp only [setParamsK] at h
        split at h <;> (try (cases h; done))
        rename_i hlt
        have hlt : t < tmps.size := by rw [hn]; simpa [Nat.blt_eq] using hlt
        rw [Tr.setK_eq] at h
        obtain ⟨h1, h2⟩ := ih vs _ k vs' (tmps.setIfInBounds t v') h (fun i u hu => by
          rw [Tr.get_set] at hu
          split at hu
          · rename_i hit; subst hit; cases hu
            exact ⟨v', by rw [Array.getElem?_setIfInBounds, if_pos rfl, if_pos hlt], hx⟩
          · rename_i hit
            obtain ⟨u', g1, g2⟩ := ht i u hu
            exact ⟨u', by rw [Array.getElem?_setIfInBounds_ne hit]; exact g1, g2⟩) (by rw [Array.size_setIfInBounds]; exact hn) hl
        exact ⟨by simp only [List.length_cons, h1], h2⟩
theorem roundK_spec {rec : RecX} (hrec : RecOK P rec) (hs : SRel B ρ st w) {id : Nat} {p : Pl} {args : List AV} {args' : Array Value} {k : AV → St → Bool} (hp : ρ id 0 = some p) (ha : VsRel ρ args args'.toList) (h : roundK rec id args st k = true) (kp : KR) (cs : List Frame) :
    ∃ f tmps assign body, (Instr.yield p.blk args').run P w = .ok (.round p.blk f tmps assign body) w ∧ CallRes B P ρ st w (Frame.round p.blk f tmps assign body .normal) cs k kp := by
  unfold roundK at h
  split at h <;> (try (cases h; done))
  rename_i s0 p0 fn env n params assign body defers hg
  obtain ⟨l, hl, hlr⟩ := loop_at hs hp hg
  obtain ⟨x1, x2, x3, x4, x5, x6, x7, x8, x9⟩ := hlr
  obtain ⟨hlen, e, he, hte, hsz⟩ := setParams_spec params args env _ args'.toList l.tmps h x5 x4 ha
  obtain ⟨tmps, htm⟩ : ∃ t : Array Value, t = (params.zip args'.toList).foldl (fun tmps (p : Tmp × Value) => tmps.setIfInBounds p.1 p.2) l.tmps := ⟨_, rfl⟩
  rw [← htm] at hte hsz
  have hpar : args'.size = l.params.size := by rw [← Array.length_toList, ← Array.length_toList, x6]; exact hlen
  refine ⟨fn, tmps, assign, body, ?_, fun c => .inl ?_⟩
  · have e1 : (l.params.zip args').foldl (fun tmps (t, a) => tmps.setIfInBounds t a) l.tmps = tmps := by
      rw [htm, ← x6, ← Array.foldl_toList, Array.toList_zip]
    simp only [Instr.yield, Instr.getLoop, Sem.run_bind, getObj_run (P := P) hl rfl, Result.andThen_ok, Sem.run_pure]
    rw [if_neg (by simp [hpar])]
    simp only [Sem.run_pure]
    rw [x3, x7, x8]
    congr 2
  · let b : Frame := { (default : Frame) with fn := fn, kind := .normal, roundOf := some p.blk }
    have hfr : Frame.round p.blk fn tmps assign body .normal = b.atR { tmps, defers := [] } (.code assign :: [.beginRound, .code body]) := rfl
    have hf : FRel ρ ⟨fn, n, some id⟩ e [] b { tmps, defers := [] } := ⟨hte, hsz, .nil, rfl, rfl, p, hp, rfl⟩
    obtain ⟨y, e1, ds1, st1, ρ1, a1, w1, k1, s1, f1, d1, r1⟩ := hrec _ _ _ _ _ _ _ he ρ w b _ [.beginRound, .code body] (c :: cs) hs hf
    rw [← hfr] at r1
    dsimp only at k1
    split at k1 <;> (try (cases k1; done))
    split at k1 <;> (try (cases k1; done))
    rename_i q0 fn1 env1 n1 params1 assign1 body1 defers1 hg1
    have hp1 := d1.le _ _ _ hp
    obtain ⟨l1, hl1, hlr1⟩ := loop_at s1 hp1 hg1
    obtain ⟨hlk1, k1⟩ := relayLoopK_at hg1 k1
    obtain ⟨s2, d2⟩ := relay_loop s1 hlk1 hp1 hg1 hlr1 .busy q0
    have hbr : (Instr.beginRound p.blk).run P w1 = .ok () { w1 with heap := w1.heap.setIfInBounds p.blk (.loop { l1 with state := .busy, pending := q0 }) } := by
      have hst : l1.state = .ready := hlr1.1
      have hpd : l1.pending = q0 := hlr1.2.1
      simp only [Instr.beginRound, Instr.getLoop, Sem.run_bind, getObj_run (P := P) hl1 rfl, Result.andThen_ok, Sem.run_pure, setObj_run (P := P) hl1 rfl, hst]
      rw [← hpd]
    have f2 : FRel ρ1 ⟨fn, n, some id⟩ e1 [] b a1 := f1
    obtain ⟨z, e3, ds3, st3, ρ3, a3, w3, k3, s3, f3, d3, r3⟩ := hrec _ _ _ _ _ _ _ k1 ρ1 _ b a1 [] (c :: cs) s2 f2
    have hsteps : Steps P (lone (Frame.round p.blk fn tmps assign body .normal) (c :: cs) w) (lone (b.atR a1 [.code body]) (c :: cs) { w1 with heap := w1.heap.setIfInBounds p.blk (.loop { l1 with state := .busy, pending := q0 }) }) :=
      Steps.trans r1 (.one (stepR_beginRound rfl hbr))
    dsimp only at k3
    split at k3 <;> (try (cases k3; done))
    have hp3 := d3.le _ _ _ hp1
    have hend : ∀ (jump : Option Code) (bv : Bool) (hbv : bv = jump.isNone), relayLoopK st3 id (if jump.isNone then .ready else .done) jump (fun st => k (.bool bv) st) = true →
        ∃ st', ∃ w', k (.bool bv) st' = true ∧ (Instr.endRound p.blk jump).run P w3 = .ok (.bool bv) w' ∧ SRel B ρ3 st' w' ∧ Adv B ρ3 st3 w3 ρ3 st' w' := by
      intro jump bv hbv hk
      unfold relayLoopK at hk
      split at hk <;> (try (cases hk; done))
      rename_i hg3
      obtain ⟨hlk, hk⟩ := relayK_true hk
      obtain ⟨l3, hl3, hlr3⟩ := loop_at s3 hp3 hg3
      obtain ⟨s4, d4⟩ := relay_loop s3 hlk hp3 hg3 hlr3 (if jump.isNone then .ready else .done) jump
      refine ⟨_, _, hk, ?_, s4, d4⟩
      simp only [Instr.endRound, Instr.getLoop, Sem.run_bind, getObj_run (P := P) hl3 rfl, Result.andThen_ok, Sem.run_pure, setObj_run (P := P) hl3 rfl, hbv]
    have hd : Adv B ρ st w ρ3 st3 w3 := (d1.trans d2).trans d3
    cases z with
    | norm =>
      obtain ⟨st', w', g1, g2, g3, g4⟩ := hend none true rfl k3
      exact ⟨_, st', ρ3, .bool true, w', g1, g3, .bool _, hd.trans g4, hsteps.trans (Steps.trans r3 (.one (stepR_round_end rfl rfl g2)))⟩
    | exit j =>
      obtain ⟨st', w', g1, g2, g3, g4⟩ := hend (some (.exit j)) false rfl k3
      obtain ⟨jj, hj, hst⟩ := r3
      exact ⟨_, st', ρ3, .bool false, w', g1, g3, .bool _, hd.trans g4, hsteps.trans (Steps.trans hst (.one (stepR_round_exit rfl rfl hj g2)))⟩
    | ret =>
      obtain ⟨st', w', g1, g2, g3, g4⟩ := hend (some .ret) false rfl k3
      obtain ⟨todo, hst⟩ := r3
      exact ⟨_, st', ρ3, .bool false, w', g1, g3, .bool _, hd.trans g4, hsteps.trans (Steps.trans hst (.one (stepR_round_ret rfl rfl g2)))⟩
    | pan v => cases k3
end
end Go.Eng
/- One operation at the machine; operations one behind the other. -/
namespace Go.Eng
set_option linter.unusedVariables false
variable [Sym] [Hooks]

section
variable {B : Nat → Prop} {ρ : Rho} {st : St} {w : World} {P : Program} {b : Frame} {a : Act} {kk : List Item} {cs : List Frame} {ops : Array Oper} {i : Nat} {rest : List Nat} {o : Oper}
theorem step_value {v' : Value} {nx : Next} {w' : World} (ho : ops[i]? = some o) (hw : Region.wanted o (yielded ops a.tmps) = true) (hd : ∀ c, o.op ≠ .defer c) (hr : (execOp a.eval o).run P w = .ok nx w') (hn : Hands nx v') :
    step P (lone (b.atR a (.inRegion ops (i :: rest) :: kk)) cs w) = .next (lone (b.atR (a.put o.dst v') (.inRegion ops rest :: kk)) cs w') := by
  have hg := stepGR_op (P := P) (b := b) (k := kk) (cs := cs) (w := w) (rest := rest) ho hw
  rw [Oper.semAt_eq _ _ _ hd] at hg
  have hfin : (b.atR a (.inRegion ops (i :: rest) :: kk)).finish v' = b.atR (a.put o.dst v') (.inRegion ops rest :: kk) := by rw [Frame.finish_atR, ho]; rfl
  refine step_lone_go ?_
  rw [hg, ← hfin]
  rcases hn with rfl | ⟨rfl, rfl⟩
  · simp [stepG.apply, hr]
  · simp [stepG.apply, hr]
theorem step_enter {f : FuncId} {args : Array Value} {w' : World} (ho : ops[i]? = some o) (hw : Region.wanted o (yielded ops a.tmps) = true) (hd : ∀ c, o.op ≠ .defer c) (hr : (execOp a.eval o).run P w = .ok (.enter f args) w') :
    step P (lone (b.atR a (.inRegion ops (i :: rest) :: kk)) cs w) = .next (lone (Frame.enter P f args .normal) (b.atR a (.inRegion ops (i :: rest) :: kk) :: cs) w') := by
  have hg := stepGR_op (P := P) (b := b) (k := kk) (cs := cs) (w := w) (rest := rest) ho hw
  rw [Oper.semAt_eq _ _ _ hd] at hg
  exact step_lone_go (by rw [hg]; simp [stepG.apply, hr, Frame.atR])
theorem step_round {l f : Nat} {tmps : Array Value} {assign body : Code} {w' : World} (ho : ops[i]? = some o) (hw : Region.wanted o (yielded ops a.tmps) = true) (hd : ∀ c, o.op ≠ .defer c) (hr : (execOp a.eval o).run P w = .ok (.round l f tmps assign body) w') :
    step P (lone (b.atR a (.inRegion ops (i :: rest) :: kk)) cs w) = .next (lone (Frame.round l f tmps assign body .normal) (b.atR a (.inRegion ops (i :: rest) :: kk) :: cs) w') := by
  have hg := stepGR_op (P := P) (b := b) (k := kk) (cs := cs) (w := w) (rest := rest) ho hw
  rw [Oper.semAt_eq _ _ _ hd] at hg
  exact step_lone_go (by rw [hg]; simp [stepG.apply, hr, Frame.atR])
theorem class_defer (h : opClass o ≠ 2 ∨ True) (hk : opClass o = 0 ∨ opClass o = 1 ∨ opClass o = 3) : ∀ c, o.op ≠ .defer c := by
  intro c hc
  unfold opClass at hk
  rw [hc] at hk
  simp at hk
/-- A call of a function value, as the machine takes it. -/
theorem callV_spec [HooksOK P] {rec : RecX} (hrec : RecOK P rec) (hs : SRel B ρ st w) {f : AV} {f' : Value} {args : List AV} {args' : Array Value} {k kp : KR} (hf : VRel ρ f f') (ha : VsRel ρ args args'.toList) (h : callVK P rec f args st k kp = true) (cs : List Frame) :
    ∃ nx fr, (do let d ← Deferred.ofValue f' args'; invoke d.target d.args : Sem Next).run P w = .ok nx w ∧
      ((∃ g as, nx = .enter g as ∧ fr = Frame.enter P g as .normal) ∨ (∃ l g t x y, nx = .round l g t x y ∧ fr = Frame.round l g t x y .normal)) ∧ CallRes B P ρ st w fr cs k kp := by
  unfold callVK at h
  split at h <;> (try (cases h; done))
  · rename_i g first cap
    cases hf with
    | fn _ _ _ first' cap' h1 h2 =>
      have hargs : VsRel ρ (first ++ args ++ cap) (first' ++ args' ++ cap').toList := by
        rw [Array.toList_append, Array.toList_append]; exact (h1.append ha).append h2
      obtain ⟨⟨fn, c, q1, q2, q3⟩, hc⟩ := call_spec hrec g _ _ _ _ h ρ w _ hs hargs
      refine ⟨_, _, ?_, .inl ⟨g, first' ++ args' ++ cap', rfl, rfl⟩, callRes_of hc⟩
      simp only [Deferred.ofValue, Sem.run_bind, Sem.run_pure, Result.andThen_ok, invoke]
      exact callFunc_run q1 q2 q3 _ _
  · rename_i id
    cases hf with
    | yield _ p hp =>
      obtain ⟨g, t, x, y, q1, q2⟩ := roundK_spec hrec hs hp ha h kp cs
      refine ⟨_, _, ?_, .inr ⟨p.blk, g, t, x, y, rfl, rfl⟩, q2⟩
      simp only [Deferred.ofValue, Sem.run_bind, Sem.run_pure, Result.andThen_ok, invoke, Array.empty_append]
      exact q1
theorem step_panic {v' : Value} (ho : ops[i]? = some o) (hw : Region.wanted o (yielded ops a.tmps) = true) (hd : ∀ c, o.op ≠ .defer c) (hr : (execOp a.eval o).run P w = .halt (.panic v') w) :
    step P (lone (b.atR a (.inRegion ops (i :: rest) :: kk)) cs w) = .next (lone ((b.atR a (.inRegion ops (i :: rest) :: kk)).raise (chain v')) cs w) := by
  have hg := stepGR_op (P := P) (b := b) (k := kk) (cs := cs) (w := w) (rest := rest) ho hw
  rw [Oper.semAt_eq _ _ _ hd] at hg
  refine step_lone_go ?_
  rw [hg]
  simp [stepG.apply, hr, chain]
/-- One operation. -/
theorem opK_spec [HooksOK P] {rec : RecX} (hrec : RecOK P rec) (hs : SRel B ρ st w) {e : Env} (ht : TRel ρ e a.tmps) {k kp : KR} (ho : ops[i]? = some o) (hw : Region.wanted o (yielded ops a.tmps) = true) (h : opK P rec e o st k kp = true) :
    (∃ v st' ρ' v' w', k v st' = true ∧ SRel B ρ' st' w' ∧ VRel ρ' v v' ∧ Adv B ρ st w ρ' st' w' ∧
      Steps P (lone (b.atR a (.inRegion ops (i :: rest) :: kk)) cs w) (lone (b.atR (a.put o.dst v') (.inRegion ops rest :: kk)) cs w')) ∨
    (∃ v st' ρ' v' w' todo, kp v st' = true ∧ SRel B ρ' st' w' ∧ VRel ρ' v v' ∧ Adv B ρ st w ρ' st' w' ∧
      Steps P (lone (b.atR a (.inRegion ops (i :: rest) :: kk)) cs w) (lone ((b.atR a todo).raise (chain v')) cs w')) := by
  unfold opK at h
  split at h
  · rename_i hc
    rw [opQK_eq] at h
    split at h <;> (try (cases h; done))
    rename_i v hv
    obtain ⟨v', h1, h2⟩ := opQ_run hs ht hv
    exact .inl ⟨v, st, ρ, v', w, h, hs, h1, .refl _ _ _ _, .one (step_value ho hw (class_defer (.inr trivial) (.inl hc)) h2 (.inl rfl))⟩
  · rename_i hc
    rw [opAK_eq] at h
    split at h <;> (try (cases h; done))
    rename_i r s hrs
    rw [newK_eq] at h
    obtain ⟨obj, n, v', h1, h2, h3⟩ := opA_run hs ht hrs
    obtain ⟨ρ', g1, g2, g3⟩ := hs.alloc (r := r) (o := obj) (n := n) (fun ρ' hle _ => h2 ρ' hle) (opA_plain hrs)
    exact .inl ⟨_, _, ρ', v', _, h, g1, h3 ρ' _ g3, g2, .one (step_value ho hw (class_defer (.inr trivial) (.inr (.inl hc))) h1 (.inl rfl))⟩
  · rename_i hc
    have hd : ∀ c, o.op ≠ .defer c := fun c hcc => by
      unfold opEK at h
      rw [hcc] at h
      cases h
    obtain ⟨v, st', ρ', v', w', nx, h1, h2, h3, h4, h5, h6⟩ := opE_run hs ht h
    exact .inl ⟨v, st', ρ', v', w', h1, h5, h4, h6, .one (step_value ho hw hd h2 h3)⟩
  · split at h <;> (try (cases h; done))
    · rename_i f args tys hop
      rw [evK_eq] at h
      split at h <;> (try (cases h; done))
      rename_i fv hfv
      rw [evsK_eq] at h
      split at h <;> (try (cases h; done))
      rename_i vs hvs
      have hd : ∀ c, o.op ≠ .defer c := fun c hcc => by rw [hcc] at hop; cases hop
      obtain ⟨nx, fr, q1, q2, q3⟩ := callV_spec hrec hs (ev_rel ht hfv) (evs_relA ht _ _ hvs) h cs
      have hexec : (execOp a.eval o).run P w = .ok nx w := by
        rw [← q1]
        obtain ⟨dst, op, type, pos, after, guard⟩ := o
        simp only at hop
        subst hop
        simp only [execOp, resolve]
      have hin : ∀ m, Steps P (lone fr (b.atR a (.inRegion ops (i :: rest) :: kk) :: cs) w) m → Steps P (lone (b.atR a (.inRegion ops (i :: rest) :: kk)) cs w) m := by
        intro m hm
        rcases q2 with ⟨g, as, rfl, rfl⟩ | ⟨l, g, t, x, y, rfl, rfl⟩
        · exact .head (step_enter ho hw hd hexec) hm
        · exact .head (step_round ho hw hd hexec) hm
      rcases q3 (b.atR a (.inRegion ops (i :: rest) :: kk)) with ⟨v, st', ρ', v', w', r1, r2, r3, r4, r5⟩ | ⟨v, st', ρ', v', w', r1, r2, r3, r4, r5⟩
      · have hfin : (b.atR a (.inRegion ops (i :: rest) :: kk)).finish v' = b.atR (a.put o.dst v') (.inRegion ops rest :: kk) := by rw [Frame.finish_atR, ho]; rfl
        rw [hfin] at r5
        exact .inl ⟨v, st', ρ', v', w', r1, r2, r3, r4, hin _ r5⟩
      · exact .inr ⟨v, st', ρ', v', w', _, r1, r2, r3, r4, hin _ r5⟩
    · rename_i x hop
      rw [evK_eq] at h
      split at h <;> (try (cases h; done))
      rename_i fv hfv
      split at h <;> (try (cases h; done))
      rename_i t u
      have hd : ∀ c, o.op ≠ .defer c := fun c hcc => by rw [hcc] at hop; cases hop
      have hr := ev_rel ht hfv
      cases hxv : a.eval x <;> rw [hxv] at hr <;> cases hr
      rename_i u' hu
      have hexec : (execOp a.eval o).run P w = .halt (.panic (.iface t u')) w := by
        obtain ⟨dst, op, type, pos, after, guard⟩ := o
        simp only at hop
        subst hop
        simp only [execOp, hxv]
        rfl
      exact .inr ⟨_, st, ρ, _, w, _, h, hs, .iface _ _ _ hu, .refl _ _ _ _, .one (step_panic ho hw hd hexec)⟩
end
end Go.Eng
/- Lists of operations in one order. -/
namespace Go.Eng
set_option linter.unusedVariables false
variable [Sym] [Hooks]

section
variable {B : Nat → Prop} {P : Program}
theorem Act.put_none (a : Act) (v : Value) : a.put none v = a := rfl
theorem opsK_spec [HooksOK P] {rec : RecX} (hrec : RecOK P rec) {c : Ctx} {ops : Array Oper} : ∀ (is : List Nat) (e : Env) (st : St) (k : Env → St → Bool) (kp : KR), opsK P rec c ops is e st k kp = true →
    ∀ (ρ : Rho) (w : World) (ds : List Nat) (b : Frame) (a : Act) (kk : List Item) (cs : List Frame), SRel B ρ st w → FRel ρ c e ds b a →
    (∃ e' st' ρ' a' w', k e' st' = true ∧ SRel B ρ' st' w' ∧ FRel ρ' c e' ds b a' ∧ Adv B ρ st w ρ' st' w' ∧
      Steps P (lone (b.atR a (.inRegion ops is :: kk)) cs w) (lone (b.atR a' kk) cs w')) ∨
    (∃ v st' ρ' v' a' w' todo, kp v st' = true ∧ SRel B ρ' st' w' ∧ VRel ρ' v v' ∧ FRel ρ' c .lf ds b a' ∧ Adv B ρ st w ρ' st' w' ∧
      Steps P (lone (b.atR a (.inRegion ops is :: kk)) cs w) (lone ((b.atR a' todo).raise (chain v')) cs w')) := by
  intro is
  induction is with
  | nil =>
    intro e st k kp h ρ w ds b a kk cs hs hf
    exact .inl ⟨e, st, ρ, a, w, h, hs, hf, .refl _ _ _ _, .one stepR_region_end⟩
  | cons i is ih =>
    intro e st k kp h ρ w ds b a kk cs hs hf
    simp only [opsK] at h
    split at h
    · rename_i ho
      have hst : ∀ m, Steps P (lone (b.atR a (.inRegion ops is :: kk)) cs w) m → Steps P (lone (b.atR a (.inRegion ops (i :: is) :: kk)) cs w) m := fun m hm => .head (by
        have := stepR_op_skip (P := P) (b := b) (a := a) (k := kk) (cs := cs) (w := w) (ops := ops) (i := i) (rest := is) (by rw [ho]; rfl)
        rw [ho] at this
        exact this) hm
      rcases ih e st k kp h ρ w ds b a kk cs hs hf with ⟨e', st', ρ', a', w', h1, h2, h3, h4, h5⟩ | ⟨v, st', ρ', v', a', w', todo, h1, h2, h3, h4, h5, h6⟩
      · exact .inl ⟨e', st', ρ', a', w', h1, h2, h3, h4, hst _ h5⟩
      · exact .inr ⟨v, st', ρ', v', a', w', todo, h1, h2, h3, h4, h5, hst _ h6⟩
    · rename_i o ho
      split at h
      · rename_i hw
        have hw' := wantA_spec hf.slots hw
        rcases opK_spec (b := b) (kk := kk) (cs := cs) (rest := is) hrec hs hf.slots ho hw' h with ⟨v, st1, ρ1, v', w1, g1, g2, g3, g4, g5⟩ | ⟨v, st1, ρ1, v', w1, todo, g1, g2, g3, g4, g5⟩
        · obtain ⟨e1, p1, p2⟩ := putEK_spec (hf.mono g4.le) g3 g1
          rcases ih e1 st1 k kp p1 ρ1 w1 ds b _ kk cs g2 p2 with ⟨e', st', ρ', a', w', h1, h2, h3, h4, h5⟩ | ⟨v, st', ρ', v', a', w', todo, h1, h2, h3, h4, h5, h6⟩
          · exact .inl ⟨e', st', ρ', a', w', h1, h2, h3, g4.trans h4, g5.trans h5⟩
          · exact .inr ⟨v, st', ρ', v', a', w', todo, h1, h2, h3, h4, g4.trans h5, g5.trans h6⟩
        · have hf' := hf.mono g4.le
          exact .inr ⟨v, st1, ρ1, v', a, w1, todo, g1, g2, g3, ⟨fun t u hu => (by rw [Tr.get_lf] at hu; cases hu), hf'.size, hf'.marks, hf'.kind, hf'.fn, hf'.round⟩, g4, g5⟩
      · rename_i hw
        have hw' := wantA_spec hf.slots hw
        obtain ⟨e1, p1, p2⟩ := putEK_spec hf (v := undefA) (v' := undef) (.tup _ _ .nil) h
        have hst : ∀ m, Steps P (lone (b.atR (a.put o.dst undef) (.inRegion ops is :: kk)) cs w) m → Steps P (lone (b.atR a (.inRegion ops (i :: is) :: kk)) cs w) m := fun m hm => .head (by
          have := stepR_op_skip (P := P) (b := b) (a := a) (k := kk) (cs := cs) (w := w) (ops := ops) (i := i) (rest := is) (by rw [ho]; simp [hw'])
          rw [ho] at this
          exact this) hm
        rcases ih e1 st k kp p1 ρ w ds b _ kk cs hs p2 with ⟨e', st', ρ', a', w', h1, h2, h3, h4, h5⟩ | ⟨v, st', ρ', v', a', w', todo, h1, h2, h3, h4, h5, h6⟩
        · exact .inl ⟨e', st', ρ', a', w', h1, h2, h3, h4, hst _ h5⟩
        · exact .inr ⟨v, st', ρ', v', a', w', todo, h1, h2, h3, h4, h5, hst _ h6⟩
      · cases h
end
end Go.Eng
/- A range over a function. -/
namespace Go.Eng
set_option linter.unusedVariables false
variable [Sym] [Hooks]

section
variable {B : Nat → Prop} {ρ : Rho} {st : St} {w : World} {P : Program} {b : Frame} {a : Act} {kk : List Item} {cs : List Frame}
theorem step_rangeFunc {f : Operand} {params : Array Tmp} {assign body : Code} {l : Nat} {mark : List Deferred} {w1 : World} {nx : Next} {fr : Frame}
    (hr : (Instr.enterLoop b.fn a.tmps params assign body b.roundOf).run P w = .ok (l, mark) w1)
    (hq : (do let d ← Deferred.ofValue (a.eval f) #[.func (.yield l) #[] #[]]; invoke d.target d.args : Sem Next).run P w1 = .ok nx w1)
    (hn : (∃ g as, nx = .enter g as ∧ fr = Frame.enter P g as .normal) ∨ (∃ l g t x y, nx = .round l g t x y ∧ fr = Frame.round l g t x y .normal)) :
    step P (lone (b.atR a (.code (.rangeFunc f params assign body) :: kk)) cs w) = .next (lone fr (b.atR { a with defers := mark ++ a.defers } (.inRangeFunc l :: kk) :: cs) w1) := by
  have he : (b.atR { a with defers := mark ++ a.defers } (.inRangeFunc l :: kk)).eval = a.eval := (Frame.eval_atR b { a with defers := mark ++ a.defers } (.inRangeFunc l :: kk)).trans (funext fun x => by cases x <;> rfl)
  have hq' : (do let d ← resolve a.eval { callee := .value f, args := #[.const (.func (.yield l) #[] #[])], argTypes := #[] } 0; invoke d.target d.args : Sem Next).run P w1 = .ok nx w1 := by
    rw [← hq]; simp [resolve, Act.eval]
  refine step_lone_go ?_
  simp only [Frame.atR] at he
  simp only [Sem.run_bind] at hq'
  rcases hn with ⟨g, as, rfl, rfl⟩ | ⟨l', g, t, x, y, rfl, rfl⟩
  · simp only [stepG, stepG.exec, Frame.atR, Sem.runT_eq, hr, stepG.apply, he, Sem.run_bind, hq']
    simp
  · simp only [stepG, stepG.exec, Frame.atR, Sem.runT_eq, hr, stepG.apply, he, Sem.run_bind, hq']
    simp
theorem step_endRangeFunc {l : Nat} {jump : Option Code} {w1 : World} (hr : (Instr.endLoop l).run P w = .ok jump w1) :
    step P (lone (b.atR a (.endRangeFunc l :: kk)) cs w) = .next (lone (b.atR a ((jump.map Item.code).toList ++ kk)) cs w1) :=
  step_lone_go (by simp [stepG, stepG.exec, Frame.atR, Sem.runT_eq, hr])
theorem Adv.le' {ρ' : Rho} {st' : St} {w' : World} (h : Adv B ρ st w ρ' st' w') : ρ.le ρ' := h.le
theorem rangeF_rest [HooksOK P] {rec : RecX} (hrec : RecOK P rec) {c : Ctx} {e : Env} {ds : List Nat} (hs : SRel B ρ st w) (hf : FRel ρ c e ds b a) {l : Nat} {p : Pl} (hp : ρ l 0 = some p) {fv : AV} {f' : Value} (hfv : VRel ρ fv f') {k : KX}
    (h : callVK P rec fv [.yield l] st (fun _ st => match st.heap.get l with
          | some (.loop s p _ _ _ _ _ _ _) => match s with
            | .busy => false
            | _ => relayLoopK st l .exhausted p fun st => match p with
              | none => k .norm e ds st
              | some (.exit j) => k (.exit j) e ds st
              | some .ret => k .ret e ds st
              | some _ => false
          | _ => false) noP = true) :
    ∃ nx fr, (do let d ← Deferred.ofValue f' #[.func (.yield p.blk) #[] #[]]; invoke d.target d.args : Sem Next).run P w = .ok nx w ∧
      ((∃ g as, nx = .enter g as ∧ fr = Frame.enter P g as .normal) ∨ (∃ l g t x y, nx = .round l g t x y ∧ fr = Frame.round l g t x y .normal)) ∧
      XRes B P c b ρ st w (lone fr (b.atR a (.inRangeFunc p.blk :: kk) :: cs) w) kk cs k := by
  obtain ⟨nx, fr, q1, q2, q3⟩ := callV_spec hrec hs hfv (args' := #[.func (.yield p.blk) #[] #[]]) (.cons _ _ _ _ (.yield _ p hp) .nil) h cs
  refine ⟨nx, fr, q1, q2, ?_⟩
  rcases q3 (b.atR a (.inRangeFunc p.blk :: kk)) with ⟨v, st1, ρ1, v1, w1, g1, g2, g3, g4, g5⟩ | ⟨_, _, _, _, _, hno, _⟩
  rotate_left
  · cases hno
  have hfin : (b.atR a (.inRangeFunc p.blk :: kk)).finish v1 = b.atR a (.endRangeFunc p.blk :: kk) := rfl
  rw [hfin] at g5
  dsimp only at g1
  split at g1 <;> (try (cases g1; done))
  rename_i s pd fn0 env0 n0 params0 assign0 body0 defers0 hg
  have hp1 := g4.le _ _ _ hp
  obtain ⟨l1, hl1, hlr⟩ := loop_at g2 hp1 hg
  have hst : l1.state = s := hlr.1
  have hpd : l1.pending = pd := hlr.2.1
  split at g1
  · cases g1
  rename_i hnb
  have hb : (s == .busy) = false := by cases s <;> first | rfl | exact absurd rfl hnb
  obtain ⟨hlk, hk⟩ := relayLoopK_at hg g1
  obtain ⟨s2, d2⟩ := relay_loop g2 hlk hp1 hg hlr .exhausted pd
  have hend : (Instr.endLoop p.blk).run P w1 = .ok pd { w1 with heap := w1.heap.setIfInBounds p.blk (.loop { l1 with state := .exhausted, pending := pd }) } := by
    simp only [Instr.endLoop, Instr.getLoop, Sem.run_bind, getObj_run (P := P) hl1 rfl, Result.andThen_ok, Sem.run_pure, hst, hb, hpd]
    simp only [Bool.false_eq_true, if_false, Sem.run_bind, Sem.run_pure, Result.andThen_ok, setObj_run (P := P) hl1 rfl]
  have hsteps := g5.trans (.one (step_endRangeFunc (b := b) (a := a) (kk := kk) (cs := cs) hend))
  split at hk <;> (try (cases hk; done))
  · exact ⟨.norm, e, ds, _, ρ1, a, _, hk, s2, hf.mono g4.le, g4.trans d2, hsteps⟩
  · rename_i j
    exact ⟨.exit j, e, ds, _, ρ1, a, _, hk, s2, hf.mono g4.le, g4.trans d2, [], rfl, hsteps⟩
  · exact ⟨.ret, e, ds, _, ρ1, a, _, hk, s2, hf.mono g4.le, g4.trans d2, kk, hsteps⟩
theorem rangeFK_spec [HooksOK P] {rec : RecX} (hrec : RecOK P rec) {c : Ctx} {e : Env} {ds : List Nat} (hs : SRel B ρ st w) (hf : FRel ρ c e ds b a) {f : Operand} {params : Array Tmp} {assign body : Code} {k : KX}
    (h : rangeFK P rec c f params assign body e ds st k = true) : XRes B P c b ρ st w (lone (b.atR a (.code (.rangeFunc f params assign body) :: kk)) cs w) kk cs k := by
  unfold rangeFK at h
  rw [evK_eq] at h
  split at h <;> (try (cases h; done))
  rename_i fv hfv
  have hfv' := ev_rel hf.slots hfv
  dsimp only at h
  split at h
  · rename_i hr
    rw [newK_eq, newK_eq] at h
    have hro : b.roundOf = none := by have := hf.round; rw [hr] at this; exact this
    obtain ⟨ρ1, s1, d1, m1⟩ := hs.alloc (r := .deferred true) (o := .deferred (some [])) (n := 0) (fun _ _ _ => ⟨rfl, rfl⟩)
    obtain ⟨ρ2, s2, d2, m2⟩ := s1.alloc (r := .loop .ready none c.fn e c.n params.toList assign body st.next) (o := .loop { state := .ready, pending := none, fn := b.fn, tmps := a.tmps, params, assign, body, defers := w.heap.size }) (n := 0)
      (fun ρ' hle _ => ⟨rfl, _, rfl, rfl, rfl, hf.fn, hf.size, hf.slots.mono (fun a b c h => hle _ _ _ (d1.le _ _ _ h)), rfl, rfl, rfl, _, hle _ _ _ m1, rfl⟩)
    have hf2 : FRel ρ2 c e (st.next :: ds) b { a with defers := [{ target := .collected w.heap.size, args := #[] }] ++ a.defers } := by
      have hle : ρ.le ρ2 := fun a b c h => d2.le _ _ _ (d1.le _ _ _ h)
      have := hf.mono hle
      exact ⟨this.slots, this.size, .cons _ _ _ _ (d2.le _ _ _ m1) this.marks, this.kind, this.fn, this.round⟩
    obtain ⟨nx, fr, q1, q2, x, e', ds', st', ρ', a', w', r1, r2, r3, r4, r5⟩ := rangeF_rest (kk := kk) (cs := cs) hrec s2 hf2 m2 (hfv'.mono (fun a b c h => d2.le _ _ _ (d1.le _ _ _ h))) h
    refine ⟨x, e', ds', st', ρ', a', w', r1, r2, r3, (d1.trans d2).trans r4, Arr.of_steps (.one (step_rangeFunc ?_ q1 q2)) r5⟩
    simp only [Instr.enterLoop, hro, Sem.run_bind, run_newObj, Result.andThen_ok, Sem.run_pure]
  · rename_i ld hr
    split at h <;> (try (cases h; done))
    rename_i s0 p0 fn0 env0 n0 params0 assign0 body0 dl hg
    rw [newK_eq] at h
    have hro := hf.round
    rw [hr] at hro
    obtain ⟨pl, hpl, hro⟩ := hro
    obtain ⟨l1, hl1, hlr⟩ := loop_at hs hpl hg
    obtain ⟨x1, x2, x3, x4, x5, x6, x7, x8, pd, x9, x10⟩ := hlr
    obtain ⟨ρ2, s2, d2, m2⟩ := hs.alloc (r := .loop .ready none c.fn e c.n params.toList assign body dl) (o := .loop { state := .ready, pending := none, fn := b.fn, tmps := a.tmps, params, assign, body, defers := l1.defers }) (n := 0)
      (fun ρ' hle _ => ⟨rfl, _, rfl, rfl, rfl, hf.fn, hf.size, hf.slots.mono hle, rfl, rfl, rfl, _, hle _ _ _ x9, x10⟩)
    obtain ⟨nx, fr, q1, q2, x, e', ds', st', ρ', a', w', r1, r2, r3, r4, r5⟩ := rangeF_rest (kk := kk) (cs := cs) hrec s2 (hf.mono d2.le) m2 (hfv'.mono d2.le) h
    refine ⟨x, e', ds', st', ρ', a', w', r1, r2, r3, d2.trans r4, Arr.of_steps (.one (step_rangeFunc (mark := []) ?_ q1 q2)) r5⟩
    simp only [Instr.enterLoop, hro, Instr.getLoop, getObj_run (P := P) hl1 rfl, Sem.run_bind, run_newObj, Result.andThen_ok, Sem.run_pure]
end
end Go.Eng
/- Code; fuel; a call from nothing. -/
namespace Go.Eng
set_option linter.unusedVariables false
variable [Sym] [Hooks]

/-- What the draw regions owe. -/
def DrawOK (P : Program) : Prop :=
  ∀ {B : Nat → Prop} {rec : RecX}, RecOK P rec → ∀ {c : Ctx} {ops : Array Oper} {e : Env} {st : St} {k : Env → St → Bool} {kp : KR}, drawK P rec c ops e st k kp = true →
    ∀ (ρ : Rho) (w : World) (ds : List Nat) (b : Frame) (a : Act) (kk : List Item) (cs : List Frame) (id : Nat), SRel B ρ st w → FRel ρ c e ds b a →
    (∃ e' st' ρ' a' w', k e' st' = true ∧ SRel B ρ' st' w' ∧ FRel ρ' c e' ds b a' ∧ Adv B ρ st w ρ' st' w' ∧
      Steps P (lone (b.atR a (.code (.region id ops true) :: kk)) cs w) (lone (b.atR a' kk) cs w')) ∨
    (∃ v st' ρ' v' a' w' todo, kp v st' = true ∧ SRel B ρ' st' w' ∧ VRel ρ' v v' ∧ FRel ρ' c .lf ds b a' ∧ Adv B ρ st w ρ' st' w' ∧
      Steps P (lone (b.atR a (.code (.region id ops true) :: kk)) cs w) (lone ((b.atR a' todo).raise (chain v')) cs w'))
section
variable {B : Nat → Prop} {ρ : Rho} {st : St} {w : World} {P : Program} {b : Frame} {a : Act} {kk : List Item} {cs : List Frame}
theorem Steps.tail {m m₁ m' : Machine} (h : step P m = .next m₁) (h' : Steps P m m') (hne : m ≠ m') : Steps P m₁ m' := by
  obtain ⟨n, hn⟩ := h'
  cases n with
  | zero => simp [runN] at hn; exact absurd hn hne
  | succ n => simp only [runN, h] at hn; exact ⟨n, hn⟩
theorem stepR_scope {x : Code} : step P (lone (b.atR a (.code (.scope x) :: kk)) cs w) = .next (lone (b.atR a (.code x :: .inScope x :: kk)) cs w) :=
  step_lone_go (by simp [stepG, stepG.exec, Frame.atR])
theorem stepR_inScope {x : Code} : step P (lone (b.atR a (.inScope x :: kk)) cs w) = .next (lone (b.atR a kk) cs w) :=
  step_lone_go (by simp [stepG, stepG.exec, Frame.atR])
theorem lone_todo {b b' : Frame} {a a' : Act} {t t' : List Item} {cs cs' : List Frame} {w w' : World} (h : lone (b.atR a t) cs w = lone (b'.atR a' t') cs' w') : t = t' := by
  simp only [lone, Frame.atR, Machine.mk.injEq, Array.mk.injEq, List.cons.injEq, Goroutine.mk.injEq, Frame.mk.injEq] at h
  exact h.2.1.1.1.2.2.1
theorem list_ne_tail {α : Type} (x : α) (l : List α) : x :: l ≠ l := by
  intro h
  have := congrArg List.length h
  simp at this
theorem Arr.tail {m₁ : Machine} {x : AX} {a' : Act} {w' : World} {y : Code} (hy : ∀ id, y ≠ .exit id) (hy' : y ≠ .ret) (h : step P (lone (b.atR a (.code y :: kk)) cs w) = .next m₁) (h' : Arr P ρ (lone (b.atR a (.code y :: kk)) cs w) b kk cs x a' w') : Arr P ρ m₁ b kk cs x a' w' := by
  cases x with
  | norm => exact Steps.tail h h' (fun e => list_ne_tail _ _ (lone_todo e))
  | exit id =>
    obtain ⟨j, hj, hs⟩ := h'
    refine ⟨j, hj, Steps.tail h hs (fun e => ?_)⟩
    have := lone_todo e
    simp only [List.cons.injEq, Item.code.injEq] at this
    exact hy _ this.1
  | ret =>
    obtain ⟨j, hs⟩ := h'
    refine ⟨j, Steps.tail h hs (fun e => ?_)⟩
    have := lone_todo e
    simp only [List.cons.injEq, Item.code.injEq] at this
    exact hy' this.1
  | pan v =>
    obtain ⟨v', todo, h1, h2, hs⟩ := h'
    refine ⟨v', todo, h1, h2, Steps.tail h hs (fun e => ?_)⟩
    simp [lone, Frame.atR, Frame.raise] at e
theorem exitTo_append (id : Nat) (j k : List Item) (h : ∀ i, Item.inBlock i ∈ j → i ≠ id) : exitTo id (j ++ k) = exitTo id k := by
  induction j with
  | nil => rfl
  | cons x j ih =>
    have ih := ih (fun i hi => h i (List.mem_cons_of_mem _ hi))
    cases x <;> simp only [List.cons_append, exitTo, ih]
    rename_i i
    have : (i == id) = false := by simpa using h i (List.mem_cons_self ..)
    simp [this]
/-- One more item below: not a block of that name. -/
theorem Arr.under {m : Machine} {it : Item} {x : AX} {a' : Act} {w' : World} (hn : x ≠ .norm) (hx : ∀ id, x = .exit id → exitTo id (it :: kk) = exitTo id kk) (h : Arr P ρ m b (it :: kk) cs x a' w') : Arr P ρ m b kk cs x a' w' := by
  cases x with
  | norm => exact absurd rfl hn
  | exit id =>
    obtain ⟨j, hj, hs⟩ := h
    refine ⟨j ++ [it], ?_, ?_⟩
    · rw [List.append_assoc]; simp only [List.cons_append, List.nil_append]; rw [hj]; exact hx id rfl
    · rw [List.append_assoc]; exact hs
  | ret => exact h
  | pan v => exact h
theorem codeK_spec [HooksOK P] {rec : RecX} (hdraw : DrawOK P) (hrec : RecOK P rec) : RecOK P (codeK P rec) := by
  intro B c x e ds st k h ρ w b a kk cs hs hf
  cases x with
  | skip => exact ⟨_, _, _, _, ρ, a, w, h, hs, hf, .refl _ _ _ _, .one stepR_skip⟩
  | label l => exact ⟨_, _, _, _, ρ, a, w, h, hs, hf, .refl _ _ _ _, .one stepR_label⟩
  | region id ops draw =>
    have key : ((∃ e' st' ρ' a' w', k .norm e' ds st' = true ∧ SRel B ρ' st' w' ∧ FRel ρ' c e' ds b a' ∧ Adv B ρ st w ρ' st' w' ∧
      Steps P (lone (b.atR a (.code (.region id ops draw) :: kk)) cs w) (lone (b.atR a' kk) cs w')) ∨
    (∃ v st' ρ' v' a' w' todo, panK ds k v st' = true ∧ SRel B ρ' st' w' ∧ VRel ρ' v v' ∧ FRel ρ' c .lf ds b a' ∧ Adv B ρ st w ρ' st' w' ∧
      Steps P (lone (b.atR a (.code (.region id ops draw) :: kk)) cs w) (lone ((b.atR a' todo).raise (chain v')) cs w'))) := by
      cases draw with
      | false =>
        rcases opsK_spec hrec _ e st _ _ h ρ w ds b a kk cs hs hf with ⟨e', st', ρ', a', w', h1, h2, h3, h4, h5⟩ | ⟨v, st', ρ', v', a', w', todo, h1, h2, h3, h4, h5, h6⟩
        · exact .inl ⟨e', st', ρ', a', w', h1, h2, h3, h4, .head stepR_region h5⟩
        · exact .inr ⟨v, st', ρ', v', a', w', todo, h1, h2, h3, h4, h5, .head stepR_region h6⟩
      | true => exact hdraw hrec h ρ w ds b a kk cs id hs hf
    rcases key with ⟨e', st', ρ', a', w', h1, h2, h3, h4, h5⟩ | ⟨v, st', ρ', v', a', w', todo, h1, h2, h3, h4, h5, h6⟩
    · exact ⟨.norm, e', ds, st', ρ', a', w', h1, h2, h3, h4, h5⟩
    · cases ds with
      | nil =>
        have hm := h4.marks
        generalize hq : a'.defers = q at hm
        cases hm
        exact ⟨.pan v, .lf, [], st', ρ', a', w', h1, h2, h4, h5, v', todo, h3, hq, h6⟩
      | cons _ _ => cases h1
  | seq x y =>
    obtain ⟨z, e1, ds1, st1, ρ1, a1, w1, h1, h2, h3, h4, h5⟩ := hrec _ _ _ _ _ _ _ h ρ w b a (.code y :: kk) cs hs hf
    have h5 := Arr.of_steps (.one stepR_seq) h5
    cases z with
    | norm =>
      obtain ⟨z, e2, ds2, st2, ρ2, a2, w2, g1, g2, g3, g4, g5⟩ := hrec _ _ _ _ _ _ _ h1 ρ1 w1 b a1 kk cs h2 h3
      exact ⟨z, e2, ds2, st2, ρ2, a2, w2, g1, g2, g3, h4.trans g4, g5.of_steps h5⟩
    | exit id => exact ⟨_, _, _, _, ρ1, a1, w1, h1, h2, h3, h4, h5.under (by simp) (fun _ _ => rfl)⟩
    | ret => exact ⟨_, _, _, _, ρ1, a1, w1, h1, h2, h3, h4, h5.under (by simp) (fun _ _ => rfl)⟩
    | pan v => exact ⟨_, _, _, _, ρ1, a1, w1, h1, h2, h3, h4, h5.under (by simp) (fun _ _ => rfl)⟩
  | cond o x y =>
    simp only [codeK, evK_eq] at h
    split at h <;> (try (cases h; done))
    rename_i v hv
    have hr := ev_rel hf.slots hv
    generalize hq : a.eval o = q at hr
    split at h <;> (try (cases h; done))
    · have hb : a.eval o = .bool true := by cases hr; exact hq
      obtain ⟨z, e2, ds2, st2, ρ2, a2, w2, g1, g2, g3, g4, g5⟩ := hrec _ _ _ _ _ _ _ h ρ w b a kk cs hs hf
      exact ⟨z, e2, ds2, st2, ρ2, a2, w2, g1, g2, g3, g4, g5.of_steps (.one (stepR_cond hb))⟩
    · have hb : a.eval o = .bool false := by cases hr; exact hq
      obtain ⟨z, e2, ds2, st2, ρ2, a2, w2, g1, g2, g3, g4, g5⟩ := hrec _ _ _ _ _ _ _ h ρ w b a kk cs hs hf
      exact ⟨z, e2, ds2, st2, ρ2, a2, w2, g1, g2, g3, g4, g5.of_steps (.one (stepR_cond hb))⟩
  | block id x =>
    obtain ⟨z, e1, ds1, st1, ρ1, a1, w1, h1, h2, h3, h4, h5⟩ := hrec _ _ _ _ _ _ _ h ρ w b a (.inBlock id :: kk) cs hs hf
    have h5 := Arr.of_steps (.one stepR_block) h5
    cases z with
    | norm => exact ⟨_, _, _, _, ρ1, a1, w1, h1, h2, h3, h4, Steps.trans h5 (.one stepR_inBlock)⟩
    | exit j =>
      dsimp only at h1
      split at h1
      · rename_i hj
        obtain rfl : j = id := by simpa using hj
        obtain ⟨jj, q1, q2⟩ := h5
        exact ⟨_, _, _, _, ρ1, a1, w1, h1, h2, h3, h4, Steps.trans q2 (.one (stepR_exit (by rw [q1]; simp [exitTo])))⟩
      · rename_i hj
        have hj : j ≠ id := fun e => by rw [e, Nat.beq_refl] at hj; cases hj
        refine ⟨_, _, _, _, ρ1, a1, w1, h1, h2, h3, h4, h5.under (by simp) (fun i hi => ?_)⟩
        cases hi
        simp [exitTo, Ne.symm hj]
    | ret => exact ⟨_, _, _, _, ρ1, a1, w1, h1, h2, h3, h4, h5.under (by simp) (fun _ hi => by cases hi)⟩
    | pan v => exact ⟨_, _, _, _, ρ1, a1, w1, h1, h2, h3, h4, h5.under (by simp) (fun _ hi => by cases hi)⟩
  | loop x =>
    obtain ⟨z, e1, ds1, st1, ρ1, a1, w1, h1, h2, h3, h4, h5⟩ := hrec _ _ _ _ _ _ _ h ρ w b a (.inLoop x :: kk) cs hs hf
    have h5 := Arr.of_steps (.one stepR_loop) h5
    cases z with
    | norm =>
      obtain ⟨z, e2, ds2, st2, ρ2, a2, w2, g1, g2, g3, g4, g5⟩ := hrec _ _ _ _ _ _ _ h1 ρ1 w1 b a1 kk cs h2 h3
      have g5 := Arr.tail (by simp) (by simp) stepR_loop g5
      exact ⟨z, e2, ds2, st2, ρ2, a2, w2, g1, g2, g3, h4.trans g4, (g5.of_steps (.one stepR_inLoop)).of_steps h5⟩
    | exit id => exact ⟨_, _, _, _, ρ1, a1, w1, h1, h2, h3, h4, h5.under (by simp) (fun _ _ => rfl)⟩
    | ret => exact ⟨_, _, _, _, ρ1, a1, w1, h1, h2, h3, h4, h5.under (by simp) (fun _ _ => rfl)⟩
    | pan v => exact ⟨_, _, _, _, ρ1, a1, w1, h1, h2, h3, h4, h5.under (by simp) (fun _ _ => rfl)⟩
  | scope x =>
    obtain ⟨z, e1, ds1, st1, ρ1, a1, w1, h1, h2, h3, h4, h5⟩ := hrec _ _ _ _ _ _ _ h ρ w b a (.inScope x :: kk) cs hs hf
    have h5 := Arr.of_steps (.one stepR_scope) h5
    cases z with
    | norm => exact ⟨_, _, _, _, ρ1, a1, w1, h1, h2, h3, h4, Steps.trans h5 (.one stepR_inScope)⟩
    | exit id => exact ⟨_, _, _, _, ρ1, a1, w1, h1, h2, h3, h4, h5.under (by simp) (fun _ _ => rfl)⟩
    | ret => exact ⟨_, _, _, _, ρ1, a1, w1, h1, h2, h3, h4, h5.under (by simp) (fun _ _ => rfl)⟩
    | pan v => exact ⟨_, _, _, _, ρ1, a1, w1, h1, h2, h3, h4, h5.under (by simp) (fun _ _ => rfl)⟩
  | exit id => exact ⟨_, _, _, _, ρ, a, w, h, hs, hf, .refl _ _ _ _, [], rfl, .refl _ _⟩
  | ret => exact ⟨_, _, _, _, ρ, a, w, h, hs, hf, .refl _ _ _ _, kk, .refl _ _⟩
  | rangeFunc f params assign body => exact rangeFK_spec hrec hs hf h
  | goto l => cases h
  | refuse y => cases h
theorem exec_ok [HooksOK P] (hdraw : DrawOK P) : ∀ n, RecOK P (exec P n)
  | 0 => fun _ _ _ _ _ _ _ h => by cases h
  | n + 1 => codeK_spec hdraw (exec_ok hdraw n)
end
end Go.Eng
