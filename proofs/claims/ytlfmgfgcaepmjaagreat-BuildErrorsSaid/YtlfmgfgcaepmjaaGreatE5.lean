/- A verified interpreter for calls on fixed data, part 5 of 5. -/
import Derived.Test.YtlfmgfgcaepmjaaGreatE3
import Derived.Test.YtlfmgfgcaepmjaaGreatE4
set_option linter.unusedSimpArgs false
set_option linter.unusedVariables false
set_option linter.unusedSectionVars false
/- A faster twin of the interpreter: what is fixed in the program's text is worked out once and kept behind a structure's field; values are taken apart by their own recursors. -/
namespace Go.Eng
set_option linter.unusedVariables false
variable [Sym]

/-- What stands in a slot. -/
structure SlotF where
  run : Env → (AV → Bool) → Bool
noncomputable def slotF (t : Tmp) : SlotF := ⟨fun e k => Tr.rec (motive := fun _ => Bool) (fun d tr => Option.rec (motive := fun _ => Bool) false k ((rdF AV d t).run tr)) e⟩
theorem slotF_eq (t : Tmp) (e : Env) (k : AV → Bool) : (slotF t).run e k = match Tr.get e t with | some v => k v | none => false := by
  have h : (slotF t).run e k = Tr.getK e t false k := rfl
  rw [h, Tr.getK_eq]; cases Tr.get e t <;> rfl
structure SetF where
  run : Env → AV → (Env → Bool) → Bool
noncomputable def setF (t : Tmp) : SetF := ⟨fun e v k => Tr.rec (motive := fun _ => Bool) (fun d tr => (Tr.stF AV Bool t (t + 1) d).run tr v k) e⟩
theorem setF_eq (t : Tmp) (e : Env) (v : AV) (k : Env → Bool) : (setF t).run e v k = e.setK t v k := rfl
structure EvF where
  run : Env → AV → (AV → Bool) → Bool
/-- An operand; 'last' is the slot that was written last, and its value is at hand. -/
noncomputable def evF (last : Option Tmp) (o : Operand) : EvF :=
  match o with
  | .tmp t => match last with
    | some d => match Nat.beq t d with
      | true => ⟨fun _ v k => k v⟩
      | false => ⟨fun e _ k => (slotF t).run e k⟩
    | none => ⟨fun e _ k => (slotF t).run e k⟩
  | .const v => match ofV cdepth v with
    | some v => ⟨fun _ _ k => k v⟩
    | none => ⟨fun _ _ _ => false⟩
  | .global _ => ⟨fun _ _ _ => false⟩
  | .func f => ⟨fun _ _ k => k (.fn f [] [])⟩
def AtHand (last : Option Tmp) (e : Env) (u : AV) : Prop := ∀ t, last = some t → Tr.get e t = some u
theorem evF_eq {last : Option Tmp} {e : Env} {u : AV} (hl : AtHand last e u) (o : Operand) (k : AV → Bool) : (evF last o).run e u k = evK e o false k := by
  cases o with
  | tmp t =>
    have hs : (slotF t).run e k = evK e (.tmp t) false k := by
      rw [slotF_eq]; simp only [evK]; cases Tr.get e t <;> rfl
    cases last with
    | none => exact hs
    | some d =>
      simp only [evF]
      cases hb : Nat.beq t d with
      | false => exact hs
      | true =>
        have := Nat.eq_of_beq_eq_true hb
        subst this
        simp only [evK, hl t rfl]
  | const v => simp only [evF, evK]; cases ofV cdepth v <;> rfl
  | global g => rfl
  | func f => rfl
structure EvsF where
  run : Env → AV → (List AV → Bool) → Bool
noncomputable def evsF (last : Option Tmp) : List Operand → EvsF
  | [] => ⟨fun _ _ k => k []⟩
  | o :: os => ⟨fun e u k => (evF last o).run e u fun v => (evsF last os).run e u fun vs => k (v :: vs)⟩
theorem evsF_eq {last : Option Tmp} {e : Env} {u : AV} (hl : AtHand last e u) (os : List Operand) (k : List AV → Bool) : (evsF last os).run e u k = evsK e os false k := by
  induction os generalizing k with
  | nil => rfl
  | cons o os ih => simp only [evsF, evF_eq hl, evsK, ih]
structure EvpF where
  run : Env → AV → (List (Nat × AV) → Bool) → Bool
noncomputable def evpF (last : Option Tmp) : List (Nat × Operand) → EvpF
  | [] => ⟨fun _ _ k => k []⟩
  | (i, o) :: os => ⟨fun e u k => (evF last o).run e u fun v => (evpF last os).run e u fun vs => k ((i, v) :: vs)⟩
theorem evpF_eq {last : Option Tmp} {e : Env} {u : AV} (hl : AtHand last e u) (os : List (Nat × Operand)) (k : List (Nat × AV) → Bool) : (evpF last os).run e u k = evpK e os false k := by
  induction os generalizing k with
  | nil => rfl
  | cons o os ih => obtain ⟨i, o⟩ := o; simp only [evpF, evF_eq hl, evpK, ih]
/-! Eliminators -/
noncomputable def kEq (k k' : IntKind) : Bool := decide (k = k')
noncomputable def ifB (b t f : Bool) : Bool := Bool.rec (motive := fun _ => Bool) f t b
noncomputable def isBoolK (v : AV) (k : Bool → Bool) : Bool := AV.rec (motive_1 := fun _ => Bool) (motive_2 := fun _ => Bool) (fun x0 => k x0) (fun _ _ => false) (fun _ _ => false) (fun _ => false) (false) (fun _ _ _ => false) (false) (fun _ _ _ _ _ _ _ => false) (false) (fun _ => false) (fun _ _ _ _ _ => false) (fun _ => false) (false) (fun _ _ _ => false) (false) (fun _ _ => false) (fun _ _ => false) false (fun _ _ _ _ => false) v
theorem isBoolK_eq (v : AV) (k : Bool → Bool) : isBoolK v k = match v with | .bool x0 => k x0 | _ => false := by cases v <;> rfl
noncomputable def isIntK (v : AV) (k : IntKind → Int → Bool) : Bool := AV.rec (motive_1 := fun _ => Bool) (motive_2 := fun _ => Bool) (fun _ => false) (fun x0 x1 => k x0 x1) (fun _ _ => false) (fun _ => false) (false) (fun _ _ _ => false) (false) (fun _ _ _ _ _ _ _ => false) (false) (fun _ => false) (fun _ _ _ _ _ => false) (fun _ => false) (false) (fun _ _ _ => false) (false) (fun _ _ => false) (fun _ _ => false) false (fun _ _ _ _ => false) v
theorem isIntK_eq (v : AV) (k : IntKind → Int → Bool) : isIntK v k = match v with | .int x0 x1 => k x0 x1 | _ => false := by cases v <;> rfl
noncomputable def isStrK (v : AV) (k : List Nat → Bool) : Bool := AV.rec (motive_1 := fun _ => Bool) (motive_2 := fun _ => Bool) (fun _ => false) (fun _ _ => false) (fun _ _ => false) (fun x0 => k x0) (false) (fun _ _ _ => false) (false) (fun _ _ _ _ _ _ _ => false) (false) (fun _ => false) (fun _ _ _ _ _ => false) (fun _ => false) (false) (fun _ _ _ => false) (false) (fun _ _ => false) (fun _ _ => false) false (fun _ _ _ _ => false) v
theorem isStrK_eq (v : AV) (k : List Nat → Bool) : isStrK v k = match v with | .str x0 => k x0 | _ => false := by cases v <;> rfl
noncomputable def isPtrK (v : AV) (k : Nat → Nat → Nat → Bool) : Bool := AV.rec (motive_1 := fun _ => Bool) (motive_2 := fun _ => Bool) (fun _ => false) (fun _ _ => false) (fun _ _ => false) (fun _ => false) (false) (fun x0 x1 x2 => k x0 x1 x2) (false) (fun _ _ _ _ _ _ _ => false) (false) (fun _ => false) (fun _ _ _ _ _ => false) (fun _ => false) (false) (fun _ _ _ => false) (false) (fun _ _ => false) (fun _ _ => false) false (fun _ _ _ _ => false) v
theorem isPtrK_eq (v : AV) (k : Nat → Nat → Nat → Bool) : isPtrK v k = match v with | .ptr x0 x1 x2 => k x0 x1 x2 | _ => false := by cases v <;> rfl
noncomputable def isSliceK (v : AV) (k : Nat → Nat → Nat → Nat → Nat → Bool → Nat → Bool) : Bool := AV.rec (motive_1 := fun _ => Bool) (motive_2 := fun _ => Bool) (fun _ => false) (fun _ _ => false) (fun _ _ => false) (fun _ => false) (false) (fun _ _ _ => false) (false) (fun x0 x1 x2 x3 x4 x5 x6 => k x0 x1 x2 x3 x4 x5 x6) (false) (fun _ => false) (fun _ _ _ _ _ => false) (fun _ => false) (false) (fun _ _ _ => false) (false) (fun _ _ => false) (fun _ _ => false) false (fun _ _ _ _ => false) v
theorem isSliceK_eq (v : AV) (k : Nat → Nat → Nat → Nat → Nat → Bool → Nat → Bool) : isSliceK v k = match v with | .slice x0 x1 x2 x3 x4 x5 x6 => k x0 x1 x2 x3 x4 x5 x6 | _ => false := by cases v <;> rfl
noncomputable def isMapK (v : AV) (k : Nat → Bool) : Bool := AV.rec (motive_1 := fun _ => Bool) (motive_2 := fun _ => Bool) (fun _ => false) (fun _ _ => false) (fun _ _ => false) (fun _ => false) (false) (fun _ _ _ => false) (false) (fun _ _ _ _ _ _ _ => false) (false) (fun x0 => k x0) (fun _ _ _ _ _ => false) (fun _ => false) (false) (fun _ _ _ => false) (false) (fun _ _ => false) (fun _ _ => false) false (fun _ _ _ _ => false) v
theorem isMapK_eq (v : AV) (k : Nat → Bool) : isMapK v k = match v with | .map x0 => k x0 | _ => false := by cases v <;> rfl
noncomputable def isAggK (v : AV) (k : List AV → Bool) : Bool := AV.rec (motive_1 := fun _ => Bool) (motive_2 := fun _ => Bool) (fun _ => false) (fun _ _ => false) (fun _ _ => false) (fun _ => false) (false) (fun _ _ _ => false) (false) (fun _ _ _ _ _ _ _ => false) (false) (fun _ => false) (fun _ _ _ _ _ => false) (fun _ => false) (false) (fun _ _ _ => false) (false) (fun x0 _ => k x0) (fun _ _ => false) false (fun _ _ _ _ => false) v
theorem isAggK_eq (v : AV) (k : List AV → Bool) : isAggK v k = match v with | .agg x0 => k x0 | _ => false := by cases v <;> rfl
noncomputable def isTupK (v : AV) (k : List AV → Bool) : Bool := AV.rec (motive_1 := fun _ => Bool) (motive_2 := fun _ => Bool) (fun _ => false) (fun _ _ => false) (fun _ _ => false) (fun _ => false) (false) (fun _ _ _ => false) (false) (fun _ _ _ _ _ _ _ => false) (false) (fun _ => false) (fun _ _ _ _ _ => false) (fun _ => false) (false) (fun _ _ _ => false) (false) (fun _ _ => false) (fun x0 _ => k x0) false (fun _ _ _ _ => false) v
theorem isTupK_eq (v : AV) (k : List AV → Bool) : isTupK v k = match v with | .tup x0 => k x0 | _ => false := by cases v <;> rfl
noncomputable def oneB (v : AV) : Bool := AV.rec (motive_1 := fun _ => Bool) (motive_2 := fun _ => Bool) (fun _ => true) (fun _ _ => true) (fun _ _ => true) (fun _ => true) (true) (fun _ _ _ => true) (true) (fun _ _ _ _ _ _ _ => true) (true) (fun _ => true) (fun _ _ _ _ _ => true) (fun _ => true) (true) (fun _ _ _ => true) (true) (fun _ _ => false) (fun _ _ => false) false (fun _ _ _ _ => false) v
theorem oneB_eq (v : AV) : oneB v = v.one := by cases v <;> rfl
noncomputable def okNil (v : AV) : Bool := AV.rec (motive_1 := fun _ => Bool) (motive_2 := fun _ => Bool) (fun _ => false) (fun _ _ => false) (fun _ _ => false) (fun _ => false) (false) (fun _ _ _ => true) (false) (fun _ _ _ _ _ _ _ => true) (false) (fun _ => true) (fun _ _ _ _ _ => true) (fun _ => false) (false) (fun _ _ _ => true) (false) (fun _ _ => false) (fun _ _ => false) false (fun _ _ _ _ => false) v
noncomputable def lenSK (v : AV) (k : Nat → Bool) : Bool := AV.rec (motive_1 := fun _ => Bool) (motive_2 := fun _ => Bool) (fun _ => false) (fun _ _ => false) (fun _ _ => false) (fun _ => false) (false) (fun _ _ _ => false) (k 0) (fun x0 x1 x2 x3 x4 x5 x6 => k x3) (false) (fun _ => false) (fun _ _ _ _ _ => false) (fun _ => false) (false) (fun _ _ _ => false) (false) (fun _ _ => false) (fun _ _ => false) false (fun _ _ _ _ => false) v
noncomputable def fast2 (a b : AV) (slow : Bool) (fast : IntKind → Nat → Nat → Bool) : Bool := AV.rec (motive_1 := fun _ => Bool) (motive_2 := fun _ => Bool) (fun _ => slow) (fun k m => Int.rec (motive := fun _ => Bool) (fun m => AV.rec (motive_1 := fun _ => Bool) (motive_2 := fun _ => Bool) (fun _ => slow) (fun k' n => Int.rec (motive := fun _ => Bool) (fun n => Bool.rec (motive := fun _ => Bool) slow (fast k m n) (kEq k k')) (fun _ => slow) n) (fun _ _ => slow) (fun _ => slow) (slow) (fun _ _ _ => slow) (slow) (fun _ _ _ _ _ _ _ => slow) (slow) (fun _ => slow) (fun _ _ _ _ _ => slow) (fun _ => slow) (slow) (fun _ _ _ => slow) (slow) (fun _ _ => slow) (fun _ _ => slow) false (fun _ _ _ _ => false) b) (fun _ => slow) m) (fun _ _ => slow) (fun _ => slow) (slow) (fun _ _ _ => slow) (slow) (fun _ _ _ _ _ _ _ => slow) (slow) (fun _ => slow) (fun _ _ _ _ _ => slow) (fun _ => slow) (slow) (fun _ _ _ => slow) (slow) (fun _ _ => slow) (fun _ _ => slow) false (fun _ _ _ _ => false) a
noncomputable def fast1 (a : AV) (slow : Bool) (fast : IntKind → Nat → Bool) : Bool := AV.rec (motive_1 := fun _ => Bool) (motive_2 := fun _ => Bool) (fun _ => slow) (fun k m => Int.rec (motive := fun _ => Bool) (fun m => fast k m) (fun _ => slow) m) (fun _ _ => slow) (fun _ => slow) (slow) (fun _ _ _ => slow) (slow) (fun _ _ _ _ _ _ _ => slow) (slow) (fun _ => slow) (fun _ _ _ _ _ => slow) (fun _ => slow) (slow) (fun _ _ _ => slow) (slow) (fun _ _ => slow) (fun _ _ => slow) false (fun _ _ _ _ => false) a
noncomputable def fastB (a : AV) (slow : Bool) (fast : Bool → Bool) : Bool := AV.rec (motive_1 := fun _ => Bool) (motive_2 := fun _ => Bool) (fun b => fast b) (fun _ _ => slow) (fun _ _ => slow) (fun _ => slow) (slow) (fun _ _ _ => slow) (slow) (fun _ _ _ _ _ _ _ => slow) (slow) (fun _ => slow) (fun _ _ _ _ _ => slow) (fun _ => slow) (slow) (fun _ _ _ => slow) (slow) (fun _ _ => slow) (fun _ _ => slow) false (fun _ _ _ _ => false) a
noncomputable def isFnK (v : AV) (kf : FuncId → List AV → List AV → Bool) (ky : Nat → Bool) : Bool := AV.rec (motive_1 := fun _ => Bool) (motive_2 := fun _ => Bool) (fun _ => false) (fun _ _ => false) (fun _ _ => false) (fun _ => false) (false) (fun _ _ _ => false) (false) (fun _ _ _ _ _ _ _ => false) (false) (fun _ => false) (fun g first cap _ _ => kf g first cap) (fun id => ky id) (false) (fun _ _ _ => false) (false) (fun _ _ => false) (fun _ _ => false) false (fun _ _ _ _ => false) v
theorem fast2_eq {a b : AV} {slow : Bool} {fast : IntKind → Nat → Nat → Bool} (h : ∀ k m n, a = .int k (.ofNat m) → b = .int k (.ofNat n) → fast k m n = slow) : fast2 a b slow fast = slow := by
  cases a <;> first | rfl | skip
  rename_i k m
  cases m with
  | negSucc m => rfl
  | ofNat m =>
    cases b <;> first | rfl | skip
    rename_i k' n
    cases n with
    | negSucc n => rfl
    | ofNat n =>
      show Bool.rec (motive := fun _ => Bool) slow (fast k m n) (kEq k k') = slow
      by_cases hk : k = k'
      · subst hk
        rw [show kEq k k = true from decide_eq_true rfl]
        exact h k m n rfl rfl
      · rw [show kEq k k' = false from decide_eq_false hk]
theorem fast1_eq {a : AV} {slow : Bool} {fast : IntKind → Nat → Bool} (h : ∀ k m, a = .int k (.ofNat m) → fast k m = slow) : fast1 a slow fast = slow := by
  cases a <;> first | rfl | skip
  rename_i k m
  cases m with
  | negSucc m => rfl
  | ofNat m => exact h k m rfl
theorem fastB_eq {a : AV} {slow : Bool} {fast : Bool → Bool} (h : ∀ b, a = .bool b → fast b = slow) : fastB a slow fast = slow := by
  cases a <;> first | rfl | skip
  exact h _ rfl
noncomputable def isCellsK (r : Rec) (k : TypeId → Tr ACell → Nat → Nat → Bool → Bool) : Bool := Rec.rec (motive := fun _ => Bool) k (fun _ _ => false) (fun _ _ _ _ => false) (fun _ _ => false) (fun _ _ _ _ _ _ _ _ _ => false) (fun _ => false) (fun _ => false) false r
theorem isCellsK_eq (r : Rec) (k : TypeId → Tr ACell → Nat → Nat → Bool → Bool) : isCellsK r k = match r with | .cells a b c d e => k a b c d e | _ => false := by cases r <;> rfl
theorem ifB_true (t f : Bool) : ifB true t f = t := rfl
theorem ifB_false (t f : Bool) : ifB false t f = f := rfl
/-! Memory -/
noncomputable def cellF (st : St) (id ep off : Nat) (k : AV → Bool) : Bool :=
  Tr.getK st.heap id false fun r => isCellsK r fun _ c top _ _ => ifB (Nat.ble (Nat.succ off) top) (Tr.getK c off false fun a => ACell.rec (motive := fun _ => Bool) (fun v tag => ifB (Nat.ble tag ep) (k v) false) a) false
theorem cellF_eq (st : St) (id ep off : Nat) (k : AV → Bool) : cellF st id ep off k = cellK st id ep off false k := by
  unfold cellF cellK
  rw [Tr.getK_eq]
  cases st.heap.get id with
  | none => rfl
  | some r =>
    simp only [isCellsK_eq]
    cases r <;> first | rfl | skip
    rename_i c top _ _
    simp only []
    show ifB (Nat.blt off top) _ _ = _
    cases Nat.blt off top with
    | false => rfl
    | true =>
      simp only [ifB_true, Tr.getK_eq]
      cases c.get off with
      | none => rfl
      | some x => obtain ⟨v, tag⟩ := x; simp only []; cases Nat.ble tag ep <;> rfl
noncomputable def putF (st : St) (id ep off : Nat) (v : AV) (k : St → Bool) : Bool :=
  ifB (oneB v) (St.rec (motive := fun _ => Bool) (fun heap next lim => Tr.getK heap id false fun r => isCellsK r fun elem c top lat sh =>
    ifB (Nat.ble (Nat.succ id) lim) false (ifB (Nat.beq ep lat) (ifB (Nat.ble (Nat.succ off) top) (c.setK off ⟨v, lat⟩ fun c => heap.setK id (.cells elem c top lat sh) fun h => k ⟨h, next, lim⟩) false) false)) st) false
theorem putF_eq (st : St) (id ep off : Nat) (v : AV) (k : St → Bool) : putF st id ep off v k = putK st id ep off v false k := by
  unfold putF putK
  rw [oneB_eq]
  cases v.one with
  | false => rfl
  | true =>
    obtain ⟨heap, next, lim⟩ := st
    simp only [ifB_true, Tr.getK_eq]
    cases heap.get id with
    | none => rfl
    | some r =>
      simp only [isCellsK_eq]
      cases r <;> first | rfl | skip
      rename_i c top lat sh
      simp only []
      show ifB (Nat.blt id lim) false (ifB (Nat.beq ep lat) (ifB (Nat.blt off top) _ _) _) = _
      cases Nat.blt id lim <;> cases Nat.beq ep lat <;> cases Nat.blt off top <;> rfl
noncomputable def newF (st : St) (r : Rec) (k : Nat → St → Bool) : Bool := St.rec (motive := fun _ => Bool) (fun heap next lim => heap.setK next r fun h => natK (Nat.add next 1) fun n => k next ⟨h, n, lim⟩) st
theorem newF_eq (st : St) (r : Rec) (k : Nat → St → Bool) : newF st r k = newK st r k := rfl
structure NthF where
  run : List AV → (AV → Bool) → Bool
noncomputable def nthF : Nat → NthF
  | 0 => ⟨fun l k => List.rec (motive := fun _ => Bool) false (fun a _ _ => k a) l⟩
  | i + 1 => ⟨fun l k => List.rec (motive := fun _ => Bool) false (fun _ l _ => (nthF i).run l k) l⟩
theorem nthF_eq (i : Nat) (l : List AV) (k : AV → Bool) : (nthF i).run l k = match l[i]? with | some v => k v | none => false := by
  induction i generalizing l with
  | zero => cases l <;> rfl
  | succ i ih =>
    cases l with
    | nil => rfl
    | cons a l =>
      rw [List.getElem?_cons_succ, ← ih l]
      rfl
/-! Numbers -/
noncomputable def boolK (b : Bool) (k : AV → Bool) : Bool := Bool.rec (motive := fun _ => Bool) (k (.bool false)) (k (.bool true)) b
theorem boolK_eq (b : Bool) (k : AV → Bool) : boolK b k = k (.bool b) := by cases b <;> rfl
structure BinF where
  run : Bool → (AV → Bool) → IntKind → Nat → Nat → Bool
noncomputable def binF (op : BinOp) : BinF :=
  match op with
  | .add => ⟨fun slow c k m n => ifB (Nat.ble (Nat.succ (Nat.add m n)) (half k)) (natK (Nat.add m n) fun s => c (.int k (.ofNat s))) slow⟩
  | .mul => ⟨fun slow c k m n => ifB (Nat.ble (Nat.succ (Nat.mul m n)) (half k)) (natK (Nat.mul m n) fun s => c (.int k (.ofNat s))) slow⟩
  | .sub => ⟨fun slow c k m n => ifB (Nat.ble n m) (ifB (Nat.ble (Nat.succ (Nat.sub m n)) (half k)) (natK (Nat.sub m n) fun s => c (.int k (.ofNat s))) slow) slow⟩
  | .eql => ⟨fun _ c _ m n => boolK (Nat.beq m n) c⟩
  | .neq => ⟨fun _ c _ m n => boolK (Bool.not (Nat.beq m n)) c⟩
  | .lss => ⟨fun _ c _ m n => boolK (Nat.ble (Nat.succ m) n) c⟩
  | .leq => ⟨fun _ c _ m n => boolK (Nat.ble m n) c⟩
  | .gtr => ⟨fun _ c _ m n => boolK (Nat.ble (Nat.succ n) m) c⟩
  | .geq => ⟨fun _ c _ m n => boolK (Nat.ble n m) c⟩
  | _ => ⟨fun slow _ _ _ _ => slow⟩
theorem binF_eq {P : Program} {st : St} {op : BinOp} {t : TypeId} {x y : Operand} (c : AV → Bool) (k : IntKind) (m n : Nat) :
    (binF op).run (outK (binA P st op t x y (.int k (.ofNat m)) (.int k (.ofNat n))) false c) c k m n = outK (binA P st op t x y (.int k (.ofNat m)) (.int k (.ofNat n))) false c := by
  have hk : decide (k = k) = true := decide_eq_true rfl
  cases op <;> first | rfl | skip
  all_goals simp only [binA, intA, binF]
  · cases hb : Nat.ble (Nat.succ (Nat.add m n)) (half k) with
    | false => rfl
    | true =>
      have e : wrapF k (Int.ofNat m + Int.ofNat n) = .ofNat (m + n) := by
        show (match Nat.blt (m + n) (half k) with | true => Int.ofNat (m + n) | false => k.wrap (.ofNat (m + n))) = _
        rw [show Nat.blt (m + n) (half k) = true from hb]
      rw [e]; rfl
  · cases hn : Nat.ble n m with
    | false => rfl
    | true =>
      cases hb : Nat.ble (Nat.succ (Nat.sub m n)) (half k) with
      | false => rfl
      | true =>
        have hle : n ≤ m := Nat.le_of_ble_eq_true hn
        have e : wrapF k (Int.ofNat m - Int.ofNat n) = .ofNat (m - n) := by
          have : (Int.ofNat m - Int.ofNat n) = Int.ofNat (m - n) := by simp only [Int.ofNat_eq_natCast]; omega
          rw [this]
          show (match Nat.blt (m - n) (half k) with | true => Int.ofNat (m - n) | false => k.wrap (.ofNat (m - n))) = _
          rw [show Nat.blt (m - n) (half k) = true from hb]
        rw [e]; rfl
  · cases hb : Nat.ble (Nat.succ (Nat.mul m n)) (half k) with
    | false => rfl
    | true =>
      have e : wrapF k (Int.ofNat m * Int.ofNat n) = .ofNat (m * n) := by
        show (match Nat.blt (m * n) (half k) with | true => Int.ofNat (m * n) | false => k.wrap (.ofNat (m * n))) = _
        rw [show Nat.blt (m * n) (half k) = true from hb]
      rw [e]; rfl
  all_goals simp only [boolK_eq, outK_eq]
  all_goals congr 2
  · rw [Bool.eq_iff_iff]; simp only [Nat.beq_eq, decide_eq_true_eq, Int.ofNat.injEq]
  · congr 1; rw [Bool.eq_iff_iff]; simp only [Nat.beq_eq, decide_eq_true_eq, Int.ofNat.injEq]
  · rw [Bool.eq_iff_iff]; simp only [Nat.ble_eq, decide_eq_true_eq, Int.ofNat_eq_natCast]; omega
  · rw [Bool.eq_iff_iff]; simp only [Nat.ble_eq, decide_eq_true_eq, Int.ofNat_eq_natCast]; omega
  · rw [Bool.eq_iff_iff]; simp only [Nat.ble_eq, decide_eq_true_eq, Int.ofNat_eq_natCast]; omega
  · rw [Bool.eq_iff_iff]; simp only [Nat.ble_eq, decide_eq_true_eq, Int.ofNat_eq_natCast]; omega
end Go.Eng
/- The faster twin: what is worked out once for a region whose order is open; sets are numbers. -/
namespace Go.Eng
set_option linter.unusedVariables false
variable [Sym]

noncomputable def hasF (l : List Nat) (a : Nat) : Bool := List.rec (motive := fun _ => Bool) false (fun b _ ih => Bool.rec (motive := fun _ => Bool) ih true (Nat.beq a b)) l
theorem hasF_eq (l : List Nat) (a : Nat) : hasF l a = l.contains a := by
  induction l with
  | nil => rfl
  | cons b l ih =>
    show Bool.rec (motive := fun _ => Bool) (hasF l a) true (Nat.beq a b) = _
    rw [ih, List.contains_cons]
    cases hb : Nat.beq a b with
    | true => rw [show (a == b) = true from by simpa using Nat.eq_of_beq_eq_true hb]; rfl
    | false => rw [show (a == b) = false from by simpa using Nat.ne_of_beq_eq_false hb]; rfl
noncomputable def bitF (m i : Nat) : Bool := Nat.beq (Nat.land (Nat.shiftRight m i) 1) 1
theorem bitF_eq (m i : Nat) : bitF m i = Nat.testBit m i := by
  unfold bitF
  show Nat.beq ((m >>> i) &&& 1) 1 = _
  rw [Nat.testBit, Nat.and_comm 1, Nat.and_one_is_mod]
  rcases Nat.mod_two_eq_zero_or_one (m >>> i) with h | h <;> rw [h] <;> rfl
noncomputable def maskF (l : List Nat) : Nat := List.rec (motive := fun _ => Nat) 0 (fun p _ m => Nat.lor (Nat.shiftLeft 1 p) m) l
theorem maskF_eq (l : List Nat) (i : Nat) : (maskF l).testBit i = l.contains i := by
  induction l with
  | nil => simp [maskF]
  | cons p l ih =>
    show ((1 <<< p) ||| maskF l).testBit i = _
    rw [Nat.testBit_or, ih, List.contains_cons, Nat.one_shiftLeft, Nat.testBit_two_pow]
    congr 1
    by_cases h : p = i
    · subst h; simp
    · have h2 : ¬ i = p := fun e => h e.symm
      simp [h, h2]
theorem unite_has (l m : List Nat) (i : Nat) : (unite l m).contains i = (l.contains i || m.contains i) := by
  induction l generalizing m with
  | nil => simp [unite]
  | cons a l ih =>
    unfold unite
    rw [List.contains_cons]
    cases hm : m.contains a with
    | true =>
      simp only [ih]
      by_cases h : i = a
      · subst h; simp only [hm, beq_self_eq_true, Bool.or_true, Bool.true_or]
      · have : (i == a) = false := by simpa using h
        rw [this, Bool.false_or]
    | false =>
      simp only [ih, List.contains_cons]
      cases (i == a) <;> cases l.contains i <;> rfl
noncomputable def joinF (f : Nat → Nat) (z : Nat) (l : List Nat) : Nat := List.rec (motive := fun _ => Nat) z (fun p _ m => Nat.lor (f p) m) l
noncomputable def ancM (ops : Array Oper) (f : Nat) : Nat → Nat := Nat.rec (motive := fun _ => Nat → Nat) (fun _ => 0) (fun _ ih j => joinF ih (maskF (preds ops j)) (preds ops j)) f
theorem uniteAll_has (l : List (List Nat)) (i : Nat) : (uniteAll l).contains i = l.any (fun m => m.contains i) := by
  induction l with
  | nil => rfl
  | cons a l ih => simp only [uniteAll, unite_has, ih, List.any_cons]
theorem joinF_has (f : Nat → Nat) (z : Nat) (l : List Nat) (i : Nat) : (joinF f z l).testBit i = (z.testBit i || l.any fun p => (f p).testBit i) := by
  induction l with
  | nil => simp [joinF]
  | cons p l ih =>
    show (f p ||| joinF f z l).testBit i = _
    rw [Nat.testBit_or, ih, List.any_cons]
    cases (f p).testBit i <;> cases z.testBit i <;> rfl
theorem ancM_eq (ops : Array Oper) (f j i : Nat) : bitF (ancM ops f j) i = (anc ops f j).contains i := by
  rw [bitF_eq]
  induction f generalizing j with
  | zero => show Nat.testBit 0 i = _; rw [Nat.zero_testBit]; rfl
  | succ f ih =>
    show (joinF (ancM ops f) (maskF (preds ops j)) (preds ops j)).testBit i = _
    rw [joinF_has, maskF_eq, anc, uniteAll_has, List.any_cons, List.any_map]
    congr 1
    congr 1; funext p
    exact ih p
noncomputable def allF {α : Type} (p : α → Bool) (l : List α) : Bool := List.rec (motive := fun _ => Bool) true (fun a _ ih => Bool.rec (motive := fun _ => Bool) false ih (p a)) l
theorem allF_eq {α : Type} (p : α → Bool) (l : List α) : allF p l = l.all p := by
  induction l with
  | nil => rfl
  | cons a l ih =>
    show Bool.rec (motive := fun _ => Bool) false (allF p l) (p a) = _
    rw [ih, List.all_cons]
    cases p a <;> rfl
noncomputable def filF {α : Type} (p : α → Bool) (l : List α) : List α := List.rec (motive := fun _ => List α) [] (fun a _ ih => Bool.rec (motive := fun _ => List α) ih (a :: ih) (p a)) l
theorem filF_eq {α : Type} (p : α → Bool) (l : List α) : filF p l = l.filter p := by
  induction l with
  | nil => rfl
  | cons a l ih =>
    show Bool.rec (motive := fun _ => List α) (filF p l) (a :: filF p l) (p a) = _
    rw [ih, List.filter_cons]
    cases p a <;> rfl
noncomputable def readyF (ops : Array Oper) (done : List Nat) : List Nat := filF (fun i => Bool.rec (motive := fun _ => Bool) (allF (hasF done) (preds ops i)) false (hasF done i)) (List.range ops.size)
theorem readyF_eq (ops : Array Oper) (done : List Nat) : readyF ops done = readyL ops done := by
  unfold readyF readyL
  rw [filF_eq]
  congr 1; funext i
  have hh : hasF done = done.contains := funext fun a => hasF_eq done a
  rw [hh, allF_eq]
  cases done.contains i <;> rfl
noncomputable def mkTF (ops : Array Oper) : Nat → List Nat → DT
  | 0, _ => .fin
  | f + 1, done => match readyF ops done with
    | [] => .fin
    | r :: rs => match (r :: rs).find? (quietCls ops) with
      | some i => .one i (mkTF ops f (i :: done))
      | none => alts (fun i => mkTF ops f (i :: done)) r rs
theorem mkTF_eq (ops : Array Oper) (f : Nat) (done : List Nat) : mkTF ops f done = mkT ops f done := by
  induction f generalizing done with
  | zero => rfl
  | succ f ih =>
    unfold mkTF mkT
    rw [readyF_eq]
    cases readyL ops done with
    | nil => rfl
    | cons r rs =>
      simp only []
      cases (r :: rs).find? (quietCls ops) <;> simp only [ih]
noncomputable def dstsOkF (ops : Array Oper) : Bool :=
  allF (fun i => match ops[i]? with
    | some x => match x.dst with
      | some d => allF (fun j => match ops[j]? with
        | some y => match Nat.beq i j with
          | true => Bool.rec (motive := fun _ => Bool) true (Nat.ble 2 (opClass y)) (hasF (looks ops y) d)
          | false => Bool.rec (motive := fun _ => Bool) false (Bool.rec (motive := fun _ => Bool) true (Bool.rec (motive := fun _ => Bool) (Bool.rec (motive := fun _ => Bool) false (bitF (ancM ops ops.size i) j) (Nat.ble 2 (opClass x))) true (hasF (preds ops j) i)) (hasF (looks ops y) d))
              (match y.dst with | some d' => !Nat.beq d d' | none => true)
        | none => true) (List.range ops.size)
      | none => true
    | none => true) (List.range ops.size)
theorem dstsOkF_eq (ops : Array Oper) : dstsOkF ops = dstsOk ops := by
  unfold dstsOkF dstsOk
  rw [allF_eq]
  congr 1; funext i
  cases hx : ops[i]? with
  | none => simp
  | some x =>
    simp only []
    cases hd : x.dst with
    | none =>
      symm
      rw [List.all_eq_true]
      intro j _
      cases ops[j]? <;> simp only [hd]
    | some d =>
      simp only [allF_eq]
      congr 1; funext j
      cases ops[j]? with
      | none => rfl
      | some y =>
        simp only [hasF_eq, ancM_eq, hd]
        cases Nat.beq i j with
        | true =>
          simp only []
          cases (looks ops y).contains d <;> cases Nat.ble 2 (opClass y) <;> rfl
        | false =>
          simp only []
          cases y.dst with
          | none =>
            simp only []
            cases (looks ops y).contains d <;> cases (preds ops j).contains i <;> cases Nat.ble 2 (opClass x) <;> cases (anc ops ops.size i).contains j <;> rfl
          | some d' =>
            simp only []
            cases Nat.beq d d' <;> cases (looks ops y).contains d <;> cases (preds ops j).contains i <;> cases Nat.ble 2 (opClass x) <;> cases (anc ops ops.size i).contains j <;> rfl
noncomputable def regOkF (ops : Array Oper) : Bool :=
  Bool.rec (motive := fun _ => Bool) false (allF (fun j => allF (fun i => Nat.blt i j) (preds ops j)) (List.range ops.size)) (dstsOkF ops)
theorem regOkF_eq (ops : Array Oper) : regOkF ops = regOk ops := by
  unfold regOkF regOk
  simp only [allF_eq, dstsOkF_eq]
  cases dstsOk ops <;> rfl
end Go.Eng
/- The faster twin: one operation. -/
namespace Go.Eng
set_option linter.unusedVariables false
variable [Sym] [Hooks]

/-! Calls -/
structure ResF where
  run : St → Env → (List AV → Bool) → Bool
noncomputable def resF (P : Program) : List ResultVar → ResF
  | [] => ⟨fun _ _ k => k []⟩
  | .tmp t :: rs => ⟨fun st e k => (slotF t).run e fun v => (resF P rs).run st e fun vs => k (v :: vs)⟩
  | .cell a t :: rs => ⟨fun st e k => (slotF a).run e fun a => isPtrK a fun id ep off => loadK P st t id ep off false fun v => (resF P rs).run st e fun vs => k (v :: vs)⟩
theorem resF_eq (P : Program) (rs : List ResultVar) (st : St) (e : Env) (k : List AV → Bool) : (resF P rs).run st e k = resultsK P st e rs k := by
  induction rs generalizing k with
  | nil => rfl
  | cons r rs ih =>
    cases r with
    | tmp t =>
      simp only [resF, resultsK, slotF_eq, ih]
      cases Tr.get e t <;> rfl
    | cell a t =>
      simp only [resF, resultsK, slotF_eq, isPtrK_eq, ih]
      cases Tr.get e a with
      | none => rfl
      | some v => cases v <;> rfl
structure ResvF where
  run : St → Env → (AV → Bool) → Bool
noncomputable def resvF (P : Program) (rs : List ResultVar) : ResvF :=
  match rs with
  | [.tmp t] => ⟨fun _ e k => (slotF t).run e k⟩
  | rs => ⟨fun st e k => (resF P rs).run st e fun vs => k (resA vs)⟩
theorem resvF_eq (P : Program) (rs : List ResultVar) (st : St) (e : Env) (k : AV → Bool) : (resvF P rs).run st e k = resultsK P st e rs fun vs => k (resA vs) := by
  unfold resvF
  split
  · simp only [resultsK, slotF_eq, resA]
    rename_i t
    cases Tr.get e t <;> rfl
  · simp only [resF_eq]
noncomputable def unwindF (st : St) (ds : List Nat) (k : St → Bool) : Bool := List.rec (motive := fun _ => Bool) (k st) (fun _ _ _ => unwindK st ds k) ds
theorem unwindF_eq (st : St) (ds : List Nat) (k : St → Bool) : unwindF st ds k = unwindK st ds k := by cases ds <;> rfl
structure FunF where
  run : RecX → List AV → St → KR → KR → Bool
noncomputable def funBF (P : Program) (f : FuncId) : FunF :=
  match P.funcs[f]? with
  | some fn => match fn.body, callable fn with
    | some c, true => ⟨fun rec args st k kp => ifB (Nat.ble args.length fn.ntmps) (argsK args 0 .lf fun e => rec ⟨f, fn.ntmps, none⟩ c e [] st fun x e ds st =>
        AX.rec (motive := fun _ => Bool) (unwindF st ds fun st => (resvF P fn.results.toList).run st e fun v => k v st) (fun _ => false) (unwindF st ds fun st => (resvF P fn.results.toList).run st e fun v => k v st) (fun v => kp v st) x) false⟩
    | _, _ => ⟨fun _ _ _ _ _ => false⟩
  | none => ⟨fun _ _ _ _ _ => false⟩
theorem funBF_eq (P : Program) (f : FuncId) (rec : RecX) (args : List AV) (st : St) (k kp : KR) : (funBF P f).run rec args st k kp = callB P rec f args st k kp := by
  unfold funBF callB
  cases P.funcs[f]? with
  | none => rfl
  | some fn =>
    simp only []
    cases fn.body with
    | none => rfl
    | some c =>
      cases callable fn with
      | false => simp only []
      | true =>
        simp only []
        cases Nat.ble args.length fn.ntmps with
        | false => rfl
        | true =>
          simp only [ifB_true]
          congr 1; funext e; congr 1; funext x e ds st
          cases x <;> simp only [unwindF_eq, resvF_eq]
noncomputable def funF (P : Program) (f : FuncId) : FunF :=
  match Hooks.hk f with
  | some h => ⟨fun rec args st k kp => h.run (fun g => (funBF P g).run rec) args st k kp⟩
  | none => funBF P f
theorem funF_eq (P : Program) (f : FuncId) (rec : RecX) (args : List AV) (st : St) (k kp : KR) : (funF P f).run rec args st k kp = callK P rec f args st k kp := by
  unfold funF callK
  cases Hooks.hk f with
  | none => exact funBF_eq P f rec args st k kp
  | some h =>
    have : (fun g => (funBF P g).run rec) = callB P rec := by
      funext g args st k kp
      exact funBF_eq P g rec args st k kp
    simp only [this]
noncomputable def catF (first args cap : List AV) : List AV := List.rec (motive := fun _ => List AV) (List.rec (motive := fun _ => List AV) args (fun _ _ _ => first ++ args ++ cap) cap) (fun _ _ _ => first ++ args ++ cap) first
theorem catF_eq (first args cap : List AV) : catF first args cap = first ++ args ++ cap := by
  cases first with
  | nil => cases cap with
    | nil => simp [catF]
    | cons _ _ => rfl
  | cons _ _ => rfl
noncomputable def callVF (P : Program) (rec : RecX) (f : AV) (args : List AV) (st : St) (k kp : KR) : Bool :=
  isFnK f (fun g first cap => (funF P g).run rec (catF first args cap) st k kp) fun id => roundK rec id args st k
theorem callVF_eq (P : Program) (rec : RecX) (f : AV) (args : List AV) (st : St) (k kp : KR) : callVF P rec f args st k kp = callVK P rec f args st k kp := by
  cases f <;> first | rfl | skip
  rename_i g first cap
  show (funF P g).run rec (catF first args cap) st k kp = callK P rec g (first ++ args ++ cap) st k kp
  rw [funF_eq, catF_eq]
structure OpF where
  run : RecX → Env → AV → St → KR → KR → Bool
noncomputable def deadF : OpF := ⟨fun _ _ _ _ _ _ => false⟩
noncomputable def loadF (P : Program) (last : Option Tmp) (t : TypeId) (a : Operand) : OpF :=
  match isAggB P t with
  | some true => match szOf P t with
    | some n => ⟨fun _ e u st k _ => (evF last a).run e u fun a => isPtrK a fun id ep off => cellsK st id ep n off false fun l => k (.agg l) st⟩
    | none => deadF'
  | some false => ⟨fun _ e u st k _ => (evF last a).run e u fun a => isPtrK a fun id ep off => cellF st id ep off fun v => k v st⟩
  | none => deadF'
  where deadF' : OpF := ⟨fun _ e u st k _ => (evF last a).run e u fun a => isPtrK a fun id ep off => false⟩
noncomputable def storeF (P : Program) (last : Option Tmp) (t : TypeId) (a x : Operand) : OpF :=
  match szOf P t with
  | some 1 => ⟨fun _ e u st k _ => (evF last a).run e u fun a => (evF last x).run e u fun v => isPtrK a fun id ep off => ifB (oneB v) (putF st id ep off v fun st => k undefA st)
      (match Nat.beq v.cells.length 1 with | true => putsK st id ep off v.cells false fun st => k undefA st | false => false)⟩
  | some n => ⟨fun _ e u st k _ => (evF last a).run e u fun a => (evF last x).run e u fun v => isPtrK a fun id ep off => match Nat.beq v.cells.length n with | true => putsK st id ep off v.cells false fun st => k undefA st | false => false⟩
  | none => ⟨fun _ e u st k _ => (evF last a).run e u fun a => (evF last x).run e u fun v => isPtrK a fun _ _ _ => false⟩
noncomputable def fieldAddrF (P : Program) (last : Option Tmp) (t : TypeId) (x : Operand) (f : Nat) : OpF :=
  match fldA P t f with
  | some f => match szOf P f.type with
    | some (_ + 1) => match f.offset with
      | 0 => ⟨fun _ e u st k _ => (evF last x).run e u fun v => isPtrK v fun id ep off => k (.ptr id ep off) st⟩
      | o => ⟨fun _ e u st k _ => (evF last x).run e u fun v => isPtrK v fun id ep off => natK (Nat.add off o) fun off => k (.ptr id ep off) st⟩
    | _ => ⟨fun _ e u st k _ => (evF last x).run e u fun v => isPtrK v fun id ep off => false⟩
  | none => ⟨fun _ e u st k _ => (evF last x).run e u fun v => isPtrK v fun id ep off => false⟩
noncomputable def natIn (i : Int) (len : Nat) (k : Nat → Bool) : Bool := Int.rec (motive := fun _ => Bool) (fun m => ifB (Nat.ble (Nat.succ m) len) (k m) false) (fun _ => false) i
theorem natIn_eq (i : Int) (len : Nat) (k : Nat → Bool) : natIn i len k = match idxA i len with | some j => k j | none => false := by
  cases i with
  | negSucc m => rfl
  | ofNat m =>
    show ifB (Nat.blt m len) _ _ = match (match Nat.blt m len with | true => some m | false => none) with | some j => k j | none => false
    cases Nat.blt m len <;> rfl
noncomputable def indexAddrF (P : Program) (last : Option Tmp) (t : TypeId) (x i : Operand) : OpF :=
  match P.underlying t with
  | some (.slice el) => match szOf P el with
    | some sz' => ⟨fun _ e u st k _ => (evF last x).run e u fun v => (evF last i).run e u fun j => isIntK j fun _ j => isSliceK v fun id ep off len _ _ sz => natIn j len fun j => ifB (Nat.beq sz sz') (natK (Nat.add off (Nat.mul j sz)) fun off => k (.ptr id ep off) st) false⟩
    | none => ⟨fun rec e u st k kp => opK P rec e ⟨none, .indexAddr t x i, 0, "", #[], none⟩ st k kp⟩
  | _ => ⟨fun rec e u st k kp => opK P rec e ⟨none, .indexAddr t x i, 0, "", #[], none⟩ st k kp⟩
noncomputable def lenF (P : Program) (last : Option Tmp) (c : Call) : OpF :=
  match c.args.toList, c.argTypes[0]? with
  | [x], some t => match P.underlying t with
    | some (.slice _) => ⟨fun _ e u st k _ => (evF last x).run e u fun v => lenSK v fun n => k (.int .i64 (.ofNat n)) st⟩
    | _ => ⟨fun _ e u st k _ => (evF last x).run e u fun v => match lenA P st t v st.heap.get with | some n => natK n fun n => k (.int .i64 (.ofNat n)) st | none => false⟩
  | _, _ => deadF
noncomputable def makeIfaceF (P : Program) (last : Option Tmp) (t : TypeId) (x : Operand) : OpF :=
  match P.underlying t with
  | some (.interface _) => ⟨fun _ e u st k _ => (evF last x).run e u fun v => false⟩
  | some _ => ⟨fun _ e u st k _ => (evF last x).run e u fun v => k (.iface t v) st⟩
  | none => ⟨fun _ e u st k _ => (evF last x).run e u fun v => false⟩
noncomputable def fieldF (P : Program) (last : Option Tmp) (t : TypeId) (x : Operand) (f : Nat) : OpF :=
  match fldA P t f with
  | some f => match isAggB P f.type with
    | some false => ⟨fun _ e u st k _ => (evF last x).run e u fun v => isAggK v fun l => (nthF f.offset).run l fun v => aggK (some v) false fun v => k v st⟩
    | _ => ⟨fun _ e u st k _ => (evF last x).run e u fun v => isAggK v fun l => aggK (partA P f.type l f.offset) false fun v => k v st⟩
  | none => ⟨fun _ e u st k _ => (evF last x).run e u fun v => isAggK v fun l => false⟩
noncomputable def convF (P : Program) (last : Option Tmp) (s t : TypeId) (x : Operand) : OpF :=
  match P.underlying s, P.underlying t with
  | some _, some (.int kd) => ⟨fun _ e u st k _ => (evF last x).run e u fun a => fast1 a (outK (convB P st s t a) false fun v => k v st) fun _ m => ifB (Nat.ble (Nat.succ m) (half kd)) (k (.int kd (.ofNat m)) st) (outK (convB P st s t a) false fun v => k v st)⟩
  | _, _ => ⟨fun _ e u st k _ => (evF last x).run e u fun a => outK (convB P st s t a) false fun v => k v st⟩
noncomputable def unF (last : Option Tmp) (op : UnOp) (x : Operand) : OpF :=
  match op with
  | .not => ⟨fun _ e u st k _ => (evF last x).run e u fun a => fastB a false fun b => Bool.rec (motive := fun _ => Bool) (k (.bool true) st) (k (.bool false) st) b⟩
  | op => ⟨fun _ e u st k _ => (evF last x).run e u fun a => outK (unA op a) false fun v => k v st⟩
/-- The block that an allocation makes, worked out once. -/
noncomputable def allocR (P : Program) (t : TypeId) : Option Rec :=
  match zeroA P t with
  | some z => some (listK z.cells fun l => trGoK l 0 .lf fun c => natK l.length fun n => .cells t c n 0 false)
  | none => none
noncomputable def forceR (r : Rec) (k : Rec → OpF) : OpF := Rec.rec (motive := fun _ => OpF) (fun a b c d e => k (.cells a b c d e)) (fun a b => k (.map a b)) (fun a b c d => k (.miter a b c d)) (fun a b => k (.siter a b)) (fun a b c d e f g h i => k (.loop a b c d e f g h i)) (fun a => k (.deferred a)) (fun a => k (.bag a)) (k .dead) r
theorem forceR_eq (r : Rec) (k : Rec → OpF) : forceR r k = k r := by cases r <;> rfl
noncomputable def allocF (P : Program) (t : TypeId) : OpF :=
  match allocR P t with
  | some r => forceR r fun r => ⟨fun _ e u st k _ => newF st r fun id st => k (.ptr id 0 0) st⟩
  | none => deadF
noncomputable def oneT (a : ACell) : Tr ACell := ⟨0, ofZ (NW.mk (NW.mk (some a) none none none) (NW.mk none none none none) (NW.mk none none none none) (NW.mk none none none none))⟩
noncomputable def boxF (last : Option Tmp) (t : TypeId) (x : Operand) : OpF :=
  ⟨fun _ e u st k _ => (evF last x).run e u fun v => ifB (oneB v) (newF st (.cells t (oneT ⟨v, 0⟩) 1 0 false) fun id st => k (.ptr id 0 0) st)
    (listK v.cells fun l => trGoK l 0 .lf fun c => natK l.length fun n => newF st (.cells t c n 0 false) fun id st => k (.ptr id 0 0) st)⟩
noncomputable def opF (P : Program) (last : Option Tmp) (o : Oper) : OpF :=
  match o.op with
  | .move x => ⟨fun _ e u st k _ => (evF last x).run e u fun v => k v st⟩
  | .assign x => ⟨fun _ e u st k _ => (evF last x).run e u fun v => k v st⟩
  | .pick c a b => ⟨fun _ e u st k _ => (evF last c).run e u fun c => isBoolK c fun c => Bool.rec (motive := fun _ => Bool) ((evF last b).run e u fun v => k v st) ((evF last a).run e u fun v => k v st) c⟩
  | .load t a => loadF P last t a
  | .nilCheck x => ⟨fun _ e u st k _ => (evF last x).run e u fun v => ifB (okNil v) (k v st) false⟩
  | .binOp op t x y _ => ⟨fun _ e u st k _ => (evF last x).run e u fun a => (evF last y).run e u fun b => fast2 a b (outK (binA P st op t x y a b) false fun v => k v st) ((binF op).run (outK (binA P st op t x y a b) false fun v => k v st) fun v => k v st)⟩
  | .unOp op _ x => unF last op x
  | .convert s t x => convF P last s t x
  | .extract x i => ⟨fun _ e u st k _ => (evF last x).run e u fun v => isTupK v fun l => (nthF i).run l fun v => k v st⟩
  | .makeFunc (.func f) a b => ⟨fun _ e u st k _ => (evsF last a.toList).run e u fun a => (evsF last b.toList).run e u fun b => k (.fn f a b) st⟩
  | .makeInterface t x => makeIfaceF P last t x
  | .field t x f => fieldF P last t x f
  | .fieldAddr t x f => fieldAddrF P last t x f
  | .indexAddr t x i => indexAddrF P last t x i
  | .lookup t x i ok => ⟨fun _ e u st k _ => (evF last x).run e u fun v => (evF last i).run e u fun i => match lookA P st t v i ok with | some v => k v st | none => false⟩
  | .build t parts => ⟨fun _ e u st k _ => (evpF last parts.toList).run e u fun ps => aggK (buildA P t ps) false fun v => k v st⟩
  | .alloc t => allocF P t
  | .box t x => boxF last t x
  | .store t a x => storeF P last t a x
  | .mapUpdate t m key x => ⟨fun _ e u st k _ => (evF last m).run e u fun m => (evF last key).run e u fun key => (evF last x).run e u fun x => mapPutK P st t m key x k⟩
  | .call c => match c.callee with
    | .value f => ⟨fun rec e u st k kp => (evF last f).run e u fun f => (evsF last c.args.toList).run e u fun args => callVF P rec f args st k kp⟩
    | .builtin .len => lenF P last c
    | .builtin .append => match c.args.toList with
      | [s, x] => ⟨fun _ e u st k _ => (evF last s).run e u fun s => (evF last x).run e u fun x => appendK P st c.argTypes s x k⟩
      | _ => ⟨fun rec e u st k kp => opK P rec e o st k kp⟩
    | _ => ⟨fun rec e u st k kp => opK P rec e o st k kp⟩
  | _ => ⟨fun rec e u st k kp => opK P rec e o st k kp⟩
theorem opK_q {P : Program} {rec : RecX} {e : Env} {o : Oper} {st : St} {k kp : KR} (h : opClass o = 0) : opK P rec e o st k kp = opQK P st e o false fun v => k v st := by unfold opK; rw [h]; rfl
theorem opK_a {P : Program} {rec : RecX} {e : Env} {o : Oper} {st : St} {k kp : KR} (h : opClass o = 1) : opK P rec e o st k kp = opAK P e o false fun r s => newK st r fun id st => k (s.mk id) st := by unfold opK; rw [h]; rfl
theorem opK_e {P : Program} {rec : RecX} {e : Env} {o : Oper} {st : St} {k kp : KR} (h : opClass o = 2) : opK P rec e o st k kp = opEK P st e o k := by unfold opK; rw [h]; rfl
theorem opF_eq {last : Option Tmp} {e : Env} {u : AV} (hl : AtHand last e u) (P : Program) (o : Oper) (rec : RecX) (st : St) (k kp : KR) : (opF P last o).run rec e u st k kp = opK P rec e o st k kp := by
  obtain ⟨dst, op, type, pos, after, guard⟩ := o
  cases op <;> first | rfl | skip
  case move x => simp only [opF, evF_eq hl]; rfl
  case assign x => simp only [opF, evF_eq hl]; rfl
  case pick c a b =>
    simp only [opF, evF_eq hl, isBoolK_eq]
    rw [opK_q rfl]
    simp only [opQK]
    congr 1; funext c
    cases c <;> first | rfl | skip
    rename_i b; cases b <;> rfl
  case alloc t =>
    simp only [opF, allocF, allocR]
    rw [opK_a rfl]
    simp only [opAK]
    cases zeroA P t with
    | none => rfl
    | some z => simp only [forceR_eq, newF_eq, listK_eq, trGoK_eq, natK_eq]; rfl
  case box t x =>
    simp only [opF, boxF, evF_eq hl]
    rw [opK_a rfl]
    simp only [opAK]
    congr 1; funext v
    rw [oneB_eq]
    cases hv : v.one with
    | false => rfl
    | true =>
      have : v.cells = [v] := by cases v <;> first | rfl | (simp [AV.one] at hv)
      simp only [this, listK_eq, trGoK_eq, natK_eq]
      rfl
  case build t parts => simp only [opF, evpF_eq hl]; rfl
  case load t a =>
    simp only [opF, loadF]
    rw [opK_q rfl]
    simp only [opQK, loadK, loadF.deadF']
    cases isAggB P t with
    | none =>
      simp only [evF_eq hl, isPtrK_eq]
      congr 1
    | some b =>
      cases b with
      | false => simp only [evF_eq hl, isPtrK_eq, cellF_eq]; congr 1
      | true =>
        simp only []
        cases szOf P t <;> (simp only [evF_eq hl, isPtrK_eq]; congr 1)
  case store t a x =>
    simp only [opF, storeF]
    rw [opK_e rfl]
    simp only [opEK]
    cases szOf P t with
    | none => simp only [evF_eq hl, isPtrK_eq]; congr 1
    | some n =>
      simp only []
      split
      · rename_i n' hn
        cases hn
        simp only [evF_eq hl, isPtrK_eq, putF_eq, oneB_eq]
        congr 1; funext a; congr 1; funext v
        cases a <;> first | rfl | skip
        simp only []
        cases hv : v.one with
        | false => rfl
        | true =>
          have : v.cells = [v] := by cases v <;> first | rfl | (simp [AV.one] at hv)
          simp only [this, ifB_true, putsK, natK_eq]
          rfl
      · rename_i n' hn hn'
        cases hn'
        simp only [evF_eq hl, isPtrK_eq]
        congr 1
      · rename_i hn; cases hn
  case nilCheck x =>
    simp only [opF, evF_eq hl]
    rw [opK_q rfl]
    simp only [opQK]
    congr 1; funext v
    cases v <;> rfl
  case binOp op t x y u =>
    simp only [opF, evF_eq hl]
    rw [opK_q rfl]
    simp only [opQK]
    congr 1; funext a; congr 1; funext b
    refine fast2_eq ?_
    rintro kd m n rfl rfl
    exact binF_eq (fun v => k v st) kd m n
  case unOp op t x =>
    simp only [opF]
    rw [opK_q rfl]
    simp only [opQK]
    cases op <;> simp only [unF, evF_eq hl]
    all_goals congr 1
    funext a
    cases a <;> first | rfl | skip
    rename_i b; cases b <;> rfl
  case convert s t x =>
    simp only [opF, convF]
    rw [opK_q rfl]
    simp only [opQK]
    split
    · rename_i d1 kd h1 h2
      simp only [evF_eq hl]
      congr 1; funext a
      refine fast1_eq ?_
      rintro k' m rfl
      cases hb : Nat.ble (Nat.succ m) (half kd) with
      | false => rfl
      | true =>
        simp only [convB, convA, h1, h2, ifB_true]
        have e : wrapF kd (Int.ofNat m) = .ofNat m := by
          show (match Nat.blt m (half kd) with | true => Int.ofNat m | false => kd.wrap (.ofNat m)) = _
          rw [show Nat.blt m (half kd) = true from hb]
        rw [e, outK_eq]
    · simp only [evF_eq hl]
  case makeInterface t x =>
    simp only [opF, makeIfaceF]
    rw [opK_q rfl]
    simp only [opQK]
    cases P.underlying t with
    | none => simp only [evF_eq hl]
    | some d => cases d <;> simp only [evF_eq hl]
  case makeFunc f a b =>
    cases f <;> first | rfl | skip
    simp only [opF, evsF_eq hl]; rfl
  case fieldAddr t x f =>
    simp only [opF, fieldAddrF]
    rw [opK_q rfl]
    simp only [opQK]
    cases fldA P t f with
    | none => simp only [evF_eq hl, isPtrK_eq]; congr 1
    | some f =>
      simp only []
      split
      · rename_i n hn
        split
        · rename_i ho
          simp only [evF_eq hl, isPtrK_eq]
          congr 1; funext v
          cases v <;> first | rfl | skip
          simp only [hn, ho, natK_eq, Nat.add_zero]
        · rename_i ho
          simp only [evF_eq hl, isPtrK_eq]
          congr 1; funext v
          cases v <;> first | rfl | skip
          simp only [hn]
          rfl
      · rename_i hn
        simp only [evF_eq hl, isPtrK_eq]
        congr 1
  case field t x f =>
    simp only [opF, fieldF]
    rw [opK_q rfl]
    simp only [opQK]
    cases fldA P t f with
    | none => simp only [evF_eq hl, isAggK_eq]; congr 1
    | some f =>
      simp only []
      split
      · rename_i ha
        simp only [evF_eq hl, isAggK_eq]
        congr 1; funext v
        cases v <;> first | rfl | skip
        simp only [nthF_eq, partA, ha]
        rename_i l
        cases l[f.offset]? with
        | none => rfl
        | some v => rfl
      · simp only [evF_eq hl, isAggK_eq]; congr 1
  case indexAddr t x i =>
    simp only [opF, indexAddrF]
    split
    · rename_i el hu
      split
      · rename_i sz' hsz
        simp only [evF_eq hl, isIntK_eq, isSliceK_eq, natIn_eq]
        rw [opK_q rfl]
        simp only [opQK]
        congr 1; funext v; congr 1; funext j
        cases j <;> first | rfl | skip
        rename_i kj j
        cases v <;> simp only [hu] <;> first | rfl | skip
        simp only [hsz]
        rename_i l _ _ _
        cases idxA j l with
        | none => rfl
        | some j => simp only []; rename_i sz; cases Nat.beq sz sz' <;> rfl
      · rfl
    · rfl
  case lookup t x i ok => simp only [opF, evF_eq hl]; rfl
  case mapUpdate t m key x => simp only [opF, evF_eq hl]; rfl
  case extract x i =>
    simp only [opF, evF_eq hl, isTupK_eq, nthF_eq]
    rfl
  case call c =>
    obtain ⟨cl, args, tys⟩ := c
    cases cl with
    | value f => simp only [opF, evF_eq hl, evsF_eq hl, callVF_eq]; rfl
    | invoke r m => rfl
    | builtin b =>
      cases b <;> first | rfl | skip
      case len =>
        simp only [opF, lenF]
        rw [opK_q rfl]
        simp only [opQK]
        split
        · rename_i x t h1 h2
          simp only [h1, h2]
          split
          · rename_i el hu
            simp only [evF_eq hl]
            congr 1; funext v
            cases v <;> simp only [lenA, hu, natK_eq] <;> rfl
          · simp only [evF_eq hl]
            congr 1
        · rename_i hn
          split
          · rename_i x t h1 h2; exact absurd h2 (hn _ _ h1)
          · rfl
      case append =>
        simp only [opF]
        split
        · rename_i s x hx
          simp only [evF_eq hl]
          rw [opK_e rfl]
          simp only [opEK, hx, evsK]
        · rfl
end Go.Eng
/- Sweeps: a loop that looks for marks in a long row passes over what is not marked. -/
namespace Go.Eng
set_option linter.unusedVariables false

section
variable {α β : Type}
noncomputable def quad (p : β → Bool) (t : NW β) : Bool := NW.rec (motive := fun _ => Bool) (fun a b c d => p a && p b && p c && p d) t
theorem quad_pj {p : β → Bool} {t : NW β} (h : quad p t = true) (q : Nat) : p (t.pj q) = true := by
  obtain ⟨a, b, c, d⟩ := t
  replace h : (p a && p b && p c && p d) = true := h
  simp only [Bool.and_eq_true] at h
  unfold NW.pj
  exact sel4_cases (fun x => p x = true) q (fun _ => h.1.1.1) (fun _ => h.1.1.2) (fun _ => h.1.2) (fun _ => h.2)
/-- Do all slots pass? -/
noncomputable def allT (p : Option α → Bool) (d : Nat) : TT α d → Bool :=
  Nat.rec (motive := fun d => TT α d → Bool) (fun t => quad (quad p) (toZ t)) (fun d ih t => quad ih (toN t)) d
theorem allT_rd {p : Option α → Bool} : ∀ {d : Nat} {t : TT α d}, allT p d t = true → ∀ i, p (rd d i t) = true := by
  intro d
  induction d with
  | zero => intro t h i; rw [rd_zero]; exact quad_pj (quad_pj h (i / 4)) (i % 4)
  | succ d ih => intro t h i; rw [rd_succ]; exact ih (quad_pj (p := allT p d) h _) _
noncomputable def rngT (p : Option α → Bool) (d : Nat) : TT α d → Nat → Nat → Bool :=
  Nat.rec (motive := fun d => TT α d → Nat → Nat → Bool)
    (fun t lo hi => (List.range 16).all fun i => Nat.blt i lo || Nat.ble hi i || p (pp i (toZ t)))
    (fun d ih t lo hi => (List.range 4).all fun q =>
      (fun lo hi => match Nat.ble hi lo with
        | true => true
        | false => match Nat.beq lo 0 && Nat.beq hi (16 * 4 ^ d) with
          | true => allT p d ((toN t).pj q)
          | false => ih ((toN t).pj q) lo hi) (lo - q * (16 * 4 ^ d)) (min (hi - q * (16 * 4 ^ d)) (16 * 4 ^ d))) d
theorem rngT_rd {p : Option α → Bool} : ∀ {d : Nat} {t : TT α d} {lo hi : Nat}, rngT p d t lo hi = true → ∀ i, lo ≤ i → i < hi → i < 16 * 4 ^ d → p (rd d i t) = true := by
  intro d
  induction d with
  | zero =>
    intro t lo hi h i h1 h2 h3
    have h := List.all_eq_true.1 h i (List.mem_range.2 (by simpa using h3))
    rw [rd_zero]
    simp only [Bool.or_eq_true, Nat.blt_eq, Nat.ble_eq] at h
    rcases h with (h | h) | h
    · omega
    · omega
    · exact h
  | succ d ih =>
    intro t lo hi h i h1 h2 h3
    have hsz : 0 < 16 * 4 ^ d := Nat.mul_pos (by decide) (Nat.pow_pos (by decide))
    have hp : 16 * 4 ^ (d + 1) = 4 * (16 * 4 ^ d) := by rw [Nat.pow_succ]; omega
    obtain ⟨sz, hz⟩ : ∃ sz, 16 * 4 ^ d = sz := ⟨_, rfl⟩
    have hq : i / sz < 4 := by rw [Nat.div_lt_iff_lt_mul (by omega)]; omega
    have h := List.all_eq_true.1 h (i / sz) (List.mem_range.2 hq)
    rw [rd_succ, hz]
    simp only [hz] at h
    have hdm := Nat.div_add_mod i sz
    have hml := Nat.mod_lt i (show 0 < sz by omega)
    rw [Nat.mul_comm] at hdm
    split at h
    · rename_i hb
      have hb := Nat.le_of_ble_eq_true hb
      omega
    · split at h
      · exact allT_rd h _
      · exact ih h _ (by omega) (by omega) (by rw [hz]; exact hml)
end
def isF (ep : Nat) (x : Option ACell) : Bool :=
  match x with
  | some ⟨.bool false, tag⟩ => Nat.ble tag ep
  | _ => false
/-- Are these cells false? -/
noncomputable def clearB (st : St) (id ep lo hi : Nat) : Bool :=
  match st.heap.get id with
  | some (.cells _ ⟨d, t⟩ top _ _) => Nat.ble hi top && Nat.ble hi (16 * 4 ^ d) && rngT (isF ep) d t lo hi
  | _ => false
theorem clearB_cell {st : St} {id ep lo hi : Nat} (h : clearB st id ep lo hi = true) (j : Nat) (h1 : lo ≤ j) (h2 : j < hi) : cell st id ep j = some (.bool false) := by
  unfold clearB at h
  split at h
  · rename_i el d t top lat sh hg
    simp only [Bool.and_eq_true, Nat.ble_eq] at h
    obtain ⟨⟨g1, g2⟩, g3⟩ := h
    have g4 := rngT_rd g3 j h1 h2 (by omega)
    unfold cell cellK
    rw [hg]
    simp only []
    rw [show Nat.blt j top = true from by simp [Nat.blt_eq]; omega]
    simp only [Tr.get_mk]
    rw [if_pos (by omega)]
    unfold isF at g4
    split at g4
    · rename_i tag e
      rw [e]
      simp only []
      rw [g4]
    · cases g4
  · cases h
/-! Which loops are sweeps. -/
def mvO (o : Oper) : Option (Nat × Nat) := match o with | ⟨some a, .move (.tmp k), _, _, _, none⟩ => some (a, k) | _ => none
def asO (o : Oper) : Option (Nat × Nat) := match o with | ⟨some a, .assign (.tmp k), _, _, _, none⟩ => some (a, k) | _ => none
def lenO (o : Oper) : Option (Nat × Nat × Nat) := match o with | ⟨some c, .call ⟨.builtin .len, args, tys⟩, _, _, _, none⟩ => (match args.toList, tys[0]? with | [.tmp b], some t => some (c, b, t) | _, _ => none) | _ => none
def lssO (o : Oper) : Option (Nat × Nat × Nat) := match o with | ⟨some d, .binOp .lss _ (.tmp a) (.tmp c) _, _, _, _, none⟩ => some (d, a, c) | _ => none
def ixO (o : Oper) : Option (Nat × Nat × Nat × Nat) := match o with | ⟨some p, .indexAddr t (.tmp f) (.tmp g), _, _, _, none⟩ => some (p, t, f, g) | _ => none
def ldO (o : Oper) : Option (Nat × Nat × Nat) := match o with | ⟨some h, .load t (.tmp p), _, _, _, none⟩ => some (h, t, p) | _ => none
def adO (o : Oper) : Option (Nat × Nat) := match o with | ⟨some j, .binOp .add _ (.tmp i) (.const (.int .i64 (.ofNat 1))) _, _, _, _, none⟩ => some (j, i) | _ => none
/-- A sweep's slots and types: the counter, the row; of the test: a b c d; of the look: f g p h; of the step: i j. -/
structure Sw where
  k : Nat
  s : Nat
  a : Nat
  b : Nat
  c : Nat
  d : Nat
  f : Nat
  g : Nat
  p : Nat
  h : Nat
  i : Nat
  j : Nat
  lt : Nat
  st : Nat
  bt : Nat
def Sw.tmps (S : Sw) : List Nat := [S.a, S.b, S.c, S.d, S.f, S.g, S.p, S.h, S.i, S.j]
def Sw.good (S : Sw) (n : Nat) : Bool :=
  S.tmps.all (fun t => Nat.blt t n && !Nat.beq t S.k && !Nat.beq t S.s) && Nat.blt S.k n && !Nat.beq S.s S.k && !Nat.beq S.a S.b && !Nat.beq S.a S.c && !Nat.beq S.f S.g
def swList (o1 o2 o3 o4 o5 o6 o7 o8 o9 o10 o11 : Oper) (d' h' n : Nat) : Option Sw :=
  match mvO o1, mvO o2, lenO o3, lssO o4 with
  | some (a, k), some (b, s), some (c, b', lt), some (d, a', c') => match mvO o5, mvO o6, ixO o7, ldO o8 with
    | some (f, s'), some (g, k'), some (p, st, f', g'), some (h, bt, p') => match mvO o9, adO o10, asO o11 with
      | some (i, k''), some (j, i'), some (k3, j') =>
        match Nat.beq b b' && Nat.beq a a' && Nat.beq c c' && Nat.beq d d' && Nat.beq s s' && Nat.beq k k' && Nat.beq f f' && Nat.beq g g' && Nat.beq p p' && Nat.beq h h' && Nat.beq k k'' && Nat.beq i i' && Nat.beq k k3 && Nat.beq j j' && Sw.good ⟨k, s, a, b, c, d, f, g, p, h, i, j, lt, st, bt⟩ n with
        | true => some ⟨k, s, a, b, c, d, f, g, p, h, i, j, lt, st, bt⟩
        | false => none
      | _, _, _ => none
    | _, _, _, _ => none
  | _, _, _, _ => none
def sweepOf (n : Nat) (x : Code) : Option Sw :=
  match x with
  | .seq (.seq (.region _ C false) (.cond (.tmp d') .skip (.exit _))) (.seq (.block _ (.seq (.region _ R false) (.cond (.tmp h') _ .skip))) (.region _ Q false)) =>
    match C.toList, R.toList, Q.toList with
    | [o1, o2, o3, o4], [o5, o6, o7, o8], [o9, o10, o11] => swList o1 o2 o3 o4 o5 o6 o7 o8 o9 o10 o11 d' h' n
    | _, _, _ => none
  | _ => none
/-- The slots behind a round whose counter was m. -/
def Sw.vals (S : Sw) (sv : AV) (id ep off n m : Nat) : List (Nat × AV) :=
  [(S.a, .int .i64 (.ofNat m)), (S.b, sv), (S.c, .int .i64 (.ofNat n)), (S.d, .bool true), (S.f, sv), (S.g, .int .i64 (.ofNat m)), (S.p, .ptr id ep (off + m)), (S.h, .bool false),
   (S.i, .int .i64 (.ofNat m)), (S.j, .int .i64 (.ofNat (m + 1))), (S.k, .int .i64 (.ofNat (m + 1)))]
noncomputable def setAll : List (Nat × AV) → Env → Env
  | [], e => e
  | (t, v) :: l, e => setAll l (e.set t v)
noncomputable def setAllK : List (Nat × AV) → Env → (Env → Bool) → Bool
  | [], e, k => k e
  | (t, v) :: l, e, k => e.setK t v fun e => setAllK l e k
theorem setAllK_eq : ∀ (l : List (Nat × AV)) (e : Env) (k : Env → Bool), setAllK l e k = k (setAll l e)
  | [], e, k => rfl
  | (t, v) :: l, e, k => by unfold setAllK setAll; rw [Tr.setK_eq]; exact setAllK_eq l _ k
theorem setAll_get : ∀ (l : List (Nat × AV)) (e : Env) (t : Nat), (setAll l e).get t = if t ∈ l.map (·.1) then (setAll l Tr.lf).get t else e.get t
  | [], e, t => by simp [setAll]
  | (u, v) :: l, e, t => by
    simp only [setAll]
    rw [setAll_get l (e.set u v) t, setAll_get l (Tr.lf.set u v) t, Tr.get_set, Tr.get_set]
    by_cases h : t ∈ l.map (·.1)
    · simp [h]
    · by_cases h2 : u = t
      · subst h2; simp
      · have h3 : ¬ t = u := fun e => h2 e.symm
        simp [h, h2, h3]
/-- The next mark that is hinted at. -/
def nextH (m n : Nat) : List Nat → Nat
  | [] => n
  | h :: l => match Nat.ble m h && Nat.ble h n with
    | true => h
    | false => nextH m n l
variable [Sym] [Hooks]
noncomputable def typesOk (P : Program) (S : Sw) : Bool :=
  (match P.underlying S.lt with | some (.slice _) => true | _ => false) &&
  (match P.underlying S.st with | some (.slice el) => (match szOf P el with | some 1 => true | _ => false) | _ => false) &&
  (match isAggB P S.bt with | some false => true | _ => false)
noncomputable def jumpTo (P : Program) (S : Sw) (hs : List Nat) (e : Env) (st : St) (k : Env → Bool) : Bool :=
  match e.get S.k, e.get S.s with
  | some (.int .i64 (.ofNat m)), some (.slice id ep off n cap ex 1) =>
    (fun k1 => match Nat.blt m k1 && Nat.ble k1 n && Nat.ble n 4611686018427387904 && typesOk P S && clearB st id ep (off + m) (off + k1) with
      | true => natK (k1 - 1) fun m => setAllK (S.vals (.slice id ep off n cap ex 1) id ep off n m) e k
      | false => k e) (nextH m n hs)
  | _, _ => k e
noncomputable def jumpK (P : Program) (c : Ctx) (x : Code) (e : Env) (st : St) (k : Env → Bool) : Bool :=
  match Hooks.sweeps c.fn with
  | [] => k e
  | h :: l => match sweepOf c.n x with
    | none => k e
    | some S => jumpTo P S (h :: l) e st k
/-! A piece of code that only looks, in orders that are drawn: what is behind it is gone through once. -/
/-- All that stands is read alone. -/
def St.lock (st : St) : St := ⟨st.heap, st.next, st.next⟩
theorem SRel.lock {B : Nat → Prop} {ρ : Rho} {st : St} {w : World} (h : SRel B ρ st w) : SRel (fun b => b < w.heap.size) ρ st.lock w := by
  refine ⟨fun id ep p hp => ?_, h.inj, fun b hb => hb⟩
  obtain ⟨_, h2, h3, h4⟩ := h.mapped _ _ _ hp
  refine ⟨fun _ => ?_, h2, h3, h4⟩
  show Nat.blt id st.next = true
  simpa [Nat.blt_eq] using h3
/-- A world that has grown alone. -/
structure Only (w w' : World) : Prop where
  low : ∀ b, b < w.heap.size → w'.heap[b]? = w.heap[b]?
  size : w.heap.size ≤ w'.heap.size
  os : w'.os = w.os
  out : w'.output = w.output
  fro : ∀ a, a.block < w.heap.size → w'.frozen? a = w.frozen? a
theorem Only.of_adv {ρ ρ' : Rho} {st st' : St} {w w' : World} (h : Adv (fun b => b < w.heap.size) ρ st w ρ' st' w') : Only w w' := ⟨h.low, h.size, h.os, h.out, h.fro⟩
theorem Only.rel {B : Nat → Prop} {ρ : Rho} {st : St} {w w' : World} (h : Only w w') (hs : SRel B ρ st w) : SRel B ρ st w' := by
  refine ⟨fun id ep p hp => ?_, hs.inj, fun b hb => Nat.lt_of_lt_of_le (hs.low b hb) h.size⟩
  obtain ⟨h1, h2, h3, r, h4, h5⟩ := hs.mapped _ _ _ hp
  exact ⟨h1, Nat.lt_of_lt_of_le h2 h.size, h3, r, h4, by rw [h.low _ h2]; exact h5⟩
theorem Only.adv {B : Nat → Prop} {ρ : Rho} {st : St} {w w' : World} (h : Only w w') (hs : SRel B ρ st w) : Adv B ρ st w ρ st w' :=
  ⟨Rho.le_refl _, Nat.le_refl _, fun _ _ h => ⟨h, rfl⟩, fun b hb => h.low b (hs.low b hb), h.size, h.os, h.out, fun a ha => h.fro a (hs.low _ ha)⟩
noncomputable def sameE (n : Nat) (e e' : Env) : Bool :=
  (List.range n).all fun t => match e.get t with
    | none => true
    | some v => match e'.get t with
      | some v' => AV.beq v v'
      | none => false
def noDs (ds : List Nat) : Bool := match ds with | [] => true | _ => false
noncomputable def mergeK (c : Ctx) (x : Code) (e : Env) (ds : List Nat) (st : St) (kn : Env → List Nat → St → Bool) (k : KX) (go : St → (Env → List Nat → St → Bool) → KX → Bool) : Bool :=
  match x with
  | .region r _ _ => match hasF (Hooks.merges c.fn) r && noDs ds with
    | true => match go st.lock (fun e' ds' _ => sameE c.n e e' && noDs ds') (fun _ _ _ _ => false) with
      | true => kn e ds st
      | false => match go st.lock (fun _ _ _ => false) (fun x e' ds' _ => match x with | .ret => sameE c.n e e' && noDs ds' | _ => false) with
        | true => k .ret e ds st
        | false => false
    | false => go st kn k
  | _ => go st kn k
end Go.Eng
/- The faster twin: regions, code, fuel; it is sound. -/
namespace Go.Eng
set_option linter.unusedVariables false
variable [Sym] [Hooks]

structure WantF where
  run : Env → Bool → Bool → Bool
noncomputable def wantF (ops : Array Oper) (o : Oper) : WantF :=
  match o.guard with
  | none => ⟨fun _ t _ => t⟩
  | some (g, want) => match (ops[g]?).bind (·.dst) with
    | some t => match want with
      | true => ⟨fun e kt kf => (slotF t).run e fun v => fastB v kf fun b => ifB b kt kf⟩
      | false => ⟨fun e kt kf => (slotF t).run e fun v => fastB v kf fun b => ifB b kf kt⟩
    | none => ⟨fun _ _ f => f⟩
theorem wantF_eq (ops : Array Oper) (o : Oper) (e : Env) (kt kf : Bool) : (wantF ops o).run e kt kf = match wantA ops o e with | some true => kt | some false => kf | none => false := by
  obtain ⟨dst, op, type, pos, after, guard⟩ := o
  cases guard with
  | none => rfl
  | some gw =>
    obtain ⟨g, want⟩ := gw
    simp only [wantF, wantA]
    cases (ops[g]?).bind (·.dst) with
    | none => rfl
    | some t =>
      cases want <;> simp only [slotF_eq]
      all_goals cases Tr.get e t with
        | none => rfl
        | some v =>
          cases v <;> first | rfl | skip
          rename_i b; cases b <;> rfl
structure PutF where
  run : Env → AV → (Env → Bool) → Bool
noncomputable def putEF (n : Nat) (dst : Option Tmp) : PutF :=
  match dst with
  | some d => match Nat.blt d n with
    | true => ⟨fun e v k => (setF d).run e v k⟩
    | false => ⟨fun _ _ _ => false⟩
  | none => ⟨fun e _ k => k e⟩
theorem putEF_eq (n : Nat) (dst : Option Tmp) (e : Env) (v : AV) (k : Env → Bool) : (putEF n dst).run e v k = putEK n e dst v k := by
  unfold putEF putEK
  cases dst with
  | none => rfl
  | some d => simp only []; cases Nat.blt d n <;> rfl
structure RegF where
  run : RecX → Env → AV → St → (Env → St → Bool) → KR → Bool
noncomputable def regF (P : Program) (n : Nat) (ops : Array Oper) : Option Tmp → List Oper → RegF
  | _, [] => ⟨fun _ e _ st k _ => k e st⟩
  | last, o :: os => match o.guard, o.dst with
    | none, none => ⟨fun rec e u st k kp => (opF P last o).run rec e u st (fun v st => (regF P n ops last os).run rec e u st k kp) kp⟩
    | none, some d => match Nat.blt d n with
      | true => ⟨fun rec e u st k kp => (opF P last o).run rec e u st (fun v st => (setF d).run e v fun e => (regF P n ops (some d) os).run rec e v st k kp) kp⟩
      | false => ⟨fun rec e u st k kp => (opF P last o).run rec e u st (fun v st => false) kp⟩
    | _, _ => ⟨fun rec e u st k kp => (wantF ops o).run e ((opF P last o).run rec e u st (fun v st => (putEF n o.dst).run e v fun e => (regF P n ops none os).run rec e u st k kp) kp)
        ((putEF n o.dst).run e undefA fun e => (regF P n ops none os).run rec e u st k kp)⟩
/-- The operations of a region, one behind the other. -/
noncomputable def opsL (P : Program) (rec : RecX) (c : Ctx) (ops : Array Oper) : List Oper → Env → St → (Env → St → Bool) → KR → Bool
  | [], e, st, k, _ => k e st
  | o :: os, e, st, k, kp => match wantA ops o e with
    | some true => opK P rec e o st (fun v st => putEK c.n e o.dst v fun e => opsL P rec c ops os e st k kp) kp
    | some false => putEK c.n e o.dst undefA fun e => opsL P rec c ops os e st k kp
    | none => false
theorem opsL_eq (P : Program) (rec : RecX) (c : Ctx) (ops : Array Oper) : ∀ (os : List Oper) (i : Nat) (e : Env) (st : St) (k : Env → St → Bool) (kp : KR), (∀ j, os[j]? = ops[i + j]?) → opsL P rec c ops os e st k kp = opsK P rec c ops (List.range' i os.length) e st k kp := by
  intro os
  induction os with
  | nil => intro i e st k kp _; rfl
  | cons o os ih =>
    intro i e st k kp h
    have h0 : ops[i]? = some o := by have := h 0; simpa using this.symm
    have h1 : ∀ j, os[j]? = ops[i + 1 + j]? := fun j => by
      have := h (j + 1)
      rw [List.getElem?_cons_succ] at this
      rw [this]; congr 1; omega
    simp only [List.length_cons, List.range'_succ, opsL, opsK, h0]
    simp only [ih (i + 1) _ _ _ _ h1]
    cases wantA ops o e with
    | none => rfl
    | some b => cases b <;> rfl
theorem opsL_all (P : Program) (rec : RecX) (c : Ctx) (ops : Array Oper) (e : Env) (st : St) (k : Env → St → Bool) (kp : KR) : opsL P rec c ops ops.toList e st k kp = opsK P rec c ops (List.range ops.size) e st k kp := by
  rw [opsL_eq P rec c ops ops.toList 0 e st k kp (fun j => by simp), List.range_eq_range', Array.length_toList]
theorem regF_eq (P : Program) (c : Ctx) (ops : Array Oper) (rec : RecX) (os : List Oper) : ∀ (last : Option Tmp) (e : Env) (u : AV) (st : St) (k : Env → St → Bool) (kp : KR), AtHand last e u → (regF P c.n ops last os).run rec e u st k kp = opsL P rec c ops os e st k kp := by
  induction os with
  | nil => intros; rfl
  | cons o os ih =>
    intro last e u st k kp hl
    have hnone : ∀ (e : Env) (u : AV), AtHand none e u := fun _ _ _ h => by cases h
    unfold regF opsL
    split
    · rename_i h1 h2
      simp only [opF_eq hl, wantA, h1, h2, putEK, ih _ _ _ _ _ _ hl]
    · rename_i d h1 h2
      simp only [wantA, h1, h2, putEK]
      cases Nat.blt d c.n with
      | false => simp only [opF_eq hl]
      | true =>
        simp only [opF_eq hl, setF_eq, Tr.setK_eq]
        congr 1; funext v st
        exact ih _ _ _ _ _ _ (fun t ht => by cases ht; exact Tr.get_set_same _ _ _)
    · simp only [wantF_eq, opF_eq hl, putEF_eq, ih _ _ _ _ _ _ (hnone _ _)]
theorem nobody (e : Env) (u : AV) : AtHand none e u := fun _ h => by cases h
structure ChkF where
  run : St → Env → Bool
noncomputable def chkF (P : Program) (ops : Array Oper) : List Nat → ChkF
  | [] => ⟨fun _ _ => true⟩
  | i :: is => match ops[i]? with
    | none => chkF P ops is
    | some o => match opClass o with
      | 0 => ⟨fun st e => ifB ((wantF ops o).run e ((opF P none o).run (fun _ _ _ _ _ _ => false) e undefA st (fun v _ => match o.dst with
          | some d => (slotF d).run e fun u => AV.beq v u
          | none => true) noP) true) ((chkF P ops is).run st e) false⟩
      | _ => chkF P ops is
theorem ifB_and (a b : Bool) : ifB a b false = (a && b) := by cases a <;> rfl
theorem chkF_eq (P : Program) (ops : Array Oper) (st : St) (e : Env) (is : List Nat) : (chkF P ops is).run st e = recheck P ops st e is := by
  induction is with
  | nil => rfl
  | cons i is ih =>
    unfold chkF recheck
    cases ops[i]? with
    | none => exact ih
    | some o =>
      simp only []
      split
      · rename_i h
        simp only [ifB_and, ih, wantF_eq, opF_eq (nobody e undefA), opK_q h]
        congr 1
        rw [h]
        cases wantA ops o e with
        | none => rfl
        | some b =>
          cases b with
          | false => rfl
          | true =>
            show opQK P st e o false _ = opQK P st e o false _
            congr 1; funext v
            cases o.dst with
            | none => rfl
            | some d => simp only [slotF_eq]; cases Tr.get e d <;> rfl
      · rename_i h
        rw [ih]
        split
        · rename_i h0 _; exact absurd h0 h
        · rename_i h0 _; exact absurd h0 h
        · rfl
noncomputable def toChk (ops : Array Oper) (i : Nat) (o : Oper) (done : List Nat) : List Nat :=
  match opClass o with
  | 0 => []
  | 1 => done
  | _ => filF (fun j => Bool.not (bitF (ancM ops ops.size i) j)) done
noncomputable def drawGF (P : Program) (n : Nat) (ops : Array Oper) : DT → List Nat → RegF
  | .fin, _ => ⟨fun _ e _ st k _ => k e st⟩
  | .one i t, done => match ops[i]? with
    | none => ⟨fun _ _ _ _ _ _ => false⟩
    | some o => ⟨fun rec e u st k kp => (wantF ops o).run e ((opF P none o).run rec e u st (fun v st => (putEF n o.dst).run e v fun e => ifB ((chkF P ops (toChk ops i o done)).run st e) ((drawGF P n ops t (i :: done)).run rec e u st k kp) false) kp)
        ((putEF n o.dst).run e undefA fun e => (drawGF P n ops t (i :: done)).run rec e u st k kp)⟩
  | .alt a b, done => ⟨fun rec e u st k kp => ifB ((drawGF P n ops a done).run rec e u st k kp) ((drawGF P n ops b done).run rec e u st k kp) false⟩
theorem drawGF_eq (P : Program) (c : Ctx) (ops : Array Oper) (rec : RecX) (t : DT) (done : List Nat) (e : Env) (u : AV) (st : St) (k : Env → St → Bool) (kp : KR) : (drawGF P c.n ops t done).run rec e u st k kp = drawGo P rec c ops t done e st k kp := by
  induction t generalizing done e st with
  | fin => rfl
  | one i t ih =>
    unfold drawGF drawGo
    cases ops[i]? with
    | none => rfl
    | some o =>
      simp only [wantF_eq, opF_eq (nobody _ _), putEF_eq, ih, ifB_and, chkF_eq]
      cases wantA ops o e with
      | none => rfl
      | some b =>
        cases b with
        | false => rfl
        | true =>
          simp only []
          congr 1; funext v st; congr 1; funext e; congr 1
          unfold toChk
          generalize opClass o = q
          match q with
          | 0 | 1 => rfl
          | q + 2 => simp only [filF_eq, ancM_eq]
  | alt a b iha ihb =>
    show ifB _ _ false = _
    rw [ifB_and, iha, ihb]
    rfl
noncomputable def drawF (P : Program) (n : Nat) (ops : Array Oper) : RegF :=
  match regOkF ops with
  | true => drawGF P n ops (mkTF ops ops.size []) []
  | false => ⟨fun _ _ _ _ _ _ => false⟩
theorem drawF_eq (P : Program) (c : Ctx) (ops : Array Oper) (rec : RecX) (e : Env) (u : AV) (st : St) (k : Env → St → Bool) (kp : KR) : (drawF P c.n ops).run rec e u st k kp = drawK P rec c ops e st k kp := by
  unfold drawF drawK
  rw [regOkF_eq, mkTF_eq]
  cases regOk ops with
  | false => rfl
  | true => exact drawGF_eq _ _ _ _ _ _ _ _ _ _ _
/-- Two ends joined. -/
noncomputable def mixK (kn : Env → List Nat → St → Bool) (k : KX) : KX := fun x e ds st => AX.rec (motive := fun _ => Bool) (kn e ds st) (fun j => k (.exit j) e ds st) (k .ret e ds st) (fun v => k (.pan v) e ds st) x
theorem mixK_self (k : KX) : mixK (fun e ds st => k .norm e ds st) k = k := by
  funext x e ds st; cases x <;> rfl
structure CodeF where
  run : RecX → Ctx → Env → List Nat → St → (Env → List Nat → St → Bool) → KX → Bool
noncomputable def rounds (body : Env → List Nat → St → (Env → List Nat → St → Bool) → Bool) (fuel : Nat) : Env → List Nat → St → Bool :=
  Nat.rec (motive := fun _ => Env → List Nat → St → Bool) (fun _ _ _ => false) (fun _ ih e ds st => body e ds st ih) fuel
def roundFuel : Nat := 16777216
noncomputable def codeF (P : Program) (n : Nat) : Code → CodeF
  | .skip => ⟨fun _ _ e ds st kn _ => kn e ds st⟩
  | .label _ => ⟨fun _ _ e ds st kn _ => kn e ds st⟩
  | .region _ ops false => ⟨fun rec c e ds st kn k => (regF P n ops none ops.toList).run rec e undefA st (fun e st => kn e ds st) (panK ds k)⟩
  | .region _ ops true => ⟨fun rec c e ds st kn k => (drawF P n ops).run rec e undefA st (fun e st => kn e ds st) (panK ds k)⟩
  | .seq a b => ⟨fun rec c e ds st kn k => mergeK c a e ds st kn k fun st kn k => (codeF P n a).run rec c e ds st (fun e ds st => (codeF P n b).run rec c e ds st kn k) k⟩
  | .cond o a b => ⟨fun rec c e ds st kn k => (evF none o).run e undefA fun v => isBoolK v fun v => Bool.rec (motive := fun _ => Bool) ((codeF P n b).run rec c e ds st kn k) ((codeF P n a).run rec c e ds st kn k) v⟩
  | .block id b => ⟨fun rec c e ds st kn k => (codeF P n b).run rec c e ds st kn fun x e ds st => AX.rec (motive := fun _ => Bool) false (fun j => ifB (Nat.beq j id) (kn e ds st) (k (.exit j) e ds st)) (k .ret e ds st) (fun v => k (.pan v) e ds st) x⟩
  | .loop b => ⟨fun rec c e ds st kn k => rounds (fun e ds st ih => jumpK P c b e st fun e => (codeF P n b).run rec c e ds st ih k) roundFuel e ds st⟩
  | .scope b => codeF P n b
  | .exit id => ⟨fun _ _ e ds st _ k => k (.exit id) e ds st⟩
  | .ret => ⟨fun _ _ e ds st _ k => k .ret e ds st⟩
  | .rangeFunc f params assign body => ⟨fun rec c e ds st kn k => rangeFK P rec c f params assign body e ds st (mixK kn k)⟩
  | _ => ⟨fun _ _ _ _ _ _ _ => false⟩
noncomputable def execF (P : Program) (fuel : Nat) : RecX :=
  Nat.rec (motive := fun _ => RecX) (fun _ _ _ _ _ _ => false) (fun _ rec c x e ds st k => Ctx.rec (motive := fun _ => Bool) (fun fn n rd => (codeF P n x).run rec ⟨fn, n, rd⟩ e ds st (fun e ds st => k .norm e ds st) k) c) fuel
noncomputable def runF (P : Program) (fuel : Nat) (f : FuncId) (args : List AV) (ok : AV → Bool) : Bool := (funBF P f).run (execF P fuel) args ⟨.lf, 0, 0⟩ (fun v _ => ok v) noP

section
variable {B : Nat → Prop} {P : Program}
/-- What 'RecOK' says of one piece of code. -/
def XOK (B : Nat → Prop) (P : Program) (c : Ctx) (x : Code) (e : Env) (ds : List Nat) (st : St) (k : KX) : Prop :=
  ∀ (ρ : Rho) (w : World) (b : Frame) (a : Act) (kk : List Item) (cs : List Frame), SRel B ρ st w → FRel ρ c e ds b a → XRes B P c b ρ st w (lone (b.atR a (.code x :: kk)) cs w) kk cs k
theorem XOK.mono {c : Ctx} {x : Code} {e : Env} {ds : List Nat} {st : St} {k k' : KX} (h : XOK B P c x e ds st k) (hk : ∀ x e ds st, k x e ds st = true → k' x e ds st = true) : XOK B P c x e ds st k' := by
  intro ρ w b a kk cs hs hf
  obtain ⟨x, e', ds', st', ρ', a', w', h1, h2⟩ := h ρ w b a kk cs hs hf
  exact ⟨x, e', ds', st', ρ', a', w', hk _ _ _ _ h1, h2⟩
/-- The most that a sound interpreter may say. -/
noncomputable def best (P : Program) : RecX := fun c x e ds st k => @decide (∀ B, XOK B P c x e ds st k) (Classical.propDecidable _)
theorem best_ok : RecOK P (best P) := fun B c x e ds st k h => by
  have := @of_decide_eq_true _ (Classical.propDecidable _) h
  exact this B
theorem best_of {c : Ctx} {x : Code} {e : Env} {ds : List Nat} {st : St} {k : KX} (h : ∀ B, XOK B P c x e ds st k) : best P c x e ds st k = true := @decide_eq_true _ (Classical.propDecidable _) h
theorem xok_of [HooksOK P] (hdraw : DrawOK P) {c : Ctx} {x : Code} {e : Env} {ds : List Nat} {st : St} {k : KX} (h : codeK P (best P) c x e ds st k = true) : ∀ B, XOK B P c x e ds st k := fun B => codeK_spec hdraw best_ok B c x e ds st k h
theorem nbeq_iff {a b : Nat} : Nat.beq a b = false ↔ a ≠ b := by
  rw [← Bool.not_eq_true, Nat.beq_eq]
theorem best_code [HooksOK P] (hdraw : DrawOK P) {c : Ctx} {x : Code} {e : Env} {ds : List Nat} {st : St} {k : KX} (h : codeK P (best P) c x e ds st k = true) : best P c x e ds st k = true := best_of (xok_of hdraw h)
section
variable {rec : RecX} {c : Ctx} {ops : Array Oper} {o : Oper} {os : List Oper} {e : Env} {st : St} {kk : Env → St → Bool} {kp : KR}
theorem L_mv {a k : Nat} {v : AV} (ho : mvO o = some (a, k)) (hk : e.get k = some v) (ha : Nat.blt a c.n = true) : opsL P rec c ops (o :: os) e st kk kp = opsL P rec c ops os (e.set a v) st kk kp := by
  unfold mvO at ho
  split at ho <;> cases ho
  simp only [opsL, wantA, putEK, ha, Tr.setK_eq]
  rw [opK_q rfl]
  simp only [opQK, evK, hk]
theorem L_as {a k : Nat} {v : AV} (ho : asO o = some (a, k)) (hk : e.get k = some v) (ha : Nat.blt a c.n = true) : opsL P rec c ops (o :: os) e st kk kp = opsL P rec c ops os (e.set a v) st kk kp := by
  unfold asO at ho
  split at ho <;> cases ho
  simp only [opsL, wantA, putEK, ha, Tr.setK_eq, opK, opClass, opEK, evK, hk]
theorem L_len {a b t : Nat} {id ep off n cap : Nat} {ex : Bool} {z : Nat} (ho : lenO o = some (a, b, t)) (hk : e.get b = some (.slice id ep off n cap ex z)) (ha : Nat.blt a c.n = true) (ht : (match P.underlying t with | some (.slice _) => true | _ => false) = true) : opsL P rec c ops (o :: os) e st kk kp = opsL P rec c ops os (e.set a (.int .i64 (.ofNat n))) st kk kp := by
  unfold lenO at ho
  split at ho <;> (try (cases ho; done))
  rename_i cc args tys ty pos af
  split at ho <;> cases ho
  rename_i h1 h2
  split at ht <;> (try (cases ht; done))
  rename_i el hu
  simp only [opsL, wantA, putEK, ha, Tr.setK_eq]
  rw [opK_q rfl]
  simp only [opQK, h1, h2, evK, hk, lenA, hu, natK_eq]
theorem L_lss {d a b : Nat} {m n : Nat} (ho : lssO o = some (d, a, b)) (hk : e.get a = some (.int .i64 (.ofNat m))) (hl : e.get b = some (.int .i64 (.ofNat n))) (ha : Nat.blt d c.n = true) (hmn : m < n) : opsL P rec c ops (o :: os) e st kk kp = opsL P rec c ops os (e.set d (.bool true)) st kk kp := by
  unfold lssO at ho
  split at ho <;> cases ho
  simp only [opsL, wantA, putEK, ha, Tr.setK_eq]
  rw [opK_q rfl]
  have h1 : decide (Int.ofNat m < Int.ofNat n) = true := by simp; omega
  simp only [opQK, evK, hk, hl, outK_eq, binA, decide_true, intA, h1]
theorem L_ix {p t f g : Nat} {id ep off n cap : Nat} {ex : Bool} {m : Nat} (ho : ixO o = some (p, t, f, g)) (hk : e.get f = some (.slice id ep off n cap ex 1)) (hl : e.get g = some (.int .i64 (.ofNat m))) (ha : Nat.blt p c.n = true) (hmn : m < n) (ht : (match P.underlying t with | some (.slice el) => (match szOf P el with | some 1 => true | _ => false) | _ => false) = true) : opsL P rec c ops (o :: os) e st kk kp = opsL P rec c ops os (e.set p (.ptr id ep (off + m))) st kk kp := by
  unfold ixO at ho
  split at ho <;> cases ho
  split at ht <;> (try (cases ht; done))
  rename_i el hu
  split at ht <;> (try (cases ht; done))
  rename_i hz
  simp only [opsL, wantA, putEK, ha, Tr.setK_eq]
  rw [opK_q rfl]
  have h1 : Nat.blt m n = true := by simpa [Nat.blt_eq] using hmn
  simp only [opQK, evK, hk, hl, hu, idxA, h1, hz, natK_eq, Nat.mul_one]
theorem L_ld {h t p : Nat} {id ep off : Nat} {v : AV} (ho : ldO o = some (h, t, p)) (hk : e.get p = some (.ptr id ep off)) (ha : Nat.blt h c.n = true) (hc : cell st id ep off = some v) (ht : (match isAggB P t with | some false => true | _ => false) = true) : opsL P rec c ops (o :: os) e st kk kp = opsL P rec c ops os (e.set h v) st kk kp := by
  unfold ldO at ho
  split at ho <;> cases ho
  split at ht <;> (try (cases ht; done))
  rename_i hb
  simp only [opsL, wantA, putEK, ha, Tr.setK_eq]
  rw [opK_q rfl]
  simp only [opQK, evK, hk, loadK, hb, cellK_eq, hc]
theorem L_ad {j i : Nat} {m : Nat} (ho : adO o = some (j, i)) (hk : e.get i = some (.int .i64 (.ofNat m))) (ha : Nat.blt j c.n = true) (hm : m < 4611686018427387904) : opsL P rec c ops (o :: os) e st kk kp = opsL P rec c ops os (e.set j (.int .i64 (.ofNat (m + 1)))) st kk kp := by
  unfold adO at ho
  split at ho <;> cases ho
  simp only [opsL, wantA, putEK, ha, Tr.setK_eq]
  rw [opK_q rfl]
  have e1 : wrapF .i64 (Int.ofNat m + Int.ofNat 1) = .ofNat (m + 1) := by
    show (match Nat.blt (m + 1) (half .i64) with | true => Int.ofNat (m + 1) | false => IntKind.i64.wrap (.ofNat (m + 1))) = _
    rw [show Nat.blt (m + 1) (half .i64) = true from by rw [Nat.blt_eq]; show m + 1 < 9223372036854775808; omega]
  have e2 : ofV cdepth (Value.int .i64 (.ofNat 1)) = some (.int .i64 (.ofNat 1)) := rfl
  simp only [opQK, evK, hk, e2, outK_eq, binA, decide_true, intA, e1]
end
theorem sweep_round [HooksOK P] (hdraw : DrawOK P) {c : Ctx} {x : Code} {S : Sw} (hsw : sweepOf c.n x = some S) {e : Env} {ds : List Nat} {st : St} {K : KX} {m id ep off n cap : Nat} {ex : Bool}
    (hk : e.get S.k = some (.int .i64 (.ofNat m))) (hs : e.get S.s = some (.slice id ep off n cap ex 1)) (hm : m < n) (hn : n ≤ 4611686018427387904) (hty : typesOk P S = true) (hc : cell st id ep (off + m) = some (.bool false))
    (h : ∀ B, XOK B P c (.loop x) (setAll (S.vals (.slice id ep off n cap ex 1) id ep off n m) e) ds st K) : ∀ B, XOK B P c (.loop x) e ds st K := by
  have hL := best_of h
  unfold sweepOf at hsw
  split at hsw <;> (try (cases hsw; done))
  rename_i r0 C d' x0 bl r1 R h' body r2 Q
  split at hsw <;> (try (cases hsw; done))
  rename_i o1 o2 o3 o4 o5 o6 o7 o8 o9 o10 o11 hC hR hQ
  unfold swList at hsw
  split at hsw <;> (try (cases hsw; done))
  rename_i a k b s cc b' lt d a' c' g1 g2 g3 g4
  split at hsw <;> (try (cases hsw; done))
  rename_i f s' g k' p st' f' g' hh bt p' g5 g6 g7 g8
  split at hsw <;> (try (cases hsw; done))
  rename_i i k'' j i' k3 j' g9 g10 g11
  split at hsw <;> (try (cases hsw; done))
  rename_i hb
  simp only [Bool.and_eq_true, Nat.beq_eq] at hb
  obtain ⟨⟨⟨⟨⟨⟨⟨⟨⟨⟨⟨⟨⟨⟨e1, e2⟩, e3⟩, e4⟩, e5⟩, e6⟩, e7⟩, e8⟩, e9⟩, e10⟩, e11⟩, e12⟩, e13⟩, e14⟩, hgood⟩ := hb
  subst e1 e2 e3 e4 e5 e6 e7 e8 e9 e10 e11 e12 e13 e14
  cases hsw
  simp only at hk hs
  unfold Sw.good Sw.tmps at hgood
  simp only [List.all_cons, List.all_nil, Bool.and_true, Bool.and_eq_true, Bool.not_eq_true', nbeq_iff] at hgood
  obtain ⟨⟨⟨⟨⟨⟨⟨⟨a1, a2⟩, a3⟩, ⟨⟨b1, b2⟩, b3⟩, ⟨⟨c1, c2⟩, c3⟩, ⟨⟨d1, d2⟩, d3⟩, ⟨⟨f1, f2⟩, f3⟩, ⟨⟨q1, q2⟩, q3⟩, ⟨⟨p1, p2⟩, p3⟩, ⟨⟨h1, h2⟩, h3⟩, ⟨⟨i1, i2⟩, i3⟩, ⟨j1, j2⟩, j3⟩, k1⟩, sk⟩, ab⟩, ac⟩, fg⟩ := hgood
  unfold typesOk at hty
  simp only [Bool.and_eq_true] at hty
  obtain ⟨⟨t1, t2⟩, t3⟩ := hty
  refine xok_of hdraw ?_
  refine best_code hdraw ?_
  refine best_code hdraw ?_
  refine best_code hdraw ?_
  show opsK P _ c C (List.range C.size) e st _ _ = true
  rw [← opsL_all, hC, L_mv g1 hk a1, L_mv (v := .slice id ep off n cap ex 1) g2 (by simp [Tr.get_set, a3, hs]) b1, L_len g3 (Tr.get_set_same _ _ _) c1 t1, L_lss (m := m) (n := n) g4 (by simp [Tr.get_set, ab.symm, ac.symm]) (Tr.get_set_same _ _ _) d1 hm]
  refine best_code hdraw ?_
  simp only [codeK, evK, Tr.get_set_same]
  refine best_code hdraw ?_
  simp only [codeK]
  refine best_code hdraw ?_
  refine best_code hdraw ?_
  refine best_code hdraw ?_
  refine best_code hdraw ?_
  show opsK P _ c R (List.range R.size) _ st _ _ = true
  rw [← opsL_all, hR, L_mv (v := .slice id ep off n cap ex 1) g5 (by simp [Tr.get_set, a3, b3, c3, d3, hs]) f1, L_mv (v := .int .i64 (.ofNat m)) g6 (by simp [Tr.get_set, a2, b2, c2, d2, f2, hk]) q1, L_ix (m := m) g7 (by rw [Tr.get_set_ne _ _ (Ne.symm fg)]; exact Tr.get_set_same _ _ _) (Tr.get_set_same _ _ _) p1 hm t2, L_ld g8 (Tr.get_set_same _ _ _) h1 hc t3]
  refine best_code hdraw ?_
  simp only [codeK, evK, Tr.get_set_same]
  refine best_code hdraw ?_
  simp only [codeK]
  refine best_code hdraw ?_
  show opsK P _ c Q (List.range Q.size) _ st _ _ = true
  rw [← opsL_all, hQ, L_mv (v := .int .i64 (.ofNat m)) g9 (by simp [Tr.get_set, a2, b2, c2, d2, f2, q2, p2, h2, hk]) i1, L_ad g10 (Tr.get_set_same _ _ _) j1 (by omega), L_as g11 (Tr.get_set_same _ _ _) k1]
  exact hL
/-- Slots that hold the same. -/
theorem XOK.same {B : Nat → Prop} {c : Ctx} {x : Code} {e e' : Env} {ds : List Nat} {st : St} {k : KX} (he : ∀ t, e'.get t = e.get t) (h : XOK B P c x e ds st k) : XOK B P c x e' ds st k :=
  fun ρ w b a kk cs hs hf => h ρ w b a kk cs hs ⟨fun t v hv => hf.slots t v (by rw [he]; exact hv), hf.size, hf.marks, hf.kind, hf.fn, hf.round⟩
theorem sweep_all [HooksOK P] (hdraw : DrawOK P) {c : Ctx} {x : Code} {S : Sw} (hsw : sweepOf c.n x = some S) (hgd : S.good c.n = true) {e : Env} {ds : List Nat} {st : St} {K : KX} {id ep off n cap : Nat} {ex : Bool}
    (hs : e.get S.s = some (.slice id ep off n cap ex 1)) (hn : n ≤ 4611686018427387904) (hty : typesOk P S = true) (k1 : Nat) (hk1 : k1 < n) :
    ∀ (q m : Nat), m + q = k1 → e.get S.k = some (.int .i64 (.ofNat m)) → (∀ j, m ≤ j → j ≤ k1 → cell st id ep (off + j) = some (.bool false)) →
    (∀ B, XOK B P c (.loop x) (setAll (S.vals (.slice id ep off n cap ex 1) id ep off n k1) e) ds st K) → ∀ B, XOK B P c (.loop x) e ds st K := by
  have hks : S.s ∉ (S.vals (.slice id ep off n cap ex 1) id ep off n k1).map (·.1) := by
    obtain ⟨k, s, a, b, c', d, f, g, p, h, i, j, lt, st', bt⟩ := S
    unfold Sw.good Sw.tmps at hgd
    simp only [List.all_cons, List.all_nil, Bool.and_true, Bool.and_eq_true, Bool.not_eq_true', nbeq_iff] at hgd
    obtain ⟨⟨⟨⟨⟨⟨a3, b3, c3, d3, f3, q3, p3, h3, i3, j3⟩, k1⟩, sk⟩, ab⟩, ac⟩, fg⟩ := hgd
    intro hm
    simp only [Sw.vals, List.map_cons, List.map_nil, List.mem_cons, List.not_mem_nil, or_false] at hm
    rcases hm with h | h | h | h | h | h | h | h | h | h | h
    · exact a3.2 h.symm
    · exact b3.2 h.symm
    · exact c3.2 h.symm
    · exact d3.2 h.symm
    · exact f3.2 h.symm
    · exact q3.2 h.symm
    · exact p3.2 h.symm
    · exact h3.2 h.symm
    · exact i3.2 h.symm
    · exact j3.2 h.symm
    · exact sk h
  have hmm : ∀ m, (S.vals (.slice id ep off n cap ex 1) id ep off n m).map (·.1) = (S.vals (.slice id ep off n cap ex 1) id ep off n k1).map (·.1) := fun _ => rfl
  intro q
  induction q generalizing e with
  | zero =>
    intro m hm hk hc h
    have : m = k1 := by omega
    subst this
    exact sweep_round hdraw hsw hk hs hk1 hn hty (hc m (Nat.le_refl _) (Nat.le_refl _)) h
  | succ q ih =>
    intro m hm hk hc h
    refine sweep_round hdraw hsw hk hs (by omega) hn hty (hc m (Nat.le_refl _) (by omega)) ?_
    have hkk : (setAll (S.vals (.slice id ep off n cap ex 1) id ep off n m) e).get S.k = some (.int .i64 (.ofNat (m + 1))) := by
      unfold Sw.vals
      simp only [setAll]
      exact Tr.get_set_same _ _ _
    have hss : (setAll (S.vals (.slice id ep off n cap ex 1) id ep off n m) e).get S.s = some (.slice id ep off n cap ex 1) := by
      rw [setAll_get, hmm m, if_neg hks]
      exact hs
    refine ih hss (m + 1) (by omega) hkk (fun j h1 h2 => hc j (by omega) h2) ?_
    intro B
    refine XOK.same (fun t => ?_) (h B)
    have r1 : ∀ e0 : Env, (setAll (S.vals (.slice id ep off n cap ex 1) id ep off n k1) e0).get t = if t ∈ (S.vals (.slice id ep off n cap ex 1) id ep off n k1).map (·.1) then (setAll (S.vals (.slice id ep off n cap ex 1) id ep off n k1) Tr.lf).get t else e0.get t := fun e0 => setAll_get _ e0 t
    rw [r1 (setAll (S.vals (.slice id ep off n cap ex 1) id ep off n m) e), r1 e]
    by_cases ht : t ∈ (S.vals (.slice id ep off n cap ex 1) id ep off n k1).map (·.1)
    · rw [if_pos ht, if_pos ht]
    · rw [if_neg ht, if_neg ht, setAll_get, hmm m, if_neg ht]
theorem sweepOf_good {n : Nat} {x : Code} {S : Sw} (h : sweepOf n x = some S) : S.good n = true := by
  unfold sweepOf at h
  split at h <;> (try (cases h; done))
  split at h <;> (try (cases h; done))
  unfold swList at h
  split at h <;> (try (cases h; done))
  split at h <;> (try (cases h; done))
  split at h <;> (try (cases h; done))
  split at h <;> (try (cases h; done))
  rename_i hb
  simp only [Bool.and_eq_true] at hb
  cases h
  exact hb.2
theorem jumpK_ok [HooksOK P] (hdraw : DrawOK P) {c : Ctx} {x : Code} {e : Env} {ds : List Nat} {st : St} {k : Env → Bool} {K : KX} (h : jumpK P c x e st k = true) : ∃ e', k e' = true ∧ ((∀ B, XOK B P c (.loop x) e' ds st K) → ∀ B, XOK B P c (.loop x) e ds st K) := by
  have triv : k e = true → ∃ e', k e' = true ∧ ((∀ B, XOK B P c (.loop x) e' ds st K) → ∀ B, XOK B P c (.loop x) e ds st K) := fun h => ⟨e, h, fun h => h⟩
  unfold jumpK at h
  split at h
  · exact triv h
  · split at h
    · exact triv h
    · rename_i S hsw
      unfold jumpTo at h
      split at h
      · rename_i m id ep off n cap ex hk hs
        generalize nextH m n _ = k1 at h
        simp only at h
        split at h
        · rename_i hb
          simp only [Bool.and_eq_true, Nat.blt_eq, Nat.ble_eq] at hb
          obtain ⟨⟨⟨⟨h1, h2⟩, h3⟩, h4⟩, h5⟩ := hb
          rw [natK_eq, setAllK_eq] at h
          refine ⟨_, h, fun hx => sweep_all hdraw hsw (sweepOf_good hsw) hs h3 h4 (k1 - 1) (by omega) (k1 - 1 - m) m (by omega) hk (fun j g1 g2 => clearB_cell h5 _ (by omega) (by omega)) hx⟩
        · exact triv h
      · exact triv h
mutual
theorem VRel.back {ρ ρ' : Rho} (h : ρ.le ρ') : ∀ {v : AV} {x y : Value}, VRel ρ v x → VRel ρ' v y → VRel ρ v y
  | _, _, _, .bool b, .bool _ => .bool b
  | _, _, _, .int k n, .int _ _ => .int k n
  | _, _, _, .sym k n, .sym _ _ => .sym k n
  | _, _, _, .str l s e, .str _ s' e' => .str l s' e'
  | _, _, _, .nilp, .nilp => .nilp
  | _, _, _, .ptr id ep off p e hb, .ptr _ _ _ p' e' hb' => by
    have := h _ _ _ e; rw [e'] at this; cases this
    exact .ptr id ep off p e hb'
  | _, _, _, .nils, .nils => .nils
  | _, _, _, .slice id ep off len cap ex esz cap' o p e hb hc he hl ho hs, .slice _ _ _ _ _ _ _ cap2 o2 p' e' hb' hc' he' hl' ho' hs' => by
    have := h _ _ _ e; rw [e'] at this; cases this
    exact .slice id ep off len cap ex esz cap2 o2 p e hb' hc' he' hl' ho' hs'
  | _, _, _, .nilm, .nilm => .nilm
  | _, _, _, .map id p e, .map _ p' e' => by
    have := h _ _ _ e; rw [e'] at this; cases this
    exact .map id p e
  | _, _, _, .fn f a b a' b' ha hb, .fn _ _ _ a2 b2 ha' hb' => .fn f a b a2 b2 (VsRel.back h ha ha') (VsRel.back h hb hb')
  | _, _, _, .yield id p e, .yield _ p' e' => by
    have := h _ _ _ e; rw [e'] at this; cases this
    exact .yield id p e
  | _, _, _, .nilf, .nilf => .nilf
  | _, _, _, .iface t v v' e, .iface _ _ v2 e' => .iface t v v2 (VRel.back h e e')
  | _, _, _, .nili, .nili => .nili
  | _, _, _, .agg l l' e, .agg _ l2 e' => .agg l l2 (VsRel.back h e e')
  | _, _, _, .tup l l' e, .tup _ l2 e' => .tup l l2 (VsRel.back h e e')
theorem VsRel.back {ρ ρ' : Rho} (h : ρ.le ρ') : ∀ {l : List AV} {x y : List Value}, VsRel ρ l x → VsRel ρ' l y → VsRel ρ l y
  | _, _, _, .nil, .nil => .nil
  | _, _, _, .cons v v' l l' a b, .cons _ v2 _ l2 a' b' => .cons v v2 l l2 (VRel.back h a a') (VsRel.back h b b')
end
theorem sameE_get {n : Nat} {e e' : Env} (h : sameE n e e' = true) {t : Nat} (ht : t < n) {v : AV} (hv : e.get t = some v) : e'.get t = some v := by
  have h := List.all_eq_true.1 h t (List.mem_range.2 ht)
  rw [hv] at h
  simp only at h
  split at h
  · rename_i v' hv'
    rw [hv', AV.eq_of_beq _ _ h]
  · cases h
theorem noDs_eq {ds : List Nat} (h : noDs ds = true) : ds = [] := by cases ds <;> first | rfl | cases h
/-- What has only looked left what it found. -/
theorem merge_rel {ρ ρ' : Rho} {c : Ctx} {e e' : Env} {b : Frame} {a a' : Act} (hle : ρ.le ρ') (hf : FRel ρ c e [] b a) (hf' : FRel ρ' c e' [] b a') (hs : sameE c.n e e' = true) : FRel ρ c e [] b a' := by
  refine ⟨fun t v hv => ?_, hf'.size, ?_, hf.kind, hf.fn, hf.round⟩
  · obtain ⟨x, h1, h2⟩ := hf.slots t v hv
    have ht : t < c.n := by rw [← hf.size]; exact (Array.getElem?_eq_some_iff.1 h1).1
    obtain ⟨y, h3, h4⟩ := hf'.slots t v (sameE_get hs ht hv)
    exact ⟨y, h3, VRel.back hle h2 h4⟩
  · have hm := hf'.marks
    generalize a'.defers = q at hm
    cases hm
    exact .nil
theorem mergeK_ok {c : Ctx} {x y : Code} {e : Env} {ds : List Nat} {st : St} {kn : Env → List Nat → St → Bool} {k : KX} {go : St → (Env → List Nat → St → Bool) → KX → Bool} (h : mergeK c x e ds st kn k go = true)
    (hgo : ∀ st' kn' k', go st' kn' k' = true → ∀ B, XOK B P c y e ds st' (mixK kn' k')) : ∀ B, XOK B P c y e ds st (mixK kn k) := by
  unfold mergeK at h
  split at h
  · split at h
    · rename_i hb
      rw [Bool.and_eq_true] at hb
      have hds := noDs_eq hb.2
      subst hds
      split at h
      · rename_i hg
        intro B ρ w b a kk cs hs hf
        obtain ⟨x, e', ds', st', ρ', a', w', h1, h2, h3, h4, h5⟩ := hgo _ _ _ hg _ ρ w b a kk cs hs.lock hf
        have hO := Only.of_adv h4
        cases x with
        | norm =>
          have h1 : (sameE c.n e e' && noDs ds') = true := h1
          rw [Bool.and_eq_true] at h1
          have hd := noDs_eq h1.2
          subst hd
          exact ⟨.norm, e, [], st, ρ, a', w', h, hO.rel hs, merge_rel h4.le hf h3 h1.1, hO.adv hs, h5⟩
        | exit j => cases h1
        | ret => cases h1
        | pan v => cases h1
      · split at h
        · rename_i hg
          intro B ρ w b a kk cs hs hf
          obtain ⟨x, e', ds', st', ρ', a', w', h1, h2, h3, h4, h5⟩ := hgo _ _ _ hg _ ρ w b a kk cs hs.lock hf
          have hO := Only.of_adv h4
          cases x with
          | norm => cases h1
          | exit j => cases h1
          | ret =>
            have h1 : (sameE c.n e e' && noDs ds') = true := h1
            rw [Bool.and_eq_true] at h1
            have hd := noDs_eq h1.2
            subst hd
            exact ⟨.ret, e, [], st, ρ, a', w', h, hO.rel hs, merge_rel h4.le hf h3 h1.1, hO.adv hs, h5⟩
          | pan v => cases h1
        · cases h
    · exact hgo _ _ _ h
  · exact hgo _ _ _ h
theorem codeF_ok [HooksOK P] (hdraw : DrawOK P) {rec : RecX} (hrec : RecOK P rec) {c : Ctx} : ∀ (x : Code) (e : Env) (ds : List Nat) (st : St) (kn : Env → List Nat → St → Bool) (k : KX), (codeF P c.n x).run rec c e ds st kn k = true → ∀ B, XOK B P c x e ds st (mixK kn k) := by
  intro x
  induction x with
  | skip => intro e ds st kn k h; exact xok_of hdraw h
  | label l => intro e ds st kn k h; exact xok_of hdraw h
  | region id ops draw =>
    intro e ds st kn k h
    cases draw with
    | false =>
      simp only [codeF, regF_eq _ _ _ _ _ _ _ _ _ _ _ (nobody _ _), opsL_all] at h
      exact fun B => codeK_spec hdraw hrec B c _ e ds st _ h
    | true =>
      simp only [codeF, drawF_eq] at h
      exact fun B => codeK_spec hdraw hrec B c _ e ds st _ h
  | seq x y ihx ihy =>
    intro e ds st kn k h
    have h : mergeK c x e ds st kn k (fun st kn k => (codeF P c.n x).run rec c e ds st (fun e ds st => (codeF P c.n y).run rec c e ds st kn k) k) = true := h
    refine mergeK_ok h ?_
    clear h
    intro st kn k h
    refine xok_of hdraw (best_of fun B => XOK.mono (ihx e ds st _ _ h B) ?_)
    intro z e ds st hz
    cases z with
    | norm => exact best_of (ihy e ds st kn k hz)
    | exit j => exact hz
    | ret => exact hz
    | pan v => exact hz
  | cond o x y ihx ihy =>
    intro e ds st kn k h
    refine xok_of hdraw ?_
    simp only [codeF, evF_eq (nobody _ _), evK_eq, isBoolK_eq] at h
    simp only [codeK, evK_eq]
    cases hv : ev e o with
    | none => rw [hv] at h; cases h
    | some v =>
      rw [hv] at h
      cases v <;> first | (cases h; done) | skip
      rename_i b
      cases b with
      | true => exact best_of (ihx e ds st kn k h)
      | false => exact best_of (ihy e ds st kn k h)
  | block id x ih =>
    intro e ds st kn k h
    refine xok_of hdraw (best_of fun B => XOK.mono (ih e ds st _ _ h B) ?_)
    intro z e ds st hz
    cases z with
    | norm => exact hz
    | exit j =>
      have hz : ifB (Nat.beq j id) (kn e ds st) (k (.exit j) e ds st) = true := hz
      show (match Nat.beq j id with | true => mixK kn k .norm e ds st | false => mixK kn k (.exit j) e ds st) = true
      cases hb : Nat.beq j id with
      | true => rw [hb] at hz; exact hz
      | false => rw [hb] at hz; exact hz
    | ret => exact hz
    | pan v => exact hz
  | loop x ih =>
    intro e ds st kn k h
    have key : ∀ (f : Nat) (e : Env) (ds : List Nat) (st : St), rounds (fun e ds st ih => jumpK P c x e st fun e => (codeF P c.n x).run rec c e ds st ih k) f e ds st = true → ∀ B, XOK B P c (.loop x) e ds st (mixK kn k) := by
      intro f
      induction f with
      | zero => intro e ds st h; cases h
      | succ f ihf =>
        intro e ds st h
        obtain ⟨e', h, hj⟩ := jumpK_ok (ds := ds) (K := mixK kn k) hdraw (show jumpK P c x e st (fun e => (codeF P c.n x).run rec c e ds st (rounds (fun e ds st ih => jumpK P c x e st fun e => (codeF P c.n x).run rec c e ds st ih k) f) k) = true from h)
        refine hj ?_
        refine xok_of hdraw (best_of fun B => XOK.mono (ih e' ds st _ _ h B) ?_)
        intro z e ds st hz
        cases z with
        | norm => exact best_of (ihf e ds st hz)
        | exit j => exact hz
        | ret => exact hz
        | pan v => exact hz
    exact key roundFuel e ds st h
  | rangeFunc f params assign body iha ihb =>
    intro e ds st kn k h
    exact fun B => codeK_spec hdraw hrec B c _ e ds st _ h
  | exit id => intro e ds st kn k h; exact xok_of hdraw h
  | ret => intro e ds st kn k h; exact xok_of hdraw h
  | scope x ih =>
    intro e ds st kn k h
    exact xok_of hdraw (best_of (ih e ds st kn k h))
  | _ => intro e ds st kn k h; cases h
theorem execF_ok [HooksOK P] (hdraw : DrawOK P) : ∀ n, RecOK P (execF P n)
  | 0 => fun _ _ _ _ _ _ _ h => by cases h
  | n + 1 => fun B c x e ds st k h => by
    obtain ⟨fn, m, rd⟩ := c
    have := codeF_ok hdraw (execF_ok hdraw n) (c := ⟨fn, m, rd⟩) x e ds st _ k h B
    rw [mixK_self] at this
    exact this
end
/-- A run that begins with blocks that are known. -/
noncomputable def runFS (P : Program) (fuel : Nat) (f : FuncId) (st : St) (args : List AV) (ok : KR) : Bool := (funBF P f).run (execF P fuel) args st ok noP
theorem runFS_calls {P : Program} [HooksOK P] (hm : P.follows .mixedOrders = true) {fuel : Nat} {f : FuncId} {B : Nat → Prop} {ρ : Rho} {st : St} {w : World} {args : List AV} {args' : Array Value} (hs : SRel B ρ st w) (ha : VsRel ρ args args'.toList) {ok : AV → St → Bool} (h : runFS P fuel f st args ok = true) :
    Calls P f args' w (fun e w' => ∃ v st' ρ' v', e = .returned v' ∧ ok v st' = true ∧ VRel ρ' v v' ∧ SRel B ρ' st' w' ∧ Adv B ρ st w ρ' st' w') := by
  unfold runFS at h
  rw [funBF_eq] at h
  refine Calls.mono (callBody_spec (execF_ok (draw_ok hm) fuel) f _ _ _ _ h ρ w args' hs ha).2 ?_
  rintro e w' (⟨v, st', ρ', v', rfl, h1, h2, h3, h4⟩ | ⟨_, _, _, _, _, hno, _⟩)
  · exact ⟨v, st', ρ', v', rfl, h1, h3, h2, h4⟩
  · cases hno
end Go.Eng
/- Blocks of plain cells with which a run begins; what a run leaves of them. -/
namespace Go.Eng
set_option linter.unusedVariables false
variable [Sym]
/-- Cells, from an index on. -/
noncomputable def rowTr : List AV → Nat → Tr ACell → Tr ACell
  | [], _, c => c
  | v :: vs, i, c => rowTr vs (i + 1) (c.set i ⟨v, 0⟩)
theorem rowTr_get : ∀ (vs : List AV) (i : Nat) (c : Tr ACell) (j : Nat), (rowTr vs i c).get j = if j < i then c.get j else match vs[j - i]? with | some v => some ⟨v, 0⟩ | none => c.get j
  | [], i, c, j => by simp [rowTr]
  | v :: vs, i, c, j => by
    rw [rowTr, rowTr_get vs (i + 1) _ j]
    by_cases h : j < i
    · rw [if_pos (by omega), if_pos h, Tr.get_set_ne _ _ (by omega)]
    · rw [if_neg h]
      by_cases h2 : j = i
      · subst h2
        rw [if_pos (by omega), Tr.get_set_same]
        simp
      · rw [if_neg (by omega), Tr.get_set_ne _ _ (by omega)]
        have : j - i = (j - (i + 1)) + 1 := by omega
        rw [this, List.getElem?_cons_succ]
noncomputable def recOf (elem : TypeId) (vs : List AV) : Rec := .cells elem (rowTr vs 0 .lf) vs.length 0 false
theorem rowTr_lf (vs : List AV) (j : Nat) : (rowTr vs 0 .lf).get j = (vs[j]?).map fun v => (⟨v, 0⟩ : ACell) := by
  rw [rowTr_get, if_neg (by omega)]
  simp only [Nat.sub_zero]
  cases vs[j]? with
  | none => exact Tr.get_lf j
  | some v => rfl
theorem recOf_rel {ρ : Rho} {elem : TypeId} {vs : List AV} {cs : Array Value} {blk : Nat} {o : Option Obj} (ho : o = some (.cells cs elem (0, 0))) (h : VsRel ρ vs cs.toList) : RecRel ρ 0 ⟨blk, 0, cs.size⟩ (recOf elem vs) o := by
  have hl : cs.size = vs.length := by rw [← h.length]; simp
  refine ⟨cs, 0, 0, ho, fun _ => ⟨rfl, rfl⟩, fun i h1 h2 => by omega, rfl, ⟨Nat.le_refl _, fun i x hx => ?_⟩, fun i v tag h1 h2 h3 h4 => ?_, fun _ i h1 h2 => by show i - 0 < cs.size; omega⟩
  · rw [rowTr_lf] at hx
    obtain ⟨v, _, rfl⟩ := Option.map_eq_some_iff.1 hx
    exact Nat.le_refl _
  · rw [rowTr_lf] at h2
    obtain ⟨u, hu, e⟩ := Option.map_eq_some_iff.1 h2
    cases e
    obtain ⟨v', g1, g2⟩ := h.get hu
    exact ⟨v', by rw [show i - (0 : Nat) = i from rfl]; simpa using g1, g2⟩
/-- Are two plain values the same? A slice's capacity must be known. -/
def avSame : AV → AV → Bool
  | .int k n, .int k' n' => decide (k = k') && decide (n = n')
  | .bool b, .bool b' => b == b'
  | .sym k i, .sym k' i' => decide (k = k') && decide (i = i')
  | .nils, .nils => true
  | .slice a b c d e true f, .slice a' b' c' d' e' true f' => decide (a = a') && decide (b = b') && decide (c = c') && decide (d = d') && decide (e = e') && decide (f = f') && decide (0 < e)
  | _, _ => false
theorem avSame_det {ρ ρ' : Rho} (hle : ρ.le ρ') {v v' : AV} (h : avSame v v' = true) {x x' : Value} (hx : VRel ρ v x) (hx' : VRel ρ' v' x') : x = x' := by
  unfold avSame at h
  split at h
  · simp at h; obtain ⟨rfl, rfl⟩ := h; cases hx; cases hx'; rfl
  · simp at h; subst h; cases hx; cases hx'; rfl
  · simp at h; obtain ⟨rfl, rfl⟩ := h; cases hx; cases hx'; rfl
  · cases hx; cases hx'; rfl
  · simp at h
    obtain ⟨⟨⟨⟨⟨⟨rfl, rfl⟩, rfl⟩, rfl⟩, rfl⟩, rfl⟩, h0⟩ := h
    cases hx with
    | slice _ _ _ _ _ _ _ cap1 o1 p1 hp1 _ _ he1 _ ho1 _ =>
      cases hx' with
      | slice _ _ _ _ _ _ _ cap2 o2 p2 hp2 _ _ he2 _ ho2 _ =>
        have := hle _ _ _ hp1
        rw [hp2] at this; cases this
        have e1 := he1 rfl
        have e2 := he2 rfl
        subst e1 e2
        rw [ho1 h0, ho2 h0]
  · cases h
/-- Does a block still hold these cells? -/
noncomputable def cellsAre (c : Tr ACell) : List AV → Nat → Bool
  | [], _ => true
  | v :: vs, i => match c.get i with
    | some ⟨v', tag⟩ => avSame v v' && Nat.beq tag 0 && cellsAre c vs (i + 1)
    | none => false
noncomputable def blockIs (st : St) (id : Nat) (elem : TypeId) (vs : List AV) : Bool :=
  match st.heap.get id with
  | some (.cells elem' c top _ sh) => Nat.beq elem elem' && Nat.ble vs.length top && !sh && cellsAre c vs 0
  | _ => false
theorem cellsAre_get {c : Tr ACell} : ∀ {vs : List AV} {i : Nat}, cellsAre c vs i = true → ∀ j v, vs[j]? = some v → ∃ v', c.get (i + j) = some ⟨v', 0⟩ ∧ avSame v v' = true
  | [], i, _, j, v, hv => by simp at hv
  | u :: vs, i, h, j, v, hv => by
    unfold cellsAre at h
    split at h
    · rename_i v' tag hg
      simp only [Bool.and_eq_true] at h
      obtain ⟨⟨h1, h2⟩, h3⟩ := h
      have : tag = 0 := Nat.eq_of_beq_eq_true h2
      subst this
      cases j with
      | zero => simp at hv; subst hv; exact ⟨v', hg, h1⟩
      | succ j =>
        obtain ⟨v'', a, b⟩ := cellsAre_get h3 j v (by simpa using hv)
        exact ⟨v'', by rw [show i + (j + 1) = i + 1 + j by omega]; exact a, b⟩
    · cases h
theorem blockIs_same {B : Nat → Prop} {ρ ρ' : Rho} (hle : ρ.le ρ') {st : St} {w' : World} (hs : SRel B ρ' st w') {id : Nat} {elem : TypeId} {vs : List AV} {cs : Array Value} {blk : Nat} (h : blockIs st id elem vs = true) (hp : ρ id 0 = some ⟨blk, 0, cs.size⟩) (hv : VsRel ρ vs cs.toList) : w'.heap[blk]? = some (.cells cs elem (0, 0)) := by
  obtain ⟨_, _, _, r, hr, hrel⟩ := hs.mapped _ _ _ (hle _ _ _ hp)
  unfold blockIs at h
  rw [hr] at h
  split at h
  · rename_i elem' c top lat sh heq
    cases heq
    simp only [Bool.and_eq_true, Bool.not_eq_true'] at h
    obtain ⟨⟨⟨h1, h2⟩, h3⟩, h4⟩ := h
    have e := Nat.eq_of_beq_eq_true h1
    subst e
    have h2 := Nat.le_of_ble_eq_true h2
    obtain ⟨cs', lo, hi, g1, g2, g3, g4, g5, g6, g7⟩ := hrel
    obtain ⟨rfl, rfl⟩ := g2 h3
    have hl : cs.size = vs.length := by rw [← hv.length]; simp
    have : cs' = cs := by
      apply Array.ext
      · exact g4
      · intro j h1 h2'
        obtain ⟨v, hvj⟩ : ∃ v, vs[j]? = some v := ⟨_, List.getElem?_eq_getElem (by omega)⟩
        obtain ⟨v', q1, q2⟩ := cellsAre_get h4 j v hvj
        rw [Nat.zero_add] at q1
        obtain ⟨x', y1, y2⟩ := g6 j v' 0 (by omega) q1 (Nat.zero_le _) (Nat.zero_le _)
        obtain ⟨x, z1, z2⟩ := hv.get hvj
        have := avSame_det hle q2 z2 y2
        rw [show j - (0 : Nat) = j from rfl, Array.getElem?_eq_getElem h1] at y1
        rw [Array.getElem?_toList, Array.getElem?_eq_getElem h2'] at z1
        cases y1; cases z1
        exact this.symm
    rw [this] at g1
    exact g1
  · cases h
end Go.Eng
/- Hooks: a call that reads what stands, and hands back what is new. -/
namespace Go.Eng
set_option linter.unusedVariables false
variable [Sym] [Hooks]
/-- A block that is new, taken over. -/
theorem Only.take {B : Nat → Prop} {ρ : Rho} {st : St} {w w' : World} (h : Only w w') (hs : SRel B ρ st w) {p : Pl} {r : Rec} (hlo : w.heap.size ≤ p.blk) (hhi : p.blk < w'.heap.size)
    (hr : ∀ ρ', ρ.le ρ' → ρ' st.next 0 = some p → RecRel ρ' 0 p r w'.heap[p.blk]?) :
    ∃ ρ', SRel B ρ' ⟨st.heap.set st.next r, st.next + 1, st.lim⟩ w' ∧ Adv B ρ st w ρ' ⟨st.heap.set st.next r, st.next + 1, st.lim⟩ w' ∧ ρ' st.next 0 = some p ∧ ρ.le ρ' := by
  have hs' := h.rel hs
  have hun : ∀ ep, ρ st.next ep = none := fun ep => hs.none_of_ge (Nat.le_refl _) ep
  have hle := Rho.add_le (p := p) (hun 0)
  refine ⟨ρ.add st.next 0 p, ⟨fun id ep q hq => ?_, ?_, hs'.low⟩, ⟨hle, by simp, fun id hid hn => ⟨fun ep => ?_, Tr.get_set_ne _ _ (by omega)⟩, fun b hb => h.low b (hs.low b hb), h.size, h.os, h.out, fun a ha => h.fro a (hs.low _ ha)⟩, Rho.add_same _ _ _ _, hle⟩
  · unfold Rho.add at hq
    split at hq
    · rename_i hc
      obtain ⟨rfl, rfl⟩ := hc
      cases hq
      exact ⟨fun hb => by have := hs.low _ hb; omega, hhi, by simp, r, Tr.get_set_same _ _ _, hr _ hle (Rho.add_same _ _ _ _)⟩
    · obtain ⟨a, b, c, r', d, e⟩ := hs'.mapped _ _ _ hq
      exact ⟨a, b, by simp; omega, r', by rw [Tr.get_set_ne _ _ (by omega)]; exact d, e.mono hle⟩
  · intro id1 ep1 p1 id2 ep2 p2 h1 h2 he
    unfold Rho.add at h1 h2
    split at h1 <;> split at h2
    · rename_i c1 c2; cases h1; cases h2; exact ⟨c1.1.trans c2.1.symm, rfl⟩
    · cases h1; have := (hs.mapped _ _ _ h2).2.1; omega
    · cases h2; have := (hs.mapped _ _ _ h1).2.1; omega
    · exact hs.inj _ _ _ _ _ _ h1 h2 he
  · unfold Rho.add; rw [if_neg (by omega)]; exact hn ep
/-- A call that comes to a fresh empty map, whatever the order in which it does so. -/
noncomputable def freshMap (v : AV) (st st' : St) : Bool :=
  match v with
  | .map m => match st'.heap.get m with
    | some (.map [] 0) => Nat.ble st.next m && Nat.ble st'.lim st.next
    | _ => false
  | _ => false
noncomputable def hookMap (f : FuncId) : Hook := ⟨fun call args st k _ => call f args st.lock (fun v st' => freshMap v st st') noP && newK st (.map [] 0) fun id st => k (.map id) st⟩
theorem hookMap_ok (P : Program) (f : FuncId) : HookOK P f (hookMap f) := by
  intro call hcall B args st k kp h ρ w args' hs ha
  have h : (call f args st.lock (fun v st' => freshMap v st st') noP && newK st (.map [] 0) fun id st => k (.map id) st) = true := h
  rw [Bool.and_eq_true, newK_eq] at h
  obtain ⟨h1, h2⟩ := h
  obtain ⟨g1, g2⟩ := hcall (fun b => b < w.heap.size) f args st.lock _ _ h1 ρ w args' hs.lock ha
  refine ⟨g1, g2.mono ?_⟩
  rintro e w' (⟨v, st', ρ', v', rfl, q1, q2, q3, q4⟩ | ⟨_, _, _, _, _, hno, _⟩)
  · replace q1 : freshMap v st st' = true := q1
    unfold freshMap at q1
    split at q1 <;> (try (cases q1; done))
    rename_i m
    split at q1 <;> (try (cases q1; done))
    rename_i hg
    rw [Bool.and_eq_true] at q1
    have hm := Nat.le_of_ble_eq_true q1.1
    have hl := Nat.le_of_ble_eq_true q1.2
    cases q3 with
    | map _ p hp =>
      obtain ⟨a1, a2, a3, r, a4, a5⟩ := q2.mapped _ _ _ hp
      rw [hg] at a4; cases a4
      have ho := Only.of_adv q4
      have hlo : w.heap.size ≤ p.blk := by
        rcases Nat.lt_or_ge p.blk w.heap.size with hlt | hge
        · have : Nat.blt m st'.lim = true := a1 hlt
          rw [Nat.blt_eq] at this
          omega
        · exact hge
      obtain ⟨_, es, a6, a7⟩ := a5
      obtain ⟨ρ2, s1, s2, s3, s4⟩ := ho.take hs (r := .map [] 0) hlo a2 (fun ρ' _ _ => ⟨rfl, es, a6, by
        have : es.toList = [] := by
          generalize es.toList = l at a7
          cases a7; rfl
        rw [this]; exact .nil⟩)
      exact .inl ⟨_, _, ρ2, _, rfl, h2, s1, .map _ p s3, s2⟩
  · cases hno
/-- A call that comes to a value without addresses. -/
def flatA : Nat → AV → Bool
  | _, .bool _ => true
  | _, .int _ _ => true
  | _, .str _ => true
  | d + 1, .agg l => l.all (flatA d)
  | d + 1, .tup l => l.all (flatA d)
  | _, _ => false
theorem flatA_rel : ∀ (d : Nat) (v : AV) (v' : Value) (ρ ρ' : Rho), flatA d v = true → VRel ρ v v' → VRel ρ' v v' := by
  intro d
  induction d with
  | zero =>
    intro v v' ρ ρ' h hv
    cases hv <;> simp [flatA] at h
    · exact .bool _
    · exact .int _ _
    · exact .str _ _ (by assumption)
  | succ d ih =>
    have key : ∀ (l : List AV) (l' : List Value) (ρ ρ' : Rho), l.all (flatA d) = true → VsRel ρ l l' → VsRel ρ' l l' := by
      intro l
      induction l with
      | nil => intro l' ρ ρ' _ h; cases h; exact .nil
      | cons a l ihl =>
        intro l' ρ ρ' h hl
        cases hl with
        | cons _ _ _ _ h1 h2 =>
          rw [List.all_cons, Bool.and_eq_true] at h
          exact .cons _ _ _ _ (ih _ _ _ _ h.1 h1) (ihl _ _ _ h.2 h2)
    intro v v' ρ ρ' h hv
    cases hv <;> simp only [flatA] at h <;> (try (cases h; done))
    · exact .bool _
    · exact .int _ _
    · exact .str _ _ (by assumption)
    · exact .agg _ _ (key _ _ _ _ h (by assumption))
    · exact .tup _ _ (key _ _ _ _ h (by assumption))
end Go.Eng
