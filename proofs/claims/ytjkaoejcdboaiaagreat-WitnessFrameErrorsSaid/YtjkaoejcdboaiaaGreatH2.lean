/- The bad instructions: what they are, and what ends the check there. -/
import Derived.Test.YtjkaoejcdboaiaaGreatY4
import Derived.Test.YtjkaoejcdboaiaaGreatP3
import Derived.Test.YtjkaoejcdboaiaaGreatT3
import Derived.Test.YtjkaoejcdboaiaaGreatR2
import Derived.Test.YtjkaoejcdboaiaaGreatY5
set_option linter.unusedSimpArgs false
set_option linter.unusedVariables false
set_option linter.unusedSectionVars false
/- Calls on fixed data whose results hold strings; the bad instructions, encoded and decoded. -/
namespace Go.Proofs.YtjkaoejcdboaiaaGreat
open Go.RowKit Go.Eng
set_option linter.unusedVariables false
set_option linter.unusedSectionVars false
set_option maxRecDepth 100000
/-- The bytes of a list. -/
def bytesA (l : List Nat) : ByteArray := strB (l.map fun n : Nat => (n : Int))
/-- A run that ends with a string and a number. -/
noncomputable def strRun (f : FuncId) (args : List AV) (l : List Nat) (n : Int) : Bool :=
  @runFS k0 Tryz.prog 100000 f ⟨.lf, 0, 0⟩ args (fun v _ => AV.beq v (.tup [.str l, .int .i64 n]))
theorem str_eq {s : ByteArray} {l : List Nat} (h : s.data.toList.map UInt8.toNat = l) : s = bytesA l := by
  apply ByteArray.ext
  apply Array.toList_inj.1
  subst h
  unfold bytesA
  rw [strB_data, List.map_map, List.map_map]
  have : ((fun n : Int => UInt8.ofNat n.toNat) ∘ (fun n : Nat => (n : Int))) ∘ UInt8.toNat = id := by
    funext x; simp
  rw [this, List.map_id]
theorem str_calls {f : FuncId} {args : List AV} {args' : Array Value} {l : List Nat} {n : Int} (ha : ∀ ρ : Rho, @VsRel s0 ρ args args'.toList) (h : strRun f args l n = true) (w : World) :
    Calls Tryz.prog f args' w (fun e w' => e = .returned (.tuple #[.string (bytesA l), .int .i64 n]) ∧ Low w.heap.size w w') := by
  letI := s0
  letI := k0
  haveI : HooksOK Tryz.prog := ⟨fun f h hk => by cases hk⟩
  have hs : SRel (fun b => b < w.heap.size) (fun _ _ => none) ⟨.lf, 0, 0⟩ w := ⟨fun _ _ _ h => by (cases h), fun _ _ _ _ _ _ h => by (cases h), fun _ h => h⟩
  refine (runFS_calls follows hs (ha _) h).mono ?_
  rintro e w' ⟨v, st', ρ', v', rfl, h1, h2, h3, h4⟩
  have e := AV.eq_of_beq _ _ h1
  subst e
  refine ⟨?_, (Only.of_adv h4).lo⟩
  cases h2 with
  | tup _ l' hl =>
    obtain ⟨a, b, hab⟩ : ∃ a b, l'.toList = [a, b] := by
      match hq : l'.toList, hl.length with
      | [a, b], _ => exact ⟨a, b, rfl⟩
    have e2 : l' = #[a, b] := by rw [← Array.toArray_toList (xs := l'), hab]
    subst e2
    cases hl with
    | cons _ _ _ _ x1 x2 =>
      cases x2 with
      | cons _ _ _ _ y1 y2 =>
        cases x1 with
        | str _ s hs => cases y1; rw [str_eq hs]
theorem low_calls {f : FuncId} {args : List AV} {args' : Array Value} {c : AV} (ha : ∀ ρ : Rho, @VsRel s0 ρ args args'.toList) (hc : plainA 6 c = true) (h : flatRun f args c = true) (w : World) :
    Calls Tryz.prog f args' w (fun e w' => e = .returned (valV 6 c) ∧ Low w.heap.size w w') := (flat_calls ha hc h w).mono fun _ _ h => ⟨h.1, h.2.lo⟩
/-- The bad instructions: operation, number, size, bytes. -/
def bads : List (Int × Int × Int × List Nat) := [(134, 256, 4, [134, 0, 0, 1]), (144, 0, 3, [144, 0, 0]), (145, 0, 3, [145, 0, 0]), (160, 0, 3, [160, 0, 0]), (160, 1, 3, [160, 0, 1]), (160, 3, 3, [160, 0, 3]), (17, 0, 2, [17, 0]), (162, 0, 3, [162, 0, 0]), (21, 1, 2, [21, 1])]
def insK (op imm size : Int) : AV := .agg [.int .i64 op, .int .i64 0, .int .i64 0, .int .u16 imm, .int .u16 0, .int .i64 0, .int .i64 size]
theorem enc_bads : bads.all (fun x => strRun 15 [insK x.1 x.2.1 x.2.2.1] x.2.2.2 0) = true := by decide +kernel
theorem enc_ret : strRun 15 [insK 1 0 1] [1] 0 = true := by decide +kernel
/-- What stands at a bad instruction's place. -/
def tailL (l : List Nat) : List Nat := (l ++ [1] ++ List.replicate 7 0).take 7
theorem dec_bads : bads.all (fun x => flatRun 42 [.str (tailL x.2.2.2)] (.tup [insK x.1 x.2.1 x.2.2.1, .int .i64 0])) = true := by decide +kernel
theorem dec_ff : flatRun 42 [.str [255, 0, 0, 0, 0, 0, 0]] (.tup [insK 0 0 0, .int .i64 11]) = true := by decide +kernel
end Go.Proofs.YtjkaoejcdboaiaaGreat
/- The law: its list of plain instructions. -/
namespace Go.Proofs.YtjkaoejcdboaiaaGreat
open Go.RowKit Go.Eng
set_option linter.unusedVariables false
set_option linter.unusedSectionVars false
set_option maxRecDepth 100000

def inC (x : In) : List Value := [.int .i64 x.op, .int .i64 x.d, .int .i64 x.s, .int .u16 x.imm, .int .u16 0, .int .i64 0, .int .i64 x.size]
def rowI (l : List In) : List Value := l.flatMap inC
theorem rowI_len (l : List In) : (rowI l).length = l.length * 7 := by
  induction l with
  | nil => rfl
  | cons x l ih => simp only [rowI, List.flatMap_cons, List.length_append] at ih ⊢; rw [ih]; simp [inC]; omega
theorem rowI_get : ∀ (l : List In) (j : Nat) (x : In) (i : Nat), l[j]? = some x → i < 7 → (rowI l)[j * 7 + i]? = (inC x)[i]?
  | [], j, x, i, h, _ => by simp at h
  | y :: l, 0, x, i, h, hi => by
    simp at h; subst h
    simp only [rowI, List.flatMap_cons]
    rw [List.getElem?_append_left (by simp [inC]; omega)]
    congr 1; omega
  | y :: l, j + 1, x, i, h, hi => by
    have ih := rowI_get l j x i (by simpa using h) hi
    simp only [rowI, List.flatMap_cons] at ih ⊢
    rw [List.getElem?_append_right (by simp [inC]; omega), ← ih]
    congr 1; simp [inC]; omega
theorem rowI_append (l m : List In) : rowI l ++ rowI m = rowI (l ++ m) := by simp [rowI]
theorem apIns : Ap Tryz.prog 30 26 7 48 := ⟨Tryz.underlying30, by
  obtain ⟨ti, hti, h⟩ := info_of (α := Unit) (show (Tryz.prog.info? 26).map (fun i => (i.zero, i.size, i.bytes)) = some (some (.agg #[.int .i64 0, .int .i64 0, .int .i64 0, .int .u16 0, .int .u16 0, .int .i64 0, .int .i64 0]), 7, 48) by kernel_rfl)
  simp only [Prod.mk.injEq] at h
  exact ⟨ti, _, hti, h.1, h.2.1, h.2.2, rfl⟩, by decide, by decide⟩
/-- A row of instructions of the call's own. -/
def InsO (w : World) (S : Nat) (A : Option Addr) (n c : Nat) (l : List In) : Prop := l.length = n ∧ Own w S 26 7 (.slice A n c) n (rowI l)
theorem InsO.nil (w : World) (S : Nat) : InsO w S none 0 0 [] := ⟨rfl, Own.nil _ _ _ _⟩
theorem InsO.low {w w' : World} {S : Nat} {A : Option Addr} {n c : Nat} {l : List In} (h : InsO w S A n c l) (hl : Low w.heap.size w w') : InsO w' S A n c l := ⟨h.1, h.2.low hl⟩
/-- What a row of instructions shows. -/
theorem insRow_of {w : World} {A : Option Addr} {l : List In} (h : ∀ j u, (rowI l)[j]? = some u → ∃ g, A = some ⟨g, 0, none⟩ ∧ w.cell? ⟨g, j, none⟩ = some u) : InsRow w A l := fun j x hj => by
  have k : ∀ i u, i < 7 → (inC x)[i]? = some u → ∃ g, A = some ⟨g, 0, none⟩ ∧ w.cell? ⟨g, j * 7 + i, none⟩ = some u := fun i u hi hu => h _ u (by rw [rowI_get l j x i hj hi]; exact hu)
  obtain ⟨g, rfl, k0⟩ := k 0 _ (by omega) rfl
  have kk : ∀ i u, i < 7 → (inC x)[i]? = some u → w.cell? ⟨g, j * 7 + i, none⟩ = some u := fun i u hi hu => by
    obtain ⟨g', e, r⟩ := k i u hi hu; cases e; exact r
  exact ⟨g, rfl, kk 0 _ (by omega) rfl, kk 1 _ (by omega) rfl, kk 2 _ (by omega) rfl, kk 3 _ (by omega) rfl, kk 4 _ (by omega) rfl, kk 5 _ (by omega) rfl, kk 6 _ (by omega) rfl⟩
theorem InsO.row {w : World} {S : Nat} {A : Option Addr} {n c : Nat} {l : List In} (h : InsO w S A n c l) : InsRow w A l := insRow_of fun j u hj => by
  rcases h.2.form with ⟨e, rfl⟩ | ⟨g, c', cs, e, _⟩
  · have := List.length_eq_zero_iff.1 h.1; subst this; simp [rowI] at hj
  · cases e; exact ⟨g, rfl, h.2.cell hj⟩
/-- More instructions. -/
theorem app_ins {w : World} {S : Nat} {A : Option Addr} {n c : Nat} {l : List In} (h : InsO w S A n c l) {g : Nat} {ys : List In} (hg : w.heap[g]? = some (.cells (rowI ys).toArray 26 (0, 0))) {m d k : Nat} (hm : ys.length = m) (hk : n + m = k) (hn : k ≤ 1000) (hS : S ≤ w.heap.size) :
    ∃ A' c' w', (Builtin.append_ #[30, 30] 30 #[.slice A n c, .slice (some ⟨g, 0, none⟩) m d]).run Tryz.prog w = .ok (.slice A' k c') w' ∧ InsO w' S A' k c' (l ++ ys) ∧ Low S w w' ∧ InsRow w' A l ∧ (∀ q, q < w.heap.size → (∀ o, A ≠ some ⟨q, o, none⟩) → w'.heap[q]? = w.heap[q]?) := by
  subst hk
  have h1 : ∀ u ∈ (rowI ys).toArray, u.oneCell' = true := fun u hu => by
    simp only [rowI, List.mem_toArray, List.mem_flatMap] at hu
    obtain ⟨x, _, hx⟩ := hu
    simp [inC] at hx
    rcases hx with rfl | rfl | rfl | rfl | rfl | rfl | rfl <;> rfl
  obtain ⟨v', w', hrun, happ, hkeep⟩ := append_keep (ty := 30) apIns h.2 (c := d) (m := m) hg (by simp [rowI_len, hm]) h1 (by omega) hS
  obtain ⟨A', c', rfl⟩ := happ.own.slice
  refine ⟨A', c', w', hrun, ⟨by simp [h.1, hm], ?_⟩, happ.low h.2 (Nat.le_refl _) hS, insRow_of fun j u hj => ?_, fun q hq hA => happ.block q hq fun e => ?_⟩
  · have := happ.own
    simpa [rowI_append] using this
  · rcases h.2.form with ⟨e, rfl⟩ | ⟨g', c0, cs, e, _⟩
    · have := List.length_eq_zero_iff.1 h.1; subst this; simp [rowI] at hj
    · cases e; exact ⟨g', rfl, hkeep g' _ rfl j u hj⟩
  · rcases h.2.form with ⟨e1, _⟩ | ⟨g', c0, cs, e1, _⟩
    · rw [e1] at e; cases e
    · rw [e1] at e; cases e1
      simp only [Value.ownBlock, Option.some.injEq] at e
      exact hA 0 (by rw [e])
/-- A plain instruction, in one of its three forms. -/
def PlainI (x : In) : Prop :=
  (∃ n d e : Nat, x = ⟨n, d, e, 0, 2⟩ ∧ 32 ≤ n ∧ n ≤ 46 ∧ d < 8 ∧ e < 8) ∨
  (∃ n d b : Nat, x = ⟨n, d, 0, extP b, 3⟩ ∧ 48 ≤ n ∧ n ≤ 62 ∧ d < 8 ∧ b < 256) ∨
  (∃ n d a b : Nat, x = ⟨n, d, 0, (a + 256 * b : Int), 4⟩ ∧ 64 ≤ n ∧ n ≤ 78 ∧ d < 8 ∧ a < 256 ∧ b < 256)
theorem MadeOk.plain {op d s imm aux bank size : Int} (h : MadeOk op d s imm aux bank size) (h0 : 32 ≤ op) (h1 : op < 80) : aux = 0 ∧ bank = 0 ∧ PlainI ⟨op, d, s, imm, size⟩ := by
  obtain ⟨rfl, rfl, h | h | h⟩ := h h0 h1
  · obtain ⟨n, d', e', rfl, rfl, rfl, rfl, rfl, a, b, c, f⟩ := h
    exact ⟨rfl, rfl, .inl ⟨n, d', e', rfl, a, b, c, f⟩⟩
  · obtain ⟨n, d', b', rfl, rfl, rfl, rfl, rfl, a, b, c, f⟩ := h
    exact ⟨rfl, rfl, .inr (.inl ⟨n, d', b', rfl, a, b, c, f⟩)⟩
  · obtain ⟨n, d', a', b', rfl, rfl, rfl, rfl, rfl, a, b, c, f, g⟩ := h
    exact ⟨rfl, rfl, .inr (.inr ⟨n, d', a', b', rfl, a, b, c, f, g⟩)⟩
theorem PlainI.size {x : In} (h : PlainI x) : 2 ≤ x.size ∧ x.size ≤ 4 := by
  rcases h with ⟨n, d, e, rfl, _⟩ | ⟨n, d, b, rfl, _⟩ | ⟨n, d, a, b, rfl, _⟩
  · exact ⟨by show (2 : Int) ≤ _; simp, by show _ ≤ (4 : Int); simp⟩
  · exact ⟨by show (2 : Int) ≤ _; simp, by show _ ≤ (4 : Int); simp⟩
  · exact ⟨by show (2 : Int) ≤ _; simp, by show _ ≤ (4 : Int); simp⟩
/-- The place behind some instructions. -/
def endAt (l : List In) : Int := 16 + (l.map (·.size)).sum
/-- The argument's arrays. -/
def ArgRow (w : World) (A : Option Addr) (n : Nat) : Prop := ∀ j, j < n → ∃ a z0 z1 z2 z3 z4, A = some a ∧ a.spot = none ∧ w.cell? ⟨a.block, a.off + j * 5, none⟩ = some (.int .i64 z0) ∧ w.cell? ⟨a.block, a.off + j * 5 + 1, none⟩ = some (.int .i64 z1) ∧ w.cell? ⟨a.block, a.off + j * 5 + 2, none⟩ = some (.int .i64 z2) ∧ w.cell? ⟨a.block, a.off + j * 5 + 3, none⟩ = some (.int .i64 z3) ∧ w.cell? ⟨a.block, a.off + j * 5 + 4, none⟩ = some (.int .i64 z4)
end Go.Proofs.YtjkaoejcdboaiaaGreat
namespace Go.Proofs.YtjkaoejcdboaiaaGreat
open Go.RowKit Go.Eng
set_option linter.unusedVariables false
set_option linter.unusedSectionVars false
set_option maxRecDepth 100000
def natI (l : List Nat) : List Int := l.map fun n : Nat => (n : Int)
theorem insK_rel (op imm size : Int) (ρ : Rho) : @VsRel s0 ρ [insK op imm size] (#[insV op 0 0 imm 0 0 size] : Array Value).toList := by
  letI := s0
  exact .cons _ _ _ _ (.agg _ _ (.cons _ _ _ _ (.int _ _) (.cons _ _ _ _ (.int _ _) (.cons _ _ _ _ (.int _ _) (.cons _ _ _ _ (.int _ _) (.cons _ _ _ _ (.int _ _) (.cons _ _ _ _ (.int _ _) (.cons _ _ _ _ (.int _ _) .nil)))))))) .nil
theorem bytesA_data (l : List Nat) (h : ∀ x ∈ l, x < 256) : (bytesA l).data.toList.map UInt8.toNat = l := by
  unfold bytesA
  rw [strB_data, List.map_map, List.map_map]
  conv => rhs; rw [← List.map_id l]
  apply List.map_congr_left
  intro x hx
  have := h x hx
  simp; omega
theorem str_rel (l : List Nat) (h : ∀ x ∈ l, x < 256) (ρ : Rho) : @VsRel s0 ρ [.str l] (#[.string (bytesA l)] : Array Value).toList := by
  letI := s0
  exact .cons _ _ _ _ (.str _ _ (bytesA_data l h)) .nil
/-- One bad instruction. -/
structure BadI (op imm size : Int) (bs : List Nat) (K : Int) : Prop where
  enc : Encodes ⟨op, 0, 0, imm, 0⟩ (natI bs)
  dec : ∀ u, Calls Tryz.prog 42 #[.string (bytesA (tailL bs))] u (fun e w' => e = .returned (.tuple #[insV op 0 0 imm 0 0 size, .int .i64 0]) ∧ Low u.heap.size u w')
  bad : Bad op 0 0 imm 0 0 size 0 K
  len : 2 ≤ bs.length ∧ bs.length ≤ 4
  lo : ∀ x ∈ bs, x < 256
theorem badI_of {op : Nat} {imm size : Int} {bs : List Nat} {K : Int} (hm : ((op : Int), imm, size, bs) ∈ bads) (ho : op < 164) (hz : (sizeP op : Int) = size) (hb : Bad op 0 0 imm 0 0 size 0 K) (hl : 2 ≤ bs.length ∧ bs.length ≤ 4) (h256 : ∀ x ∈ bs, x < 256) (ht : ∀ x ∈ tailL bs, x < 256) : BadI op imm size bs K := by
  have h1 := List.all_eq_true.1 enc_bads _ hm
  have h2 := List.all_eq_true.1 dec_bads _ hm
  refine ⟨⟨⟨op, rfl, ho, fun w => ?_⟩, fun c hc => ?_, by simp [natI]; omega⟩, fun u => ?_, hb, hl, h256⟩
  · rw [hz]
    exact str_calls (insK_rel op imm size) h1 w
  · simp only [natI, List.mem_map] at hc
    obtain ⟨x, hx, rfl⟩ := hc
    have := h256 x hx
    omega
  · exact low_calls (str_rel _ ht) rfl h2 u
theorem ret_enc : Encodes ⟨1, 0, 0, 0, 0⟩ [1] := ⟨⟨1, rfl, by decide, fun w => str_calls (insK_rel 1 0 1) enc_ret w⟩, by decide, by decide⟩
theorem dec_ff_calls (u : World) : Calls Tryz.prog 42 #[.string (bytesA [255, 0, 0, 0, 0, 0, 0])] u (fun e w' => e = .returned (.tuple #[insV 0 0 0 0 0 0 0, .int .i64 11]) ∧ Low u.heap.size u w') :=
  low_calls (str_rel _ (by decide)) rfl dec_ff u
theorem bad_0 : BadI 134 256 4 [134, 0, 0, 1] 41 := badI_of (op := 134) (by decide) (by decide) (by decide) (.inr (.inl ⟨rfl, rfl, rfl⟩)) (by decide) (by decide) (by decide)
theorem bad_1 : BadI 144 0 3 [144, 0, 0] 42 := badI_of (op := 144) (by decide) (by decide) (by decide) (.inr (.inr (.inl ⟨rfl, .inl rfl, rfl, rfl⟩))) (by decide) (by decide) (by decide)
theorem bad_2 : BadI 145 0 3 [145, 0, 0] 42 := badI_of (op := 145) (by decide) (by decide) (by decide) (.inr (.inr (.inl ⟨rfl, .inr rfl, rfl, rfl⟩))) (by decide) (by decide) (by decide)
theorem bad_3 : BadI 160 0 3 [160, 0, 0] 43 := badI_of (op := 160) (by decide) (by decide) (by decide) (.inr (.inr (.inr ⟨rfl, by decide, by decide, by decide, eff_lds0, rfl, rfl, rfl, rfl, rfl⟩))) (by decide) (by decide) (by decide)
theorem bad_4 : BadI 160 1 3 [160, 0, 1] 43 := badI_of (op := 160) (by decide) (by decide) (by decide) (.inr (.inr (.inr ⟨rfl, by decide, by decide, by decide, eff_lds1, rfl, rfl, rfl, rfl, rfl⟩))) (by decide) (by decide) (by decide)
theorem bad_5 : BadI 160 3 3 [160, 0, 3] 43 := badI_of (op := 160) (by decide) (by decide) (by decide) (.inr (.inr (.inr ⟨rfl, by decide, by decide, by decide, eff_lds3, rfl, rfl, rfl, rfl, rfl⟩))) (by decide) (by decide) (by decide)
theorem bad_6 : BadI 17 0 2 [17, 0] 43 := badI_of (op := 17) (by decide) (by decide) (by decide) (.inr (.inr (.inr ⟨rfl, by decide, by decide, by decide, eff_pop, rfl, rfl, rfl, rfl, rfl⟩))) (by decide) (by decide) (by decide)
theorem bad_7 : BadI 162 0 3 [162, 0, 0] 43 := badI_of (op := 162) (by decide) (by decide) (by decide) (.inr (.inr (.inr ⟨rfl, by decide, by decide, by decide, eff_ldf, rfl, rfl, rfl, rfl, rfl⟩))) (by decide) (by decide) (by decide)
theorem bad_8 : BadI 21 1 2 [21, 1] 43 := badI_of (op := 21) (by decide) (by decide) (by decide) (.inr (.inr (.inr ⟨rfl, by decide, by decide, by decide, eff_drop, rfl, rfl, rfl, rfl, rfl⟩))) (by decide) (by decide) (by decide)
end Go.Proofs.YtjkaoejcdboaiaaGreat
