/- image.Offset, image.Code, read off a bank. -/
import Derived.Test.YtjkaoejcdboaiaaGreatL2
import Derived.WalkSpells
import Derived.Handy
set_option linter.unusedSimpArgs false
set_option linter.unusedVariables false
set_option linter.unusedSectionVars false
/- A hook that answers calls by a table of runs. -/
namespace Go.Proofs.YtjkaoejcdboaiaaGreat
open Go.RowKit Go.Eng
set_option linter.unusedVariables false
set_option linter.unusedSectionVars false
set_option maxRecDepth 100000
theorem flat_sym (S1 S2 : Sym) : ∀ (d : Nat) (v : AV) (v' : Value) (ρ ρ' : Rho), flatA d v = true → @VRel S1 ρ v v' → @VRel S2 ρ' v v' := by
  intro d
  induction d with
  | zero =>
    intro v v' ρ ρ' h hv
    cases hv <;> simp [flatA] at h
    · exact .bool _
    · exact .int _ _
    · exact .str _ _ (by assumption)
  | succ d ih =>
    have key : ∀ (l : List AV) (l' : List Value) (ρ ρ' : Rho), l.all (flatA d) = true → @VsRel S1 ρ l l' → @VsRel S2 ρ' l l' := by
      intro l
      induction l with
      | nil => intro l' ρ ρ' _ h; cases h; exact .nil
      | cons a l ihl =>
        intro l' ρ ρ' h hl
        cases hl with
        | cons _ _ _ _ h1 h2 =>
          rw [List.all_cons, Bool.and_eq_true] at h
          exact .cons _ _ _ _ (ih _ _ _ _ h.1 h1) (ihl _ _ _ h.2 h2)
    intro v v' ρ ρ' h hv
    cases hv <;> simp only [flatA] at h <;> (try (cases h; done))
    · exact .bool _
    · exact .int _ _
    · exact .str _ _ (by assumption)
    · exact .agg _ _ (key _ _ _ _ h (by assumption))
    · exact .tup _ _ (key _ _ _ _ h (by assumption))
theorem flats_sym (S1 S2 : Sym) {d : Nat} : ∀ (l : List AV) (l' : List Value) (ρ ρ' : Rho), l.all (flatA d) = true → @VsRel S1 ρ l l' → @VsRel S2 ρ' l l' := by
  intro l
  induction l with
  | nil => intro l' ρ ρ' _ h; cases h; exact .nil
  | cons a l ihl =>
    intro l' ρ ρ' h hl
    cases hl with
    | cons _ _ _ _ h1 h2 =>
      rw [List.all_cons, Bool.and_eq_true] at h
      exact .cons _ _ _ _ (flat_sym S1 S2 d _ _ _ _ h.1 h1) (ihl _ _ _ h.2 h2)
theorem plain_rel (S : Sym) : ∀ (d : Nat) (v : AV) (ρ : Rho), plainA d v = true → @VRel S ρ v (valV d v) := by
  intro d
  induction d with
  | zero =>
    intro v ρ h
    cases v <;> simp [plainA] at h
    · exact .bool _
    · exact .int _ _
  | succ d ih =>
    have key : ∀ (l : List AV) (ρ : Rho), l.all (plainA d) = true → @VsRel S ρ l (l.map (valV d)) := by
      intro l
      induction l with
      | nil => intro ρ _; exact .nil
      | cons a l ihl =>
        intro ρ h
        rw [List.all_cons, Bool.and_eq_true] at h
        exact .cons _ _ _ _ (ih _ _ h.1) (ihl _ h.2)
    intro v ρ h
    cases v <;> simp only [plainA] at h <;> (try (cases h; done))
    · exact .bool _
    · exact .int _ _
    · exact .agg _ _ (by simpa using key _ _ h)
    · exact .tup _ _ (by simpa using key _ _ h)
def findT (args : List AV) : List (List AV × AV) → Option AV
  | [] => none
  | e :: l => match AV.beqs args e.1 with | true => some e.2 | false => findT args l
def hookTable (tbl : List (List AV × AV)) : Hook := ⟨fun _ args st k _ => match findT args tbl with | some c => k c st | none => false⟩
noncomputable def tblOk (f : FuncId) (tbl : List (List AV × AV)) : Bool := tbl.all fun e => e.1.all (flatA 6) && plainA 6 e.2 && flatRun f e.1 e.2
theorem findT_some {args : List AV} {c : AV} : ∀ {tbl : List (List AV × AV)}, findT args tbl = some c → (args, c) ∈ tbl := by
  intro tbl
  induction tbl with
  | nil => intro h; cases h
  | cons e l ih =>
    intro h
    unfold findT at h
    split at h
    · rename_i hb
      cases h
      rw [AV.eq_of_beqs _ _ hb]
      exact List.mem_cons_self ..
    · exact List.mem_cons_of_mem _ (ih h)
theorem hookTable_ok [S : Sym] [Hooks] {f : FuncId} {tbl : List (List AV × AV)} (hc : Callable Tryz.prog f) (h : tblOk f tbl = true) : HookOK Tryz.prog f (hookTable tbl) := by
  intro call _ B args st k kp hk ρ w args' hs ha
  refine ⟨hc, ?_⟩
  have hk : (match findT args tbl with | some c => k c st | none => false) = true := hk
  split at hk <;> (try (cases hk; done))
  rename_i c hf
  have hm := List.all_eq_true.1 h _ (findT_some hf)
  simp only [Bool.and_eq_true] at hm
  obtain ⟨⟨h1, h2⟩, h3⟩ := hm
  refine (flat_calls (args' := args') (fun ρ' => flats_sym S s0 _ _ ρ ρ' h1 ha) h2 h3 w).mono ?_
  rintro e w' ⟨rfl, ho⟩
  exact .inl ⟨c, st, ρ, _, rfl, hk, ho.rel hs, plain_rel S 6 c ρ h2, ho.adv hs⟩
end Go.Proofs.YtjkaoejcdboaiaaGreat
/- Decode and Valid of what sanity comes to. -/
namespace Go.Proofs.YtjkaoejcdboaiaaGreat
open Go.RowKit Go.Eng
set_option linter.unusedVariables false
set_option linter.unusedSectionVars false
set_option maxRecDepth 100000
def insA (op d s imm aux bank size : Int) : AV := .agg [.int .i64 op, .int .i64 d, .int .i64 s, .int .u16 imm, .int .u16 aux, .int .i64 bank, .int .i64 size]
def decE (l : List Nat) (op d s imm aux bank size : Int) : List AV × AV := ([.str l], .tup [insA op d s imm aux bank size, .int .i64 0])
def valE (op d s imm aux bank size : Int) : List AV × AV := ([insA op d s imm aux bank size], .bool true)
def decT : List (List AV × AV) := [
  decE [0, 0, 0, 0, 0, 0, 0] 0 0 0 0 0 0 1,
  decE [160, 1, 2, 32, 1, 1, 0] 160 1 0 2 0 0 3,
  decE [160, 0, 2, 1, 0, 0, 0] 160 0 0 2 0 0 3,
  decE [32, 1, 1, 0, 0, 0, 0] 32 0 1 0 0 0 2,
  decE [1, 0, 0, 0, 0, 0, 0] 1 0 0 0 0 0 1,
  decE [160, 0, 2, 49, 0, 1, 1] 160 0 0 2 0 0 3,
  decE [160, 3, 2, 32, 3, 65, 0] 160 3 0 2 0 0 3,
  decE [49, 0, 1, 1, 0, 0, 0] 49 0 0 1 0 0 3,
  decE [32, 3, 65, 0, 1, 0, 1] 32 0 3 0 0 0 2,
  decE [65, 0, 1, 0, 1, 0, 0] 65 0 0 1 0 0 4,
  decE [160, 0, 2, 145, 0, 1, 1] 160 0 0 2 0 0 3,
  decE [160, 0, 2, 145, 0, 2, 1] 160 0 0 2 0 0 3,
  decE [145, 0, 1, 1, 0, 0, 0] 145 0 0 1 0 0 3,
  decE [145, 0, 2, 1, 0, 0, 0] 145 0 0 2 0 0 3,
  decE [17, 0, 1, 0, 0, 0, 0] 17 0 0 0 0 0 2]
def valT : List (List AV × AV) := [
  valE 0 0 0 0 0 0 1,
  valE 160 1 0 2 0 0 3,
  valE 160 0 0 2 0 0 3,
  valE 32 0 1 0 0 0 2,
  valE 1 0 0 0 0 0 1,
  valE 160 3 0 2 0 0 3,
  valE 49 0 0 1 0 0 3,
  valE 32 0 3 0 0 0 2,
  valE 65 0 0 1 0 0 4,
  valE 145 0 0 1 0 0 3,
  valE 145 0 0 2 0 0 3,
  valE 17 0 0 0 0 0 2]
theorem decT_ok : tblOk 42 decT = true := by decide +kernel
theorem valT_ok : tblOk 72 valT = true := by decide +kernel
theorem hook42_ok [Sym] [Hooks] : HookOK Tryz.prog 42 (hookTable decT) := hookTable_ok ⟨Tryz.f42, _, Tryz.func42, rfl, by decide⟩ decT_ok
theorem hook72_ok [Sym] [Hooks] : HookOK Tryz.prog 72 (hookTable valT) := hookTable_ok ⟨Tryz.f72, _, Tryz.func72, rfl, by decide⟩ valT_ok
end Go.Proofs.YtjkaoejcdboaiaaGreat
/- image.Code, read off a bank. -/
namespace Go.Proofs.YtjkaoejcdboaiaaGreat
open Go.RowKit Go.Eng
set_option linter.unusedVariables false
set_option linter.unusedSectionVars false
set_option maxRecDepth 100000
theorem _root_.Go.Eng.Only.one [Sym] {w : World} {o : Obj} (h : ∀ cs t lo hi, o = .cells cs t (lo, hi) → hi = 0) : Only w (w.alloc o) :=
  ⟨fun b hb => by show (w.heap.push o)[b]? = _; rw [Array.getElem?_push, if_neg (by omega)], by show _ ≤ (w.heap.push o).size; simp, rfl, rfl, frozen_push h⟩
theorem _root_.Go.Eng.Only.trans {a b c : World} (h : Only a b) (h' : Only b c) : Only a c :=
  ⟨fun i hi => (h'.low i (Nat.lt_of_lt_of_le hi h.size)).trans (h.low i hi), Nat.le_trans h.size h'.size, h'.os.trans h.os, h'.out.trans h.out, fun a => (h'.fro a).trans (h.fro a)⟩
set_option maxHeartbeats 1000000 in
theorem code_any (a : Int) (h : a < 4096) (w : World) : Calls Tryz.prog 80 #[.agg #[.int .i64 0, .int .u16 a]] w (fun e w' => e = .returned (.bool true) ∧ w' = w.alloc (.cells #[.int .i64 0, .int .u16 a] 40)) := by
  have e1 : decide (a < 4096) = true := by simpa using h
  have e2 : decide (a ≥ 4096) = false := by simpa using h
  go_enter Tryz.func80, Tryz.ntmps80
  go_wp2
  go_ret
  exact ⟨rfl, rfl⟩
end Go.Proofs.YtjkaoejcdboaiaaGreat
namespace Go.Proofs.YtjkaoejcdboaiaaGreat
open Go.RowKit Go.Eng
set_option linter.unusedVariables false
set_option linter.unusedSectionVars false
set_option maxRecDepth 100000
/-- An image whose banks' first string is s. -/
abbrev imV (ban en ve da re : Value) : Value := .agg #[ban, en, ve, da, re]
abbrev plV (a : Int) : Value := .agg #[.int .i64 0, .int .u16 a]
theorem _root_.Go.Eng.Only.cell {w w' : World} (h : Only w w') {a : Addr} {v : Value} (hv : w.cell? a = some v) : w'.cell? a = some v := by
  rw [← hv]
  exact World.cell?_of_block (h.low _ (World.block_lt_of_cell? _ _ hv))
theorem nw {cs1 : Array Value} {t1 : TypeId} : ∀ cs t lo hi, Obj.cells cs1 t1 = .cells cs t (lo, hi) → hi = 0 := fun _ _ _ _ h => by cases h; rfl
theorem only3 [Sym] {w : World} {cs1 cs2 cs3 : Array Value} {t1 t2 t3 : TypeId} : Only w (((w.alloc (.cells cs1 t1)).alloc (.cells cs2 t2)).alloc (.cells cs3 t3)) :=
  ((Only.one nw).trans (Only.one nw)).trans (Only.one nw)
theorem only2 [Sym] {w : World} {cs1 cs2 : Array Value} {t1 t2 : TypeId} : Only w ((w.alloc (.cells cs1 t1)).alloc (.cells cs2 t2)) :=
  (Only.one nw).trans (Only.one nw)
set_option maxHeartbeats 1000000 in
theorem offset_any (a : Int) (h0 : 0 ≤ a) (h : a < 4096) (bl o : Nat) (len cap : Nat) (hl : 0 < len) (en ve da re : Value) (s : ByteArray) (w : World) (hw : w.cell? ⟨bl, o, none⟩ = some (.string s)) (hs : a < s.size) :
    Calls Tryz.prog 78 #[imV (.slice (some ⟨bl, o, none⟩) len cap) en ve da re, plV a] w (fun e w' => e = .returned (.tuple #[.int .i64 0, .int .i64 a, .bool true]) ∧ Only w w') := by
  letI := s0
  have hm : a % 4096 = a := Int.emod_eq_of_lt h0 h
  have hl0 : ¬len = 0 := by omega
  have hlt : ¬((s.size : Int) ≤ a) := by omega
  have hw1 : ∀ cs1 t1 cs2 t2 cs3 t3, (((w.alloc (.cells cs1 t1)).alloc (.cells cs2 t2)).alloc (.cells cs3 t3)).cell? ⟨bl, o, none⟩ = some (.string s) := fun _ _ _ _ _ _ =>
    only3.cell hw
  go_enter Tryz.func78, Tryz.ntmps78
  go_wp2
  go_returns
  exact ⟨rfl, only3⟩
theorem exex (s : ByteArray) (a b c d : Nat) : (s.extract a b).extract c d = s.extract (a + c) (min (a + d) b) := by
  rw [ByteArray.extract_extract]
theorem cut1 {s : ByteArray} {a n : Nat} (h : s.size - a ≤ n) : (s.extract a s.size).extract 0 (s.size - a) = s.extract a (a + min n (s.size - a)) := by
  rw [exex, Nat.min_eq_right h]
  rcases Nat.le_total a s.size with h1 | h1
  · congr 1; omega
  · rw [ByteArray.extract_eq_empty_iff.2 (by omega), ByteArray.extract_eq_empty_iff.2 (by omega)]
theorem cut2 {s : ByteArray} {a n : Nat} (h : n ≤ s.size - a) : (s.extract a s.size).extract 0 n = s.extract a (a + min n (s.size - a)) := by
  rw [exex, Nat.min_eq_left h]
  rcases Nat.le_total a s.size with h1 | h1
  · congr 1; omega
  · rw [ByteArray.extract_eq_empty_iff.2 (by omega), ByteArray.extract_eq_empty_iff.2 (by omega)]
set_option maxHeartbeats 1000000 in
theorem code_at (a : Int) (h0 : 0 ≤ a) (h : a < 4096) (bl o : Nat) (len cap : Nat) (hl : 0 < len) (en ve da re : Value) (s : ByteArray) (w : World) (hw : w.cell? ⟨bl, o, none⟩ = some (.string s)) (hs : a < s.size) (n : Nat) (hn : 0 < n) :
    Calls Tryz.prog 43 #[imV (.slice (some ⟨bl, o, none⟩) len cap) en ve da re, plV a, .int .i64 n] w (fun e w' => e = .returned (.string (s.extract a.toNat (a.toNat + min n (s.size - a.toNat)))) ∧ Only w w') := by
  letI := s0
  have hm : a % 4096 = a := Int.emod_eq_of_lt h0 h
  have hl0 : ¬len = 0 := by omega
  have hlt : ¬((s.size : Int) ≤ a) := by omega
  have hw1 : ∀ cs1 t1 cs2 t2 cs3 t3 cs4 t4 cs5 t5, (((((w.alloc (.cells cs1 t1)).alloc (.cells cs2 t2)).alloc (.cells cs3 t3)).alloc (.cells cs4 t4)).alloc (.cells cs5 t5)).cell? ⟨bl, o, none⟩ = some (.string s) := fun _ _ _ _ _ _ _ _ _ _ =>
    (only3.trans only2).cell hw
  go_enter Tryz.func43, Tryz.ntmps43
  go_wp2
  · go_returns
    refine ⟨?_, only3.trans only2⟩
    exact congrArg (fun x => Ending.returned (.string x)) (cut1 (by omega))
  · go_returns
    refine ⟨?_, only3.trans only2⟩
    exact congrArg (fun x => Ending.returned (.string x)) (cut2 (by omega))
end Go.Proofs.YtjkaoejcdboaiaaGreat
