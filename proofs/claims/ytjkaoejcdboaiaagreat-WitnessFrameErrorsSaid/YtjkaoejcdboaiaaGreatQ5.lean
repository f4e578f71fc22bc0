/- The law. -/
import Derived.Test.YtjkaoejcdboaiaaGreatH2
import Derived.Deep.WholeRow
import Derived.StillTailTactics
import Derived.Test.YtjkaoejcdboaiaaGreatH5
set_option linter.unusedSimpArgs false
set_option linter.unusedVariables false
set_option linter.unusedSectionVars false
namespace Go.Proofs.YtjkaoejcdboaiaaGreat
open Go.RowKit Go.Eng
set_option linter.unusedVariables false
set_option linter.unusedSectionVars false
set_option maxRecDepth 100000

def badsI : List In := [⟨134, 0, 0, 256, 0⟩, ⟨144, 0, 0, 0, 0⟩, ⟨145, 0, 0, 0, 0⟩, ⟨160, 0, 0, 0, 0⟩, ⟨160, 0, 0, 1, 0⟩, ⟨160, 0, 0, 3, 0⟩, ⟨17, 0, 0, 0, 0⟩, ⟨162, 0, 0, 0, 0⟩, ⟨21, 0, 0, 1, 0⟩]
def wantsI : List Int := [41, 42, 42, 43, 43, 43, 43, 43, 43]
abbrev badO : Obj := .cells #[.int .i64 134, .int .i64 0, .int .i64 0, .int .u16 256, .int .u16 0, .int .i64 0, .int .i64 0, .int .i64 144, .int .i64 0, .int .i64 0, .int .u16 0, .int .u16 0, .int .i64 0, .int .i64 0, .int .i64 145, .int .i64 0, .int .i64 0, .int .u16 0, .int .u16 0, .int .i64 0, .int .i64 0, .int .i64 160, .int .i64 0, .int .i64 0, .int .u16 0, .int .u16 0, .int .i64 0, .int .i64 0, .int .i64 160, .int .i64 0, .int .i64 0, .int .u16 1, .int .u16 0, .int .i64 0, .int .i64 0, .int .i64 160, .int .i64 0, .int .i64 0, .int .u16 3, .int .u16 0, .int .i64 0, .int .i64 0, .int .i64 17, .int .i64 0, .int .i64 0, .int .u16 0, .int .u16 0, .int .i64 0, .int .i64 0, .int .i64 162, .int .i64 0, .int .i64 0, .int .u16 0, .int .u16 0, .int .i64 0, .int .i64 0, .int .i64 21, .int .i64 0, .int .i64 0, .int .u16 1, .int .u16 0, .int .i64 0, .int .i64 0] 27
abbrev wantO : Obj := .cells #[.int .i64 41, .int .i64 42, .int .i64 42, .int .i64 43, .int .i64 43, .int .i64 43, .int .i64 43, .int .i64 43, .int .i64 43] 29
theorem badO_row : badO = .cells (rowI badsI).toArray 27 := rfl
theorem endAt_app (l : List In) (x : In) : endAt (l ++ [x]) = endAt l + x.size := by simp [endAt]; omega
theorem endAt_le (l : List In) (h : ∀ x ∈ l, PlainI x) : 16 ≤ endAt l ∧ endAt l ≤ 16 + 4 * l.length := by
  induction l with
  | nil => simp [endAt]
  | cons x l ih =>
    have h1 := (h x (List.mem_cons_self ..)).size
    have h2 := ih fun y hy => h y (List.mem_cons_of_mem _ hy)
    simp only [endAt, List.map_cons, List.sum_cons, List.length_cons] at h2 ⊢
    omega
theorem row_cells {w : World} {t : Nat} {l : List In} {ty : TypeId} (h : w.heap[t]? = some (.cells (rowI l).toArray ty (0, 0))) {j : Nat} {x : In} (hx : l[j]? = some x) :
    w.cell? ⟨t, j * 7, none⟩ = some (.int .i64 x.op) ∧ w.cell? ⟨t, j * 7 + 1, none⟩ = some (.int .i64 x.d) ∧ w.cell? ⟨t, j * 7 + 2, none⟩ = some (.int .i64 x.s) ∧ w.cell? ⟨t, j * 7 + 3, none⟩ = some (.int .u16 x.imm) ∧ w.cell? ⟨t, j * 7 + 4, none⟩ = some (.int .u16 0) ∧ w.cell? ⟨t, j * 7 + 5, none⟩ = some (.int .i64 0) ∧ w.cell? ⟨t, j * 7 + 6, none⟩ = some (.int .i64 x.size) := by
  have f : ∀ i u, i < 7 → (inC x)[i]? = some u → w.cell? ⟨t, j * 7 + i, none⟩ = some u := fun i u hi hu => by
    rw [cell_of h, List.getElem?_toArray, rowI_get l j x i hx hi]
    exact hu
  exact ⟨f 0 _ (by omega) rfl, f 1 _ (by omega) rfl, f 2 _ (by omega) rfl, f 3 _ (by omega) rfl, f 4 _ (by omega) rfl, f 5 _ (by omega) rfl, f 6 _ (by omega) rfl⟩
theorem InsO.cap {w : World} {S : Nat} {A : Option Addr} {n c : Nat} {l : List In} (h : InsO w S A n c l) : n ≤ c := by
  rcases h.2.form with ⟨e, rfl⟩ | ⟨g, c', cs, e, _, _, hc⟩
  · exact Nat.zero_le _
  · cases e; exact hc
abbrev retO (op imm : Int) : Obj := .cells #[.int .i64 op, .int .i64 0, .int .i64 0, .int .u16 imm, .int .u16 0, .int .i64 0, .int .i64 0, .int .i64 1, .int .i64 0, .int .i64 0, .int .u16 0, .int .u16 0, .int .i64 0, .int .i64 0] 26
theorem wants_at {m : Nat} {K : Int} (h : wantsI[m]? = some K) : (#[.int .i64 41, .int .i64 42, .int .i64 42, .int .i64 43, .int .i64 43, .int .i64 43, .int .i64 43, .int .i64 43, .int .i64 43] : Array Value)[m]? = some (.int .i64 K) := by
  have e : (#[.int .i64 41, .int .i64 42, .int .i64 42, .int .i64 43, .int .i64 43, .int .i64 43, .int .i64 43, .int .i64 43, .int .i64 43] : Array Value) = (wantsI.map fun x => Value.int .i64 x).toArray := rfl
  rw [e]; simp [h]
theorem field42 (w' : World) : (Instr.field 42 (Value.agg #[.int .i64 1, .int .i64 0, .int .u16 0]) 0).run Tryz.prog w' = .ok (.int .i64 1) w' := by kernel_rfl
theorem bad_at (m : Nat) (hm : m < 9) : ∃ op imm size bs K, badsI[m]? = some ⟨op, 0, 0, imm, 0⟩ ∧ wantsI[m]? = some K ∧ BadI op imm size bs K ∧ op ≠ 131 := by
  match m, hm with
  | 0, _ => exact ⟨_, _, _, _, _, rfl, rfl, bad_0, by decide⟩
  | 1, _ => exact ⟨_, _, _, _, _, rfl, rfl, bad_1, by decide⟩
  | 2, _ => exact ⟨_, _, _, _, _, rfl, rfl, bad_2, by decide⟩
  | 3, _ => exact ⟨_, _, _, _, _, rfl, rfl, bad_3, by decide⟩
  | 4, _ => exact ⟨_, _, _, _, _, rfl, rfl, bad_4, by decide⟩
  | 5, _ => exact ⟨_, _, _, _, _, rfl, rfl, bad_5, by decide⟩
  | 6, _ => exact ⟨_, _, _, _, _, rfl, rfl, bad_6, by decide⟩
  | 7, _ => exact ⟨_, _, _, _, _, rfl, rfl, bad_7, by decide⟩
  | 8, _ => exact ⟨_, _, _, _, _, rfl, rfl, bad_8, by decide⟩
/-- A whole array into the variable that was made last. -/
theorem wpList_storeNew {P : Program} {ops : Array Oper} {rest : List Oper} {o : Oper} {a : Act} {w : World} {Q : Exit → Act → World → Prop} {t : TypeId} {c c' : Array Value} (hgd : o.guard = none) (p x : Operand) (ho : o.op = .store t p x)
    (hp : a.eval p = .pointer (some ⟨w.heap.size, 0, none⟩)) (hx : a.eval x = .agg c') (hi : (P.info? t).map (·.size) = some c'.size) (hc : c.size = c'.size) (h1 : c'.all (·.oneCell') = true)
    (h : wpList P ops Q rest (a.put o.dst undef) (w.alloc (.cells c' t))) : wpList P ops Q (o :: rest) a (w.alloc (.cells c t)) :=
  wpList_plain hgd fun _ hK => by
    unfold Oper.wp execOp
    simp only [ho, Sem.run_bind, hp, hx, run_storeAt_new w t c c' hi hc h1, Result.andThen_ok, Sem.run_pure]
    exact hK _ _ h
set_option maxHeartbeats 16000000 in
theorem law_any (w : World) (wh : Nat) (hwh : wh < 256) (A : Option Addr) (n c : Nat) (hrow : ArgRow w A n) :
    Calls Tryz.prog 3 #[.int .u8 wh, .slice A n c] w (fun e w' => e = .returned (.bool true) ∧ Low w.heap.size w w') := by
  have hsa := sanity_any w
  have HR := Lib.hid hrow; have HW := Lib.hid hwh
  clear hrow hwh
  go_enter Tryz.func3, Tryz.ntmps3
  go_upto_region 2 with (first
    | (go_at_call 4; refine hsa.mono ?_; rintro e w1 ⟨rfl, l1⟩))
  clear hsa
  have L1 := Lib.hid l1
  obtain ⟨z, hz⟩ : ∃ z, w1.heap.size = z := ⟨_, rfl⟩
  obtain ⟨a6, z6, u6⟩ := alloc_at badO hz
  obtain ⟨a7, z7, u7⟩ := alloc_at wantO z6
  have a6 := u7 _ _ a6
  have lw : Low w1.heap.size w1 ((w1.alloc badO).alloc wantO) := ((Low.refl _ _).alloc (Nat.le_refl _) _).alloc (by simp) _
  clear u6 u7 l1
  iterate 34 (first | go_values | go_skip | go_guarded | go_step | go_upon)
  refine wpList_storeNew rfl (.tmp 6) (.tmp 25) rfl (by rw [hz]; rfl) rfl (by kernel_rfl) rfl (by kernel_rfl) ?_
  (try simp only [Act.put])
  go_upto_region 3 with fail
  generalize w1.alloc badO = wb at a6 a7 lw z7 z6 ⊢
  go_upto_region 4 with fail
  have HZ := Lib.hid hz
  obtain ⟨t6, ht6⟩ : ∃ t, t = z := ⟨_, rfl⟩
  obtain ⟨t7, ht7⟩ : ∃ t, t = z + 1 := ⟨_, rfl⟩
  rw [← ht7] at a7 z7 ⊢
  rw [show (Value.pointer (some { block := z, off := 0 })) = Value.pointer (some { block := t6, off := 0 }) by rw [ht6]]
  rw [← ht6] at a6
  clear ht6 ht7 hz
  generalize wb.alloc wantO = w2 at a6 a7 z7 lw ⊢
  have L2 := Lib.hid (L1.out.trans (lw.mono L1.out.size))
  have A6 : Hid (w2.heap[t6]? = some (.cells (rowI badsI).toArray 27 (0, 0))) := a6
  have A7 := Lib.hid a7
  have HS2 : Hid (w.heap.size ≤ w2.heap.size) := Lib.hid L2.out.size
  clear a6 a7 z7 lw z6
  go_wp2_with fail
  go_loopw [8, 9, 10] (fun s v i wr => ∃ (k : Nat) (B : Option Addr) (m d : Nat) (l : List In), k ≤ n ∧ k ≤ 8 ∧ i = .int .i64 k ∧ s = .slice B m d ∧ v = .int .u16 (endAt l) ∧ InsO wr w2.heap.size B m d l ∧ (∀ x ∈ l, PlainI x) ∧ m ≤ k ∧ Low w2.heap.size w2 wr) (fun _ _ i _ => 8 - (intOf i).toNat)
  case atStart => exact ⟨0, none, 0, 0, [], Nat.zero_le _, by decide, rfl, rfl, rfl, InsO.nil _ _, fun x hx => (by cases hx), Nat.le_refl _, Low.refl _ _⟩
  case round =>
    obtain ⟨k, B, m, d, l, hk, hk8, rfl, rfl, rfl, hI, hP, hmk, hL⟩ := hrel
    obtain ⟨wv, rfl⟩ : ∃ u, u = wr := ⟨_, rfl⟩
    have hel := endAt_le l hP
    have hll := hI.1
    have HI := Lib.hid hI; have HP := Lib.hid hP; have HMK := Lib.hid hmk; have LV := Lib.hid hL; have HK := Lib.hid (And.intro hk hk8)
    clear hI hP hmk hL
    by_cases hgo : k < n ∧ k < 8
    · obtain ⟨hkn, hk8'⟩ := hgo
      obtain ⟨a, q0, q1, q2, q3, q4, hA, hsp, r0, r1, r2, r3, r4⟩ := HR.out k hkn
      obtain ⟨ab, ao, asp⟩ := a
      simp only at hsp r0 r1 r2 r3 r4
      subst hsp
      subst hA
      have lall := L2.out.trans (LV.out.mono HS2.out)
      have r0 := lall.cell r0; have r1 := lall.cell r1; have r2 := lall.cell r2; have r3 := lall.cell r3; have r4 := lall.cell r4
      have hd1 : decide ((k : Int) < (n : Int)) = true := by simp; omega
      have hd2 : decide ((k : Int) < 8) = true := by simp; omega
      have hma := made_any wv q0 q1 q2 q3 q4
      have hw2 : IntKind.i64.wrap ((k : Int) + 1) = k + 1 := Go.IntWalk.i64_in _ (by omega)
      clear lall hk hk8
      go_upto_region 10 with (first
        | (go_at_call 5
           refine hma.mono ?_
           rintro e w3 ⟨op, dd, ss, imm, aux, bank, size, rfl, hok, l3⟩
           have a11 := InsAt.new w3 op dd ss imm aux bank size
           have l4 : Low w3.heap.size w3 (w3.alloc (insC op dd ss imm aux bank size)) := (Low.refl _ _).alloc (Nat.le_refl _) _))
      clear r0 r1 r2 r3 r4 hma
      obtain ⟨t11, ht11⟩ : ∃ t, t = w3.heap.size := ⟨_, rfl⟩
      rw [← ht11] at a11 ⊢
      have HT11 : Hid (wv.heap.size ≤ t11) := Lib.hid (by have := l3.size; omega)
      clear ht11
      generalize w3.alloc (insC op dd ss imm aux bank size) = w4 at a11 l4 ⊢
      have L4 := Lib.hid (l3.trans (l4.mono l3.size))
      have A11 := Lib.hid a11
      clear l3 l4
      obtain ⟨v0, v1, v2, v3, v4, v5, v6⟩ := a11
      have LV4 := Lib.hid (LV.out.trans (L4.out.mono LV.out.size))
      by_cases hop : 32 ≤ op ∧ op < 80
      · obtain ⟨h32, h80⟩ := hop
        obtain ⟨rfl, rfl, hpl⟩ := hok.plain h32 h80
        have hsz := hpl.size
        simp only at hsz
        have e1 : decide (op ≥ 32) = true := by simp; omega
        have e2 : decide (op < 80) = true := by simp; omega
        have e3 : decide (32 ≤ op) = true := by simp; omega
        have HPL := Lib.hid hpl
        clear hpl hok
        have a5 := heap_new w4 (insC op dd ss imm 0 0 size)
        have l5 : Low w4.heap.size w4 (w4.alloc (insC op dd ss imm 0 0 size)) := (Low.refl _ _).alloc (Nat.le_refl _) _
        have hO5 := (HI.out.low L4.out).low l5
        obtain ⟨B', d', w6, hrun, ho, hlw, _, hkp⟩ := app_ins hO5 (ys := [⟨op, dd, ss, imm, size⟩]) (m := 1) (d := 1) (k := m + 1) a5 rfl rfl (by have := HMK.out; omega) (Nat.le_trans LV4.out.size l5.size)
        have hne : ∀ o : Nat, B ≠ some ⟨t11, o, none⟩ := fun o e => by
          rcases HI.out.2.form with ⟨e0, _⟩ | ⟨g', c0, cs, e0, _, h3, _⟩
          · cases e0; cases e
          · cases e0; simp only [Option.some.injEq, Addr.mk.injEq] at e; have := heap_lt h3; have := HT11.out; omega
        have ht : t11 < w4.heap.size := cell_lt A11.out.1
        have hk11 : w6.cell? ⟨t11, 6, none⟩ = some (.int .i64 size) := by
          rw [World.cell?_of_block (a := ⟨t11, 6, none⟩) (hkp t11 (Nat.lt_of_lt_of_le ht l5.size) hne)]
          exact l5.cell A11.out.2.2.2.2.2.2
        have O6 := Lib.hid ho
        have L6 := Lib.hid ((LV4.out.trans (l5.mono LV4.out.size)).trans hlw)
        have f1 : IntKind.u16.wrap size = size := Go.IntWalk.u16_in _ (by omega)
        have f2 : IntKind.u16.wrap (endAt l + size) = endAt (l ++ [⟨op, dd, ss, imm, size⟩]) := by
          rw [endAt_app]
          show IntKind.u16.wrap (endAt l + size) = endAt l + size
          exact Go.IntWalk.u16_in _ (by have := HMK.out; omega)
        clear a5 l5 hO5 ho hlw hkp hne ht
        go_wp2_with (first
          | (at_builtin; refine wpList_known rfl (.tmp 50) (.tmp 52) rfl rfl rfl hrun ?_))
        exact ⟨⟨k + 1, B', m + 1, d', l ++ [⟨op, dd, ss, imm, size⟩], by omega, by omega, rfl, rfl, rfl, O6.out, fun x hx => by
          rcases List.mem_append.1 hx with h | h
          · exact HP.out x h
          · simp at h; subst h; exact HPL.out, by have := HMK.out; omega, L6.out⟩, by simp [intOf]; omega⟩
      · have O4 := Lib.hid (HI.out.low L4.out)
        by_cases h32 : 32 ≤ op
        · have e1 : decide (op ≥ 32) = true := by simp; omega
          have e2 : decide (op < 80) = false := by simp; omega
          have e3 : decide (32 ≤ op) = true := by simp; omega
          go_wp2_with fail
          exact ⟨⟨k + 1, B, m, d, l, by omega, by omega, rfl, rfl, rfl, O4.out, HP.out, by have := HMK.out; omega, LV4.out⟩, by simp [intOf]; omega⟩
        · have e1 : decide (op ≥ 32) = false := by simp; omega
          have e3 : decide (32 ≤ op) = false := by simp; omega
          go_wp2_with fail
          exact ⟨⟨k + 1, B, m, d, l, by omega, by omega, rfl, rfl, rfl, O4.out, HP.out, by have := HMK.out; omega, LV4.out⟩, by simp [intOf]; omega⟩
    · have HI' := HI
      have hm9 : ((wh : Int) % 9) = ((wh % 9 : Nat) : Int) := by omega
      obtain ⟨op, imm, size, bb, K, hbi, hwi, hB, h131⟩ := bad_at (wh % 9) (by omega)
      generalize wh % 9 = m9 at hm9 hbi hwi
      have hlt9 : m9 < 9 := (List.getElem?_eq_some_iff.1 hbi).1
      have LW := Lib.hid (L2.out.trans (LV.out.mono HS2.out))
      have b6 := LV.out.some A6.out
      have b7 := LV.out.some A7.out
      obtain ⟨bss, hbss⟩ := bss_of l HP.out
      have HBS := Lib.hid hbss; have HB := Lib.hid hB; have H131 := Lib.hid h131
      have hn8 : l.length ≤ 8 := by have := HMK.out; omega
      have HAT := Lib.hid hbss.endAt
      have HFL := Lib.hid hbss.flat
      have hcap : m ≤ d := HI.out.cap
      obtain ⟨c0, c1, c2, c3, c4, c5, c6⟩ := row_cells b6 hbi
      simp only at c0 c1 c2 c3 c4 c5 c6
      have a8 := heap_new wv (retO op imm)
      have l8 : Low wv.heap.size wv (wv.alloc (retO op imm)) := (Low.refl _ _).alloc (Nat.le_refl _) _
      obtain ⟨B', d', w8, hrun, ho, hlw, hold, _⟩ := app_ins (HI.out.low l8) (ys := [⟨op, 0, 0, imm, 0⟩, ⟨1, 0, 0, 0, 0⟩]) (m := 2) (d := 2) (k := m + 2) a8 rfl rfl (by have := HMK.out; omega) (Nat.le_trans LV.out.size l8.size)
      have L8 := Lib.hid ((LV.out.trans (l8.mono LV.out.size)).trans hlw)
      have hti := tiny_any w8 B' (m + 2) d' (l ++ [⟨op, 0, 0, imm, 0⟩, ⟨1, 0, 0, 0, 0⟩]) (bss ++ [natI bb, [1]]) ho.1 (by simp [hbss.len, hll]) (by have := HMK.out; omega) ho.cap ho.row (fun j x b => hbss.enc2 hB j x b)
      have HOLD := Lib.hid hold
      obtain ⟨F, hF⟩ : ∃ F, F = (bss ++ [natI bb, [1]]).flatten := ⟨_, rfl⟩
      rw [← hF] at hti
      have HFE := Lib.hid hF; have HLM := Lib.hid hll; have HCAP := Lib.hid hcap
      clear hold ho hlw l8 a8 hF b6 hel hll hcap hbi hbss hB h131
      rcases Nat.lt_or_ge k n with hkn | hkn
      case' inl =>
        have e8 : k = 8 := by have := HK.out; omega
        have hd1 : decide ((k : Int) < (n : Int)) = true := by simp; omega
        have hd2 : decide ((k : Int) < 8) = false := by simp; omega
        go_upto_region 14 with fail
        clear e8
      case' inr =>
        have hd1 : decide ((k : Int) < (n : Int)) = false := by simp; omega
        have hd2 := hd1
        go_upto_region 14 with fail
      all_goals
        rw [hm9]
        clear hd1 hd2 hm9
        have rz : w8 = w8 := rfl
        go_upto_region 15 with (first
          | (at_builtin; refine wpList_known rfl (.tmp 62) (.tmp 67) rfl rfl rfl hrun ?_)
          | (go_at_call 6
             refine hti.mono ?_
             rintro e w9 ⟨b9, rfl, hb9, pg9, l9⟩))

        clear hti hrun rz c0 c1 c2 c3 c4 c5 c6
        have HB9 : Hid (w8.heap.size ≤ b9) := Lib.hid hb9
        have a13 := heap_new w9 (imgC b9)
        have l10 : Low w9.heap.size w9 (w9.alloc (imgC b9)) := (Low.refl _ _).alloc (Nat.le_refl _) _
        have pgA := l10.some pg9
        obtain ⟨t13, ht13⟩ : ∃ t, t = w9.heap.size := ⟨_, rfl⟩
        rw [← ht13] at a13 ⊢
        have HT13 : Hid (w8.heap.size ≤ t13) := Lib.hid (by rw [ht13]; exact l9.size)
        clear ht13
        generalize w9.alloc (imgC b9) = wA at a13 l10 pgA ⊢
        have LA := Lib.hid (L8.out.trans ((l9.trans (l10.mono l9.size)).mono L8.out.size))
        have hti := tiny_any wA B m d l bss HLM.out (by rw [HBS.out.len, HLM.out]) (by have := HMK.out; have := HK.out; omega) HCAP.out (HOLD.out.low (l9.trans (l10.mono l9.size))) (fun j x b => HBS.out.enc j x b)
        have A13 := Lib.hid a13; have PGA := Lib.hid pgA
        clear hb9 a13 l10 pgA l9 pg9
        go_upto_region 16 with (first
          | (go_at_call 6
             refine hti.mono ?_
             rintro e wB ⟨b10, rfl, hb10, pg10, l11⟩))
        clear hti
        have a14 := heap_new wB (imgC b10)
        have l12 : Low wB.heap.size wB (wB.alloc (imgC b10)) := (Low.refl _ _).alloc (Nat.le_refl _) _
        have pg10 := l12.some pg10
        obtain ⟨t14, ht14⟩ : ∃ t, t = wB.heap.size := ⟨_, rfl⟩
        rw [← ht14] at a14 ⊢
        have HT14 : Hid (wA.heap.size ≤ t14 ∧ b10 < t14) := Lib.hid (by rw [ht14]; exact ⟨l11.size, heap_lt (by assumption)⟩)
        clear ht14
        generalize wB.alloc (imgC b10) = wC at a14 l12 pg10 ⊢
        have LAC := Lib.hid (l11.trans (l12.mono l11.size))
        have LC := Lib.hid (LA.out.trans (LAC.out.mono LA.out.size))
        have A14 := Lib.hid a14; have PG10 := Lib.hid pg10
        have hps := page_size bss.flatten (by have := HFL.out; omega)
        obtain ⟨P, hP⟩ : ∃ P, P = strB (pageL bss.flatten bss.flatten.length) := ⟨_, rfl⟩
        rw [← hP] at pg10 hps
        obtain ⟨at', hat'⟩ : ∃ a : Nat, endAt l = a := ⟨16 + bss.flatten.length, by rw [HAT.out]; rfl⟩
        rw [hat']
        have HAT' := Lib.hid hat'; have HPP := Lib.hid hP
        have hal : at' ≤ 60 := by have := HAT.out; have := HFL.out; omega
        have hle1 : (at' : Int) ≤ 4096 := by omega
        have hmin : min at' 4096 = at' := by omega
        have hbig1 : ¬ 9223372036854775807 < at' + 1 := by omega
        have hbig2 : ¬ 9223372036854775807 < at' + 1 + (4095 - at') := by omega
        have hle3 : (0 : Int) ≤ (at' : Int) + 1 := by omega
        have hle2 : (at' : Int) + 1 ≤ 4096 := by omega
        have f1 : IntKind.u16.wrap ((at' : Int) + 1) = at' + 1 := Go.IntWalk.u16_in _ (by omega)
        obtain ⟨y0, y1, y2, y3, y4⟩ : ImgAt t14 b10 wC := ⟨cell_of a14, cell_of a14, cell_of a14, cell_of a14, cell_of a14⟩
        have s0 : wC.cell? ⟨b10, 0, none⟩ = some (.string P) := cell_of pg10
        clear l11 l12 a14 pg10 hat' hP hb10
        go_still_tail 15, (by kernel_rfl)
        clear y0 y1 y2 y3 y4 s0 hle1 hle2 hle3 hbig1 hbig2 hmin f1 hps
        change wpList _ _ _ _ _ wC.drew
        obtain ⟨X, hX⟩ : ∃ X, X = P.extract 0 at' ++ (⟨#[255]⟩ : ByteArray) ++ P.extract (at' + 1) 4096 := ⟨_, rfl⟩
        rw [← hX]
        have hXP : X = strB (pageOf bss (255 :: List.replicate (4079 - bss.flatten.length) 0)) := by
          have e : at' = 16 + bss.flatten.length := by have h1 := HAT'.out; have h2 := HAT.out; omega
          rw [hX, HPP.out, e]
          exact none_page bss (by have := HFL.out; omega)
        have HXP := Lib.hid hXP
        clear hX hXP
        have ld : Low wC.heap.size wC wC.drew := (Low.refl _ _).drew
        generalize wC.drew = wD at ld ⊢
        have LD := Lib.hid ld
        have aX := heap_new wD (.cells #[.string X] 9)
        have lX : Low wD.heap.size wD (wD.alloc (.cells #[.string X] 9)) := (Low.refl _ _).alloc (Nat.le_refl _) _
        have a14 := lX.some (ld.some A14.out)
        have cz0 := cell_of (j := 0) a14
        have fz0 := free_of (j := 0) a14
        have bz0 := set_blk (i := 0) (v := .slice (some ⟨wD.heap.size, 0, none⟩) 1 1) a14
        have AX := Lib.hid aX; have LX := Lib.hid lX; have BZ := Lib.hid bz0
        clear a14 aX lX bz0 ld
        go_upto_region 17 with fail
        have TE : Turned t14 (wD.alloc (.cells #[.string X] 9)) ((wD.alloc (.cells #[.string X] 9)).setCell ⟨t14, 0, none⟩ (.slice (some ⟨wD.heap.size, 0, none⟩) 1 1)) := Turned.set _ _ _ _
        obtain ⟨b11, hb11⟩ : ∃ b, b = wD.heap.size := ⟨_, rfl⟩
        have hs0 : t14 < wC.heap.size := heap_lt A14.out
        have hs1 := LD.out.size
        have hs2 := HT14.out
        have hs3 : b9 < wA.heap.size := heap_lt PGA.out
        have hs4 : t13 < wA.heap.size := heap_lt A13.out
        have hs5 : t7 < w2.heap.size := heap_lt A7.out
        have hs6 := LA.out.size
        have hs7 := LX.out.size
        have bE : ((wD.alloc (.cells #[.string X] 9)).setCell ⟨t14, 0, none⟩ (.slice (some ⟨wD.heap.size, 0, none⟩) 1 1)).heap[t14]? = some (imgC b11) := by rw [hb11]; exact BZ.out
        have xE := (TE.block wD.heap.size (by omega)).trans AX.out
        have b13 := (TE.block t13 (by omega)).trans (LX.out.some (LD.out.some (LAC.out.some A13.out)))
        have p9 := (TE.block b9 (by omega)).trans (LX.out.some (LD.out.some (LAC.out.some PGA.out)))
        have b7 := (TE.block t7 (by omega)).trans (LX.out.some (LD.out.some (LC.out.some A7.out)))
        have lE : Low w2.heap.size w2 _ := ((LC.out.trans (LD.out.mono LC.out.size)).trans (LX.out.mono (by have := LC.out.size; omega))).trans (TE.low (by omega))
        rw [← hb11] at bE xE b13 p9 b7 lE ⊢
        clear hs0 hs1 hs2 hs3 hs4 hs5 hs6 hs7 hb11 TE cz0 fz0
        generalize (wD.alloc (.cells #[.string X] 9)).setCell ⟨t14, 0, none⟩ (.slice (some ⟨b11, 0, none⟩) 1 1) = wE at bE xE b13 p9 b7 lE ⊢
        rw [HXP.out] at xE
        have PG9 := Lib.hid p9; have PGX := Lib.hid xE; have LE := Lib.hid lE
        have SZ9 : Hid ((strB (pageL F F.length)).size = 4096) := Lib.hid (page_size F (by rw [HFE.out]; have h1 := HFL.out; have h2 := HB.out.len; simp only [List.flatten_append, List.length_append, List.flatten_cons, List.flatten_nil, List.append_nil, List.length_cons, List.length_nil, natI, List.length_map]; omega))
        have hk7 : wE.cell? ⟨t7, m9, none⟩ = some (.int .i64 K) := by rw [cell_of b7]; exact wants_at hwi
        have HX : Hid (∀ w', Low wE.heap.size wE w' → ImgAt t13 b9 w' ∧ ImgAt t14 b11 w' ∧ w'.cell? ⟨t7, m9, none⟩ = some (.int .i64 K)) := Lib.hid (fun w' lw => ⟨⟨lw.cell (cell_of b13), lw.cell (cell_of b13), lw.cell (cell_of b13), lw.cell (cell_of b13), lw.cell (cell_of b13)⟩, ⟨lw.cell (cell_of bE), lw.cell (cell_of bE), lw.cell (cell_of bE), lw.cell (cell_of bE), lw.cell (cell_of bE)⟩, lw.cell hk7⟩)
        clear bE xE b13 p9 b7 lE hk7 hwi
        have hi9 : (m9 : Int) < 9 := by omega
        have hfd : ∀ w' : World, (Instr.field 42 (Value.agg #[.int .i64 1, .int .i64 0, .int .u16 0]) 0).run Tryz.prog w' = .ok (.int .i64 1) w' := field42
        have hSd := HX.out _ (Low.refl wE.heap.size wE).drew
        have LF0 := Lib.hid ((Low.refl wE.heap.size wE).drew)
        refine wp_region_noPanic ?_
        refine wp_region_held_drew (S := fun w' => ImgAt t13 b9 w' ∧ ImgAt t14 b11 w' ∧ w'.cell? ⟨t7, m9, none⟩ = some (.int .i64 K)) (by kernel_rfl) (by exact hSd) (fun hHeld => ?_)
        generalize wE.drew = wF0 at hHeld hSd LF0 ⊢
        refine take_at (i := 0) (v := ?_) rfl (by kernel_rfl) (by kernel_rfl) (by kernel_rfl) (fun _ _ _ h => h) (by rfl) ?_ (by exact hHeld) ?_
        rotate_left
        · intro w' hSw; obtain ⟨⟨y0, y1, y2, y3, y4⟩, ⟨x0, x1, x2, x3, x4⟩, x5⟩ := hSw; go_simp; (try with_reducible rfl)
        (try simp only [Act.put, List.setIfInBounds_toArray, List.set_cons_zero, List.set_cons_succ])
        refine take_at (i := 1) (v := ?_) rfl (by kernel_rfl) (by kernel_rfl) (by kernel_rfl) (fun _ _ _ h => h) (by rfl) ?_ (by exact hHeld) ?_
        rotate_left
        · intro w' hSw; obtain ⟨⟨y0, y1, y2, y3, y4⟩, ⟨x0, x1, x2, x3, x4⟩, x5⟩ := hSw; go_simp; (try with_reducible rfl)
        (try simp only [Act.put, List.setIfInBounds_toArray, List.set_cons_zero, List.set_cons_succ])
        refine take_at (i := 2) (v := ?_) rfl (by kernel_rfl) (by kernel_rfl) (by kernel_rfl) (fun _ _ _ h => h) (by rfl) ?_ (by exact hHeld) ?_
        rotate_left
        · intro w' hSw; obtain ⟨⟨y0, y1, y2, y3, y4⟩, ⟨x0, x1, x2, x3, x4⟩, x5⟩ := hSw; go_simp; (try with_reducible rfl)
        (try simp only [Act.put, List.setIfInBounds_toArray, List.set_cons_zero, List.set_cons_succ])
        refine take_at (i := 3) (v := ?_) rfl (by kernel_rfl) (by kernel_rfl) (by kernel_rfl) (fun _ _ _ h => h) (by rfl) ?_ (by exact hHeld) ?_
        rotate_left
        · intro w' hSw; obtain ⟨⟨y0, y1, y2, y3, y4⟩, ⟨x0, x1, x2, x3, x4⟩, x5⟩ := hSw; go_simp; (try with_reducible rfl)
        (try simp only [Act.put, List.setIfInBounds_toArray, List.set_cons_zero, List.set_cons_succ])
        refine take_at (i := 5) (v := ?_) rfl (by kernel_rfl) (by kernel_rfl) (by kernel_rfl) (fun _ _ _ h => h) (by rfl) ?_ (by exact hHeld) ?_
        rotate_left
        · intro w' hSw; obtain ⟨⟨y0, y1, y2, y3, y4⟩, ⟨x0, x1, x2, x3, x4⟩, x5⟩ := hSw; go_simp; (try with_reducible rfl)
        (try simp only [Act.put, List.setIfInBounds_toArray, List.set_cons_zero, List.set_cons_succ])
        refine take_at (i := 6) (v := ?_) rfl (by kernel_rfl) (by kernel_rfl) (by kernel_rfl) (fun _ _ _ h => h) (by rfl) ?_ (by exact hHeld) ?_
        rotate_left
        · intro w' hSw; obtain ⟨⟨y0, y1, y2, y3, y4⟩, ⟨x0, x1, x2, x3, x4⟩, x5⟩ := hSw; go_simp; (try with_reducible rfl)
        (try simp only [Act.put, List.setIfInBounds_toArray, List.set_cons_zero, List.set_cons_succ])
        refine take_at (i := 7) (v := ?_) rfl (by kernel_rfl) (by kernel_rfl) (by kernel_rfl) (fun _ _ _ h => h) (by rfl) ?_ (by exact hHeld) ?_
        rotate_left
        · intro w' hSw; obtain ⟨⟨y0, y1, y2, y3, y4⟩, ⟨x0, x1, x2, x3, x4⟩, x5⟩ := hSw; go_simp; (try with_reducible rfl)
        (try simp only [Act.put, List.setIfInBounds_toArray, List.set_cons_zero, List.set_cons_succ])
        refine take_at (i := 8) (v := ?_) rfl (by kernel_rfl) (by kernel_rfl) (by kernel_rfl) (fun _ _ _ h => h) (by rfl) ?_ (by exact hHeld) ?_
        rotate_left
        · intro w' hSw; obtain ⟨⟨y0, y1, y2, y3, y4⟩, ⟨x0, x1, x2, x3, x4⟩, x5⟩ := hSw; go_simp; (try with_reducible rfl)
        (try simp only [Act.put, List.setIfInBounds_toArray, List.set_cons_zero, List.set_cons_succ])
        refine take_at (i := 9) (v := ?_) rfl (by kernel_rfl) (by kernel_rfl) (by kernel_rfl) (fun _ _ _ h => h) (by rfl) ?_ (by exact hHeld) ?_
        rotate_left
        · intro w' hSw; obtain ⟨⟨y0, y1, y2, y3, y4⟩, ⟨x0, x1, x2, x3, x4⟩, x5⟩ := hSw; go_simp; (try with_reducible rfl)
        (try simp only [Act.put, List.setIfInBounds_toArray, List.set_cons_zero, List.set_cons_succ])
        refine take_at (i := 10) (v := ?_) rfl (by kernel_rfl) (by kernel_rfl) (by kernel_rfl) (fun _ _ _ h => h) (by rfl) ?_ (by exact hHeld) ?_
        rotate_left
        · intro w' hSw; obtain ⟨⟨y0, y1, y2, y3, y4⟩, ⟨x0, x1, x2, x3, x4⟩, x5⟩ := hSw; go_simp; (try with_reducible rfl)
        (try simp only [Act.put, List.setIfInBounds_toArray, List.set_cons_zero, List.set_cons_succ])
        refine wpAnyH_ready (rs := [4]) (by kernel_rfl) (by simp) ?_
        refine next_at (i := 4) rfl (fun KK hKK => ?_) AllReadyH.nil
        have hcl := frame_bad HBS.out hn8 HB.out H131.out wF0 b9 F HFE.out (LF0.out.some PG9.out)
        refine step_callg (by kernel_rfl) 7 #[imgV b9, plV 16, .int .i64 1, .int .i64 100] (by go_simp) (fun v w' => v = Value.agg #[.int .i64 K, .int .i64 0, .int .u16 at'] ∧ Low wF0.heap.size wF0 w') (hcl.mono (by rintro e w' ⟨rfl, he⟩; exact ⟨_, rfl, by rw [HAT'.out], he⟩)) ?_
        rintro v wF1 ⟨rfl, l6⟩
        have LF1 := Lib.hid (LF0.out.trans (l6.mono LF0.out.size))
        clear l6 hcl
        refine hKK.out _ _ (by exact (HX.out _ LF1.out)) (fun hHeld => ?_)
        clear hKK KK
        (try simp only [Act.put, List.setIfInBounds_toArray, List.set_cons_zero, List.set_cons_succ])
        refine take_at (i := 11) (v := ?_) rfl (by kernel_rfl) (by kernel_rfl) (by kernel_rfl) (fun _ _ _ h => h) (by rfl) ?_ (by exact hHeld) ?_
        rotate_left
        · intro w' hSw; obtain ⟨⟨y0, y1, y2, y3, y4⟩, ⟨x0, x1, x2, x3, x4⟩, x5⟩ := hSw; go_simp; (try with_reducible rfl)
        (try simp only [Act.put, List.setIfInBounds_toArray, List.set_cons_zero, List.set_cons_succ])
        refine take_at (i := 12) (v := ?_) rfl (by kernel_rfl) (by kernel_rfl) (by kernel_rfl) (fun _ _ _ h => h) (by rfl) ?_ (by exact hHeld) ?_
        rotate_left
        · intro w' hSw; obtain ⟨⟨y0, y1, y2, y3, y4⟩, ⟨x0, x1, x2, x3, x4⟩, x5⟩ := hSw; go_simp; (try with_reducible rfl)
        (try simp only [Act.put, List.setIfInBounds_toArray, List.set_cons_zero, List.set_cons_succ])
        refine take_at (i := 13) (v := ?_) rfl (by kernel_rfl) (by kernel_rfl) (by kernel_rfl) (fun _ _ _ h => h) (by rfl) ?_ (by exact hHeld) ?_
        rotate_left
        · intro w' hSw; obtain ⟨⟨y0, y1, y2, y3, y4⟩, ⟨x0, x1, x2, x3, x4⟩, x5⟩ := hSw; go_simp; (try with_reducible rfl)
        (try simp only [Act.put, List.setIfInBounds_toArray, List.set_cons_zero, List.set_cons_succ])
        refine take_at (i := 14) (v := ?_) rfl (by kernel_rfl) (by kernel_rfl) (by kernel_rfl) (fun _ _ _ h => h) (by rfl) ?_ (by exact hHeld) ?_
        rotate_left
        · intro w' hSw; obtain ⟨⟨y0, y1, y2, y3, y4⟩, ⟨x0, x1, x2, x3, x4⟩, x5⟩ := hSw; go_simp; (try with_reducible rfl)
        (try simp only [Act.put, List.setIfInBounds_toArray, List.set_cons_zero, List.set_cons_succ])
        refine take_at (i := 15) (v := ?_) rfl (by kernel_rfl) (by kernel_rfl) (by kernel_rfl) (fun _ _ _ h => h) (by rfl) ?_ (by exact hHeld) ?_
        rotate_left
        · intro w' hSw; obtain ⟨⟨y0, y1, y2, y3, y4⟩, ⟨x0, x1, x2, x3, x4⟩, x5⟩ := hSw; go_simp; (try with_reducible rfl)
        (try simp only [Act.put, List.setIfInBounds_toArray, List.set_cons_zero, List.set_cons_succ])
        refine take_at (i := 17) (v := ?_) rfl (by kernel_rfl) (by kernel_rfl) (by kernel_rfl) (fun _ _ _ h => h) (by rfl) ?_ (by exact hHeld) ?_
        rotate_left
        · intro w' hSw; obtain ⟨⟨y0, y1, y2, y3, y4⟩, ⟨x0, x1, x2, x3, x4⟩, x5⟩ := hSw; go_simp; (try with_reducible rfl)
        (try simp only [Act.put, List.setIfInBounds_toArray, List.set_cons_zero, List.set_cons_succ])
        refine take_at (i := 18) (v := ?_) rfl (by kernel_rfl) (by kernel_rfl) (by kernel_rfl) (fun _ _ _ h => h) (by rfl) ?_ (by exact hHeld) ?_
        rotate_left
        · intro w' hSw; obtain ⟨⟨y0, y1, y2, y3, y4⟩, ⟨x0, x1, x2, x3, x4⟩, x5⟩ := hSw; go_simp; (try with_reducible rfl)
        (try simp only [Act.put, List.setIfInBounds_toArray, List.set_cons_zero, List.set_cons_succ])
        refine take_at (i := 19) (v := ?_) rfl (by kernel_rfl) (by kernel_rfl) (by kernel_rfl) (fun _ _ _ h => h) (by rfl) ?_ (by exact hHeld) ?_
        rotate_left
        · intro w' hSw; obtain ⟨⟨y0, y1, y2, y3, y4⟩, ⟨x0, x1, x2, x3, x4⟩, x5⟩ := hSw; go_simp; (try with_reducible rfl)
        (try simp only [Act.put, List.setIfInBounds_toArray, List.set_cons_zero, List.set_cons_succ])
        refine wpAnyH_ready (rs := [16]) (by kernel_rfl) (by simp) ?_
        refine next_at (i := 16) rfl (fun KK hKK => ?_) AllReadyH.nil
        have hcl := frame_ff HBS.out hn8 wF1 b11 (LF1.out.some PGX.out)
        refine step_callg (by kernel_rfl) 7 #[imgV b11, plV 16, .int .i64 1, .int .i64 100] (by go_simp) (fun v w' => v = Value.agg #[.int .i64 45, .int .i64 0, .int .u16 at'] ∧ Low wF1.heap.size wF1 w') (hcl.mono (by rintro e w' ⟨rfl, he⟩; exact ⟨_, rfl, by rw [HAT'.out], he⟩)) ?_
        rintro v wF2 ⟨rfl, l6⟩
        have LF2 := Lib.hid (LF1.out.trans (l6.mono LF1.out.size))
        clear l6 hcl
        refine hKK.out _ _ (by exact (HX.out _ LF2.out)) (fun hHeld => ?_)
        clear hKK KK
        (try simp only [Act.put, List.setIfInBounds_toArray, List.set_cons_zero, List.set_cons_succ])
        refine take_at (i := 20) (v := ?_) rfl (by kernel_rfl) (by kernel_rfl) (by kernel_rfl) (fun _ _ _ h => h) (by rfl) ?_ (by exact hHeld) ?_
        rotate_left
        · intro w' hSw; obtain ⟨⟨y0, y1, y2, y3, y4⟩, ⟨x0, x1, x2, x3, x4⟩, x5⟩ := hSw; go_simp; (try with_reducible rfl)
        (try simp only [Act.put, List.setIfInBounds_toArray, List.set_cons_zero, List.set_cons_succ])
        refine take_at (i := 21) (v := ?_) rfl (by kernel_rfl) (by kernel_rfl) (by kernel_rfl) (fun _ _ _ h => h) (by rfl) ?_ (by exact hHeld) ?_
        rotate_left
        · intro w' hSw; obtain ⟨⟨y0, y1, y2, y3, y4⟩, ⟨x0, x1, x2, x3, x4⟩, x5⟩ := hSw; go_simp; (try with_reducible rfl)
        (try simp only [Act.put, List.setIfInBounds_toArray, List.set_cons_zero, List.set_cons_succ])
        refine take_at (i := 22) (v := ?_) rfl (by kernel_rfl) (by kernel_rfl) (by kernel_rfl) (fun _ _ _ h => h) (by rfl) ?_ (by exact hHeld) ?_
        rotate_left
        · intro w' hSw; obtain ⟨⟨y0, y1, y2, y3, y4⟩, ⟨x0, x1, x2, x3, x4⟩, x5⟩ := hSw; go_simp; (try with_reducible rfl)
        (try simp only [Act.put, List.setIfInBounds_toArray, List.set_cons_zero, List.set_cons_succ])
        refine take_at (i := 23) (v := ?_) rfl (by kernel_rfl) (by kernel_rfl) (by kernel_rfl) (fun _ _ _ h => h) (by rfl) ?_ (by exact hHeld) ?_
        rotate_left
        · intro w' hSw; obtain ⟨⟨y0, y1, y2, y3, y4⟩, ⟨x0, x1, x2, x3, x4⟩, x5⟩ := hSw; go_simp; (try with_reducible rfl)
        (try simp only [Act.put, List.setIfInBounds_toArray, List.set_cons_zero, List.set_cons_succ])
        refine take_at (i := 24) (v := ?_) rfl (by kernel_rfl) (by kernel_rfl) (by kernel_rfl) (fun _ _ _ h => h) (by rfl) ?_ (by exact hHeld) ?_
        rotate_left
        · intro w' hSw; obtain ⟨⟨y0, y1, y2, y3, y4⟩, ⟨x0, x1, x2, x3, x4⟩, x5⟩ := hSw; go_simp; (try with_reducible rfl)
        (try simp only [Act.put, List.setIfInBounds_toArray, List.set_cons_zero, List.set_cons_succ])
        refine wpAnyH_ready (rs := [25]) (by kernel_rfl) (by simp) ?_
        refine next_at (i := 25) rfl (fun KK hKK => ?_) AllReadyH.nil
        have hcl := frame_arg wF2 b9 _ SZ9.out (LF2.out.some PG9.out)
        refine step_callg (by kernel_rfl) 7 #[imgV b9, plV 16, .int .i64 9, .int .i64 100] (by go_simp) (fun v w' => v = Value.agg #[.int .i64 1, .int .i64 0, .int .u16 0] ∧ Low wF2.heap.size wF2 w') (hcl.mono (by rintro e w' ⟨rfl, he⟩; exact ⟨_, rfl, rfl, he⟩)) ?_
        rintro v wF3 ⟨rfl, l6⟩
        have LF3 := Lib.hid (LF2.out.trans (l6.mono LF2.out.size))
        clear l6 hcl
        refine hKK.out _ _ (by exact (HX.out _ LF3.out)) (fun hHeld => ?_)
        clear hKK KK
        (try simp only [Act.put, List.setIfInBounds_toArray, List.set_cons_zero, List.set_cons_succ])
        refine take_at (i := 26) (v := ?_) rfl (by kernel_rfl) (by kernel_rfl) (by kernel_rfl) (fun _ _ _ h => h) (by rfl) ?_ (by exact hHeld) ?_
        rotate_left
        · intro w' hSw; obtain ⟨⟨y0, y1, y2, y3, y4⟩, ⟨x0, x1, x2, x3, x4⟩, x5⟩ := hSw; go_simp; (try with_reducible rfl)
        (try simp only [Act.put, List.setIfInBounds_toArray, List.set_cons_zero, List.set_cons_succ])
        refine take_at (i := 27) (v := ?_) rfl (by kernel_rfl) (by kernel_rfl) (by kernel_rfl) (fun _ _ _ h => h) (by rfl) ?_ (by exact hHeld) ?_
        rotate_left
        · intro w' hSw; obtain ⟨⟨y0, y1, y2, y3, y4⟩, ⟨x0, x1, x2, x3, x4⟩, x5⟩ := hSw; go_simp; (try with_reducible rfl)
        (try simp only [Act.put, List.setIfInBounds_toArray, List.set_cons_zero, List.set_cons_succ])
        refine take_at (i := 28) (v := ?_) rfl (by kernel_rfl) (by kernel_rfl) (by kernel_rfl) (fun _ _ _ h => h) (by rfl) ?_ (by exact hHeld) ?_
        rotate_left
        · intro w' hSw; obtain ⟨⟨y0, y1, y2, y3, y4⟩, ⟨x0, x1, x2, x3, x4⟩, x5⟩ := hSw; go_simp; (try with_reducible rfl)
        (try simp only [Act.put, List.setIfInBounds_toArray, List.set_cons_zero, List.set_cons_succ])
        refine take_at (i := 29) (v := ?_) rfl (by kernel_rfl) (by kernel_rfl) (by kernel_rfl) (fun _ _ _ h => h) (by rfl) ?_ (by exact hHeld) ?_
        rotate_left
        · intro w' hSw; obtain ⟨⟨y0, y1, y2, y3, y4⟩, ⟨x0, x1, x2, x3, x4⟩, x5⟩ := hSw; go_simp; (try with_reducible rfl)
        (try simp only [Act.put, List.setIfInBounds_toArray, List.set_cons_zero, List.set_cons_succ])
        refine wpAnyH_done (by kernel_rfl) ?_ _
        refine NoPanic.normal ?_
        clear hHeld hSd
        repeat (first | go_values | go_skip | go_guarded | go_step | go_upon)
        (try simp only [Exit.inBlock, Exit.then])
        refine bodyPost_ret (by simp [results, Tryz.results3, go_sem]; try rfl) rfl ?_
        exact ⟨rfl, (L2.out.trans (LE.out.mono HS2.out)).trans (LF3.out.mono (by have := LE.out.size; have := HS2.out; omega))⟩
end Go.Proofs.YtjkaoejcdboaiaaGreat
