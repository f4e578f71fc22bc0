/- needed: its notes. -/
import Derived.Test.YtnjdegjpmbdboaaGreatQH
/- join of a graph of one block. -/
namespace Go.Proofs.YtnjdegjpmbdboaaGreat
open Go.RowKit
set_option linter.unusedVariables false
set_option maxRecDepth 100000 in
set_option maxHeartbeats 8000000 in
theorem incoming_any (w : World) (r cr b c : Nat) (T : Option Addr) (hr : w.cell? ⟨r, 0, none⟩ = some (.pointer (some ⟨b, 0, none⟩))) (ht : w.cell? ⟨b, 4, none⟩ = some (.slice T 0 c)) :
    Calls Tryz.prog 52 #[.slice (some ⟨r, 0, none⟩) 1 cr] w (fun e w' => Low w.heap.size w w' ∧ ∃ m, e = .returned (.map (some m)) ∧ Empty w' m) := by
  have hmm : ∀ u : World, (Instr.makeMap 102 none).run Tryz.prog u = .ok (.map (some u.heap.size)) (u.alloc (.map #[] 0)) := fun u => by kernel_rfl
  have hl := (Low.refl _ w).alloc (Nat.le_refl _) (.map #[] 0)
  have he : Empty (w.alloc (.map #[] 0)) w.heap.size := ⟨0, heap_new w _⟩
  have hr' := (World.cell?_alloc_lt w (.map #[] 0) _ (cell_lt hr)).trans hr
  have ht' := (World.cell?_alloc_lt w (.map #[] 0) _ (cell_lt ht)).trans ht
  go_enter Tryz.func52, Tryz.ntmps52
  go_upto_region 2 with fail
  clear hmm hr ht
  obtain ⟨m, hm⟩ : ∃ m, w.heap.size = m := ⟨_, rfl⟩
  rw [hm] at he ⊢
  generalize w.alloc (.map #[] 0) = w1 at hl he hr' ht' ⊢
  go_wp2_with fail
  go_loopw [11] (fun i wr => (i = .int .i64 0 ∨ i = .int .i64 1) ∧ wr = w1) (fun i _ => 1 - (intOf i).toNat)
  case atStart => exact ⟨.inl rfl, rfl⟩
  case round =>
    obtain ⟨rfl | rfl, rfl⟩ := hrel
    · go_wp2_with fail
      obtain ⟨w1, rfl⟩ : ∃ u, u = wr := ⟨_, rfl⟩
      go_loopw [20] (fun i wr => i = .int .i64 0 ∧ wr = w1) (fun _ _ => 0)
      case atStart => exact ⟨rfl, rfl⟩
      case round =>
        obtain ⟨rfl, rfl⟩ := hrel
        go_wp2_with fail
        exact ⟨by simp, by decide⟩
    · go_wp2_with fail
      go_ret
      exact ⟨hl, m, rfl, he⟩
set_option maxRecDepth 100000 in
set_option maxHeartbeats 8000000 in
theorem join_any (w : World) (gr bk al df nm ob cm om : Nat) (next : Int) (Pp : Option Addr) (pc : Nat) (A : Option Addr) (n c : Nat) (T : Option Addr) (tc : Nat) (l : List Opn) (h : Gr w gr bk al df nm ob cm om next Pp pc A n c T tc l) :
    Calls Tryz.prog 18 #[.pointer (some ⟨gr, 0, none⟩)] w (fun e w' => e = .returned (.bool false) ∧ Low w.heap.size w w') := by
  have hbl := blocks_any w gr bk tc T (cell_of h.g) (cell_of h.b)
  have H := Lib.hid h
  clear h
  go_enter Tryz.func18, Tryz.ntmps18
  go_upto_region 2 with (first
    | (go_at_call 38; refine hbl.mono ?_; rintro e w1 ⟨l1, r, cr, rfl, x1, hr1, hcr⟩; have G1 := Lib.hid (H.out.low l1); have hin := incoming_any w1 r cr bk tc T x1 (cell_of G1.out.b)))
  go_wp2_with (first
    | (go_at_call 52; refine hin.mono ?_; rintro e w2 ⟨l2, m, rfl, e2⟩; have b2 : w2.cell? ⟨bk, 2, none⟩ = some (.int .i64 4) := cell_of (l2.some G1.out.b); have x2 := (World.cell?_of_block (a := ⟨r, 0, none⟩) (l2.block r (cell_lt x1))).trans x1; have L2 := Lib.hid (l1.trans (l2.mono l1.size))))
  go_loopw [16] (fun i wr => (i = .int .i64 0 ∨ i = .int .i64 1) ∧ wr = w2) (fun i _ => 1 - (intOf i).toNat)
  case atStart => exact ⟨.inl rfl, rfl⟩
  case round =>
    obtain ⟨rfl | rfl, rfl⟩ := hrel
    · go_wp2_with fail
      exact ⟨by simp, by decide⟩
    · go_wp2_with fail
      go_ret
      exact ⟨rfl, L2.out⟩
end Go.Proofs.YtnjdegjpmbdboaaGreat
/- pure: the statement's operation INeg alone. -/
namespace Go.Proofs.YtnjdegjpmbdboaaGreat
open Go.RowKit
set_option linter.unusedVariables false
theorem okcode_cases {c : Int} (h : OkCode c) : c = 3 ∨ c = 8 ∨ 17 < c := by
  simp only [OkCode, List.mem_cons, List.not_mem_nil, or_false] at h
  omega
set_option maxRecDepth 100000 in
set_option maxHeartbeats 8000000 in
theorem Pure_any (w : World) (o : Opn) (ho : OkCode o.code) : Calls Tryz.prog 90 #[.agg #[.int .i64 o.code, .int .i64 o.res, .int .i64 0, .int .i64 0, .int .u16 o.n, .slice none 0 0]] w (fun e w' => e = .returned (.bool (o.code == 3)) ∧ Low w.heap.size w w') := by
  have hl : Low w.heap.size w (w.alloc (.cells #[.int .i64 o.code, .int .i64 o.res, .int .i64 0, .int .i64 0, .int .u16 o.n, .slice none 0 0] 33)) := (Low.refl _ w).alloc (Nat.le_refl _) _
  have hb := heap_new w (.cells #[.int .i64 o.code, .int .i64 o.res, .int .i64 0, .int .i64 0, .int .u16 o.n, .slice none 0 0] 33)
  obtain ⟨c, res, n⟩ := o
  simp only at hl hb ho ⊢
  rcases okcode_cases ho with rfl | rfl | h17
  · go_enter Tryz.func90, Tryz.ntmps90
    go_wp2_with fail
    go_ret
    exact ⟨rfl, hl⟩
  · go_enter Tryz.func90, Tryz.ntmps90
    go_wp2_with fail
    go_ret
    exact ⟨rfl, hl⟩
  · have hd : (c == 3) = false := by simp; omega
    have h1 : (1 : Int) ≤ c := by omega
    have h2 : ¬ c ≤ 17 := by omega
    have d1 : decide ((1 : Int) ≤ c) = true := by simp; omega
    have d2 : decide (c ≤ 17) = false := by simp; omega
    rw [hd]
    clear hd ho
    go_enter Tryz.func90, Tryz.ntmps90
    go_wp2_with fail
    go_ret
    exact ⟨by simp, hl⟩
set_option maxRecDepth 100000 in
set_option maxHeartbeats 8000000 in
theorem pure_any (w : World) (gr nm : Nat) (o : Opn) (hg : w.cell? ⟨gr, 4, none⟩ = some (.map (some nm))) (he : Empty w nm) (ho : OkCode o.code) : Calls Tryz.prog 58 #[.pointer (some ⟨gr, 0, none⟩), .agg #[.int .i64 o.code, .int .i64 o.res, .int .i64 0, .int .i64 0, .int .u16 o.n, .slice none 0 0]] w (fun e w' => e = .returned (.bool (o.code == 3)) ∧ Low w.heap.size w w') := by
  have hl : Low w.heap.size w (w.alloc (.cells #[.int .i64 o.code, .int .i64 o.res, .int .i64 0, .int .i64 0, .int .u16 o.n, .slice none 0 0] 33)) := (Low.refl _ w).alloc (Nat.le_refl _) _
  have hb := heap_new w (.cells #[.int .i64 o.code, .int .i64 o.res, .int .i64 0, .int .i64 0, .int .u16 o.n, .slice none 0 0] 33)
  have hg' := (World.cell?_alloc_lt w (.cells #[.int .i64 o.code, .int .i64 o.res, .int .i64 0, .int .i64 0, .int .u16 o.n, .slice none 0 0] 33) _ (cell_lt hg)).trans hg
  have he' := he.low hl
  have hP := fun u => Pure_any u o ho
  obtain ⟨p, hp⟩ : ∃ p, (o.code == 3) = p := ⟨_, rfl⟩
  simp only [hp] at hP ⊢
  clear hp
  go_enter Tryz.func58, Tryz.ntmps58
  go_upto_region 1 with fail
  clear hg he
  obtain ⟨S, hS⟩ : ∃ S, w.heap.size = S := ⟨_, rfl⟩
  rw [hS] at hb ⊢
  generalize w.alloc (.cells #[.int .i64 o.code, .int .i64 o.res, .int .i64 0, .int .i64 0, .int .u16 o.n, .slice none 0 0] 33) = w1 at hl hb hg' he' ⊢
  have x0 : w1.cell? ⟨S, 0, none⟩ = some (.int .i64 o.code) := cell_of hb
  have x1 : w1.cell? ⟨S, 1, none⟩ = some (.int .i64 o.res) := cell_of hb
  have x2 : w1.cell? ⟨S, 2, none⟩ = some (.int .i64 0) := cell_of hb
  have x3 : w1.cell? ⟨S, 3, none⟩ = some (.int .i64 0) := cell_of hb
  have x4 : w1.cell? ⟨S, 4, none⟩ = some (.int .u16 o.n) := cell_of hb
  have x5 : w1.cell? ⟨S, 5, none⟩ = some (.slice none 0 0) := cell_of hb
  have hq : ∀ m, (Instr.lookup 68 (.map (some nm)) (.int .i64 0) true).run Tryz.prog (w1.drewN m) = .ok (.tuple #[.int .u16 0, .bool false]) (w1.drewN m) := fun m => num_none (he'.low ((Low.refl _ w1).drewN m)) _
  have HB := Lib.hid hb; have HL := Lib.hid hl
  clear hb hl he'
  go_quiet (fail)
  clear hq
  have hfin : ∀ u v, Low w1.heap.size (w1.drewN u) v → Low w1.heap.size w1 v := fun u v h => ((Low.refl _ w1).drewN u).trans h
  cases p
  · go_wp2_with (first
      | (go_at_call 90; refine (hP _).mono ?_; rintro e w5 ⟨rfl, l5⟩; have l6 := Lib.hid (hfin _ _ l5); have b5 := l6.out.some HB.out; have y0 : w5.cell? ⟨S, 0, none⟩ = some (.int .i64 o.code) := cell_of b5; clear l5 b5 x0 x1 x2 x3 x4 x5 hfin))
    all_goals (go_ret; exact ⟨rfl, HL.out.trans (l6.out.mono HL.out.size)⟩)
  · go_wp2_with (first
      | (go_at_call 90; refine (hP _).mono ?_; rintro e w5 ⟨rfl, l5⟩; have l6 := Lib.hid (hfin _ _ l5); have b5 := l6.out.some HB.out; have y0 : w5.cell? ⟨S, 0, none⟩ = some (.int .i64 o.code) := cell_of b5; clear l5 b5 x0 x1 x2 x3 x4 x5 hfin))
    all_goals (go_ret; exact ⟨rfl, HL.out.trans (l6.out.mono HL.out.size)⟩)
end Go.Proofs.YtnjdegjpmbdboaaGreat
namespace Go.Proofs.YtnjdegjpmbdboaaGreat
open Go.RowKit
set_option linter.unusedVariables false
theorem ap22 : Ap Tryz.prog 22 3 1 8 := ⟨Tryz.underlying22, by
  obtain ⟨ti, hti, hz, hs, hb⟩ := info_of (show (Tryz.prog.info? 3).map (fun i => (i.zero, i.size, i.bytes)) = some (some (.int .i64 0), 1, 8) by kernel_rfl)
  exact ⟨ti, _, hti, hz, hs, hb, rfl⟩, by decide, by decide⟩
/-- What is needed: nothing, or value 0; what is still to be looked at: nothing, or a row that holds 0, in a good block. -/
structure NA (nb z5 z6 : Nat) (good : Nat → Prop) (w : World) : Prop where
  c5 : w.heap[z5]? = some (.cells #[.map (some nb)] 94 (0, 0))
  st : (IMap w nb [] ∧ w.heap[z6]? = some (.cells #[.slice none 0 0] 22 (0, 0))) ∨ (IMap w nb [(0, .bool true)] ∧ ∃ g c cs, good g ∧ 1 ≤ c ∧ w.heap[z6]? = some (.cells #[.slice (some ⟨g, 0, none⟩) 1 c] 22 (0, 0)) ∧ w.heap[g]? = some (.cells cs 3 (0, 0)) ∧ cs[0]? = some (.int .i64 0))
theorem IMap.keep {w w' : World} {g : Nat} {m : List (Int × Value)} (h : IMap w g m) (hk : w'.heap[g]? = w.heap[g]?) : IMap w' g m := by
  obtain ⟨es, cl, hg, he⟩ := h
  exact ⟨es, cl, hk.trans hg, he⟩
theorem IMap.lt {w : World} {g : Nat} {m : List (Int × Value)} (h : IMap w g m) : g < w.heap.size := by
  obtain ⟨es, cl, hg, he⟩ := h
  exact heap_lt hg
theorem NA.keep {nb z5 z6 : Nat} {good : Nat → Prop} {w w' : World} (h : NA nb z5 z6 good w) (hk : ∀ b, (b = nb ∨ b = z5 ∨ b = z6 ∨ (good b ∧ b < w.heap.size)) → w'.heap[b]? = w.heap[b]?) : NA nb z5 z6 good w' := by
  refine ⟨(hk _ (.inr (.inl rfl))).trans h.c5, ?_⟩
  rcases h.st with ⟨h1, h2⟩ | ⟨h1, g, c, cs, h2, h3, h4, h5, h6⟩
  · exact .inl ⟨h1.keep (hk _ (.inl rfl)), (hk _ (.inr (.inr (.inl rfl)))).trans h2⟩
  · exact .inr ⟨h1.keep (hk _ (.inl rfl)), g, c, cs, h2, h3, (hk _ (.inr (.inr (.inl rfl)))).trans h4, (hk _ (.inr (.inr (.inr ⟨h2, heap_lt h5⟩)))).trans h5, h6⟩
theorem NA.more {nb z5 z6 : Nat} {good good' : Nat → Prop} {w : World} (h : NA nb z5 z6 good w) (hk : ∀ b, b < w.heap.size → good b → good' b) : NA nb z5 z6 good' w := by
  refine ⟨h.c5, ?_⟩
  rcases h.st with h1 | ⟨h1, g, c, cs, h2, h3, h4, h5, h6⟩
  · exact .inl h1
  · exact .inr ⟨h1, g, c, cs, hk g (heap_lt h5) h2, h3, h4, h5, h6⟩
theorem need_get {w : World} {g : Nat} {m : List (Int × Value)} (h : IMap w g m) (k : Int) : (Instr.lookup 94 (.map (some g)) (.int .i64 k) false).run Tryz.prog w = .ok ((getI m k).getD (.bool false)) w :=
  lookup_i (P := Tryz.prog) (t := 94) Tryz.underlying94 Tryz.underlying3 h (k := k) (z := .bool false) (by kernel_rfl) false
set_option maxRecDepth 100000 in
set_option maxHeartbeats 8000000 in
theorem need_note (nb z5 z6 : Nat) (good : Nat → Prop) (w : World) (h : NA nb z5 z6 good w) (hne : nb ≠ z5 ∧ nb ≠ z6 ∧ z5 ≠ z6) (hgood : ∀ g, w.heap.size ≤ g → good g) : Calls Tryz.prog 87 #[.int .i64 0, .pointer (some ⟨z5, 0, none⟩), .pointer (some ⟨z6, 0, none⟩)] w (fun e w' => e = .returned (.int .i64 0) ∧ Chs [nb, z6] w w' ∧ NA nb z5 z6 good w') := by
  have c5 : w.cell? ⟨z5, 0, none⟩ = some (.map (some nb)) := cell_of h.c5
  obtain ⟨n1, n2, n3⟩ := hne
  have H5 := h.c5
  rcases h.st with ⟨h1, h2⟩ | ⟨h1, h2⟩
  · have hl := need_get h1 0
    have hl' : (Instr.lookup 94 (.map (some nb)) (.int .i64 0) false).run Tryz.prog w = .ok (.bool false) w := hl
    have hlt := h1.lt
    obtain ⟨es, cl, hu, he⟩ := update_i (P := Tryz.prog) (t := 94) Tryz.underlying94 Tryz.underlying3 h1 (k := 0) (.bool true)
    have mA : IMap (Go.ChangeMaps.setBlock w nb (.map es cl)) nb [(0, .bool true)] := ⟨es, cl, setBlock_at _ hlt, he⟩
    have hA6 : (Go.ChangeMaps.setBlock w nb (.map es cl)).heap[z6]? = _ := (setBlock_other (.map es cl) (Ne.symm n2)).trans h2
    have hA5 : (Go.ChangeMaps.setBlock w nb (.map es cl)).heap[z5]? = _ := (setBlock_other (.map es cl) (Ne.symm n1)).trans H5
    have hcA : Chs [nb, z6] w (Go.ChangeMaps.setBlock w nb (.map es cl)) := Chs.setBlock _ (by simp) _
    clear hl h1 h2 h H5 he hlt
    go_enter Tryz.func87, Tryz.ntmps87
    go_upto_region 3 with fail
    clear hl' hu c5
    generalize Go.ChangeMaps.setBlock w nb (.map es cl) = wA at mA hA6 hA5 hcA ⊢
    have x6 : wA.cell? ⟨z6, 0, none⟩ = some (.slice none 0 0) := cell_of hA6
    have MA := Lib.hid mA; have A6 := Lib.hid hA6; have A5 := Lib.hid hA5; have CA := Lib.hid hcA
    clear mA hA6 hA5 hcA
    go_upto_region 4 with (first
      | (at_builtin; refine wpList_app1 (w := wA.alloc (.cells #[.int .i64 0] 3)) (P := Tryz.prog) (base := wA.heap.size) (n := 0) (m := 1) (xs := []) ap22 rfl (.tmp 11) (.tmp 13) rfl rfl (show Own _ wA.heap.size 3 1 (Value.slice none 0 0) 0 [] from Own.nil _ _ _ _) rfl (heap_new wA _) rfl (by simp [Value.oneCell']) (by omega) (by simp) ?_; intro v9 w9 happ0; have happ : App1 (wA.alloc (.cells #[.int .i64 0] 3)) w9 wA.heap.size 3 1 (.slice none 0 0) v9 0 [] 1 [.int .i64 0] := happ0; clear happ0; obtain ⟨g, cr, cs, rfl, hSr, hr, hcr, hown⟩ := happ.row (k := 1) rfl (by decide); have l9 : Low wA.heap.size wA w9 := ((Low.refl wA.heap.size wA).alloc (Nat.le_refl _) _).trans (happ.low (Own.nil _ _ _ _) (Nat.le_refl _) (by simp)); have o9 := l9.some A6.out; have f9 : w9.frozen? ⟨z6, 0, none⟩ = false := free_of o9; have k9 := Lib.hid (show cs[0]? = some (.int .i64 0) from (cell_of hr).symm.trans (hown.cell (j := 0) (u := .int .i64 0) rfl)); have R9 := Lib.hid hr; have L9 := Lib.hid l9; have O9 := Lib.hid o9; have x9 : w9.cell? ⟨z6, 0, none⟩ = some (.slice none 0 0) := cell_of o9; clear happ hown hr l9 o9))
    have hsz := CA.out.size
    have hcF : Chs [nb, z6] w (w9.setCell ⟨z6, 0, none⟩ (.slice (some ⟨g, 0, none⟩) 1 cr)) := (CA.out.trans (Chs.of_low L9.out)).trans (Chs.setCell _ (by simp) _)
    have hgz : g ≠ z6 := by
      rintro rfl
      have := R9.out
      rw [O9.out] at this; cases this
    have hN : NA nb z5 z6 good (w9.setCell ⟨z6, 0, none⟩ (.slice (some ⟨g, 0, none⟩) 1 cr)) := ⟨(set_other n3).trans (L9.out.some A5.out), .inr ⟨MA.out.keep ((set_other n2).trans (L9.out.block nb MA.out.lt)), g, cr, cs, hgood g (by omega), hcr, set_blk O9.out, (set_other hgz).trans R9.out, k9.out⟩⟩
    clear x9 f9 x6
    go_wp2_with fail
    go_ret
    exact ⟨rfl, hcF, hN⟩
  · have hl := need_get h1 0
    have hl' : (Instr.lookup 94 (.map (some nb)) (.int .i64 0) false).run Tryz.prog w = .ok (.bool true) w := hl
    clear hl
    go_enter Tryz.func87, Tryz.ntmps87
    go_wp2_with fail
    go_ret
    exact ⟨rfl, Chs.refl _ _, h⟩
theorem enters87 : ∀ (args : Array Value) (w : World), (callFunc 87 args).run Tryz.prog w = .ok (.enter 87 args) w := enters_body Tryz.func87 (by kernel_rfl) rfl
theorem enters88 : ∀ (args : Array Value) (w : World), (callFunc 88 args).run Tryz.prog w = .ok (.enter 88 args) w := enters_body Tryz.func88 (by kernel_rfl) rfl
theorem need_keeps (nb z5 z6 N : Nat) (wa : World) (hne : nb ≠ z5 ∧ nb ≠ z6 ∧ z5 ≠ z6) (hn : nb < wa.heap.size) (h6 : z6 < wa.heap.size) :
    KeepsN wa.heap.size N (fun _ wx => Chs [nb, z6] wa wx ∧ NA nb z5 z6 (fun g => g < wa.heap.size ∨ wa.heap.size + 2 ≤ g) wx) 87 #[] #[.pointer (some ⟨z5, 0, none⟩), .pointer (some ⟨z6, 0, none⟩)] := fun c w1 _ h1 hs => by
  refine (need_note nb z5 z6 _ w1 h1.2 hne (fun g hg => .inr (by omega))).mono ?_
  rintro e w2 ⟨rfl, hc, hn2⟩
  exact ⟨rfl, ⟨h1.1.trans hc, hn2⟩, hc.size, fun g hg hg2 => hc.block g hg2 (by simp; omega)⟩
theorem need_inv (nb z5 z6 : Nat) (wa : World) (hn : nb < wa.heap.size) (h5 : z5 < wa.heap.size) (h6 : z6 < wa.heap.size) : Inv2 wa.heap.size (fun wx => Chs [nb, z6] wa wx ∧ NA nb z5 z6 (fun g => g < wa.heap.size ∨ wa.heap.size + 2 ≤ g) wx) := by
  refine ⟨fun w o h => ?_, fun w g i v h1 h2 h => ?_⟩
  · have hl : Low wa.heap.size w (w.alloc o) := (Low.refl _ w).alloc h.1.size o
    have hs := h.1.size
    refine ⟨h.1.tail hl, h.2.keep fun b hb => Below.heap_alloc _ _ _ ?_⟩
    rcases hb with rfl | rfl | rfl | ⟨_, hb⟩
    · omega
    · omega
    · omega
    · exact hb
  · have hl : Low wa.heap.size w (w.setCell ⟨g, i, none⟩ v) := (Low.refl _ w).setCell h1 v
    refine ⟨h.1.tail hl, h.2.keep fun b hb => set_other ?_⟩
    rcases hb with rfl | rfl | rfl | ⟨hb, _⟩
    · omega
    · omega
    · omega
    · omega
end Go.Proofs.YtnjdegjpmbdboaaGreat
