/- sweep of a graph of one block: the operations INeg are struck. -/
import Derived.Test.YtnjdegjpmbdboaaGreatQP
import Derived.LaidEql
namespace Go.Proofs.YtnjdegjpmbdboaaGreat
open Go.RowKit
set_option linter.unusedVariables false
theorem kept_mem {l : List Opn} {o : Opn} (h : o ∈ kept l) : o ∈ l := (List.mem_filter.1 h).1
theorem kept_inc {l : List Opn} (h : Inc l) : Inc (kept l) := h.sublist List.filter_sublist
theorem kept_le (l : List Opn) : (kept l).length ≤ l.length := List.length_filter_le _ _
theorem kept_code {l : List Opn} {o : Opn} (h : o ∈ kept l) : o.code ≠ 3 := by
  have := (List.mem_filter.1 h).2
  simpa using this
theorem strikes_of {w w' : World} {z1 z4 z5 nb : Nat} {m : List (Int × Value)} {gr bk al df nm ob cm om : Nat} {next : Int} {Pp : Option Addr} {pc : Nat} {A : Option Addr} {n c : Nat} {T : Option Addr} {tc : Nat} {l : List Opn} (h1 : w.heap[z1]? = some (.cells #[.pointer (some ⟨gr, 0, none⟩)] 47 (0, 0))) (h5 : w.heap[z5]? = some (.cells #[.func (.func 54) #[] #[.pointer (some ⟨z4, 0, none⟩)]] 97 (0, 0)))
    (h4 : w.heap[z4]? = some (.cells #[.map (some nb)] 94 (0, 0))) (hm : IMap w nb m) (h0 : ∀ p ∈ m, p.1 = 0) (h : Gr w gr bk al df nm ob cm om next Pp pc A n c T tc l) (hl : Low w.heap.size w w') : Strikes w.heap.size w' #[.pointer (some ⟨z1, 0, none⟩), .pointer (some ⟨z5, 0, none⟩)] l := by
  intro wx hx o ho
  have lx := hl.trans hx
  exact strike_any wx gr nm z1 z4 z5 nb m o (lx.some h1) (lx.some h5) (lx.some h4) (hm.low lx) h0 (cell_of (lx.some h.g)) (h.nm_.low lx) (h.ok o ho)
theorem neq_same (bk : Nat) (u : World) : (binOp .neq 72 (.pointer (some ⟨bk, 0, none⟩)) (.pointer (some ⟨bk, 0, none⟩))).run Tryz.prog u = .ok (.bool false) u := by
  have h78 : ∀ u, (sizeOf 78).run Tryz.prog u = .ok 5 u := fun u => by kernel_rfl
  have h : ∀ d : Nat, (Op.equalIn (d + 1) 72 (.pointer (some ⟨bk, 0, none⟩)) (.pointer (some ⟨bk, 0, none⟩))).run Tryz.prog u = .ok true u := fun d => by
    simp [Op.equalIn, run_underlying Tryz.underlying72, h78, run_sameAddr_same]
  simp only [binOp]
  simp [Op.equal, Op.maxDepth, h 9999]
set_option maxRecDepth 100000 in
set_option maxHeartbeats 8000000 in
theorem sweep_any (w : World) (gr bk al df nm ob cm om : Nat) (next : Int) (Pp : Option Addr) (pc : Nat) (A : Option Addr) (n c : Nat) (T : Option Addr) (tc : Nat) (l : List Opn) (h : Gr w gr bk al df nm ob cm om next Pp pc A n c T tc l) :
    Calls Tryz.prog 19 #[.pointer (some ⟨gr, 0, none⟩)] w (fun e w' => ∃ A' n' c', e = .returned (.bool (decide (n' < n))) ∧ Chs [bk] w w' ∧ Gr w' gr bk al df nm ob cm om next Pp pc A' n' c' T tc (kept l)) := by
  have hmf : ∀ (fn : Fn) (first cap : Array Value) (w : World), (Instr.makeFunc fn first cap).run Tryz.prog w = .ok (.func fn first cap) w := fun _ _ _ _ => rfl
  have l1 : Low w.heap.size w (w.alloc (.cells #[.pointer (some ⟨gr, 0, none⟩)] 47)) := (Low.refl _ _).alloc (Nat.le_refl _) _
  have a1 := heap_new w (.cells #[.pointer (some ⟨gr, 0, none⟩)] 47)
  have G1 := h.low l1
  have hn12 : n ≤ 12 := h.small
  have hbw := heap_lt h.b
  clear h
  go_enter Tryz.func19, Tryz.ntmps19
  go_upto_region 1 with fail
  obtain ⟨z1, hz1⟩ : ∃ z1, z1 = w.heap.size := ⟨_, rfl⟩
  have HZ1 := Lib.hid hz1
  rw [← hz1] at a1 ⊢
  clear hz1
  generalize w.alloc (.cells #[.pointer (some ⟨gr, 0, none⟩)] 47) = w1 at l1 a1 G1 ⊢
  have hbl := blocks_any w1 gr bk tc T (cell_of G1.g) (cell_of G1.b)
  have y1 : w1.cell? ⟨z1, 0, none⟩ = some (.pointer (some ⟨gr, 0, none⟩)) := cell_of a1
  have GG1 := Lib.hid G1; have LL1 := Lib.hid l1; have A1 := Lib.hid a1
  clear G1 l1 a1
  go_upto_region 2 with (first
    | (go_at_call 38; refine hbl.mono ?_; rintro e w2 ⟨l2, r, cr, rfl, x2, hr2, hcr⟩))
  have G2 := Lib.hid (GG1.out.low l2); have L2 := Lib.hid (LL1.out.trans (l2.mono LL1.out.size)); have A2 := Lib.hid (l2.some A1.out)
  have hnd := needed_any w2 gr bk al df nm ob cm om next Pp pc A n c T tc l G2.out r cr x2 hcr
  have y2 : w2.cell? ⟨z1, 0, none⟩ = some (.pointer (some ⟨gr, 0, none⟩)) := cell_of A2.out
  have hr2s := cell_lt x2
  clear l2 y1 hbl GG1 LL1 A1
  go_upto_region 3 with (first
    | (go_at_call 53; with_reducible refine hnd.mono ?_; rintro e w3 ⟨l3, nb, m, rfl, m3, h0⟩))
  have l4 : Low w3.heap.size w3 (w3.alloc (.cells #[.map (some nb)] 94)) := (Low.refl _ _).alloc (Nat.le_refl _) _
  have l34 := l3.trans (l4.mono l3.size)
  have G4 := Lib.hid (G2.out.low l34); have L4 := Lib.hid (L2.out.trans (l34.mono L2.out.size)); have A4 := Lib.hid (l34.some A2.out)
  have x4 : (w3.alloc (.cells #[.map (some nb)] 94)).cell? ⟨r, 0, none⟩ = some (.pointer (some ⟨bk, 0, none⟩)) := (World.cell?_of_block (a := ⟨r, 0, none⟩) (l34.block r hr2s)).trans x2
  have M4 := Lib.hid (m3.low l4); have H0 := Lib.hid h0
  have N4 := Lib.hid (heap_new w3 (.cells #[.map (some nb)] 94))
  clear l3 l4 l34 m3 h0 x2 hnd y2
  generalize w3.heap.size = z4 at N4 ⊢
  generalize w3.alloc (.cells #[.map (some nb)] 94) = w4 at G4 L4 A4 x4 M4 N4 ⊢
  go_upto_region 4 with fail
  have l5 : Low w4.heap.size w4 (w4.alloc (.cells #[.func (.func 54) #[] #[.pointer (some ⟨z4, 0, none⟩)]] 97)) := (Low.refl _ _).alloc (Nat.le_refl _) _
  have G5 := Lib.hid (G4.out.low l5); have L5 := Lib.hid (L4.out.trans (l5.mono L4.out.size)); have A5 := Lib.hid (l5.some A4.out); have M5 := Lib.hid (M4.out.low l5); have N5 := Lib.hid (l5.some N4.out)
  have F5 := Lib.hid (heap_new w4 (.cells #[.func (.func 54) #[] #[.pointer (some ⟨z4, 0, none⟩)]] 97))
  have x5 : (w4.alloc (.cells #[.func (.func 54) #[] #[.pointer (some ⟨z4, 0, none⟩)]] 97)).cell? ⟨r, 0, none⟩ = some (.pointer (some ⟨bk, 0, none⟩)) := (World.cell?_of_block (a := ⟨r, 0, none⟩) (l5.block r (cell_lt x4))).trans x4
  clear l5 x4 G4 L4 A4 M4 N4
  generalize w4.heap.size = z5 at F5 ⊢
  generalize w4.alloc (.cells #[.func (.func 54) #[] #[.pointer (some ⟨z4, 0, none⟩)]] 97) = w5 at G5 L5 A5 x5 M5 N5 F5 ⊢
  have b5 : w5.cell? ⟨bk, 4, none⟩ = some (.slice T 0 tc) := cell_of G5.out.b
  go_wp2_with fail
  go_loopw [25] (fun i wr => (i = .int .i64 0 ∨ i = .int .i64 1) ∧ wr = w5) (fun i _ => 1 - (intOf i).toNat)
  case atStart => exact ⟨.inl rfl, rfl⟩
  case round =>
    obtain ⟨rfl | rfl, rfl⟩ := hrel
    · go_wp2_with fail
      obtain ⟨w5, rfl⟩ : ∃ u, u = wr := ⟨_, rfl⟩
      go_loopw [34] (fun i wr => i = .int .i64 0 ∧ wr = w5) (fun _ _ => 0)
      case atStart => exact ⟨rfl, rfl⟩
      case round =>
        obtain ⟨rfl, rfl⟩ := hrel
        go_wp2_with fail
        exact ⟨by simp, by decide⟩
    · obtain ⟨w5, rfl⟩ : ∃ u, u = wr := ⟨_, rfl⟩
      go_wp2_with fail
      go_loopw [59, 6] (fun i ch wr => (i = .int .i64 0 ∧ ch = .bool false ∧ wr = w5) ∨ (i = .int .i64 1 ∧ ∃ A' n' c', ch = .bool (decide (n' < n)) ∧ Chs [bk] w wr ∧ Gr wr gr bk al df nm ob cm om next Pp pc A' n' c' T tc (kept l))) (fun i _ _ => 1 - (intOf i).toNat)
      case atStart => exact .inl ⟨rfl, rfl, rfl⟩
      case round =>
        rcases hrel with ⟨rfl, rfl, rfl⟩ | ⟨rfl, A', n', c', rfl, hc, hG⟩
        · obtain ⟨w5, rfl⟩ : ∃ u, u = wr := ⟨_, rfl⟩
          have p5 : w5.cell? ⟨bk, 0, none⟩ = some (.slice Pp 1 pc) := cell_of G5.out.b
          have q5 : w5.cell? ⟨bk, 1, none⟩ = some (.slice A n c) := cell_of G5.out.b
          have e5 : w5.cell? ⟨gr, 0, none⟩ = some (.pointer (some ⟨bk, 0, none⟩)) := cell_of G5.out.g
          have y5 : w5.cell? ⟨z1, 0, none⟩ = some (.pointer (some ⟨gr, 0, none⟩)) := cell_of A5.out
          have hnq := neq_same bk
          have hcl := clone_any w5 A n c l G5.out.ops hn12
          have hn0 : n ≤ 12 := hn12
          go_upto_region 22 with fail
          clear p5 e5 y5 b5
          go_upto_region 23 with (first
            | (go_at_call 27; with_reducible refine hcl.mono ?_; rintro e w6 ⟨l6, A', c', rfl, o6, hA6⟩; have hst : Strikes w5.heap.size w6 #[.pointer (some ⟨z1, 0, none⟩), .pointer (some ⟨z5, 0, none⟩)] l := strikes_of A5.out F5.out N5.out M5.out H0.out G5.out l6; have hdl := delete_any w5.heap.size w6 A' n c' l #[.pointer (some ⟨z1, 0, none⟩), .pointer (some ⟨z5, 0, none⟩)] o6 hn12 hst l6.size hA6; have L6 := Lib.hid l6; clear l6 o6 hA6 hst)
            | (go_at_call 56; with_reducible refine hdl.mono ?_; rintro e w7 ⟨l7, n', rfl, o7⟩; have l57 := L6.out.trans l7; have G7 := Lib.hid (G5.out.low l57); have O7 := Lib.hid o7; have L7 := Lib.hid (Chs.of_low (B := [bk]) (w := w) (L5.out.trans (l57.mono L5.out.size))); have f7 : w7.frozen? ⟨bk, 1, none⟩ = false := free_of G7.out.b; have r7 : w7.cell? ⟨bk, 1, none⟩ = some (.slice A n c) := cell_of G7.out.b; clear hdl l7 o7 l57))
          have hlenO := O7.out.1
          have hn' : n' ≤ 12 := by have := kept_le l; have := G7.out.ops.1; omega
          have G8 := G7.out.setOps O7.out (fun o ho => G7.out.ok o (kept_mem ho)) hn' (kept_inc G7.out.inc)
          have L8 := L7.out.trans (Chs.setCell (B := [bk]) (d := bk) (i := 1) w7 (by simp) (.slice A' n' c'))
          generalize w7.setCell ⟨bk, 1, none⟩ (.slice A' n' c') = w8 at G8 L8 ⊢
          have GG8 := Lib.hid G8; have LL8 := Lib.hid L8
          have r8 : w8.cell? ⟨bk, 1, none⟩ = some (.slice A' n' c') := cell_of G8.b
          clear G8 L8 G7 L7 O7 r7 f7 q5 L6
          have hn0' : n' ≤ 12 := hn'
          go_wp2_with fail
          go_loopw [127, 6] (fun i ch wx => ∃ q : Nat, i = .int .i64 q ∧ q ≤ n' ∧ ch = .bool (decide (n' < n)) ∧ Low w8.heap.size w8 wx) (fun i _ _ => n' - (intOf i).toNat)
          case atStart => exact ⟨0, rfl, by omega, by simp, Low.refl _ _⟩
          case round =>
            obtain ⟨wv, rfl⟩ : ∃ u, u = wr := ⟨_, rfl⟩
            obtain ⟨q, rfl, hq, rfl, hL⟩ := hrel
            have gv := GG8.out.low hL
            have HL := Lib.hid hL
            clear hL r8
            by_cases hlt : q < n'
            · have hlt' : (q : Int) < (n' : Int) := by omega
              have hq0 : (0 : Int) ≤ (q : Int) := by omega
              have hqn : (q : Int) ≤ 12 := by omega
              obtain ⟨o, ho⟩ : ∃ o, (kept l)[q]? = some o := ⟨_, List.getElem?_eq_getElem (by have := gv.ops.1; omega)⟩
              obtain ⟨g, cs, rfl, hnc, hg, k0, k1, k2, k3, k4, k5⟩ := gv.ops.2 q o ho
              have c0 : wv.cell? ⟨g, q * 6, none⟩ = some (.int .i64 o.code) := (cell_of hg).trans k0
              have c1 : wv.cell? ⟨g, q * 6 + 1, none⟩ = some (.int .i64 o.res) := (cell_of hg).trans k1
              have c2 : wv.cell? ⟨g, q * 6 + 2, none⟩ = some (.int .i64 0) := (cell_of hg).trans k2
              have c3 : wv.cell? ⟨g, q * 6 + 3, none⟩ = some (.int .i64 0) := (cell_of hg).trans k3
              have c4 : wv.cell? ⟨g, q * 6 + 4, none⟩ = some (.int .u16 o.n) := (cell_of hg).trans k4
              have c5 : wv.cell? ⟨g, q * 6 + 5, none⟩ = some (.slice none 0 0) := (cell_of hg).trans k5
              have hok := gv.ok o (List.mem_of_getElem? ho)
              have hcode : o.code = 26 → o.res = -1 := fun h26 => hok.2.2.2 (by rw [h26]; rfl)
              have HC := Lib.hid hcode
              have l9 : Low wv.heap.size wv (wv.alloc (.cells #[.int .i64 o.code, .int .i64 o.res, .int .i64 0, .int .i64 0, .int .u16 o.n, .slice none 0 0] 33)) := (Low.refl _ _).alloc (Nat.le_refl _) _
              have a9 := heap_new wv (.cells #[.int .i64 o.code, .int .i64 o.res, .int .i64 0, .int .i64 0, .int .u16 o.n, .slice none 0 0] 33)
              have HLL := Lib.hid (HL.out.trans (l9.mono HL.out.size))
              clear gv hg k0 k1 k2 k3 k4 k5 ho hok hcode l9
              go_upto_region 27 with fail
              clear c0 c1 c2 c3 c4 c5
              generalize wv.heap.size = t7 at a9 ⊢
              generalize wv.alloc (.cells #[.int .i64 o.code, .int .i64 o.res, .int .i64 0, .int .i64 0, .int .u16 o.n, .slice none 0 0] 33) = wa at a9 HLL ⊢
              have x0 : wa.cell? ⟨t7, 0, none⟩ = some (.int .i64 o.code) := cell_of a9
              have x1 : wa.cell? ⟨t7, 1, none⟩ = some (.int .i64 o.res) := cell_of a9
              clear a9
              by_cases h26 : o.code = 26
              · have hres := HC.out h26
                rw [h26] at x0
                rw [hres] at x1
                clear h26 hres HC
                go_wp2_with fail
                exact ⟨⟨q + 1, rfl, hlt, rfl, HLL.out⟩, by show n' - ((q : Int) + 1).toNat < n' - ((q : Int)).toNat; omega⟩
              · go_wp2_with fail
                exact ⟨⟨q + 1, rfl, hlt, rfl, HLL.out⟩, by show n' - ((q : Int) + 1).toNat < n' - ((q : Int)).toNat; omega⟩
            · have hlt' : ¬ (q : Int) < (n' : Int) := by omega
              obtain rfl : q = n' := by omega
              clear gv
              go_wp2_with fail
              exact ⟨.inr ⟨rfl, A', q, c', rfl, LL8.out.tail (HL.out.mono LL8.out.size), GG8.out.low HL.out⟩, by decide⟩
        · have HC := Lib.hid hc; have HG := Lib.hid hG
          clear hc hG
          go_wp2_with fail
          go_ret
          exact ⟨A', n', c', rfl, HC.out, HG.out⟩
end Go.Proofs.YtnjdegjpmbdboaaGreat
