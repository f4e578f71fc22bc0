/- thread of a graph of one block. -/
import Derived.Test.YtnjdegjpmbdboaaGreatQG
namespace Go.Proofs.YtnjdegjpmbdboaaGreat
open Go.RowKit
set_option linter.unusedVariables false
theorem enters46 : ∀ (args : Array Value) (w : World), (callFunc 46 args).run Tryz.prog w = .ok (.enter 46 args) w := enters_body Tryz.func46 (by kernel_rfl) rfl
/-- The counts and the cell that holds them. -/
def Counts (z um : Nat) (w : World) : Prop := UMap w um ∧ w.heap[z]? = some (.cells #[.map (some um)] 53 (0, 0))
theorem Counts.low {z um S : Nat} {w w' : World} (hz : z < S) (hu : um < S) (h : Counts z um w) (hl : Low S w w') : Counts z um w' := ⟨h.1.keep (hl.block um hu), (hl.block z hz).trans h.2⟩
theorem Counts.ne {z um : Nat} {w : World} (h : Counts z um w) : z ≠ um := by
  rintro rfl
  obtain ⟨⟨m, ⟨es, cl, hg, _⟩, _⟩, h2⟩ := h
  rw [hg] at h2; cases h2
theorem note_keeps (wa : World) (z um : Nat) (hz : z < wa.heap.size) (hu : um < wa.heap.size) : Keeps0 wa.heap.size (fun wx => Chs [um] wa wx ∧ Counts z um wx) 46 #[] #[.pointer (some ⟨z, 0, none⟩)] := fun w1 h1 => by
  have hne := h1.2.ne
  refine (note_any w1 z um (cell_of h1.2.2) h1.2.1 0).mono ?_
  rintro e w2 ⟨rfl, hc, hu2, hsz⟩
  exact ⟨rfl, ⟨h1.1.trans hc, hu2, hc.obj h1.2.2 (by simpa using hne)⟩, by omega, fun g hg hg2 => hc.block g hg2 (by simp; omega)⟩
set_option maxRecDepth 100000 in
set_option maxHeartbeats 8000000 in
theorem thread_any (w : World) (gr bk al df nm ob cm om : Nat) (next : Int) (Pp : Option Addr) (pc : Nat) (A : Option Addr) (n c : Nat) (T : Option Addr) (tc : Nat) (l : List Opn) (h : Gr w gr bk al df nm ob cm om next Pp pc A n c T tc l) :
    Calls Tryz.prog 17 #[.pointer (some ⟨gr, 0, none⟩)] w (fun e w' => e = .returned (.bool false) ∧ Low w.heap.size w w') := by
  have hmf : ∀ (fn : Fn) (first cap : Array Value) (w : World), (Instr.makeFunc fn first cap).run Tryz.prog w = .ok (.func fn first cap) w := fun _ _ _ _ => rfl
  have hmm : ∀ u : World, (Instr.makeMap 53 none).run Tryz.prog u = .ok (.map (some u.heap.size)) (u.alloc (.map #[] 0)) := fun u => by kernel_rfl
  have hbl := blocks_any w gr bk tc T (cell_of h.g) (cell_of h.b)
  have hn12 : n ≤ 12 := h.small
  have H := Lib.hid h
  clear h
  go_enter Tryz.func17, Tryz.ntmps17
  go_upto_region 2 with (first
    | (go_at_call 38; refine hbl.mono ?_; rintro e w1 ⟨l1, r, cr, rfl, x1, hr1, hcr⟩))
  obtain ⟨X, c', hsl⟩ := tail_one r cr hcr
  have e2 : UMap (w1.alloc (.map #[] 0)) w1.heap.size := ⟨[], ⟨#[], 0, heap_new w1 _, ents_nil⟩, by simp⟩
  have l2 : Low w1.heap.size w1 (w1.alloc (.map #[] 0)) := (Low.refl _ w1).alloc (Nat.le_refl _) _
  have l4 : Low w1.heap.size w1 ((w1.alloc (.map #[] 0)).alloc (.cells #[.map (some w1.heap.size)] 53)) := l2.alloc l2.size _
  have e4 : Counts (w1.alloc (.map #[] 0)).heap.size w1.heap.size ((w1.alloc (.map #[] 0)).alloc (.cells #[.map (some w1.heap.size)] 53)) := ⟨e2.keep (Below.heap_alloc _ _ _ e2.lt), heap_new _ _⟩
  have x4 := (World.cell?_of_block (a := ⟨r, 0, none⟩) (l4.block r (cell_lt x1))).trans x1
  have G4 := Lib.hid ((H.out.low l1).low l4)
  have L4 := Lib.hid (l1.trans (l4.mono l1.size))
  have hzz : (w1.alloc (.map #[] 0)).heap.size = w1.heap.size + 1 := by simp
  rw [hzz] at e4
  have h0um : w.heap.size ≤ w1.heap.size := l1.size
  go_upto_region 4 with fail
  clear hbl l1 l2 l4 e2 x1 hzz
  generalize w1.heap.size = um at e4 h0um x4 G4 L4 ⊢
  generalize (w1.alloc (.map #[] 0)).alloc (.cells #[.map (some um)] 53) = w4 at e4 x4 G4 L4 ⊢
  have E4 := Lib.hid e4
  clear e4 hmm hr1
  go_wp2_with fail
  go_loopw [27] (fun i wr => (i = .int .i64 0 ∧ wr = w4) ∨ (i = .int .i64 1 ∧ Low w.heap.size w wr)) (fun i _ => 1 - (intOf i).toNat)
  case atStart => exact .inl ⟨rfl, rfl⟩
  case round =>
    rcases hrel with ⟨rfl, rfl⟩ | ⟨rfl, hl⟩
    · obtain ⟨w4, rfl⟩ : ∃ u, u = wr := ⟨_, rfl⟩
      have b4 : w4.cell? ⟨bk, 1, none⟩ = some (.slice A n c) := cell_of G4.out.b
      go_wp2_with fail
      go_loopw [36] (fun i wx => ∃ q : Nat, i = .int .i64 q ∧ q ≤ n ∧ Chs [um] w4 wx ∧ Counts (um + 1) um wx) (fun i _ => n - (intOf i).toNat)
      case atStart => exact ⟨0, rfl, by omega, Chs.refl _ _, E4.out⟩
      case round =>
        obtain ⟨wv, rfl⟩ : ∃ u, u = wr := ⟨_, rfl⟩
        obtain ⟨q, rfl, hq, hL, hD⟩ := hrel
        have hb : wv.heap[bk]? = _ := hL.obj G4.out.b (by
          intro hm
          rw [List.mem_singleton] at hm
          obtain ⟨⟨m, ⟨es, cl, hg, _⟩, _⟩, h2⟩ := E4.out
          rw [← hm, G4.out.b] at hg; cases hg)
        by_cases hlt : q < n
        · have hlt' : (q : Int) < (n : Int) := by omega
          have hq0 : (0 : Int) ≤ (q : Int) := by omega
          have hqn : (q : Int) ≤ 12 := by omega
          obtain ⟨o, ho⟩ : ∃ o, l[q]? = some o := ⟨_, List.getElem?_eq_getElem (by have := G4.out.ops.1; omega)⟩
          obtain ⟨g, cs, rfl, hnc, hg0, k0, k1, k2, k3, k4, k5⟩ := G4.out.ops.2 q o ho
          have hg : wv.heap[g]? = _ := hL.obj hg0 (by
            intro hm
            rw [List.mem_singleton] at hm
            obtain ⟨⟨m, ⟨es, cl, hg, _⟩, _⟩, h2⟩ := E4.out
            rw [← hm, hg0] at hg; cases hg)
          have c0 : wv.cell? ⟨g, q * 6, none⟩ = some (.int .i64 o.code) := (cell_of hg).trans k0
          have c1 : wv.cell? ⟨g, q * 6 + 1, none⟩ = some (.int .i64 o.res) := (cell_of hg).trans k1
          have c2 : wv.cell? ⟨g, q * 6 + 2, none⟩ = some (.int .i64 0) := (cell_of hg).trans k2
          have c3 : wv.cell? ⟨g, q * 6 + 3, none⟩ = some (.int .i64 0) := (cell_of hg).trans k3
          have c4 : wv.cell? ⟨g, q * 6 + 4, none⟩ = some (.int .u16 o.n) := (cell_of hg).trans k4
          have c5 : wv.cell? ⟨g, q * 6 + 5, none⟩ = some (.slice none 0 0) := (cell_of hg).trans k5
          have okc : OkCode o.code := (G4.out.ok o (List.mem_of_getElem? ho)).1
          have l9 : Low wv.heap.size wv (wv.alloc (.cells #[.int .i64 o.code, .int .i64 o.res, .int .i64 0, .int .i64 0, .int .u16 o.n, .slice none 0 0] 33)) := (Low.refl _ _).alloc (Nat.le_refl _) _
          have hz9 := Below.heap_alloc wv (.cells #[.int .i64 o.code, .int .i64 o.res, .int .i64 0, .int .i64 0, .int .u16 o.n, .slice none 0 0] 33)
          have d9 := hD.low (heap_lt hD.2) hD.1.lt l9
          have hsz : wv.heap.size ≤ (wv.alloc (.cells #[.int .i64 o.code, .int .i64 o.res, .int .i64 0, .int .i64 0, .int .u16 o.n, .slice none 0 0] 33)).heap.size := l9.size
          have hzl := heap_lt hD.2
          have a9 := heap_new wv (.cells #[.int .i64 o.code, .int .i64 o.res, .int .i64 0, .int .i64 0, .int .u16 o.n, .slice none 0 0] 33)
          go_upto_region 10 with fail
          clear c0 c1 c2 c3 c4 c5 k0 k1 k2 k3 k4 k5 hz9 b4 hg hg0
          generalize wv.alloc (.cells #[.int .i64 o.code, .int .i64 o.res, .int .i64 0, .int .i64 0, .int .u16 o.n, .slice none 0 0] 33) = wa at a9 l9 d9 hsz ⊢
          have x0 : wa.cell? ⟨wv.heap.size, 0, none⟩ = some (.int .i64 o.code) := cell_of a9
          have x1 : wa.cell? ⟨wv.heap.size, 1, none⟩ = some (.int .i64 o.res) := cell_of a9
          have x2 : wa.cell? ⟨wv.heap.size, 2, none⟩ = some (.int .i64 0) := cell_of a9
          have x3 : wa.cell? ⟨wv.heap.size, 3, none⟩ = some (.int .i64 0) := cell_of a9
          have x4 : wa.cell? ⟨wv.heap.size, 4, none⟩ = some (.int .u16 o.n) := cell_of a9
          have x5 : wa.cell? ⟨wv.heap.size, 5, none⟩ = some (.slice none 0 0) := cell_of a9
          have hum := hD.1.lt
          have hmap := mapOp_any _ wa o 46 #[] #[.pointer (some ⟨um + 1, 0, none⟩)] (Inv.chs wa [um] (Counts (um + 1) um) (fun u u' hu hl => hu.low (by omega) (by omega) hl)) ⟨Chs.refl _ _, d9⟩ okc enters46 (note_keeps wa (um + 1) um (by omega) (by omega))
          have HL := Lib.hid (hL.trans (Chs.of_low l9))
          clear hL l9 d9 hD a9
          go_wp2_with (first
            | (go_at_call 35; refine hmap.mono ?_; rintro e w6 ⟨rfl, hc6, hu6⟩))
          exact ⟨⟨q + 1, rfl, hlt, HL.out.trans hc6, hu6⟩, by show n - ((q : Int) + 1).toNat < n - ((q : Int)).toNat; omega⟩
        · have hlt' : ¬ (q : Int) < (n : Int) := by omega
          have hlw : Low w.heap.size w wv := L4.out.trans (hL.low (by simpa using h0um) L4.out.size)
          have b2 : wv.cell? ⟨bk, 2, none⟩ = some (.int .i64 4) := cell_of hb
          have b3 : wv.cell? ⟨bk, 3, none⟩ = some (.int .i64 (-1)) := cell_of hb
          have hbr := blockReads_any wv bk b2 b3
          have hbl := heap_lt hb
          clear b2 b3 b4
          go_upto_region 14 with (first
            | (go_at_call 47; refine hbr.mono ?_; rintro e w6 ⟨rfl, l6⟩; have b6 : w6.cell? ⟨bk, 4, none⟩ = some (.slice T 0 tc) := cell_of ((l6.block bk hbl).trans hb)))
          go_wp2_with fail
          go_loopw [57] (fun i wr => i = .int .i64 0 ∧ wr = w6) (fun _ _ => 0)
          case atStart => exact ⟨rfl, rfl⟩
          case round =>
            obtain ⟨rfl, rfl⟩ := hrel
            go_wp2_with fail
            exact ⟨.inr ⟨rfl, hlw.trans (l6.mono hlw.size)⟩, by decide⟩
    · go_wp2_with fail
      obtain ⟨w5, rfl⟩ : ∃ u, u = wr := ⟨_, rfl⟩
      go_loopw [70] (fun i wr => i = .int .i64 0 ∧ wr = w5) (fun _ _ => 0)
      case atStart => exact ⟨rfl, rfl⟩
      case round =>
        obtain ⟨rfl, rfl⟩ := hrel
        go_wp2_with fail
        go_ret
        exact ⟨rfl, hl⟩
end Go.Proofs.YtnjdegjpmbdboaaGreat
