/- fold: it changes nothing that the statement sees. -/
import Derived.Test.YtnjdegjpmbdboaaGreatQC
namespace Go.Proofs.YtnjdegjpmbdboaaGreat
open Go.RowKit
set_option linter.unusedVariables false
theorem Chs.tail {B : List Nat} {w w' w'' : World} (h : Chs B w w') (h' : Low w.heap.size w' w'') : Chs B w w'' := ⟨h'.os.trans h.os, h'.out.trans h.out, Nat.le_trans h.size h'.size, fun g hg hb => (h'.block g hg).trans (h.block g hg hb)⟩
theorem DefOk.keep {w w' : World} {g : Nat} (h : DefOk w g) (hk : w'.heap[g]? = w.heap[g]?) : DefOk w' g := by
  obtain ⟨m, ⟨es, cl, hg, he⟩, hp⟩ := h
  exact ⟨m, ⟨es, cl, hk.trans hg, he⟩, hp⟩
theorem DefOk.lt {w : World} {g : Nat} (h : DefOk w g) : g < w.heap.size := by
  obtain ⟨m, ⟨es, cl, hg, he⟩, hp⟩ := h
  exact heap_lt hg
def again1 : Value → Nat
  | .bool true => 1
  | _ => 0
theorem def_put {w : World} {df : Nat} (h : DefOk w df) (r : Int) (hr : 0 < r) (v : Value) : ∃ es c, (Instr.mapUpdate 67 (.map (some df)) (.int .i64 r) v).run Tryz.prog w = .ok () (Go.ChangeMaps.setBlock w df (.map es c)) ∧ DefOk (Go.ChangeMaps.setBlock w df (.map es c)) df := by
  obtain ⟨m, hm, hp⟩ := h
  obtain ⟨es, c, hu, he⟩ := update_i (P := Tryz.prog) (t := 67) Tryz.underlying67 Tryz.underlying3 hm (k := r) v
  refine ⟨es, c, hu, putI m r v, ⟨es, c, ?_, he⟩, ?_⟩
  · obtain ⟨es0, c0, hg, _⟩ := hm
    have := heap_lt hg
    simp [Go.ChangeMaps.setBlock, this]
  · intro p hpm
    have : ∀ (m : List (Int × Value)), p ∈ putI m r v → p ∈ m ∨ p.1 = r := by
      intro m
      induction m with
      | nil => intro h; simp [putI] at h; right; rw [h]
      | cons q m ih =>
        intro h
        unfold putI at h
        split at h
        · rcases List.mem_cons.1 h with h | h
          · right; rw [h]
          · exact .inl (List.mem_cons_of_mem _ h)
        · rcases List.mem_cons.1 h with h | h
          · left; rw [h]; exact List.mem_cons_self ..
          · rcases ih h with h | h
            · exact .inl (List.mem_cons_of_mem _ h)
            · exact .inr h
    rcases this m hpm with h | h
    · exact hp p h
    · rw [h]; exact hr
set_option maxRecDepth 100000 in
set_option maxHeartbeats 8000000 in
theorem fold_any (w : World) (gr bk al df nm ob cm om : Nat) (next : Int) (Pp : Option Addr) (pc : Nat) (A : Option Addr) (n c : Nat) (T : Option Addr) (tc : Nat) (l : List Opn) (h : Gr w gr bk al df nm ob cm om next Pp pc A n c T tc l) :
    Calls Tryz.prog 14 #[.pointer (some ⟨gr, 0, none⟩)] w (fun e w' => e = .returned (.bool false) ∧ Chs [bk, df] w w' ∧ ∃ A' c' T' tc', Gr w' gr bk al df nm ob cm om next Pp pc A' n c' T' tc' l) := by
  have hmf : ∀ (fn : Fn) (first cap : Array Value) (w : World), (Instr.makeFunc fn first cap).run Tryz.prog w = .ok (.func fn first cap) w := fun _ _ _ _ => rfl
  have hres := resolve_any w gr bk al df nm ob cm om next Pp pc A n c T tc l h
  have hn12 : n ≤ 12 := h.small
  clear h
  go_enter Tryz.func14, Tryz.ntmps14
  go_wp2_with fail
  go_loopw [3, 4] (fun a b wr => a = .bool false ∧ ((b = .bool true ∧ wr = w) ∨ (b = .bool false ∧ Chs [bk, df] w wr ∧ ∃ A' c' T' tc', Gr wr gr bk al df nm ob cm om next Pp pc A' n c' T' tc' l))) (fun a b _ => again1 b)
  case atStart => exact ⟨rfl, .inl ⟨rfl, rfl⟩⟩
  case round =>
    obtain ⟨rfl, ⟨rfl, rfl⟩ | ⟨rfl, hch, A', c', T', tc', hG⟩⟩ := hrel
    · obtain ⟨w, rfl⟩ : ∃ u, u = wr := ⟨_, rfl⟩
      go_upto_region 7 with (first
        | (go_at_call 37; refine hres.mono ?_; rintro e w0 ⟨rfl, ch0, T', tc', g0⟩; have hbl := blocks_any w0 gr bk tc' T' (cell_of g0.g) (cell_of g0.b); have G0 := Lib.hid g0; have C0 := Lib.hid ch0; clear g0 ch0)
        | (go_at_call 38; refine hbl.mono ?_; rintro e w1 ⟨l1, r, cr, rfl, x1, hr1⟩; have G1 := Lib.hid (G0.out.low l1); have C1 := Lib.hid ((Chs.of_ch (B := [bk, df]) C0.out (by simp)).trans (Chs.of_low l1)); clear l1))
      have x1' := x1
      go_loopw [18, 4] (fun i b wr => b = .bool false ∧ ((i = .int .i64 0 ∧ wr = w1) ∨ (i = .int .i64 1 ∧ Chs [bk, df] w wr ∧ ∃ A' c' T' tc', Gr wr gr bk al df nm ob cm om next Pp pc A' n c' T' tc' l))) (fun i b _ => 1 - (intOf i).toNat)
      case atStart => exact ⟨rfl, .inl ⟨rfl, rfl⟩⟩
      case round =>
        obtain ⟨rfl, ⟨rfl, rfl⟩ | ⟨rfl, hch, A', c', T'', tc'', hG⟩⟩ := hrel
        · have b1 : wr.cell? ⟨bk, 1, none⟩ = some (.slice A n c) := cell_of G1.out.b
          go_wp2_with fail
          obtain ⟨w1, rfl⟩ : ∃ u, u = wr := ⟨_, rfl⟩
          obtain ⟨S1, hS1⟩ : ∃ S1, w1.heap.size = S1 := ⟨_, rfl⟩
          go_loopw [27, 7, 4] (fun i v b wx => b = .bool false ∧ ∃ q : Nat, i = .int .i64 q ∧ q ≤ n ∧ Chs [df] w1 wx ∧ DefOk wx df ∧ Own wx S1 33 6 v q (rowOf (l.take q))) (fun i _ _ _ => n - (intOf i).toNat)
          case atStart => exact ⟨rfl, 0, rfl, by omega, Chs.refl _ _, G1.out.df_, Own.nil _ _ _ _⟩
          case round =>
            obtain ⟨rfl, q, rfl, hq, hL, hD, hO⟩ := hrel
            obtain ⟨wv, rfl⟩ : ∃ u, u = wr := ⟨_, rfl⟩
            have gv := G1.out.defs hL hD
            by_cases hlt : q < n
            · have hlt' : (q : Int) < (n : Int) := by omega
              have hq0 : (0 : Int) ≤ (q : Int) := by omega
              have hqn : (q : Int) ≤ 12 := by omega
              obtain ⟨o, ho⟩ : ∃ o, l[q]? = some o := ⟨_, List.getElem?_eq_getElem (by have := gv.ops.1; omega)⟩
              obtain ⟨g, cs, rfl, hnc, hg, k0, k1, k2, k3, k4, k5⟩ := gv.ops.2 q o ho
              have c0 : wv.cell? ⟨g, q * 6, none⟩ = some (.int .i64 o.code) := (cell_of hg).trans k0
              have c1 : wv.cell? ⟨g, q * 6 + 1, none⟩ = some (.int .i64 o.res) := (cell_of hg).trans k1
              have c2 : wv.cell? ⟨g, q * 6 + 2, none⟩ = some (.int .i64 0) := (cell_of hg).trans k2
              have c3 : wv.cell? ⟨g, q * 6 + 3, none⟩ = some (.int .i64 0) := (cell_of hg).trans k3
              have c4 : wv.cell? ⟨g, q * 6 + 4, none⟩ = some (.int .u16 o.n) := (cell_of hg).trans k4
              have c5 : wv.cell? ⟨g, q * 6 + 5, none⟩ = some (.slice none 0 0) := (cell_of hg).trans k5
              obtain ⟨S2, hS2⟩ : ∃ S2, wv.heap.size = S2 := ⟨_, rfl⟩
              obtain ⟨a9, s9, u9⟩ := alloc_at (.cells #[.int .i64 o.code, .int .i64 o.res, .int .i64 0, .int .i64 0, .int .u16 o.n, .slice none 0 0] 33) hS2
              have l9 : Low wv.heap.size wv (wv.alloc (.cells #[.int .i64 o.code, .int .i64 o.res, .int .i64 0, .int .i64 0, .int .u16 o.n, .slice none 0 0] 33)) := (Low.refl _ _).alloc (Nat.le_refl _) _
              have okc : OkCode o.code := (gv.ok o (List.mem_of_getElem? ho)).1
              have okr := (gv.ok o (List.mem_of_getElem? ho)).2.1
              go_upto_region 13 with fail
              clear c0 c1 c2 c3 c4 c5 k0 k1 k2 k3 k4 k5 u9 b1 x1 x1' hlt' hq0
              generalize wv.alloc (.cells #[.int .i64 o.code, .int .i64 o.res, .int .i64 0, .int .i64 0, .int .u16 o.n, .slice none 0 0] 33) = wa at a9 s9 l9 ⊢
              have x0 : wa.cell? ⟨S2, 0, none⟩ = some (.int .i64 o.code) := cell_of a9
              have x1 : wa.cell? ⟨S2, 1, none⟩ = some (.int .i64 o.res) := cell_of a9
              have x2 : wa.cell? ⟨S2, 2, none⟩ = some (.int .i64 0) := cell_of a9
              have x3 : wa.cell? ⟨S2, 3, none⟩ = some (.int .i64 0) := cell_of a9
              have x4 : wa.cell? ⟨S2, 4, none⟩ = some (.int .u16 o.n) := cell_of a9
              have x5 : wa.cell? ⟨S2, 5, none⟩ = some (.slice none 0 0) := cell_of a9
              have ga := gv.low l9
              have hmap := mapOp_any (fun wx => Low wa.heap.size wa wx) wa o 40 #[.pointer (some ⟨gr, 0, none⟩)] #[] (Inv.low _ _ (Nat.le_refl _)) (Low.refl _ _) okc enters40 (find_keeps wa gr al (cell_of ga.g) ga.al_)
              have hrule := fun wx (lx : Low wa.heap.size wa wx) => rule_any wx gr df nm o (cell_of (ga.low lx).g) (cell_of (ga.low lx).g) (ga.low lx).df_ (ga.low lx).nm_ okc
              have GA := Lib.hid ga; have A9 := Lib.hid a9; have L9 := Lib.hid l9; have hdv := Lib.hid gv.df_; have HL := Lib.hid hL; have HO := Lib.hid hO; have GV := Lib.hid gv; have HG := Lib.hid hg
              clear ga a9 l9 hL hO gv hg
              go_upto_region 14 with (first
                | (go_at_call 35; refine hmap.mono ?_; rintro e w4 ⟨rfl, l4⟩; have hr4 := hrule w4 l4)
                | (go_at_call 39; refine hr4.mono ?_; rintro e w5 ⟨rfl, l5'⟩; have L5 := Lib.hid (l4.trans (l5'.mono l4.size)); clear l5' l4 hr4; have z10 := heap_new w5 (.cells #[.int .i64 o.code, .int .i64 o.res, .int .i64 0, .int .i64 0, .int .u16 o.n, .slice none 0 0] 33)))
              have y9 := heap_old (.cells #[.int .i64 o.code, .int .i64 o.res, .int .i64 0, .int .i64 0, .int .u16 o.n, .slice none 0 0] 33) (L5.out.some A9.out)
              have l6 : Low wv.heap.size wv (w5.alloc (.cells #[.int .i64 o.code, .int .i64 o.res, .int .i64 0, .int .i64 0, .int .u16 o.n, .slice none 0 0] 33)) := (L9.out.trans (L5.out.mono L9.out.size)).alloc (Nat.le_trans L9.out.size L5.out.size) _
              clear x0 x1 x2 x3 x4 x5 hmap hrule
              generalize w5.heap.size = S3 at z10 ⊢
              generalize w5.alloc (.cells #[.int .i64 o.code, .int .i64 o.res, .int .i64 0, .int .i64 0, .int .u16 o.n, .slice none 0 0] 33) = w6 at y9 z10 l6 ⊢
              have x0 : w6.cell? ⟨S2, 0, none⟩ = some (.int .i64 o.code) := cell_of y9
              have x1 : w6.cell? ⟨S2, 1, none⟩ = some (.int .i64 o.res) := cell_of y9
              have x2 : w6.cell? ⟨S2, 2, none⟩ = some (.int .i64 0) := cell_of y9
              have x3 : w6.cell? ⟨S2, 3, none⟩ = some (.int .i64 0) := cell_of y9
              have x4 : w6.cell? ⟨S2, 4, none⟩ = some (.int .u16 o.n) := cell_of y9
              have x5 : w6.cell? ⟨S2, 5, none⟩ = some (.slice none 0 0) := cell_of y9
              have y0 : w6.cell? ⟨S3, 0, none⟩ = some (.int .i64 o.code) := cell_of z10
              have y1 : w6.cell? ⟨S3, 1, none⟩ = some (.int .i64 o.res) := cell_of z10
              have y2 : w6.cell? ⟨S3, 2, none⟩ = some (.int .i64 0) := cell_of z10
              have y3 : w6.cell? ⟨S3, 3, none⟩ = some (.int .i64 0) := cell_of z10
              have y4 : w6.cell? ⟨S3, 4, none⟩ = some (.int .u16 o.n) := cell_of z10
              have y5 : w6.cell? ⟨S3, 5, none⟩ = some (.slice none 0 0) := cell_of z10
              have hsame := sameOp_any w6 o
              have Y9 := Lib.hid y9; have Z10 := Lib.hid z10; have L6 := Lib.hid l6
              clear y9 z10 l6 hD
              go_upto_region 19 with (first
                | (go_at_call 41; refine hsame.mono ?_; rintro e w7 ⟨rfl, l7⟩; have z7 := l7.some Z10.out; have L7 := Lib.hid (L6.out.trans (l7.mono L6.out.size)); clear l7 x0 x1 x2 x3 x4 x5 y0 y1 y2 y3 y4 y5))
              have y0 : w7.cell? ⟨S3, 0, none⟩ = some (.int .i64 o.code) := cell_of z7
              have y1 : w7.cell? ⟨S3, 1, none⟩ = some (.int .i64 o.res) := cell_of z7
              have y2 : w7.cell? ⟨S3, 2, none⟩ = some (.int .i64 0) := cell_of z7
              have y3 : w7.cell? ⟨S3, 3, none⟩ = some (.int .i64 0) := cell_of z7
              have y4 : w7.cell? ⟨S3, 4, none⟩ = some (.int .u16 o.n) := cell_of z7
              have y5 : w7.cell? ⟨S3, 5, none⟩ = some (.slice none 0 0) := cell_of z7
              go_upto_if 57 with fail
              have Z7 := Lib.hid z7
              have hS23 : S2 ≤ w7.heap.size := by have := L7.out.size; omega
              clear z7 hsame
              go_cut [] (fun w8 => w8.heap[S3]? = some (.cells #[.int .i64 o.code, .int .i64 o.res, .int .i64 0, .int .i64 0, .int .u16 o.n, .slice none 0 0] 33) ∧ Chs [df] wv w8 ∧ DefOk w8 df)
              case first =>
                have g7 := GV.out.low L7.out
                have d7 := g7.df_
                rcases okr with hlt0 | hgt0
                · have hneg : ¬ (0 : Int) ≤ o.res := by omega
                  clear g7
                  go_wp2_with fail
                  go_meet
                  exact ⟨Z7.out, Chs.of_low L7.out, d7⟩
                · have hpos : (0 : Int) ≤ o.res := by omega
                  have e3 : w7.cell? ⟨gr, 3, none⟩ = some (.map (some df)) := cell_of g7.g
                  obtain ⟨es, cl, hu, hd8⟩ := def_put (w := w7.drew) (d7.low ((Low.refl _ w7).drew)) o.res hgt0 (.agg #[.int .i64 o.code, .int .i64 o.res, .int .i64 0, .int .i64 0, .int .u16 o.n, .slice none 0 0])
                  have hc8 : Chs [df] wv (Go.ChangeMaps.setBlock w7.drew df (.map es cl)) := (Chs.of_low (L7.out.trans (Low.refl _ w7).drew)).trans (Chs.setBlock _ (List.mem_singleton.2 rfl) _)
                  have hb8 : (Go.ChangeMaps.setBlock w7.drew df (.map es cl)).heap[S3]? = some (.cells #[.int .i64 o.code, .int .i64 o.res, .int .i64 0, .int .i64 0, .int .u16 o.n, .slice none 0 0] 33) := (setBlock_other _ (by
                    rintro rfl
                    obtain ⟨m, ⟨es, cl, hm, _⟩, _⟩ := d7
                    have := Z7.out
                    rw [hm] at this; cases this)).trans Z7.out
                  have HD8 := Lib.hid hd8; have HC8 := Lib.hid hc8; have HB8 := Lib.hid hb8
                  clear g7 d7 hd8 hc8 hb8
                  go_upto_region 20 with fail
                  go_region_law (fail)
                  all_goals (try go_wp2_with fail)
                  all_goals (go_meet; exact ⟨HB8.out, HC8.out, HD8.out⟩)
              case rest =>
                obtain ⟨z8, hc8, hd8⟩ := hcut
                obtain ⟨w8, rfl⟩ : ∃ u, u = wc := ⟨_, rfl⟩
                have y0 : w8.cell? ⟨S3, 0, none⟩ = some (.int .i64 o.code) := cell_of z8
                have y1 : w8.cell? ⟨S3, 1, none⟩ = some (.int .i64 o.res) := cell_of z8
                have y2 : w8.cell? ⟨S3, 2, none⟩ = some (.int .i64 0) := cell_of z8
                have y3 : w8.cell? ⟨S3, 3, none⟩ = some (.int .i64 0) := cell_of z8
                have y4 : w8.cell? ⟨S3, 4, none⟩ = some (.int .u16 o.n) := cell_of z8
                have y5 : w8.cell? ⟨S3, 5, none⟩ = some (.slice none 0 0) := cell_of z8
                have hown8 : Own w8 S1 33 6 u7 q (rowOf (l.take q)) := HO.out.kept fun k hk => by
                  rcases HO.out.form with ⟨h1, _⟩ | ⟨k', c', cs', h1, hb', h3, _⟩
                  · rw [h1] at hk; cases hk
                  · rw [h1] at hk; cases hk
                    refine hc8.block _ (heap_lt h3) fun hm => ?_
                    rw [List.mem_singleton] at hm
                    subst hm
                    obtain ⟨m, ⟨es, cl, hm, _⟩, _⟩ := hdv.out
                    rw [hm] at h3; cases h3
                have hownA : Own (w8.alloc (.cells #[.int .i64 o.code, .int .i64 o.res, .int .i64 0, .int .i64 0, .int .u16 o.n, .slice none 0 0] 33)) S1 33 6 u7 q (rowOf (l.take q)) := hown8.low ((Low.refl _ w8).alloc (Nat.le_refl _) _)
                have hS18 : S1 ≤ w8.heap.size := by have h1 := HL.out.size; have h2 := hc8.size; omega
                have HC8 := Lib.hid hc8; have HD8 := Lib.hid hd8; have HOA := Lib.hid hownA
                clear hc8 hd8 hown8 hownA z8
                go_upto_region 22 with (first
                  | (at_builtin; refine wpList_app1 (w := w8.alloc (.cells #[.int .i64 o.code, .int .i64 o.res, .int .i64 0, .int .i64 0, .int .u16 o.n, .slice none 0 0] 33)) (P := Tryz.prog) (base := S1) (n := q) (m := 1) (xs := rowOf (l.take q)) ap27 rfl (.tmp 65) (.tmp 67) rfl rfl HOA.out rfl (heap_new w8 _) rfl (by simp [Value.oneCell']) (by omega) (by simp; omega) ?_; intro v9 w9 hap; have HAP := Lib.hid hap; clear hap))
                have hap := HAP.out
                have hdl : df < S1 := hS1 ▸ G1.out.df_.lt
                have hl9 : Low S1 w8 w9 := ((Low.refl S1 w8).alloc hS18 _).trans (hap.low HOA.out (Nat.le_refl _) (by simp; omega))
                have hc9 : Chs [df] w1 w9 := (HL.out.trans HC8.out).tail (by rw [hS1]; exact hl9)
                have hd9 : DefOk w9 df := HD8.out.keep (hl9.block df hdl)
                have ho9 : Own w9 S1 33 6 v9 (q + 1) (rowOf (l.take (q + 1))) := by
                  have h1 := hap.own
                  rw [List.take_add_one, ho]
                  show Own w9 S1 33 6 v9 (q + 1) (rowOf (l.take q ++ [o]))
                  rw [rowOf_snoc]
                  exact h1
                go_wp2_with fail
                exact ⟨⟨rfl, q + 1, rfl, hlt, hc9, hd9, ho9⟩, by show n - ((q : Int) + 1).toNat < n - ((q : Int)).toNat; omega⟩
            · have hlt' : ¬ (q : Int) < (n : Int) := by omega
              have hqn : q = n := by omega
              have hO' : Own wv S1 33 6 u7 n (rowOf l) := by
                rw [hqn, List.take_of_length_le (by rw [gv.ops.1]; exact Nat.le_refl _)] at hO
                exact hO
              obtain ⟨A2, c2, rfl, hops⟩ := OpsAt.of_own hO'
              have b7 : wv.cell? ⟨bk, 1, none⟩ = some (.slice A n c) := cell_of gv.b
              have f7 : wv.frozen? ⟨bk, 1, none⟩ = false := free_of gv.b
              have hfin := gv.setOps hops gv.ok hn12 gv.inc
              have hcf : Chs [bk, df] w (wv.setCell ⟨bk, 1, none⟩ (.slice A2 n c2)) := (C1.out.trans (hL.more (by simp))).trans (Chs.setCell _ (by simp) _)
              have HF := Lib.hid hfin; have HC := Lib.hid hcf
              clear hfin hcf hL hO hO' gv hops hD b1 x1 x1'
              go_wp2_with fail
              exact ⟨⟨rfl, .inr ⟨rfl, HC.out, _, _, _, _, HF.out⟩⟩, by decide⟩
        · go_wp2_with fail
          exact ⟨⟨rfl, .inr ⟨rfl, hch, _, _, _, _, hG⟩⟩, by decide⟩
    · go_wp2_with fail
      go_ret
      exact ⟨rfl, hch, _, _, _, _, hG⟩
end Go.Proofs.YtnjdegjpmbdboaaGreat
