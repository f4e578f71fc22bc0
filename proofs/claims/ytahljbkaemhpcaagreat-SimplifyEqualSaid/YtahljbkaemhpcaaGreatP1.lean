/- A program is made: the bytes of its bank. -/
import Derived.Test.YtahljbkaemhpcaaGreatP6
namespace Go.Proofs.YtahljbkaemhpcaaGreat
open Go.RowKit
set_option linter.unusedVariables false
/-- While the bank's bytes are laid down. -/
structure FB (B K : Nat) (w : World) (cs : Array Value) (wr : World) : Prop where
  b1 : wr.heap[w.heap.size + 1]? = some (.cells cs 5 (0, 0))
  sz : cs.size = 4096
  u8 : ∀ v ∈ cs, ∃ z, v = .int .u8 z
  b0 : wr.heap[w.heap.size]? = some (.cells #[.slice none 0 0, .slice none 0 0, .int .i64 0, .int .i64 0, .slice none 0 0, .slice none 0 0] 29 (0, 0))
  hs : wr.heap.size = w.heap.size + 2
  wt : WT B K wr
  bel : Below w.heap.size w wr
theorem FB.set {B K k : Nat} {w wr : World} {cs : Array Value} {z : Int} (h : FB B K w cs wr) : FB B K w (cs.setIfInBounds k (.int .u8 z)) (wr.setCell ⟨w.heap.size + 1, k, none⟩ (.int .u8 z)) :=
  ⟨Eng.setCell_blk h.b1, by rw [Array.size_setIfInBounds]; exact h.sz, fun v hv => by
    obtain ⟨i, hi⟩ := Array.mem_iff_getElem?.1 hv
    rw [Array.getElem?_setIfInBounds] at hi
    split at hi
    · split at hi
      · cases hi; exact ⟨_, rfl⟩
      · cases hi
    · exact h.u8 v (Array.mem_iff_getElem?.2 ⟨i, hi⟩), by rw [Eng.setCell_other (by omega)]; exact h.b0, by rw [Eng.setCell_size]; exact h.hs, h.wt.setCell _ _ _ fun cs' e fr hg ck hl => (by rw [h.b1] at hg; cases hg; cases hl), h.bel.setCell (Nat.le_add_right _ 1) _⟩
theorem data_typed {B K : Nat} {w : World} : ∀ j ck, layK 53 j = some ck → ∀ v, dataCells[j]? = some v → Fits B K w ck v := by
  intro j ck hl v hv
  match j, hl, hv with
  | 0, hl, hv | 3, hl, hv | 6, hl, hv => cases hl; cases hv; exact ⟨_, rfl⟩
  | 1, hl, hv | 2, hl, hv | 4, hl, hv | 5, hl, hv | 7, hl, hv | 8, hl, hv => cases hl; cases hv; exact ⟨_, rfl⟩
theorem alloc_at {w : World} {n : Nat} (o : Obj) (h : w.heap.size = n) : (w.alloc o).heap[n]? = some o ∧ (w.alloc o).heap.size = n + 1 ∧ ∀ g ob, g < n → w.heap[g]? = some ob → (w.alloc o).heap[g]? = some ob := by
  subst h
  exact ⟨heap_alloc_new w o, by simp, fun g ob hg hh => (Below.heap_alloc w o g hg).trans hh⟩
theorem PS.start {B K : Nat} {w wr : World} {cs : Array Value} {S : ByteArray} {As : Option Addr} {len cap : Nat} (h : FB B K w cs wr) (hB : B ≤ w.heap.size) (hin : ∀ j, j < len → ∃ (g o : Nat) (z : Int), As = some ⟨g, o, none⟩ ∧ g < B ∧ w.cell? ⟨g, o + j, none⟩ = some (.int .i64 z)) :
    PS B (K + 6) w w.heap.size As len cap 0 none 0 0 ((((wr.alloc (.cells #[.string S] 9)).alloc (.cells #[.slice none 0 0, .slice none 0 0, .int .i64 0, .int .i64 (-1), .slice (some ⟨w.heap.size + 2 + 1 + 1, 0, none⟩) 3 3, .slice (some ⟨w.heap.size + 2, 0, none⟩) 1 1] 29)).alloc (.cells #[.int .i64 (-1), .int .u16 16384, .int .u16 16, .int .i64 (-1), .int .u16 16640, .int .u16 7, .int .i64 0, .int .u16 128, .int .u16 32] 53)).alloc (.cells #[.slice As len cap, .int .i64 0, .pointer (some ⟨w.heap.size + 2 + 1, 0, none⟩), .int .i64 0, .slice none 0 0, .int .i64 0, .int .i64 0, .slice none 0 0, .int .i64 0] 56)) := by
  have hw := h.wt.more (Nat.le_add_right K 6)
  have w1 := hw.alloc #[.string S] 9 (str_typed S)
  have w2 := w1.allocOther (.cells #[.slice none 0 0, .slice none 0 0, .int .i64 0, .int .i64 (-1), .slice (some ⟨w.heap.size + 2 + 1 + 1, 0, none⟩) 3 3, .slice (some ⟨w.heap.size + 2, 0, none⟩) 1 1] 29) (other_typed rfl (fun _ => rfl))
  have w3 := w2.alloc dataCells 53 data_typed
  have w4 := w3.allocOther (.cells #[.slice As len cap, .int .i64 0, .pointer (some ⟨w.heap.size + 2 + 1, 0, none⟩), .int .i64 0, .slice none 0 0, .int .i64 0, .int .i64 0, .slice none 0 0, .int .i64 0] 56) (other_typed rfl (fun _ => rfl))
  obtain ⟨a1, s1, u1⟩ := alloc_at (.cells #[.string S] 9) h.hs
  obtain ⟨a2, s2, u2⟩ := alloc_at (.cells #[.slice none 0 0, .slice none 0 0, .int .i64 0, .int .i64 (-1), .slice (some ⟨w.heap.size + 2 + 1 + 1, 0, none⟩) 3 3, .slice (some ⟨w.heap.size + 2, 0, none⟩) 1 1] 29) s1
  obtain ⟨a3, s3, u3⟩ := alloc_at (.cells dataCells 53) s2
  obtain ⟨a4, s4, u4⟩ := alloc_at (.cells #[.slice As len cap, .int .i64 0, .pointer (some ⟨w.heap.size + 2 + 1, 0, none⟩), .int .i64 0, .slice none 0 0, .int .i64 0, .int .i64 0, .slice none 0 0, .int .i64 0] 56) s3
  have bel : Below w.heap.size w ((((wr.alloc (.cells #[.string S] 9)).alloc (.cells #[.slice none 0 0, .slice none 0 0, .int .i64 0, .int .i64 (-1), .slice (some ⟨w.heap.size + 2 + 1 + 1, 0, none⟩) 3 3, .slice (some ⟨w.heap.size + 2, 0, none⟩) 1 1] 29)).alloc (.cells dataCells 53)).alloc (.cells #[.slice As len cap, .int .i64 0, .pointer (some ⟨w.heap.size + 2 + 1, 0, none⟩), .int .i64 0, .slice none 0 0, .int .i64 0, .int .i64 0, .slice none 0 0, .int .i64 0] 56)) :=
    (((h.bel.alloc (by have := h.hs; omega) _).alloc (by omega) _).alloc (by omega) _).alloc (by omega) _
  refine ⟨u4 _ _ (by omega) (u3 _ _ (by omega) (u2 _ _ (by omega) (u1 _ _ (by omega) h.b0))), u4 _ _ (by omega) (u3 _ _ (by omega) a2), u4 _ _ (by omega) a3, ⟨S, u4 _ _ (by omega) (u3 _ _ (by omega) (u2 _ _ (by omega) a1))⟩, a4, w4, bel, nilV _ _ _ _ _, fun g hg => (by rw [own_none] at hg; cases hg), fun j hj => (by omega), hB, fun j hj => ?_⟩
  obtain ⟨g, o, z, e, h2, h3⟩ := hin j hj
  exact ⟨g, o, z, e, h2, (bel.cell (p := ⟨g, o + j, none⟩) (by show g < w.heap.size; omega)).trans h3⟩
set_option maxRecDepth 100000 in
set_option maxHeartbeats 8000000 in
theorem made_any (B K : Nat) (w : World) (As : Option Addr) (len cap : Nat) (hw : WT B K w) (hB : B ≤ w.heap.size) (hK : K + 40000 ≤ big) (hl : len ≤ 9223372036854775807)
    (hin : ∀ j, j < len → ∃ (g o : Nat) (z : Int), As = some ⟨g, o, none⟩ ∧ g < B ∧ w.cell? ⟨g, o + j, none⟩ = some (.int .i64 z)) :
    Calls Tryz.prog 5 #[.slice As len cap] w (ProgP B (K + 40000) w B) := by
  obtain ⟨Z, hZ1, hZ2, hm0⟩ := make_bytes 4096 (by omega)
  have hm : ∀ u : World, (Instr.makeSlice 50 (.int .i64 4096) (.int .i64 4096)).run Tryz.prog u = .ok (.slice (some ⟨u.heap.size, 0, none⟩) 4096 4096) (u.alloc (.cells Z 5)) := hm0
  have hstart : Hid (FB B K w Z ((w.alloc (.cells #[.slice none 0 0, .slice none 0 0, .int .i64 0, .int .i64 0, .slice none 0 0, .slice none 0 0] 29)).alloc (.cells Z 5))) := by
    have w1 := hw.allocOther (.cells #[.slice none 0 0, .slice none 0 0, .int .i64 0, .int .i64 0, .slice none 0 0, .slice none 0 0] 29) (other_typed rfl (fun _ => rfl))
    refine ⟨?_, hZ1, hZ2, ?_, by simp, w1.allocOther _ (other_typed rfl (fun _ => rfl)), ((Below.refl _ _).alloc (Nat.le_refl _) _).alloc (by simp) _⟩
    · have := heap_alloc_new (w.alloc (.cells #[.slice none 0 0, .slice none 0 0, .int .i64 0, .int .i64 0, .slice none 0 0, .slice none 0 0] 29)) (.cells Z 5)
      have hs1 : (w.alloc (.cells #[.slice none 0 0, .slice none 0 0, .int .i64 0, .int .i64 0, .slice none 0 0, .slice none 0 0] 29)).heap.size = w.heap.size + 1 := by simp
      rw [hs1] at this; exact this
    · rw [Below.heap_alloc _ _ _ (by simp), heap_alloc_new]
  have HW := Lib.hid hw; have HIN := Lib.hid hin
  clear hw hin hm0 hZ1 hZ2
  go_enter Tryz.func5, Tryz.ntmps5
  go_wp2_with fail
  go_loopw [4] (fun i wr => ∃ (k : Nat) (cs : Array Value), i = .int .i64 k ∧ k ≤ 4096 ∧ FB B K w cs wr) (fun i _ => 4096 - (intOf i).toNat)
  case atStart => exact ⟨0, Z, rfl, by omega, hstart.out⟩
  case round =>
    obtain ⟨k, cs, rfl, hk, hF⟩ := hrel
    by_cases hlt : k < 4096
    · have hlt' : (k : Int) < 4096 := by omega
      have hk0 : (0 : Int) ≤ (k : Int) := by omega
      have hck : k < cs.size := by rw [hF.sz]; exact hlt
      obtain ⟨z, hz⟩ := hF.u8 cs[k] (Array.getElem_mem hck)
      have c1 : wr.cell? ⟨w.heap.size + 1, k, none⟩ = some (.int .u8 z) := by rw [cell_of hF.b1, Array.getElem?_eq_getElem hck, hz]
      have f1 : wr.frozen? ⟨w.heap.size + 1, k, none⟩ = false := free_of hF.b1
      have HF := Lib.hid hF
      clear hF
      go_wp2_with fail
      exact ⟨⟨k + 1, _, rfl, hlt, HF.out.set⟩, by show 4096 - ((k : Int) + 1).toNat < 4096 - ((k : Int)).toNat; omega⟩
    · have hke : k = 4096 := by omega
      subst hke
      have hd : ¬ ((4096 : Nat) : Int) < 4096 := by omega
      obtain ⟨S, hS⟩ := conv_bytes (k := 4096) (c := 4096) hF.b1 (by rw [hF.sz]; exact Nat.le_refl _) hF.u8
      have hs := hF.hs
      have HF := Lib.hid hF
      clear hF
      go_upto_region 9 with fail
      have hps := PS.start (S := S) (cap := cap) HF.out hB HIN.out
      have HPS := Lib.hid hps
      clear hps hS hs
      generalize World.alloc _ _ = w1 at HPS ⊢
      generalize hR : w.heap.size = R at HPS ⊢
      simp only [Nat.add_assoc, Nat.reduceAdd]
      go_wp2_with (first
        | (go_at_call 12; ((with_reducible refine (take_ps HPS.out (by decide) hl 4 (by decide) (by decide)).mono ?_); rintro e w2 ⟨r1, a1, b1, rfl, hps2⟩; obtain ⟨n1, rfl⟩ := Int.eq_ofNat_of_zero_le a1; have e1 : IntKind.i64.wrap (1 + (n1 : Int)) = 1 + (n1 : Int) := (IntWalk.i64_in _ (by omega)))))
      have hn1 : n1 < 4 := by omega
      have hstart2 : Hid (PS B (K + 6) w R As len cap 1 none 0 0 w2) := hps2
      clear hps2 HPS
      go_loopw [8] (fun i wr => ∃ (q at_ : Nat) (A : Option Addr) (ca : Nat), i = .int .i64 q ∧ q ≤ 1 + n1 ∧ at_ ≤ 1 + q ∧ PS B (K + 6) w R As len cap at_ A q ca wr) (fun i _ => 1 + n1 - (intOf i).toNat)
      case atStart => exact ⟨0, 1, none, 0, rfl, by omega, by omega, hstart2.out⟩
      case round =>
        obtain ⟨wo, rfl⟩ : ∃ u, u = wr := ⟨_, rfl⟩
        obtain ⟨q, at_, A, ca, rfl, hq, hat, hps⟩ := hrel
        by_cases hlt : q < 1 + n1
        · have hlt' : (q : Int) < 1 + (n1 : Int) := by omega
          go_upto_if 54 with fail
          go_cut [9] (fun s9 wx => ∃ a at2 : Nat, s9 = .int .i64 a ∧ a ≤ 3 ∧ at2 ≤ at_ + 1 ∧ PS B (K + 6) w R As len cap at2 A q ca wx)
          case first =>
            have hat2 : at_ ≤ 1000 := by omega
            by_cases hq0 : 0 < q
            · have hq0' : (0 : Int) < (q : Int) := by omega
              go_wp2_with (first
                | (go_at_call 12; (with_reducible refine (take_ps hps hat2 hl 4 (by decide) (by decide)).mono ?_); rintro e w3 ⟨r1, a1, b1, rfl, hps3⟩; obtain ⟨a3, rfl⟩ := Int.eq_ofNat_of_zero_le a1))
              go_meet
              exact ⟨a3, _, rfl, by omega, Nat.le_refl _, hps3⟩
            · have hq0' : decide (0 < q) = false := by simp; omega
              go_wp2_with fail
              go_meet
              exact ⟨0, _, rfl, by omega, Nat.le_succ _, hps⟩
          case rest =>
            obtain ⟨a, at2, rfl, ha, hat2, hps⟩ := hcut
            have c1 : wc.cell? ⟨R + 3, 1, none⟩ = some (.slice A q ca) := cell_of hps.bp
            have sva : SlV B (K + 6) (wc.alloc (.cells #[.int .i64 a] 3)) 3 1 (.slice A q ca) q := hps.ta.on ((Shape.refl _).alloc _) (Nat.le_refl _)
            have hwa := hps.wt.alloc _ 3 (int_typed (a : Int))
            have hsz := hps.size
            have hx1 : SlV B (K + 6) (wc.alloc (.cells #[.int .i64 a] 3)) 3 1 (.slice (some ⟨wc.heap.size, 0, none⟩) 1 1) 1 := newRow hsz (by simp) (by omega)
            have hKb : K + 6 ≤ 34359738368 := by have : big = 1073741824 := rfl; omega
            have HPS := Lib.hid hps
            clear hps
            go_wp2_with (first
              | (at_builtin; refine wpList_append_el (w := wc.alloc (.cells #[.int .i64 a] 3)) (P := Tryz.prog) (B := B) (K := K + 6) (K' := K + 6) (n := q) (m := 1) rfl (.tmp 61) (.tmp 63) rfl el22 hwa rfl rfl sva hx1 (by omega) (Nat.le_refl _) hKb (by simp; omega) ?_; intro v9 w9 happ; obtain ⟨hbx, A9, c9, rfl, hfin⟩ := HPS.out.arg ha happ; have j1 : w9.cell? ⟨R + 3, 1, none⟩ = some (.slice A q ca) := cell_of hbx; have jf : w9.frozen? ⟨R + 3, 1, none⟩ = false := free_of hbx; have HFIN := Lib.hid hfin; clear happ hbx hfin))
            exact ⟨⟨q + 1, at2, A9, c9, rfl, by omega, by omega, HFIN.out⟩, by show 1 + n1 - ((q : Int) + 1).toNat < 1 + n1 - ((q : Int)).toNat; omega⟩
        · have hqe : q = n1 + 1 := by omega
          subst hqe
          have hd : ¬ ((n1 + 1 : Nat) : Int) < 1 + (n1 : Int) := by omega
          obtain ⟨Z2, hZ1, hZ2, hmf0⟩ := make_funcs (n1 + 1) (by omega)
          have e8 : ((n1 + 1 : Nat) : Int) = 1 + (n1 : Int) := by omega
          have hmf : ∀ u : World, (Instr.makeSlice 25 (.int .i64 (1 + (n1 : Int))) (.int .i64 (1 + (n1 : Int)))).run Tryz.prog u = .ok (.slice (some ⟨u.heap.size, 0, none⟩) (n1 + 1) (n1 + 1)) (u.alloc (.cells Z2 34)) := fun u => by rw [← e8]; exact hmf0 u
          obtain ⟨gA, rfl⟩ : ∃ g, A = some ⟨g, 0, none⟩ := by
            obtain ⟨g, _, e, _⟩ := hps.args 0 (by omega)
            exact ⟨g, e⟩
          obtain ⟨hb3, hms⟩ := MS.start (K' := K + 6) hps hR.symm (by omega) (by omega) hl (by omega) (Nat.le_refl _) (by omega) (by omega) hZ1 hZ2
          have c0 : wo.cell? ⟨R + 3, 0, none⟩ = some (.slice none 0 0) := cell_of hb3
          have f0 : wo.frozen? ⟨R + 3, 0, none⟩ = false := free_of hb3
          have hR3 : R + 3 < wo.heap.size := heap_lt hb3
          have hcomm : (wo.alloc (.cells Z2 34)).setCell ⟨R + 3, 0, none⟩ (.slice (some ⟨wo.heap.size, 0, none⟩) (n1 + 1) (n1 + 1)) = (wo.setCell ⟨R + 3, 0, none⟩ (.slice (some ⟨wo.heap.size, 0, none⟩) (n1 + 1) (n1 + 1))).alloc (.cells Z2 34) := by go_simp
          rw [hcomm] at hms
          have HMS := Lib.hid hms
          clear hps hms hcomm hb3 hmf0 hZ1 hZ2
          go_upto_region 18 with fail
          generalize World.alloc _ _ = wS at HMS ⊢
          generalize wo.heap.size = Fb at HMS ⊢
          clear c0 f0 hmf hR3
          clear e8 hd
          generalize ((n1 + 1 : Nat) : Int) = z8
          have hS0 : Hid (∃ d, MS B (K + 6) w R Fb gA ca (n1 + 1) 0 (-1) d wS) := ⟨_, HMS.out⟩
          clear HMS
          go_cut [89] (fun s wx => ∃ (bb : Bool) (d : Mk), s = .bool bb ∧ MS B (K + 6 + 1) w R Fb gA ca (n1 + 1) 0 (-1) d wx)
          case first =>
            obtain ⟨d, hms⟩ := hS0.out
            have hK7 : K + 6 + 1 ≤ big := by omega
            obtain ⟨c0, c1, c3, ff, ha⟩ := hms.cells
            obtain ⟨a, ha3, hca⟩ := ha n1 (by omega)
            have e9 : IntKind.i64.wrap (1 + (n1 : Int) - 1) = (n1 : Int) := by rw [IntWalk.i64_in _ (by omega)]; omega
            have r0 : (0 : Int) ≤ (n1 : Int) := by omega
            have r1 : (n1 : Int) < ((n1 + 1 : Nat) : Int) := by omega
            have r2 : (n1 : Int) < (n1 : Int) + 1 := by omega
            have hms7 := Lib.hid (hms.more (Nat.le_succ _) hK7)
            clear ff ha
            by_cases hn0 : n1 = 0
            · have hd0 : decide ((1 : Int) < 1 + (n1 : Int)) = false := by simp; omega
              go_wp2_with fail
              go_meet
              exact ⟨_, _, rfl, hms7.out⟩
            · have hd0 : (1 : Int) < 1 + (n1 : Int) := by omega
              by_cases ha0 : a = 0
              · subst ha0
                go_wp2_with (first
                  | (go_at_call 12; (with_reducible refine (take_ms hms hK7 2 (by decide) (by decide)).mono ?_); rintro e w3 ⟨r3, a3, b3, rfl, hms3⟩))
                all_goals go_meet
                all_goals exact ⟨_, _, rfl, hms3⟩
              · have hd1 : ((a : Int) == 0) = false := by simp; omega
                go_wp2_with fail
                go_meet
                exact ⟨_, _, rfl, hms7.out⟩
          case rest =>
            obtain ⟨bb, d, rfl, hms⟩ := hcut
            go_upto_if 89 with fail
            go_cut [] (fun wx => ∃ (d : Mk) (h : Int), MS B (K + 6 + 1) w R Fb gA ca (n1 + 1) 0 h d wx)
            case first =>
              obtain ⟨c0, c1, c3, ff, _⟩ := hms.cells
              have f3 := ff 3
              have e9 : IntKind.i64.wrap (1 + (n1 : Int) - 1) = (n1 : Int) := by rw [IntWalk.i64_in _ (by omega)]; omega
              have HMS := Lib.hid hms
              clear hms ff
              cases bb
              · go_wp2_with fail
                go_meet
                exact ⟨_, _, HMS.out⟩
              · go_wp2_with fail
                go_meet
                exact ⟨_, _, HMS.out.setH⟩
            case rest =>
              obtain ⟨d, h, hms⟩ := hcut
              have HMS : Hid (MS B (K + 6 + 1) w R Fb gA ca (n1 + 1) 0 h d wc) := hms
              clear hms
              go_wp2_with fail
              go_loopw [10] (fun i wr => ∃ (q me : Nat) (d : Mk), i = .int .i64 q ∧ q ≤ n1 + 1 ∧ MS B (K + 100 + q * 9000) w R Fb gA ca (n1 + 1) me h d wr) (fun i _ => n1 + 1 - (intOf i).toNat)
              case atStart => exact ⟨0, 0, d, rfl, by omega, HMS.out.more (by omega) (by omega)⟩
              case round =>
                obtain ⟨wo2, rfl⟩ : ∃ u, u = wr := ⟨_, rfl⟩
                obtain ⟨q, me, d2, rfl, hq, hms⟩ := hrel
                by_cases hlt : q < n1 + 1
                · have hlt' : (q : Int) < 1 + (n1 : Int) := by omega
                  go_upto_block 5 with fail
                  refine made_round B K q n1 w wo2 R Fb gA ca me h d2 hn1 hlt (by omega) hms _ _ _ _ _ _ _ _ _ _ _ _ _ _ _ _ _ _ _ _ _ _ _ _ _ _ _ _ _ _ _ _ _ _ _ _ _ _ _ _ _ _ _ _ _ _ _ _ _ _ _ _ _ _ _ _ _ _ _ _ _ _ _ _ _ _ _ _ _ _ _ _ _ _ _ _ _ _ _ _ _ _ _ _ _ _ _ _ _ _ _ _ _ _ _ _ _ _ _ _ _ _ _ _ _ _ _ _ _ _ _ _ _ _ _ _ _ _ _ _ _ _ _ _ _ _ _ _ _ _ _ _ _ _ _ _ _ _ _ _ _ _ _ _ _ _ _ _ _ _ _ _ _ _ _ _ _ _ _ _ _ _ _ _ _ _ _ _ _ _ _ _ _ _ _ _ _ _ _ _ _ _ _ _ _ _ _ _ _ _ _ _ _ _ _ _ _ _ _ ?_
                  intro v11 v100 v101 v102 v103 v104 v105 v106 v107 v108 v109 v110 v111 v112 v113 v114 v115 v116 v117 v118 v119 v120 v121 v122 v123 v124 v125 v126 v127 v128 v129 v130 v131 v132 v133 v134 v135 v136 v137 v138 v139 v140 v141 v142 v143 v144 v145 v146 v147 v148 v149 v150 v151 v152 v153 v154 v155 v156 v157 v158 v159 v160 v161 v162 v163 v164 v165 v166 v167 v168 v169 v170 v171 v172 v173 v174 v175 d wx hmsx
                  have HMX := Lib.hid hmsx
                  clear hmsx hms
                  go_wp2_with fail
                  exact ⟨⟨q + 1, q, _, rfl, by omega, HMX.out⟩, by show n1 + 1 - ((q : Int) + 1).toNat < n1 + 1 - ((q : Int)).toNat; omega⟩
                · have hlt' : ¬ (q : Int) < 1 + (n1 : Int) := by omega
                  have hK1 : K + 100 + q * 9000 + 1 ≤ big := by omega
                  obtain ⟨c0, c1, c3, ff, ha⟩ := hms.cells
                  have hms7 := Lib.hid (hms.more (Nat.le_succ _) hK1)
                  clear ff ha
                  go_upto_region 40 with fail
                  go_cut [189] (fun s wx => ∃ (bb : Bool) (dF : Mk), s = .bool bb ∧ MS B (K + 100 + q * 9000 + 1) w R Fb gA ca (n1 + 1) me h dF wx)
                  case first =>
                    by_cases hn2 : (2 : Int) < 1 + (n1 : Int)
                    · by_cases hh : h < 0
                      · go_wp2_with (first
                          | (go_at_call 12; (with_reducible refine (take_ms hms hK1 12 (by decide) (by decide)).mono ?_); rintro e w3 ⟨r3, a3, b3, rfl, hms3⟩))
                        all_goals go_meet
                        all_goals exact ⟨_, _, rfl, hms3⟩
                      · have hh' : decide (h < 0) = false := by simpa using hh
                        go_wp2_with fail
                        go_meet
                        exact ⟨_, _, rfl, hms7.out⟩
                    · have hn2' : decide ((2 : Int) < 1 + (n1 : Int)) = false := by simpa using hn2
                      go_wp2_with fail
                      go_meet
                      exact ⟨_, _, rfl, hms7.out⟩
                  case rest =>
                    obtain ⟨bb, dF, rfl, hmsF⟩ := hcut
                    clear hms7 c0 c1 c3
                    go_upto_if 189 with fail
                    go_cut [] (fun wx => ∃ (dF : Mk), MS B (K + 100 + q * 9000 + 1) w R Fb gA ca (n1 + 1) me h dF wx)
                    case first =>
                      obtain ⟨c0, _, _, _, _⟩ := hmsF.cells
                      obtain ⟨fF, cF⟩ := hmsF.func n1
                      obtain ⟨vF, cF⟩ := cF (by omega)
                      have e9 : IntKind.i64.wrap (1 + (n1 : Int) - 1) = (n1 : Int) := by rw [IntWalk.i64_in _ (by omega)]; omega
                      have r0 : (0 : Int) ≤ (n1 : Int) := by omega
                      have r1 : (n1 : Int) < ((n1 + 1 : Nat) : Int) := by omega
                      have r2 : (n1 : Int) < (n1 : Int) + 1 := by omega
                      have HF := Lib.hid hmsF
                      have HS := Lib.hid (hmsF.setFn (j := n1) (nilV B (K + 100 + q * 9000 + 1) wc 46 5))
                      clear hmsF
                      cases bb
                      · go_wp2_with fail
                        go_meet
                        exact ⟨_, HF.out⟩
                      · go_wp2_with fail
                        go_meet
                        exact ⟨_, HS.out⟩
                    case rest =>
                      obtain ⟨dG, hmsG⟩ := hcut
                      have q0 : wc.cell? ⟨R + 3, 0, none⟩ = some (.slice (some ⟨Fb, 0, none⟩) (n1 + 1 : Nat) (n1 + 1 : Nat)) := cell_of hmsG.bp
                      have q1 : wc.cell? ⟨R + 3, 1, none⟩ = some (.slice (some ⟨gA, 0, none⟩) (n1 + 1 : Nat) ca) := cell_of hmsG.bp
                      have q2 : wc.cell? ⟨R + 3, 2, none⟩ = some (.int .i64 0) := cell_of hmsG.bp
                      have q3 : wc.cell? ⟨R + 3, 3, none⟩ = some (.int .i64 h) := cell_of hmsG.bp
                      have q4 : wc.cell? ⟨R + 3, 4, none⟩ = some (.slice (some ⟨R + 4, 0, none⟩) 3 3) := cell_of hmsG.bp
                      have q5 : wc.cell? ⟨R + 3, 5, none⟩ = some (.slice (some ⟨R + 2, 0, none⟩) 1 1) := cell_of hmsG.bp
                      have g0 : wc.frozen? ⟨R, 0, none⟩ = false := free_of hmsG.b0
                      have g1 : wc.frozen? ⟨R, 1, none⟩ = false := free_of hmsG.b0
                      have g2 : wc.frozen? ⟨R, 2, none⟩ = false := free_of hmsG.b0
                      have g3 : wc.frozen? ⟨R, 3, none⟩ = false := free_of hmsG.b0
                      have g4 : wc.frozen? ⟨R, 4, none⟩ = false := free_of hmsG.b0
                      have g5 : wc.frozen? ⟨R, 5, none⟩ = false := free_of hmsG.b0
                      have z0 : wc.cell? ⟨R, 0, none⟩ = some (.slice none 0 0) := cell_of hmsG.b0
                      have z1 : wc.cell? ⟨R, 1, none⟩ = some (.slice none 0 0) := cell_of hmsG.b0
                      have z2 : wc.cell? ⟨R, 2, none⟩ = some (.int .i64 0) := cell_of hmsG.b0
                      have z3 : wc.cell? ⟨R, 3, none⟩ = some (.int .i64 0) := cell_of hmsG.b0
                      have z4 : wc.cell? ⟨R, 4, none⟩ = some (.slice none 0 0) := cell_of hmsG.b0
                      have z5 : wc.cell? ⟨R, 5, none⟩ = some (.slice none 0 0) := cell_of hmsG.b0
                      have HG := Lib.hid hmsG
                      clear hmsG
                      go_wp2_with fail
                      have hfin := sets6 (w0 := w) (S := B) (v0 := .slice (some ⟨Fb, 0, none⟩) (n1 + 1) (n1 + 1)) (v1 := .slice (some ⟨gA, 0, none⟩) (n1 + 1) ca) (v2 := .int .i64 0) (v3 := .int .i64 h) (v4 := .slice (some ⟨R + 4, 0, none⟩) 3 3) (v5 := .slice (some ⟨R + 2, 0, none⟩) 1 1) HG.out.b0 HG.out.mkr.wt HG.out.bel HG.out.oB _ rfl
                      generalize ((((((wc.setCell ⟨R, 0, none⟩ (.slice (some ⟨Fb, 0, none⟩) (n1 + 1) (n1 + 1))).setCell ⟨R, 1, none⟩ (.slice (some ⟨gA, 0, none⟩) (n1 + 1) ca)).setCell ⟨R, 2, none⟩ (.int .i64 0)).setCell ⟨R, 3, none⟩ (.int .i64 h)).setCell ⟨R, 4, none⟩ (.slice (some ⟨R + 4, 0, none⟩) 3 3)).setCell ⟨R, 5, none⟩ (.slice (some ⟨R + 2, 0, none⟩) 1 1)) = wF at hfin ⊢
                      obtain ⟨hz, hwF, hbF, shF⟩ := hfin
                      have x0 : wF.cell? ⟨R, 0, none⟩ = some (.slice (some ⟨Fb, 0, none⟩) (n1 + 1) (n1 + 1)) := cell_of hz
                      have x1 : wF.cell? ⟨R, 1, none⟩ = some (.slice (some ⟨gA, 0, none⟩) (n1 + 1) ca) := cell_of hz
                      have x2 : wF.cell? ⟨R, 2, none⟩ = some (.int .i64 0) := cell_of hz
                      have x3 : wF.cell? ⟨R, 3, none⟩ = some (.int .i64 h) := cell_of hz
                      have x4 : wF.cell? ⟨R, 4, none⟩ = some (.slice (some ⟨R + 4, 0, none⟩) 3 3) := cell_of hz
                      have x5 : wF.cell? ⟨R, 5, none⟩ = some (.slice (some ⟨R + 2, 0, none⟩) 1 1) := cell_of hz
                      refine bodyPost_ret (v := .agg #[.slice (some ⟨Fb, 0, none⟩) (n1 + 1) (n1 + 1), .slice (some ⟨gA, 0, none⟩) (n1 + 1) ca, .int .i64 0, .int .i64 h, .slice (some ⟨R + 4, 0, none⟩) 3 3, .slice (some ⟨R + 2, 0, none⟩) 1 1]) (by simp [results, Tryz.results5, go_sem, x0, x1, x2, x3, x4, x5]; done) rfl ?_
                      exact ⟨_, n1 + 1, n1 + 1, _, n1 + 1, ca, 0, h, _, 3, 3, _, 1, 1, rfl, (HG.out.fields (by omega)).on shF (by omega), hwF.more (by omega), hbF, HG.out.sh.trans shF⟩
end Go.Proofs.YtahljbkaemhpcaaGreat
