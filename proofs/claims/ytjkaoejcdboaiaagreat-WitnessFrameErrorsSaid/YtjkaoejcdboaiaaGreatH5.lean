/- Frame over the law's two images. -/
import Derived.Test.YtjkaoejcdboaiaaGreatH2
import Derived.Test.YtjkaoejcdboaiaaGreatV1
import Derived.Test.YtjkaoejcdboaiaaGreatV2
import Derived.Test.YtjkaoejcdboaiaaGreatV3
import Derived.Test.YtjkaoejcdboaiaaGreatY5
set_option linter.unusedSimpArgs false
set_option linter.unusedVariables false
set_option linter.unusedSectionVars false
/- What stands in a page: fetch, place by place; Frame over such a page. -/
namespace Go.Proofs.YtjkaoejcdboaiaaGreat
open Go.RowKit Go.Eng
set_option linter.unusedVariables false
set_option linter.unusedSectionVars false
set_option maxRecDepth 100000
theorem strB_extract (L : List Int) (a b : Nat) : (strB L).extract a b = strB ((L.drop a).take (b - a)) := by
  apply ByteArray.ext
  apply Array.toList_inj.1
  rw [ByteArray.data_extract, Array.toList_extract, strB_data, strB_data, List.map_take, List.map_drop, List.extract_eq_take_drop]
/-- A plain instruction and its bytes. -/
structure PlainB (x : In) (bs : List Int) : Prop where
  enc : Encodes x bs
  len : (bs.length : Int) = x.size
  gi : GI x.op x.d x.s x.imm x.size
  dec : ∀ (t : List Int) (u : World), Calls Tryz.prog 42 #[.string (strB (bs ++ t))] u (fun e w' => e = .returned (.tuple #[insV x.op x.d x.s x.imm 0 0 x.size, .int .i64 0]) ∧ Low u.heap.size u w')
theorem gi_of {op d s imm size : Int} (h0 : 32 ≤ op) (h1 : op ≤ 78) (h2 : 0 < size) (h3 : size ≤ 4) (h : ∀ w, Calls Tryz.prog 72 #[insV op d s imm 0 0 size] w (fun e w' => e = .returned (.bool true) ∧ Low w.heap.size w w')) : GI op d s imm size := ⟨h0, h1, h2, h3, h⟩
theorem PlainI.bytes {x : In} (h : PlainI x) : ∃ bs, PlainB x bs := by
  rcases h with ⟨n, d, e, rfl, n0, n1, d1, e1⟩ | ⟨n, d, b, rfl, n0, n1, d1, b1⟩ | ⟨n, d, a, b, rfl, n0, n1, d1, a1, b1⟩
  · refine ⟨[(n : Int), 16 * (d : Int) + e], ⟨⟨n, rfl, by omega, fun w => ?_⟩, fun c hc => ?_, by simp⟩, rfl, gi_of (by show (32 : Int) ≤ n; omega) (by show (n : Int) ≤ 78; omega) (by show (0 : Int) < 2; decide) (by show (2 : Int) ≤ 4; decide) (fun w => valid_regs w n d e n0 n1 d1 e1), fun t u => ?_⟩
    · have := renc_regs n d e (by omega) (by omega) (by omega) (by omega) (by omega) (by omega) w
      rw [(kind_regs n (by omega) n0 n1).2]
      exact this
    · simp at hc; rcases hc with rfl | rfl <;> omega
    · exact decode_regs u _ n d e (by rw [strB_size]; simp) (strB_at (v := n) (by rw [strB_size]; simp) (by simp) (by omega)) (strB_at (v := 16 * d + e) (by rw [strB_size]; simp) (by simp) (by omega)) n0 n1 d1 e1
  · have hx := ext_all b b1
    refine ⟨[(n : Int), (d : Int), (b : Int)], ⟨⟨n, rfl, by omega, fun w => ?_⟩, fun c hc => ?_, by simp⟩, rfl, gi_of (by show (32 : Int) ≤ n; omega) (by show (n : Int) ≤ 78; omega) (by show (0 : Int) < 3; decide) (by show (3 : Int) ≤ 4; decide) (fun w => valid_short w n d b n0 n1 d1 b1), fun t u => ?_⟩
    · have := renc_short n d (extP b) (by omega) (by omega) (by omega) (by omega) hx.2.1 w
      rw [(kind_short n (by omega) n0 n1).2]
      rw [hx.1] at this
      exact this
    · simp at hc; rcases hc with rfl | rfl | rfl <;> omega
    · exact decode_short u _ n d b (by rw [strB_size]; simp) (strB_at (v := n) (by rw [strB_size]; simp) (by simp) (by omega)) (strB_at (v := d) (by rw [strB_size]; simp) (by simp) (by omega)) (strB_at (v := b) (by rw [strB_size]; simp) (by simp) (by omega)) n0 n1 d1 b1
  · refine ⟨[(n : Int), (d : Int), (a : Int), (b : Int)], ⟨⟨n, rfl, by omega, fun w => ?_⟩, fun c hc => ?_, by simp⟩, rfl, gi_of (by show (32 : Int) ≤ n; omega) (by show (n : Int) ≤ 78; omega) (by show (0 : Int) < 4; decide) (by show (4 : Int) ≤ 4; decide) (fun w => valid_long w n d a b n0 n1 d1 a1 b1), fun t u => ?_⟩
    · have := renc_long n d (a + 256 * b : Int) (by omega) (by omega) (by omega) (by omega) w
      rw [(kind_long n (by omega) n0 n1).2]
      rw [show ((a + 256 * b : Int) % 256) = a by omega, show ((a + 256 * b : Int) / 256 % 256) = b by omega] at this
      exact this
    · simp at hc; rcases hc with rfl | rfl | rfl | rfl <;> omega
    · exact decode_long u _ n d a b (by rw [strB_size]; simp) (strB_at (v := n) (by rw [strB_size]; simp) (by simp) (by omega)) (strB_at (v := d) (by rw [strB_size]; simp) (by simp) (by omega)) (strB_at (v := a) (by rw [strB_size]; simp) (by simp) (by omega)) (strB_at (v := b) (by rw [strB_size]; simp) (by simp) (by omega)) a1 b1 n0 n1 d1
/-- A page: zeros, the bytes of some instructions, and what stands behind them. -/
def pageOf (bss : List (List Int)) (T : List Int) : List Int := List.replicate 16 0 ++ (bss.flatten ++ T)
theorem page_at (bss : List (List Int)) (T : List Int) (k : Nat) (bs : List Int) (h : bss[k]? = some bs) : (pageOf bss T).drop (16 + ((bss.take k).flatten).length) = bs ++ ((bss.drop (k + 1)).flatten ++ T) := by
  have hk : k < bss.length := (List.getElem?_eq_some_iff.1 h).1
  have e : bss = bss.take k ++ (bs :: bss.drop (k + 1)) := by
    have h2 : bss[k] = bs := (List.getElem?_eq_some_iff.1 h).2
    rw [← h2, List.getElem_cons_drop, List.take_append_drop]
  have e2 : pageOf bss T = (List.replicate 16 0 ++ (bss.take k).flatten) ++ (bs ++ ((bss.drop (k + 1)).flatten ++ T)) := by
    unfold pageOf
    conv => lhs; rw [e]
    simp
  rw [e2]
  exact List.drop_left' (by rw [List.length_append, List.length_replicate])
theorem page_end (bss : List (List Int)) (T : List Int) : (pageOf bss T).drop (16 + bss.flatten.length) = T := by
  have e2 : pageOf bss T = (List.replicate 16 0 ++ bss.flatten) ++ T := by unfold pageOf; simp
  rw [e2]
  exact List.drop_left' (by rw [List.length_append, List.length_replicate])
/-- The places of instructions in a page. -/
theorem endAt_take (l : List In) (bss : List (List Int)) (hl : bss.length = l.length) (hpb : ∀ (k : Nat) (x : In) (bs : List Int), l[k]? = some x → bss[k]? = some bs → PlainB x bs) : ∀ k, k ≤ l.length → endAt (l.take k) = 16 + (((bss.take k).flatten).length : Int) := by
  intro k
  induction k with
  | zero => intro _; simp [endAt]
  | succ k ih =>
    intro hk
    obtain ⟨x, hx⟩ : ∃ x, l[k]? = some x := ⟨_, List.getElem?_eq_getElem (by omega)⟩
    obtain ⟨bs, hb⟩ : ∃ b, bss[k]? = some b := ⟨_, List.getElem?_eq_getElem (by omega)⟩
    have h1 : l.take (k + 1) = l.take k ++ [x] := by rw [List.take_add_one, hx]; rfl
    have h2 : bss.take (k + 1) = bss.take k ++ [bs] := by rw [List.take_add_one, hb]; rfl
    have h3 := (hpb k x bs hx hb).len
    rw [h1, h2, List.flatten_append, List.length_append]
    have h4 : endAt (l.take k ++ [x]) = endAt (l.take k) + x.size := by simp [endAt]; omega
    rw [h4, ih (by omega)]
    simp only [List.flatten_cons, List.flatten_nil, List.append_nil]
    omega
/-- Frame over a page of plain instructions and what ends the check. -/
theorem frame_of (w : World) (b : Nat) (l : List In) (bss : List (List Int)) (hl : bss.length = l.length) (hn : l.length ≤ 8) (hpb : ∀ (k : Nat) (x : In) (bs : List Int), l[k]? = some x → bss[k]? = some bs → PlainB x bs) (T : List Int) (hT : 16 + bss.flatten.length + T.length = 4096)
    (hb : w.heap[b]? = some (.cells #[.string (strB (pageOf bss T))] 9 (0, 0))) (opN imN szN erN K : Int) (hdec : ∀ u, Calls Tryz.prog 42 #[.string (strB (T.take 7))] u (fun e w' => e = .returned (.tuple #[insV opN 0 0 imN 0 0 szN, .int .i64 erN]) ∧ Low u.heap.size u w'))
    (hbad : Bad opN 0 0 imN 0 0 szN erN K) (h131 : opN ≠ 131) :
    Calls Tryz.prog 7 #[imgV b, plV 16, .int .i64 1, .int .i64 100] w (fun e w' => e = .returned (.agg #[.int .i64 K, .int .i64 0, .int .u16 (endAt l)]) ∧ Low w.heap.size w w') := by
  have hsize : (strB (pageOf bss T)).size = 4096 := by rw [strB_size]; unfold pageOf; rw [List.length_append, List.length_append, List.length_replicate]; omega
  have hat := endAt_take l bss hl hpb
  obtain ⟨xN, hxN⟩ : ∃ x : In, x = ⟨opN, 0, 0, imN, szN⟩ := ⟨_, rfl⟩
  have hall : endAt (l.take l.length) = endAt l := by rw [List.take_length]
  have hflen : ∀ k, k ≤ l.length → ((bss.take k).flatten).length ≤ bss.flatten.length ∧ ((bss.take k).flatten).length ≤ 32 := fun k hk => by
    refine ⟨?_, ?_⟩
    · have : bss.flatten = (bss.take k).flatten ++ (bss.drop k).flatten := by rw [← List.flatten_append, List.take_append_drop]
      rw [this, List.length_append]; omega
    · have := flat_len (bss.take k) fun b' hb' => by
        obtain ⟨j, hj, hjb⟩ := List.getElem_of_mem (List.mem_of_mem_take hb')
        exact (hpb j _ b' (List.getElem?_eq_getElem (by omega)) (by rw [List.getElem?_eq_getElem hj, hjb])).enc.len
      have h3 : (bss.take k).length ≤ k := by simp; omega
      omega
  have hget : ∀ k x, l[k]? = some x → l.getD k xN = x := fun k x hx => by simp [List.getD, hx]
  have hgetN : l.getD l.length xN = xN := by simp [List.getD]
  have hfe : ∀ k, k ≤ l.length → ∀ u : World, u.heap[b]? = some (.cells #[.string (strB (pageOf bss T))] 9 (0, 0)) → Calls Tryz.prog 21 #[imgV b, plV (endAt (l.take k))] u (fun e u' => e = .returned (.tuple #[insV (l.getD k xN).op (l.getD k xN).d (l.getD k xN).s (l.getD k xN).imm 0 0 (l.getD k xN).size, .int .i64 (if k < l.length then 0 else erN)]) ∧ Low u.heap.size u u') := by
    intro k hk u hu
    have h16 := hat k hk
    have hfl := hflen k hk
    have hnat : (endAt (l.take k)).toNat = 16 + ((bss.take k).flatten).length := by omega
    refine fetch_of u b _ hu hsize (endAt (l.take k)) (by omega) (by omega) _ _ _ _ _ _ _ _ (fun u2 => ?_)
    rw [hnat, strB_extract]
    rcases Nat.lt_or_ge k l.length with hlt | hge
    · obtain ⟨x, hx⟩ : ∃ x, l[k]? = some x := ⟨_, List.getElem?_eq_getElem hlt⟩
      obtain ⟨bs, hbs⟩ : ∃ b, bss[k]? = some b := ⟨_, List.getElem?_eq_getElem (by omega)⟩
      have hp := hpb k x bs hx hbs
      rw [hget k x hx, if_pos hlt, page_at bss T k bs hbs]
      have h7 : min 7 (4096 - (16 + ((bss.take k).flatten).length)) = 7 := by omega
      rw [h7, Nat.add_sub_cancel_left, List.take_append]
      have hb4 := hp.enc.len
      rw [List.take_of_length_le (show bs.length ≤ 7 by omega)]
      exact hp.dec _ u2
    · have e : k = l.length := by omega
      subst e
      rw [hgetN, if_neg (by omega), hxN]
      have h5 : bss.take l.length = bss := by rw [← hl, List.take_length]
      rw [h5] at hfl ⊢
      rw [page_end]
      have h7 : min 7 (4096 - (16 + bss.flatten.length)) = 7 := by omega
      rw [h7, Nat.add_sub_cancel_left]
      exact hdec u2
  have hres : ∀ u : World, u.heap[b]? = some (.cells #[.string (strB (pageOf bss T))] 9 (0, 0)) → Calls Tryz.prog 18 #[imgV b, plV 16] u (fun e u' => e = .returned (plV 16) ∧ Low u.heap.size u u') := by
    intro u hu
    have h0 : endAt (l.take 0) = 16 := by simp [endAt]
    have hf0 : ∀ u2, Low u.heap.size u u2 → _ := fun u2 hl2 => hfe 0 (Nat.zero_le _) u2 (hl2.some hu)
    rw [h0] at hf0
    rcases Nat.eq_zero_or_pos l.length with h | h
    · have hl0 : l = [] := List.length_eq_zero_iff.1 h
      subst hl0
      by_cases her : erN = 0
      · subst her
        exact resolve_ok u b 16 xN.op xN.d xN.s xN.imm 0 0 xN.size (by rw [hxN]; exact h131) (fun u2 hl2 => by have := hf0 u2 hl2; simpa using this)
      · exact resolve_err u b 16 xN.op xN.d xN.s xN.imm 0 0 xN.size erN her (fun u2 hl2 => by have := hf0 u2 hl2; simpa using this)
    · obtain ⟨x, hx⟩ : ∃ x, l[0]? = some x := ⟨_, List.getElem?_eq_getElem h⟩
      obtain ⟨bs, hbs⟩ : ∃ b, bss[0]? = some b := ⟨_, List.getElem?_eq_getElem (by omega)⟩
      have hp := (hpb 0 x bs hx hbs).gi
      refine resolve_ok u b 16 (l.getD 0 xN).op (l.getD 0 xN).d (l.getD 0 xN).s (l.getD 0 xN).imm 0 0 (l.getD 0 xN).size (by rw [hget 0 x hx]; have := hp.hi; omega) (fun u2 hl2 => by have := hf0 u2 hl2; rw [if_pos h] at this; exact this)
  have key := frame_any w b _ hsize hb l.length hn (fun k => endAt (l.take k)) (fun k => (l.getD k xN).op) (fun k => (l.getD k xN).d) (fun k => (l.getD k xN).s) (fun k => (l.getD k xN).imm) (fun _ => 0) (fun _ => 0) (fun k => (l.getD k xN).size) (fun k => if k < l.length then 0 else erN) K
    (by simp [endAt]) (fun k hk => by
      obtain ⟨x, hx⟩ : ∃ x, l[k]? = some x := ⟨_, List.getElem?_eq_getElem hk⟩
      show endAt (l.take (k + 1)) = endAt (l.take k) + (l.getD k xN).size
      rw [hget k x hx, List.take_add_one, hx]
      simp [endAt]; omega) (fun k hk => by
      have h16 := hat k hk
      have hfl := hflen k hk
      show 16 ≤ endAt (l.take k) ∧ endAt (l.take k) ≤ 100
      omega) (fun k hk => by
      obtain ⟨x, hx⟩ : ∃ x, l[k]? = some x := ⟨_, List.getElem?_eq_getElem hk⟩
      obtain ⟨bs, hbs⟩ : ∃ b, bss[k]? = some b := ⟨_, List.getElem?_eq_getElem (by omega)⟩
      refine ⟨?_, rfl, rfl, if_pos hk⟩
      show GI (l.getD k xN).op (l.getD k xN).d (l.getD k xN).s (l.getD k xN).imm (l.getD k xN).size
      rw [hget k x hx]
      exact (hpb k x bs hx hbs).gi) hfe (by
      show Bad (l.getD l.length xN).op (l.getD l.length xN).d (l.getD l.length xN).s (l.getD l.length xN).imm 0 0 (l.getD l.length xN).size (if l.length < l.length then 0 else erN) K
      rw [hgetN, hxN, if_neg (by omega)]
      exact hbad) hres
  refine key.mono fun e w' h => ⟨?_, h.2⟩
  rw [h.1, hall]
end Go.Proofs.YtjkaoejcdboaiaaGreat
/- Frame, with more arguments than it allows. -/
namespace Go.Proofs.YtjkaoejcdboaiaaGreat
open Go.RowKit Go.Eng
set_option linter.unusedVariables false
set_option linter.unusedSectionVars false
set_option maxRecDepth 100000
set_option maxHeartbeats 4000000 in
theorem frame_arg (w : World) (b : Nat) (S0 : ByteArray) (hS : S0.size = 4096) (hb : w.heap[b]? = some (.cells #[.string S0] 9 (0, 0))) :
    Calls Tryz.prog 7 #[imgV b, plV 16, .int .i64 9, .int .i64 100] w (fun e w' => e = .returned (.agg #[.int .i64 1, .int .i64 0, .int .u16 0]) ∧ Low w.heap.size w w') := by
  obtain ⟨q, hq⟩ : ∃ q, w.heap.size = q := ⟨_, rfl⟩
  obtain ⟨a4, q4, u4⟩ := alloc_at (imgC b) hq
  obtain ⟨a5, q5, u5⟩ := alloc_at (.cells #[.int .i64 0, .int .u16 16] 40) q4
  obtain ⟨a8, q8, u8⟩ := alloc_at (.cells #[.int .i64 0, .int .i64 0, .int .u16 0] 42) q5
  have a4 := u8 _ _ (u5 _ _ a4)
  have l0 : Low w.heap.size w (((w.alloc (imgC b)).alloc (.cells #[.int .i64 0, .int .u16 16] 40)).alloc (.cells #[.int .i64 0, .int .i64 0, .int .u16 0] 42)) := (((Low.refl _ _).alloc (Nat.le_refl _) _).alloc (by simp) _).alloc (by simp; omega) _
  have HB := Lib.hid hb
  clear u4 u5 u8 q4 q5 a5
  go_enter Tryz.func7, Tryz.ntmps7
  go_upto_region 1 with fail
  have HQ := Lib.hid hq
  obtain ⟨t4, ht4⟩ : ∃ t, t = q := ⟨_, rfl⟩
  obtain ⟨t5, ht5⟩ : ∃ t, t = q + 1 := ⟨_, rfl⟩
  obtain ⟨t8, ht8⟩ : ∃ t, t = q + 1 + 1 := ⟨_, rfl⟩
  rw [← ht8] at a8 q8 ⊢
  rw [← ht5]
  rw [show (Value.pointer (some { block := q, off := 0 })) = Value.pointer (some { block := t4, off := 0 }) by rw [ht4]]
  rw [← ht4] at a4
  have HT : Hid (w.heap.size ≤ t4 ∧ t4 < t5 ∧ t5 < t8) := Lib.hid (by omega)
  clear ht4 ht5 ht8 hq
  generalize (((w.alloc (imgC b)).alloc (.cells #[.int .i64 0, .int .u16 16] 40)).alloc (.cells #[.int .i64 0, .int .i64 0, .int .u16 0] 42)) = w1 at l0 a4 a8 q8 ⊢
  have L0 := Lib.hid l0
  have A8 := Lib.hid a8
  have B1 := Lib.hid (l0.some hb)
  obtain ⟨y0, y1, y2, y3, y4⟩ : ImgAt t4 b w1 := ⟨cell_of a4, cell_of a4, cell_of a4, cell_of a4, cell_of a4⟩
  have hch := icheck_any w1 b S0 hS B1.out
  clear l0 a4 a8 q8 hb
  go_upto_region 2 with (first
    | (go_at_call 17; refine hch.mono ?_; rintro e w2 ⟨rfl, l2⟩))
  clear y0 y1 y2 y3 y4 hch
  have L2 := Lib.hid (L0.out.trans (l2.mono L0.out.size))
  have h8 := l2.some A8.out
  have cz0 := cell_of (j := 0) h8
  have fz0 := free_of (j := 0) h8
  have bz0 := set_blk (i := 0) (v := .int .i64 1) h8
  have cz1 := cell_of (j := 1) bz0
  have fz1 := free_of (j := 1) bz0
  have bz1 := set_blk (i := 1) (v := .int .i64 0) bz0
  have cz2 := cell_of (j := 2) bz1
  have fz2 := free_of (j := 2) bz1
  have bz2 := set_blk (i := 2) (v := .int .u16 0) bz1
  have rz0 := cell_of (j := 0) bz2
  have rz1 := cell_of (j := 1) bz2
  have rz2 := cell_of (j := 2) bz2
  have T : Turned t8 w2 (((w2.setCell ⟨t8, 0, none⟩ (.int .i64 1)).setCell ⟨t8, 1, none⟩ (.int .i64 0)).setCell ⟨t8, 2, none⟩ (.int .u16 0)) := ((Turned.set _ _ _ _).trans (Turned.set _ _ _ _)).trans (Turned.set _ _ _ _)
  have TH := Lib.hid T
  clear bz0 bz1 bz2 h8 l2 T
  repeat (first | go_values | go_skip | go_guarded | go_step | go_upon)
  (try simp only [Exit.inBlock, Exit.then])
  refine bodyPost_ret (by simp [results, Tryz.results7, go_sem, rz0, rz1, rz2]; try rfl) rfl ?_
  refine ⟨rfl, L2.out.trans (TH.out.low (by have := HT.out; omega))⟩
end Go.Proofs.YtjkaoejcdboaiaaGreat
namespace Go.Proofs.YtjkaoejcdboaiaaGreat
open Go.RowKit Go.Eng
set_option linter.unusedVariables false
set_option linter.unusedSectionVars false
set_option maxRecDepth 100000
/-- The bytes of the law's plain instructions. -/
structure Bss (l : List In) (bss : List (List Int)) : Prop where
  len : bss.length = l.length
  each : ∀ (k : Nat) (x : In) (bs : List Int), l[k]? = some x → bss[k]? = some bs → PlainB x bs
theorem bss_of : ∀ (l : List In), (∀ x ∈ l, PlainI x) → ∃ bss, Bss l bss
  | [], _ => ⟨[], rfl, fun k x bs h => by simp at h⟩
  | x :: l, h => by
    obtain ⟨bs, hb⟩ := (h x (List.mem_cons_self ..)).bytes
    obtain ⟨bss, hl, he⟩ := bss_of l fun y hy => h y (List.mem_cons_of_mem _ hy)
    refine ⟨bs :: bss, by simp [hl], fun k y b h1 h2 => ?_⟩
    cases k with
    | zero => simp at h1 h2; subst h1; subst h2; exact hb
    | succ k => exact he k y b (by simpa using h1) (by simpa using h2)
theorem Bss.flat {l : List In} {bss : List (List Int)} (h : Bss l bss) : bss.flatten.length ≤ 4 * l.length := by
  have := flat_len bss fun b hb => by
    obtain ⟨j, hj, hjb⟩ := List.getElem_of_mem hb
    exact (h.each j _ b (List.getElem?_eq_getElem (by have := h.len; omega)) (by rw [List.getElem?_eq_getElem hj, hjb])).enc.len
  have := h.len
  omega
theorem Bss.endAt {l : List In} {bss : List (List Int)} (h : Bss l bss) : endAt l = 16 + (bss.flatten.length : Int) := by
  have := endAt_take l bss h.len h.each l.length (Nat.le_refl _)
  rw [List.take_length, ← h.len, List.take_length] at this
  exact this
theorem Bss.enc {l : List In} {bss : List (List Int)} (h : Bss l bss) (j : Nat) (x : In) (b : List Int) (hx : l[j]? = some x) (hb : bss[j]? = some b) : Encodes x b := (h.each j x b hx hb).enc
/-- Of all the law's instructions. -/
theorem Bss.enc2 {l : List In} {bss : List (List Int)} (h : Bss l bss) {op imm size : Int} {bs : List Nat} {K : Int} (hB : BadI op imm size bs K) (j : Nat) (x : In) (b : List Int) (hx : (l ++ [⟨op, 0, 0, imm, 0⟩, ⟨1, 0, 0, 0, 0⟩])[j]? = some x) (hb : (bss ++ [natI bs, [1]])[j]? = some b) : Encodes x b := by
  rcases Nat.lt_or_ge j l.length with hj | hj
  · rw [List.getElem?_append_left hj] at hx
    rw [List.getElem?_append_left (by rw [h.len]; exact hj)] at hb
    exact h.enc j x b hx hb
  · rw [List.getElem?_append_right hj] at hx
    rw [List.getElem?_append_right (by rw [h.len]; exact hj), h.len] at hb
    generalize j - l.length = i at hx hb
    match i with
    | 0 => simp at hx hb; subst hx; subst hb; exact hB.enc
    | 1 => simp at hx hb; subst hx; subst hb; exact ret_enc
    | i + 2 => simp at hx
theorem strB_app (a b : List Int) : strB (a ++ b) = strB a ++ strB b := by
  apply ByteArray.ext
  apply Array.toList_inj.1
  simp [strB_data]
theorem bytesA_eq (l : List Nat) : bytesA l = strB (natI l) := rfl
theorem frame_bad {l : List In} {bss : List (List Int)} (h : Bss l bss) (hn : l.length ≤ 8) {op imm size : Int} {bs : List Nat} {K : Int} (hB : BadI op imm size bs K) (h131 : op ≠ 131) (w : World) (b : Nat) (F : List Int) (hF : F = (bss ++ [natI bs, [1]]).flatten) (hb : w.heap[b]? = some (.cells #[.string (strB (pageL F F.length))] 9 (0, 0))) :
    Calls Tryz.prog 7 #[imgV b, plV 16, .int .i64 1, .int .i64 100] w (fun e w' => e = .returned (.agg #[.int .i64 K, .int .i64 0, .int .u16 (endAt l)]) ∧ Low w.heap.size w w') := by
  have hfl := h.flat
  have hbl := hB.len
  have hFl : F.length = bss.flatten.length + bs.length + 1 := by rw [hF]; simp [natI]; omega
  obtain ⟨T, hT⟩ : ∃ T, T = natI bs ++ ([1] ++ List.replicate (4080 - F.length) (0 : Int)) := ⟨_, rfl⟩
  have hpg : pageL F F.length = pageOf bss T := by
    unfold pageL pageOf
    rw [List.take_length, hT]
    congr 1
    conv => lhs; rw [hF]
    simp [hF]
  have hTl : T.length = bs.length + 1 + (4080 - F.length) := by rw [hT]; simp [natI]; omega
  have ht7 : T.take 7 = natI (tailL bs) := by
    have e : List.replicate (4080 - F.length) (0 : Int) = List.replicate 7 0 ++ List.replicate (4073 - F.length) 0 := by rw [List.replicate_append_replicate]; congr 1; omega
    rw [hT, e, ← List.append_assoc, ← List.append_assoc, List.take_append_of_le_length (by simp)]
    simp [natI, tailL, List.map_take]
  rw [hpg] at hb
  refine frame_of w b l bss h.len hn h.each T (by omega) hb op imm size 0 K (fun u => ?_) hB.bad h131
  rw [ht7]
  exact hB.dec u
theorem frame_ff {l : List In} {bss : List (List Int)} (h : Bss l bss) (hn : l.length ≤ 8) (w : World) (b : Nat) (hb : w.heap[b]? = some (.cells #[.string (strB (pageOf bss (255 :: List.replicate (4079 - bss.flatten.length) 0)))] 9 (0, 0))) :
    Calls Tryz.prog 7 #[imgV b, plV 16, .int .i64 1, .int .i64 100] w (fun e w' => e = .returned (.agg #[.int .i64 45, .int .i64 0, .int .u16 (endAt l)]) ∧ Low w.heap.size w w') := by
  have hfl := h.flat
  refine frame_of w b l bss h.len hn h.each _ (by rw [List.length_cons, List.length_replicate]; omega) hb 0 0 0 11 45 (fun u => ?_) (.inl ⟨by decide, rfl⟩) (by decide)
  have e : List.replicate (4079 - bss.flatten.length) (0 : Int) = List.replicate 6 0 ++ List.replicate (4073 - bss.flatten.length) 0 := by rw [List.replicate_append_replicate]; congr 1; omega
  rw [e]
  exact dec_ff_calls u
/-- The second image's bytes. -/
theorem none_page (bss : List (List Int)) (hfl : bss.flatten.length ≤ 32) : ((strB (pageL bss.flatten bss.flatten.length)).extract 0 (16 + bss.flatten.length) ++ (⟨#[255]⟩ : ByteArray)) ++ (strB (pageL bss.flatten bss.flatten.length)).extract (16 + bss.flatten.length + 1) 4096 = strB (pageOf bss (255 :: List.replicate (4079 - bss.flatten.length) 0)) := by
  have e : pageL bss.flatten bss.flatten.length = (List.replicate 16 0 ++ bss.flatten) ++ List.replicate (4080 - bss.flatten.length) 0 := by unfold pageL; rw [List.take_length, List.append_assoc]
  have hl : (List.replicate 16 (0 : Int) ++ bss.flatten).length = 16 + bss.flatten.length := by rw [List.length_append, List.length_replicate]
  have h1 : (strB (pageL bss.flatten bss.flatten.length)).extract 0 (16 + bss.flatten.length) = strB (List.replicate 16 0 ++ bss.flatten) := by
    rw [strB_extract, List.drop_zero, e, List.take_left' (by rw [hl]; omega)]
  have h2 : (strB (pageL bss.flatten bss.flatten.length)).extract (16 + bss.flatten.length + 1) 4096 = strB (List.replicate (4079 - bss.flatten.length) 0) := by
    rw [strB_extract, e, ← List.drop_drop, List.drop_left' (by rw [hl]), List.drop_replicate, List.take_replicate]
    congr 2; omega
  have h3 : (⟨#[255]⟩ : ByteArray) = strB [255] := rfl
  rw [h1, h2, h3, ← strB_app, ← strB_app]
  congr 1
  unfold pageOf
  simp
theorem page_size (code : List Int) (h : code.length ≤ 400) : (strB (pageL code code.length)).size = 4096 := by
  rw [strB_size]; unfold pageL; simp; omega
theorem pageOf_size (bss : List (List Int)) (T : List Int) (hT : 16 + bss.flatten.length + T.length = 4096) : (strB (pageOf bss T)).size = 4096 := by rw [strB_size]; unfold pageOf; rw [List.length_append, List.length_append, List.length_replicate]; omega
end Go.Proofs.YtjkaoejcdboaiaaGreat
