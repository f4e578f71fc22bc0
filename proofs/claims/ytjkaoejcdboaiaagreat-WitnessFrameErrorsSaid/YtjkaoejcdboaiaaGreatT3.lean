/- An append leaves what the old row shows. -/
import Derived.Test.YtjkaoejcdboaiaaGreatV0
import Derived.Laws.MakeOwn
import Derived.Laws.OwnMore
import Derived.Test.YtjkaoejcdboaiaaGreatY1
import Derived.Test.YtjkaoejcdboaiaaGreatS4
set_option linter.unusedSimpArgs false
set_option linter.unusedVariables false
set_option linter.unusedSectionVars false
/- A page of code. -/
namespace Go.Proofs.YtjkaoejcdboaiaaGreat
open Go.RowKit Go.Eng
set_option linter.unusedVariables false
set_option linter.unusedSectionVars false
set_option maxRecDepth 100000

/-- A page with the first bytes of some code. -/
def pageL (code : List Int) (k : Nat) : List Int := List.replicate 16 0 ++ (code.take k ++ List.replicate (4080 - k) 0)
theorem pageL_get (code : List Int) (k : Nat) (hk : k ≤ code.length) (hk2 : k ≤ 4080) (j : Nat) : (pageL code k)[j]? = if j < 16 then some 0 else if j < 16 + k then code[j - 16]? else if j < 4096 then some 0 else none := by
  unfold pageL
  by_cases h1 : j < 16
  · rw [if_pos h1, List.getElem?_append_left (by simpa using h1), List.getElem?_replicate, if_pos h1]
  · rw [if_neg h1, List.getElem?_append_right (by simpa using Nat.le_of_not_lt h1)]
    have e : (List.replicate 16 (0 : Int)).length = 16 := by simp
    rw [e]
    have e2 : (code.take k).length = k := by simp; omega
    by_cases h2 : j < 16 + k
    · rw [if_pos h2, List.getElem?_append_left (by omega), List.getElem?_take, if_pos (by omega)]
    · rw [if_neg h2, List.getElem?_append_right (by omega), e2, List.getElem?_replicate]
      by_cases h3 : j < 4096
      · rw [if_pos h3, if_pos (by omega)]
      · rw [if_neg h3, if_neg (by omega)]
theorem page_set (code : List Int) (k : Nat) (c : Int) (hk : code[k]? = some c) (hk2 : k < 4080) : (bytesV (pageL code k)).toArray.setIfInBounds (16 + k) (.int .u8 c) = (bytesV (pageL code (k + 1))).toArray := by
  have hl : k < code.length := (List.getElem?_eq_some_iff.1 hk).1
  apply Array.toList_inj.1
  apply List.ext_getElem?
  intro j
  simp only [List.setIfInBounds_toArray, List.getElem?_set, bytesV, List.getElem?_map]
  rw [pageL_get code (k + 1) (by omega) (by omega) j, pageL_get code k (by omega) (by omega) j]
  have hlen : (List.map (fun x => Value.int IntKind.u8 x) (pageL code k)).length = 4096 := by unfold pageL; simp; omega
  rw [hlen]
  by_cases hj : 16 + k = j
  · subst hj
    rw [if_pos rfl, if_pos (by omega), if_neg (by omega), if_pos (by omega)]
    have : 16 + k - 16 = k := by omega
    rw [this, hk]; rfl
  · rw [if_neg hj]
    by_cases h1 : j < 16
    · simp [h1]
    · by_cases h2 : j < 16 + k
      · simp only [if_neg h1, if_pos h2, if_pos (show j < 16 + (k + 1) by omega)]
      · simp only [if_neg h1, if_neg h2, if_neg (show ¬ j < 16 + (k + 1) by omega)]
def zeros4 : Array Value := madeCells #[.int .u8 0] 4096
theorem zeros4_page (code : List Int) : zeros4 = (bytesV (pageL code 0)).toArray := by
  apply Array.toList_inj.1
  unfold zeros4
  rw [toList_madeCells_one]
  simp only [bytesV, pageL, List.take_zero, List.nil_append, List.map_append, List.map_replicate]
  rw [List.replicate_append_replicate]
set_option maxHeartbeats 4000000 in
theorem page_any (w : World) (code : List Int) (hc : ∀ x ∈ code, 0 ≤ x ∧ x < 256) (hlen : code.length ≤ 4000) :
    Calls Tryz.prog 16 #[.int .i64 16, .string (strB code)] w (fun e w' => e = .returned (.string (strB (pageL code code.length))) ∧ Low w.heap.size w w') := by
  have hsz := strB_size code
  have hr : (Instr.makeSlice 124 (.int .i64 4096) (.int .i64 4096)).run Tryz.prog w = .ok (.slice (some ⟨w.heap.size, 0, none⟩) 4096 4096) (w.alloc (.cells zeros4 5)) := by
    obtain ⟨ti, hti, h⟩ := info_of (α := Unit) (show (Tryz.prog.info? 5).map (fun i => (i.zero, i.size, i.bytes)) = some (some (.int .u8 0), 1, 1) by kernel_rfl)
    simp only [Prod.mk.injEq] at h
    obtain ⟨hz, hs, hb⟩ := h
    have h1 : ((ti.bytes : Nat) : Int) * ((4096 : Nat) : Int) ≤ 281474976710656 := by rw [hb]; omega
    have hr := run_make (P := Tryz.prog) w 124 5 ti (.int .u8 0) Tryz.underlying124 hti hz .i64 .i64 (4096 : Nat) (4096 : Nat) (by omega) (Int.le_refl _) h1 (by omega)
    rw [hs] at hr
    exact hr
  have l1 : Low w.heap.size w (w.alloc (.cells zeros4 5)) := (Low.refl _ _).alloc (Nat.le_refl _) _
  have a1 := heap_new w (.cells zeros4 5)
  rw [zeros4_page code] at a1 l1 hr
  have L1 := Lib.hid l1; have A1 := Lib.hid a1; have HC := Lib.hid hc
  clear l1 a1 hc
  go_enter Tryz.func16, Tryz.ntmps16
  go_upto_region 3 with fail
  obtain ⟨g, hg⟩ : ∃ g, g = w.heap.size := ⟨_, rfl⟩
  rw [← hg] at A1 ⊢
  have HG : Hid (w.heap.size ≤ g) := Lib.hid (by omega)
  clear hg hr
  generalize w.alloc (.cells (bytesV (pageL code 0)).toArray 5) = w1 at L1 A1 ⊢
  go_loopw [6] (fun i wr => ∃ k : Nat, k ≤ code.length ∧ i = .int .i64 k ∧ Low w.heap.size w wr ∧ wr.heap[g]? = some (.cells (bytesV (pageL code k)).toArray 5 (0, 0))) (fun i _ => code.length - (intOf i).toNat)
  case atStart => exact ⟨0, Nat.zero_le _, rfl, L1.out, A1.out⟩
  case round =>
    obtain ⟨k, hk, rfl, hL, hgk⟩ := hrel
    obtain ⟨wv, rfl⟩ : ∃ u, u = wr := ⟨_, rfl⟩
    have LV := Lib.hid hL; have GV := Lib.hid hgk; have HK := Lib.hid hk
    clear hL hgk
    rcases Nat.lt_or_ge k code.length with hlt | hge
    · obtain ⟨c, hcc⟩ : ∃ c, code[k]? = some c := ⟨_, List.getElem?_eq_getElem hlt⟩
      obtain ⟨c0, c1⟩ := HC.out c (List.mem_of_getElem? hcc)
      obtain ⟨v, rfl⟩ : ∃ v : Nat, c = v := ⟨c.toNat, by omega⟩
      have hb1 : k < (strB code).size := by rw [hsz]; exact hlt
      have hbv := strB_at hb1 hcc (by omega)
      have hw1 : IntKind.i64.wrap (16 + (k : Int)) = 16 + k := Go.IntWalk.i64_in _ (by omega)
      have hw2 : IntKind.i64.wrap ((k : Int) + 1) = k + 1 := Go.IntWalk.i64_in _ (by omega)
      have hd1 : decide ((k : Int) < ((strB code).size : Int)) = true := by rw [hsz]; simp; omega
      have hd2 : decide (16 + (k : Int) < 4096) = true := by simp; omega
      have hn1 : (16 + (k : Int)).toNat = 16 + k := by omega
      have hcell : wv.cell? ⟨g, 16 + k, none⟩ = some (.int .u8 0) := by
        rw [cell_of GV.out]
        have := pageL_get code k (by omega) (by omega) (16 + k)
        rw [if_neg (by omega), if_neg (by omega), if_pos (by omega)] at this
        simp [bytesV, this]
      have hfro : wv.frozen? ⟨g, 16 + k, none⟩ = false := free_of GV.out
      have hblk := set_blk (i := 16 + k) (v := .int .u8 v) GV.out
      rw [page_set code k v hcc (by omega)] at hblk
      have HBK := Lib.hid hblk
      have LZ := Lib.hid (LV.out.setCell (g := g) (i := 16 + k) HG.out (.int .u8 v))
      clear hblk hcc
      go_wp2_with fail
      exact ⟨⟨k + 1, hlt, rfl, LZ.out, HBK.out⟩, by simp [intOf]; omega⟩
    · have e : k = code.length := by omega
      subst e
      have hd1 : decide ((code.length : Int) < ((strB code).size : Int)) = false := by rw [hsz]; simp
      have hcv := conv_bytes (w := wv) (a := ⟨g, 0, none⟩) (n := 4096) (c := 4096) (xs := pageL code code.length) (by unfold pageL; simp; omega) (fun j x hj => by
        have hadd : (⟨g, 0, none⟩ : Addr).add j = ⟨g, j, none⟩ := by
          by_cases h0 : j = 0
          · subst h0; simp [Addr.add]
          · simp [Addr.add, h0]
        rw [hadd, cell_of GV.out]
        simp [bytesV, hj])
      go_wp2_with fail
      go_ret
      exact ⟨rfl, LV.out⟩
end Go.Proofs.YtjkaoejcdboaiaaGreat
/- An image of a few instructions. -/
namespace Go.Proofs.YtjkaoejcdboaiaaGreat
open Go.RowKit Go.Eng
set_option linter.unusedVariables false
set_option linter.unusedSectionVars false
set_option maxRecDepth 100000

/-- An instruction without a second word and a bank. -/
structure In where
  op : Int
  d : Int
  s : Int
  imm : Int
  size : Int
/-- An instruction's bytes. -/
structure Encodes (x : In) (bs : List Int) : Prop where
  op : ∃ n : Nat, x.op = n ∧ n < 164 ∧ ∀ w, Calls Tryz.prog 15 #[insV x.op x.d x.s x.imm 0 0 (sizeP n)] w (fun e w' => e = .returned (.tuple #[.string (strB bs), .int .i64 0]) ∧ Low w.heap.size w w')
  lo : ∀ c ∈ bs, 0 ≤ c ∧ c < 256
  len : bs.length ≤ 4
/-- A row of instructions in memory. -/
def InsRow (w : World) (A : Option Addr) (l : List In) : Prop :=
  ∀ (j : Nat) (x : In), l[j]? = some x → ∃ g, A = some ⟨g, 0, none⟩ ∧ w.cell? ⟨g, j * 7, none⟩ = some (.int .i64 x.op) ∧ w.cell? ⟨g, j * 7 + 1, none⟩ = some (.int .i64 x.d) ∧ w.cell? ⟨g, j * 7 + 2, none⟩ = some (.int .i64 x.s) ∧ w.cell? ⟨g, j * 7 + 3, none⟩ = some (.int .u16 x.imm) ∧ w.cell? ⟨g, j * 7 + 4, none⟩ = some (.int .u16 0) ∧ w.cell? ⟨g, j * 7 + 5, none⟩ = some (.int .i64 0) ∧ w.cell? ⟨g, j * 7 + 6, none⟩ = some (.int .i64 x.size)
theorem InsRow.low {w w' : World} {A : Option Addr} {l : List In} (h : InsRow w A l) (hl : Low w.heap.size w w') : InsRow w' A l := fun j x hj => by
  obtain ⟨g, e, h0, h1, h2, h3, h4, h5, h6⟩ := h j x hj
  exact ⟨g, e, hl.cell h0, hl.cell h1, hl.cell h2, hl.cell h3, hl.cell h4, hl.cell h5, hl.cell h6⟩
abbrev imgC0 : Obj := .cells #[.slice none 0 0, .int .u16 0, .int .u16 0, .slice none 0 0, .slice none 0 0] 37
theorem rsize_lo {op : Nat} (hop : op < 164) (w : World) : Calls Tryz.prog 13 #[.int .u8 op] w (fun e w' => e = .returned (.int .i64 (sizeP op)) ∧ Low w.heap.size w w') := rsize_low hop w
/-- The bytes of the first instructions. -/
def preB (bs : List (List Int)) (k : Nat) : List Int := (bs.take k).flatten
theorem flat_take (bs : List (List Int)) (k : Nat) (b : List Int) (h : bs[k]? = some b) : (bs.take (k + 1)).flatten = (bs.take k).flatten ++ b := by
  rw [List.take_add_one, h]; simp
theorem flat_len (bs : List (List Int)) (h : ∀ b ∈ bs, b.length ≤ 4) : bs.flatten.length ≤ 4 * bs.length := by
  induction bs with
  | nil => simp
  | cons b bs ih =>
    have h1 := h b (List.mem_cons_self ..)
    have h2 := ih fun x hx => h x (List.mem_cons_of_mem _ hx)
    simp only [List.flatten_cons, List.length_append, List.length_cons]; omega
set_option maxHeartbeats 8000000 in
theorem tiny_any (w : World) (A : Option Addr) (n c : Nat) (l : List In) (bs : List (List Int)) (hl : l.length = n) (hb : bs.length = n) (hn : n ≤ 100) (hnc : n ≤ c) (hR : InsRow w A l) (he : ∀ (j : Nat) (x : In) (b : List Int), l[j]? = some x → bs[j]? = some b → Encodes x b) :
    Calls Tryz.prog 6 #[.slice A n c] w (fun e w' => ∃ b, e = .returned (imgV b) ∧ w.heap.size ≤ b ∧ w'.heap[b]? = some (.cells #[.string (strB (pageL bs.flatten bs.flatten.length))] 9 (0, 0)) ∧ Low w.heap.size w w') := by
  have hall : ∀ b ∈ bs, b.length ≤ 4 ∧ ∀ x ∈ b, 0 ≤ x ∧ x < 256 := fun b hm => by
    obtain ⟨j, hj, hjb⟩ := List.getElem_of_mem hm
    have h1 : l[j]? = some l[j] := List.getElem?_eq_getElem (by omega)
    have := he j _ b h1 (by rw [List.getElem?_eq_getElem hj, hjb])
    exact ⟨this.len, this.lo⟩
  have hfl := flat_len bs fun b hm => (hall b hm).1
  have hbytes : ∀ x ∈ bs.flatten, 0 ≤ x ∧ x < 256 := fun x hx => by
    obtain ⟨b, h1, h2⟩ := List.mem_flatten.1 hx
    exact (hall b h1).2 x h2
  have L1 := Lib.hid ((Low.refl w.heap.size w).alloc (Nat.le_refl _) (imgC0))
  have A2 := Lib.hid (heap_new w imgC0)
  have HR := Lib.hid (hR.low L1.out); have HE := Lib.hid he; have HF := Lib.hid hfl; have HBY := Lib.hid hbytes
  clear hR he hall hfl hbytes
  go_enter Tryz.func6, Tryz.ntmps6
  go_upto_region 3 with fail
  obtain ⟨t2, ht2⟩ : ∃ t, t = w.heap.size := ⟨_, rfl⟩
  rw [← ht2] at A2 ⊢
  have HT2 : Hid (w.heap.size ≤ t2) := Lib.hid (by omega)
  clear ht2
  have HSZ : Hid (w.heap.size ≤ (w.alloc imgC0).heap.size) := Lib.hid L1.out.size
  generalize w.alloc imgC0 = w1 at L1 A2 HR HSZ ⊢
  go_loopw [3, 4] (fun s i wr => ∃ k : Nat, k ≤ n ∧ i = .int .i64 k ∧ s = .string (strB (preB bs k)) ∧ Low w1.heap.size w1 wr) (fun _ i _ => n - (intOf i).toNat)
  case atStart => exact ⟨0, Nat.zero_le _, rfl, rfl, Low.refl _ _⟩
  case round =>
    obtain ⟨k, hk, rfl, rfl, hL⟩ := hrel
    obtain ⟨wv, rfl⟩ : ∃ u, u = wr := ⟨_, rfl⟩
    have LV := Lib.hid hL; have HK := Lib.hid hk
    clear hL hk
    rcases Nat.lt_or_ge k n with hlt | hge
    · obtain ⟨x, hx⟩ : ∃ x, l[k]? = some x := ⟨_, List.getElem?_eq_getElem (by omega)⟩
      obtain ⟨b, hbk⟩ : ∃ b, bs[k]? = some b := ⟨_, List.getElem?_eq_getElem (by omega)⟩
      obtain ⟨g, rfl, r0, r1, r2, r3, r4, r5, r6⟩ := (HR.out.low LV.out) k x hx
      have hen := HE.out k x b hx hbk
      obtain ⟨m, hm, hm2, hcall⟩ := hen.op
      have hap : strB (preB bs k) ++ strB b = strB (preB bs (k + 1)) := by
        rw [strB_append]; unfold preB; rw [flat_take bs k b hbk]
      obtain ⟨op, d, s, imm, sz⟩ := x
      simp only at hm hcall r0 r1 r2 r3 r6
      subst hm
      have hw1 : IntKind.u8.wrap (m : Int) = m := Go.IntWalk.u8_in _ (by omega)
      have hw2 : IntKind.i64.wrap ((k : Int) + 1) = k + 1 := Go.IntWalk.i64_in _ (by omega)
      have hd1 : decide ((k : Int) < (n : Int)) = true := by simp; omega
      have hs1 := strB_size (preB bs k)
      have hs2 := strB_size b
      have hb4 := hen.len
      have hpl : (preB bs k).length ≤ 400 := by
        have h1 := flat_len (bs.take k) fun b' hb' => by
          obtain ⟨j, hj, hjb⟩ := List.getElem_of_mem (List.mem_of_mem_take hb')
          have h2 : l[j]? = some l[j] := List.getElem?_eq_getElem (by omega)
          exact (HE.out j _ b' h2 (by rw [List.getElem?_eq_getElem hj, hjb])).len
        have h3 : (bs.take k).length ≤ k := by simp; omega
        unfold preB
        omega
      have HCALL := Lib.hid hcall; have HAP := Lib.hid hap
      clear hcall hap hen hx hbk
      obtain ⟨N1, hN1⟩ : ∃ N, N = (preB bs k).length := ⟨_, rfl⟩
      obtain ⟨N2, hN2⟩ : ∃ N, N = b.length := ⟨_, rfl⟩
      rw [← hN1] at hs1 hpl; rw [← hN2] at hs2 hb4
      clear hN1 hN2
      have a5 := heap_new wv (insC m d s imm 0 0 sz)
      have l5 : Low wv.heap.size wv (wv.alloc (insC m d s imm 0 0 sz)) := (Low.refl _ _).alloc (Nat.le_refl _) _
      go_upto_region 6 with fail
      clear r0 r1 r2 r3 r4 r5 r6
      obtain ⟨t5, ht5⟩ : ∃ t, t = wv.heap.size := ⟨_, rfl⟩
      rw [← ht5] at a5 ⊢
      have HT5 := Lib.hid ht5
      clear ht5
      generalize wv.alloc (insC m d s imm 0 0 sz) = w5 at a5 l5 ⊢
      have L5 := Lib.hid l5; have A5 := Lib.hid a5
      have v0 : w5.cell? ⟨t5, 0, none⟩ = some (.int .i64 m) := cell_of a5
      have hsz := rsize_lo (op := m) hm2 w5
      clear l5 a5
      go_upto_region 7 with (first
        | (go_at_call 13
           refine hsz.mono ?_
           rintro e w6 ⟨rfl, l6⟩
           have h5 := l6.some A5.out
           have c56 := cell_of (j := 6) h5
           have f56 := free_of (j := 6) h5
           have b56 := set_blk (i := 6) (v := .int .i64 (sizeP m)) h5))
      clear v0 hsz c56 f56 h5
      have T6 := Turned.set w6 t5 6 (.int .i64 (sizeP m))
      generalize w6.setCell ⟨t5, 6, none⟩ (.int .i64 (sizeP m)) = w7 at T6 b56 ⊢
      have B7 : w7.heap[t5]? = some (insC m d s imm 0 0 (sizeP m)) := b56
      obtain ⟨v0, v1, v2, v3, v4, v5, v6⟩ : InsAt t5 m d s imm 0 0 (sizeP m) w7 := ⟨cell_of B7, cell_of B7, cell_of B7, cell_of B7, cell_of B7, cell_of B7, cell_of B7⟩
      have L7 := Lib.hid ((L5.out.trans (l6.mono L5.out.size)).trans (T6.low (by have := HT5.out; omega)))
      clear l6 T6 b56 B7
      have hca := HCALL.out w7
      have hap := HAP.out
      go_wp2_with (first
        | (go_at_call 15
           refine hca.mono ?_
           rintro e w8 ⟨rfl, l8⟩
           have L8 := Lib.hid (L7.out.trans (l8.mono L7.out.size))
           clear l8))
      exact ⟨⟨k + 1, hlt, rfl, rfl, LV.out.trans (L8.out.mono LV.out.size)⟩, by simp [intOf]; omega⟩
    · have e : k = n := by have := HK.out; omega
      subst e
      have hpre : preB bs k = bs.flatten := by unfold preB; rw [← hb, List.take_length]
      obtain ⟨code, hcode⟩ : ∃ code, code = bs.flatten := ⟨_, rfl⟩
      rw [hpre, ← hcode]
      have HCO := Lib.hid hcode
      have hle : code.length ≤ 400 := by rw [hcode]; have := HF.out; omega
      have hby : ∀ x ∈ code, 0 ≤ x ∧ x < 256 := by rw [hcode]; exact HBY.out
      clear hcode hpre
      have hsz := strB_size code
      have hd1 : decide ((k : Int) < (k : Int)) = false := by simp
      have hlt4 : ¬ (4000 : Int) < (code.length : Int) := by omega
      have hex : (strB code).extract 0 code.length = strB code := by rw [← hsz]; simp
      have hpg := page_any wv code hby (by omega)
      clear hby
      go_wp2_with (first
        | (go_at_call 16
           refine hpg.mono ?_
           rintro e w9 ⟨rfl, l9⟩
           have aB := heap_new w9 (.cells #[.string (strB (pageL code code.length))] 9)
           have lB : Low w9.heap.size w9 (w9.alloc (.cells #[.string (strB (pageL code code.length))] 9)) := (Low.refl _ _).alloc (Nat.le_refl _) _
           have h2 := ((LV.out.trans (l9.mono LV.out.size)).trans (lB.mono (Nat.le_trans LV.out.size l9.size))).some A2.out
           have cz0 := cell_of (j := 0) h2
           have fz0 := free_of (j := 0) h2
           have bz0 := set_blk (i := 0) (v := .slice (some ⟨w9.heap.size, 0, none⟩) 1 1) h2
           have cz1 := cell_of (j := 1) bz0
           have fz1 := free_of (j := 1) bz0
           have bz1 := set_blk (i := 1) (v := .int .u16 16) bz0
           have cz2 := cell_of (j := 2) bz1
           have fz2 := free_of (j := 2) bz1
           have bz2 := set_blk (i := 2) (v := .int .u16 0) bz1
           have cz3 := cell_of (j := 3) bz2
           have fz3 := free_of (j := 3) bz2
           have bz3 := set_blk (i := 3) (v := .slice none 0 0) bz2
           have cz4 := cell_of (j := 4) bz3
           have fz4 := free_of (j := 4) bz3
           have bz4 := set_blk (i := 4) (v := .slice none 0 0) bz3
           have rz0 : ((w9.alloc (.cells #[.string (strB (pageL code code.length))] 9)).setCell ⟨t2, 0, none⟩ (.slice (some ⟨w9.heap.size, 0, none⟩) 1 1)).cell? ⟨t2, 0, none⟩ = some (.slice (some ⟨w9.heap.size, 0, none⟩) 1 1) := (cell_of bz0).trans (by simp)
           have rz1 : (((w9.alloc (.cells #[.string (strB (pageL code code.length))] 9)).setCell ⟨t2, 0, none⟩ (.slice (some ⟨w9.heap.size, 0, none⟩) 1 1)).setCell ⟨t2, 1, none⟩ (.int .u16 16)).cell? ⟨t2, 1, none⟩ = some (.int .u16 16) := (cell_of bz1).trans (by simp)
           have rz2 : ((((w9.alloc (.cells #[.string (strB (pageL code code.length))] 9)).setCell ⟨t2, 0, none⟩ (.slice (some ⟨w9.heap.size, 0, none⟩) 1 1)).setCell ⟨t2, 1, none⟩ (.int .u16 16)).setCell ⟨t2, 2, none⟩ (.int .u16 0)).cell? ⟨t2, 2, none⟩ = some (.int .u16 0) := (cell_of bz2).trans (by simp)
           have rz3 : (((((w9.alloc (.cells #[.string (strB (pageL code code.length))] 9)).setCell ⟨t2, 0, none⟩ (.slice (some ⟨w9.heap.size, 0, none⟩) 1 1)).setCell ⟨t2, 1, none⟩ (.int .u16 16)).setCell ⟨t2, 2, none⟩ (.int .u16 0)).setCell ⟨t2, 3, none⟩ (.slice none 0 0)).cell? ⟨t2, 3, none⟩ = some (.slice none 0 0) := (cell_of bz3).trans (by simp)
           have rz4 : ((((((w9.alloc (.cells #[.string (strB (pageL code code.length))] 9)).setCell ⟨t2, 0, none⟩ (.slice (some ⟨w9.heap.size, 0, none⟩) 1 1)).setCell ⟨t2, 1, none⟩ (.int .u16 16)).setCell ⟨t2, 2, none⟩ (.int .u16 0)).setCell ⟨t2, 3, none⟩ (.slice none 0 0)).setCell ⟨t2, 4, none⟩ (.slice none 0 0)).cell? ⟨t2, 4, none⟩ = some (.slice none 0 0) := (cell_of bz4).trans (by simp)
           have LB := Lib.hid ((LV.out.trans (l9.mono LV.out.size)).trans (lB.mono (Nat.le_trans LV.out.size l9.size)))
           have AB := Lib.hid aB
           have HB9 : Hid (w1.heap.size ≤ w9.heap.size) := Lib.hid (Nat.le_trans LV.out.size l9.size)
           clear l9 lB aB))
      have T9 : Turned t2 (w9.alloc (.cells #[.string (strB (pageL code code.length))] 9)) ((((((w9.alloc (.cells #[.string (strB (pageL code code.length))] 9)).setCell ⟨t2, 0, none⟩ (.slice (some ⟨w9.heap.size, 0, none⟩) 1 1)).setCell ⟨t2, 1, none⟩ (.int .u16 16)).setCell ⟨t2, 2, none⟩ (.int .u16 0)).setCell ⟨t2, 3, none⟩ (.slice none 0 0)).setCell ⟨t2, 4, none⟩ (.slice none 0 0)) := ((((Turned.set _ _ _ _).trans (Turned.set _ _ _ _)).trans (Turned.set _ _ _ _)).trans (Turned.set _ _ _ _)).trans (Turned.set _ _ _ _)
      (try simp only [Exit.inBlock, Exit.then])
      refine bodyPost_ret (by simp [results, Tryz.results6, go_sem, rz0, rz1, rz2, rz3, rz4]; try rfl) rfl ?_
      have hne : w9.heap.size ≠ t2 := by have := HB9.out; have := heap_lt A2.out; omega
      rw [← HCO.out]
      exact ⟨_, rfl, Nat.le_trans HSZ.out HB9.out, (T9.block _ hne).trans AB.out, (L1.out.trans (LB.out.mono HSZ.out)).trans (T9.low HT2.out)⟩
end Go.Proofs.YtjkaoejcdboaiaaGreat
namespace Go.Proofs.YtjkaoejcdboaiaaGreat
open Go.RowKit
set_option linter.unusedVariables false
theorem append_keep {P : Program} {t e size bytes base : Nat} {w : World} (hE : Ap P t e size bytes) {ty : TypeId} {v : Value} {n : Nat} {xs : List Value} (hown : Own w base e size v n xs) {g m c : Nat} {cs : Array Value} {e' : TypeId} {fr : Nat × Nat} (hg : w.heap[g]? = some (.cells cs e' fr)) (hcs : cs.size = m * size) (h1 : ∀ u ∈ cs, u.oneCell' = true) (hn : n + m ≤ 1048576) (hb : base ≤ w.heap.size) :
    ∃ v' w', (Builtin.append_ #[t, t] ty #[v, .slice (some ⟨g, 0, none⟩) m c]).run P w = .ok v' w' ∧ App1 w w' base e size v v' n xs m cs.toList ∧ (∀ q d, v = .slice (some ⟨q, 0, none⟩) n d → ∀ j u, xs[j]? = some u → w'.cell? ⟨q, j, none⟩ = some u) := by
  obtain ⟨v', w', hrun, happ⟩ := append_one (ty := ty) hE hown (c := c) hg hcs h1 hn hb
  refine ⟨v', w', hrun, happ, fun q d hv j u hj => ?_⟩
  subst hv
  obtain ⟨ti, z, hi, hz, hsize, hby, hzs⟩ := hE.info
  have hnews : ∀ j u, cs.toList[j]? = some u → w.cell? ((⟨g, 0, none⟩ : Addr).add j) = some u := fun j u hj => by
    have hadd : (⟨g, 0, none⟩ : Addr).add j = ⟨g, j, none⟩ := by
      by_cases h0 : j = 0
      · subst h0; simp [Addr.add]
      · simp [Addr.add, h0]
    rw [hadd, cell_of hg]
    simpa using hj
  by_cases hroom : n + m ≤ d
  · obtain ⟨w2, hr2, ho2, _⟩ := run_append_fits (P := P) w base t ty e ti size hE.ht hi hsize q n d xs hown ⟨g, 0, none⟩ m c cs.toList (by simpa using hcs) hnews (fun u hu => h1 u (by simpa using hu)) hroom
    rw [hr2] at hrun
    cases hrun
    have ho2 : Own _ base e size (.slice (some ⟨q, 0, none⟩) (n + m) d) (n + m) (xs ++ cs.toList) := ho2
    exact ho2.cell (by rw [List.getElem?_append_left (List.getElem?_eq_some_iff.1 hj).1]; exact hj)
  · have holds : ∀ j u, xs[j]? = some u → w.cell? ((⟨q, 0, none⟩ : Addr).add j) = some u := fun j u hj => by
      have hadd : (⟨q, 0, none⟩ : Addr).add j = ⟨q, j, none⟩ := by
        by_cases h0 : j = 0
        · subst h0; simp [Addr.add]
        · simp [Addr.add, h0]
      rw [hadd]; exact hown.cell hj
    have hlow := hE.low
    have hbytes : (n + m) * ti.bytes ≤ 140737488355328 := by
      rw [hby]
      have := Nat.mul_le_mul hn hlow
      omega
    have hr2 := run_append_grow (P := P) w t ty e ti z hE.ht hi hz ⟨q, 0, none⟩ n d xs (by rw [hsize]; exact hown.1) holds ⟨g, 0, none⟩ m c cs.toList (by rw [hsize]; simpa using hcs) hnews (by omega) (by omega) (growslice_fits (by omega) hbytes)
    rw [hr2] at hrun
    cases hrun
    have hq : w.cell? ⟨q, j, none⟩ = some u := hown.cell hj
    rw [World.cell?_of_block (a := ⟨q, j, none⟩) (Below.heap_alloc _ _ _ (by show q < w.heap.size; exact cell_lt hq))]
    exact hq
end Go.Proofs.YtjkaoejcdboaiaaGreat
