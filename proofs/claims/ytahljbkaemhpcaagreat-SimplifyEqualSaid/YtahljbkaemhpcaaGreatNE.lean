/- A program with one thing changed: Turned. -/
import Derived.Test.YtahljbkaemhpcaaGreatNB
import Derived.Test.YtahljbkaemhpcaaGreatN8
import Derived.Test.YtahljbkaemhpcaaGreatNC
import Derived.Test.YtahljbkaemhpcaaGreatND
namespace Go.Proofs.YtahljbkaemhpcaaGreat
open Go.RowKit
set_option linter.unusedVariables false
theorem spoil_any (B K : Nat) (w : World) (g j : Nat) (cs : Array Value) (what : Int) (nn : Nat) (hw : WT B K w) (hB : B ≤ g) (hBs : B ≤ w.heap.size) (hg : w.heap[g]? = some (.cells cs 46 (0, 0))) (hj : j * 5 + 5 ≤ cs.size) (hK : K + 2 ≤ big) (hn : nn ≤ 65535) :
    Calls Tryz.prog 18 #[.pointer (some ⟨g, j * 5, none⟩), .int .i64 what, .int .i64 nn] w (fun e w' => e = .returned (.tuple #[]) ∧ TyS B (K + 2) w w') := by
  by_cases h5 : what = 5
  · subst h5; exact spoil5 B K w g j cs nn hw hB hBs hg hj hK hn
  by_cases h6 : what = 6
  · subst h6; exact spoil6 B K w g j cs nn hw hB hBs hg hj hK hn
  by_cases h12 : what = 12
  · subst h12; exact spoil12 B K w g j cs nn hw hB hBs hg hj hK hn
  exact spoilA B K w g j cs what (by simpa using h5) (by simpa using h6) (by simpa using h12) nn hw hB hBs hg hj hK hn
theorem and_mask (x : Int) : ∃ n : Nat, bits BinOp.and IntKind.i64 x 65535 = (n : Int) ∧ n ≤ 65535 := by
  have hle : (BitVec.ofInt 64 x &&& BitVec.ofInt 64 65535).toNat ≤ 65535 := by
    rw [BitVec.toNat_and]
    exact Nat.le_trans Nat.and_le_right (by decide)
  refine ⟨(BitVec.ofInt 64 x &&& BitVec.ofInt 64 65535).toNat, ?_, hle⟩
  have e : bits BinOp.and IntKind.i64 x 65535 = IntKind.i64.wrap ((BitVec.ofInt 64 x &&& BitVec.ofInt 64 65535).toNat : Int) := rfl
  rw [e]
  exact IntWalk.i64_in _ (by omega)
/-- As ProgP, the cells written out. -/
def ProgL (B K : Nat) (w : World) (S : Nat) (e : Ending) (w' : World) : Prop :=
  ∃ (fa : Option Addr) (n fc : Nat) (aa : Option Addr) (na ac : Nat) (en ha : Int) (da : Option Addr) (nd dc : Nat) (ba : Option Addr) (nb bc : Nat), e = .returned (.agg #[.slice fa n fc, .slice aa na ac, .int .i64 en, .int .i64 ha, .slice da nd dc, .slice ba nb bc]) ∧ TP B K w' fa n fc aa na ac da nd dc ba nb bc ∧ WT B K w' ∧ Below S w w' ∧ Shape w w'
theorem ProgP.lit {B K : Nat} {w : World} {S : Nat} (e : Ending) (w' : World) (h : ProgP B K w S e w') : ProgL B K w S e w' := h
/-- As ProgP; and no program that stood before has changed. -/
def ProgK (B K : Nat) (w : World) (S : Nat) (e : Ending) (w' : World) : Prop :=
  ∃ (fa : Option Addr) (n fc : Nat) (aa : Option Addr) (na ac : Nat) (en ha : Int) (da : Option Addr) (nd dc : Nat) (ba : Option Addr) (nb bc : Nat), e = .returned (.agg (pc fa n fc aa na ac en ha da nd dc ba nb bc)) ∧ TP B K w' fa n fc aa na ac da nd dc ba nb bc ∧ WT B K w' ∧ Below S w w' ∧ Shape w w' ∧ Keeps 29 w w'
theorem sets6k {B K : Nat} {w0 w : World} {S g : Nat} {a0 a1 a2 a3 a4 a5 v0 v1 v2 v3 v4 v5 : Value} (h : w.heap[g]? = some (.cells #[a0, a1, a2, a3, a4, a5] 29 (0, 0))) (hw : WT B K w) (hb : Below S w0 w) (hS : S ≤ g) :
    ∀ w', w' = (((((w.setCell ⟨g, 0, none⟩ v0).setCell ⟨g, 1, none⟩ v1).setCell ⟨g, 2, none⟩ v2).setCell ⟨g, 3, none⟩ v3).setCell ⟨g, 4, none⟩ v4).setCell ⟨g, 5, none⟩ v5 → w'.heap[g]? = some (.cells #[v0, v1, v2, v3, v4, v5] 29 (0, 0)) ∧ WT B K w' ∧ Below S w0 w' ∧ Shape w w' ∧ (Keeps 29 w0 w → w0.heap.size ≤ g → Keeps 29 w0 w') := by
  rintro w' rfl
  obtain ⟨h1, h2, h3, h4⟩ := sets6 (v0 := v0) (v1 := v1) (v2 := v2) (v3 := v3) (v4 := v4) (v5 := v5) h hw hb hS _ rfl
  refine ⟨h1, h2, h3, h4, fun hk hs => ?_⟩
  have k0 := keeps_set (o := 0) (v := v0) hk h (.inr hs)
  have e0 := Eng.setCell_blk (off := 0) (v := v0) h
  have k1 := keeps_set (o := 1) (v := v1) k0 e0 (.inr hs)
  have e1 := Eng.setCell_blk (off := 1) (v := v1) e0
  have k2 := keeps_set (o := 2) (v := v2) k1 e1 (.inr hs)
  have e2 := Eng.setCell_blk (off := 2) (v := v2) e1
  have k3 := keeps_set (o := 3) (v := v3) k2 e2 (.inr hs)
  have e3 := Eng.setCell_blk (off := 3) (v := v3) e2
  have k4 := keeps_set (o := 4) (v := v4) k3 e3 (.inr hs)
  have e4 := Eng.setCell_blk (off := 4) (v := v4) e3
  exact keeps_set (o := 5) (v := v5) k4 e4 (.inr hs)
end Go.Proofs.YtahljbkaemhpcaaGreat
