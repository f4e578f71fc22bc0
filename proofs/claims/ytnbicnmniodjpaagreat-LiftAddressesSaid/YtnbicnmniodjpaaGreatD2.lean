/- vellumref03.ObjectAt, where no object lies in the bank; vellumref05.blank. -/
import Derived.Test.YtnbicnmniodjpaaGreatD1
import Derived.Laws.AppendOwn
set_option linter.unusedSimpArgs false
set_option linter.unusedVariables false
set_option linter.unusedSectionVars false
namespace Go.Proofs.YtnbicnmniodjpaaGreat
open Go.RowKit
set_option linter.unusedVariables false
set_option linter.unusedSectionVars false
set_option maxRecDepth 100000
/-- No object, or one that does not lie in a bank. -/
def DataIs (w : World) (v : Value) : Prop :=
  v = .slice none 0 0 ∨ ∃ (d q c : Nat) (a s : Int), v = .slice (some ⟨d, q, none⟩) 1 c ∧ w.cell? ⟨d, q, none⟩ = some (.int .i64 (-1)) ∧ w.cell? ⟨d, q + 1, none⟩ = some (.int .u16 a) ∧ w.cell? ⟨d, q + 2, none⟩ = some (.int .u16 s)
theorem objectAt_any (w : World) (v : Value) (hv : DataIs w v) (k : Int) :
    Calls Tryz.prog 42 #[v, .int .i64 0, .int .u16 k] w (fun e w' => e = .returned (.tuple #[.int .i64 0, .int .u16 0, .bool false]) ∧ Below w.heap.size w w') := by
  rcases hv with rfl | ⟨d, q, c, a, s, rfl, h0, h1, h2⟩
  · go_enter Tryz.func42, Tryz.ntmps42
    go_wp2
    go_loopw [9] (fun i wr => i = .int .i64 0 ∧ wr = w) (fun i _ => 1 - (intOf i).toNat)
    case atStart => exact ⟨rfl, rfl⟩
    case round =>
      obtain ⟨rfl, rfl⟩ := hrel
      go_wp2
      refine bodyPost_ret (by simp [results, Tryz.results42, go_sem]; try rfl) rfl ?_
      exact ⟨rfl, Below.refl _ _⟩
  · have H0 := Lib.hid h0; have H1 := Lib.hid h1; have H2 := Lib.hid h2
    have hd : d < w.heap.size := World.block_lt_of_cell? _ _ h0
    clear h0 h1 h2
    go_enter Tryz.func42, Tryz.ntmps42
    go_wp2
    go_loopw [9] (fun i wr => ∃ k : Nat, k ≤ 1 ∧ i = .int .i64 k ∧ Below w.heap.size w wr) (fun i _ => 1 - (intOf i).toNat)
    case atStart => exact ⟨0, by decide, rfl, Below.refl _ _⟩
    case round =>
      obtain ⟨n, hn, rfl, hb⟩ := hrel
      have HB := Lib.hid hb
      have h0 := (hb.cell (p := ⟨d, q, none⟩) hd).trans H0.out
      have h1 := (hb.cell (p := ⟨d, q + 1, none⟩) hd).trans H1.out
      have h2 := (hb.cell (p := ⟨d, q + 2, none⟩) hd).trans H2.out
      clear hb
      rcases (show n = 0 ∨ n = 1 by omega) with rfl | rfl
      · go_wp2
        exact ⟨⟨1, by decide, rfl, HB.out.trans ((Below.refl _ _).alloc HB.out.size _)⟩, by decide⟩
      · go_wp2
        refine bodyPost_ret (by simp [results, Tryz.results42, go_sem]; try rfl) rfl ?_
        exact ⟨rfl, HB.out⟩
end Go.Proofs.YtnbicnmniodjpaaGreat
