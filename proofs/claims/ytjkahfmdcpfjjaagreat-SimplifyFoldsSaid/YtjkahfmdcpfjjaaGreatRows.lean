/-
  No cell of these rows narrows 'for every input' (looked for: loops, veiled, ifaces, maps, wideKeys, modest, calm, conditions, laid).
  DERIVED. THE GIVEN ROWS OF THIS SEAT. 7 by the template 'for every input the law returns true; each argument reads behind the call as it read before'; 0 by the template 'total and deterministic' (their statements: YtjkahfmdcpfjjaaGreatTotals.lean).
  GIVEN WITH THE SEED: the statements are not yours to turn. If you find one false, say at which input.
  Laid BY PROGRAM, IN A SANDBOX (cutbox-rows.mjs): the forced cells as the released guide's own fill.sh prints them over the translation c17c129fb2753485… (all of the seat's roots in one cut). By AI agents, Wed Nov 11 2026. No macro, syntax, notation, axiom, sorry.
-/
import Derived.Test.YtjkahfmdcpfjjaaGreatChecked
import GoSem.Claim
import GoSem.ClaimJoined
import GoSem.ClaimMapViews
import Derived.JoinedTies
import Derived.KernelRfl
namespace Go.Proofs.YtjkahfmdcpfjjaaGreat
/- THE CELL 'sum', in the pinned program and in every row, IS THE sha256 OF THE DUMP (.gsa) THAT YtjkahfmdcpfjjaaGreatProg.lean LOADS. Nothing in Lean hashes anything: it is a label: what it is worth is what the hold of that sum in a sandbox is worth. -/
noncomputable def Tryz.pinned : Pinned := { name := "ytjkahfmdcpfjjaagreat", sum := "c17c129fb27534857aca9f83b5123b20c56548c4112653557d50f10f13a50408", checked := Tryz.checked }
namespace Rows
def none {H : Type} : Left H := { results := [], args := [] }

/-- 'vellumlaw09.SimplifyKeeps': WHATEVER THE INPUT: true; the input reads as it did. -/
def simplifyKeepsSpec : ChangeSpec := { name := "simplifyKeeps", fn := fun _ => fun
  | [d1, d2, d3] => { results := [.lit (.bool true)], args := [d1, d2, d3] }
  | _ => none }
def simplifyKeepsRow : OpenClaim := { program := "ytjkahfmdcpfjjaagreat", sum := "c17c129fb27534857aca9f83b5123b20c56548c4112653557d50f10f13a50408", func := "vellum/vellumlaw09.SimplifyKeeps", spec := "simplifyKeeps", unfollowed := true, recurses := true, plainKeys := false, apart := false }
def SimplifyKeepsSaid : Prop := simplifyKeepsRow.holds Tryz.pinned (OpenSpec.ofChange simplifyKeepsSpec)

/-- ITS FALSE NEIGHBOUR: 'it returns false'. Refute it at one input. -/
def simplifyKeepsWrong : ChangeSpec := { name := "simplifyKeeps", fn := fun _ => fun
  | [d1, d2, d3] => { results := [.lit (.bool false)], args := [d1, d2, d3] }
  | _ => none }
def SimplifyKeepsWrongFalsely : Prop := simplifyKeepsRow.holds Tryz.pinned (OpenSpec.ofChange simplifyKeepsWrong)

/-- 'vellumlaw09.SimplifyNormal': WHATEVER THE INPUT: true; the input reads as it did. -/
def simplifyNormalSpec : ChangeSpec := { name := "simplifyNormal", fn := fun _ => fun
  | [d1, d2, d3] => { results := [.lit (.bool true)], args := [d1, d2, d3] }
  | _ => none }
def simplifyNormalRow : OpenClaim := { program := "ytjkahfmdcpfjjaagreat", sum := "c17c129fb27534857aca9f83b5123b20c56548c4112653557d50f10f13a50408", func := "vellum/vellumlaw09.SimplifyNormal", spec := "simplifyNormal", unfollowed := true, recurses := true, plainKeys := false, apart := false }
def SimplifyNormalSaid : Prop := simplifyNormalRow.holds Tryz.pinned (OpenSpec.ofChange simplifyNormalSpec)

/-- ITS FALSE NEIGHBOUR: 'it returns false'. Refute it at one input. -/
def simplifyNormalWrong : ChangeSpec := { name := "simplifyNormal", fn := fun _ => fun
  | [d1, d2, d3] => { results := [.lit (.bool false)], args := [d1, d2, d3] }
  | _ => none }
def SimplifyNormalWrongFalsely : Prop := simplifyNormalRow.holds Tryz.pinned (OpenSpec.ofChange simplifyNormalWrong)

/-- 'vellumlaw09.SimplifyFolds': WHATEVER THE INPUT: true; the input reads as it did. -/
def simplifyFoldsSpec : ChangeSpec := { name := "simplifyFolds", fn := fun _ => fun
  | [d1, d2, d3] => { results := [.lit (.bool true)], args := [d1, d2, d3] }
  | _ => none }
def simplifyFoldsRow : OpenClaim := { program := "ytjkahfmdcpfjjaagreat", sum := "c17c129fb27534857aca9f83b5123b20c56548c4112653557d50f10f13a50408", func := "vellum/vellumlaw09.SimplifyFolds", spec := "simplifyFolds", unfollowed := true, recurses := true, plainKeys := false, apart := false }
def SimplifyFoldsSaid : Prop := simplifyFoldsRow.holds Tryz.pinned (OpenSpec.ofChange simplifyFoldsSpec)

/-- ITS FALSE NEIGHBOUR: 'it returns false'. Refute it at one input. -/
def simplifyFoldsWrong : ChangeSpec := { name := "simplifyFolds", fn := fun _ => fun
  | [d1, d2, d3] => { results := [.lit (.bool false)], args := [d1, d2, d3] }
  | _ => none }
def SimplifyFoldsWrongFalsely : Prop := simplifyFoldsRow.holds Tryz.pinned (OpenSpec.ofChange simplifyFoldsWrong)

/-- 'vellumlaw09.SimplifyLoops': WHATEVER THE INPUT: true; the input reads as it did. -/
def simplifyLoopsSpec : ChangeSpec := { name := "simplifyLoops", fn := fun _ => fun
  | [d1, d2, d3] => { results := [.lit (.bool true)], args := [d1, d2, d3] }
  | _ => none }
def simplifyLoopsRow : OpenClaim := { program := "ytjkahfmdcpfjjaagreat", sum := "c17c129fb27534857aca9f83b5123b20c56548c4112653557d50f10f13a50408", func := "vellum/vellumlaw09.SimplifyLoops", spec := "simplifyLoops", unfollowed := true, recurses := true, plainKeys := false, apart := false }
def SimplifyLoopsSaid : Prop := simplifyLoopsRow.holds Tryz.pinned (OpenSpec.ofChange simplifyLoopsSpec)

/-- ITS FALSE NEIGHBOUR: 'it returns false'. Refute it at one input. -/
def simplifyLoopsWrong : ChangeSpec := { name := "simplifyLoops", fn := fun _ => fun
  | [d1, d2, d3] => { results := [.lit (.bool false)], args := [d1, d2, d3] }
  | _ => none }
def SimplifyLoopsWrongFalsely : Prop := simplifyLoopsRow.holds Tryz.pinned (OpenSpec.ofChange simplifyLoopsWrong)

/-- 'vellumlaw09.SimplifyAgain': WHATEVER THE INPUT: true; the input reads as it did. -/
def simplifyAgainSpec : ChangeSpec := { name := "simplifyAgain", fn := fun _ => fun
  | [d1, d2, d3] => { results := [.lit (.bool true)], args := [d1, d2, d3] }
  | _ => none }
def simplifyAgainRow : OpenClaim := { program := "ytjkahfmdcpfjjaagreat", sum := "c17c129fb27534857aca9f83b5123b20c56548c4112653557d50f10f13a50408", func := "vellum/vellumlaw09.SimplifyAgain", spec := "simplifyAgain", unfollowed := true, recurses := true, plainKeys := false, apart := false }
def SimplifyAgainSaid : Prop := simplifyAgainRow.holds Tryz.pinned (OpenSpec.ofChange simplifyAgainSpec)

/-- ITS FALSE NEIGHBOUR: 'it returns false'. Refute it at one input. -/
def simplifyAgainWrong : ChangeSpec := { name := "simplifyAgain", fn := fun _ => fun
  | [d1, d2, d3] => { results := [.lit (.bool false)], args := [d1, d2, d3] }
  | _ => none }
def SimplifyAgainWrongFalsely : Prop := simplifyAgainRow.holds Tryz.pinned (OpenSpec.ofChange simplifyAgainWrong)

/-- 'vellumlaw09.SimplifyCanon': WHATEVER THE INPUT: true; the input reads as it did. -/
def simplifyCanonSpec : ChangeSpec := { name := "simplifyCanon", fn := fun _ => fun
  | [d1, d2, d3] => { results := [.lit (.bool true)], args := [d1, d2, d3] }
  | _ => none }
def simplifyCanonRow : OpenClaim := { program := "ytjkahfmdcpfjjaagreat", sum := "c17c129fb27534857aca9f83b5123b20c56548c4112653557d50f10f13a50408", func := "vellum/vellumlaw09.SimplifyCanon", spec := "simplifyCanon", unfollowed := true, recurses := true, plainKeys := false, apart := false }
def SimplifyCanonSaid : Prop := simplifyCanonRow.holds Tryz.pinned (OpenSpec.ofChange simplifyCanonSpec)

/-- ITS FALSE NEIGHBOUR: 'it returns false'. Refute it at one input. -/
def simplifyCanonWrong : ChangeSpec := { name := "simplifyCanon", fn := fun _ => fun
  | [d1, d2, d3] => { results := [.lit (.bool false)], args := [d1, d2, d3] }
  | _ => none }
def SimplifyCanonWrongFalsely : Prop := simplifyCanonRow.holds Tryz.pinned (OpenSpec.ofChange simplifyCanonWrong)

/-- 'vellumlaw09.SimplifyWrong': WHATEVER THE INPUT: true; the input reads as it did. -/
def simplifyWrongSpec : ChangeSpec := { name := "simplifyWrong", fn := fun _ => fun
  | [d1, d2, d3] => { results := [.lit (.bool true)], args := [d1, d2, d3] }
  | _ => none }
def simplifyWrongRow : OpenClaim := { program := "ytjkahfmdcpfjjaagreat", sum := "c17c129fb27534857aca9f83b5123b20c56548c4112653557d50f10f13a50408", func := "vellum/vellumlaw09.SimplifyWrong", spec := "simplifyWrong", unfollowed := true, recurses := true, plainKeys := false, apart := false }
def SimplifyWrongSaid : Prop := simplifyWrongRow.holds Tryz.pinned (OpenSpec.ofChange simplifyWrongSpec)

/-- ITS FALSE NEIGHBOUR: 'it returns false'. Refute it at one input. -/
def simplifyWrongWrong : ChangeSpec := { name := "simplifyWrong", fn := fun _ => fun
  | [d1, d2, d3] => { results := [.lit (.bool false)], args := [d1, d2, d3] }
  | _ => none }
def SimplifyWrongWrongFalsely : Prop := simplifyWrongRow.holds Tryz.pinned (OpenSpec.ofChange simplifyWrongWrong)

/- THE SECOND FORM. 'bulk': how many values and letters a reading holds, each counted each time it is reached (what is shared counts as often as it is met; a slice's spare places count too). A statement '..UptoSaid' is the law's where the arguments, and the package variables that the reading takes, are together of bulk at most 1048576: NARROWER than '..Said'. Prove '..Said' where nothing that the law and all that it calls make is longer than what came in: it says more and counts as full. Else prove '..UptoSaid'. A law counts once. -/
mutual
def uptoBulk {H : Type} : DataW H → Nat
  | .lit (.string bytes) => bytes.length + 1
  | .lit _ => 1
  | .nil => 1
  | .ptr d => uptoBulk d + 1
  | .slice elems spare => uptoBulkAll elems + uptoBulkAll spare + 1
  | .agg parts => uptoBulkAll parts + 1
  | .iface _ d => uptoBulk d + 1
  | .map entries => uptoBulkEntries entries + 1
  | .held _ => 1
def uptoBulkAll {H : Type} : List (DataW H) → Nat
  | [] => 0
  | d :: r => uptoBulk d + uptoBulkAll r
def uptoBulkEntries {H : Type} : List (Lit × DataW H) → Nat
  | [] => 0
  | x :: r => uptoBulkEntry x + uptoBulkEntries r
def uptoBulkEntry {H : Type} : Lit × DataW H → Nat
  | (.string bytes, d) => bytes.length + uptoBulk d + 1
  | (_, d) => uptoBulk d + 1
 end
def uptoSmall : (H : Type) → List (DataW H) → Bool := fun _ ds => decide (uptoBulkAll ds ≤ 1048576)
def OpenSpec.upto (s : _root_.Go.ChangeSpec) : _root_.Go.OpenSpec := { _root_.Go.OpenSpec.ofChange s with cond := some uptoSmall }

/-- 'vellumlaw09.SimplifyKeeps', WHERE WHAT IT READS IS OF BULK AT MOST 1048576: true; the input reads as it did. -/
def simplifyKeepsUptoRow : OpenClaim := { program := "ytjkahfmdcpfjjaagreat", sum := "c17c129fb27534857aca9f83b5123b20c56548c4112653557d50f10f13a50408", func := "vellum/vellumlaw09.SimplifyKeeps", spec := "simplifyKeeps", unfollowed := true, recurses := true, plainKeys := false, apart := false, narrowed := true }
def SimplifyKeepsUptoSaid : Prop := simplifyKeepsUptoRow.holds Tryz.pinned (OpenSpec.upto simplifyKeepsSpec)

/-- 'vellumlaw09.SimplifyNormal', WHERE WHAT IT READS IS OF BULK AT MOST 1048576: true; the input reads as it did. -/
def simplifyNormalUptoRow : OpenClaim := { program := "ytjkahfmdcpfjjaagreat", sum := "c17c129fb27534857aca9f83b5123b20c56548c4112653557d50f10f13a50408", func := "vellum/vellumlaw09.SimplifyNormal", spec := "simplifyNormal", unfollowed := true, recurses := true, plainKeys := false, apart := false, narrowed := true }
def SimplifyNormalUptoSaid : Prop := simplifyNormalUptoRow.holds Tryz.pinned (OpenSpec.upto simplifyNormalSpec)

/-- 'vellumlaw09.SimplifyFolds', WHERE WHAT IT READS IS OF BULK AT MOST 1048576: true; the input reads as it did. -/
def simplifyFoldsUptoRow : OpenClaim := { program := "ytjkahfmdcpfjjaagreat", sum := "c17c129fb27534857aca9f83b5123b20c56548c4112653557d50f10f13a50408", func := "vellum/vellumlaw09.SimplifyFolds", spec := "simplifyFolds", unfollowed := true, recurses := true, plainKeys := false, apart := false, narrowed := true }
def SimplifyFoldsUptoSaid : Prop := simplifyFoldsUptoRow.holds Tryz.pinned (OpenSpec.upto simplifyFoldsSpec)

/-- 'vellumlaw09.SimplifyLoops', WHERE WHAT IT READS IS OF BULK AT MOST 1048576: true; the input reads as it did. -/
def simplifyLoopsUptoRow : OpenClaim := { program := "ytjkahfmdcpfjjaagreat", sum := "c17c129fb27534857aca9f83b5123b20c56548c4112653557d50f10f13a50408", func := "vellum/vellumlaw09.SimplifyLoops", spec := "simplifyLoops", unfollowed := true, recurses := true, plainKeys := false, apart := false, narrowed := true }
def SimplifyLoopsUptoSaid : Prop := simplifyLoopsUptoRow.holds Tryz.pinned (OpenSpec.upto simplifyLoopsSpec)

/-- 'vellumlaw09.SimplifyAgain', WHERE WHAT IT READS IS OF BULK AT MOST 1048576: true; the input reads as it did. -/
def simplifyAgainUptoRow : OpenClaim := { program := "ytjkahfmdcpfjjaagreat", sum := "c17c129fb27534857aca9f83b5123b20c56548c4112653557d50f10f13a50408", func := "vellum/vellumlaw09.SimplifyAgain", spec := "simplifyAgain", unfollowed := true, recurses := true, plainKeys := false, apart := false, narrowed := true }
def SimplifyAgainUptoSaid : Prop := simplifyAgainUptoRow.holds Tryz.pinned (OpenSpec.upto simplifyAgainSpec)

/-- 'vellumlaw09.SimplifyCanon', WHERE WHAT IT READS IS OF BULK AT MOST 1048576: true; the input reads as it did. -/
def simplifyCanonUptoRow : OpenClaim := { program := "ytjkahfmdcpfjjaagreat", sum := "c17c129fb27534857aca9f83b5123b20c56548c4112653557d50f10f13a50408", func := "vellum/vellumlaw09.SimplifyCanon", spec := "simplifyCanon", unfollowed := true, recurses := true, plainKeys := false, apart := false, narrowed := true }
def SimplifyCanonUptoSaid : Prop := simplifyCanonUptoRow.holds Tryz.pinned (OpenSpec.upto simplifyCanonSpec)

/-- 'vellumlaw09.SimplifyWrong', WHERE WHAT IT READS IS OF BULK AT MOST 1048576: true; the input reads as it did. -/
def simplifyWrongUptoRow : OpenClaim := { program := "ytjkahfmdcpfjjaagreat", sum := "c17c129fb27534857aca9f83b5123b20c56548c4112653557d50f10f13a50408", func := "vellum/vellumlaw09.SimplifyWrong", spec := "simplifyWrong", unfollowed := true, recurses := true, plainKeys := false, apart := false, narrowed := true }
def SimplifyWrongUptoSaid : Prop := simplifyWrongUptoRow.holds Tryz.pinned (OpenSpec.upto simplifyWrongSpec)

end Rows
end Go.Proofs.YtjkahfmdcpfjjaaGreat
