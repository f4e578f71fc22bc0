/- The seat's hooks: what blank and Get come to; the pages and the listings of the law's own check. -/
import Derived.Test.YtnbicnmniodjpaaGreatF1
import Derived.Test.YtnbicnmniodjpaaGreatProg
import Derived.KernelRfl
set_option linter.unusedSimpArgs false
set_option linter.unusedVariables false
set_option linter.unusedSectionVars false
namespace Go.Proofs.YtnbicnmniodjpaaGreat
open Go.RowKit Go.Eng
set_option linter.unusedVariables false
set_option linter.unusedSectionVars false
set_option maxRecDepth 100000
theorem follows : Tryz.prog.follows .mixedOrders = true := by kernel_rfl
@[reducible] def s0 : Sym := { val := fun _ => 0 }
/-- An object that does not lie in bank 0, or none. -/
noncomputable def dataOk (st : St) (v : AV) : Bool :=
  match v with
  | .nils => true
  | .slice id ep off 1 _ _ 3 => match cell st id ep off, cell st id ep (off + 1), cell st id ep (off + 2) with
    | some (.int .i64 (.negSucc 0)), some (.int .u16 _), some (.int .u16 _) => true
    | _, _, _ => false
  | _ => false
noncomputable def zeroR : Rec := .cells 5 (Tr.fullT ⟨.int .u8 (.ofNat 0), 0⟩ 14) 4096 0 false
/-- blank: a row of zeros for the one bank. -/
noncomputable def hookBlank : Hook := ⟨fun _ args st k _ => match args with
  | [.agg [.slice id ep off 1 _ _ _, .int .u16 _, .int .u16 _, data, _]] => cellK st id ep off false fun v => match v with
    | .str l => match Nat.beq l.length 4096 && dataOk st data with
      | true => newK st zeroR fun i st => newK st (recOf 64 [.slice i 0 0 4096 4096 true 1]) fun j st => k (.slice j 0 0 1 1 false 1) st
      | false => false
    | _ => false
  | _ => false⟩
/-- word.Get: two bytes. -/
noncomputable def hookGet : Hook := ⟨fun _ args st k _ => match args with
  | [.str (a :: b :: _ :: _)] => natK (a + 256 * b) fun n => k (.int .u16 (.ofNat n)) st
  | _ => false⟩
noncomputable def hkF (f : FuncId) : Option Hook :=
  match f with
  | 27 => some hookBlank
  | 104 => some hookGet
  | _ => none
/-- Where instructions stand. -/
def keysL : List Nat := [0, 2, 3, 6, 100, 102, 103, 104]
def sweepsF (f : FuncId) : List Nat :=
  match f with
  | 16 => keysL
  | 60 => keysL
  | _ => []
def mergesF (f : FuncId) : List Nat :=
  match f with
  | 72 => [35]
  | _ => []
@[reducible] noncomputable def hk : Hooks := { hk := hkF, sweeps := sweepsF, merges := mergesF }
/-- A page with code at 0 and at 100. -/
def pageL (a b : List Nat) : List Nat := (a ++ List.replicate (100 - a.length) 0) ++ (b ++ List.replicate (3996 - b.length) 0)
def itA (p op d s imm size : Int) : List AV := [.int .i64 0, .int .u16 p, .int .i64 op, .int .i64 d, .int .i64 s, .int .u16 imm, .int .u16 0, .int .i64 0, .int .i64 size]
def rtA (e : Int) (j n : Nat) : List AV := [.int .i64 0, .int .u16 e, .bool false, .int .i64 0, .int .u16 0, .slice j 0 0 n n false 9, .nils, .nils]
def stA (e why : Int) : List AV := [.int .i64 0, .int .u16 e, .str [], .bool false, .bool false, .int .i64 why]
def opA (code res a b n : Int) : List AV := [.int .i64 code, .int .i64 res, .int .i64 a, .int .i64 b, .int .u16 n, .nils]
def liftArgs : List AV := [.agg [.slice 0 0 0 1 1 true 1, .int .u16 0, .int .u16 0, .nils, .nils], .agg [.slice 1 0 0 1 1 false 1, .slice 2 0 0 2 2 false 8, .nils]]
def liftStarts (pg : List Nat) (c0 c1 : List AV) (n0 n1 : Nat) : List (TypeId × List AV) := [(9, [.str pg]), (64, []), (96, rtA 0 4 n0 ++ rtA 100 5 n1), (5, []), (99, c0), (99, c1)]
def page1 : List Nat := pageL [48, 0, 7, 145, 0, 3, 1] [160, 0, 2, 1]
def page2 : List Nat := pageL [33, 18, 1] [16, 1, 1]
def lift1 : Memo := ⟨liftArgs, liftStarts page1 (itA 0 48 0 0 7 3 ++ itA 3 145 0 0 3 3 ++ itA 6 1 0 0 0 1) (itA 100 160 0 0 2 3 ++ itA 103 1 0 0 0 1) 3 2,
  .tup [.agg [.slice 8 0 0 2 2 true 1, .slice 9 0 0 2 2 false 1, .int .i64 0, .int .i64 (-1), .nils, .slice 10 0 0 1 1 false 1], .slice 11 0 0 2 2 false 6],
  [(159, [.int .i64 1, .nils]),
   (139, opA 1 0 0 0 7 ++ opA 25 (-1) 0 0 3),
   (136, [.nils, .nils, .int .i64 1, .int .i64 0, .slice 0 0 0 1 1 true 2, .nils, .slice 1 0 0 2 2 false 6, .int .i64 4, .int .i64 0, .nils]),
   (3, [.int .i64 0]),
   (3, [.int .i64 0]),
   (159, [.int .i64 1, .slice 4 0 0 1 1 false 1]),
   (3, [.int .i64 1]),
   (136, [.slice 3 0 0 1 1 false 1, .nils, .int .i64 1, .int .i64 0, .slice 5 0 0 1 1 true 2, .slice 6 0 0 1 1 false 1, .nils, .int .i64 4, .int .i64 1, .nils]),
   (74, [.slice 2 0 0 2 2 false 5, .slice 7 0 0 2 2 false 5]),
   (3, [.int .i64 0, .int .i64 1]),
   (9, [.str page1]),
   (55, stA 0 0 ++ stA 100 0)],
  [[(1413, 0), (1645, 1), (1415, 1), (1934, 0), (2161, 0), (2162, 0), (2393, 0), (2164, 1), (913, 0), (2425, 1), (2422, 0), (2427, 1)]]⟩
def lift2 : Memo := ⟨liftArgs, liftStarts page2 (itA 0 33 1 2 0 2 ++ itA 2 1 0 0 0 1) (itA 100 16 1 0 0 2 ++ itA 102 1 0 0 0 1) 2 2,
  .tup [.agg [.slice 0 0 0 2 2 true 1, .slice 1 0 0 2 2 false 1, .int .i64 0, .int .i64 (-1), .nils, .slice 2 0 0 1 1 false 1], .slice 3 0 0 2 2 false 6],
  [(74, [.nils, .nils]), (3, [.int .i64 0, .int .i64 0]), (9, [.str page2]), (55, stA 0 44 ++ stA 100 43)],
  [[(725, 0), (738, 1), (735, 0), (740, 1)]]⟩
noncomputable def hkS (f : FuncId) : Option Hook :=
  match f with
  | 17 => some (hookMemo [lift1, lift2])
  | f => hkF f
@[reducible] noncomputable def hk2 : Hooks := { hk := hkS, sweeps := sweepsF, merges := mergesF }
end Go.Proofs.YtnbicnmniodjpaaGreat
