/- The statement's function is well formed, whatever the operation. -/
import Derived.Test.YtjkahfmdcpfjjaaGreatE5
import Derived.KernelRfl
import Derived.Test.YtjkahfmdcpfjjaaGreatRows
set_option linter.unusedVariables false
namespace Go.Proofs.YtjkahfmdcpfjjaaGreat
open Go.RowKit
section
set_option maxRecDepth 100000
theorem follows:Tryz.prog.follows .mixedOrders=true:=by kernel_rfl
theorem EA:Go.Il.Ra Tryz.prog 100000 10 [] Go.Il.isTrue=true:=by decide+kernel
theorem EB (w:World):Calls Tryz.prog 10 #[] w (fun e w'=>e=.returned (.bool true)∧Grown w w'):=by
 haveI:Go.Il.Sym:=⟨fun _=>0⟩
 exact Go.Il.IV follows EA w
end
section
open Go.Il
set_option maxRecDepth 100000
def VJ (code res a b:Int) (n:AV):List AV:=[.int .i64 code,.int .i64 res,.int .i64 a,.int .i64 b,n,.ec]
def opsV (c:Int):List AV:=VJ 1 1 0 0 (.sym .u16 0)++VJ 1 2 0 0 (.sym .u16 1)++VJ c 3 1 2 (.int .u16 0)++VJ c 4 0 2 (.int .u16 0)++VJ c 5 1 0 (.int .u16 0)++VJ 25 (-1) 4 0 (.int .u16 1)++VJ 25 (-1) 5 0 (.int .u16 2)
def VG:List AV:=[.int .i64 0]
def XC:List AV:=[.slice 0 0 0 1 1 true 1,.slice 1 0 0 7 7 true 6,.int .i64 4,.int .i64 3,.ec]
noncomputable def oQ (c:Int):St:=⟨((Tr.lf.set 0 (GU 3 VG)).set 1 (GU 67 (opsV c))).set 2 (GU 62 XC),3⟩
noncomputable def oR (c:Int) (v:AV) (st:St):Bool:=isTrue v&&qT st 0 3 VG&&qT st 1 67 (opsV c)&&qT st 2 62 XC
theorem wf5:gn Tryz.prog 100000 31 (oQ 5) [.agg [.slice 2 0 0 1 1 true 5]] (oR 5)=true:=by decide+kernel
end
section
open Go.Il
set_option maxRecDepth 100000
theorem wf6:gn Tryz.prog 100000 31 (oQ 6) [.agg [.slice 2 0 0 1 1 true 5]] (oR 6)=true:=by decide+kernel
theorem wf7:gn Tryz.prog 100000 31 (oQ 7) [.agg [.slice 2 0 0 1 1 true 5]] (oR 7)=true:=by decide+kernel
theorem wf8:gn Tryz.prog 100000 31 (oQ 8) [.agg [.slice 2 0 0 1 1 true 5]] (oR 8)=true:=by decide+kernel
theorem wf9:gn Tryz.prog 100000 31 (oQ 9) [.agg [.slice 2 0 0 1 1 true 5]] (oR 9)=true:=by decide+kernel
theorem ai9:gn Tryz.prog 100000 31 (oQ 10) [.agg [.slice 2 0 0 1 1 true 5]] (oR 10)=true:=by decide+kernel
theorem ai8:gn Tryz.prog 100000 31 (oQ 11) [.agg [.slice 2 0 0 1 1 true 5]] (oR 11)=true:=by decide+kernel
theorem ai7:gn Tryz.prog 100000 31 (oQ 12) [.agg [.slice 2 0 0 1 1 true 5]] (oR 12)=true:=by decide+kernel
theorem ai6:gn Tryz.prog 100000 31 (oQ 13) [.agg [.slice 2 0 0 1 1 true 5]] (oR 13)=true:=by decide+kernel
theorem ai5:gn Tryz.prog 100000 31 (oQ 14) [.agg [.slice 2 0 0 1 1 true 5]] (oR 14)=true:=by decide+kernel
theorem ai4:gn Tryz.prog 100000 31 (oQ 15) [.agg [.slice 2 0 0 1 1 true 5]] (oR 15)=true:=by decide+kernel
theorem ai3:gn Tryz.prog 100000 31 (oQ 16) [.agg [.slice 2 0 0 1 1 true 5]] (oR 16)=true:=by decide+kernel
theorem ai2:gn Tryz.prog 100000 31 (oQ 17) [.agg [.slice 2 0 0 1 1 true 5]] (oR 17)=true:=by decide+kernel
theorem Vk {c:Int} (h5:5≤c) (dz:c≤17):gn Tryz.prog 100000 31 (oQ c) [.agg [.slice 2 0 0 1 1 true 5]] (oR c)=true:=by
 have h:c=5∨c=6∨c=7∨c=8∨c=9∨c=10∨c=11∨c=12∨c=13∨c=14∨c=15∨c=16∨c=17:=by omega
 rcases h with rfl|rfl|rfl|rfl|rfl|rfl|rfl|rfl|rfl|rfl|rfl|rfl|rfl
 ·exact wf5
 ·exact wf6
 ·exact wf7
 ·exact wf8
 ·exact wf9
 ·exact ai9
 ·exact ai8
 ·exact ai7
 ·exact ai6
 ·exact ai5
 ·exact ai4
 ·exact ai3
 ·exact ai2
end
end Go.Proofs.YtjkahfmdcpfjjaaGreat
