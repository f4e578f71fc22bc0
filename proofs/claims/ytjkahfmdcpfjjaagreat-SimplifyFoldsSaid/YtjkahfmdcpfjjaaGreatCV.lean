/- The reference: the machine: its memory. -/
import Derived.Test.YtjkahfmdcpfjjaaGreatCS
import Derived.Laws.BytesString
set_option linter.unusedVariables false
namespace Go.Proofs.YtjkahfmdcpfjjaaGreat
open Go.RowKit
section
set_option maxRecDepth 100000
set_option maxHeartbeats 8000000
theorem Es (w:World) (m VV N:Nat) (d r n:Int) (a b:Int) (hN:N≤1000):
 Calls Tryz.prog 129 #[.pointer (ad m),.agg #[G 1,G r,G a,G b,.int .u16 n,Zs],.slice (ad VV) N N,G d] w (fun e w'=>e=.returned (.int .u16 n)∧ak w.heap.size w w'):=by
 have l1:ak w.heap.size w (w.alloc (.cells #[G 1,G r,G a,G b,.int .u16 n,Zs] 67)):=F0
 have a1:=ao w (.cells #[G 1,G r,G a,G b,.int .u16 n,Zs] 67)
 have ja:Calls Tryz.prog 65 #[G 1] (w.alloc (.cells #[G 1,G r,G a,G b,.int .u16 n,Zs] 67)) (fun e w'=>e=.returned (.agg #[.bool true,.bool true,.bool false,.bool false,.bool true])∧ak (w.alloc (.cells #[G 1,G r,G a,G b,.int .u16 n,Zs] 67)).heap.size (w.alloc (.cells #[G 1,G r,G a,G b,.int .u16 n,Zs] 67)) w'):=dC _ 1 (by unfold aS;decide)
 go_enter Tryz.func129,Tryz.ntmps129
 go_upto_region 3 with fail
 obtain⟨t5,gh⟩:∃t,t=w.heap.size:=⟨_,rfl⟩
 rw[←gh]at a1⊢
 clear gh
 generalize w.alloc (.cells #[G 1,G r,G a,G b,.int .u16 n,Zs] 67)=w1 at l1 a1 ja⊢
 have y0:=bf a1
 go_upto_region 4 with(first
  |(go_at_call 65;(with_reducible refine ja.mono ?_);rintro e w2 ⟨rfl,l2⟩))
 have l3:ak w2.heap.size w2 (w2.alloc (.cells #[.bool true,.bool true,.bool false,.bool false,.bool true] 102)):=F0
 have a3:=ao w2 (.cells #[.bool true,.bool true,.bool false,.bool false,.bool true] 102)
 have b3:=l3.some (l2.some a1)
 have sZ:=cf (l2.trans (l3.mono l2.size))
 have L3:=cf (l1.trans (sZ.out.mono l1.size))
 obtain⟨t11,iq⟩:∃t,t=w2.heap.size:=⟨_,rfl⟩
 rw[←iq]at a3⊢
 clear iq y0 ja
 have L1:=cf l1
 clear l1 l2 l3 a1
 generalize w2.alloc (.cells #[.bool true,.bool true,.bool false,.bool false,.bool true] 102)=w3 at a3 b3 sZ L3⊢
 obtain⟨y0,y1,y2,y3,y4,y5⟩:=aC b3
 have z2:=rn a3
 have z3:=mM a3
 clear a3 b3
 go_wp2_with fail
 go_ret
 exact⟨rfl,L3.out⟩
theorem IQ (w:World) (m VV N:Nat) (d r n:Int) (b:Int) (hN:N≤1000) (vcs:Array Value) (hv:w.heap[VV]?=some (.cells vcs 27 (0,0))) (ai:Nat) (x:Int) (FM:ai<N) (uQ:vcs[ai]?=some (.int .u16 x)) (hx:W x):
 Calls Tryz.prog 129 #[.pointer (ad m),.agg #[G 3,G r,G ai,G b,.int .u16 n,Zs],.slice (ad VV) N N,G d] w (fun e w'=>e=.returned (.int .u16 (fj 3 x 0))∧ak w.heap.size w w'):=by
 have HX:=cf hx
 have l1:ak w.heap.size w (w.alloc (.cells #[G 3,G r,G ai,G b,.int .u16 n,Zs] 67)):=F0
 have a1:=ao w (.cells #[G 3,G r,G ai,G b,.int .u16 n,Zs] 67)
 have ja:Calls Tryz.prog 65 #[G 3] (w.alloc (.cells #[G 3,G r,G ai,G b,.int .u16 n,Zs] 67)) (fun e w'=>e=.returned (.agg #[.bool true,.bool true,.bool true,.bool false,.bool false])∧ak (w.alloc (.cells #[G 3,G r,G ai,G b,.int .u16 n,Zs] 67)).heap.size (w.alloc (.cells #[G 3,G r,G ai,G b,.int .u16 n,Zs] 67)) w'):=dC _ 3 (by unfold aS;decide)
 go_enter Tryz.func129,Tryz.ntmps129
 go_upto_region 3 with fail
 obtain⟨t5,gh⟩:∃t,t=w.heap.size:=⟨_,rfl⟩
 rw[←gh]at a1⊢
 clear gh
 generalize w.alloc (.cells #[G 3,G r,G ai,G b,.int .u16 n,Zs] 67)=w1 at l1 a1 ja⊢
 have y0:=bf a1
 go_upto_region 4 with(first
  |(go_at_call 65;(with_reducible refine ja.mono ?_);rintro e w2 ⟨rfl,l2⟩))
 have l3:ak w2.heap.size w2 (w2.alloc (.cells #[.bool true,.bool true,.bool true,.bool false,.bool false] 102)):=F0
 have a3:=ao w2 (.cells #[.bool true,.bool true,.bool true,.bool false,.bool false] 102)
 have b3:=l3.some (l2.some a1)
 have sZ:=cf (l2.trans (l3.mono l2.size))
 have L3:=cf (l1.trans (sZ.out.mono l1.size))
 obtain⟨t11,iq⟩:∃t,t=w2.heap.size:=⟨_,rfl⟩
 rw[←iq]at a3⊢
 clear iq y0 ja
 have L1:=cf l1
 clear l1 l2 l3 a1
 generalize w2.alloc (.cells #[.bool true,.bool true,.bool true,.bool false,.bool false] 102)=w3 at a3 b3 sZ L3⊢
 obtain⟨y0,y1,y2,y3,y4,y5⟩:=aC b3
 have z2:=rn a3
 have z3:=mM a3
 have YW:w3.cell? ⟨VV,ai,none⟩=some (.int .u16 x):=(Yc (L3.out.some hv)).trans uQ
 have PC:(ai:Int)<(N:Int):=by omega
 have ai0:(0:Int)≤(ai:Int):=by omega
 have ain:(ai:Int)≤1000:=by omega
 clear a3 b3 hv hx
 go_wp2_with fail
 go_ret
 exact⟨by rw[show fj 3 x 0=(-x)%65536 from rfl,←eh,show-x=0-x by omega];rfl,L3.out⟩
theorem IP (w:World) (m VV N:Nat) (d r n:Int) (b:Int) (hN:N≤1000) (vcs:Array Value) (hv:w.heap[VV]?=some (.cells vcs 27 (0,0))) (ai:Nat) (x:Int) (FM:ai<N) (uQ:vcs[ai]?=some (.int .u16 x)) (hx:W x):
 Calls Tryz.prog 129 #[.pointer (ad m),.agg #[G 4,G r,G ai,G b,.int .u16 n,Zs],.slice (ad VV) N N,G d] w (fun e w'=>e=.returned (.int .u16 (fj 4 x 0))∧ak w.heap.size w w'):=by
 have HX:=cf hx
 have l1:ak w.heap.size w (w.alloc (.cells #[G 4,G r,G ai,G b,.int .u16 n,Zs] 67)):=F0
 have a1:=ao w (.cells #[G 4,G r,G ai,G b,.int .u16 n,Zs] 67)
 have ja:Calls Tryz.prog 65 #[G 4] (w.alloc (.cells #[G 4,G r,G ai,G b,.int .u16 n,Zs] 67)) (fun e w'=>e=.returned (.agg #[.bool true,.bool true,.bool true,.bool false,.bool false])∧ak (w.alloc (.cells #[G 4,G r,G ai,G b,.int .u16 n,Zs] 67)).heap.size (w.alloc (.cells #[G 4,G r,G ai,G b,.int .u16 n,Zs] 67)) w'):=dC _ 4 (by unfold aS;decide)
 go_enter Tryz.func129,Tryz.ntmps129
 go_upto_region 3 with fail
 obtain⟨t5,gh⟩:∃t,t=w.heap.size:=⟨_,rfl⟩
 rw[←gh]at a1⊢
 clear gh
 generalize w.alloc (.cells #[G 4,G r,G ai,G b,.int .u16 n,Zs] 67)=w1 at l1 a1 ja⊢
 have y0:=bf a1
 go_upto_region 4 with(first
  |(go_at_call 65;(with_reducible refine ja.mono ?_);rintro e w2 ⟨rfl,l2⟩))
 have l3:ak w2.heap.size w2 (w2.alloc (.cells #[.bool true,.bool true,.bool true,.bool false,.bool false] 102)):=F0
 have a3:=ao w2 (.cells #[.bool true,.bool true,.bool true,.bool false,.bool false] 102)
 have b3:=l3.some (l2.some a1)
 have sZ:=cf (l2.trans (l3.mono l2.size))
 have L3:=cf (l1.trans (sZ.out.mono l1.size))
 obtain⟨t11,iq⟩:∃t,t=w2.heap.size:=⟨_,rfl⟩
 rw[←iq]at a3⊢
 clear iq y0 ja
 have L1:=cf l1
 clear l1 l2 l3 a1
 generalize w2.alloc (.cells #[.bool true,.bool true,.bool true,.bool false,.bool false] 102)=w3 at a3 b3 sZ L3⊢
 obtain⟨y0,y1,y2,y3,y4,y5⟩:=aC b3
 have z2:=rn a3
 have z3:=mM a3
 have YW:w3.cell? ⟨VV,ai,none⟩=some (.int .u16 x):=(Yc (L3.out.some hv)).trans uQ
 have PC:(ai:Int)<(N:Int):=by omega
 have ai0:(0:Int)≤(ai:Int):=by omega
 have ain:(ai:Int)≤1000:=by omega
 clear a3 b3 hv hx
 have hw:IntKind.u16.wrap (65535-x)=65535-x:=by rw[eh];have:=HX.out;unfold W at this;omega
 have HW:=cf hw
 clear hw
 go_wp2_with fail
 go_ret
 exact⟨by show Ending.returned (Value.int .u16 (IntKind.u16.wrap (65535-x)))=_;rw[HW.out];rfl,L3.out⟩
theorem ay5 (w:World) (m VV N:Nat) (c d r n:Int) (h5:5≤c) (dz:c≤17) (hN:N≤1000) (vcs:Array Value) (hv:w.heap[VV]?=some (.cells vcs 27 (0,0))) (ai:Nat) (x:Int) (FM:ai<N) (uQ:vcs[ai]?=some (.int .u16 x)) (hx:W x) (bi:Nat) (y:Int) (Sy:bi<N) (Zu:vcs[bi]?=some (.int .u16 y)) (hy:W y) (h8:c≠8):
 Calls Tryz.prog 129 #[.pointer (ad m),.agg #[G c,G r,G ai,G bi,.int .u16 n,Zs],.slice (ad VV) N N,G d] w (fun e w'=>e=.returned (.int .u16 (arith c x y))∧ak w.heap.size w w'):=by
 have WZ:=fun u:World=>KN u c x y h5 dz hx hy (fun h=>absurd h h8)
 have HX:=cf hx;have HY:=cf hy
 have l1:ak w.heap.size w (w.alloc (.cells #[G c,G r,G ai,G bi,.int .u16 n,Zs] 67)):=F0
 have a1:=ao w (.cells #[G c,G r,G ai,G bi,.int .u16 n,Zs] 67)
 have ja:Calls Tryz.prog 65 #[G c] (w.alloc (.cells #[G c,G r,G ai,G bi,.int .u16 n,Zs] 67)) (fun e w'=>e=.returned (.agg #[.bool true,.bool true,.bool true,.bool true,.bool false])∧ak (w.alloc (.cells #[G c,G r,G ai,G bi,.int .u16 n,Zs] 67)).heap.size (w.alloc (.cells #[G c,G r,G ai,G bi,.int .u16 n,Zs] 67)) w'):=by
  have h:=dC (w.alloc (.cells #[G c,G r,G ai,G bi,.int .u16 n,Zs] 67)) c (by simp only[aS,List.mem_cons,List.not_mem_nil,or_false];omega)
  rw[show bR c=true by simp[bR];omega,show iB c=false by simp[iB];omega,show aZ c=true by unfold aZ;simp;omega,show bc c=true by unfold bc;simp;omega]at h
  exact h
 have hk:(c==1)=false∧(c==2)=false∧(c==3)=false∧(c==4)=false∧(c==8)=false∧(c==18)=false∧(c==19)=false∧(c==20)=false∧(c==21)=false∧(c==22)=false∧(c==23)=false∧(c==24)=false∧(c==25)=false∧(c==26)=false∧(c==27)=false:=by simp;omega
 clear h5 dz h8
 go_enter Tryz.func129,Tryz.ntmps129
 go_upto_region 3 with fail
 obtain⟨t5,gh⟩:∃t,t=w.heap.size:=⟨_,rfl⟩
 rw[←gh]at a1⊢
 clear gh
 generalize w.alloc (.cells #[G c,G r,G ai,G bi,.int .u16 n,Zs] 67)=w1 at l1 a1 ja⊢
 have y0:=bf a1
 go_upto_region 4 with(first
  |(go_at_call 65;(with_reducible refine ja.mono ?_);rintro e w2 ⟨rfl,l2⟩))
 have l3:ak w2.heap.size w2 (w2.alloc (.cells #[.bool true,.bool true,.bool true,.bool true,.bool false] 102)):=F0
 have a3:=ao w2 (.cells #[.bool true,.bool true,.bool true,.bool true,.bool false] 102)
 have b3:=l3.some (l2.some a1)
 have sZ:=cf (l2.trans (l3.mono l2.size))
 have L3:=cf (l1.trans (sZ.out.mono l1.size))
 obtain⟨t11,iq⟩:∃t,t=w2.heap.size:=⟨_,rfl⟩
 rw[←iq]at a3⊢
 clear iq y0 ja
 have L1:=cf l1
 clear l1 l2 l3 a1
 generalize w2.alloc (.cells #[.bool true,.bool true,.bool true,.bool true,.bool false] 102)=w3 at a3 b3 sZ L3⊢
 obtain⟨y0,y1,y2,y3,y4,y5⟩:=aC b3
 have z2:=rn a3
 have z3:=mM a3
 have YW:w3.cell? ⟨VV,ai,none⟩=some (.int .u16 x):=(Yc (L3.out.some hv)).trans uQ
 have PC:(ai:Int)<(N:Int):=by omega
 have ai0:(0:Int)≤(ai:Int):=by omega
 have ain:(ai:Int)≤1000:=by omega
 have vbi:w3.cell? ⟨VV,bi,none⟩=some (.int .u16 y):=(Yc (L3.out.some hv)).trans Zu
 have ae1:(bi:Int)<(N:Int):=by omega
 have bi0:(0:Int)≤(bi:Int):=by omega
 have bin:(bi:Int)≤1000:=by omega
 clear a3 b3 hv hx hy
 go_wp2_with(first
  |(go_at_call 177;(with_reducible refine(WZ _).mono ?_);rintro e u ⟨rfl,hu⟩;rw[hu];clear hu u))
 go_ret
 exact⟨rfl,L3.out⟩
theorem IM (w:World) (m VV N:Nat) (d r n:Int) (hN:N≤1000) (vcs:Array Value) (hv:w.heap[VV]?=some (.cells vcs 27 (0,0))) (ai:Nat) (x:Int) (FM:ai<N) (uQ:vcs[ai]?=some (.int .u16 x)) (hx:W x) (bi:Nat) (y:Int) (Sy:bi<N) (Zu:vcs[bi]?=some (.int .u16 y)) (hy:W y) (h8:y≠0):
 Calls Tryz.prog 129 #[.pointer (ad m),.agg #[G 8,G r,G ai,G bi,.int .u16 n,Zs],.slice (ad VV) N N,G d] w (fun e w'=>e=.returned (.int .u16 (arith 8 x y))∧ak w.heap.size w w'):=by
 have WZ:=fun u:World=>vH u x y hx hy h8
 have HX:=cf hx;have HY:=cf hy
 have l1:ak w.heap.size w (w.alloc (.cells #[G 8,G r,G ai,G bi,.int .u16 n,Zs] 67)):=F0
 have a1:=ao w (.cells #[G 8,G r,G ai,G bi,.int .u16 n,Zs] 67)
 have ja:Calls Tryz.prog 65 #[G 8] (w.alloc (.cells #[G 8,G r,G ai,G bi,.int .u16 n,Zs] 67)) (fun e w'=>e=.returned (.agg #[.bool true,.bool true,.bool true,.bool true,.bool false])∧ak (w.alloc (.cells #[G 8,G r,G ai,G bi,.int .u16 n,Zs] 67)).heap.size (w.alloc (.cells #[G 8,G r,G ai,G bi,.int .u16 n,Zs] 67)) w'):=dC _ 8 (by unfold aS;decide)
 go_enter Tryz.func129,Tryz.ntmps129
 go_upto_region 3 with fail
 obtain⟨t5,gh⟩:∃t,t=w.heap.size:=⟨_,rfl⟩
 rw[←gh]at a1⊢
 clear gh
 generalize w.alloc (.cells #[G 8,G r,G ai,G bi,.int .u16 n,Zs] 67)=w1 at l1 a1 ja⊢
 have y0:=bf a1
 go_upto_region 4 with(first
  |(go_at_call 65;(with_reducible refine ja.mono ?_);rintro e w2 ⟨rfl,l2⟩))
 have l3:ak w2.heap.size w2 (w2.alloc (.cells #[.bool true,.bool true,.bool true,.bool true,.bool false] 102)):=F0
 have a3:=ao w2 (.cells #[.bool true,.bool true,.bool true,.bool true,.bool false] 102)
 have b3:=l3.some (l2.some a1)
 have sZ:=cf (l2.trans (l3.mono l2.size))
 have L3:=cf (l1.trans (sZ.out.mono l1.size))
 obtain⟨t11,iq⟩:∃t,t=w2.heap.size:=⟨_,rfl⟩
 rw[←iq]at a3⊢
 clear iq y0 ja
 have L1:=cf l1
 clear l1 l2 l3 a1
 generalize w2.alloc (.cells #[.bool true,.bool true,.bool true,.bool true,.bool false] 102)=w3 at a3 b3 sZ L3⊢
 obtain⟨y0,y1,y2,y3,y4,y5⟩:=aC b3
 have z2:=rn a3
 have z3:=mM a3
 have YW:w3.cell? ⟨VV,ai,none⟩=some (.int .u16 x):=(Yc (L3.out.some hv)).trans uQ
 have PC:(ai:Int)<(N:Int):=by omega
 have ai0:(0:Int)≤(ai:Int):=by omega
 have ain:(ai:Int)≤1000:=by omega
 have vbi:w3.cell? ⟨VV,bi,none⟩=some (.int .u16 y):=(Yc (L3.out.some hv)).trans Zu
 have ae1:(bi:Int)<(N:Int):=by omega
 have bi0:(0:Int)≤(bi:Int):=by omega
 have bin:(bi:Int)≤1000:=by omega
 clear a3 b3 hv hx hy
 go_wp2_with(first
  |(go_at_call 177;(with_reducible refine(WZ _).mono ?_);rintro e u ⟨rfl,hu⟩;rw[hu];clear hu u))
 go_ret
 exact⟨rfl,L3.out⟩
theorem IL (w:World) (m VV N:Nat) (d r n:Int) (hN:N≤1000) (vcs:Array Value) (hv:w.heap[VV]?=some (.cells vcs 27 (0,0))) (cs:Array Value) (hm:w.heap[m]?=some (.cells cs 87 (0,0))) (Oq:cs[10]?=some (.bool false)) (Lp:cs[14]?=some (G 0)) (Lo:cs[15]?=some (.int .u16 0)) (ai:Nat) (x:Int) (FM:ai<N) (uQ:vcs[ai]?=some (.int .u16 x)) (hx:W x) (bi:Nat) (Sy:bi<N) (Zu:vcs[bi]?=some (.int .u16 0)):
 Calls Tryz.prog 129 #[.pointer (ad m),.agg #[G 8,G r,G ai,G bi,.int .u16 n,Zs],.slice (ad VV) N N,G d] w (fun e w'=>e=.returned (.int .u16 0)∧∃w1,ak w.heap.size w w1∧w'=((w1.setCell ⟨m,10,none⟩ (.bool true)).setCell ⟨m,14,none⟩ (G 4)).setCell ⟨m,15,none⟩ (.int .u16 0)):=by
 have HX:=cf hx
 have l1:ak w.heap.size w (w.alloc (.cells #[G 8,G r,G ai,G bi,.int .u16 n,Zs] 67)):=F0
 have a1:=ao w (.cells #[G 8,G r,G ai,G bi,.int .u16 n,Zs] 67)
 have ja:Calls Tryz.prog 65 #[G 8] (w.alloc (.cells #[G 8,G r,G ai,G bi,.int .u16 n,Zs] 67)) (fun e w'=>e=.returned (.agg #[.bool true,.bool true,.bool true,.bool true,.bool false])∧ak (w.alloc (.cells #[G 8,G r,G ai,G bi,.int .u16 n,Zs] 67)).heap.size (w.alloc (.cells #[G 8,G r,G ai,G bi,.int .u16 n,Zs] 67)) w'):=dC _ 8 (by unfold aS;decide)
 go_enter Tryz.func129,Tryz.ntmps129
 go_upto_region 3 with fail
 obtain⟨t5,gh⟩:∃t,t=w.heap.size:=⟨_,rfl⟩
 rw[←gh]at a1⊢
 clear gh
 generalize w.alloc (.cells #[G 8,G r,G ai,G bi,.int .u16 n,Zs] 67)=w1 at l1 a1 ja⊢
 have y0:=bf a1
 go_upto_region 4 with(first
  |(go_at_call 65;(with_reducible refine ja.mono ?_);rintro e w2 ⟨rfl,l2⟩))
 have l3:ak w2.heap.size w2 (w2.alloc (.cells #[.bool true,.bool true,.bool true,.bool true,.bool false] 102)):=F0
 have a3:=ao w2 (.cells #[.bool true,.bool true,.bool true,.bool true,.bool false] 102)
 have b3:=l3.some (l2.some a1)
 have sZ:=cf (l2.trans (l3.mono l2.size))
 have L3:=cf (l1.trans (sZ.out.mono l1.size))
 obtain⟨t11,iq⟩:∃t,t=w2.heap.size:=⟨_,rfl⟩
 rw[←iq]at a3⊢
 clear iq y0 ja
 have L1:=cf l1
 clear l1 l2 l3 a1
 generalize w2.alloc (.cells #[.bool true,.bool true,.bool true,.bool true,.bool false] 102)=w3 at a3 b3 sZ L3⊢
 obtain⟨y0,y1,y2,y3,y4,y5⟩:=aC b3
 have z2:=rn a3
 have z3:=mM a3
 have YW:w3.cell? ⟨VV,ai,none⟩=some (.int .u16 x):=(Yc (L3.out.some hv)).trans uQ
 have PC:(ai:Int)<(N:Int):=by omega
 have ai0:(0:Int)≤(ai:Int):=by omega
 have ain:(ai:Int)≤1000:=by omega
 have vbi:w3.cell? ⟨VV,bi,none⟩=some (.int .u16 0):=(Yc (L3.out.some hv)).trans Zu
 have ae1:(bi:Int)<(N:Int):=by omega
 have bi0:(0:Int)≤(bi:Int):=by omega
 have bin:(bi:Int)≤1000:=by omega
 have gR:=Mc w3 m cs 4 0 (L3.out.some hm) Oq Lp Lo
 clear a3 b3 hv hx hm
 go_wp2_with(first
  |(go_at_call 127;(with_reducible refine gR.mono ?_);rintro e u ⟨rfl,hu⟩;rw[hu];clear hu u))
 go_ret
 exact⟨rfl,w3,L3.out,rfl⟩
end
section
set_option maxRecDepth 100000
set_option maxHeartbeats 8000000
theorem UO:Ap Tryz.prog 45 90 2 4:=⟨Tryz.underlying45,by
 obtain⟨ti,nT,hz,hs,hb⟩:=dP (show(Tryz.prog.info? 90).map (fun i=>(i.zero,i.size,i.bytes))=some (some (.agg #[.int .u16 0,.int .u16 0]),2,4) by kernel_rfl)
 exact⟨ti,_,nT,hz,hs,hb,rfl⟩,by decide,by decide⟩
def vn (xs:List (Int×Int)):List Value:=xs.flatMap fun p=>[.int .u16 p.1,.int .u16 p.2]
theorem Df (xs:List (Int×Int)) (p:Int×Int):vn (xs++[p])=vn xs++[.int .u16 p.1,.int .u16 p.2]:=by simp[vn]
def cR (w:World) (S:Nat) (O:Option Addr) (n c:Nat) (xs:List (Int×Int)):Prop:=xs.length=n∧Own w S 90 2 (.slice O n c) n (vn xs)
theorem cR.nil (w:World) (S:Nat):cR w S none 0 0 []:=⟨rfl,Own.nil _ _ _ _⟩
variable {w w':World} {S c n:Nat} {A:Option Addr}
theorem cR.low {xs:List (Int×Int)} (h:cR w S A n c xs) (hl:ak w.heap.size w w'):cR w' S A n c xs:=⟨h.1,h.2.low hl⟩
theorem cR.kept {xs:List (Int×Int)} (h:cR w S A n c xs) (hk:∀g cs,S≤g→w.heap[g]?=some (.cells cs 90 (0,0))→w'.heap[g]?=w.heap[g]?):cR w' S A n c xs:=⟨h.1,h.2.kept fun g hg=>by
 rcases h.2.form with⟨h1,_⟩|⟨g',c,cs,h1,h2,h3,_⟩
 ·rw[h1]at hg;cases hg
 ·rw[h1]at hg;cases hg
  exact hk _ _ h2 h3⟩
theorem Md (w:World) (m VV N:Nat) (d r n:Int) (b:Int) (hN:N≤1000) (vcs:Array Value) (hv:w.heap[VV]?=some (.cells vcs 27 (0,0))) (S:Nat) (Ys:m<S) (hS:S≤w.heap.size) (cs:Array Value) (hm:w.heap[m]?=some (.cells cs 87 (0,0))) (O:Option Addr) (no co:Nat) (UA:cs[13]?=some (.slice O no co)) (xs:List (Int×Int)) (hO:cR w S O no co xs) (lG:no≤1000) (ai:Nat) (x:Int) (FM:ai<N) (uQ:vcs[ai]?=some (.int .u16 x)) (hx:W x):
 Calls Tryz.prog 129 #[.pointer (ad m),.agg #[G 25,G r,G ai,G b,.int .u16 n,Zs],.slice (ad VV) N N,G d] w (fun e w'=>e=.returned (.int .u16 0)∧∃w1 O' pK,ak S w w1∧cR w1 S O' (no+1) pK (xs++[(n,x)])∧w'=w1.setCell ⟨m,13,none⟩ (.slice O' (no+1) pK)):=by
 have l1:ak w.heap.size w (w.alloc (.cells #[G 25,G r,G ai,G b,.int .u16 n,Zs] 67)):=F0
 have a1:=ao w (.cells #[G 25,G r,G ai,G b,.int .u16 n,Zs] 67)
 have ja:Calls Tryz.prog 65 #[G 25] (w.alloc (.cells #[G 25,G r,G ai,G b,.int .u16 n,Zs] 67)) (fun e w'=>e=.returned (.agg #[.bool true,.bool false,.bool true,.bool false,.bool true])∧ak (w.alloc (.cells #[G 25,G r,G ai,G b,.int .u16 n,Zs] 67)).heap.size (w.alloc (.cells #[G 25,G r,G ai,G b,.int .u16 n,Zs] 67)) w'):=dC _ 25 (by unfold aS;decide)
 go_enter Tryz.func129,Tryz.ntmps129
 go_upto_region 3 with fail
 obtain⟨t5,gh⟩:∃t,t=w.heap.size:=⟨_,rfl⟩
 rw[←gh]at a1⊢
 have DK:=cf gh
 clear gh
 generalize w.alloc (.cells #[G 25,G r,G ai,G b,.int .u16 n,Zs] 67)=w1 at l1 a1 ja⊢
 have y0:=bf a1
 go_upto_region 4 with(first
  |(go_at_call 65;(with_reducible refine ja.mono ?_);rintro e w2 ⟨rfl,l2⟩))
 have l3:ak w2.heap.size w2 (w2.alloc (.cells #[.bool true,.bool false,.bool true,.bool false,.bool true] 102)):=F0
 have a3:=ao w2 (.cells #[.bool true,.bool false,.bool true,.bool false,.bool true] 102)
 have b3:=l3.some (l2.some a1)
 have sZ:=cf (l2.trans (l3.mono l2.size))
 have L3:=cf (l1.trans (sZ.out.mono l1.size))
 obtain⟨t11,iq⟩:∃t,t=w2.heap.size:=⟨_,rfl⟩
 rw[←iq]at a3⊢
 clear iq y0 ja
 have L1:=cf l1
 clear l1 l2 l3 a1
 generalize w2.alloc (.cells #[.bool true,.bool false,.bool true,.bool false,.bool true] 102)=w3 at a3 b3 sZ L3⊢
 obtain⟨y0,y1,y2,y3,y4,y5⟩:=aC b3
 have z2:=rn a3
 have z3:=mM a3
 have YW:w3.cell? ⟨VV,ai,none⟩=some (.int .u16 x):=(Yc (L3.out.some hv)).trans uQ
 have PC:(ai:Int)<(N:Int):=by omega
 have ai0:(0:Int)≤(ai:Int):=by omega
 have ain:(ai:Int)≤1000:=by omega
 have Yt:=L3.out.some hm
 have ld:ak w3.heap.size w3 w3.drew:=(ak.refl _ _).drew
 have lH:=vE (ld.some b3)
 have HM:=cf (ld.some Yt);have HB:=cf (ld.some b3)
 have HO:=cf ((hO.low L3.out).low ld)
 have je:=cf (L3.out.trans (ld.mono L3.out.size))
 have HS:=cf hS;have QI:=cf Ys;have Tg:=cf lG;have H13:=cf UA
 clear hv hm Yt b3 a3 hO UA hS Ys hx ld lG
 go_upto_region 38 with fail
 clear y0 y1 y2 y3 y4 y5 z2 z3
 refine wp_region_noPanic ?_
 refine wp_region_held_drew (S:=fun w'=>w'.cell? ⟨t5,4,none⟩=some (.int .u16 n)) (by kernel_rfl) (by exact(by exact lH)) (fun af=>?_)
 generalize w3.drew=wd at af lH HM HB HO je⊢
 have l4:ak wd.heap.size wd (wd.alloc (.cells #[.int .u16 n,.int .u16 x] 90)):=F0
 have a4:=ao wd (.cells #[.int .u16 n,.int .u16 x] 90)
 have hm4:=l4.some HM.out
 have WU:=l4.some HB.out
 have Bl:=vE WU
 have hO4:=HO.out.low l4
 have L4:=cf (je.out.trans (l4.mono je.out.size))
 have PZ:wd.cell? ⟨m,13,none⟩=some (.slice O no co):=(Yc HM.out).trans H13.out
 have QN:(wd.alloc (.cells #[.int .u16 n,.int .u16 x] 90)).cell? ⟨m,13,none⟩=some (.slice O no co):=(Yc hm4).trans H13.out
 have A4:=cf a4;have M4:=cf hm4;have B4:=cf WU;have O4:=cf hO4;have aq5:=cf QN
 clear l4 a4 hm4 WU hO4 QN
 refine tk 0 af ?_
 refine tk 1 af ?_
 refine tk 2 af ?_
 refine tk 3 af ?_
 refine tk 4 af ?_
 refine tk 6 af ?_
 refine tk 7 af ?_
 refine tk 8 af ?_
 refine tk 9 af ?_
 refine wpAnyH_ready (rs:=[5,10]) (by kernel_rfl) (by simp) ?_
 refine fT (i:=5) rfl (fun KK aI=>?_) (fT (i:=10) rfl (fun KK aI=>?_) AllReadyH.nil)
 ·go_simp
  refine aI.out _ _ (by exact lH) (fun af=>?_)
  clear aI KK
  (try simp only[Act.put,bh])
  clear PZ
  refine aG 10 fun KK aI=>?_
  go_simp
  refine aI.out _ _ (by exact Bl) (fun af=>?_)
  clear aI KK
  (try simp only[Act.put,bh])
  refine aG 11 fun KK aI=>?_
  refine xA UO rfl (.tmp 153) (.tmp 158) rfl rfl O4.out.2 rfl A4.out rfl (by intro u hu;simp at hu;rcases hu with rfl|rfl<;>rfl) (by have:=Tg.out;omega) (Nat.le_trans HS.out L4.out.size) ?_
  rintro v w5 hA
  obtain⟨O',pK,rfl⟩:=Own.slice hA.own
  have cH:∀(g:Nat) (cs:Array Value) (e:TypeId),(wd.alloc (.cells #[.int .u16 n,.int .u16 x] 90)).heap[g]?=some (Obj.cells cs e (0,0))→e≠90→w5.heap[g]?=some (Obj.cells cs e (0,0)):=fun g cs e hg he=>(hA.block g (aB hg) (by
   intro h
   rcases O4.out.2.form with⟨h1,_⟩|⟨g',c,jH,h1,_,h3,_⟩
   ·rw[h1]at h;cases h
   ·rw[h1]at h
    cases h
    rw[hg]at h3
    cases h3
    exact he rfl)).trans hg
  have La:=cH _ _ _ M4.out (by decide)
  have Lk:=cH _ _ _ B4.out (by decide)
  have CW:=vE Lk
  have L5:=cf ((L4.out.mono HS.out).trans (hA.low O4.out.2 (Nat.le_refl S) (Nat.le_trans HS.out L4.out.size)))
  have O5:=cf (show cR w5 S O' (no+1) pK (xs++[(n,x)])from⟨by simp[HO.out.1],by rw[Df];exact hA.own⟩)
  have M5:=cf La
  have YV:w5.cell? ⟨m,13,none⟩=some (.slice O no co):=(Yc La).trans H13.out
  have f13:w5.frozen? ⟨m,13,none⟩=false:=au La
  have am8:=aB La
  clear hA cH La Lk
  refine aI.out _ _ (by exact CW) (fun af=>?_)
  clear aI KK
  (try simp only[Act.put,bh])
  refine tk 12 af ?_
  refine tk 13 af ?_
  refine tk 14 af ?_
  refine aG 15 fun KK aI=>?_
  go_simp
  have DZ:(w5.setCell ⟨m,13,none⟩ (.slice O' (no+1) pK)).cell? ⟨t5,4,none⟩=some (.int .u16 n):=(World.cell?_of_block (a:=⟨t5,4,none⟩) (aj (show t5≠m by have:=DK.out;have:=QI.out;have:=HS.out;omega))).trans CW
  refine aI.out _ _ (by exact DZ) (fun af=>?_)
  clear aI KK
  (try simp only[Act.put,bh])
  refine wpAnyH_done (by kernel_rfl) ?_ _
  refine NoPanic.normal ?_
  clear DZ af lH Bl CW
  go_wp2_with fail
  go_ret
  exact⟨rfl,w5,O',pK,L5.out,O5.out,rfl⟩
 ·go_simp
  refine aI.out _ _ (by exact Bl) (fun af=>?_)
  clear aI KK
  (try simp only[Act.put,bh])
  clear PZ
  have QN:=aq5.out
  refine aG 5 fun KK aI=>?_
  go_simp
  refine aI.out _ _ (by exact Bl) (fun af=>?_)
  clear aI KK
  (try simp only[Act.put,bh])
  clear QN
  refine aG 11 fun KK aI=>?_
  refine xA UO rfl (.tmp 153) (.tmp 158) rfl rfl O4.out.2 rfl A4.out rfl (by intro u hu;simp at hu;rcases hu with rfl|rfl<;>rfl) (by have:=Tg.out;omega) (Nat.le_trans HS.out L4.out.size) ?_
  rintro v w5 hA
  obtain⟨O',pK,rfl⟩:=Own.slice hA.own
  have cH:∀(g:Nat) (cs:Array Value) (e:TypeId),(wd.alloc (.cells #[.int .u16 n,.int .u16 x] 90)).heap[g]?=some (Obj.cells cs e (0,0))→e≠90→w5.heap[g]?=some (Obj.cells cs e (0,0)):=fun g cs e hg he=>(hA.block g (aB hg) (by
   intro h
   rcases O4.out.2.form with⟨h1,_⟩|⟨g',c,jH,h1,_,h3,_⟩
   ·rw[h1]at h;cases h
   ·rw[h1]at h
    cases h
    rw[hg]at h3
    cases h3
    exact he rfl)).trans hg
  have La:=cH _ _ _ M4.out (by decide)
  have Lk:=cH _ _ _ B4.out (by decide)
  have CW:=vE Lk
  have L5:=cf ((L4.out.mono HS.out).trans (hA.low O4.out.2 (Nat.le_refl S) (Nat.le_trans HS.out L4.out.size)))
  have O5:=cf (show cR w5 S O' (no+1) pK (xs++[(n,x)])from⟨by simp[HO.out.1],by rw[Df];exact hA.own⟩)
  have M5:=cf La
  have YV:w5.cell? ⟨m,13,none⟩=some (.slice O no co):=(Yc La).trans H13.out
  have f13:w5.frozen? ⟨m,13,none⟩=false:=au La
  have am8:=aB La
  clear hA cH La Lk
  refine aI.out _ _ (by exact CW) (fun af=>?_)
  clear aI KK
  (try simp only[Act.put,bh])
  refine tk 12 af ?_
  refine tk 13 af ?_
  refine tk 14 af ?_
  refine aG 15 fun KK aI=>?_
  go_simp
  have DZ:(w5.setCell ⟨m,13,none⟩ (.slice O' (no+1) pK)).cell? ⟨t5,4,none⟩=some (.int .u16 n):=(World.cell?_of_block (a:=⟨t5,4,none⟩) (aj (show t5≠m by have:=DK.out;have:=QI.out;have:=HS.out;omega))).trans CW
  refine aI.out _ _ (by exact DZ) (fun af=>?_)
  clear aI KK
  (try simp only[Act.put,bh])
  refine wpAnyH_done (by kernel_rfl) ?_ _
  refine NoPanic.normal ?_
  clear DZ af lH Bl CW
  go_wp2_with fail
  go_ret
  exact⟨rfl,w5,O',pK,L5.out,O5.out,rfl⟩
end
section
set_option maxRecDepth 100000
set_option maxHeartbeats 8000000
def iG:Array Value:=madeCells #[.int .u8 0] 8192
theorem Rl (w:World):Calls Tryz.prog 45 #[.string ⟨#[]⟩] w (fun e w'=>ak w.heap.size w w'∧∃R,e=.returned (.slice (ad R) 8192 8192)∧w.heap.size≤R∧w'.heap[R]?=some (.cells iG 5 (0,0))):=by
 have hr:(Instr.makeSlice 24 (G 8192) (G 8192)).run Tryz.prog w=.ok (.slice (ad (w.heap.size)) 8192 8192) (w.alloc (.cells iG 5)):=by
  obtain⟨ti,nT,hz,hs,hb⟩:=dP (show(Tryz.prog.info? 5).map (fun i=>(i.zero,i.size,i.bytes))=some (some (.int .u8 0),1,1) by kernel_rfl)
  have h1:((ti.bytes:Nat):Int)*((8192:Nat):Int)≤281474976710656:=by rw[hb];omega
  have hr:=run_make (P:=Tryz.prog) w 24 5 ti (.int .u8 0) Tryz.underlying24 nT hz .i64 .i64 (8192:Nat) (8192:Nat) (by omega) (Int.le_refl _) h1 (by omega)
  rw[hs]at hr
  exact hr
 have l1:ak w.heap.size w (w.alloc (.cells iG 5)):=F0
 have a1:=ao w (.cells iG 5)
 have L1:=cf l1;have A1:=cf a1
 clear l1 a1
 go_enter Tryz.func45,Tryz.ntmps45
 go_upto_region 3 with fail
 go_loopw[4] (fun i wr=>i=G 0∧wr=w.alloc (.cells iG 5)) (fun _ _=>0)
 case atStart=>exact⟨rfl,rfl⟩
 case round=>
  obtain⟨rfl,rfl⟩:=hrel
  go_wp2_with fail
  go_ret
  exact⟨L1.out,_,rfl,Nat.le_refl _,A1.out⟩
end
end Go.Proofs.YtjkahfmdcpfjjaaGreat
