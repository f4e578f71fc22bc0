/- The reference: copies, merged, constant, Pure, commutes. -/
import Derived.Test.YtjkahfmdcpfjjaaGreatCL
set_option linter.unusedVariables false
namespace Go.Proofs.YtjkahfmdcpfjjaaGreat
open Go.RowKit
section
set_option maxRecDepth 100000
set_option maxHeartbeats 8000000
theorem Ki {l:List aE} {q:Nat} {o:aE} (h:l[q]?=some o):(l.take (q+1)).flatMap bl=(l.take q).flatMap bl++bl o:=by
 rw[mR h,List.flatMap_append];simp
theorem OI (l:List aE):(l.flatMap bl).length≤2*l.length:=by
 induction l with
 |nil=>simp
 |cons o l ih=>rw[List.flatMap_cons,List.length_append,List.length_cons];have:=qi o;omega
theorem Jt (w:World) (N:Nat) (hN:N≤1000):∃cs,(Instr.makeSlice 22 (.int .i64 N) (.int .i64 N)).run Tryz.prog w=.ok (.slice (some ⟨w.heap.size,0,none⟩) N N) (w.alloc (.cells cs 3))∧cs.size=N∧∀v,v<N→cs[v]?=some (.int .i64 0):=by
 obtain⟨ti,nT,hz,hs,hb⟩:=dP (show(Tryz.prog.info? 3).map (fun i=>(i.zero,i.size,i.bytes))=some (some (.int .i64 0),1,8) by kernel_rfl)
 have h1:((ti.bytes:Nat):Int)*(N:Int)≤281474976710656:=by rw[hb];omega
 have hr:=run_make (P:=Tryz.prog) w 22 3 ti (.int .i64 0) Tryz.underlying22 nT hz .i64 .i64 N N (by omega) (Int.le_refl _) h1 (by omega)
 simp only[Int.toNat_natCast]at hr
 refine⟨_,hr,by rw[size_madeCells,hs];omega,fun v hv=>?_⟩
 rw[hs]
 have cC:(madeCells (Value.int .i64 0).cells (N*1)).size=N:=by rw[size_madeCells];omega
 rw[Array.getElem?_eq_getElem (by omega)]
 simp[madeCells,Value.cells,Nat.mod_one]
def lj (w:World) (U M:Nat) (xs:List Int):Prop:=∃cs,w.heap[U]?=some (.cells cs 3 (0,0))∧cs.size=M∧∀v,v<M→∃k:Nat,cs[v]?=some (.int .i64 k)∧k≤xs.length∧((v:Int)∈xs→0<k)
variable {w:World} {M U:Nat}
theorem lj.low {w':World} {xs:List Int} (h:lj w U M xs) (hl:ak w.heap.size w w'):lj w' U M xs:=by
 obtain⟨cs,h1,r⟩:=h
 exact⟨cs,hl.some h1,r⟩
theorem lj.step {v k:Nat} {xs:List Int} (h:lj w U M xs) (hv:v<M) (hk:w.cell? ⟨U,v,none⟩=some (.int .i64 k)):lj (w.setCell ⟨U,v,none⟩ (.int .i64 ((k+1:Nat)))) U M (xs++[(v:Int)]):=by
 obtain⟨cs,h1,h2,h3⟩:=h
 refine⟨_,aD h1,by simpa using h2,fun u hu=>?_⟩
 obtain⟨k',e1,e2,e3⟩:=h3 u hu
 rw[Array.getElem?_setIfInBounds]
 by_cases huv:v=u
 ·subst huv
  rw[if_pos rfl,if_pos (by omega)]
  rw[Yc h1,e1]at hk
  have:k'=k:=by simp at hk;omega
  exact⟨k+1,rfl,by simp;omega,fun _=>by omega⟩
 ·rw[if_neg huv]
  refine⟨k',e1,by simp;omega,fun hm=>?_⟩
  rcases List.mem_append.1 hm with hm|hm
  ·exact e3 hm
  ·simp at hm;omega
theorem Bs (w:World) (g cg:Nat) (Pp:Option Addr) (pc:Nat) (A:Option Addr) (n c:Nat) (T:Option Addr) (tc:Nat) (l:List aE) (ret:Int) (h:fe w g Pp pc A n c T tc l ret) (hn:n≤40) (bB:kC l ret) (N:Nat) (hN:de l=(N:Int)) (bw:∀v∈l.flatMap bl++[ret],0≤v∧v<(N:Int)):
 Calls Tryz.prog 56 #[.agg #[.slice (some ⟨g,0,none⟩) 1 cg]] w (fun e w'=>ak w.heap.size w w'∧∃U,e=.returned (.slice (some ⟨U,0,none⟩) (N+1) (N+1))∧lj w' U (N+1) (l.flatMap bl++[ret])):=by
 have l1:ak w.heap.size w (w.alloc (.cells #[.slice (some ⟨g,0,none⟩) 1 cg] 40)):=F0
 have a1:=ao w (.cells #[.slice (some ⟨g,0,none⟩) 1 cg] 40)
 have dX:=fM _ g cg Pp pc A n c T tc l ret (h.low l1) hn bB.ok
 have Lm:N≤101:=by have:=dH bB.ok;omega
 have wK:1≤N:=by have:=ey l;omega
 rw[hN]at dX
 have H:=cf h;have dA:=cf bB;have HLT:=cf bw
 clear h bB hN bw
 go_enter Tryz.func56,Tryz.ntmps56
 go_upto_region 1 with fail
 obtain⟨t1,eu⟩:∃t,t=w.heap.size:=⟨_,rfl⟩
 rw[←eu]at a1⊢
 clear eu
 generalize w.alloc (.cells #[.slice (some ⟨g,0,none⟩) 1 cg] 40)=w1 at l1 a1 dX⊢
 have x1:=bf a1
 have L1:=cf l1;have A1:=cf a1
 clear l1 a1
 have xd:∀w2:World,∃cs,(Instr.makeSlice 22 (.int .i64 ((N:Int)+1)) (.int .i64 ((N:Int)+1))).run Tryz.prog w2=.ok (.slice (some ⟨w2.heap.size,0,none⟩) (N+1) (N+1)) (w2.alloc (.cells cs 3))∧cs.size=N+1∧∀v,v<N+1→cs[v]?=some (.int .i64 0):=fun w2=>Jt w2 (N+1) (by omega)
 have hw:IntKind.i64.wrap ((N:Int)+1)=(N:Int)+1:=IntWalk.i64_in _ (by omega)
 go_upto_region 3 with(first
  |(go_at_call 55;refine dX.mono ?_;rintro e w2 ⟨rfl,l2⟩;obtain⟨cs,eJ,cC,hcz⟩:=xd w2))
 have l3:ak w2.heap.size w2 (w2.alloc (.cells cs 3)):=F0
 have a3:=ao w2 (.cells cs 3)
 obtain⟨U,hU⟩:∃D,D=w2.heap.size:=⟨_,rfl⟩
 rw[←hU]at a3⊢
 have L3:=cf (L1.out.trans ((l2.trans (l3.mono l2.size)).mono L1.out.size))
 have A3:=cf (l3.some (l2.some A1.out))
 have HU:Hid (w.heap.size≤U∧t1<U):=cf ⟨by rw[hU];exact Nat.le_trans L1.out.size l2.size,by rw[hU];exact aB (l2.some A1.out)⟩
 have U3:=cf (show lj (w2.alloc (.cells cs 3)) U (N+1) []from⟨cs,a3,cC,fun v hv=>⟨0,hcz v hv,by simp,fun h=>by cases h⟩⟩)
 clear xd eJ l3 l2 x1 dX a3 cC hcz hU A1 L1 hw
 generalize w2.alloc (.cells cs 3)=w3 at L3 A3 U3⊢
 go_loopw[4] (fun i wr=>(i=.int .i64 0∧wr=w3)∨(i=.int .i64 1∧ak w.heap.size w wr∧lj wr U (N+1) (l.flatMap bl++[ret])∧wr.heap[t1]?=some (.cells #[.slice (some ⟨g,0,none⟩) 1 cg] 40 (0,0)))) (fun i _=>1-(intOf i).toNat)
 case atStart=>exact .inl ⟨rfl,rfl⟩
 case round=>
  rcases hrel with⟨rfl,rfl⟩|⟨rfl,hL,hU,hA⟩
  ·obtain⟨w3,rfl⟩:∃u,u=wr:=⟨_,rfl⟩
   have x1:=bf A3.out
   have h1:=H.out.low L3.out
   obtain⟨kz,r0,r1,r2,r3,r4,r5⟩:=h1.row
   have p0:=mV r0 r1 r2 r3 r4 r5
   have l4:ak w3.heap.size w3 (w3.alloc (.cells #[.slice Pp 1 pc,.slice A n c,.int .i64 4,.int .i64 ret,.slice T 0 tc] 62)):=F0
   have a4:=ao w3 (.cells #[.slice Pp 1 pc,.slice A n c,.int .i64 4,.int .i64 ret,.slice T 0 tc] 62)
   have L4:=cf (L3.out.trans (l4.mono L3.out.size));have U4:=cf (U3.out.low l4);have A4:=cf (l4.some A3.out)
   clear r0 r1 r2 r3 r4 r5 h1 l4
   go_upto_region 8 with fail
   obtain⟨t5,gh⟩:∃t,t=w3.heap.size:=⟨_,rfl⟩
   rw[←gh]at a4⊢
   clear gh p0 x1 U3 A3 L3
   generalize w3.alloc (.cells #[.slice Pp 1 pc,.slice A n c,.int .i64 4,.int .i64 ret,.slice T 0 tc] 62)=w4 at a4 L4 U4 A4⊢
   have B4:=cf a4
   clear a4
   go_loopw[6,7] (fun v i wx=>∃(q:Nat) (B:Option Addr) (m d:Nat),i=.int .i64 q∧q≤n∧v=.slice B m d∧ak w4.heap.size w4 wx∧bW wx w4.heap.size B m d ((l.take q).flatMap bl)) (fun _ i _=>n-(intOf i).toNat)
   case atStart=>exact⟨0,none,0,0,rfl,by omega,rfl,ak.refl _ _,bW.nil _ _⟩
   case round=>
    obtain⟨q,B,m,d,rfl,hq,rfl,hL,hI⟩:=hrel
    obtain⟨wv,rfl⟩:∃u,u=wr:=⟨_,rfl⟩
    have y1:=jw (hL.some B4.out)
    have hm:m≤2*q:=by have h1:=OI (l.take q);have h2:=hI.1;rw[List.length_take]at h1;omega
    have hlen:l.length=n:=H.out.ops.1
    by_cases bw:q<n
    ·have hv:=(H.out.low L4.out).low hL
     have bN:(q:Int)<(n:Int):=by omega
     have nu:(0:Int)≤(q:Int):=by omega
     have mI:(q:Int)≤40:=by omega
     obtain⟨o,ho⟩:∃o,l[q]?=some o:=⟨_,List.getElem?_eq_getElem (by have:=hv.ops.1;omega)⟩
     obtain⟨ga,cs,rfl,qD,hg,k0,k1,k2,k3,k4,k5⟩:=hv.ops.2 q o ho
     obtain⟨c0,c1,c2,c3,c4,c5⟩:=iw hg k0 k1 k2 k3 k4 k5
     have Yl:=Br wv o (dA.out.form o (List.mem_of_getElem? ho)).1
     have hft:=Ki ho
     have hol:=qi o
     have U1:=cf hL;have HI:=cf hI;have HFT:=cf hft
     clear hv hg k0 k1 k2 k3 k4 k5 ho hL hI hft
     go_wp2_with(first
      |(go_at_call 125;refine Yl.mono ?_;rintro e w6 ⟨l6,B2,m2,d2,rfl,W7⟩;have Wx:=W7.1;obtain⟨A7,c7,w7,Ht,wO,DX⟩:=DE (HI.out.low l6) W7.Ek (by omega) (Nat.le_trans U1.out.size l6.size) W7.Ty)
      |(at_builtin;refine aO rfl (.tmp 32) (.tmp 38) rfl rfl rfl Ht ?_))
     refine⟨⟨q+1,A7,m+m2,c7,by simp,bw,rfl,(U1.out.trans (l6.mono U1.out.size)).trans DX,by rw[HFT.out];exact wO⟩,by show n-((q:Int)+1).toNat<n-((q:Int)).toNat;omega⟩
    ·have bN:¬(q:Int)<(n:Int):=by omega
     obtain rfl:q=n:=by omega
     rw[List.take_of_length_le (by omega)]at hI
     have y2:=rn (hL.some B4.out)
     have y3:=mM (hL.some B4.out)
     have y4:=vE (hL.some B4.out)
     have TP:=pT wv ret T tc dA.out.ret.ko
     have U1:=cf hL;have HI:=cf hI
     clear hL hI
     go_upto_region 13 with(first
      |(go_at_call 126;refine TP.mono ?_;rintro e w6 ⟨l6,B2,d2,rfl,W7⟩;obtain⟨A7,c7,w7,Ht,wO,DX⟩:=DE (HI.out.low l6) W7.Ek (by omega) (Nat.le_trans U1.out.size l6.size) W7.Ty)
      |(at_builtin;refine aO rfl (.tmp 40) (.tmp 43) rfl rfl rfl Ht ?_))
     have L7:=cf ((U1.out.trans (l6.mono U1.out.size)).trans DX)
     have O7:=cf wO
     have hm7:m+1=(l.flatMap bl++[ret]).length:=wO.1.symm
     clear Ht wO DX l6 W7 y1 y2 y3 y4 TP U1 HI
     have U7:=cf (U4.out.low L7.out)
     have A7':=cf (L7.out.some A4.out)
     have HU4:Hid (U<w4.heap.size):=cf (by obtain⟨cs,h1,_⟩:=U4.out;exact aB h1)
     have aw0:m+1≤90:=by omega
     have xe:=O7.out.Ek.2.1
     have HM7:=cf hm7
     clear hm7
     go_loopw[8] (fun i wx=>∃j:Nat,i=.int .i64 j∧j≤m+1∧aY [U] w7 wx∧lj wx U (N+1) ((l.flatMap bl++[ret]).take j)) (fun i _=>m+1-(intOf i).toNat)
     case atStart=>exact⟨0,rfl,by omega,aY.refl _ _,U7.out⟩
     case round=>
      obtain⟨j,rfl,hj,hC,hU⟩:=hrel
      obtain⟨wx,rfl⟩:∃u,u=wr:=⟨_,rfl⟩
      by_cases Fu:j<m+1
      ·have aa6:(j:Int)<(m:Int)+1:=by omega
       have hj0:(0:Int)≤(j:Int):=by omega
       have hjn:(j:Int)≤90:=by omega
       obtain⟨x,hx⟩:∃x,(l.flatMap bl++[ret])[j]?=some x:=⟨_,List.getElem?_eq_getElem (by have:=HM7.out;omega)⟩
       obtain⟨TK,hxN⟩:=HLT.out x (List.mem_of_getElem? hx)
       obtain⟨v,rfl⟩:∃v:Nat,x=(v:Int):=⟨x.toNat,by omega⟩
       obtain⟨xg,xcs,Zx,hxg,Zy⟩:=O7.out.Ek.2.2 j _ hx
       have hxU:xg≠U:=by
        rcases O7.out.2.form with⟨e,_⟩|⟨g2,c2,At,e,h2,h3,h4⟩
        ·cases e
        ·have h5:=HU4.out
         have e2:A7=some ⟨g2,0,none⟩:=by cases e;rfl
         rw[e2]at Zx
         cases Zx
         omega
       subst Zx
       have c0:wx.cell? ⟨xg,j,none⟩=some (.int .i64 (v:Nat)):=(Yc (hC.obj hxg (by simpa using hxU))).trans Zy
       have hU2:=hU
       obtain⟨cs,v1,v2,v3⟩:=hU
       obtain⟨k,e1,e2,e3⟩:=v3 v (by omega)
       have d0:wx.cell? ⟨U,v,none⟩=some (.int .i64 (k:Nat)):=(Yc v1).trans e1
       have f0:wx.frozen? ⟨U,v,none⟩=false:=au v1
       have jX:=hU2.step (show v<N+1 by omega) d0
       rw[←take_add hx]at jX
       have aw6:k≤90:=by rw[List.length_take]at e2;omega
       have hwk:IntKind.i64.wrap ((k:Int)+1)=(k:Int)+1:=IntWalk.i64_in _ (by omega)
       have mq:(v:Int)<(N:Int)+1:=by omega
       have Qi:(0:Int)≤(v:Int):=by omega
       have HF:=cf (show aY [U] w7 (wx.setCell ⟨U,v,none⟩ (.int .i64 ((k+1:Nat))))∧lj (wx.setCell ⟨U,v,none⟩ (.int .i64 ((k+1:Nat)))) U (N+1) ((l.flatMap bl++[ret]).take (j+1))from⟨hC.trans (aY.setCell _ (by simp) _),jX⟩)
       clear hC hU2 v1 v2 v3 e1 e2 e3 jX hxg Zy hx
       go_wp2_with fail
       exact⟨⟨j+1,by simp,Fu,HF.out⟩,by show m+1-((j:Int)+1).toNat<m+1-((j:Int)).toNat;omega⟩
      ·have aa6:¬(j:Int)<(m:Int)+1:=by omega
       rw[List.take_of_length_le (by have:=HM7.out;omega)]at hU
       have gS:=hC.low (S:=w.heap.size) (by simpa using HU.out.1) (Nat.le_trans L4.out.size L7.out.size)
       have HF:=cf (show ak w.heap.size w wx∧lj wx U (N+1) (l.flatMap bl++[ret])∧wx.heap[t1]?=some (.cells #[.slice (some ⟨g,0,none⟩) 1 cg] 40 (0,0))from⟨(L4.out.trans (L7.out.mono L4.out.size)).trans gS,hU,hC.obj A7'.out (by have:=HU.out.2;simp;omega)⟩)
       clear hC hU gS
       go_wp2_with fail
       exact⟨.inr ⟨rfl,HF.out⟩,by decide⟩
  ·have x1:wr.cell? ⟨t1,0,none⟩=some (.slice (some ⟨g,0,none⟩) 1 cg):=Yc hA
   have HF:=cf (And.intro hL hU)
   clear hL hU hA
   go_wp2_with fail
   go_ret
   exact⟨HF.out.1,U,rfl,HF.out.2⟩
end
section
set_option maxRecDepth 100000
set_option maxHeartbeats 8000000
structure ij (l:List aE):Prop where
 first:∀(k:Nat) (o:aE),l[k]?=some o→o.code=1→∀j o',j<k→l[j]?=some o'→o'.code=1
 inc:∀(k:Nat) (o o':aE),l[k]?=some o→l[k+1]?=some o'→o'.code=1→o.n<o'.n
def Gv (l:List aE) (q:Nat) (b:Bool) (x:aE):Prop:=(b=true∧((q=0∧x=⟨0,0,0,0,0⟩)∨(0<q∧l[q-1]?=some x∧x.code=1)))∨(b=false∧∃j o,j<q∧l[j]?=some o∧o.code≠1)
theorem rD {w:World} {g:Nat} {e:TypeId} {a0 a1 a2 a3 a4 a5 v0 v1 v2 v3 v4 v5:Value} (h:w.heap[g]?=some (.cells #[a0,a1,a2,a3,a4,a5] e (0,0))):
 ∀w',w'=(((((w.setCell ⟨g,0,none⟩ v0).setCell ⟨g,1,none⟩ v1).setCell ⟨g,2,none⟩ v2).setCell ⟨g,3,none⟩ v3).setCell ⟨g,4,none⟩ v4).setCell ⟨g,5,none⟩ v5→w'.heap[g]?=some (.cells #[v0,v1,v2,v3,v4,v5] e (0,0))∧aY [g] w w':=by
 rintro w' rfl
 have hm:g∈[g]:=by simp
 exact⟨aD (aD (aD (aD (aD (aD h))))),(((((aY.setCell w hm _).trans (aY.setCell _ hm _)).trans (aY.setCell _ hm _)).trans (aY.setCell _ hm _)).trans (aY.setCell _ hm _)).trans (aY.setCell _ hm _)⟩
theorem J0 (w:World) (g cg:Nat) (Pp:Option Addr) (pc:Nat) (A:Option Addr) (n c:Nat) (T:Option Addr) (tc:Nat) (l:List aE) (ret:Int) (h:fe w g Pp pc A n c T tc l ret) (hn:n≤40) (bB:∀o∈l,eZ o) (hh:ij l):
 Calls Tryz.prog 57 #[.agg #[.slice (ad g) 1 cg]] w (fun e w'=>e=.returned (.bool true)∧ak w.heap.size w w'):=by
 obtain⟨S,hS⟩:∃S,w.heap.size=S:=⟨_,rfl⟩
 obtain⟨a1,s1,u1⟩:=av (.cells #[.slice (ad g) 1 cg] 40) hS
 obtain⟨a2,s2,u2⟩:=av (.cells #[G 0,G 0,G 0,G 0,.int .u16 0,Zs] 67) s1
 have b1:=u2 _ _ a1
 have l2:ak w.heap.size w ((w.alloc (.cells #[.slice (ad g) 1 cg] 40)).alloc (.cells #[G 0,G 0,G 0,G 0,.int .u16 0,Zs] 67)):=(F0).alloc (by simp) _
 have H:=cf h;have dA:=cf bB;have HH:=cf hh
 clear h bB hh a1 u1 u2
 go_enter Tryz.func57,Tryz.ntmps57
 go_upto_region 4 with fail
 have iW:=cf hS
 obtain⟨t4,uR⟩:∃t,t=S+1:=⟨_,rfl⟩
 rw[←uR]at a2⊢
 rw[hS]at l2
 have HT:=cf uR
 clear hS uR s1 s2
 generalize(w.alloc (.cells #[.slice (ad g) 1 cg] 40)).alloc (.cells #[G 0,G 0,G 0,G 0,.int .u16 0,Zs] 67)=w2 at a2 b1 l2⊢
 have L2:=cf l2;have A2:=cf a2;have B1:=cf b1
 clear l2 a2 b1
 go_loopw[3,5] (fun fb i wr=>(fb=.bool true∧i=G 0∧wr=w2)∨(i=G 1∧ak S w wr∧wr.heap[S]?=some (.cells #[.slice (ad g) 1 cg] 40 (0,0)))) (fun _ i _=>1-(intOf i).toNat)
 case atStart=>exact .inl ⟨rfl,rfl,rfl⟩
 case round=>
  rcases hrel with⟨rfl,rfl,rfl⟩|⟨rfl,hL,hA⟩
  ·obtain⟨w2,rfl⟩:∃u,u=wr:=⟨_,rfl⟩
   have x1:=bf B1.out
   go_upto_region 7 with fail
   clear x1
   go_loopw[3,6] (fun fb i wx=>∃(q:Nat) (b:Bool) (x:aE),i=G q∧fb=.bool b∧q≤n∧ak S w wx∧wx.heap[S]?=some (.cells #[.slice (ad g) 1 cg] 40 (0,0))∧wx.heap[t4]?=some (.cells #[G x.code,G x.res,G x.a,G x.b,.int .u16 x.n,Zs] 67 (0,0))∧Gv l q b x) (fun _ i _=>n-(intOf i).toNat)
   case atStart=>exact⟨0,true,⟨0,0,0,0,0⟩,rfl,rfl,by omega,L2.out,B1.out,A2.out,.inl ⟨rfl,.inl ⟨rfl,rfl⟩⟩⟩
   case round=>
    obtain⟨q,b,x,rfl,rfl,hq,hL,hA,hX,hI⟩:=hrel
    obtain⟨wv,rfl⟩:∃u,u=wr:=⟨_,rfl⟩
    have x1:=bf hA
    have hv:=H.out.low (by rw[iW.out];exact hL)
    obtain⟨kz,r0,r1,r2,r3,r4,r5⟩:=hv.row
    have p1:wv.cell? ⟨g,1,none⟩=some (.slice A n c):=(Yc r0).trans r2
    by_cases bw:q<n
    ·skip
     have bN:(q:Int)<(n:Int):=by omega
     have nu:(0:Int)≤(q:Int):=by omega
     have mI:(q:Int)≤40:=by omega
     obtain⟨o,ho⟩:∃o,l[q]?=some o:=⟨_,List.getElem?_eq_getElem (by have:=hv.ops.1;omega)⟩
     obtain⟨ga,cs,rfl,qD,hg,k0,k1,k2,k3,k4,k5⟩:=hv.ops.2 q o ho
     have c0:=iw hg k0 k1 k2 k3 k4 k5
     have hk:=fF (dA.out o (List.mem_of_getElem? ho)).1
     have l9:ak wv.heap.size wv (wv.alloc (.cells #[G o.code,G o.res,G o.a,G o.b,.int .u16 o.n,Zs] 67)):=F0
     have a9:=ao wv (.cells #[G o.code,G o.res,G o.a,G o.b,.int .u16 o.n,Zs] 67)
     have cC:S≤wv.heap.size:=by have:=hL.size;have:=iW.out;omega
     have yQ:=cf (hL.trans (l9.mono cC));have YO:=cf (l9.some hA)
     have x9:=l9.some hX
     have HO:=cf ho
     clear hv hg k0 k1 k2 k3 k4 k5 ho hL hA hX l9 r0 r1 r2 r3 r4 r5 cC
     go_upto_region 10 with fail
     obtain⟨t7,oJ⟩:∃t,t=wv.heap.size:=⟨_,rfl⟩
     rw[←oJ]at a9⊢
     clear c0 oJ x1 p1
     generalize wv.alloc (.cells #[G o.code,G o.res,G o.a,G o.b,.int .u16 o.n,Zs] 67)=wa at a9 yQ YO x9⊢
     obtain⟨x0,x1,x2,x3,x4,x5⟩:=aC a9
     obtain⟨y0,y1,y2,y3,y4,y5⟩:=aC x9
     by_cases h1:o.code=1
     ·have D0:b=true∧((q=0∧x=⟨0,0,0,0,0⟩)∨(0<q∧l[q-1]?=some x∧x.code=1)):=by
       rcases hI with hI|⟨_,j,o',hj,cP,cH⟩
       ·exact hI
       ·exact absurd (HH.out.first q o HO.out h1 j o' hj cP) cH
      obtain⟨rfl,hI3⟩:=D0
      have f0:=bG x9
      obtain⟨iK,mE⟩:=rD (v0:=G 1) (v1:=G o.res) (v2:=G o.a) (v3:=G o.b) (v4:=.int .u16 o.n) (v5:=Zs) x9 _ rfl
      have cH:S≠t4:=by have:=HT.out;omega
      have HF:=cf (show ak S w _∧_ from And.intro (yQ.out.trans (mE.low (S:=S) (by have:=HT.out;simp;omega) (by have:=yQ.out.size;have:=iW.out;omega))) (And.intro (mE.obj YO.out (by simpa using cH)) iK))
      have nv:Gv l (q+1) true o:=.inl ⟨rfl,.inr ⟨by omega,by rw[Nat.add_sub_cancel];exact HO.out,h1⟩⟩
      have HN:=cf nv
      rw[h1]at x0
      have H1:=cf h1
      rcases hI3 with⟨rfl,rfl⟩|⟨av4,Bg,Zy⟩
      ·clear a9 x9 iK mE hI hk h1 nv
       go_wp2_with fail
       exact⟨⟨0+1,true,o,by simp,rfl,bw,HF.out.1,HF.out.2.1,by rw[H1.out];exact HF.out.2.2,HN.out⟩,by show n-(((0:Nat):Int)+1).toNat<n-(((0:Nat):Int)).toNat;omega⟩
      ·have ao0:x.n<o.n:=HH.out.inc (q-1) x o Bg (by rw[show q-1+1=q by omega];exact HO.out) h1
       have av7:¬o.n≤x.n:=by omega
       rw[Zy]at y0
       clear a9 x9 iK mE hI hk h1 nv Bg Zy ao0
       go_wp2_with fail
       exact⟨⟨q+1,true,o,by simp,rfl,bw,HF.out.1,HF.out.2.1,by rw[H1.out];exact HF.out.2.2,HN.out⟩,by show n-((q:Int)+1).toNat<n-((q:Int)).toNat;omega⟩
     ·have h2:¬o.code=2:=by rcases hk with⟨k,_⟩|⟨k,_⟩|⟨k,k',_⟩|⟨k,_⟩<;>omega
      have d1:(o.code !=1)=true:=by simpa using h1
      have d2:(o.code !=2)=true:=by simpa using h2
      have HF:=cf (And.intro yQ.out (And.intro YO.out x9))
      have HN:=cf (show Gv l (q+1) false x from .inr ⟨rfl,q,o,by omega,HO.out,h1⟩)
      clear a9 x9 hI hk
      go_wp2_with fail
      exact⟨⟨q+1,false,x,by simp,rfl,bw,HF.out.1,HF.out.2.1,HF.out.2.2,HN.out⟩,by show n-((q:Int)+1).toNat<n-((q:Int)).toNat;omega⟩
    ·have bN:¬(q:Int)<(n:Int):=by omega
     have HF:=cf (And.intro hL hA)
     clear hL hA hX hI hv r0 r1 r2 r3 r4 r5
     go_wp2_with fail
     exact⟨.inr ⟨rfl,HF.out⟩,by decide⟩
  ·have x1:wr.cell? ⟨S,0,none⟩=some (.slice (ad g) 1 cg):=Yc hA
   have HF:=cf (show ak w.heap.size w wr by rw[iW.out];exact hL)
   clear hL hA
   go_wp2_with fail
   go_ret
   exact⟨rfl,HF.out⟩
end
section
set_option maxRecDepth 100000
set_option maxHeartbeats 8000000
theorem Ga (w:World) (g cg:Nat) (Pp:Option Addr) (pc:Nat) (A:Option Addr) (n c:Nat) (T:Option Addr) (tc:Nat) (l:List aE) (ret:Int) (h:fe w g Pp pc A n c T tc l ret) (hn:n≤40) (bB:∀o∈l,Lv o) (v:Int):
 Calls Tryz.prog 134 #[.agg #[.slice (ad g) 1 cg],G v] w (fun e w'=>e=.returned (.bool false)∧ak w.heap.size w w'):=by
 have l1:ak w.heap.size w (w.alloc (.cells #[.slice (ad g) 1 cg] 40)):=F0
 have a1:=ao w (.cells #[.slice (ad g) 1 cg] 40)
 have dX:=fM _ g cg Pp pc A n c T tc l ret (h.low l1) hn bB
 obtain⟨N,hN⟩:∃N:Nat,de l=(N:Int):=⟨(de l).toNat,by have:=ey l;omega⟩
 have Lm:N≤101:=by have:=dH bB;omega
 rw[hN]at dX
 clear h bB hN
 go_enter Tryz.func134,Tryz.ntmps134
 go_upto_region 1 with fail
 obtain⟨t2,nU⟩:∃t,t=w.heap.size:=⟨_,rfl⟩
 rw[←nU]at a1⊢
 clear nU
 generalize w.alloc (.cells #[.slice (ad g) 1 cg] 40)=w1 at l1 a1 dX⊢
 have x1:=bf a1
 have L1:=cf l1;have A1:=cf a1
 clear l1 a1
 have apB:Ap Tryz.prog 105 4 1 1:=⟨Tryz.underlying105,by
  obtain⟨ti,nT,hz,hs,hb⟩:=dP (show(Tryz.prog.info? 4).map (fun i=>(i.zero,i.size,i.bytes))=some (some (.bool false),1,1) by kernel_rfl)
  exact⟨ti,_,nT,hz,hs,hb,rfl⟩,by decide,by decide⟩
 have xd:=fun w2:World=>qp apB w2 N (by omega) (by decide)
 clear apB
 go_upto_region 4 with(first
  |(go_at_call 55;refine dX.mono ?_;rintro e w2 ⟨rfl,l2⟩;obtain⟨cs,eJ,cC⟩:=xd w2))
 have l3:ak w2.heap.size w2 (w2.alloc (.cells cs 4)):=F0
 have L3:=cf (L1.out.trans ((l2.trans (l3.mono l2.size)).mono L1.out.size))
 have x3:=bf (l3.some (l2.some A1.out))
 clear xd eJ l3 l2 x1 dX cC
 generalize w2.alloc (.cells cs 4)=w3 at L3 x3⊢
 go_loopw[6,7] (fun a i wr=>a=G 0∧i=G 1∧wr=w3) (fun _ _ _=>0)
 case atStart=>exact⟨rfl,rfl,rfl⟩
 case round=>
  obtain⟨rfl,rfl,rfl⟩:=hrel
  obtain⟨w3,rfl⟩:∃u,u=wr:=⟨_,rfl⟩
  go_wp2_with fail
  go_loopw[6,10,11] (fun a b i wr=>a=G 0∧wr=w3) (fun _ _ _ _=>0)
  case atStart=>exact⟨rfl,rfl⟩
  case round=>
   obtain⟨rfl,rfl⟩:=hrel
   obtain⟨w3,rfl⟩:∃u,u=wr:=⟨_,rfl⟩
   go_upto_region 15 with fail
   go_loopw[6,10,11] (fun a b i wr=>a=G 0∧b=.bool false∧i=G 1∧wr=w3) (fun _ _ _ _=>0)
   case atStart=>exact⟨rfl,rfl,rfl,rfl⟩
   case round=>
    obtain⟨rfl,rfl,rfl,rfl⟩:=hrel
    go_wp2_with fail
    go_ret
    exact⟨rfl,L3.out⟩
theorem E3 (w:World) (g cg:Nat) (Pp:Option Addr) (pc:Nat) (A:Option Addr) (n c:Nat) (T:Option Addr) (tc:Nat) (l:List aE) (ret:Int) (h:fe w g Pp pc A n c T tc l ret) (hn:n≤40) (bB:∀o∈l,Lv o):
 Calls Tryz.prog 58 #[.agg #[.slice (ad g) 1 cg]] w (fun e w'=>e=.returned (.bool true)∧ak w.heap.size w w'):=by
 have l1:ak w.heap.size w (w.alloc (.cells #[.slice (ad g) 1 cg] 40)):=F0
 have a1:=ao w (.cells #[.slice (ad g) 1 cg] 40)
 obtain⟨N,hN⟩:∃N:Nat,de l=(N:Int):=⟨(de l).toNat,by have:=ey l;omega⟩
 have Lm:N≤101:=by have:=dH bB;omega
 have H:=cf (h.low l1);have dA:=cf bB;have HN:=cf hN
 clear h bB hN
 go_enter Tryz.func58,Tryz.ntmps58
 go_upto_region 2 with fail
 obtain⟨t1,eu⟩:∃t,t=w.heap.size:=⟨_,rfl⟩
 rw[←eu]at a1⊢
 clear eu
 generalize w.alloc (.cells #[.slice (ad g) 1 cg] 40)=w1 at l1 a1 H⊢
 have L1:=cf l1;have A1:=cf a1
 clear l1 a1
 go_loopw[3] (fun i wr=>∃q:Nat,i=G q∧q≤N∧ak w1.heap.size w1 wr) (fun i _=>N-(intOf i).toNat)
 case atStart=>exact⟨0,rfl,by omega,ak.refl _ _⟩
 case round=>
  obtain⟨q,rfl,hq,hL⟩:=hrel
  obtain⟨wv,rfl⟩:∃u,u=wr:=⟨_,rfl⟩
  have x1:=bf (hL.some A1.out)
  have dX:=fM wv g cg Pp pc A n c T tc l ret (H.out.low hL) hn dA.out
  rw[HN.out]at dX
  have HL:=cf hL
  clear hL
  by_cases bw:q<N
  ·have bN:(q:Int)<(N:Int):=by omega
   have nu:(0:Int)≤(q:Int):=by omega
   have mI:(q:Int)≤101:=by omega
   have Ib:∀u,ak wv.heap.size wv u→Calls Tryz.prog 134 #[.agg #[.slice (ad g) 1 cg],G (q:Nat)] u (fun e w'=>e=.returned (.bool false)∧ak u.heap.size u w'):=fun u hu=>Ga u g cg Pp pc A n c T tc l ret ((H.out.low HL.out).low hu) hn dA.out _
   have HC:=cf Ib
   clear Ib
   go_wp2_with(first
    |(go_at_call 55;refine dX.mono ?_;rintro e w2 ⟨rfl,l2⟩;have x2:w2.cell? ⟨t1,0,none⟩=some (.slice (ad g) 1 cg):=Yc (l2.some (HL.out.some A1.out));have sL:=HC.out w2 l2)
    |(go_at_call 134;refine sL.mono ?_;rintro e w3 ⟨rfl,l3⟩))
   exact⟨⟨q+1,by simp,bw,HL.out.trans ((l2.trans (l3.mono l2.size)).mono HL.out.size)⟩,by show N-((q:Int)+1).toNat<N-((q:Int)).toNat;omega⟩
  ·have bN:¬(q:Int)<(N:Int):=by omega
   go_wp2_with(first
    |(go_at_call 55;refine dX.mono ?_;rintro e w2 ⟨rfl,l2⟩))
   go_ret
   exact⟨rfl,L1.out.trans ((HL.out.trans (l2.mono HL.out.size)).mono L1.out.size)⟩
def cd (l:List aE) (v:Int):aE:=(l.find? fun o=>o.code==1&&o.res==v).getD ⟨0,0,0,0,0⟩
theorem Au (w:World) (g cg:Nat) (Pp:Option Addr) (pc:Nat) (A:Option Addr) (n c:Nat) (T:Option Addr) (tc:Nat) (l:List aE) (ret:Int) (h:fe w g Pp pc A n c T tc l ret) (hn:n≤40) (v:Int) (x:aE) (hx:cd l v=x):
 Calls Tryz.prog 135 #[.agg #[.slice (ad g) 1 cg],G v] w (fun e w'=>e=.returned (OV x)∧ak w.heap.size w w'):=by
 obtain⟨S,hS⟩:∃S,w.heap.size=S:=⟨_,rfl⟩
 obtain⟨a1,s1,u1⟩:=av (.cells #[.slice (ad g) 1 cg] 40) hS
 obtain⟨a2,s2,u2⟩:=av (.cells #[G 0,G 0,G 0,G 0,.int .u16 0,Zs] 67) s1
 have l2:ak w.heap.size w ((w.alloc (.cells #[.slice (ad g) 1 cg] 40)).alloc (.cells #[G 0,G 0,G 0,G 0,.int .u16 0,Zs] 67)):=(F0).alloc (by simp) _
 obtain⟨kz,r0,r1,r2,r3,r4,r5⟩:=(h.low l2).row
 have p0:=(Yc (j:=0) r0).trans r1
 have p1:=(Yc (j:=1) r0).trans r2
 have p2:=(Yc (j:=2) r0).trans r3
 have p3:=(Yc (j:=3) r0).trans r4
 have p4:=(Yc (j:=4) r0).trans r5
 obtain⟨a3,s3,u3⟩:=av (.cells #[.slice Pp 1 pc,.slice A n c,G 4,G ret,.slice T 0 tc] 62) s2
 have b2:=u3 _ _ a2
 have l3:ak w.heap.size w (((w.alloc (.cells #[.slice (ad g) 1 cg] 40)).alloc (.cells #[G 0,G 0,G 0,G 0,.int .u16 0,Zs] 67)).alloc (.cells #[.slice Pp 1 pc,.slice A n c,G 4,G ret,.slice T 0 tc] 62)):=l2.alloc (by simp;omega) _
 have H:=cf (h.low l3);have HX:=cf hx
 have hlen:l.length=n:=h.ops.1
 clear h u1 u2 u3 l2 r0 r1 r2 r3 r4 r5 hx a1
 go_enter Tryz.func135,Tryz.ntmps135
 go_upto_region 3 with fail
 have iW:=cf hS
 rw[hS]at l3
 obtain⟨t4,uR⟩:∃t,t=S+1:=⟨_,rfl⟩
 obtain⟨t5,gh⟩:∃t,t=S+1+1:=⟨_,rfl⟩
 rw[←gh]at a3⊢
 rw[←uR]at b2⊢
 have HT:=cf (And.intro uR gh)
 clear hS uR gh s1 s2 s3 p0 p1 p2 p3 p4 a2
 generalize((w.alloc (.cells #[.slice (ad g) 1 cg] 40)).alloc (.cells #[G 0,G 0,G 0,G 0,.int .u16 0,Zs] 67)).alloc (.cells #[.slice Pp 1 pc,.slice A n c,G 4,G ret,.slice T 0 tc] 62)=w3 at a3 b2 l3 H⊢
 have y1:=jw a3
 have L3:=cf l3;have B2:=cf b2
 clear l3 a3 b2
 go_loopw[6] (fun i wr=>∃q:Nat,i=G q∧q≤n∧wr=w3∧((l.take q).find? fun o=>o.code==1&&o.res==v)=none) (fun i _=>n-(intOf i).toNat)
 case atStart=>exact⟨0,rfl,by omega,rfl,rfl⟩
 case round=>
  obtain⟨q,rfl,hq,rfl,lG⟩:=hrel
  obtain⟨w3,rfl⟩:∃u,u=wr:=⟨_,rfl⟩
  have hv:=H.out
  have f0:=bG B2.out
  have z0:=aC B2.out
  by_cases bw:q<n
  ·skip
   have bN:(q:Int)<(n:Int):=by omega
   have nu:(0:Int)≤(q:Int):=by omega
   have mI:(q:Int)≤40:=by omega
   obtain⟨o,ho⟩:∃o,l[q]?=some o:=⟨_,List.getElem?_eq_getElem (by have:=hv.ops.1;omega)⟩
   obtain⟨ga,cs,rfl,qD,hg,k0,k1,k2,k3,k4,k5⟩:=hv.ops.2 q o ho
   obtain⟨c0,c1,c2,c3,c4,c5⟩:=iw hg k0 k1 k2 k3 k4 k5
   have Qm:=mR ho
   have hlq:l.drop q=o::l.drop (q+1):=by
    rw[List.drop_eq_getElem_cons (by omega),(List.getElem?_eq_some_iff.1 ho).2]
   have Aa:l=l.take q++o::l.drop (q+1):=by rw[←hlq,List.take_append_drop]
   by_cases h1:o.code=1
   ·by_cases h2:o.res=v
    ·have Yk:x=o:=by
      have:=HX.out
      unfold cd at this
      rw[Aa,List.find?_append,lG]at this
      simp[h1,h2]at this
      exact this.symm
     obtain⟨iK,mE⟩:=rD (v0:=G 1) (v1:=G v) (v2:=G o.a) (v3:=G o.b) (v4:=.int .u16 o.n) (v5:=Zs) B2.out _ rfl
     have HF:=cf (show ak S w _ from L3.out.trans (mE.low (S:=S) (by have:=HT.out;simp;omega) (by have:=L3.out.size;have:=iW.out;omega)))
     have q0:=Yc (j:=0) iK
     have q1:=Yc (j:=1) iK
     have q2:=Yc (j:=2) iK
     have q3:=Yc (j:=3) iK
     have q4:=Yc (j:=4) iK
     have q5:=Yc (j:=5) iK
     have HXO:=cf (show x=⟨1,v,o.a,o.b,o.n⟩ by rw[Yk,←h1,←h2])
     rw[h1]at c0;rw[h2]at c1
     clear hv hg k0 k1 k2 k3 k4 k5 ho lG Qm hlq Aa Yk iK mE h1 h2
     go_wp2_with fail
     exact bodyPost_ret (v:=.agg #[G 1,G v,G o.a,G o.b,.int .u16 o.n,Zs]) (by simp[results,Tryz.results135,go_sem,q0,q1,q2,q3,q4,q5];done) rfl ⟨by rw[HXO.out],by rw[iW.out];exact HF.out⟩
    ·have Fq:((l.take (q+1)).find? fun o=>o.code==1&&o.res==v)=none:=by
      rw[Qm,List.find?_append,lG]
      simp[h2]
     have HN:=cf Fq
     rw[h1]at c0
     clear hv hg k0 k1 k2 k3 k4 k5 ho lG Qm hlq Aa Fq f0 z0 h1
     go_wp2_with fail
     exact⟨⟨q+1,by simp,bw,(by trivial),HN.out⟩,by show n-((q:Int)+1).toNat<n-((q:Int)).toNat;omega⟩
   ·have Fq:((l.take (q+1)).find? fun o=>o.code==1&&o.res==v)=none:=by
     rw[Qm,List.find?_append,lG]
     simp[h1]
    have HN:=cf Fq
    have d1:decide (o.code=1)=false:=by simpa using h1
    clear hv hg k0 k1 k2 k3 k4 k5 ho lG Qm hlq Aa Fq f0 z0
    go_wp2_with fail
    exact⟨⟨q+1,by simp,bw,(by trivial),HN.out⟩,by show n-((q:Int)+1).toNat<n-((q:Int)).toNat;omega⟩
  ·have bN:¬(q:Int)<(n:Int):=by omega
   have TK:x=⟨0,0,0,0,0⟩:=by
    have:=HX.out
    unfold cd at this
    rw[List.take_of_length_le (by omega)]at lG
    rw[lG]at this
    exact this.symm
   obtain⟨iK,mE⟩:=rD (v0:=G 0) (v1:=G 0) (v2:=G 0) (v3:=G 0) (v4:=.int .u16 0) (v5:=Zs) B2.out _ rfl
   have HF:=cf (show ak S w _ from L3.out.trans (mE.low (S:=S) (by have:=HT.out;simp;omega) (by have:=L3.out.size;have:=iW.out;omega)))
   have q0:=Yc (j:=0) iK
   have q1:=Yc (j:=1) iK
   have q2:=Yc (j:=2) iK
   have q3:=Yc (j:=3) iK
   have q4:=Yc (j:=4) iK
   have q5:=Yc (j:=5) iK
   have HXO:=cf TK
   clear hv lG TK iK mE
   go_wp2_with fail
   exact bodyPost_ret (v:=.agg #[G 0,G 0,G 0,G 0,.int .u16 0,Zs]) (by simp[results,Tryz.results135,go_sem,q0,q1,q2,q3,q4,q5];done) rfl ⟨by rw[HXO.out],by rw[iW.out];exact HF.out⟩
theorem MB (w:World) (o:aE) (h:aS o.code):Calls Tryz.prog 136 #[OV o] w (fun e w'=>e=.returned (.bool (decide (o.code≤17∧o.code≠8)))∧ak w.heap.size w w'):=by
 obtain⟨code,res,a,b,nn⟩:=o
 simp only at h⊢
 have l1:∀c:Int,ak w.heap.size w (w.alloc (.cells #[G c,G res,G a,G b,.int .u16 nn,Zs] 67)):=fun c=>F0
 simp only[aS,List.mem_cons,List.not_mem_nil,or_false]at h
 rcases h with rfl|rfl|rfl|rfl|rfl|rfl|rfl|rfl|rfl|rfl|rfl|rfl|rfl|rfl|rfl|rfl|rfl
 all_goals
  go_enter Tryz.func136,Tryz.ntmps136
  go_wp2
  go_ret
  exact⟨by simp,l1 _⟩
theorem Ax (w:World) (c:Int) (h:aS c):Calls Tryz.prog 133 #[G c] w (fun e w'=>e=.returned (.bool (decide (Comm c)))∧w'=w):=by
 simp only[aS,List.mem_cons,List.not_mem_nil,or_false]at h
 rcases h with rfl|rfl|rfl|rfl|rfl|rfl|rfl|rfl|rfl|rfl|rfl|rfl|rfl|rfl|rfl|rfl|rfl
 all_goals
  go_enter Tryz.func133,Tryz.ntmps133
  go_wp2
  go_ret
  first
   |exact⟨(by rw[decide_eq_true (by unfold Comm;decide)];rfl),rfl⟩
   |exact⟨(by rw[decide_eq_false (by unfold Comm;decide)];rfl),rfl⟩
end
end Go.Proofs.YtjkahfmdcpfjjaaGreat
