/- The reference: rows of operations of the call own; a store that changes nothing. -/
import Derived.Test.YtjkahfmdcpfjjaaGreatCE
set_option linter.unusedVariables false
namespace Go.Proofs.YtjkahfmdcpfjjaaGreat
open Go.RowKit
section
set_option maxRecDepth 100000
set_option maxHeartbeats 8000000
theorem Jc (w:World) (g cg:Nat) (Pp:Option Addr) (pc:Nat) (A:Option Addr) (n c:Nat) (T:Option Addr) (tc:Nat) (l:List aE) (ret:Int) (h:fe w g Pp pc A n c T tc l ret) (sb:Nat) (hs:w.heap[sb]?=some (.cells #[.bool false] 4 (0,0))):
 Calls Tryz.prog 66 #[.agg #[.slice (ad g) 1 cg],G 0,.slice (ad sb) 1 1,Zs] w (fun e w'=>ak sb w w'∧∃A c,e=.returned (.slice A 1 c)∧bW w' w.heap.size A 1 c [0]):=by
 have l1:ak w.heap.size w (w.alloc (.cells #[.slice (ad g) 1 cg] 40)):=F0
 have a1:=ao w (.cells #[.slice (ad g) 1 cg] 40)
 have b1:=l1.some hs
 have KT:sb<w.heap.size:=aB hs
 obtain⟨kz,r0,r1,r2,r3,r4,r5⟩:=(h.low l1).row
 clear h hs
 go_enter Tryz.func66,Tryz.ntmps66
 go_upto_region 1 with fail
 obtain⟨t4,uR⟩:∃t,t=w.heap.size:=⟨_,rfl⟩
 rw[←uR]at a1⊢
 have HT:=cf uR
 clear uR
 generalize w.alloc (.cells #[.slice (ad g) 1 cg] 40)=w1 at l1 a1 b1 r0⊢
 have x0:=bf b1
 have f0:w1.frozen? ⟨sb,0,none⟩=false:=au b1
 have bw:t4≠sb:=by rw[HT.out];omega
 have a2:(w1.setCell ⟨sb,0,none⟩ (.bool true)).heap[t4]?=some (.cells #[.slice (ad g) 1 cg] 40 (0,0)):=(aj bw).trans a1
 have q2:(w1.setCell ⟨sb,0,none⟩ (.bool true)).heap[g]?=some (.cells kz 62 (0,0)):=(aj (by rintro rfl;rw[b1]at r0;cases r0)).trans r0
 have l2:=(l1.mono (Nat.le_of_lt KT)).setCell (Nat.le_refl sb) (i:=0) (.bool true)
 have cC:(w1.setCell ⟨sb,0,none⟩ (.bool true)).heap.size=w1.heap.size:=cW _ _ _
 have Qg:w.heap.size≤w1.heap.size:=l1.size
 clear a1 r0 l1
 go_upto_region 2 with fail
 clear x0 f0 bw b1
 generalize w1.setCell ⟨sb,0,none⟩ (.bool true)=w2 at a2 q2 l2 cC⊢
 obtain⟨A4,c4,w4,iL,qB,vZ⟩:=j7 (bW.nil w2 w2.heap.size) 0 (by omega) (Nat.le_refl _)
 rw[List.nil_append]at qB
 rw[Nat.zero_add]at iL qB
 have x4:=bf (vZ.some a2)
 have y4:w4.cell? ⟨g,4,none⟩=some (.slice T 0 tc):=(Yc (vZ.some q2)).trans r5
 have HF:=cf (show ak sb w w4∧bW w4 w.heap.size A4 1 c4 [0]from⟨l2.trans (vZ.mono (by omega)),qB.mono (by omega)⟩)
 clear a2 q2 l2 cC Qg qB vZ KT
 go_upto_region 4 with(first
  |(at_builtin;refine aO rfl (.tmp 14) (.tmp 16) rfl rfl rfl iL ?_))
 go_loopw[3,9] (fun v i wr=>v=.slice A4 1 c4∧i=G 0∧wr=w4) (fun _ _ _=>0)
 case atStart=>exact⟨rfl,rfl,rfl⟩
 case round=>
  obtain⟨rfl,rfl,rfl⟩:=hrel
  go_wp2_with fail
  go_ret
  exact⟨HF.out.1,A4,c4,rfl,HF.out.2⟩
def fl (l:List aE):Nat:=(l.filter (fun o=>decide (0≤o.res))).length+1
variable {l:List aE}
theorem qk {q:Nat} {o:aE} (h:l[q]?=some o):fl (l.take (q+1))=fl (l.take q)+(if 0≤o.res then 1 else 0):=by
 unfold fl
 rw[List.take_add_one,h]
 by_cases h0:0≤o.res<;>simp[List.filter_append,h0]
def pD (l:List aE):Prop:=∀(q:Nat) (o:aE),l[q]?=some o→o.res= -1∨o.res=(fl (l.take q):Int)
theorem pD.count (h:pD l):de l=(fl l:Int):=by
 have key:∀q,q≤l.length→de (l.take q)=(fl (l.take q):Int):=by
  intro q
  induction q with
  |zero=>intro _;rfl
  |succ q ih=>
   intro hq
   have ih:=ih (by omega)
   obtain⟨o,ho⟩:∃o,l[q]?=some o:=⟨_,List.getElem?_eq_getElem (by omega)⟩
   rw[sc ho,qk ho,ih]
   rcases h q o ho with hr|hr
   ·rw[hr,if_neg (by omega)]
    unfold Hg
    rw[if_neg (by unfold fl;omega)]
    simp
   ·rw[if_pos (by unfold fl at hr;omega),hr]
    unfold Hg
    rw[if_pos (by omega)]
    omega
 have:=key l.length (Nat.le_refl _)
 rwa[List.take_length]at this
def py (w:World) (V N:Nat):Prop:=∃cs,w.heap[V]?=some (.cells cs 3 (0,0))∧∀v,v<N→cs[v]?=some (G (v:Nat))
variable {w:World} {N V:Nat}
theorem py.low {w':World} (h:py w V N) (hl:ak w.heap.size w w'):py w' V N:=by
 obtain⟨cs,h1,h2⟩:=h
 exact⟨cs,hl.some h1,h2⟩
def q8 (w:World) (V N k:Nat):Prop:=∃cs,w.heap[V]?=some (.cells cs 3 (0,0))∧cs.size=N∧∀v,v<k→cs[v]?=some (G (v:Nat))
theorem q8.put {k:Nat} (h:q8 w V N k) (hk:k<N):q8 (w.setCell ⟨V,k,none⟩ (G (k:Nat))) V N (k+1):=by
 obtain⟨cs,h1,h2,h3⟩:=h
 refine⟨_,aD h1,by simpa using h2,fun v hv=>?_⟩
 rw[Array.getElem?_setIfInBounds]
 by_cases hvk:k=v
 ·subst hvk
  rw[if_pos rfl,if_pos (by omega)]
 ·rw[if_neg hvk]
  exact h3 v (by omega)
end
section
set_option maxRecDepth 100000
set_option maxHeartbeats 8000000
theorem zF (w:World) (g cg:Nat) (Pp:Option Addr) (pc:Nat) (A:Option Addr) (n c:Nat) (T:Option Addr) (tc:Nat) (l:List aE) (ret:Int) (h:fe w g Pp pc A n c T tc l ret) (hn:n≤40) (bB:∀o∈l,Lv o) (jL:pD l) (oc:Nat) (OA:Option Addr) (hO:j9 w OA 1 oc [0]):
 Calls Tryz.prog 68 #[.agg #[.slice (ad g) 1 cg],.slice OA 1 oc] w (fun e w'=>ak w.heap.size w w'∧∃V,e=.returned (.slice (ad V) (fl l) (fl l))∧py w' V (fl l)):=by
 obtain⟨N,hN⟩:∃N,N=fl l:=⟨_,rfl⟩
 rw[←hN]
 have l1:ak w.heap.size w (w.alloc (.cells #[.slice (ad g) 1 cg] 40)):=F0
 have a1:=ao w (.cells #[.slice (ad g) 1 cg] 40)
 have dX:=fM _ g cg Pp pc A n c T tc l ret (h.low l1) hn bB
 rw[jL.count,←hN]at dX
 have Lm:N≤101:=by have:=dH bB;rw[jL.count]at this;omega
 have wK:1≤N:=by rw[hN];unfold fl;omega
 have H:=cf h;have dA:=cf bB;have HC:=cf jL;have HN:=cf hN
 have HO:=cf hO
 clear h bB jL hN hO
 go_enter Tryz.func68,Tryz.ntmps68
 go_upto_region 1 with fail
 obtain⟨t2,nU⟩:∃t,t=w.heap.size:=⟨_,rfl⟩
 rw[←nU]at a1⊢
 clear nU
 generalize w.alloc (.cells #[.slice (ad g) 1 cg] 40)=w1 at l1 a1 dX⊢
 have x1:=bf a1
 have L1:=cf l1;have A1:=cf a1
 clear l1 a1
 have xd:=fun w2:World=>qp apI w2 N (by omega) (by decide)
 go_upto_region 4 with(first
  |(go_at_call 55;refine dX.mono ?_;rintro e w2 ⟨rfl,l2⟩;obtain⟨cs,eJ,cC⟩:=xd w2))
 have l3:ak w2.heap.size w2 (w2.alloc (.cells cs 3)):=F0
 have a3:=ao w2 (.cells cs 3)
 obtain⟨V,hV⟩:∃D,D=w2.heap.size:=⟨_,rfl⟩
 rw[←hV]at a3⊢
 have L3:=cf (L1.out.trans ((l2.trans (l3.mono l2.size)).mono L1.out.size))
 have A3:=cf (l3.some (l2.some A1.out))
 have HV:Hid (w.heap.size≤V∧t2<V):=cf ⟨by rw[hV];exact Nat.le_trans L1.out.size l2.size,by rw[hV];exact aB (l2.some A1.out)⟩
 have HV3:=cf (show q8 (w2.alloc (.cells cs 3)) V N 0 from⟨cs,a3,by omega,fun v hv=>by omega⟩)
 clear xd eJ l3 l2 x1 dX a3 cC hV A1 L1
 generalize w2.alloc (.cells cs 3)=w3 at L3 A3 HV3⊢
 go_loopw[6,7] (fun nx i wr=>(nx=G 0∧i=G 0∧wr=w3)∨(i=G 1∧ak w.heap.size w wr∧q8 wr V N N)) (fun _ i _=>1-(intOf i).toNat)
 case atStart=>exact .inl ⟨rfl,rfl,rfl⟩
 case round=>
  rcases hrel with⟨rfl,rfl,rfl⟩|⟨rfl,hL,hV⟩
  ·obtain⟨w3,rfl⟩:∃u,u=wr:=⟨_,rfl⟩
   have h1:=H.out.low L3.out
   obtain⟨og,ocs,hoe,Hx,DV⟩:=(HO.out.low L3.out).2.2 0 0 rfl
   have hoc:=HO.out.2.1
   subst hoe
   have x1:=bf A3.out
   have xo:w3.cell? ⟨og,0,none⟩=some (G 0):=(Yc Hx).trans DV
   obtain⟨kz,r0,r1,r2,r3,r4,r5⟩:=h1.row
   obtain⟨gp,cp,rfl,KV,pJ,rm⟩:=h1.par
   have p0:=mV r0 r1 r2 r3 r4 r5
   have b1:og<w3.heap.size:=aB Hx
   have b2:g<w3.heap.size:=aB r0
   have b3:t2<w3.heap.size:=aB A3.out
   have JX:gp<w3.heap.size:=aB pJ
   clear r0 r1 r2 r3 r4 r5 Hx DV h1
   go_upto_region 6 with fail
   go_region
   have l4:ak w3.heap.size w3 ((w3.alloc (.cells #[.slice (ad gp) 1 pc,.slice A n c,G 4,G ret,.slice T 0 tc] 62)).drew):=(F0).drew
   have a4:((w3.alloc (.cells #[.slice (ad gp) 1 pc,.slice A n c,G 4,G ret,.slice T 0 tc] 62)).drew).heap[w3.heap.size]?=some (.cells #[.slice (ad gp) 1 pc,.slice A n c,G 4,G ret,.slice T 0 tc] 62 (0,0)):=ao w3 _
   have HQ:=HV3.out
   have L4:=cf (L3.out.trans (l4.mono L3.out.size))
   have q4:((w3.alloc (.cells #[.slice (ad gp) 1 pc,.slice A n c,G 4,G ret,.slice T 0 tc] 62)).drew).cell? ⟨gp,0,none⟩=some (G 0):=(Yc (l4.some pJ)).trans rm
   have V4:Hid (q8 ((w3.alloc (.cells #[.slice (ad gp) 1 pc,.slice A n c,G 4,G ret,.slice T 0 tc] 62)).drew) V N 0):=cf (by
    obtain⟨cs,v1,v2,v3⟩:=HQ
    exact⟨cs,l4.some v1,v2,v3⟩)
   have HB:Hid (V<w3.heap.size∧gp<w.heap.size):=cf (by
    obtain⟨cs,v1,v2,v3⟩:=HV3.out
    refine⟨aB v1,?_⟩
    obtain⟨_,_,e,_,e2,_⟩:=H.out.par
    cases e
    exact aB e2)
   clear p0 x1 xo b1 b2 b3 JX l4 HQ pJ rm L3
   obtain⟨t8,ZS⟩:∃t,t=w3.heap.size:=⟨_,rfl⟩
   rw[←ZS]at a4 HB⊢
   clear ZS
   generalize(w3.alloc (.cells #[.slice (ad gp) 1 pc,.slice A n c,G 4,G ret,.slice T 0 tc] 62)).drew=w4 at a4 L4 q4 V4⊢
   have A4:=cf a4
   have y0:=bf a4
   clear a4
   go_upto_region 8 with fail
   go_loopw[6,9] (fun nx i wr=>(nx=G 0∧i=G 0∧wr=w4)∨(nx=G 1∧i=G 1∧wr=w4.setCell ⟨V,0,none⟩ (G 0))) (fun _ i _=>1-(intOf i).toNat)
   case atStart=>exact .inl ⟨rfl,rfl,rfl⟩
   case round=>
    rcases hrel with⟨rfl,rfl,rfl⟩|⟨rfl,rfl,rfl⟩
    ·obtain⟨w4,rfl⟩:∃u,u=wr:=⟨_,rfl⟩
     obtain⟨cs,v1,v2,v3⟩:=V4.out
     have Qi:∃v,w4.cell? ⟨V,0,none⟩=some v:=by rw[Yc v1];exact⟨_,Array.getElem?_eq_getElem (by omega)⟩
     obtain⟨v,Qi⟩:=Qi
     have hf0:w4.frozen? ⟨V,0,none⟩=false:=au v1
     have hN0:(0:Int)<(N:Int):=by omega
     clear v1 v3
     go_wp2_with fail
     exact⟨.inr ⟨rfl,rfl,(by trivial)⟩,by decide⟩
    ·have hbb:=HB.out
     have v5:=V4.out.put (show 0<N by omega)
     have a5:(w4.setCell ⟨V,0,none⟩ (G 0)).heap[t8]?=some (.cells #[.slice (ad gp) 1 pc,.slice A n c,G 4,G ret,.slice T 0 tc] 62 (0,0)):=(aj (by omega)).trans A4.out
     have l5:=L4.out.setCell HV.out.1 (i:=0) (G 0)
     have v5':q8 (w4.setCell ⟨V,0,none⟩ (G 0)) V N 1:=v5
     clear y0 q4 v5
     generalize w4.setCell ⟨V,0,none⟩ (G 0)=w5 at a5 l5 v5'⊢
     have y0:=bf a5
     have A5:=cf a5;have L5:=cf l5;have V5:=cf v5'
     have HB5:=cf hbb.1
     clear a5 l5 v5' hbb A4 L4 V4 HB
     go_upto_region 13 with fail
     clear y0
     go_loopw[6,10] (fun nx i wx=>∃q:Nat,nx=G (fl (l.take q):Nat)∧i=G q∧q≤n∧ak w.heap.size w wx∧wx.heap[t8]?=some (.cells #[.slice (ad gp) 1 pc,.slice A n c,G 4,G ret,.slice T 0 tc] 62 (0,0))∧q8 wx V N (fl (l.take q))) (fun _ i _=>n-(intOf i).toNat)
     case atStart=>exact⟨0,rfl,rfl,by omega,L5.out,A5.out,V5.out⟩
     case round=>
      obtain⟨q,rfl,rfl,hq,hL,hA,hV⟩:=hrel
      obtain⟨wv,rfl⟩:∃u,u=wr:=⟨_,rfl⟩
      have y1:=jw hA
      have hlen:l.length=n:=H.out.ops.1
      by_cases bw:q<n
      ·have hv:=H.out.low hL
       have bN:(q:Int)<(n:Int):=by omega
       have nu:(0:Int)≤(q:Int):=by omega
       have mI:(q:Int)≤40:=by omega
       obtain⟨o,ho⟩:∃o,l[q]?=some o:=⟨_,List.getElem?_eq_getElem (by have:=hv.ops.1;omega)⟩
       obtain⟨ga,cs,rfl,qD,hg,k0,k1,k2,k3,k4,k5⟩:=hv.ops.2 q o ho
       have c1:wv.cell? ⟨ga,q*6+1,none⟩=some (G o.res):=(Yc hg).trans k1
       have dQ:=qk ho
       have jL:=HC.out q o ho
       have Lk:=HB5.out
       rcases jL with hr|hr
       ·rw[hr]at c1 dQ
        rw[if_neg (by omega)]at dQ
        have HF:=cf (And.intro hL (And.intro hA hV))
        generalize fl (l.take q)=k at dQ HF⊢
        have wj:fl (l.take (q+1))=k:=dQ
        have HK:=cf wj
        clear hL hA hV hv hg k0 k1 k2 k3 k4 k5 ho hr dQ wj
        go_wp2_with fail
        exact⟨⟨q+1,by rw[HK.out],by simp,bw,HF.out.1,HF.out.2.1,by rw[HK.out];exact HF.out.2.2⟩,by show n-((q:Int)+1).toNat<n-((q:Int)).toNat;omega⟩
       ·rw[hr]at c1
        rw[if_pos (by omega)]at dQ
        have Ui:fl (l.take q)<N:=by
         have h1:=fY l 1 o (List.mem_of_getElem? ho)
         have h2:=HC.out.count
         unfold de at h2
         rw[h2]at h1
         have:=HN.out
         omega
        have mJ:=hV.put Ui
        obtain⟨jH,v1,v2,v3⟩:=hV
        generalize fl (l.take q)=k at dQ mJ c1 Ui v3⊢
        have Qi:∃v,wv.cell? ⟨V,k,none⟩=some v:=by rw[Yc v1];exact⟨_,Array.getElem?_eq_getElem (by omega)⟩
        obtain⟨v,Qi⟩:=Qi
        have hf0:wv.frozen? ⟨V,k,none⟩=false:=au v1
        have ab1:(k:Int)<(N:Int):=by omega
        have sS:(0:Int)≤(k:Int):=by omega
        have JV:(k:Int)≤101:=by omega
        have hwk:IntKind.i64.wrap ((k:Int)+1)=(k:Int)+1:=IntWalk.i64_in _ (by omega)
        have HF:=cf (show ak w.heap.size w (wv.setCell ⟨V,k,none⟩ (G (k:Nat)))∧(wv.setCell ⟨V,k,none⟩ (G (k:Nat))).heap[t8]?=_∧q8 (wv.setCell ⟨V,k,none⟩ (G (k:Nat))) V N (k+1)from⟨hL.setCell HV.out.1 _,(aj (by omega)).trans hA,mJ⟩)
        have HK:=cf dQ
        clear hL hA mJ hv hg k0 k1 k2 k3 k4 k5 ho hr dQ v1 v3
        go_wp2_with fail
        exact⟨⟨q+1,by rw[HK.out];simp,by simp,bw,HF.out.1,HF.out.2.1,by rw[HK.out];exact HF.out.2.2⟩,by show n-((q:Int)+1).toNat<n-((q:Int)).toNat;omega⟩
      ·have bN:¬(q:Int)<(n:Int):=by omega
       have qA:l.take q=l:=List.take_of_length_le (by omega)
       rw[qA,←HN.out]at hV
       have HF:=cf (And.intro hL hV)
       clear hL hA hV
       go_wp2_with fail
       exact⟨.inr ⟨rfl,HF.out⟩,by decide⟩
  ·go_wp2_with fail
   go_ret
   obtain⟨cs,v1,v2,v3⟩:=hV
   exact⟨hL,V,rfl,cs,v1,v3⟩
end
section
set_option maxRecDepth 100000
set_option maxHeartbeats 8000000
theorem take_add {xs:List Int} {q:Nat} {x:Int} (h:xs[q]?=some x):xs.take (q+1)=xs.take q++[x]:=by
 rw[List.take_add_one,h];rfl
theorem E5 (w:World) (B:Option Addr) (m d:Nat) (xs:List Int) (hx:j9 w B m d xs) (hm:m≤40) (V N:Nat) (hV:py w V N) (hN:N≤101) (bw:∀x∈xs,0≤x∧x<(N:Int)):
 Calls Tryz.prog 138 #[.slice B m d,.slice (ad V) N N] w (fun e w'=>ak w.heap.size w w'∧∃A c,e=.returned (.slice A m c)∧bW w' w.heap.size A m c xs):=by
 have HX:=cf hx;have HV:=cf hV;have HL:=cf bw
 have hlen:=hx.1;have Uc:=hx.2.1
 clear hx hV bw
 go_enter Tryz.func138,Tryz.ntmps138
 go_wp2_with fail
 go_loopw[5,6] (fun o i wr=>∃(q:Nat) (A:Option Addr) (c:Nat),i=G q∧q≤m∧o=.slice A q c∧ak w.heap.size w wr∧bW wr w.heap.size A q c (xs.take q)) (fun _ i _=>m-(intOf i).toNat)
 case atStart=>exact⟨0,none,0,rfl,by omega,rfl,ak.refl _ _,bW.nil _ _⟩
 case round=>
  obtain⟨q,A,c,rfl,hq,rfl,hL,hO⟩:=hrel
  obtain⟨wv,rfl⟩:∃u,u=wr:=⟨_,rfl⟩
  by_cases bw:q<m
  ·have bN:(q:Int)<(m:Int):=by omega
   have nu:(0:Int)≤(q:Int):=by omega
   have mI:(q:Int)≤40:=by omega
   obtain⟨x,hx⟩:∃x,xs[q]?=some x:=⟨_,List.getElem?_eq_getElem (by omega)⟩
   obtain⟨TK,hxN⟩:=HL.out x (List.mem_of_getElem? hx)
   obtain⟨bg,bcs,rfl,Oh,pq⟩:=(HX.out.low hL).2.2 q x hx
   have c0:wv.cell? ⟨bg,q,none⟩=some (G x):=(Yc Oh).trans pq
   obtain⟨v,rfl⟩:∃v:Nat,x=(v:Int):=⟨x.toNat,by omega⟩
   obtain⟨cs,v1,v2⟩:=HV.out.low hL
   have d0:wv.cell? ⟨V,v,none⟩=some (G (v:Nat)):=(Yc v1).trans (v2 v (by omega))
   obtain⟨A4,c4,w4,iL,qB,vZ⟩:=j7 hO (v:Int) (by omega) hL.size
   rw[←take_add hx]at qB
   have HF:=cf (And.intro (hL.trans vZ) qB)
   clear Oh pq v1 v2 hO qB vZ hL hx
   go_wp2_with(first
    |(at_builtin;refine aO rfl (.tmp 13) (.tmp 21) rfl rfl rfl iL ?_))
   exact⟨⟨q+1,A4,c4,by simp,bw,rfl,HF.out.1,HF.out.2⟩,by show m-((q:Int)+1).toNat<m-((q:Int)).toNat;omega⟩
  ·have bN:¬(q:Int)<(m:Int):=by omega
   obtain rfl:q=m:=by omega
   rw[List.take_of_length_le (by omega)]at hO
   have HF:=cf (And.intro hL hO)
   clear hL hO
   go_wp2_with fail
   go_ret
   exact⟨HF.out.1,A,c,rfl,HF.out.2⟩
end
section
set_option maxRecDepth 100000
set_option maxHeartbeats 8000000
variable {w w':World}
theorem kg {g i:Nat} {v:Value} {cs:Array Value} {e:TypeId} {fr:Nat×Nat} (h:w.heap[g]?=some (.cells cs e fr)) (hv:cs[i]?=some v):w.setCell ⟨g,i,none⟩ v=w:=by
 have hh:(w.setCell ⟨g,i,none⟩ v).heap=w.heap:=Array.ext_getElem? fun j=>by
  by_cases hj:j=g
  ·subst hj;exact(pY h hv).trans h.symm
  ·exact aj hj
 have:w.setCell ⟨g,i,none⟩ v={w with heap:=(w.setCell ⟨g,i,none⟩ v).heap}:=rfl
 rw[this,hh]
def cJ (w:World) (S:Nat) (A:Option Addr) (n c:Nat) (l:List aE):Prop:=l.length=n∧Own w S 67 6 (.slice A n c) n (rowOf l)
theorem cJ.nil (w:World) (S:Nat):cJ w S none 0 0 []:=⟨rfl,Own.nil _ _ _ _⟩
variable {S c n:Nat} {A:Option Addr} {l:List aE}
theorem cJ.low (h:cJ w S A n c l) (hl:ak w.heap.size w w'):cJ w' S A n c l:=⟨h.1,h.2.low hl⟩
theorem cJ.mono {S':Nat} (h:cJ w S A n c l) (hS:S'≤S):cJ w S' A n c l:=⟨h.1,h.2.mono hS⟩
theorem cJ.other (h:cJ w S A n c l) (hk:∀b,S≤b→(∃cs,w.heap[b]?=some (.cells cs 67 (0,0)))→w'.heap[b]?=w.heap[b]?):cJ w' S A n c l:=by
 refine⟨h.1,h.2.kept fun g hg=>?_⟩
 rcases h.2.form with⟨e,_⟩|⟨g',c',cs,e,h2,h3,_⟩
 ·rw[e]at hg;cases hg
 ·rw[e]at hg;cases hg
  exact hk _ h2 ⟨cs,h3⟩
theorem cJ.LL (h:cJ w S A n c l):dk w A n c l:=by
 by_cases h0:l=[]
 ·subst h0
  exact⟨h.1,fun j o hj=>by simp at hj⟩
 ·obtain⟨g,c',e,_,WV⟩:=dU.uz h.2 h0
  cases e
  exact WV.LL
theorem cJ.size (h:cJ w S A n c l):AR w A (c*6):=by
 intro a ha
 subst ha
 obtain⟨h0,⟨h1,_⟩|⟨g',c',cur,h1,h2,h3,h4,h5,h6,h7⟩⟩:=h.2
 ·cases h1
 ·cases h1
  exact⟨cur,h3,h6⟩
theorem AP (h:cJ w S A n c l) (o:aE) (hn:n≤1000) (hS:S≤w.heap.size):
 ∃A' c' w',(Builtin.append_ #[57,57] 57 #[.slice A n c,.slice (ad (w.heap.size)) 1 1]).run Tryz.prog (w.alloc (OC o))=.ok (.slice A' (n+1) c') w'∧cJ w' S A' (n+1) c' (l++[o])∧ak S w w'∧(∀b,b<w.heap.size→(∀cs,w.heap[b]?≠some (.cells cs 67 (0,0)))→w'.heap[b]?=w.heap[b]?)∧n+1≤c'∧∃g,A'=some ⟨g,0,none⟩:=by
 have l1:ak w.heap.size w (w.alloc (OC o)):=F0
 have dy:=h.2.low l1
 obtain⟨v',w',cN,fP⟩:=eC (ty:=57) DF dy (c:=1) (m:=1) (ao w (OC o)) rfl (by simp[Value.oneCell']) (by omega) (by simp;omega)
 obtain⟨A',c',rfl⟩:=fP.own.slice
 have eJ:cJ w' S A' (n+1) c' (l++[o]):=by
  refine⟨by simp[h.1],?_⟩
  rw[lN]
  exact fP.own
 refine⟨A',c',w',cN,eJ,(l1.mono hS).trans (fP.low dy (Nat.le_refl _) (by simp;omega)),fun b hb cH=>?_,?_⟩
 ·refine(fP.block b (by simp;omega) fun e=>?_).trans (l1.block b hb)
  rcases h.2.form with⟨h1,_⟩|⟨g',c2,cs,h1,h2,h3,_⟩
  ·rw[h1]at e;cases e
  ·rw[h1]at e
   simp[Value.ownBlock]at e
   subst e
   exact cH cs h3
 ·rcases eJ.2.form with⟨h1,h2⟩|⟨g',c2,cs,h1,h2,h3,h4⟩
  ·omega
  ·cases h1
   exact⟨h4,g',rfl⟩
theorem lV (w:World) (v:Value):Calls Tryz.prog 138 #[Zs,v] w (fun e w'=>e=.returned Zs∧w'=w):=by
 go_enter Tryz.func138,Tryz.ntmps138
 go_wp2_with fail
 go_loopw[5,6] (fun o i wr=>o=Zs∧i=G 0∧wr=w) (fun _ _ _=>0)
 case atStart=>exact⟨rfl,rfl,rfl⟩
 case round=>
  obtain⟨rfl,rfl,rfl⟩:=hrel
  go_wp2_with fail
  go_ret
  exact⟨rfl,rfl⟩
theorem aq4:Ap Tryz.prog 38 62 5 88:=⟨Tryz.underlying38,by
 obtain⟨ti,nT,hz,hs,hb⟩:=dP (show(Tryz.prog.info? 62).map (fun i=>(i.zero,i.size,i.bytes))=some (some (.agg #[Zs,Zs,G 0,G 0,Zs]),5,88) by kernel_rfl)
 exact⟨ti,_,nT,hz,hs,hb,rfl⟩,by decide,by decide⟩
theorem sl (w:World) (v0 v1 v2 v3 v4:Value) (h1:∀v∈[v0,v1,v2,v3,v4],v.oneCell'=true):∃g c w' cs,(Builtin.append_ #[38,38] 38 #[Zs,.slice (ad (w.heap.size)) 1 1]).run Tryz.prog (w.alloc (.cells #[v0,v1,v2,v3,v4] 62))=.ok (.slice (ad g) 1 c) w'∧ak w.heap.size w w'∧w.heap.size<g∧w'.heap[g]?=some (.cells cs 62 (0,0))∧cs[0]?=some v0∧cs[1]?=some v1∧cs[2]?=some v2∧cs[3]?=some v3∧cs[4]?=some v4∧1≤c:=by
 have l1:ak w.heap.size w (w.alloc (.cells #[v0,v1,v2,v3,v4] 62)):=F0
 have hs:(w.alloc (.cells #[v0,v1,v2,v3,v4] 62)).heap.size=w.heap.size+1:=by simp
 obtain⟨v',w',cN,fP⟩:=eC (ty:=38) aq4 (Own.nil (w.alloc (.cells #[v0,v1,v2,v3,v4] 62)) (w.heap.size+1) 62 5) (c:=1) (m:=1) (ao w (.cells #[v0,v1,v2,v3,v4] 62)) rfl (by simpa using h1) (by omega) (by omega)
 obtain⟨g,c,cs,rfl,q1,q2,q3,q4⟩:=fP.row (k:=1) rfl (by decide)
 have key:∀j u,[v0,v1,v2,v3,v4][j]?=some u→cs[j]?=some u:=fun j u hj=>by
  have:=q4.cell (j:=j) (u:=u) hj
  rwa[Yc q2]at this
 exact⟨g,c,w',cs,cN,l1.trans (fP.low (Own.nil _ _ _ _) (by omega) (by omega)),by omega,q2,key 0 v0 rfl,key 1 v1 rfl,key 2 v2 rfl,key 3 v3 rfl,key 4 v4 rfl,q3⟩
end
end Go.Proofs.YtjkahfmdcpfjjaaGreat
