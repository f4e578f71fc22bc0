/- The reference: an operation is as listed. -/
import Derived.Test.YtjkahfmdcpfjjaaGreatC6
import Derived.Laws.MakeOwn
set_option linter.unusedVariables false
namespace Go.Proofs.YtjkahfmdcpfjjaaGreat
open Go.RowKit
section
set_option maxRecDepth 100000
set_option maxHeartbeats 8000000
theorem qp {P:Program} {t e size bytes:Nat} (hE:Ap P t e size bytes) (w:World) (N:Nat) (hN:N≤1000) (hb:bytes≤1024):∃cs,(Instr.makeSlice t (G N) (G N)).run P w=.ok (.slice (ad (w.heap.size)) N N) (w.alloc (.cells cs e))∧cs.size=N*size:=by
 obtain⟨ti,z,hi,hz,np,Bj,RZ⟩:=hE.info
 have h1:((ti.bytes:Nat):Int)*(N:Int)≤281474976710656:=by
  rw[Bj]
  have:bytes*N≤1024*1000:=Nat.mul_le_mul hb hN
  have h2:((bytes*N:Nat):Int)≤1024*1000:=by omega
  rw[Int.natCast_mul]at h2
  omega
 have hr:=run_make (P:=P) w t e ti z hE.ht hi hz .i64 .i64 N N (by omega) (Int.le_refl _) h1 (by omega)
 simp only[Int.toNat_natCast]at hr
 exact⟨_,hr,by rw[size_madeCells,np]⟩
theorem UP:Ap Tryz.prog 169 215 2 16:=⟨Tryz.underlying169,by
 obtain⟨ti,nT,hz,hs,hb⟩:=dP (show(Tryz.prog.info? 215).map (fun i=>(i.zero,i.size,i.bytes))=some (some (.agg #[G 0,G 0]),2,16) by kernel_rfl)
 exact⟨ti,_,nT,hz,hs,hb,rfl⟩,by decide,by decide⟩
structure gJ (l:List aE):Prop where
 pos:∀o∈l,o.res= -1∨0<o.res
 mL:∀(j k:Nat) (o o':aE),j<k→l[j]?=some o→l[k]?=some o'→0<o.res→o.res≠o'.res
def gK (w:World) (D N:Nat) (l:List aE) (q:Nat):Prop:=∃cs,w.heap[D]?=some (.cells cs 215 (0,0))∧cs.size=N*2∧cs[0]?=some (G 0)∧cs[1]?=some (G (-1))∧
 (∀(k:Nat) (o:aE),k<q→l[k]?=some o→0<o.res→cs[o.res.toNat*2]?=some (G 0)∧cs[o.res.toNat*2+1]?=some (G k))∧
 (∀v,0<v→v<N→(∀(k:Nat) (o:aE),k<q→l[k]?=some o→o.res≠(v:Nat))→cs[v*2]?=some (G (-1)))
variable {w:World} {D N q:Nat} {l:List aE}
theorem gK.low {w':World} (h:gK w D N l q) (hl:ak w.heap.size w w'):gK w' D N l q:=by
 obtain⟨cs,h1,r⟩:=h
 exact⟨cs,hl.some h1,r⟩
def oP (w:World) (D N q:Nat):Prop:=∃cs,w.heap[D]?=some (.cells cs 215 (0,0))∧cs.size=N*2∧∀v,v<q→cs[v*2]?=some (G (-1))
theorem oP.put (h:oP w D N q) (hq:q<N):oP (w.setCell ⟨D,q*2,none⟩ (G (-1))) D N (q+1):=by
 obtain⟨cs,h1,h2,h3⟩:=h
 refine⟨_,aD h1,by simpa using h2,fun v hv=>?_⟩
 rw[Array.getElem?_setIfInBounds]
 by_cases hvq:v=q
 ·subst hvq
  rw[if_pos rfl,if_pos (by omega)]
 ·rw[if_neg (by omega)]
  exact h3 v (by omega)
theorem oP.first (h:oP w D N N) (hN:0<N):gK ((w.setCell ⟨D,0,none⟩ (G 0)).setCell ⟨D,1,none⟩ (G (-1))) D N l 0:=by
 obtain⟨cs,h1,h2,h3⟩:=h
 refine⟨_,aD (aD h1),by simpa using h2,?_,?_,fun k o hk=>by omega,fun v hv ZM _=>?_⟩
 ·rw[Array.getElem?_setIfInBounds,if_neg (by omega),Array.getElem?_setIfInBounds,if_pos rfl,if_pos (by omega)]
 ·rw[Array.getElem?_setIfInBounds,if_pos rfl,if_pos (by simp;omega)]
 ·rw[Array.getElem?_setIfInBounds,if_neg (by omega),Array.getElem?_setIfInBounds,if_neg (by omega)]
  exact h3 v ZM
variable {o:aE}
theorem gK.skip (h:gK w D N l q) (ho:l[q]?=some o) (hr:o.res= -1):gK w D N l (q+1):=by
 obtain⟨cs,h1,h2,h3,h4,h5,h6⟩:=h
 refine⟨cs,h1,h2,h3,h4,fun k o' hk cP hp=>?_,fun v hv ZM hk=>h6 v hv ZM fun k o' hk'=>hk k o' (by omega)⟩
 by_cases hkq:k=q
 ·subst hkq
  rw[ho]at cP
  cases cP
  omega
 ·exact h5 k o' (by omega) cP hp
theorem gK.step {v:Nat} (h:gK w D N l q) (bB:gJ l) (ho:l[q]?=some o) (hr:o.res=(v:Nat)) (hv:0<v) (hN:v<N):
 gK ((w.setCell ⟨D,v*2,none⟩ (G 0)).setCell ⟨D,v*2+1,none⟩ (G q)) D N l (q+1):=by
 obtain⟨cs,h1,h2,h3,h4,h5,h6⟩:=h
 refine⟨_,aD (aD h1),by simpa using h2,?_,?_,fun k o' hk cP hp=>?_,fun v' Cu ZM hk=>?_⟩
 ·rw[Array.getElem?_setIfInBounds,if_neg (by omega),Array.getElem?_setIfInBounds,if_neg (by omega)]
  exact h3
 ·rw[Array.getElem?_setIfInBounds,if_neg (by omega),Array.getElem?_setIfInBounds,if_neg (by omega)]
  exact h4
 ·by_cases hkq:k=q
  ·subst hkq
   rw[ho]at cP
   cases cP
   have e:o.res.toNat=v:=by omega
   rw[e]
   constructor
   ·rw[Array.getElem?_setIfInBounds,if_neg (by omega),Array.getElem?_setIfInBounds,if_pos rfl,if_pos (by omega)]
   ·rw[Array.getElem?_setIfInBounds,if_pos rfl,if_pos (by simp;omega)]
  ·have cH:=bB.mL k q o' o (by omega) cP ho hp
   obtain⟨a,b⟩:=h5 k o' (by omega) cP hp
   constructor
   ·rw[Array.getElem?_setIfInBounds,if_neg (by omega),Array.getElem?_setIfInBounds,if_neg (by omega)]
    exact a
   ·rw[Array.getElem?_setIfInBounds,if_neg (by omega),Array.getElem?_setIfInBounds,if_neg (by omega)]
    exact b
 ·have cH:v'≠v:=by
   rintro rfl
   exact hk q o (by omega) ho hr
  rw[Array.getElem?_setIfInBounds,if_neg (by omega),Array.getElem?_setIfInBounds,if_neg (by omega)]
  exact h6 v' Cu ZM fun k o' hk'=>hk k o' (by omega)
theorem Pc (w:World) (g cg:Nat) (Pp:Option Addr) (pc:Nat) (A:Option Addr) (n c:Nat) (T:Option Addr) (tc:Nat) (l:List aE) (ret:Int) (h:fe w g Pp pc A n c T tc l ret) (hn:n≤40) (bB:∀o∈l,Lv o) (hr:gJ l) (N:Nat) (hN:de l=(N:Int)):
 Calls Tryz.prog 121 #[.agg #[.slice (ad g) 1 cg]] w (fun e w'=>ak w.heap.size w w'∧∃D,e=.returned (.tuple #[.slice (ad D) N N,.bool true])∧gK w' D N l n):=by
 have l1:ak w.heap.size w (w.alloc (.cells #[.slice (ad g) 1 cg] 40)):=F0
 have a1:=ao w (.cells #[.slice (ad g) 1 cg] 40)
 have dX:=fM _ g cg Pp pc A n c T tc l ret (h.low l1) hn bB
 have wK:1≤N:=by have:=ey l;omega
 have Lm:N≤101:=by have:=dH bB;omega
 rw[hN]at dX
 have hN3:(N:Int)<65536:=by omega
 have hN4:¬(65536:Int)<(N:Int):=by omega
 have an1:(0:Int)<(N:Int):=by omega
 have H:=cf h;have dA:=cf bB;have HR:=cf hr;have HN:=cf hN
 clear h bB hr hN
 go_enter Tryz.func121,Tryz.ntmps121
 go_upto_region 1 with fail
 obtain⟨t1,eu⟩:∃t,t=w.heap.size:=⟨_,rfl⟩
 rw[←eu]at a1⊢
 clear eu
 generalize w.alloc (.cells #[.slice (ad g) 1 cg] 40)=w1 at l1 a1 dX⊢
 have x1:=bf a1
 have L1:=cf l1;have A1:=cf a1
 clear l1 a1
 have xd:=fun w2:World=>qp UP w2 N (by omega) (by decide)
 go_upto_region 2 with(first
  |(go_at_call 55;refine dX.mono ?_;rintro e w2 ⟨rfl,l2⟩;obtain⟨cs,eJ,cC⟩:=xd w2))
 have l3:ak w2.heap.size w2 (w2.alloc (.cells cs 215)):=F0
 have a3:=ao w2 (.cells cs 215)
 obtain⟨D,hD⟩:∃D,D=w2.heap.size:=⟨_,rfl⟩
 rw[←hD]at a3⊢
 have L3:=cf (L1.out.trans ((l2.trans (l3.mono l2.size)).mono L1.out.size))
 have A3:=cf (l3.some (l2.some A1.out))
 have HD:Hid (w.heap.size≤D∧t1<D):=cf ⟨by rw[hD];exact Nat.le_trans L1.out.size l2.size,by rw[hD];exact aB (l2.some A1.out)⟩
 have YM:=cf (show oP (w2.alloc (.cells cs 215)) D N 0 from⟨cs,a3,cC,fun v hv=>by omega⟩)
 clear xd eJ l3 l2 x1 dX a3 cC hD A1 L1
 generalize w2.alloc (.cells cs 215)=w3 at L3 A3 YM⊢
 go_upto_region 3 with fail
 go_loopw[5] (fun i wr=>∃q:Nat,i=G q∧q≤N∧ak w.heap.size w wr∧wr.heap[t1]?=some (.cells #[.slice (ad g) 1 cg] 40 (0,0))∧oP wr D N q) (fun i _=>N-(intOf i).toNat)
 case atStart=>exact⟨0,rfl,by omega,L3.out,A3.out,YM.out⟩
 case round=>
  obtain⟨q,rfl,hq,hL,hA,W6⟩:=hrel
  obtain⟨w4,rfl⟩:∃u,u=wr:=⟨_,rfl⟩
  by_cases bw:q<N
  ·have bN:(q:Int)<(N:Int):=by omega
   have nu:(0:Int)≤(q:Int):=by omega
   have mI:(q:Int)≤101:=by omega
   have mJ:=W6.put bw
   have N8:=HD.out
   obtain⟨jH,g1,g2,g3⟩:=W6
   have Ic:∃v,w4.cell? ⟨D,q*2,none⟩=some v:=by rw[Yc g1];exact⟨_,Array.getElem?_eq_getElem (by omega)⟩
   obtain⟨v0,Qi⟩:=Ic
   have hfz:w4.frozen? ⟨D,q*2,none⟩=false:=au g1
   have HF:=cf (show ak w.heap.size w (w4.setCell ⟨D,q*2,none⟩ (G (-1)))∧(w4.setCell ⟨D,q*2,none⟩ (G (-1))).heap[t1]?=some (.cells #[.slice (ad g) 1 cg] 40 (0,0))∧oP (w4.setCell ⟨D,q*2,none⟩ (G (-1))) D N (q+1)from⟨hL.setCell N8.1 _,(aj (by omega)).trans hA,mJ⟩)
   clear hL hA mJ g1 g2 g3 N8
   go_wp2_with fail
   exact⟨⟨q+1,by simp,bw,HF.out⟩,by show N-((q:Int)+1).toNat<N-((q:Int)).toNat;omega⟩
  ·have bN:¬(q:Int)<(N:Int):=by omega
   obtain rfl:q=N:=by omega
   have L4:=cf hL;have A4:=cf hA;have D4:=cf W6
   clear hL hA W6 L3 A3 YM
   go_upto_region 7 with fail
   go_loopw[6] (fun i wr=>(i=G 0∧wr=w4)∨(i=G 1∧ak w.heap.size w wr∧wr.heap[t1]?=some (.cells #[.slice (ad g) 1 cg] 40 (0,0))∧gK wr D q l n)) (fun i _=>1-(intOf i).toNat)
   case atStart=>exact .inl ⟨rfl,rfl⟩
   case round=>
    rcases hrel with⟨rfl,rfl⟩|⟨rfl,hL,hA,SA⟩
    ·obtain⟨w4,rfl⟩:∃u,u=wr:=⟨_,rfl⟩
     have x1:=bf A4.out
     have h1:=H.out.low L4.out
     obtain⟨kz,r0,r1,r2,r3,r4,r5⟩:=h1.row
     obtain⟨gp,cp,rfl,KV,pJ,rm⟩:=h1.par
     have p0:=mV r0 r1 r2 r3 r4 r5
     have l5:ak w4.heap.size w4 (w4.alloc (.cells #[.slice (ad gp) 1 pc,.slice A n c,G 4,G ret,.slice T 0 tc] 62)):=F0
     have a5:=ao w4 (.cells #[.slice (ad gp) 1 pc,.slice A n c,G 4,G ret,.slice T 0 tc] 62)
     have L5:=cf (L4.out.trans (l5.mono L4.out.size));have D5:Hid (∃cs,(w4.alloc (.cells #[.slice (ad gp) 1 pc,.slice A n c,G 4,G ret,.slice T 0 tc] 62)).heap[D]?=some (.cells cs 215 (0,0))∧oP (w4.alloc (.cells #[.slice (ad gp) 1 pc,.slice A n c,G 4,G ret,.slice T 0 tc] 62)) D q q):=cf (by
      obtain⟨jH,g1,g2,g3⟩:=D4.out
      exact⟨jH,l5.some g1,jH,l5.some g1,g2,g3⟩)
     have A5:=cf (l5.some A4.out)
     obtain⟨t7,oJ⟩:∃t,w4.heap.size=t:=⟨_,rfl⟩
     rw[oJ]at a5
     have HD5:Hid (D<t7∧t1<D∧w.heap.size≤D∧g<w.heap.size∧gp<w.heap.size):=cf (by
      obtain⟨jH,g1,_⟩:=D4.out
      have:=aB g1
      obtain⟨_,e1,_⟩:=H.out.row
      obtain⟨_,_,e2,_,e3,_⟩:=H.out.par
      cases e2
      exact⟨by omega,HD.out.2,HD.out.1,aB e1,aB e3⟩)
     clear r0 r1 r2 r3 r4 r5 pJ rm h1 l5 L4 D4 A4 bw bN HD hN3 hN4 an1
     go_upto_region 10 with fail
     go_upto_region 11 with fail
     clear p0 oJ
     generalize w4.alloc (.cells #[.slice (ad gp) 1 pc,.slice A n c,G 4,G ret,.slice T 0 tc] 62)=w5 at a5 L5 D5 A5⊢
     have T5:=cf a5
     clear a5
     go_loopw[8,9,10] (fun k v a wx=>ak w.heap.size w wx∧wx.heap[t1]?=some (.cells #[.slice (ad g) 1 cg] 40 (0,0))∧wx.heap[t7]?=some (.cells #[.slice (ad gp) 1 pc,.slice A n c,G 4,G ret,.slice T 0 tc] 62 (0,0))∧((k=G (-1)∧oP wx D q q)∨∃j:Nat,k=G j∧j≤n∧gK wx D q l j)) (fun k _ _ _=>((n:Int)-intOf k).toNat)
     case atStart=>exact⟨L5.out,A5.out,T5.out,.inl ⟨rfl,by obtain⟨_,_,h2⟩:=D5.out;exact h2⟩⟩
     case round=>
      obtain⟨hL,hA,hT,⟨rfl,W6⟩|⟨j,rfl,hj,SA⟩⟩:=hrel
      ·obtain⟨wv,rfl⟩:∃u,u=wr:=⟨_,rfl⟩
       have y0:=gV hT
       have Wk:=(H.out.par.low hL)
       obtain⟨gp',cp',e',av5,JX,Z4⟩:=Wk
       cases e'
       have q0:wv.cell? ⟨gp,0,none⟩=some (G 0):=(Yc JX).trans Z4
       have N8:=HD5.out
       have N0:=W6.first (l:=l) wK
       obtain⟨jH,g1,g2,g3⟩:=W6
       have d0:wv.cell? ⟨D,0,none⟩=some (G (-1)):=(Yc g1).trans (g3 0 (by omega))
       have d1:∃v,wv.cell? ⟨D,1,none⟩=some v:=by rw[Yc g1];exact⟨_,Array.getElem?_eq_getElem (by omega)⟩
       obtain⟨v1,mq⟩:=d1
       have f0:wv.frozen? ⟨D,0,none⟩=false:=au g1
       have f1:wv.frozen? ⟨D,1,none⟩=false:=au g1
       have wZ:(-1:Int)<(n:Int):=by omega
       have nu:(0:Int)<(q:Int):=by omega
       have HF:=cf (show ak w.heap.size w ((wv.setCell ⟨D,0,none⟩ (G 0)).setCell ⟨D,1,none⟩ (G (-1)))∧((wv.setCell ⟨D,0,none⟩ (G 0)).setCell ⟨D,1,none⟩ (G (-1))).heap[t1]?=some (.cells #[.slice (ad g) 1 cg] 40 (0,0))∧((wv.setCell ⟨D,0,none⟩ (G 0)).setCell ⟨D,1,none⟩ (G (-1))).heap[t7]?=some (.cells #[.slice (ad gp) 1 pc,.slice A n c,G 4,G ret,.slice T 0 tc] 62 (0,0))∧gK ((wv.setCell ⟨D,0,none⟩ (G 0)).setCell ⟨D,1,none⟩ (G (-1))) D q l 0 from
        ⟨(hL.setCell N8.2.2.1 _).setCell N8.2.2.1 _,(aj (by omega)).trans ((aj (by omega)).trans hA),(aj (by omega)).trans ((aj (by omega)).trans hT),N0⟩)
       clear hL hA hT N0 g1 g2 g3 JX Z4 N8
       go_wp2_with fail
       exact⟨⟨HF.out.1,HF.out.2.1,HF.out.2.2.1,.inr ⟨0,rfl,by omega,HF.out.2.2.2⟩⟩,by show((n:Int)-0).toNat<((n:Int)-(-1)).toNat;omega⟩
      ·obtain⟨wv,rfl⟩:∃u,u=wr:=⟨_,rfl⟩
       have y0:=gV hT
       by_cases bw:j<n
       ·have hv:=H.out.low hL
        have bN:(j:Int)<(n:Int):=by omega
        have nu:(0:Int)≤(j:Int):=by omega
        have hnq:¬(j:Int)<0:=by omega
        have mI:(j:Int)≤40:=by omega
        have K7:¬(j:Int)< -1:=by omega
        obtain⟨o,ho⟩:∃o,l[j]?=some o:=⟨_,List.getElem?_eq_getElem (by have:=hv.ops.1;omega)⟩
        obtain⟨ga,cs,rfl,qD,hg,k0,k1,k2,k3,k4,k5⟩:=hv.ops.2 j o ho
        have c1:wv.cell? ⟨ga,j*6+1,none⟩=some (G o.res):=(Yc hg).trans k1
        have fX:=HR.out.pos o (List.mem_of_getElem? ho)
        have N8:=HD5.out
        rcases fX with sR|sR
        ·rw[sR]at c1
         have HF:=cf (And.intro hL (And.intro hA (And.intro hT (SA.skip ho sR))))
         clear hL hA hT SA hv hg k0 k1 k2 k3 k4 k5 ho sR N8
         go_wp2_with fail
         exact⟨⟨HF.out.1,HF.out.2.1,HF.out.2.2.1,.inr ⟨j+1,by simp,bw,HF.out.2.2.2⟩⟩,by show((n:Int)-((j:Int)+1)).toNat<((n:Int)-(j:Int)).toNat;omega⟩
        ·obtain⟨v,mq⟩:∃v:Nat,o.res=(v:Int):=⟨o.res.toNat,by omega⟩
         rw[mq]at c1
         have Qi:0<v:=by omega
         have hvq:v<q:=by have:=fY l 1 o (List.mem_of_getElem? ho);have h2:=HN.out;unfold de at h2;omega
         have jX:=SA.step HR.out ho mq Qi hvq
         obtain⟨jH,g1,g2,g3,g4,g5,g6⟩:=SA
         have d0:wv.cell? ⟨D,v*2,none⟩=some (G (-1)):=(Yc g1).trans (g6 v Qi hvq fun k o' hk cP he=>HR.out.mL k j o' o hk cP ho (by omega) (he.trans mq.symm))
         have d1:∃v',wv.cell? ⟨D,v*2+1,none⟩=some v':=by rw[Yc g1];exact⟨_,Array.getElem?_eq_getElem (by omega)⟩
         obtain⟨v1,hvv⟩:=d1
         have f0:wv.frozen? ⟨D,v*2,none⟩=false:=au g1
         have f1:wv.frozen? ⟨D,v*2+1,none⟩=false:=au g1
         have e1:¬(v:Int)= -1:=by omega
         have e2:¬(v:Int)<0:=by omega
         have e3:(v:Int)<(q:Int):=by omega
         have e3':¬(q:Int)≤(v:Int):=by omega
         have e4:(0:Int)≤(v:Int):=by omega
         have HF:=cf (show ak w.heap.size w ((wv.setCell ⟨D,v*2,none⟩ (G 0)).setCell ⟨D,v*2+1,none⟩ (G j))∧((wv.setCell ⟨D,v*2,none⟩ (G 0)).setCell ⟨D,v*2+1,none⟩ (G j)).heap[t1]?=some (.cells #[.slice (ad g) 1 cg] 40 (0,0))∧((wv.setCell ⟨D,v*2,none⟩ (G 0)).setCell ⟨D,v*2+1,none⟩ (G j)).heap[t7]?=some (.cells #[.slice (ad gp) 1 pc,.slice (ad ga) n c,G 4,G ret,.slice T 0 tc] 62 (0,0))∧gK ((wv.setCell ⟨D,v*2,none⟩ (G 0)).setCell ⟨D,v*2+1,none⟩ (G j)) D q l (j+1)from
          ⟨(hL.setCell N8.2.2.1 _).setCell N8.2.2.1 _,(aj (by omega)).trans ((aj (by omega)).trans hA),(aj (by omega)).trans ((aj (by omega)).trans hT),jX⟩)
         clear hL hA hT jX hv hg k0 k1 k2 k3 k4 k5 ho sR N8 g1 g2 g3 g4 g5 g6 mq
         go_wp2_with fail
         exact⟨⟨HF.out.1,HF.out.2.1,HF.out.2.2.1,.inr ⟨j+1,by simp,bw,HF.out.2.2.2⟩⟩,by show((n:Int)-((j:Int)+1)).toNat<((n:Int)-(j:Int)).toNat;omega⟩
       ·have bN:¬(j:Int)<(n:Int):=by omega
        obtain rfl:j=n:=by omega
        have HF:=cf (And.intro hL (And.intro hA SA))
        clear hL hA hT SA
        go_wp2_with fail
        exact⟨.inr ⟨rfl,HF.out⟩,by decide⟩
    ·have x1:wr.cell? ⟨t1,0,none⟩=some (.slice (ad g) 1 cg):=Yc hA
     have HF:=cf (And.intro hL SA)
     clear hL hA SA bw bN
     go_wp2_with fail
     go_ret2
     exact⟨HF.out.1,D,rfl,HF.out.2⟩
end
section
set_option maxRecDepth 100000
set_option maxHeartbeats 8000000
def bs (l:List aE) (at_:Nat) (v:Int):Prop:=v=0∨(0<v∧∃(k:Nat) (o:aE),k<at_∧l[k]?=some o∧o.res=v)
theorem gK.look {w:World} {D N q at_:Nat} {l:List aE} {v:Int} (h:gK w D N l q) (hl:l.length=q) (hN:de l=(N:Int)) (WV:at_≤q) (hk:bs l at_ v):∃(u:Nat) (a:Int),v=(u:Int)∧u<N∧a<(at_:Int)∧w.cell? ⟨D,u*2,none⟩=some (G 0)∧w.cell? ⟨D,u*2+1,none⟩=some (G a):=by
 obtain⟨cs,h1,h2,h3,h4,h5,h6⟩:=h
 rcases hk with rfl|⟨hv,k,o,hka,ho,rfl⟩
 ·have:=ey l
  exact⟨0,-1,rfl,by omega,by omega,(Yc h1).trans h3,(Yc h1).trans h4⟩
 ·obtain⟨a,b⟩:=h5 k o (by omega) ho hv
  have hm:=fY l 1 o (List.mem_of_getElem? ho)
  unfold de at hN
  exact⟨o.res.toNat,k,by omega,by omega,by omega,(Yc h1).trans a,(Yc h1).trans b⟩
theorem yj (w:World) (B:Option Addr) (m d:Nat) (vs:List Int) (at_ D N q dc:Nat) (l:List aE) (DA:Option Addr) (hv:j9 w B m d vs) (hm:m≤40) (hD:gK w D N l q) (hl:l.length=q) (hN:de l=(N:Int)) (WV:at_≤q) (hq:q≤40) (Lm:N≤101) (WJ:pC w DA) (hdc:1≤dc) (hk:∀v∈vs,bs l at_ v):
 Calls Tryz.prog 124 #[.slice B m d,G 0,G at_,.slice (ad D) N N,.slice DA 1 dc] w (fun e w'=>e=.returned (.bool true)∧ak w.heap.size w w'):=by
 obtain⟨dg,dcs,dr,drs,rfl,Li,Lh,Ob,Oa⟩:=WJ
 have HV:=cf hv;have HD:=cf hD;have HN:=cf hN;have HK:=cf hk;have HL:=cf hl
 have HDM:=cf (And.intro Li (And.intro Lh (And.intro Ob Oa)))
 clear hv hD hN hk hl Li Lh Ob Oa
 go_enter Tryz.func124,Tryz.ntmps124
 go_wp2_with fail
 go_loopw[11] (fun i wr=>∃j:Nat,i=G j∧j≤m∧ak w.heap.size w wr) (fun i _=>m-(intOf i).toNat)
 case atStart=>exact⟨0,rfl,by omega,ak.refl _ _⟩
 case round=>
  obtain⟨j,rfl,hj,hL⟩:=hrel
  obtain⟨wv,rfl⟩:∃u,u=wr:=⟨_,rfl⟩
  by_cases bw:j<m
  ·have bN:(j:Int)<(m:Int):=by omega
   have hj0:(0:Int)≤(j:Int):=by omega
   have hjn:(j:Int)≤40:=by omega
   obtain⟨v,hv⟩:∃v,vs[j]?=some v:=⟨_,List.getElem?_eq_getElem (by have:=HV.out.1;omega)⟩
   obtain⟨bg,bcs,rfl,Oh,pq⟩:=(HV.out.low hL).2.2 j v hv
   have c0:wv.cell? ⟨bg,j,none⟩=some (G v):=(Yc Oh).trans pq
   have Uc:=HV.out.2.1
   obtain⟨u,a,rfl,hu,ha,e0,e1⟩:=(HD.out.low hL).look HL.out HN.out WV (HK.out v (List.mem_of_getElem? hv))
   obtain⟨Li,Lh,Ob,Oa⟩:=HDM.out
   have x0:wv.cell? ⟨dg,0,none⟩=some (.slice (ad dr) 1 1):=(Yc (hL.some Li)).trans Lh
   have l2:ak wv.heap.size wv (wv.alloc (.cells #[G 0,G a] 215)):=F0
   have a2:=ao wv (.cells #[G 0,G a] 215)
   have L2:=cf (hL.trans (l2.mono hL.size))
   have z0:(wv.alloc (.cells #[G 0,G a] 215)).cell? ⟨dg,0,none⟩=some (.slice (ad dr) 1 1):=(Yc (l2.some (hL.some Li))).trans Lh
   have z1:(wv.alloc (.cells #[G 0,G a] 215)).cell? ⟨dr,0,none⟩=some (.bool true):=(Yc (l2.some (hL.some Ob))).trans Oa
   have n1:¬(u:Int)<0:=by omega
   have n2:(u:Int)<(N:Int):=by omega
   have n3:¬(N:Int)≤(u:Int):=by omega
   have n4:(0:Int)≤(u:Int):=by omega
   have n5:¬((at_:Nat):Int)≤a:=by omega
   clear Oh pq Li Lh Ob Oa hv hL l2 x0
   go_upto_region 7 with fail
   generalize wv.alloc (.cells #[G 0,G a] 215)=w2 at a2 z0 z1 L2⊢
   generalize wv.heap.size=t2 at a2⊢
   have y0:=gV a2
   clear a2 c0 e0 e1
   go_wp2_with fail
   exact⟨⟨j+1,by simp,bw,L2.out⟩,by show m-((j:Int)+1).toNat<m-((j:Int)).toNat;omega⟩
  ·have bN:¬(j:Int)<(m:Int):=by omega
   go_wp2_with fail
   go_ret
   exact⟨rfl,hL⟩
theorem Kv (w:World) (g cg:Nat) (Pp:Option Addr) (pc:Nat) (A:Option Addr) (n c:Nat) (T:Option Addr) (tc:Nat) (l:List aE) (ret:Int) (h:fe w g Pp pc A n c T tc l ret) (h0:0≤ret):
 Calls Tryz.prog 120 #[.agg #[.slice (ad g) 1 cg],.agg #[G 4,G ret,.slice T 0 tc]] w (fun e w'=>e=.returned (.bool true)∧ak w.heap.size w w'):=by
 obtain⟨S,hS⟩:∃S,w.heap.size=S:=⟨_,rfl⟩
 obtain⟨a1,s1,u1⟩:=av (.cells #[.slice (ad g) 1 cg] 40) hS
 obtain⟨a2,s2,u2⟩:=av (.cells #[G 4,G ret,.slice T 0 tc] 60) s1
 obtain⟨a3,s3,u3⟩:=av (.cells #[G 0,G 1,G 2,G 0,G 0,G 0] 213) s2
 have b2:=u3 _ _ a2
 have l3:ak w.heap.size w (((w.alloc (.cells #[.slice (ad g) 1 cg] 40)).alloc (.cells #[G 4,G ret,.slice T 0 tc] 60)).alloc (.cells #[G 0,G 1,G 2,G 0,G 0,G 0] 213)):=((F0).alloc (by simp) _).alloc (by simp;omega) _
 go_enter Tryz.func120,Tryz.ntmps120
 go_upto_region 2 with fail
 have iW:=cf hS
 have x0:∀w',ak (S+1+1+1) (((w.alloc (.cells #[.slice (ad g) 1 cg] 40)).alloc (.cells #[G 4,G ret,.slice T 0 tc] 60)).alloc (.cells #[G 0,G 1,G 2,G 0,G 0,G 0] 213)) w'→w'.cell? ⟨S+1,0,none⟩=some (G 4)∧w'.cell? ⟨S+1,1,none⟩=some (G ret)∧w'.cell? ⟨S+1,2,none⟩=some (.slice T 0 tc)∧w'.cell? ⟨S+1+1,4,none⟩=some (G 0):=fun w' hl=>
  ⟨Yc ((hl.block (S+1) (by omega)).trans b2),Yc ((hl.block (S+1) (by omega)).trans b2),Yc ((hl.block (S+1) (by omega)).trans b2),Yc ((hl.block (S+1+1) (by omega)).trans a3)⟩
 have hx:=x0 _ (ak.refl _ _)
 have X0:=cf x0
 have L3:=cf l3
 clear a1 a2 a3 u1 u2 u3 s1 s2 b2 hS x0 l3
 obtain⟨t3,lZ⟩:∃t,t=S+1:=⟨_,rfl⟩
 obtain⟨t5,gh⟩:∃t,t=S+1+1:=⟨_,rfl⟩
 rw[←gh,←lZ]at hx⊢
 rw[←gh,←lZ]at X0
 clear lZ gh
 generalize((w.alloc (.cells #[.slice (ad g) 1 cg] 40)).alloc (.cells #[G 4,G ret,.slice T 0 tc] 60)).alloc (.cells #[G 0,G 1,G 2,G 0,G 0,G 0] 213)=w3 at hx X0 L3 s3⊢
 obtain⟨y0,y1,y2,y3⟩:=hx
 go_quiet(fail)
 have z:=X0.out (w3.drewN nq) ((ak.refl _ w3).drewN nq)
 obtain⟨z0,z1,z2,z3⟩:=z
 have HF:=cf (show ak w.heap.size w (w3.drewN nq)from L3.out.drewN nq)
 clear y0 y1 y2 y3
 generalize w3.drewN nq=w4 at z0 z1 z2 z3 HF⊢
 go_wp2_with fail
 go_loopw[6] (fun i wr=>i=G 0∧wr=w4) (fun _ _=>0)
 case atStart=>exact⟨rfl,rfl⟩
 case round=>
  obtain⟨rfl,rfl⟩:=hrel
  go_wp2_with fail
  go_ret
  exact⟨rfl,HF.out⟩
end
section
set_option maxRecDepth 100000
set_option maxHeartbeats 8000000
def eZ (o:aE):Prop:=aS o.code∧(bR o.code=true→0≤o.res)∧(bR o.code=false→o.res= -1)∧(bc o.code=false→o.b=0)∧(iB o.code=false→o.n=0)∧(aZ o.code=false→o.a=0)∧(o.code=25→1≤o.n∧o.n≤255)
theorem fF {c:Int} (h:aS c):(c=1∧bR c=true∧aZ c=false∧bc c=false∧iB c=true)∨((c=3∨c=4)∧bR c=true∧aZ c=true∧bc c=false∧iB c=false)∨(5≤c∧c≤17∧bR c=true∧aZ c=true∧bc c=true∧iB c=false)∨(c=25∧bR c=false∧aZ c=true∧bc c=false∧iB c=true):=by
 simp only[aS,List.mem_cons,List.not_mem_nil,or_false]at h
 rcases h with rfl|rfl|rfl|rfl|rfl|rfl|rfl|rfl|rfl|rfl|rfl|rfl|rfl|rfl|rfl|rfl|rfl<;>decide
theorem FQ (w:World) (fb fc ab ac:Nat) (o:aE) (h:eZ o):
 Calls Tryz.prog 119 #[.agg #[.slice (ad fb) 2 fc,.slice (ad ab) 2 ac,G 0,G (-1),Zs,Zs],OV o] w (fun e w'=>e=.returned (.bool true)∧ak w.heap.size w w'):=by
 obtain⟨S,hS⟩:∃S,w.heap.size=S:=⟨_,rfl⟩
 obtain⟨a1,s1,u1⟩:=av (.cells #[.slice (ad fb) 2 fc,.slice (ad ab) 2 ac,G 0,G (-1),Zs,Zs] 34) hS
 obtain⟨a2,s2,u2⟩:=av (OC o) s1
 have l2:ak w.heap.size w ((w.alloc (.cells #[.slice (ad fb) 2 fc,.slice (ad ab) 2 ac,G 0,G (-1),Zs,Zs] 34)).alloc (OC o)):=(F0).alloc (by simp) _
 obtain⟨hc,h1,h2,h3,h4,h5,h6⟩:=h
 have ja:=dC ((w.alloc (.cells #[.slice (ad fb) 2 fc,.slice (ad ab) 2 ac,G 0,G (-1),Zs,Zs] 34)).alloc (OC o)) o.code hc
 go_enter Tryz.func119,Tryz.ntmps119
 go_upto_region 1 with fail
 have iW:=cf hS
 obtain⟨t3,lZ⟩:∃t,t=S+1:=⟨_,rfl⟩
 rw[←lZ]at a2⊢
 have L2:=cf l2
 clear a1 u1 u2 s1 s2 hS lZ l2
 generalize(w.alloc (.cells #[.slice (ad fb) 2 fc,.slice (ad ab) 2 ac,G 0,G (-1),Zs,Zs] 34)).alloc (OC o)=w2 at a2 ja L2⊢
 obtain⟨x0,x1,x2,x3,x4,x5⟩:=aC a2
 have A2:=cf a2
 clear a2
 go_upto_region 2 with(first
  |(go_at_call 65;refine ja.mono ?_;rintro e w3 ⟨rfl,l3⟩))
 clear x0 x1 x2 x3 x4 x5 ja
 have l4:ak w3.heap.size w3 (w3.alloc (.cells #[.bool true,.bool (bR o.code),.bool (aZ o.code),.bool (bc o.code),.bool (iB o.code)] 102)):=F0
 have f4:=ao w3 (.cells #[.bool true,.bool (bR o.code),.bool (aZ o.code),.bool (bc o.code),.bool (iB o.code)] 102)
 have a4:=l4.some (l3.some A2.out)
 have L4:=cf (L2.out.trans ((l3.trans (l4.mono l3.size)).mono L2.out.size))
 clear l3 l4
 generalize w3.alloc (.cells #[.bool true,.bool (bR o.code),.bool (aZ o.code),.bool (bc o.code),.bool (iB o.code)] 102)=w4 at f4 a4 L4⊢
 generalize w3.heap.size=t5 at f4⊢
 obtain⟨x0,x1,x2,x3,x4,x5⟩:=aC a4
 obtain⟨y0,y1,y2,y3,y4⟩:=sf f4
 clear f4 a4
 rcases fF hc with⟨k0,k1,k2,k3,k4⟩|⟨k0,k1,k2,k3,k4⟩|⟨k0,k0',k1,k2,k3,k4⟩|⟨k0,k1,k2,k3,k4⟩
 ·rw[k1]at y1 h1 h2;rw[k2]at y2 h5;rw[k3]at y3 h3;rw[k4]at y4 h4
  have hr:=h1 rfl;have hb:=h3 rfl;have ha:=h5 rfl
  rw[k0]at x0;rw[hb]at x3;rw[ha]at x2
  have mH:¬o.res<0:=by omega
  clear h1 h2 h3 h4 h5 h6 k1 k2 k3 k4 hr hb ha
  go_wp2_with fail
  go_ret
  exact⟨rfl,L4.out⟩
 ·rw[k1]at y1 h1 h2;rw[k2]at y2 h5;rw[k3]at y3 h3;rw[k4]at y4 h4
  have hr:=h1 rfl;have hb:=h3 rfl;have hn:=h4 rfl
  rw[hb]at x3;rw[hn]at x4
  have mH:¬o.res<0:=by omega
  have e1:¬o.code=26:=by omega
  have e2:¬o.code=2:=by omega
  have e3:¬o.code=24:=by omega
  have e4:¬o.code=25:=by omega
  clear h1 h2 h3 h4 h5 h6 k1 k2 k3 k4 hr hb hn
  go_wp2_with fail
  go_ret
  exact⟨rfl,L4.out⟩
 ·rw[k1]at y1 h1 h2;rw[k2]at y2 h5;rw[k3]at y3 h3;rw[k4]at y4 h4
  have hr:=h1 rfl;have hn:=h4 rfl
  rw[hn]at x4
  have mH:¬o.res<0:=by omega
  have e1:¬o.code=26:=by omega
  have e2:¬o.code=2:=by omega
  have e3:¬o.code=24:=by omega
  have e4:¬o.code=25:=by omega
  clear h1 h2 h3 h4 h5 h6 k1 k2 k3 k4 hr hn
  go_wp2_with fail
  go_ret
  exact⟨rfl,L4.out⟩
 ·rw[k1]at y1 h1 h2;rw[k2]at y2 h5;rw[k3]at y3 h3;rw[k4]at y4 h4
  have hr:=h2 rfl;have hb:=h3 rfl;have hn:=h6 k0
  rw[k0]at x0;rw[hb]at x3;rw[hr]at x1
  have n1:¬o.n<1:=by omega
  have n2:¬255<o.n:=by omega
  clear h1 h2 h3 h4 h5 h6 k1 k2 k3 k4 hr hb hn
  go_wp2_with fail
  go_ret
  exact⟨rfl,L4.out⟩
end
end Go.Proofs.YtjkahfmdcpfjjaaGreat
