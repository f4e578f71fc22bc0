/- The reference: a function is mapped to itself. -/
import Derived.Test.YtjkahfmdcpfjjaaGreatCI
set_option linter.unusedVariables false
namespace Go.Proofs.YtjkahfmdcpfjjaaGreat
open Go.RowKit
set_option maxRecDepth 100000
set_option maxHeartbeats 8000000
variable {w:World} {S c g:Nat}
theorem yE {e:TypeId} {a0 a1 a2 a3 a4 v0 v1 v2 v3 v4:Value} (h:w.heap[g]?=some (.cells #[a0,a1,a2,a3,a4] e (0,0))) (hg:S≤g):
 ∀w',w'=((((w.setCell ⟨g,0,none⟩ v0).setCell ⟨g,1,none⟩ v1).setCell ⟨g,2,none⟩ v2).setCell ⟨g,3,none⟩ v3).setCell ⟨g,4,none⟩ v4→w'.heap[g]?=some (.cells #[v0,v1,v2,v3,v4] e (0,0))∧ak S w w'∧(∀b,b≠g→w'.heap[b]?=w.heap[b]?):=by
 rintro w' rfl
 refine⟨aD (aD (aD (aD (aD h)))),(((((ak.refl S w).setCell hg _).setCell hg _).setCell hg _).setCell hg _).setCell hg _,fun b hb=>?_⟩
 rw[aj hb,aj hb,aj hb,aj hb,aj hb]
variable {l:List aE}
theorem mR {q:Nat} {o:aE} (h:l[q]?=some o):l.take (q+1)=l.take q++[o]:=by
 rw[List.take_add_one,h];rfl
variable {A:Option Addr}
theorem fe.other {w':World} {Pp:Option Addr} {pc:Nat} {n:Nat} {T:Option Addr} {tc:Nat} {ret:Int} (h:fe w g Pp pc A n c T tc l ret) (hk:∀(b:Nat) (cs:Array Value) (e:TypeId),w.heap[b]?=some (.cells cs e (0,0))→e≠40→w'.heap[b]?=w.heap[b]?):fe w' g Pp pc A n c T tc l ret:=by
 obtain⟨cs,hg,r⟩:=h.row
 refine⟨⟨cs,(hk _ _ _ hg (by decide)).trans hg,r⟩,⟨h.ops.1,fun j o hj=>?_⟩,?_⟩
 ·obtain⟨g2,At,e,hc,mc,r2⟩:=h.ops.2 j o hj
  exact⟨g2,At,e,hc,(hk _ _ _ mc (by decide)).trans mc,r2⟩
 ·obtain⟨g2,At,e,hc,mc,r2⟩:=h.par
  exact⟨g2,At,e,hc,(hk _ _ _ mc (by decide)).trans mc,r2⟩
theorem bs.lt {k:Nat} {v:Int} (h:bs l k v) (hc:pD l):v<(fl l:Int):=by
 rcases h with rfl|⟨_,j,o,_,ho,rfl⟩
 ·unfold fl;omega
 ·have h1:=fY l 1 o (List.mem_of_getElem? ho)
  have h2:=hc.count
  unfold de at h2
  omega
theorem bW.YZ (h:bW w S A 1 c [0]):dT w A c:=by
 obtain⟨g,cs,e,hg,h0⟩:=h.Ek.2.2 0 0 rfl
 exact⟨g,cs,e,h.Ek.2.1,hg,h0⟩
theorem Js (w:World) (g cg:Nat) (Pp:Option Addr) (pc:Nat) (A:Option Addr) (n c:Nat) (T:Option Addr) (tc:Nat) (l:List aE) (ret:Int) (h:fe w g Pp pc A n c T tc l ret) (hn:n≤40) (bB:kC l ret) (jL:pD l) (oc:Nat) (OA:Option Addr) (hO:j9 w OA 1 oc [0]) (V N:Nat) (hV:py w V N) (hN:N=fl l) (Lm:N≤101):
 Calls Tryz.prog 67 #[.agg #[.slice (ad g) 1 cg],.slice OA 1 oc,.slice (ad V) N N] w (fun e w'=>ak w.heap.size w w'∧∃g' iV cT cS A' c',e=.returned (.agg #[.slice (ad g') 1 iV])∧1≤iV∧fe w' g' cT cS A' n c' none 0 l ret):=by
 have NI:∀u:World,(Instr.makeSlice 22 (G 1) (G 1)).run Tryz.prog u=.ok (.slice (ad (u.heap.size)) 1 1) (u.alloc (.cells #[G 0] 3)):=fun u=>by kernel_rfl
 obtain⟨S,hS⟩:∃S,w.heap.size=S:=⟨_,rfl⟩
 obtain⟨a1,s1,u1⟩:=av (.cells #[.slice (ad g) 1 cg] 40) hS
 obtain⟨a2,s2,u2⟩:=av (.cells #[Zs] 40) s1
 obtain⟨a3,s3,u3⟩:=av (.cells #[G 0] 3) s2
 have b1:=u3 _ _ (u2 _ _ a1)
 have b2:=u3 _ _ a2
 have l3:ak w.heap.size w (((w.alloc (.cells #[.slice (ad g) 1 cg] 40)).alloc (.cells #[Zs] 40)).alloc (.cells #[G 0] 3)):=((F0).alloc (by simp) _).alloc (by simp;omega) _
 obtain⟨og,ocs,hoe,Hx,DV⟩:=(hO.low l3).2.2 0 0 rfl
 have hoc:=hO.2.1
 subst hoe
 have H:=cf (h.low l3);have dA:=cf bB;have HC:=cf jL;have HV:=cf (hV.low l3);have HN:=cf hN
 clear h bB jL hV hN a1 a2 u1 u2 u3 hO
 go_enter Tryz.func67,Tryz.ntmps67
 go_upto_region 3 with fail
 have iW:=cf hS
 rw[hS]at l3
 obtain⟨t6,Ql⟩:∃t,t=S+1:=⟨_,rfl⟩
 obtain⟨t7,oJ⟩:∃t,t=S+1+1:=⟨_,rfl⟩
 rw[←oJ]at a3 s3⊢
 rw[←Ql]at b2⊢
 have HT:=cf (And.intro Ql (And.intro oJ s3))
 clear Ql oJ hS s1 s2 s3
 generalize((w.alloc (.cells #[.slice (ad g) 1 cg] 40)).alloc (.cells #[Zs] 40)).alloc (.cells #[G 0] 3)=w1 at l3 a3 b1 b2 H HV Hx HT⊢
 have L1:=cf l3;have B1:=cf b1;have B2:=cf b2
 have xo:w1.cell? ⟨og,0,none⟩=some (G 0):=(Yc Hx).trans DV
 have x7:=bf a3
 have f7:w1.frozen? ⟨t7,0,none⟩=false:=au a3
 have ao1:w1.setCell ⟨t7,0,none⟩ (G 0)=w1:=kg a3 rfl
 have HOG:=cf (And.intro Hx DV)
 clear l3 a3 b1 b2 Hx
 go_loopw[8] (fun i wr=>(i=G 0∨i=G 1)∧wr=w1) (fun i _=>1-(intOf i).toNat)
 case atStart=>exact⟨.inl rfl,rfl⟩
 case round=>
  obtain⟨rfl|rfl,rfl⟩:=hrel
  ·go_wp2_with fail
   exact⟨⟨.inr rfl,(by trivial)⟩,by decide⟩
  ·obtain⟨w1,rfl⟩:∃u,u=wr:=⟨_,rfl⟩
   clear xo x7 f7 ao1
   have l2:ak w1.heap.size w1 (w1.alloc (.cells #[Zs] 40)):=F0
   have a2:=ao w1 (.cells #[Zs] 40)
   go_upto_region 8 with fail
   obtain⟨t9,Bh⟩:∃t,t=w1.heap.size:=⟨_,rfl⟩
   rw[←Bh]at a2⊢
   have H9:=cf Bh
   have L2:=cf (L1.out.trans (l2.mono (by rw[←iW.out];exact L1.out.size)));have A2:=cf a2
   have B12:=cf (l2.some B1.out);have B22:=cf (l2.some B2.out);have OG2:=cf (And.intro (l2.some HOG.out.1) HOG.out.2)
   have H2:=cf (H.out.low l2);have V2:=cf (HV.out.low l2)
   clear l2 a2 Bh L1 B1 B2 HOG H HV
   generalize w1.alloc (.cells #[Zs] 40)=w2 at L2 A2 B12 B22 OG2 H2 V2⊢
   go_loopw[10] (fun i wr=>(i=G 0∧wr=w2)∨(i=G 1∧ak S w wr∧∃g' iV cT cS A' c',wr.heap[t9]?=some (.cells #[.slice (ad g') 1 iV] 40 (0,0))∧wr.heap[t6]?=some (.cells #[Zs] 40 (0,0))∧1≤iV∧fe wr g' cT cS A' n c' none 0 l ret)) (fun i _=>1-(intOf i).toNat)
   case atStart=>exact .inl ⟨rfl,rfl⟩
   case round=>
    rcases hrel with⟨rfl,rfl⟩|⟨rfl,hL,g',iV,cT,cS,A',c',y9,y6,Oc,hF⟩
    ·obtain⟨w2,rfl⟩:∃u,u=wr:=⟨_,rfl⟩
     have h1:=H2.out
     have Hx:=OG2.out.1
     have DV:=OG2.out.2
     have x1:=bf B12.out
     have xo:w2.cell? ⟨og,0,none⟩=some (G 0):=(Yc Hx).trans DV
     obtain⟨kz,r0,r1,r2,r3,r4,r5⟩:=h1.row
     obtain⟨gp,cp,rfl,KV,pJ,rm⟩:=h1.par
     obtain⟨p0,p1,p2,p3,p4⟩:=mV r0 r1 r2 r3 r4 r5
     have b1:og<w2.heap.size:=aB Hx
     have b2:g<w2.heap.size:=aB r0
     have b3:S<w2.heap.size:=aB B12.out
     have JX:gp<w2.heap.size:=aB pJ
     clear r0 r1 r2 r3 r4 r5 Hx DV h1
     go_upto_region 10 with fail
     go_region
     have l3:ak w2.heap.size w2 ((w2.alloc (.cells #[.slice (ad gp) 1 pc,.slice A n c,G 4,G ret,.slice T 0 tc] 62)).drew):=(F0).drew
     have a3:((w2.alloc (.cells #[.slice (ad gp) 1 pc,.slice A n c,G 4,G ret,.slice T 0 tc] 62)).drew).heap[w2.heap.size]?=some (.cells #[.slice (ad gp) 1 pc,.slice A n c,G 4,G ret,.slice T 0 tc] 62 (0,0)):=ao w2 _
     have L3:=cf (L2.out.trans (l3.mono (by rw[←iW.out];exact L2.out.size)))
     have H3:=cf (H2.out.low l3);have V3:=cf (V2.out.low l3)
     have A3:=cf (l3.some A2.out);have B13:=cf (l3.some B12.out);have B23:=cf (l3.some B22.out)
     have P3:=cf (And.intro (l3.some pJ) rm)
     obtain⟨t11,iq⟩:∃t,t=w2.heap.size:=⟨_,rfl⟩
     rw[←iq]at a3⊢
     have tH:=cf a3
     clear l3 a3 iq p0 p1 p2 p3 p4 xo x1 b1 b2 b3 JX pJ rm L2 A2 B12 B22 H2 V2 OG2
     generalize(w2.alloc (.cells #[.slice (ad gp) 1 pc,.slice A n c,G 4,G ret,.slice T 0 tc] 62)).drew=wb at L3 H3 V3 A3 B13 B23 P3 tH⊢
     have KP:Hid (∀u,ak wb.heap.size wb u→Calls Tryz.prog 138 #[.slice (ad gp) 1 pc,.slice (ad V) N N] u (fun e w'=>∃v,e=.returned v∧(ak u.heap.size u w'∧∃cT cS,v=.slice cT 1 cS∧dT w' cT cS))):=cf fun u hu=>
      (E5 u (ad gp) 1 pc [0] ⟨rfl,KV,fun j x hj=>by
       obtain⟨rfl,rfl⟩:j=0∧x=0:=by
        cases j with
        |zero=>simp at hj;exact⟨rfl,hj.symm⟩
        |succ j=>simp at hj
       exact⟨gp,cp,rfl,hu.some P3.out.1,P3.out.2⟩⟩ (by omega) V N (V3.out.low hu) Lm (by intro x hx;simp at hx;subst hx;have:=HN.out;unfold fl at this;omega)).mono (by
       rintro e w' ⟨hl,A',c',rfl,ho⟩
       exact⟨_,rfl,hl,_,_,rfl,ho.YZ⟩)
     go_upto_region 11 with fail
     go_cut[12] (fun v18 wx=>∃t12 cT cS,v18=.pointer (ad t12)∧ak wb.heap.size wb wx∧wb.heap.size≤t12∧wx.heap[t12]?=some (.cells #[.slice cT 1 cS,Zs,G 4,G ret,Zs] 62 (0,0))∧dT wx cT cS)
     case first=>
      refine wp_region_noPanic ?_
      refine wp_region_held_drew (S:=fun w'=>w'.cell? ⟨t11,0,none⟩=some (.slice (ad gp) 1 pc)∧w'.cell? ⟨t11,2,none⟩=some (G 4)∧w'.cell? ⟨t11,3,none⟩=some (G ret)) (by kernel_rfl) ⟨Yc tH.out,Yc tH.out,Yc tH.out⟩ (fun af=>?_)
      refine tk 0 af ?_
      refine tk 1 af ?_
      refine tk 2 af ?_
      refine tk 4 af ?_
      refine tk 5 af ?_
      refine tk 6 af ?_
      refine tk 7 af ?_
      refine tk 8 af ?_
      refine tk 9 af ?_
      refine tk 10 af ?_
      refine wpAnyH_ready (rs:=[3,12]) (by kernel_rfl) (by simp) ?_
      refine fT (i:=3) rfl (fun KK aI=>?_) (fT (i:=12) rfl (fun KK aI=>?_) AllReadyH.nil)
      ·refine aR rfl 138 #[.slice (ad gp) 1 pc,.slice (ad V) N N] (by go_simp) _ (KP.out wb.drew (ak.refl _ wb).drew) ?_
       rintro v7 w7 ⟨l7,cT,cS,rfl,p7⟩
       have VT:ak wb.heap.size wb w7:=(ak.refl _ wb).drew.trans l7
       have a7:=VT.some tH.out
       have qG:w7.cell? ⟨t11,0,none⟩=some (.slice (ad gp) 1 pc)∧w7.cell? ⟨t11,2,none⟩=some (G 4)∧w7.cell? ⟨t11,3,none⟩=some (G ret):=⟨Yc a7,Yc a7,Yc a7⟩
       have L7:=cf VT;have P7:=cf p7;have A7:=cf a7
       clear l7 VT p7 a7
       refine aI.out _ _ (by exact qG) (fun af=>?_)
       clear aI KK
       (try simp only[Act.put,bh])
       refine tk 11 af ?_
       refine aG 12 fun KK aI=>?_
       go_simp
       have l8:∀o,ak w7.heap.size w7 (w7.alloc o):=fun o=>(ak.refl _ w7).alloc (Nat.le_refl _) o
       have Ai:∀o,(fun w':World=>w'.cell? ⟨t11,0,none⟩=some (.slice (ad gp) 1 pc)∧w'.cell? ⟨t11,2,none⟩=some (G 4)∧w'.cell? ⟨t11,3,none⟩=some (G ret)) (w7.alloc o):=fun o=>⟨Yc ((l8 o).some A7.out),Yc ((l8 o).some A7.out),Yc ((l8 o).some A7.out)⟩
       refine aI.out _ _ (by exact Ai _) (fun af=>?_)
       clear aI KK
       (try simp only[Act.put,bh])
       refine aG 13 fun KK aI=>?_
       go_simp
       refine aI.out _ _ (by exact Ai _) (fun af=>?_)
       clear aI KK
       (try simp only[Act.put,bh])
       refine wpAnyH_done (by kernel_rfl) ?_ _
       refine NoPanic.normal ?_
       have l9:=l8 (.cells #[.slice cT 1 cS,Zs,G 4,G ret,Zs] 62)
       have hs7:=L7.out.size
       (try go_wp2_with fail)
       go_meet
       exact⟨w7.heap.size,cT,cS,rfl,L7.out.trans (l9.mono L7.out.size),hs7,ao w7 _,P7.out.low l9⟩
      ·go_simp
       have lz:ak wb.heap.size wb (wb.alloc (.cells #[Zs,Zs,G 0,G 0,Zs] 62)).drew:=((ak.refl _ wb).alloc (Nat.le_refl _) _).drew
       have az:(wb.alloc (.cells #[Zs,Zs,G 0,G 0,Zs] 62)).drew.heap[wb.heap.size]?=some (.cells #[Zs,Zs,G 0,G 0,Zs] 62 (0,0)):=ao wb _
       have S5:=lz.some tH.out
       have Ok:(wb.alloc (.cells #[Zs,Zs,G 0,G 0,Zs] 62)).drew.cell? ⟨t11,0,none⟩=some (.slice (ad gp) 1 pc)∧(wb.alloc (.cells #[Zs,Zs,G 0,G 0,Zs] 62)).drew.cell? ⟨t11,2,none⟩=some (G 4)∧(wb.alloc (.cells #[Zs,Zs,G 0,G 0,Zs] 62)).drew.cell? ⟨t11,3,none⟩=some (G ret):=⟨Yc S5,Yc S5,Yc S5⟩
       refine aI.out _ _ (by exact Ok) (fun af=>?_)
       clear aI KK
       (try simp only[Act.put,bh])
       have LZ:=cf lz;have AZ:=cf az
       clear lz az S5
       obtain⟨t12,wY⟩:∃t,t=wb.heap.size:=⟨_,rfl⟩
       have Gw:=cf (Nat.le_of_eq wY.symm)
       rw[←wY]at AZ⊢
       clear wY
       generalize(wb.alloc (.cells #[Zs,Zs,G 0,G 0,Zs] 62)).drew=wz at AZ LZ af Ok⊢
       refine aG 3 fun KK aI=>?_
       refine aR rfl 138 #[.slice (ad gp) 1 pc,.slice (ad V) N N] (by go_simp) _ (KP.out wz LZ.out) ?_
       rintro v7 w7 ⟨l7,cT,cS,rfl,p7⟩
       have a7:=l7.some (LZ.out.some tH.out)
       have z7:=l7.some AZ.out
       have qG:w7.cell? ⟨t11,0,none⟩=some (.slice (ad gp) 1 pc)∧w7.cell? ⟨t11,2,none⟩=some (G 4)∧w7.cell? ⟨t11,3,none⟩=some (G ret):=⟨Yc a7,Yc a7,Yc a7⟩
       obtain⟨e0,e1,e2,e3,e4⟩:=sf z7
       obtain⟨f0,f1,f2,f3,f4⟩:=OE z7
       have L7:=cf (LZ.out.trans (l7.mono LZ.out.size));have P7:=cf p7;have A7:=cf a7;have Z7:=cf z7
       clear l7 p7 a7 z7 af Ok
       refine aI.out _ _ (by exact qG) (fun af=>?_)
       clear aI KK
       (try simp only[Act.put,bh])
       refine tk 11 af ?_
       refine aG 13 fun KK aI=>?_
       go_simp
       obtain⟨iK,mE,Qd⟩:=yE (v0:=.slice cT 1 cS) (v1:=Zs) (v2:=G 4) (v3:=G ret) (v4:=Zs) Z7.out Gw.out _ rfl
       have Nt:t11≠t12:=by
        have:=aB tH.out
        have:=Gw.out
        omega
       have Wj:dT (((((w7.setCell ⟨t12,0,none⟩ (.slice cT 1 cS)).setCell ⟨t12,1,none⟩ Zs).setCell ⟨t12,2,none⟩ (G 4)).setCell ⟨t12,3,none⟩ (G ret)).setCell ⟨t12,4,none⟩ Zs) cT cS:=by
        obtain⟨gq,cq,e,Si,Hw,Wi⟩:=P7.out
        refine⟨gq,cq,e,Si,(Qd gq ?_).trans Hw,Wi⟩
        rintro rfl
        have:=Z7.out
        rw[Hw]at this;cases this
       generalize World.setCell _ _ _=w9 at iK mE Qd Wj⊢
       have a9:=(Qd t11 Nt).trans A7.out
       have J4:w9.cell? ⟨t11,0,none⟩=some (.slice (ad gp) 1 pc)∧w9.cell? ⟨t11,2,none⟩=some (G 4)∧w9.cell? ⟨t11,3,none⟩=some (G ret):=⟨Yc a9,Yc a9,Yc a9⟩
       have L9:=cf (L7.out.trans mE);have R9:=cf iK;have P9:=cf Wj
       clear iK mE Qd Wj a9 Nt e0 e1 e2 e3 e4 f0 f1 f2 f3 f4
       refine aI.out _ _ (by exact J4) (fun af=>?_)
       clear aI KK
       (try simp only[Act.put,bh])
       refine wpAnyH_done (by kernel_rfl) ?_ _
       refine NoPanic.normal ?_
       (try go_wp2_with fail)
       go_meet
       exact⟨t12,cT,cS,rfl,L9.out,Gw.out,R9.out,P9.out⟩
     case rest=>
      obtain⟨t12,cT,cS,rfl,DW,QA,TZ,Z3⟩:=hcut
      obtain⟨w8,rfl⟩:∃u,u=wc:=⟨_,rfl⟩
      have Ai:wb.heap.size≤w8.heap.size:=DW.size
      have B8:=cf (DW.some tH.out);have L8:=cf DW;have R8:=cf TZ;have P8:=cf Z3
      have H12:=cf QA
      clear DW TZ Z3 QA
      have hY:Hid (t12<w8.heap.size):=cf (aB R8.out)
      have To:=jw B8.out
      go_upto_region 13 with fail
      clear To
      go_loopw[13] (fun i wx=>∃(q:Nat) (A':Option Addr) (c':Nat),i=G q∧q≤n∧ak wb.heap.size wb wx∧wx.heap[t12]?=some (.cells #[.slice cT 1 cS,.slice A' q c',G 4,G ret,Zs] 62 (0,0))∧cJ wx w8.heap.size A' q c' (l.take q)∧dT wx cT cS∧w8.heap.size≤wx.heap.size) (fun i _=>n-(intOf i).toNat)
      case atStart=>exact⟨0,none,0,rfl,by omega,L8.out,R8.out,cJ.nil _ _,P8.out,Nat.le_refl _⟩
      case round=>
       obtain⟨q,A',c',rfl,hq,hL,hR,hO,hP,Wb⟩:=hrel
       obtain⟨wv,rfl⟩:∃u,u=wr:=⟨_,rfl⟩
       have To:=jw (hL.some tH.out)
       have hlen:l.length=n:=H3.out.ops.1
       by_cases bw:q<n
       ·have hv:=H3.out.low hL
        have bN:(q:Int)<(n:Int):=by omega
        have nu:(0:Int)≤(q:Int):=by omega
        have mI:(q:Int)≤40:=by omega
        obtain⟨o,ho⟩:∃o,l[q]?=some o:=⟨_,List.getElem?_eq_getElem (by have:=hv.ops.1;omega)⟩
        obtain⟨ga,cs,rfl,qD,hg,k0,k1,k2,k3,k4,k5⟩:=hv.ops.2 q o ho
        obtain⟨c0,c1,c2,c3,c4,c5⟩:=iw hg k0 k1 k2 k3 k4 k5
        have KW:=List.mem_of_getElem? ho
        have Ac:=dA.out.form o KW
        have kr:∀v∈bl o,bs l q v:=dA.out.use q o ho
        have vd:=HC.out q o ho
        have Qm:=mR ho
        have l9:ak wv.heap.size wv (wv.alloc (OC o)):=F0
        have a9:=ao wv (OC o)
        have yQ:=cf (hL.trans (l9.mono hL.size))
        have HW9:=cf (Nat.le_trans Wb l9.size)
        have R9:=cf (l9.some hR);have O9:=cf (hO.low l9);have P9:=cf (hP.low l9)
        have QH:=cf Qm
        clear hv hg k0 k1 k2 k3 k4 k5 ho hL hR hO hP l9 Qm Wb
        go_upto_region 16 with fail
        obtain⟨t14,ph⟩:∃t,t=wv.heap.size:=⟨_,rfl⟩
        rw[←ph]at a9⊢
        clear c0 c1 c2 c3 c4 c5 To ph
        generalize wv.alloc (OC o)=wa at a9 yQ R9 O9 P9 HW9⊢
        have x0:=bf a9
        have ja:=dC wa o.code Ac.1
        have A9:=cf a9
        clear a9
        go_upto_region 17 with(first
         |(go_at_call 65;refine ja.mono ?_;rintro e w3 ⟨rfl,l3⟩))
        clear x0 ja
        have l4:ak w3.heap.size w3 (w3.alloc (.cells #[.bool true,.bool (bR o.code),.bool (aZ o.code),.bool (bc o.code),.bool (iB o.code)] 102)):=F0
        have f4:=ao w3 (.cells #[.bool true,.bool (bR o.code),.bool (aZ o.code),.bool (bc o.code),.bool (iB o.code)] 102)
        have yh:=l3.trans (l4.mono l3.size)
        have a4:=yh.some A9.out
        have HL4:=cf (yQ.out.trans (yh.mono yQ.out.size))
        have HW4:=cf (Nat.le_trans HW9.out yh.size)
        have r4:=yh.some R9.out;have o4:=O9.out.low yh;have p4:=P9.out.low yh
        obtain⟨t15,sQ⟩:∃t,t=w3.heap.size:=⟨_,rfl⟩
        rw[←sQ]at f4⊢
        clear l3 l4 yh A9 yQ R9 O9 P9 sQ HW9
        generalize w3.alloc (.cells #[.bool true,.bool (bR o.code),.bool (aZ o.code),.bool (bc o.code),.bool (iB o.code)] 102)=w4 at f4 a4 HL4 r4 o4 p4 HW4⊢
        have VY:w8.heap.size≤w4.heap.size:=HW4.out
        obtain⟨A5,c5,w5,fW,o5,l5,iM,WQ,Qz⟩:=AP o4 o (by omega) VY
        have l5':w4.heap.size≤w5.heap.size:=l5.size
        have r5:=(iM t12 (aB r4) (by rintro cs h;rw[r4]at h;cases h)).trans r4
        have p5:dT w5 cT cS:=by
         obtain⟨gq,cq,e,Si,Hw,Wi⟩:=p4
         exact⟨gq,cq,e,Si,(iM gq (aB Hw) (by rintro cs h;rw[Hw]at h;cases h)).trans Hw,Wi⟩
        have HF:=cf (show ak wb.heap.size wb (w5.setCell ⟨t12,1,none⟩ (.slice A5 (q+1) c5))∧(w5.setCell ⟨t12,1,none⟩ (.slice A5 (q+1) c5)).heap[t12]?=some (.cells #[.slice cT 1 cS,.slice A5 (q+1) c5,G 4,G ret,Zs] 62 (0,0))∧cJ (w5.setCell ⟨t12,1,none⟩ (.slice A5 (q+1) c5)) w8.heap.size A5 (q+1) c5 (l.take (q+1))∧dT (w5.setCell ⟨t12,1,none⟩ (.slice A5 (q+1) c5)) cT cS∧w8.heap.size≤(w5.setCell ⟨t12,1,none⟩ (.slice A5 (q+1) c5)).heap.size from
         ⟨(HL4.out.trans (l5.mono Ai)).setCell H12.out _,by rw[aD r5];rfl,by
          rw[QH.out]
          exact o5.other fun b _ hb=>aj (by rintro rfl;obtain⟨cs,hb⟩:=hb;rw[r5]at hb;cases hb),by
          obtain⟨gq,cq,e,Si,Hw,Wi⟩:=p5
          exact⟨gq,cq,e,Si,(aj (by rintro rfl;rw[r5]at Hw;cases Hw)).trans Hw,Wi⟩,by rw[cW];exact Nat.le_trans VY l5'⟩)
        have z4:=jw r4
        have z5:=jw r5
        have f5:w5.frozen? ⟨t12,1,none⟩=false:=au r5
        obtain⟨x0,x1,x2,x3,x4,x5⟩:=aC a4
        have e1:w4.frozen? ⟨t14,1,none⟩=false:=au a4
        have e2:w4.frozen? ⟨t14,2,none⟩=false:=au a4
        have e3:w4.frozen? ⟨t14,3,none⟩=false:=au a4
        have e5:w4.frozen? ⟨t14,5,none⟩=false:=au a4
        have i1:w4.setCell ⟨t14,1,none⟩ (G o.res)=w4:=kg a4 rfl
        have i2:w4.setCell ⟨t14,2,none⟩ (G o.a)=w4:=kg a4 rfl
        have i3:w4.setCell ⟨t14,3,none⟩ (G o.b)=w4:=kg a4 rfl
        have i5:w4.setCell ⟨t14,5,none⟩ Zs=w4:=kg a4 rfl
        have y2:=rn f4
        have y3:=mM f4
        obtain⟨vcs,mq,pG⟩:=V3.out.low HL4.out
        clear f4 a4 r4 o4 p4 o5 l5 l5' iM WQ Qz r5 p5 VY
        rcases fF Ac.1 with⟨k0,k1,k2,k3,k4⟩|⟨k0,k1,k2,k3,k4⟩|⟨k0,k0',k1,k2,k3,k4⟩|⟨k0,k1,k2,k3,k4⟩
        ·have nt:0≤o.res:=Ac.2.1 k1
         have Z0:o.res<(N:Int):=by
          rcases vd with hr|hr
          ·omega
          ·have h1:=fY l 1 o KW
           have h2:=HC.out.count
           unfold de at h2
           rw[h2]at h1
           have:=HN.out
           omega
         have hVr:w4.cell? ⟨V,o.res.toNat,none⟩=some (G o.res):=by
          have:=pG o.res.toNat (by omega)
          rw[show((o.res.toNat:Nat):Int)=o.res by omega]at this
          exact(Yc mq).trans this
         rw[k2]at y2;rw[k3]at y3
         clear mq pG kr vd Ac KW k0
         go_wp2_with(first
          |(go_at_call 138;refine(lV _ _).mono ?_;rintro e w5' ⟨rfl,rfl⟩)
          |(at_builtin;refine aO rfl (.tmp 108) (.tmp 110) rfl rfl rfl fW ?_))
         exact⟨⟨q+1,A5,c5,by simp,bw,HF.out⟩,by show n-((q:Int)+1).toNat<n-((q:Int)).toNat;omega⟩
        ·have nt:0≤o.res:=Ac.2.1 k1
         have Z0:o.res<(N:Int):=by
          rcases vd with hr|hr
          ·omega
          ·have h1:=fY l 1 o KW
           have h2:=HC.out.count
           unfold de at h2
           rw[h2]at h1
           have:=HN.out
           omega
         have hVr:w4.cell? ⟨V,o.res.toNat,none⟩=some (G o.res):=by
          have:=pG o.res.toNat (by omega)
          rw[show((o.res.toNat:Nat):Int)=o.res by omega]at this
          exact(Yc mq).trans this
         have Uq:o.a∈bl o:=by simp[bl,dv,il,k2]
         have tx:0≤o.a:=(kr o.a Uq).ko
         have haN:o.a<(N:Int):=by have:=(kr o.a Uq).lt HC.out;have:=HN.out;omega
         have hVa:w4.cell? ⟨V,o.a.toNat,none⟩=some (G o.a):=by
          have:=pG o.a.toNat (by omega)
          rw[show((o.a.toNat:Nat):Int)=o.a by omega]at this
          exact(Yc mq).trans this
         rw[k2]at y2;rw[k3]at y3
         clear mq pG kr vd Ac KW k0
         go_wp2_with(first
          |(go_at_call 138;refine(lV _ _).mono ?_;rintro e w5' ⟨rfl,rfl⟩)
          |(at_builtin;refine aO rfl (.tmp 108) (.tmp 110) rfl rfl rfl fW ?_))
         exact⟨⟨q+1,A5,c5,by simp,bw,HF.out⟩,by show n-((q:Int)+1).toNat<n-((q:Int)).toNat;omega⟩
        ·have nt:0≤o.res:=Ac.2.1 k1
         have Z0:o.res<(N:Int):=by
          rcases vd with hr|hr
          ·omega
          ·have h1:=fY l 1 o KW
           have h2:=HC.out.count
           unfold de at h2
           rw[h2]at h1
           have:=HN.out
           omega
         have hVr:w4.cell? ⟨V,o.res.toNat,none⟩=some (G o.res):=by
          have:=pG o.res.toNat (by omega)
          rw[show((o.res.toNat:Nat):Int)=o.res by omega]at this
          exact(Yc mq).trans this
         have Uq:o.a∈bl o:=by simp[bl,dv,il,k2]
         have tx:0≤o.a:=(kr o.a Uq).ko
         have haN:o.a<(N:Int):=by have:=(kr o.a Uq).lt HC.out;have:=HN.out;omega
         have hVa:w4.cell? ⟨V,o.a.toNat,none⟩=some (G o.a):=by
          have:=pG o.a.toNat (by omega)
          rw[show((o.a.toNat:Nat):Int)=o.a by omega]at this
          exact(Yc mq).trans this
         have WT:o.b∈bl o:=by simp[bl,dv,il,k2,k3]
         have pq:0≤o.b:=(kr o.b WT).ko
         have hbN:o.b<(N:Int):=by have:=(kr o.b WT).lt HC.out;have:=HN.out;omega
         have hVb:w4.cell? ⟨V,o.b.toNat,none⟩=some (G o.b):=by
          have:=pG o.b.toNat (by omega)
          rw[show((o.b.toNat:Nat):Int)=o.b by omega]at this
          exact(Yc mq).trans this
         rw[k2]at y2;rw[k3]at y3
         clear mq pG kr vd Ac KW k0
         go_wp2_with(first
          |(go_at_call 138;refine(lV _ _).mono ?_;rintro e w5' ⟨rfl,rfl⟩)
          |(at_builtin;refine aO rfl (.tmp 108) (.tmp 110) rfl rfl rfl fW ?_))
         exact⟨⟨q+1,A5,c5,by simp,bw,HF.out⟩,by show n-((q:Int)+1).toNat<n-((q:Int)).toNat;omega⟩
        ·have nt:¬0≤o.res:=by have:=Ac.2.2.1 k1;omega
         have Uq:o.a∈bl o:=by simp[bl,dv,il,k2]
         have tx:0≤o.a:=(kr o.a Uq).ko
         have haN:o.a<(N:Int):=by have:=(kr o.a Uq).lt HC.out;have:=HN.out;omega
         have hVa:w4.cell? ⟨V,o.a.toNat,none⟩=some (G o.a):=by
          have:=pG o.a.toNat (by omega)
          rw[show((o.a.toNat:Nat):Int)=o.a by omega]at this
          exact(Yc mq).trans this
         rw[k2]at y2;rw[k3]at y3
         clear mq pG kr vd Ac KW k0
         go_wp2_with(first
          |(go_at_call 138;refine(lV _ _).mono ?_;rintro e w5' ⟨rfl,rfl⟩)
          |(at_builtin;refine aO rfl (.tmp 108) (.tmp 110) rfl rfl rfl fW ?_))
         exact⟨⟨q+1,A5,c5,by simp,bw,HF.out⟩,by show n-((q:Int)+1).toNat<n-((q:Int)).toNat;omega⟩
       ·have bN:¬(q:Int)<(n:Int):=by omega
        obtain rfl:q=n:=by omega
        rw[List.take_of_length_le (by omega)]at hO
        have y2:=rn (hL.some tH.out)
        have y3:=mM (hL.some tH.out)
        have y4:=vE (hL.some tH.out)
        have l9:ak wv.heap.size wv (wv.alloc (.cells #[G 4,G ret,.slice T 0 tc] 60)):=F0
        have a9:=ao wv (.cells #[G 4,G ret,.slice T 0 tc] 60)
        have yQ:=cf (hL.trans (l9.mono hL.size))
        have r9:=l9.some hR
        have O9:=cf (hO.low l9);have P9:=cf (hP.low l9)
        clear hR hO hP l9
        go_upto_region 26 with fail
        obtain⟨t16,Nu⟩:∃t,t=wv.heap.size:=⟨_,rfl⟩
        rw[←Nu]at a9⊢
        clear Nu y2 y3 y4 To hL Wb
        generalize wv.alloc (.cells #[G 4,G ret,.slice T 0 tc] 60)=w9 at a9 yQ r9 O9 P9⊢
        obtain⟨z0,z1,z2⟩:=Pk a9
        have nt:0≤ret:=dA.out.ret.ko
        have Z0:ret<(N:Int):=by have:=dA.out.ret.lt HC.out;have:=HN.out;omega
        obtain⟨vcs,mq,pG⟩:=V3.out.low yQ.out
        have hVr:w9.cell? ⟨V,ret.toNat,none⟩=some (G ret):=by
         have:=pG ret.toNat (by omega)
         rw[show((ret.toNat:Nat):Int)=ret by omega]at this
         exact(Yc mq).trans this
        have e3:w9.frozen? ⟨t12,3,none⟩=false:=au r9
        have c3:=mM r9
        have i3:w9.setCell ⟨t12,3,none⟩ (G ret)=w9:=kg r9 rfl
        have R9:=cf r9
        clear a9 r9 mq pG
        go_upto_region 29 with fail
        clear e3 c3 i3 hVr z0 z1
        go_loopw[17] (fun i wx=>i=G 0∧wx=w9) (fun _ _=>0)
        case atStart=>exact⟨rfl,rfl⟩
        case round=>
         obtain⟨rfl,rfl⟩:=hrel
         obtain⟨w9,rfl⟩:∃u,u=wr:=⟨_,rfl⟩
         have A9:=yQ.out.some A3.out
         have B9:=yQ.out.some B23.out
         have x9:=bf A9
         have q0:=sf R9.out
         obtain⟨g6,c6,w6,Xh,qz,l6,h6,Ia,k0,k1,k2,k3,k4,Up⟩:=sl w9 (.slice cT 1 cS) (.slice A' q c') (G 4) (G ret) Zs (by simp[Value.oneCell'])
         have z9:=l6.some A9
         have zb:=l6.some B9
         have x6:=bf z9
         have f6:w6.frozen? ⟨t9,0,none⟩=false:=au z9
         have hT:=HT.out
         have wm:fe w6 g6 cT cS A' q c' none 0 l ret:=⟨⟨Xh,Ia,k0,k1,k2,k3,k4⟩,(O9.out.low l6).LL,P9.out.low l6⟩
         have h9S:S≤t9∧t6≠t9:=by have:=H9.out;have:=HT.out;omega
         have HF:=cf (show ak S w (w6.setCell ⟨t9,0,none⟩ (.slice (ad g6) 1 c6))∧∃g' iV cT cS A' c',(w6.setCell ⟨t9,0,none⟩ (.slice (ad g6) 1 c6)).heap[t9]?=some (.cells #[.slice (ad g') 1 iV] 40 (0,0))∧(w6.setCell ⟨t9,0,none⟩ (.slice (ad g6) 1 c6)).heap[t6]?=some (.cells #[Zs] 40 (0,0))∧1≤iV∧fe (w6.setCell ⟨t9,0,none⟩ (.slice (ad g6) 1 c6)) g' cT cS A' q c' none 0 l ret from
          ⟨((L3.out.trans (yQ.out.mono (by rw[←iW.out];exact L3.out.size))).trans (l6.mono (by have h1:=L3.out.size;have h2:=yQ.out.size;have h3:=iW.out;omega))).setCell h9S.1 _,g6,c6,cT,cS,A',c',by rw[aD z9];rfl,(aj h9S.2).trans zb,Up,wm.other (fun b cs e hb he=>aj (by rintro rfl;rw[z9]at hb;cases hb;exact he rfl))⟩)
         clear z9 zb hT wm h9S A9 B9 l6 Ia k0 k1 k2 k3 k4 h6
         go_wp2_with(first
          |(at_builtin;refine aO rfl (.tmp 173) (.tmp 175) rfl rfl rfl qz ?_))
         exact⟨.inr ⟨rfl,HF.out⟩,by decide⟩
    ·have x9:wr.cell? ⟨t9,0,none⟩=some (.slice (ad g') 1 iV):=Yc y9
     have x6:=bf y6
     have f6:wr.frozen? ⟨t6,0,none⟩=false:=au y6
     have YT:(wr.setCell ⟨t6,0,none⟩ (.slice (ad g') 1 iV)).heap[t6]?=some (.cells #[.slice (ad g') 1 iV] 40 (0,0)):=by rw[aD y6];rfl
     have y6':=bf YT
     have hT:=HT.out
     have HF:=cf (show ak w.heap.size w (wr.setCell ⟨t6,0,none⟩ (.slice (ad g') 1 iV))∧fe (wr.setCell ⟨t6,0,none⟩ (.slice (ad g') 1 iV)) g' cT cS A' n c' none 0 l ret from⟨by rw[iW.out];exact hL.setCell (by omega) _,hF.other (by
      intro b cs e hb he
      exact aj (by rintro rfl;rw[y6]at hb;cases hb;exact he rfl))⟩)
     clear hL hF y9 y6 YT hT
     go_wp2_with fail
     exact bodyPost_ret (v:=.agg #[.slice (ad g') 1 iV]) (by simp[results,Tryz.results67,go_sem,y6'];done) rfl ⟨HF.out.1,g',iV,cT,cS,A',c',rfl,Oc,HF.out.2⟩
end Go.Proofs.YtjkahfmdcpfjjaaGreat
