/- The reference: canon. -/
import Derived.Test.YtjkahfmdcpfjjaaGreatD5
set_option linter.unusedVariables false
namespace Go.Proofs.YtjkahfmdcpfjjaaGreat
open Go.RowKit
set_option maxRecDepth 100000
set_option maxHeartbeats 8000000
theorem cJ.base {w:World} {S:Nat} {A:Option Addr} {n c:Nat} {l:List aE} (h:cJ w S A n c l):∀a,A=some a→S≤a.block:=by
 rintro a rfl
 obtain⟨_,⟨h1,_⟩|⟨g2,c2,cur,h1,h2,_⟩⟩:=h.2
 ·cases h1
 ·cases h1;exact h2
theorem yK (w:World) (g cg:Nat) (Pp:Option Addr) (pc:Nat) (A:Option Addr) (n c:Nat) (T:Option Addr) (tc:Nat) (l:List aE) (ret:Int) (h:fe w g Pp pc A n c T tc l ret) (hn:n≤40) (bB:jy l) (nt:0≤ret) (Zr:aA (fS l) 0=some 0):
 Calls Tryz.prog 34 #[.agg #[.slice (ad g) 1 cg]] w (fun e w'=>ak w.heap.size w w'∧∃g' cr cT cS A' c',e=.returned (.agg #[.slice (ad g') 1 cr])∧1≤cr∧fe w' g' cT cS A' n c' none 0 (eT l) (bK l ret)∧∀a,A'=some a→w.heap.size≤a.block):=by
 have qE:∀(fn:Fn) (first cap:Array Value) (w:World),(Instr.makeFunc fn first cap).run Tryz.prog w=.ok (.func fn first cap) w:=fun _ _ _ _=>rfl
 have vY:∀u:World,(Instr.makeMap 121 none).run Tryz.prog u=.ok (.map (some u.heap.size)) (u.alloc (.map #[] 0)):=fun u=>by kernel_rfl
 have H:=cf h;have dA:=cf bB;have Te:=cf nt;have HZ0:=cf Zr
 clear h bB nt Zr
 go_enter Tryz.func34,Tryz.ntmps34
 go_upto_region 5 with fail
 obtain⟨t1,eu⟩:∃t,t=w.heap.size:=⟨_,rfl⟩
 obtain⟨t2,nU⟩:∃t,t=t1+1:=⟨_,rfl⟩
 obtain⟨pm,Fo⟩:∃t,t=t1+1+1:=⟨_,rfl⟩
 obtain⟨t3,lZ⟩:∃t,t=t1+1+1+1:=⟨_,rfl⟩
 obtain⟨t4,uR⟩:∃t,t=t1+1+1+1+1:=⟨_,rfl⟩
 obtain⟨t5,gh⟩:∃t,t=t1+1+1+1+1+1:=⟨_,rfl⟩
 rw[←eu,←gh,←uR,←lZ,←Fo,←nU]
 have h1:=Gf (.cells #[.slice (ad g) 1 cg] 40) (.cells #[Zs] 40) (.cells #[.map (some pm)] 121) (.cells #[Zs] 22) (.cells #[.func (.func 82) #[] #[.pointer (ad t3),.pointer (ad t4),.pointer (ad t1),.pointer (ad t5)]] 118) eu nU Fo lZ uR gh _ rfl
 have HT:=cf (show t1=w.heap.size∧t2=t1+1∧pm=t1+1+1∧t3=t1+1+1+1∧t4=t1+1+1+1+1∧t5=t1+1+1+1+1+1 from⟨eu,nU,Fo,lZ,uR,gh⟩)
 clear eu nU Fo lZ uR gh
 generalize(((((w.alloc (.cells #[.slice (ad g) 1 cg] 40)).alloc (.cells #[Zs] 40)).alloc (.map #[] 0)).alloc (.cells #[.map (some pm)] 121)).alloc (.cells #[Zs] 22)).alloc (.cells #[.func (.func 82) #[] #[.pointer (ad t3),.pointer (ad t4),.pointer (ad t1),.pointer (ad t5)]] 118)=w1 at h1⊢
 obtain⟨l1,f1,f2,epm,f3,f4,f5⟩:=h1
 obtain⟨kz,r0,r1,r2,r3,r4,r5⟩:=(H.out.low l1).row
 have Nr:=zG w1 t3 t4 t1 pm g cg tc (.pointer (ad t5)) T f3 epm f4 f1 ((Yc r0).trans r5) ⟨kz,r0⟩
 have y5:=bf f5
 have L1:=cf l1;have F1:=cf f1;have F2:=cf f2
 clear l1 f1 f2 epm f3 f4 f5 r0 r1 r2 r3 r4 r5
 go_upto_region 6 with(first
  |(go_at_call 82;with_reducible refine Nr.mono ?_;rintro e w2 ⟨rfl,c2,go,co,cs,iN,f4,YH,fg0⟩))
 obtain⟨eu,nU,Fo,lZ,uR,gh⟩:=HT.out
 have f1:=c2.obj F1.out (by simp;omega)
 have f2:=c2.obj F2.out (by simp;omega)
 have l2:=L1.out.trans (c2.low (by simp;omega) L1.out.size)
 obtain⟨S,hS⟩:∃S,w2.heap.size=S:=⟨_,rfl⟩
 obtain⟨a1,s1,u1⟩:=av (.map #[] 0) hS
 obtain⟨a2,s2,u2⟩:=av (.cells #[.map (some S)] 121) s1
 have C3:CI w ((w2.alloc (.map #[] 0)).alloc (.cells #[.map (some S)] 121)) t1 t2 t4 go (S+1) S g cg co:=⟨(l2.alloc l2.size _).alloc (by have:=l2.size;omega) _,by have:=l2.size;omega,u2 _ _ (u1 _ _ f1),u2 _ _ (u1 _ _ f2),u2 _ _ (u1 _ _ f4),⟨cs,u2 _ _ (u1 _ _ YH),fg0⟩,a2⟩
 have M3:aQ .i64 ((w2.alloc (.map #[] 0)).alloc (.cells #[.map (some S)] 121)) S (cc cA []):=⟨#[],0,u2 _ _ a1,aN _,by simp⟩
 clear f1 f2 l2 a1 s1 u1 a2 s2 u2 Nr y5 L1 F1 F2 c2 f4 YH fg0 eu nU Fo lZ uR gh
 go_upto_region 8 with fail
 obtain⟨t6,Ql⟩:∃t,t=S+1:=⟨_,rfl⟩
 rw[←Ql]at C3⊢
 clear Ql hS
 generalize(w2.alloc (.map #[] 0)).alloc (.cells #[.map (some S)] 121)=w3 at C3 M3⊢
 have y4:=bf C3.f4
 have CC:=cf C3;have MM:=cf M3
 clear C3 M3
 go_wp2_with fail
 go_loopw[31] (fun i wr=>(i=G 0∧wr=w3)∨(i=G 1∧CI w wr t1 t2 t4 go t6 S g cg co∧aQ .i64 wr S (cc cA (fS l)))) (fun i _=>1-(intOf i).toNat)
 case atStart=>exact .inl ⟨rfl,rfl⟩
 case round=>
  rcases hrel with⟨rfl,rfl⟩|⟨rfl,hC,hM⟩
  ·obtain⟨w3,rfl⟩:∃u,u=wr:=⟨_,rfl⟩
   obtain⟨YI,CK,DV⟩:=CC.out.YH
   have yo:w3.cell? ⟨go,0,none⟩=some (G 0):=(Yc CK).trans DV
   have y1:=bf CC.out.f1
   obtain⟨kz,r0,r1,r2,r3,r4,r5⟩:=(H.out.low CC.out.lo).row
   have p0:w3.cell? ⟨g,0,none⟩=some (.slice Pp 1 pc):=(Yc r0).trans r1
   clear CK DV r0 r1 r2 r3 r4 r5
   go_wp2_with fail
   go_loopw[42] (fun i wr=>(i=G 0∧wr=w3)∨(i=G 1∧CI w wr t1 t2 t4 go t6 S g cg co∧aQ .i64 wr S (cc cA (fS [])))) (fun i _=>1-(intOf i).toNat)
   case atStart=>exact .inl ⟨rfl,rfl⟩
   case round=>
    rcases hrel with⟨rfl,rfl⟩|⟨rfl,hC,hM⟩
    ·obtain⟨w3,rfl⟩:∃u,u=wr:=⟨_,rfl⟩
     obtain⟨gp,cp,rfl,KV,pJ,rm⟩:=(H.out.low CC.out.lo).par
     have yp:w3.cell? ⟨gp,0,none⟩=some (G 0):=(Yc pJ).trans rm
     have y6:=bf CC.out.f6
     obtain⟨pI,cI,tC,Qj,C4,M4⟩:=CC.out.put MM.out 0
     have aj7:(Instr.mapUpdate 121 (.map (some S)) (G 0) (G 0)).run Tryz.prog w3=.ok () (Go.ChangeMaps.setBlock w3 S (.map cI tC)):=Qj
     have aw4:∀ty,(Builtin.len_ #[121] ty #[.map (some S)]).run Tryz.prog w3=.ok (G 0) w3:=pI
     have C4':=cf C4
     have M4':Hid (aQ .i64 (Go.ChangeMaps.setBlock w3 S (.map cI tC)) S (cc cA (fS []))):=cf M4
     clear Qj pI C4 M4 pJ rm yo y1 p0
     go_wp2_with fail
     exact⟨.inr ⟨rfl,C4'.out,M4'.out⟩,by decide⟩
    ·obtain⟨w4,rfl⟩:∃u,u=wr:=⟨_,rfl⟩
     have y1':=bf hC.f1
     obtain⟨kz,r0,r1,r2,r3,r4,r5⟩:=(H.out.low hC.lo).row
     have p1:w4.cell? ⟨g,1,none⟩=some (.slice A n c):=(Yc r0).trans r2
     have HC:=cf hC;have HM:=cf hM
     clear hC hM r0 r1 r2 r3 r4 r5
     go_wp2_with fail
     go_loopw[58] (fun i wx=>∃q:Nat,i=G q∧q≤n∧CI w wx t1 t2 t4 go t6 S g cg co∧aQ .i64 wx S (cc cA (fS (l.take q)))) (fun i _=>n-(intOf i).toNat)
     case atStart=>exact⟨0,rfl,by omega,HC.out,HM.out⟩
     case round=>
      obtain⟨wv,rfl⟩:∃u,u=wr:=⟨_,rfl⟩
      obtain⟨q,rfl,hq,hC,hM⟩:=hrel
      have hv:=H.out.low hC.lo
      clear y1' p1 yo y1 p0
      by_cases bw:q<n
      ·skip
       have bN:(q:Int)<(n:Int):=by omega
       have nu:(0:Int)≤(q:Int):=by omega
       have mI:(q:Int)≤40:=by omega
       obtain⟨o,ho⟩:∃o,l[q]?=some o:=⟨_,List.getElem?_eq_getElem (by have:=hv.ops.1;omega)⟩
       obtain⟨ga,cs,rfl,qD,hg,k0,k1,k2,k3,k4,k5⟩:=hv.ops.2 q o ho
       obtain⟨c0,c1,c2,c3,c4,c5⟩:=iw hg k0 k1 k2 k3 k4 k5
       have l9:ak wv.heap.size wv (wv.alloc (OC o)):=F0
       have a9:=ao wv (OC o)
       have C9:=hC.low l9
       have M9:=hM.low l9
       have QH:=cf (xX ho)
       clear hC hM hv hg k0 k1 k2 k3 k4 k5 ho l9
       go_upto_region 19 with fail
       clear c0 c1 c2 c3 c4 c5
       generalize wv.heap.size=t13 at a9⊢
       generalize wv.alloc (OC o)=wa at a9 C9 M9⊢
       have x1:=jw a9
       by_cases fX:0≤o.res
       ·have y6:wa.cell? ⟨t6,0,none⟩=some (.map (some S)):=Yc C9.f6
        obtain⟨pI,cI,tC,Qj,C4,M4⟩:=C9.put M9 o.res
        have PK:aQ .i64 (Go.ChangeMaps.setBlock wa S (.map cI tC)) S (cc cA (fS (l.take (q+1)))):=by
         rw[QH.out]
         unfold MP
         rw[if_pos fX]
         exact M4
        obtain⟨k,hk⟩:∃k,(fS (l.take q)).length=k:=⟨_,rfl⟩
        rw[hk]at pI Qj
        have C4':=cf C4;have M4':=cf PK
        clear C9 M9 a9 hk C4 M4 PK
        go_wp2_with fail
        exact⟨⟨q+1,rfl,bw,C4'.out,M4'.out⟩,by show n-((q:Int)+1).toNat<n-((q:Int)).toNat;omega⟩
       ·have PK:aQ .i64 wa S (cc cA (fS (l.take (q+1)))):=by
         rw[QH.out]
         unfold MP
         rw[if_neg fX]
         exact M9
        have C9':=cf C9;have M9':=cf PK
        clear C9 M9 a9 PK
        go_wp2_with fail
        exact⟨⟨q+1,rfl,bw,C9'.out,M9'.out⟩,by show n-((q:Int)+1).toNat<n-((q:Int)).toNat;omega⟩
      ·have bN:¬(q:Int)<(n:Int):=by omega
       obtain rfl:q=n:=by omega
       have hlen:=hv.ops.1
       have QK:=cf hC;have HM2:=cf hM
       clear hC hM hv
       go_wp2_with fail
       exact⟨.inr ⟨rfl,QK.out,by have:=HM2.out;rw[List.take_of_length_le (by omega)]at this;exact this⟩,by decide⟩
  ·obtain⟨w4,rfl⟩:∃u,u=wr:=⟨_,rfl⟩
   clear y4 CC MM
   have l5:ak w4.heap.size w4 (w4.alloc (.cells #[Zs] 40)):=F0
   have a5:=ao w4 (.cells #[Zs] 40)
   have C5:=hC.low l5;have M5:=hM.low l5
   have TM:t2<w4.heap.size:=aB hC.f2
   clear hC hM l5
   go_upto_region 24 with fail
   obtain⟨t14,ph⟩:∃t,t=w4.heap.size:=⟨_,rfl⟩
   rw[←ph]at a5 TM⊢
   generalize w4.alloc (.cells #[Zs] 40)=w5 at a5 C5 M5⊢
   clear ph
   have af5:=cf TM
   have y4:=bf C5.f4
   have A5:=cf a5;have CC:=cf C5;have MM:=cf M5
   clear a5 C5 M5
   go_wp2_with fail
   go_loopw[74] (fun i wr=>(i=G 0∧wr=w5)∨(i=G 1∧ak w.heap.size w wr∧wr.heap[t2]?=some (.cells #[Zs] 40 (0,0))∧∃g' cr cT cS A' c',wr.heap[t14]?=some (.cells #[.slice (ad g') 1 cr] 40 (0,0))∧1≤cr∧fe wr g' cT cS A' n c' none 0 (eT l) (bK l ret)∧∀a,A'=some a→w.heap.size≤a.block)) (fun i _=>1-(intOf i).toNat)
   case atStart=>exact .inl ⟨rfl,rfl⟩
   case round=>
    rcases hrel with⟨rfl,rfl⟩|⟨rfl,hL,h2,g',cr,cT,cS,A',c',Lp,oh,hF,hFA⟩
    ·obtain⟨w5,rfl⟩:∃u,u=wr:=⟨_,rfl⟩
     obtain⟨YI,CK,DV⟩:=CC.out.YH
     have yo:w5.cell? ⟨go,0,none⟩=some (G 0):=(Yc CK).trans DV
     have y1:=bf CC.out.f1
     have YD:=H.out.low CC.out.lo
     obtain⟨kz,r0,r1,r2,r3,r4,r5⟩:=YD.row
     obtain⟨gp,cp,rfl,KV,pJ,rm⟩:=YD.par
     obtain⟨p0,p1,p2,p3,p4⟩:=mV r0 r1 r2 r3 r4 r5
     have l6:ak w5.heap.size w5 (w5.alloc (.cells #[.slice (ad gp) 1 pc,.slice A n c,G 4,G ret,.slice T 0 tc] 62)):=F0
     have a6:=ao w5 (.cells #[.slice (ad gp) 1 pc,.slice A n c,G 4,G ret,.slice T 0 tc] 62)
     have C6:=cf (CC.out.low l6);have M6:=cf (MM.out.low l6);have A6:=cf (l6.some A5.out)
     have P6:=cf (l6.some pJ);have P60:=cf rm
     clear CK DV YD r0 r1 r2 r3 r4 r5 pJ rm l6 CC MM A5
     go_upto_region 28 with fail
     clear yo y1 p0 p1 p2 p3 p4 y4
     obtain⟨t17,Cv⟩:∃t,t=w5.heap.size:=⟨_,rfl⟩
     rw[←Cv]at a6⊢
     clear Cv
     generalize w5.alloc (.cells #[.slice (ad gp) 1 pc,.slice A n c,G 4,G ret,.slice T 0 tc] 62)=w6 at a6 C6 M6 A6 P6⊢
     have kx:∀u,ak w6.heap.size w6 u→Calls Tryz.prog 84 #[.slice (ad gp) 1 pc,.func (.func 83) #[] #[.pointer (ad t6)]] u (fun e w'=>∃v,e=.returned v∧(ak u.heap.size u w'∧∃cT cS,v=.slice cT 1 cS∧dT w' cT cS)):=fun u hu=>
      (SZ u gp pc t6 S (fS l) ((Yc (hu.some P6.out)).trans P60.out) (hu.some C6.out.f6) (M6.out.low hu) HZ0.out).mono (fun e w' h=>⟨_,h.2.choose_spec.choose_spec.1,h.1,_,_,rfl,h.2.choose_spec.choose_spec.2⟩)
     have tH:=cf a6
     have KP:=cf kx
     clear a6 kx
     go_cut[18] (fun v18 wx=>∃t18 cT cS,v18=.pointer (ad t18)∧ak w6.heap.size w6 wx∧w6.heap.size≤t18∧wx.heap[t18]?=some (.cells #[.slice cT 1 cS,Zs,G 4,G ret,Zs] 62 (0,0))∧dT wx cT cS)
     case first=>
      refine wp_region_noPanic ?_
      refine wp_region_held_drew (S:=fun w'=>w'.cell? ⟨t17,0,none⟩=some (.slice (ad gp) 1 pc)∧w'.cell? ⟨t17,2,none⟩=some (G 4)∧w'.cell? ⟨t17,3,none⟩=some (G ret)) (by kernel_rfl) ⟨Yc tH.out,Yc tH.out,Yc tH.out⟩ (fun af=>?_)
      refine tk 0 af ?_
      refine tk 1 af ?_
      refine tk 2 af ?_
      refine tk 4 af ?_
      refine tk 5 af ?_
      refine tk 6 af ?_
      refine tk 7 af ?_
      refine tk 8 af ?_
      refine tk 9 af ?_
      refine tk 10 af ?_
      refine wpAnyH_ready (rs:=[3,12]) (by kernel_rfl) (by simp) ?_
      refine fT (i:=3) rfl (fun KK aI=>?_) (fT (i:=12) rfl (fun KK aI=>?_) AllReadyH.nil)
      ·refine aR rfl 84 #[.slice (ad gp) 1 pc,.func (.func 83) #[] #[.pointer (ad t6)]] (by go_simp) _ (KP.out w6.drew (ak.refl _ w6).drew) ?_
       rintro v7 w7 ⟨l7,cT,cS,rfl,p7⟩
       have VT:ak w6.heap.size w6 w7:=(ak.refl _ w6).drew.trans l7
       have a7:=VT.some tH.out
       have qG:w7.cell? ⟨t17,0,none⟩=some (.slice (ad gp) 1 pc)∧w7.cell? ⟨t17,2,none⟩=some (G 4)∧w7.cell? ⟨t17,3,none⟩=some (G ret):=⟨Yc a7,Yc a7,Yc a7⟩
       have L7:=cf VT;have P7:=cf p7;have A7:=cf a7
       clear l7 VT p7 a7
       refine aI.out _ _ (by exact qG) (fun af=>?_)
       clear aI KK
       (try simp only[Act.put,bh])
       refine tk 11 af ?_
       refine aG 12 fun KK aI=>?_
       go_simp
       have l8:∀o,ak w7.heap.size w7 (w7.alloc o):=fun o=>(ak.refl _ w7).alloc (Nat.le_refl _) o
       have Ai:∀o,(fun w':World=>w'.cell? ⟨t17,0,none⟩=some (.slice (ad gp) 1 pc)∧w'.cell? ⟨t17,2,none⟩=some (G 4)∧w'.cell? ⟨t17,3,none⟩=some (G ret)) (w7.alloc o):=fun o=>⟨Yc ((l8 o).some A7.out),Yc ((l8 o).some A7.out),Yc ((l8 o).some A7.out)⟩
       refine aI.out _ _ (by exact Ai _) (fun af=>?_)
       clear aI KK
       (try simp only[Act.put,bh])
       refine aG 13 fun KK aI=>?_
       go_simp
       refine aI.out _ _ (by exact Ai _) (fun af=>?_)
       clear aI KK
       (try simp only[Act.put,bh])
       refine wpAnyH_done (by kernel_rfl) ?_ _
       refine NoPanic.normal ?_
       have l9:=l8 (.cells #[.slice cT 1 cS,Zs,G 4,G ret,Zs] 62)
       have hs7:=L7.out.size
       (try go_wp2_with fail)
       go_meet
       exact⟨w7.heap.size,cT,cS,rfl,L7.out.trans (l9.mono L7.out.size),hs7,ao w7 _,P7.out.low l9⟩
      ·go_simp
       have lz:ak w6.heap.size w6 (w6.alloc (.cells #[Zs,Zs,G 0,G 0,Zs] 62)).drew:=((ak.refl _ w6).alloc (Nat.le_refl _) _).drew
       have az:(w6.alloc (.cells #[Zs,Zs,G 0,G 0,Zs] 62)).drew.heap[w6.heap.size]?=some (.cells #[Zs,Zs,G 0,G 0,Zs] 62 (0,0)):=ao w6 _
       have S5:=lz.some tH.out
       have Ok:(w6.alloc (.cells #[Zs,Zs,G 0,G 0,Zs] 62)).drew.cell? ⟨t17,0,none⟩=some (.slice (ad gp) 1 pc)∧(w6.alloc (.cells #[Zs,Zs,G 0,G 0,Zs] 62)).drew.cell? ⟨t17,2,none⟩=some (G 4)∧(w6.alloc (.cells #[Zs,Zs,G 0,G 0,Zs] 62)).drew.cell? ⟨t17,3,none⟩=some (G ret):=⟨Yc S5,Yc S5,Yc S5⟩
       refine aI.out _ _ (by exact Ok) (fun af=>?_)
       clear aI KK
       (try simp only[Act.put,bh])
       have LZ:=cf lz;have AZ:=cf az
       clear lz az S5
       obtain⟨t18,wY⟩:∃t,t=w6.heap.size:=⟨_,rfl⟩
       have Gw:=cf (Nat.le_of_eq wY.symm)
       rw[←wY]at AZ⊢
       clear wY
       generalize(w6.alloc (.cells #[Zs,Zs,G 0,G 0,Zs] 62)).drew=wz at AZ LZ af Ok⊢
       refine aG 3 fun KK aI=>?_
       refine aR rfl 84 #[.slice (ad gp) 1 pc,.func (.func 83) #[] #[.pointer (ad t6)]] (by go_simp) _ (KP.out wz LZ.out) ?_
       rintro v7 w7 ⟨l7,cT,cS,rfl,p7⟩
       have a7:=l7.some (LZ.out.some tH.out)
       have z7:=l7.some AZ.out
       have qG:w7.cell? ⟨t17,0,none⟩=some (.slice (ad gp) 1 pc)∧w7.cell? ⟨t17,2,none⟩=some (G 4)∧w7.cell? ⟨t17,3,none⟩=some (G ret):=⟨Yc a7,Yc a7,Yc a7⟩
       have e0:=sf z7
       obtain⟨f0,f1,f2,f3,f4⟩:=OE z7
       have L7:=cf (LZ.out.trans (l7.mono LZ.out.size));have P7:=cf p7;have A7:=cf a7;have Z7:=cf z7
       clear l7 p7 a7 z7 af Ok
       refine aI.out _ _ (by exact qG) (fun af=>?_)
       clear aI KK
       (try simp only[Act.put,bh])
       refine tk 11 af ?_
       refine aG 13 fun KK aI=>?_
       go_simp
       obtain⟨iK,mE,Qd⟩:=yE (v0:=.slice cT 1 cS) (v1:=Zs) (v2:=G 4) (v3:=G ret) (v4:=Zs) Z7.out Gw.out _ rfl
       have Nt:t17≠t18:=by
        have:=aB tH.out
        have:=Gw.out
        omega
       have Wj:dT (((((w7.setCell ⟨t18,0,none⟩ (.slice cT 1 cS)).setCell ⟨t18,1,none⟩ Zs).setCell ⟨t18,2,none⟩ (G 4)).setCell ⟨t18,3,none⟩ (G ret)).setCell ⟨t18,4,none⟩ Zs) cT cS:=by
        obtain⟨gq,cq,e,Si,Hw,Wi⟩:=P7.out
        refine⟨gq,cq,e,Si,(Qd gq ?_).trans Hw,Wi⟩
        rintro rfl
        have:=Z7.out
        rw[Hw]at this;cases this
       generalize World.setCell _ _ _=w9 at iK mE Qd Wj⊢
       have a9:=(Qd t17 Nt).trans A7.out
       have J4:w9.cell? ⟨t17,0,none⟩=some (.slice (ad gp) 1 pc)∧w9.cell? ⟨t17,2,none⟩=some (G 4)∧w9.cell? ⟨t17,3,none⟩=some (G ret):=⟨Yc a9,Yc a9,Yc a9⟩
       have L9:=cf (L7.out.trans mE);have R9:=cf iK;have P9:=cf Wj
       clear iK mE Qd Wj a9 Nt e0 f0 f1 f2 f3 f4
       refine aI.out _ _ (by exact J4) (fun af=>?_)
       clear aI KK
       (try simp only[Act.put,bh])
       refine wpAnyH_done (by kernel_rfl) ?_ _
       refine NoPanic.normal ?_
       (try go_wp2_with fail)
       go_meet
       exact⟨t18,cT,cS,rfl,L9.out,Gw.out,R9.out,P9.out⟩
     case rest=>
      obtain⟨t18,cT,cS,rfl,DW,h18,TZ,Z3⟩:=hcut
      obtain⟨w8,rfl⟩:∃u,u=wc:=⟨_,rfl⟩
      have A17:=cf (DW.some tH.out);have C8:=cf (C6.out.low DW);have M8:=cf (M6.out.low DW);have A8:=cf (DW.some A6.out)
      have H18:=cf TZ;have P8:=cf Z3
      have y1:=jw A17.out
      have Uz:t17≠t18:=by have:=aB tH.out;omega
      have ZI:w.heap.size≤t18:=Nat.le_trans C6.out.lo.size h18
      have ad4:t14≠t18:=by have:=aB A6.out;omega
      clear DW TZ Z3 h18 tH C6 M6 A6 P6 P60 KP
      go_wp2_with fail
      go_loopw[98] (fun i wx=>∃(q:Nat) (A':Option Addr) (c':Nat),i=G ((q:Nat):Int)∧q≤n∧aY [t18] w8 wx∧wx.heap[t18]?=some (.cells #[.slice cT 1 cS,.slice A' q c',G 4,G ret,Zs] 62 (0,0))∧cJ wx w8.heap.size A' q c' ((l.take q).map (dw (bK l)))) (fun i _=>n-(intOf i).toNat)
      case atStart=>exact⟨0,none,0,rfl,by omega,aY.refl _ _,H18.out,cJ.nil _ _⟩
      case round=>
       obtain⟨wv,rfl⟩:∃u,u=wr:=⟨_,rfl⟩
       obtain⟨q,A',c',rfl,hq,hL,hR,hO⟩:=hrel
       have cv:CI w wv t1 t2 t4 go t6 S g cg co:=C8.out.cG hL (by
        intro b hb
        rw[List.mem_singleton]at hb
        subst hb
        exact⟨ZI,fun cs e fr hb=>by rw[H18.out]at hb;cases hb;exact⟨by decide,by decide,by decide,by decide⟩⟩)
       have mv:aQ .i64 wv S (cc cA (fS l)):=by
        obtain⟨es,cl,hg,_⟩:=M8.out
        exact M8.out.aW (hL.block S (aB hg) (by
         intro hm
         rw[List.mem_singleton]at hm
         rw[hm,H18.out]at hg;cases hg))
       have ah0:=cf (aB H18.out)
       have hv:=H.out.low cv.lo
       have HL:=cf hL;have HR:=cf hR;have HO:=cf hO;have CV:=cf cv;have MV:=cf mv
       clear hL hR hO cv mv y1
       by_cases bw:q<n
       ·skip
        have bN:(q:Int)<(n:Int):=by omega
        have nu:(0:Int)≤(q:Int):=by omega
        have mI:(q:Int)≤40:=by omega
        obtain⟨o,ho⟩:∃o,l[q]?=some o:=⟨_,List.getElem?_eq_getElem (by have:=hv.ops.1;omega)⟩
        obtain⟨ga,cs,rfl,qD,hg,k0,k1,k2,k3,k4,k5⟩:=hv.ops.2 q o ho
        obtain⟨c0,c1,c2,c3,c4,c5⟩:=iw hg k0 k1 k2 k3 k4 k5
        have Jl:=dA.out o (List.mem_of_getElem? ho)
        have l9:ak wv.heap.size wv (wv.alloc (OC o)):=F0
        have a9:=ao wv (OC o)
        have f6:=l9.some CV.out.f6
        have m9:=MV.out.low l9
        have LA:=cf l9
        have XT:=cf ho
        clear hv hg k0 k1 k2 k3 k4 k5 ho l9
        go_upto_region 32 with fail
        clear c0 c1 c2 c3 c4 c5
        obtain⟨t20,V9⟩:∃t,t=wv.heap.size:=⟨_,rfl⟩
        have af6:=cf V9
        rw[←V9]at a9⊢
        clear V9
        generalize wv.alloc (OC o)=wa at a9 f6 m9 LA⊢
        obtain⟨x0,x1,x2,x3,x4,x5⟩:=aC a9
        obtain⟨a',pV⟩:∃a',a'=if aZ o.code then bK l o.a else o.a:=⟨_,rfl⟩
        obtain⟨b',wo⟩:∃b',b'=if bc o.code then bK l o.b else o.b:=⟨_,rfl⟩
        have jn:Calls Tryz.prog 85 #[OV o,.func (.func 83) #[] #[.pointer (ad t6)]] wa (fun e w'=>e=.returned (.agg #[G o.code,G o.res,G a',G b',.int .u16 o.n,Zs])∧ak wa.heap.size wa w'):=by
         have:=zO (fun _ wx=>ak wa.heap.size wa wx) wa o 83 #[] #[.pointer (ad t6)] (bK l o.a) (bK l o.b) (fun _=>(Inv.low _ _ (Nat.le_refl _)).two) (ak.refl _ _) Jl OZ (fun _=>su wa t6 S (fS l) o.a f6 m9 _) (fun _=>su wa t6 S (fS l) o.b f6 m9 _)
         have eW:tK o (bK l o.a) (bK l o.b)=⟨o.code,o.res,a',b',o.n⟩:=by rw[pV,wo];rfl
         rw[eW]at this
         exact this
        have A9:=cf a9;have F6:=cf f6;have M9:=cf m9
        have HA:=cf pV;have HB:=cf wo
        clear a9 f6 m9 pV wo
        go_upto_region 33 with(first
         |(go_at_call 85;refine jn.mono ?_;rintro e w6 ⟨rfl,l6⟩;have a6:=l6.some A9.out;have F66:=cf (l6.some F6.out);have M66:=cf (M9.out.low l6);have L6:=cf l6;have d0:w6.cell? ⟨t20,0,none⟩=some (G o.code):=Yc a6;have d1:w6.cell? ⟨t20,1,none⟩=some (G o.res):=Yc a6;have d2:w6.cell? ⟨t20,2,none⟩=some (G o.a):=Yc a6;have d3:w6.cell? ⟨t20,3,none⟩=some (G o.b):=Yc a6;have d4:w6.cell? ⟨t20,4,none⟩=some (.int .u16 o.n):=Yc a6;have d5:w6.cell? ⟨t20,5,none⟩=some Zs:=Yc a6;have f0:w6.frozen? ⟨t20,0,none⟩=false:=au a6;have f1:w6.frozen? ⟨t20,1,none⟩=false:=au a6;have f2:w6.frozen? ⟨t20,2,none⟩=false:=au a6;have f3:w6.frozen? ⟨t20,3,none⟩=false:=au a6;have f4:w6.frozen? ⟨t20,4,none⟩=false:=au a6;have f5:w6.frozen? ⟨t20,5,none⟩=false:=au a6;have A66:=cf a6;clear a6 l6))
        obtain⟨w7,R0⟩:∃w7,w7=(((((w6.setCell ⟨t20,0,none⟩ (G o.code)).setCell ⟨t20,1,none⟩ (G o.res)).setCell ⟨t20,2,none⟩ (G a')).setCell ⟨t20,3,none⟩ (G b')).setCell ⟨t20,4,none⟩ (.int .u16 o.n)).setCell ⟨t20,5,none⟩ Zs:=⟨_,rfl⟩
        obtain⟨a7,NG,ak0,_⟩:=pW A66.out w7 R0
        have L7:Hid (ak wv.heap.size wv w7):=cf (by
         rw[R0]
         have YF:wv.heap.size≤t20:=by have:=af6.out;omega
         exact((((((LA.out.trans (L6.out.mono LA.out.size)).setCell YF _).setCell YF _).setCell YF _).setCell YF _).setCell YF _).setCell YF _)
        have ad2:t6≠t20:=by rintro rfl;have:=F66.out;rw[A66.out]at this;cases this
        have ac9:S≠t20:=by rintro rfl;obtain⟨es,cl,hg,_⟩:=M66.out;rw[A66.out]at hg;cases hg
        have F7:=cf ((NG t6 ad2).trans F66.out);have M7:=cf (M66.out.aW (NG S ac9))
        rw[←R0]
        clear R0 NG ak0 ad2 ac9
        clear d0 d1 d2 d3 d4 d5 f0 f1 f2 f3 f4 f5 x0 x1 x2 x3 x4 x5 jn
        have x1:=jw a7
        have HSW:=cf HL.out.size
        have Nz:∀r',r'=(if 0≤o.res then bK l o.res else o.res)→(l.take (q+1)).map (dw (bK l))=(l.take q).map (dw (bK l))++[(⟨o.code,r',a',b',o.n⟩:aE)]:=fun r' mH=>by
         rw[mR XT.out,List.map_append,mH,HA.out,HB.out]
         rfl
        have Tc:=cf Nz
        clear Nz
        by_cases fX:0≤o.res
        ·have kM:=nL w7 t6 S (fS l) o.res (Yc F7.out) M7.out
         have We:=Tc.out (bK l o.res) (by rw[if_pos fX])
         obtain⟨r',mH⟩:∃r',r'=bK l o.res:=⟨_,rfl⟩
         rw[show(aA (fS l) o.res).getD 0=r' from mH.symm]at kM
         rw[←mH]at We
         clear mH
         have fz:w7.frozen? ⟨t20,1,none⟩=false:=au a7
         have A7:=cf a7;have HRN:=cf We
         clear a7 We
         go_upto_region 35 with(first
          |(go_at_call 83;with_reducible refine kM.mono ?_;rintro e w7' ⟨rfl,rfl⟩)
          |(with_reducible refine kM.mono ?_;rintro e w7' ⟨rfl,rfl⟩))
         have ZB:Hid ((w7'.setCell ⟨t20,1,none⟩ (G r')).heap[t20]?=some (.cells #[G o.code,G r',G a',G b',.int .u16 o.n,Zs] 67 (0,0))):=cf (aD (i:=1) (v:=G r') A7.out)
         have LB:Hid (ak wv.heap.size wv (w7'.setCell ⟨t20,1,none⟩ (G r'))):=cf (L7.out.setCell (by have:=af6.out;omega) _)
         clear fz x1 kM
         generalize w7'.setCell ⟨t20,1,none⟩ (G r')=wb at ZB LB⊢
         have So:ak w8.heap.size wv wb:=LB.out.mono HSW.out
         have Om:=So.obj ah0.out HR.out
         have UH:cJ wb w8.heap.size A' q c' ((l.take q).map (dw (bK l))):=HO.out.low LB.out
         have hsB:w8.heap.size≤wb.heap.size:=by have:=So.size;have:=HL.out.size;omega
         obtain⟨A5,c5,w5,fW,o5,l5,iM,WQ,Qz⟩:=AP UH ⟨o.code,r',a',b',o.n⟩ (by omega) hsB
         have pn:(Builtin.append_ #[57,57] 57 #[.slice A' q c',.slice (ad (wb.heap.size)) 1 1]).run Tryz.prog (wb.alloc (.cells #[G o.code,G r',G a',G b',.int .u16 o.n,Zs] 67))=.ok (.slice A5 (q+1) c5) w5:=fW
         have r5:=(iM t18 (aB Om) (by rintro cs h;rw[Om]at h;cases h)).trans Om
         have vB:=jw Om
         have v5:=jw r5
         have f5:w5.frozen? ⟨t18,1,none⟩=false:=au r5
         obtain⟨z0,z1,z2,z3,z4,z5⟩:=aC ZB.out
         have HF:=cf (show aY [t18] w8 (w5.setCell ⟨t18,1,none⟩ (.slice A5 (q+1) c5))∧(w5.setCell ⟨t18,1,none⟩ (.slice A5 (q+1) c5)).heap[t18]?=some (.cells #[.slice cT 1 cS,.slice A5 (q+1) c5,G 4,G ret,Zs] 62 (0,0))∧cJ (w5.setCell ⟨t18,1,none⟩ (.slice A5 (q+1) c5)) w8.heap.size A5 (q+1) c5 ((l.take (q+1)).map (dw (bK l)))from
          ⟨((HL.out.tail So).tail l5).trans (aY.setCell _ (List.mem_singleton.2 rfl) _),aD r5,by
           rw[HRN.out]
           exact o5.other fun b _ hb=>aj (by rintro rfl;obtain⟨cs,hb⟩:=hb;rw[r5]at hb;cases hb)⟩)
         clear So Om UH o5 l5 iM WQ Qz fW r5
         go_wp2_with(first
          |(at_builtin;refine aO rfl (.tmp 114) (.tmp 116) rfl rfl rfl pn ?_))
         exact⟨⟨q+1,A5,c5,by simp,bw,HF.out⟩,by show n-((q:Int)+1).toNat<n-((q:Int)).toNat;omega⟩
        ·have We:=Tc.out o.res (by rw[if_neg fX])
         obtain⟨r',mH⟩:∃r',r'=o.res:=⟨_,rfl⟩
         rw[←mH]at We
         have HRN:=cf We
         have ZB:Hid (w7.heap[t20]?=some (.cells #[G o.code,G r',G a',G b',.int .u16 o.n,Zs] 67 (0,0))):=cf (by rw[mH];exact a7)
         obtain⟨wb,rfl⟩:∃u,u=w7:=⟨_,rfl⟩
         have LB:=cf L7.out
         clear a7 We
         go_upto_region 35 with fail
         clear x1 mH
         have So:ak w8.heap.size wv wb:=LB.out.mono HSW.out
         have Om:=So.obj ah0.out HR.out
         have UH:cJ wb w8.heap.size A' q c' ((l.take q).map (dw (bK l))):=HO.out.low LB.out
         have hsB:w8.heap.size≤wb.heap.size:=by have:=So.size;have:=HL.out.size;omega
         obtain⟨A5,c5,w5,fW,o5,l5,iM,WQ,Qz⟩:=AP UH ⟨o.code,r',a',b',o.n⟩ (by omega) hsB
         have pn:(Builtin.append_ #[57,57] 57 #[.slice A' q c',.slice (ad (wb.heap.size)) 1 1]).run Tryz.prog (wb.alloc (.cells #[G o.code,G r',G a',G b',.int .u16 o.n,Zs] 67))=.ok (.slice A5 (q+1) c5) w5:=fW
         have r5:=(iM t18 (aB Om) (by rintro cs h;rw[Om]at h;cases h)).trans Om
         have vB:=jw Om
         have v5:=jw r5
         have f5:w5.frozen? ⟨t18,1,none⟩=false:=au r5
         obtain⟨z0,z1,z2,z3,z4,z5⟩:=aC ZB.out
         have HF:=cf (show aY [t18] w8 (w5.setCell ⟨t18,1,none⟩ (.slice A5 (q+1) c5))∧(w5.setCell ⟨t18,1,none⟩ (.slice A5 (q+1) c5)).heap[t18]?=some (.cells #[.slice cT 1 cS,.slice A5 (q+1) c5,G 4,G ret,Zs] 62 (0,0))∧cJ (w5.setCell ⟨t18,1,none⟩ (.slice A5 (q+1) c5)) w8.heap.size A5 (q+1) c5 ((l.take (q+1)).map (dw (bK l)))from
          ⟨((HL.out.tail So).tail l5).trans (aY.setCell _ (List.mem_singleton.2 rfl) _),aD r5,by
           rw[HRN.out]
           exact o5.other fun b _ hb=>aj (by rintro rfl;obtain⟨cs,hb⟩:=hb;rw[r5]at hb;cases hb)⟩)
         clear So Om UH o5 l5 iM WQ Qz fW r5
         go_wp2_with(first
          |(at_builtin;refine aO rfl (.tmp 114) (.tmp 116) rfl rfl rfl pn ?_))
         exact⟨⟨q+1,A5,c5,by simp,bw,HF.out⟩,by show n-((q:Int)+1).toNat<n-((q:Int)).toNat;omega⟩
       ·have bN:¬(q:Int)<(n:Int):=by omega
        obtain rfl:q=n:=by omega
        have hlen:=hv.ops.1
        have UQ:=HL.out.obj A17.out (by rw[List.mem_singleton];exact Uz)
        have a14:=HL.out.obj A8.out (by rw[List.mem_singleton];exact ad4)
        have p18:dT wv cT cS:=P8.out.cG HL.out (fun b hb jH mw=>by
         rw[List.mem_singleton]at hb
         subst hb
         rw[H18.out]at mw;cases mw)
        have y2:=rn UQ
        have y3:=mM UQ
        have y4:=vE UQ
        have Qn:=xN wv (.slice T 0 tc) ret Te.out
        have A14:=cf a14;have ah5:=cf UQ;have P18:=cf p18
        have OPS:Hid (cJ wv w8.heap.size A' q c' (eT l)):=cf (by have:=HO.out;rw[List.take_of_length_le (by omega)]at this;exact this)
        clear hv UQ a14 p18
        go_upto_region 38 with(first
         |(go_at_call 86;with_reducible refine Qn.mono ?_;rintro e w9 ⟨rfl,l9⟩))
        have KR:=cf (l9.some A14.out);have aq9:=cf (P18.out.low l9);have ar0:=cf (OPS.out.low l9);have C9:=cf (CV.out.low l9);have R9:=cf (l9.some HR.out);have PY:=cf (l9.some ah5.out)
        have kM:=nL w9 t6 S (fS l) ret (Yc C9.out.f6) (MV.out.low l9)
        obtain⟨r',mH⟩:∃r',r'=bK l ret:=⟨_,rfl⟩
        rw[show(aA (fS l) ret).getD 0=r' from mH.symm]at kM
        have z3:=mM PY.out
        have fz:w9.frozen? ⟨t18,3,none⟩=false:=au R9.out
        have z18:=mM R9.out
        have HRR:=cf mH
        clear l9 y2 y3 y4 Qn A14 ah5 P18 OPS CV HR MV HL HO mH
        go_upto_region 39 with(first
         |(go_at_call 83;with_reducible refine kM.mono ?_;rintro e Vl ⟨rfl,rfl⟩)
         |(with_reducible refine kM.mono ?_;rintro e Vl ⟨rfl,rfl⟩))
        have YR:aY [t18] Vl (Vl.setCell ⟨t18,3,none⟩ (G r')):=aY.setCell _ (List.mem_singleton.2 rfl) _
        have n18:∀{b:Nat} {cs:Array Value} {e:TypeId} {fr:Nat×Nat},Vl.heap[b]?=some (.cells cs e fr)→e≠62→b∉[t18]:=fun{b cs e fr} hb he hm=>by
         rw[List.mem_singleton]at hm
         subst hm
         rw[R9.out]at hb
         cases hb
         exact he rfl
        have a14:=YR.obj KR.out (n18 KR.out (by decide))
        have UQ:=YR.obj PY.out (by rw[List.mem_singleton];exact Uz)
        have par:=aq9.out.cG YR (fun b hb cs Bk=>n18 Bk (by decide) hb)
        have row:=ar0.out.other (w':=Vl.setCell ⟨t18,3,none⟩ (G r')) (fun b _ hb=>by
         obtain⟨cs,hb⟩:=hb
         exact YR.block b (aB hb) (n18 hb (by decide)))
        have ci:=C9.out.cG YR (by
         intro b hb
         rw[List.mem_singleton]at hb
         subst hb
         exact⟨ZI,fun cs e fr hb=>by rw[R9.out]at hb;cases hb;exact⟨by decide,by decide,by decide,by decide⟩⟩)
        have r18:(Vl.setCell ⟨t18,3,none⟩ (G r')).heap[t18]?=some (.cells #[.slice cT 1 cS,.slice A' q c',G 4,G r',Zs] 62 (0,0)):=aD R9.out
        have KR:=cf a14;have PY:=cf UQ;have PAR:=cf par;have PH:=cf row;have C9:=cf ci;have R9:=cf r18
        clear YR n18 a14 UQ par row ci r18 z3 fz z18 kM
        generalize Vl.setCell ⟨t18,3,none⟩ (G r')=w9 at KR PY PAR PH C9 R9⊢
        have z4:=vE PY.out
        go_wp2_with fail
        go_loopw[134] (fun i wr=>i=G 0∧wr=w9) (fun _ _=>0)
        case atStart=>exact⟨rfl,rfl⟩
        case round=>
         obtain⟨rfl,rfl⟩:=hrel
         obtain⟨w9,rfl⟩:∃u,u=wr:=⟨_,rfl⟩
         clear z4
         obtain⟨z0,z1,z2,z3,z4⟩:=sf R9.out
         have z14:=bf KR.out
         obtain⟨g6,c6,w6,Xh,qz,l6,h6,Ia,k0,k1,k2,k3,k4,Up⟩:=sl w9 (.slice cT 1 cS) (.slice A' q c') (G 4) (G r') Zs (by simp[Value.oneCell'])
         have z9:=l6.some KR.out
         have x6:=bf z9
         have f6:w6.frozen? ⟨t14,0,none⟩=false:=au z9
         have wm:fe w6 g6 cT cS A' q c' none 0 (eT l) r':=⟨⟨Xh,Ia,k0,k1,k2,k3,k4⟩,(PH.out.low l6).LL,PAR.out.low l6⟩
         have TR:t2≠t14:=by have:=HT.out.2.1;have:=HT.out.1;have:=af5.out;omega
         have HF:=cf (show ak w.heap.size w (w6.setCell ⟨t14,0,none⟩ (.slice (ad g6) 1 c6))∧(w6.setCell ⟨t14,0,none⟩ (.slice (ad g6) 1 c6)).heap[t2]?=some (.cells #[Zs] 40 (0,0))∧∃g' iV cT cS A' c',(w6.setCell ⟨t14,0,none⟩ (.slice (ad g6) 1 c6)).heap[t14]?=some (.cells #[.slice (ad g') 1 iV] 40 (0,0))∧1≤iV∧fe (w6.setCell ⟨t14,0,none⟩ (.slice (ad g6) 1 c6)) g' cT cS A' q c' none 0 (eT l) r'∧∀a,A'=some a→w.heap.size≤a.block from
          ⟨(C9.out.lo.trans (l6.mono C9.out.lo.size)).setCell (by have:=af5.out;have:=HT.out.1;have:=HT.out.2.1;omega) _,(aj TR).trans (l6.some C9.out.f2),g6,c6,cT,cS,A',c',by rw[aD z9];rfl,Up,wm.other (fun b cs e hb he=>aj (by rintro rfl;rw[z9]at hb;cases hb;exact he rfl)),fun a ha=>Nat.le_trans C8.out.lo.size (PH.out.base a ha)⟩)
         clear z9 wm l6 Ia k0 k1 k2 k3 k4 h6 TR
         go_wp2_with(first
          |(at_builtin;refine aO rfl (.tmp 156) (.tmp 158) rfl rfl rfl qz ?_))
         obtain rfl:=HRR.out
         exact⟨.inr ⟨rfl,HF.out⟩,by decide⟩
    ·obtain⟨wr,rfl⟩:∃u,u=wr:=⟨_,rfl⟩
     have y14:=bf Lp
     have y2:=bf h2
     have f2:wr.frozen? ⟨t2,0,none⟩=false:=au h2
     have aH:ak w.heap.size w (wr.setCell ⟨t2,0,none⟩ (.slice (ad g') 1 cr))∧fe (wr.setCell ⟨t2,0,none⟩ (.slice (ad g') 1 cr)) g' cT cS A' n c' none 0 (eT l) (bK l ret):=
      ⟨hL.setCell (by have:=HT.out.2.1;have:=HT.out.1;omega) _,hF.other (fun b cs e hb he=>aj (by rintro rfl;rw[h2]at hb;cases hb;exact he rfl))⟩
     have jz:=cf aH;have H2:=cf h2
     clear aH hL h2 Lp hF
     go_wp2_with fail
     have QC:(wr.setCell ⟨t2,0,none⟩ (.slice (ad g') 1 cr)).cell? ⟨t2,0,none⟩=some (.slice (ad g') 1 cr):=Yc (aD H2.out)
     exact bodyPost_ret (v:=.agg #[.slice (ad g') 1 cr]) (by simp[results,Tryz.results34,go_sem,QC];done) rfl ⟨jz.out.1,g',cr,cT,cS,A',c',rfl,oh,jz.out.2,hFA⟩
end Go.Proofs.YtjkahfmdcpfjjaaGreat
