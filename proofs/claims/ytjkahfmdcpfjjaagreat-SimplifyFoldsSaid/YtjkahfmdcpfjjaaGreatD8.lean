/- The reference: load: values are counted. -/
import Derived.Test.YtjkahfmdcpfjjaaGreatCI
set_option linter.unusedVariables false
namespace Go.Proofs.YtjkahfmdcpfjjaaGreat
open Go.RowKit
section
set_option maxRecDepth 100000
set_option maxHeartbeats 4000000
structure Ge (w:World) (ev:Value) (gr al df nm ob cm om:Nat) (s:St):Prop where
 g:w.heap[gr]?=some (.cells #[ev,G s.next,.map (some al),.map (some df),.map (some nm),.map (some ob),.map (some cm),.map (some om)] 132 (0,0))
 iv:aQ .i64 w al (cc cA s.al)
 iO:aQ .i64 w df (cc aE.val s.df)
 fD:aQ .i64 w nm (cc sa s.nm)
 lC:Empty w ob
 ig:aQ .u16 w cm (cc cA s.cm)
 lB:Empty w om
 mL:[al,df,nm,ob,cm,om].Nodup
theorem Ge.low {w w':World} {ev:Value} {gr al df nm ob cm om:Nat} {s:St} (h:Ge w ev gr al df nm ob cm om s) (hl:ak w.heap.size w w'):Ge w' ev gr al df nm ob cm om s:=
 ⟨hl.some h.g,h.iv.low hl,h.iO.low hl,h.fD.low hl,h.lC.low hl,h.ig.low hl,h.lB.low hl,h.mL⟩
theorem FP (w:World) (ev:Value) (gr al df nm ob cm om:Nat) (s:St) (h:Ge w ev gr al df nm ob cm om s) (h0:0≤s.next) (h1:s.next≤1000000):Calls Tryz.prog 146 #[.pointer (ad gr)] w (fun e w'=>e=.returned (G s.next)∧aY [gr] w w'∧Ge w' ev gr al df nm ob cm om {s with next:=s.next+1}):=by
 have y1:=jw h.g
 have f1:w.frozen? ⟨gr,1,none⟩=false:=au h.g
 have hm:∀{k},(∃es cl,w.heap[k]?=some (.map es cl))→k∉[gr]:=fun hk=>by simp only[List.mem_singleton];exact(bm h.g hk).symm
 have hc:aY [gr] w (w.setCell ⟨gr,1,none⟩ (G (s.next+1))):=aY.setCell _ (by simp) _
 have HF:Hid (aY [gr] w (w.setCell ⟨gr,1,none⟩ (G (s.next+1)))∧Ge (w.setCell ⟨gr,1,none⟩ (G (s.next+1))) ev gr al df nm ob cm om {s with next:=s.next+1}):=
  ⟨hc,by rw[aD h.g];rfl,h.iv.cG hc (hm h.iv.isMap),h.iO.cG hc (hm h.iO.isMap),h.fD.cG hc (hm h.fD.isMap),h.lC.cG hc (hm h.lC.isMap),h.ig.cG hc (hm h.ig.isMap),h.lB.cG hc (hm h.lB.isMap),h.mL⟩
 clear hc hm h
 go_enter Tryz.func146,Tryz.ntmps146
 go_wp2_with fail
 go_ret
 exact⟨by simp,HF.out⟩
theorem xj (w:World) (ev:Value) (gr al df nm ob cm om:Nat) (s:St) (n v:Int) (h:Ge w ev gr al df nm ob cm om s) (hn:aA s.cm n=some v):Calls Tryz.prog 80 #[.pointer (ad gr),.int .u16 n] w (fun e w'=>e=.returned (G v)∧w'=w):=by
 have y6:=Pw h.g
 have hl:=tq h.ig n
 rw[hn]at hl
 have Sp:(Instr.lookup 128 (.map (some cm)) (.int .u16 n) true).run Tryz.prog w=.ok (.tuple #[G v,.bool true]) w:=hl
 clear hl h
 go_enter Tryz.func80,Tryz.ntmps80
 go_wp2_with fail
 go_ret
 exact⟨rfl,rfl⟩
theorem xk (w:World) (ev:Value) (gr al df nm ob cm om:Nat) (s:St) (n:Int) (h:Ge w ev gr al df nm ob cm om s) (h0:0≤s.next) (h1:s.next≤1000000) (hn:aA s.cm n=none) (hv:aA s.nm s.next=none):Calls Tryz.prog 80 #[.pointer (ad gr),.int .u16 n] w (fun e w'=>e=.returned (G s.next)∧aY [gr,nm,cm] w w'∧Ge w' ev gr al df nm ob cm om {s with next:=s.next+1,cm:=dj s.cm n s.next,nm:=dj s.nm s.next n}):=by
 have y6:=Pw h.g
 have hl:=tq h.ig n
 rw[hn]at hl
 have Sp:(Instr.lookup 128 (.map (some cm)) (.int .u16 n) true).run Tryz.prog w=.ok (.tuple #[G 0,.bool false]) w:=hl
 have kN:=FP w ev gr al df nm ob cm om s h h0 h1
 clear hl h
 go_enter Tryz.func80,Tryz.ntmps80
 go_upto_region 4 with(first
  |(go_at_call 146;(with_reducible refine kN.mono ?_);rintro e w1 ⟨rfl,c1,g1⟩))
 have z6:=Pw g1.g
 have z4:=vE g1.g
 clear Sp kN y6
 refine wp_region_noPanic ?_
 refine wp_region_held_drew (S:=fun w'=>w'.cell? ⟨gr,6,none⟩=some (.map (some cm))∧w'.cell? ⟨gr,4,none⟩=some (.map (some nm))) (by kernel_rfl) ⟨z6,z4⟩ (fun af=>?_)
 have cD:aY [gr,nm,cm] w w1.drew:=(c1.more (by simp)).drew
 have gD:Ge w1.drew ev gr al df nm ob cm om {s with next:=s.next+1}:=g1.low ((ak.refl _ _).drew)
 clear z6 z4 c1 g1
 generalize w1.drew=wd at af cD gD⊢
 have rQ:=gD.mL
 have xc:cm≠nm∧cm≠al∧cm≠df∧cm≠ob∧cm≠om∧nm≠al∧nm≠df∧nm≠ob∧nm≠om:=by
  simp only[List.nodup_cons,List.mem_cons,List.not_mem_nil,or_false,not_or]at rQ
  obtain⟨⟨a1,a2,a3,a4,a5⟩,⟨b1,b2,b3,b4⟩,⟨c1,c2,c3⟩,⟨d1,d2⟩,e1,_⟩:=rQ
  exact⟨Ne.symm c2,Ne.symm a4,Ne.symm b3,Ne.symm d1,e1,Ne.symm a2,Ne.symm b1,c1,c3⟩
 obtain⟨m1,m2,m3,m4,m5,n1,n2,n3,n4⟩:=xc
 have uW:gr≠cm:=bm gD.g gD.ig.isMap
 have NX:gr≠nm:=bm gD.g gD.fD.isMap
 have CN:fp (cc cA s.cm) n=none:=by rw[ew,hn];rfl
 have Cu:fp (cc sa s.nm) s.next=none:=by rw[ew,hv];rfl
 obtain⟨o1,P4,sR,DU⟩:=lW (z:=G 0) Tryz.underlying128 Tryz.underlying27 (fun u=>by kernel_rfl) gD.ig CN
 have c1:aY [cm] wd (Go.ChangeMaps.setBlock wd cm o1):=aY.setBlock _ (by simp) _
 obtain⟨w2,Qf⟩:∃u,u=Go.ChangeMaps.setBlock wd cm o1:=⟨_,rfl⟩
 rw[←Qf]at sR DU c1
 obtain⟨o2,DT,JM⟩:=iU (t:=128) DU (G s.next)
 have c2:aY [cm] wd (Go.ChangeMaps.setBlock w2 cm o2):=c1.trans (aY.setBlock _ (by simp) _)
 obtain⟨w3,R1⟩:∃u,u=Go.ChangeMaps.setBlock w2 cm o2:=⟨_,rfl⟩
 rw[←R1]at DT JM c2
 have bh:aQ .i64 w3 nm (cc sa s.nm):=gD.fD.cG c2 (by simp only[List.mem_singleton];exact Ne.symm m1)
 obtain⟨o3,Y3,Bi,Qp⟩:=lW (z:=.int .u16 0) Tryz.underlying126 Tryz.underlying3 (fun u=>by kernel_rfl) bh Cu
 have c3:aY [nm,cm] wd (Go.ChangeMaps.setBlock w3 nm o3):=(c2.more (by simp)).trans (aY.setBlock _ (by simp) _)
 have Xk:aQ .u16 (Go.ChangeMaps.setBlock w3 nm o3) cm (cc cA s.cm++[(n,G s.next)]):=JM.aW (bM o3 m1)
 obtain⟨w4,TM⟩:∃u,u=Go.ChangeMaps.setBlock w3 nm o3:=⟨_,rfl⟩
 rw[←TM]at Bi Qp c3 Xk
 obtain⟨o4,Qo,Hs⟩:=iU (t:=126) Qp (.int .u16 n)
 have c4:aY [nm,cm] wd (Go.ChangeMaps.setBlock w4 nm o4):=c3.trans (aY.setBlock _ (by simp) _)
 have Xj:aQ .u16 (Go.ChangeMaps.setBlock w4 nm o4) cm (cc cA s.cm++[(n,G s.next)]):=Xk.aW (bM o4 m1)
 obtain⟨w5,ZC⟩:∃u,u=Go.ChangeMaps.setBlock w4 nm o4:=⟨_,rfl⟩
 rw[←ZC]at Qo Hs c4 Xj
 have mc:=c1.obj gD.g (by simp only[List.mem_singleton];exact uW)
 have sU:=c2.obj gD.g (by simp only[List.mem_singleton];exact uW)
 have Qu:=c3.obj gD.g (by simp only[List.mem_cons,List.not_mem_nil,or_false,not_or];exact⟨NX,uW⟩)
 have NZ:=c4.obj gD.g (by simp only[List.mem_cons,List.not_mem_nil,or_false,not_or];exact⟨NX,uW⟩)
 have RF:∀{k},cm≠k→nm≠k→k∉[nm,cm]:=fun h1 h2=>by simp only[List.mem_cons,List.not_mem_nil,or_false,not_or];exact⟨Ne.symm h2,Ne.symm h1⟩
 have HF:Hid (aY [gr,nm,cm] w w5∧Ge w5 ev gr al df nm ob cm om {s with next:=s.next+1,cm:=dj s.cm n s.next,nm:=dj s.nm s.next n}):=by
  refine⟨cD.trans (c4.more (by simp)),NZ,gD.iv.cG c4 (RF m2 n1),gD.iO.cG c4 (RF m3 n2),?_,gD.lC.cG c4 (RF m4 n3),?_,gD.lB.cG c4 (RF m5 n4),gD.mL⟩
  ·rw[ji hv];exact(nW sa s.nm s.next n)▸Hs
  ·rw[ji hn];exact(nW cA s.cm n s.next)▸Xj
 have jq:w2.cell? ⟨gr,6,none⟩=some (.map (some cm))∧w2.cell? ⟨gr,4,none⟩=some (.map (some nm)):=⟨Yc mc,Yc mc⟩
 have Uv:w3.cell? ⟨gr,6,none⟩=some (.map (some cm))∧w3.cell? ⟨gr,4,none⟩=some (.map (some nm)):=⟨Yc sU,Yc sU⟩
 have Bl:w4.cell? ⟨gr,6,none⟩=some (.map (some cm))∧w4.cell? ⟨gr,4,none⟩=some (.map (some nm)):=⟨Yc Qu,Yc Qu⟩
 have CW:w5.cell? ⟨gr,6,none⟩=some (.map (some cm))∧w5.cell? ⟨gr,4,none⟩=some (.map (some nm)):=⟨Yc NZ,Yc NZ⟩
 clear Qf R1 TM ZC DU Qp JM Hs c1 c2 c3 c4 mc sU Qu NZ cD gD Xk Xj bh rQ hn hv CN Cu m1 m2 m3 m4 m5 n1 n2 n3 n4 uW NX
 refine tk 0 af ?_
 refine tk 1 af ?_
 refine tk 2 af ?_
 refine tk 3 af ?_
 refine tk 4 af ?_
 refine tk 5 af ?_
 refine tk 6 af ?_
 refine tk 7 af ?_
 refine tk 8 af ?_
 refine tk 9 af ?_
 refine tk 10 af ?_
 refine tk 11 af ?_
 refine aG 12 fun KK aI=>?_
 go_simp
 refine aI.out _ _ (by exact jq) (fun af=>?_)
 clear aI KK
 (try simp only[Act.put,bh])
 refine tk 13 af ?_
 refine aG 14 fun KK aI=>?_
 go_simp
 refine aI.out _ _ (by exact Uv) (fun af=>?_)
 clear aI KK
 (try simp only[Act.put,bh])
 refine aG 15 fun KK aI=>?_
 go_simp
 refine aI.out _ _ (by exact Bl) (fun af=>?_)
 clear aI KK
 (try simp only[Act.put,bh])
 refine tk 16 af ?_
 refine aG 17 fun KK aI=>?_
 go_simp
 refine aI.out _ _ (by exact CW) (fun af=>?_)
 clear aI KK
 (try simp only[Act.put,bh])
 refine wpAnyH_done (by kernel_rfl) ?_ _
 refine NoPanic.normal ?_
 (try go_wp2_with fail)
 go_ret
 exact⟨rfl,HF.out⟩
theorem xl {M:Int→Int} (w:World) (ev:Value) (gr al df nm ob cm om:Nat) (s:St) (n:Int) (h:Ge w ev gr al df nm ob cm om s) (hs:cB M s) (h1:s.next≤1000000):Calls Tryz.prog 80 #[.pointer (ad gr),.int .u16 n] w (fun e w'=>∃v,e=.returned v∧(v=G (aK s n).1∧aY [gr,nm,cm] w w'∧Ge w' ev gr al df nm ob cm om (aK s n).2)):=by
 unfold aK
 cases hc:aA s.cm n with
 |some v=>
  refine(xj w ev gr al df nm ob cm om s n v h hc).mono ?_
  rintro e w' ⟨rfl,rfl⟩
  exact⟨_,rfl,rfl,aY.refl _ _,h⟩
 |none=>
  have hx:=hs.nx
  have hv:aA s.nm s.next=none:=by
   cases hx:aA s.nm s.next with
   |none=>rfl
   |some m=>have:=(hs.kw _ _ hx).2.1;omega
  refine(xk w ev gr al df nm ob cm om s n h (by omega) h1 hc hv).mono ?_
  rintro e w' ⟨rfl,h2⟩
  exact⟨_,rfl,rfl,h2⟩
end
section
set_option maxRecDepth 100000
set_option maxHeartbeats 8000000
theorem Kz (w:World) (g cg:Nat) (Pp:Option Addr) (pc:Nat) (A:Option Addr) (n c:Nat) (T:Option Addr) (tc:Nat) (l:List aE) (ret:Int) (h:fe w g Pp pc A n c T tc l ret) (hn:n≤40) (bB:∀o∈l,Lv o):
 Calls Tryz.prog 79 #[.agg #[.slice (ad g) 1 cg]] w (fun e w'=>e=.returned (G (de l))∧ak w.heap.size w w'):=by
 have l1:ak w.heap.size w (w.alloc (.cells #[.slice (ad g) 1 cg] 40)):=F0
 have a1:=ao w (.cells #[.slice (ad g) 1 cg] 40)
 have H:=cf (h.low l1);have dA:=cf bB
 clear h bB
 go_enter Tryz.func79,Tryz.ntmps79
 go_upto_region 1 with fail
 obtain⟨t1,eu⟩:∃t,t=w.heap.size:=⟨_,rfl⟩
 rw[←eu]at a1⊢
 clear eu
 generalize w.alloc (.cells #[.slice (ad g) 1 cg] 40)=w1 at l1 a1 H⊢
 have y1:=bf a1
 have L1:=cf l1
 clear l1 a1
 go_upto_region 3 with fail
 go_loopw[13,3] (fun i a wr=>(i=G 0∧a=G 0∧wr=w1)∨(i=G 1∧a=G (de l)∧ak w.heap.size w wr)) (fun i _ _=>1-(intOf i).toNat)
 case atStart=>exact .inl ⟨rfl,rfl,rfl⟩
 case round=>
  rcases hrel with⟨rfl,rfl,rfl⟩|⟨rfl,rfl,hl⟩
  ·obtain⟨w1,rfl⟩:∃u,u=wr:=⟨_,rfl⟩
   obtain⟨kz,r0,r1,r2,r3,r4,r5⟩:=H.out.row
   obtain⟨gp,cp,rfl,KV,pJ,rm⟩:=H.out.par
   have p0:=mV r0 r1 r2 r3 r4 r5
   have l2:ak w1.heap.size w1 (w1.alloc (.cells #[.slice (ad gp) 1 pc,.slice A n c,G 4,G ret,.slice T 0 tc] 62)):=F0
   have a2:=ao w1 (.cells #[.slice (ad gp) 1 pc,.slice A n c,G 4,G ret,.slice T 0 tc] 62)
   have L2:=cf (L1.out.trans (l2.mono L1.out.size));have H2:=cf (H.out.low l2)
   have q0:=(Yc (j:=0) (l2.some pJ)).trans rm
   clear r0 r1 r2 r3 r4 r5 pJ rm H L1
   go_upto_region 5 with fail
   clear p0 y1 l2
   obtain⟨t5,gh⟩:∃t,t=w1.heap.size:=⟨_,rfl⟩
   rw[←gh]at a2⊢
   clear gh
   generalize w1.alloc (.cells #[.slice (ad gp) 1 pc,.slice A n c,G 4,G ret,.slice T 0 tc] 62)=w2 at a2 L2 H2 q0⊢
   obtain⟨y0,y1⟩:=gV a2
   clear a2
   go_upto_region 6 with fail
   go_loopw[20,3] (fun i a wr=>((i=G 0∧a=G 0)∨(i=G 1∧a=G 1))∧wr=w2) (fun i _ _=>1-(intOf i).toNat)
   case atStart=>exact⟨.inl ⟨rfl,rfl⟩,rfl⟩
   case round=>
    obtain⟨⟨rfl,rfl⟩|⟨rfl,rfl⟩,rfl⟩:=hrel
    ·go_wp2_with fail
     exact⟨by simp,by decide⟩
    ·obtain⟨w2,rfl⟩:∃u,u=wr:=⟨_,rfl⟩
     go_upto_region 11 with fail
     go_loopw[32,3] (fun i a wx=>∃q:Nat,i=G q∧q≤n∧a=G (de (l.take q))∧ak w2.heap.size w2 wx) (fun i _ _=>n-(intOf i).toNat)
     case atStart=>exact⟨0,rfl,by omega,rfl,ak.refl _ _⟩
     case round=>
      obtain⟨wv,rfl⟩:∃u,u=wr:=⟨_,rfl⟩
      obtain⟨q,rfl,hq,rfl,hL⟩:=hrel
      have hv:=H2.out.low hL
      clear q0 y0 y1
      by_cases bw:q<n
      ·skip
       have bN:(q:Int)<(n:Int):=by omega
       have nu:(0:Int)≤(q:Int):=by omega
       have mI:(q:Int)≤40:=by omega
       obtain⟨o,ho⟩:∃o,l[q]?=some o:=⟨_,List.getElem?_eq_getElem (by have:=hv.ops.1;omega)⟩
       obtain⟨ga,cs,rfl,qD,hg,k0,k1,k2,k3,k4,k5⟩:=hv.ops.2 q o ho
       have c0:=iw hg k0 k1 k2 k3 k4 k5
       have bB:=dA.out o (List.mem_of_getElem? ho)
       have sR:=bB.2.1;have DT:=bB.2.2
       have jX:=sc ho
       have dS:=ey (l.take q)
       have Bk:=dH (l:=l.take q) (fun o ho=>dA.out o (List.mem_of_mem_take ho))
       have hw:IntKind.i64.wrap (o.res+1)=o.res+1:=IntWalk.i64_in _ (by omega)
       have l9:ak wv.heap.size wv (wv.alloc (OC o)):=F0
       have a9:=ao wv (OC o)
       have L9:=cf (hL.trans (l9.mono hL.size))
       generalize de (l.take q)=m at jX dS Bk⊢
       clear hv hg k0 k1 k2 k3 k4 k5 bB ho hL l9
       go_upto_region 13 with fail
       clear c0
       generalize wv.heap.size=t9 at a9⊢
       generalize wv.alloc (OC o)=wa at a9 L9⊢
       have x1:=jw a9
       clear a9
       go_wp2_with fail
       refine⟨⟨q+1,rfl,bw,?_,L9.out⟩,by show n-((q:Int)+1).toNat<n-((q:Int)).toNat;omega⟩
       rw[jX]
       rfl
      ·have bN:¬(q:Int)<(n:Int):=by omega
       have hq:l.take q=l:=List.take_of_length_le (by have:=hv.ops.1;omega)
       rw[hq]
       have HL:=cf hL
       clear hv hq hL
       go_wp2_with fail
       exact⟨.inr ⟨rfl,rfl,L2.out.trans (HL.out.mono L2.out.size)⟩,by decide⟩
  ·go_wp2_with fail
   go_ret
   exact⟨rfl,hl⟩
end
end Go.Proofs.YtjkahfmdcpfjjaaGreat
