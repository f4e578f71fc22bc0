/- The reference: Equal. -/
import Derived.Test.YtjkahfmdcpfjjaaGreatCJ
set_option linter.unusedVariables false
namespace Go.Proofs.YtjkahfmdcpfjjaaGreat
open Go.RowKit
section
set_option maxRecDepth 100000
set_option maxHeartbeats 8000000
theorem KE (w:World) (g cg:Nat) (Pp:Option Addr) (pc:Nat) (A:Option Addr) (n c:Nat) (T:Option Addr) (tc:Nat) (l:List aE) (ret:Int) (h:fe w g Pp pc A n c T tc l ret) (hn:n≤40) (bB:kC l ret) (jL:pD l) (Qv:1≤cg):
 Calls Tryz.prog 25 #[.agg #[.slice (ad g) 1 cg]] w (fun e w'=>ak w.heap.size w w'∧∃g' iV cT cS A' c',e=.returned (.agg #[.slice (ad g') 1 iV])∧1≤iV∧fe w' g' cT cS A' n c' none 0 l ret):=by
 have NI:∀u:World,(Instr.makeSlice 105 (G 1) (G 1)).run Tryz.prog u=.ok (.slice (ad (u.heap.size)) 1 1) (u.alloc (.cells #[.bool false] 4)):=fun u=>by kernel_rfl
 obtain⟨S,hS⟩:∃S,w.heap.size=S:=⟨_,rfl⟩
 obtain⟨a1,s1,u1⟩:=av (.cells #[.slice (ad g) 1 cg] 40) hS
 obtain⟨a2,s2,u2⟩:=av (.cells #[Zs] 40) s1
 have b1:=u2 _ _ a1
 have l2:ak w.heap.size w ((w.alloc (.cells #[.slice (ad g) 1 cg] 40)).alloc (.cells #[Zs] 40)):=(F0).alloc (by simp) _
 have H:=cf (h.low l2);have dA:=cf bB;have HC:=cf jL
 clear h bB jL a1 u1 u2 s1
 go_enter Tryz.func25,Tryz.ntmps25
 go_upto_region 1 with fail
 have iW:=cf hS
 obtain⟨t2,nU⟩:∃t,t=S+1:=⟨_,rfl⟩
 rw[←nU]at a2 s2⊢
 have HT:=cf nU
 rw[hS]at l2
 clear nU hS s2
 generalize(w.alloc (.cells #[.slice (ad g) 1 cg] 40)).alloc (.cells #[Zs] 40)=w1 at a2 b1 l2 H⊢
 have x1:=bf b1
 have L1:=cf l2;have B1:=cf b1;have A2:=cf a2
 have Hu:=xK w1 g cg Pp pc A n c T tc l ret H.out hn dA.out Qv
 clear l2 b1 a2
 go_upto_region 2 with(first
  |(go_at_call 28;refine Hu.mono ?_;rintro e w2 ⟨rfl,l2⟩))
 have x2:=bf (l2.some B1.out)
 have dX:=fM w2 g cg Pp pc A n c T tc l ret (H.out.low l2) hn dA.out.ok
 have hb:¬(100000:Int)<de l:=by have:=dH dA.out.ok;omega
 have L2:=cf l2
 clear x1 Hu l2
 go_upto_region 4 with(first
  |(go_at_call 55;refine dX.mono ?_;rintro e w3 ⟨rfl,l3⟩))
 have L3:=cf (L2.out.trans (l3.mono L2.out.size))
 clear x2 dX hb l3
 have ld:ak w3.heap.size w3 w3.drew:=(ak.refl _ _).drew
 have S9:Hid (∀w',ak w3.drew.heap.size w3.drew w'→w'.cell? ⟨S,0,none⟩=some (.slice (ad g) 1 cg)):=cf fun w' hl=>Yc ((ld.trans (hl.mono ld.size)).some (L3.out.some B1.out))
 have lH:=bf (ld.some (L3.out.some B1.out))
 have je:=cf (L3.out.trans (ld.mono L3.out.size))
 clear ld
 refine wp_region_noPanic ?_
 refine wp_region_held_drew (S:=fun w'=>w'.cell? ⟨S,0,none⟩=some (.slice (ad g) 1 cg)) (by kernel_rfl) (by exact(by exact lH)) (fun af=>?_)
 generalize w3.drew=wd at af lH S9 je⊢
 refine tk 0 af ?_
 refine tk 1 af ?_
 refine tk 2 af ?_
 refine tk 3 af ?_
 refine aG 4 fun KK aI=>?_
 go_simp
 have l4:ak wd.heap.size wd (wd.alloc (.cells #[.bool false] 4)):=F0
 have a4:=ao wd (.cells #[.bool false] 4)
 have CG:=Jc (wd.alloc (.cells #[.bool false] 4)) g cg Pp pc A n c T tc l ret ((H.out.low je.out).low l4) wd.heap.size a4
 have Bl:=S9.out _ l4
 have L4:=cf l4
 clear l4 a4
 refine aI.out _ _ (by exact Bl) (fun af=>?_)
 clear aI KK
 (try simp only[Act.put,bh])
 refine aG 5 fun KK aI=>?_
 refine aR rfl 66 #[.agg #[.slice (ad g) 1 cg],G 0,.slice (ad (wd.heap.size)) 1 1,Zs] (by go_simp) (fun v w'=>ak wd.heap.size wd w'∧∃A c,v=.slice A 1 c∧j9 w' A 1 c [0]) (CG.mono (by rintro e w' ⟨hl,A,c,rfl,ho⟩;exact⟨_,rfl,L4.out.trans hl,A,c,rfl,ho.Ek⟩)) ?_
 rintro v w5 ⟨l5,OA,oc,rfl,hO⟩
 have L5:=cf l5;have HO:=cf hO
 clear l5 hO CG
 refine aI.out _ _ (by exact(S9.out _ L5.out)) (fun af=>?_)
 clear aI KK
 (try simp only[Act.put,bh])
 refine tk 6 af ?_
 refine wpAnyH_done (by kernel_rfl) ?_ _
 refine NoPanic.normal ?_
 have ld:ak w5.heap.size w5 w5.drew:=(ak.refl _ _).drew
 have HL5:=cf (je.out.trans (L5.out.mono je.out.size))
 have HXe:Hid (∀w',ak w5.drew.heap.size w5.drew w'→w'.cell? ⟨S,0,none⟩=some (.slice (ad g) 1 cg)):=cf fun w' hl=>Yc ((ld.trans (hl.mono ld.size)).some (HL5.out.some B1.out))
 have lH:=bf (ld.some (HL5.out.some B1.out))
 have U2:=cf (HL5.out.trans (ld.mono HL5.out.size))
 have YL:=cf (HO.out.low ld)
 have T2e:=cf (ld.some (HL5.out.some A2.out))
 clear ld
 go_upto_region 5 with fail
 refine wp_region_noPanic ?_
 refine wp_region_held_drew (S:=fun w'=>w'.cell? ⟨S,0,none⟩=some (.slice (ad g) 1 cg)) (by kernel_rfl) (by exact(by exact lH)) (fun af=>?_)
 generalize w5.drew=we at af lH HXe U2 YL T2e⊢
 refine tk 0 af ?_
 refine tk 1 af ?_
 refine tk 2 af ?_
 refine tk 3 af ?_
 refine aG 4 fun KK aI=>?_
 have rP:=zF we g cg Pp pc A n c T tc l ret (H.out.low U2.out) hn dA.out.ok HC.out oc OA YL.out
 refine aR rfl 68 #[.agg #[.slice (ad g) 1 cg],.slice OA 1 oc] (by go_simp) (fun v w'=>ak we.heap.size we w'∧∃V,v=.slice (ad V) (fl l) (fl l)∧py w' V (fl l)) (rP.mono (by rintro e w' ⟨hl,V,rfl,hv⟩;exact⟨_,rfl,hl,V,rfl,hv⟩)) ?_
 rintro v w6 ⟨l6,V,rfl,hV⟩
 have qE:=Js w6 g cg Pp pc A n c T tc l ret ((H.out.low U2.out).low l6) hn dA.out HC.out oc OA (YL.out.low l6) V (fl l) hV rfl (by have:=dH dA.out.ok;rw[HC.out.count]at this;omega)
 have L6:=cf l6
 clear l6 hV rP
 refine aI.out _ _ (by exact(HXe.out _ L6.out)) (fun af=>?_)
 clear aI KK
 (try simp only[Act.put,bh])
 refine aG 5 fun KK aI=>?_
 refine aR rfl 67 #[.agg #[.slice (ad g) 1 cg],.slice OA 1 oc,.slice (ad V) (fl l) (fl l)] (by go_simp) (fun v w'=>ak we.heap.size we w'∧∃g' iV cT cS A' c',v=.agg #[.slice (ad g') 1 iV]∧1≤iV∧fe w' g' cT cS A' n c' none 0 l ret) (qE.mono (by rintro e w' ⟨hl,g',iV,cT,cS,A',c',rfl,h1,hf⟩;exact⟨_,rfl,L6.out.trans (hl.mono L6.out.size),g',iV,cT,cS,A',c',rfl,h1,hf⟩)) ?_
 rintro v w7 ⟨l7,g',iV,cT,cS,A',c',rfl,Oc,hF⟩
 have qG:=HXe.out _ l7
 have t7:=l7.some T2e.out
 have L7:=cf l7;have Tj:=cf hF
 clear l7 hF qE
 refine aI.out _ _ (by exact qG) (fun af=>?_)
 clear aI KK
 (try simp only[Act.put,bh])
 refine aG 6 fun KK aI=>?_
 have f7:w7.frozen? ⟨t2,0,none⟩=false:=au t7
 have c7:=bf t7
 go_simp
 have Ai:(w7.setCell ⟨t2,0,none⟩ (.slice (ad g') 1 iV)).cell? ⟨S,0,none⟩=some (.slice (ad g) 1 cg):=(World.cell?_of_block (a:=⟨S,0,none⟩) (aj (show S≠t2 by have:=HT.out;omega))).trans qG
 refine aI.out _ _ (by exact Ai) (fun af=>?_)
 clear aI KK
 (try simp only[Act.put,bh])
 refine wpAnyH_done (by kernel_rfl) ?_ _
 refine NoPanic.normal ?_
 have HF:=cf (show ak w.heap.size w (w7.setCell ⟨t2,0,none⟩ (.slice (ad g') 1 iV))∧fe (w7.setCell ⟨t2,0,none⟩ (.slice (ad g') 1 iV)) g' cT cS A' n c' none 0 l ret from⟨by
  rw[iW.out]
  have h1:=L1.out
  have h2:=U2.out
  have h3:=L7.out
  exact((h1.trans (h2.mono (by have:=h1.size;have:=iW.out;omega))).trans (h3.mono (by have:=h1.size;have:=h2.size;have:=iW.out;omega))).setCell (by have:=HT.out;omega) _,Tj.out.other (by
   intro b cs e hb he
   exact aj (by rintro rfl;rw[t7]at hb;cases hb;exact he rfl))⟩)
 have YT:(w7.setCell ⟨t2,0,none⟩ (.slice (ad g') 1 iV)).heap[t2]?=some (.cells #[.slice (ad g') 1 iV] 40 (0,0)):=by rw[aD t7];rfl
 have y6':=bf YT
 clear YT Ai qG f7 c7
 (try go_wp2_with fail)
 exact bodyPost_ret (v:=.agg #[.slice (ad g') 1 iV]) (by simp[results,Tryz.results25,go_sem,y6'];done) rfl ⟨HF.out.1,g',iV,cT,cS,A',c',rfl,Oc,HF.out.2⟩
end
section
set_option maxRecDepth 100000
set_option maxHeartbeats 8000000
theorem Cq (w:World) (A B:Option Addr) (m c d:Nat) (xs:List Int) (hA:j9 w A m c xs) (hB:j9 w B m d xs) (hm:m≤40):
 Calls Tryz.prog 62 #[.slice A m c,.slice B m d] w (fun e w'=>e=.returned (.bool true)∧ak w.heap.size w w'):=by
 have HA:=cf hA;have HB:=cf hB
 have hlen:=hA.1;have hc:=hA.2.1;have hd:=hB.2.1
 clear hA hB
 go_enter Tryz.func62,Tryz.ntmps62
 go_wp2_with fail
 go_loopw[5] (fun i wr=>∃q:Nat,i=G q∧q≤m∧ak w.heap.size w wr) (fun i _=>m-(intOf i).toNat)
 case atStart=>exact⟨0,rfl,by omega,ak.refl _ _⟩
 case round=>
  obtain⟨q,rfl,hq,hL⟩:=hrel
  obtain⟨wv,rfl⟩:∃u,u=wr:=⟨_,rfl⟩
  by_cases bw:q<m
  ·have bN:(q:Int)<(m:Int):=by omega
   have nu:(0:Int)≤(q:Int):=by omega
   have mI:(q:Int)≤40:=by omega
   obtain⟨x,hx⟩:∃x,xs[q]?=some x:=⟨_,List.getElem?_eq_getElem (by omega)⟩
   obtain⟨ag,Lu,rfl,FN,tx⟩:=(HA.out.low hL).2.2 q x hx
   obtain⟨bg,bcs,rfl,Oh,pq⟩:=(HB.out.low hL).2.2 q x hx
   have c0:wv.cell? ⟨ag,q,none⟩=some (G x):=(Yc FN).trans tx
   have d0:wv.cell? ⟨bg,q,none⟩=some (G x):=(Yc Oh).trans pq
   have HL:=cf hL
   clear FN tx Oh pq hx hL
   go_upto_region 6 with fail
   go_quiet(fail)
   go_wp2_with fail
   exact⟨⟨q+1,by simp,bw,HL.out.drewN nq⟩,by show m-((q:Int)+1).toNat<m-((q:Int)).toNat;omega⟩
  ·have bN:¬(q:Int)<(m:Int):=by omega
   go_wp2_with fail
   go_ret
   exact⟨rfl,hL⟩
theorem Cr (w:World):j9 w none 0 0 []:=⟨rfl,Nat.le_refl _,fun j x hj=>by simp at hj⟩
theorem dT.ints {w:World} {A:Option Addr} {c:Nat} (h:dT w A c):j9 w A 1 c [0]:=by
 obtain⟨g,cs,e,hc,hg,h0⟩:=h
 refine⟨rfl,hc,fun j x hj=>?_⟩
 obtain⟨rfl,rfl⟩:j=0∧x=0:=by
  cases j with
  |zero=>simp at hj;exact⟨rfl,hj.symm⟩
  |succ j=>simp at hj
 exact⟨g,cs,e,hg,h0⟩
theorem EC (w:World) (o:aE):
 Calls Tryz.prog 63 #[OV o,OV o] w (fun e w'=>e=.returned (.bool true)∧ak w.heap.size w w'):=by
 obtain⟨S,hS⟩:∃S,w.heap.size=S:=⟨_,rfl⟩
 obtain⟨a1,s1,u1⟩:=av (OC o) hS
 obtain⟨a2,s2,u2⟩:=av (OC o) s1
 have b1:=u2 _ _ a1
 have l2:ak w.heap.size w ((w.alloc (OC o)).alloc (OC o)):=(F0).alloc (by simp) _
 have uV:=Cq ((w.alloc (OC o)).alloc (OC o)) none none 0 0 0 [] (Cr _) (Cr _) (by omega)
 go_enter Tryz.func63,Tryz.ntmps63
 go_upto_region 1 with fail
 have iW:=cf hS
 obtain⟨t3,lZ⟩:∃t,t=S+1:=⟨_,rfl⟩
 rw[←lZ]at a2⊢
 have L2:=cf l2
 clear a1 u1 u2 s1 s2 hS lZ l2
 generalize(w.alloc (OC o)).alloc (OC o)=w2 at a2 b1 L2 uV⊢
 have x5:=Lt b1
 have y5:=Lt a2
 have A2:=cf a2;have B1:=cf b1
 clear a2 b1
 go_upto_region 2 with(first
  |(go_at_call 62;refine uV.mono ?_;rintro e w3 ⟨rfl,l3⟩))
 clear x5 y5 uV
 have a3:=l3.some A2.out
 have b3:=l3.some B1.out
 have L3:=cf (L2.out.trans (l3.mono L2.out.size))
 obtain⟨x0,x1,x2,x3,x4,x5⟩:=aC b3
 obtain⟨y0,y1,y2,y3,y4,y5⟩:=aC a3
 clear a3 b3 l3
 go_wp2_with fail
 go_ret
 exact⟨rfl,L3.out⟩
theorem Kn (w:World) (g' iV:Nat) (cT:Option Addr) (cS:Nat) (A':Option Addr) (c':Nat) (g cg:Nat) (Pp:Option Addr) (pc:Nat) (A:Option Addr) (n c:Nat) (T:Option Addr) (tc:Nat) (l:List aE) (ret:Int) (h':fe w g' cT cS A' n c' none 0 l ret) (h:fe w g Pp pc A n c T tc l ret) (hn:n≤40):
 Calls Tryz.prog 22 #[.agg #[.slice (ad g') 1 iV],.agg #[.slice (ad g) 1 cg]] w (fun e w'=>e=.returned (.bool true)∧ak w.heap.size w w'):=by
 obtain⟨S,hS⟩:∃S,w.heap.size=S:=⟨_,rfl⟩
 obtain⟨a1,s1,u1⟩:=av (.cells #[.slice (ad g') 1 iV] 40) hS
 obtain⟨a2,s2,u2⟩:=av (.cells #[.slice (ad g) 1 cg] 40) s1
 have b1:=u2 _ _ a1
 have l2:ak w.heap.size w ((w.alloc (.cells #[.slice (ad g') 1 iV] 40)).alloc (.cells #[.slice (ad g) 1 cg] 40)):=(F0).alloc (by simp) _
 have H:=cf (h.low l2);have H':=cf (h'.low l2)
 clear h h' a1 u1 u2 s1
 go_enter Tryz.func22,Tryz.ntmps22
 go_upto_region 1 with fail
 have iW:=cf hS
 obtain⟨t3,lZ⟩:∃t,t=S+1:=⟨_,rfl⟩
 rw[←lZ]at a2⊢
 have L2:=cf l2
 clear hS lZ l2 s2
 generalize(w.alloc (.cells #[.slice (ad g') 1 iV] 40)).alloc (.cells #[.slice (ad g) 1 cg] 40)=w2 at a2 b1 L2 H H'⊢
 have A2:=cf a2;have B1:=cf b1
 have x2:=bf b1
 have x3:=bf a2
 clear a2 b1
 go_upto_region 4 with fail
 clear x2 x3
 go_loopw[5] (fun i wr=>(i=G 0∧wr=w2)∨(i=G 1∧ak w2.heap.size w2 wr)) (fun i _=>1-(intOf i).toNat)
 case atStart=>exact .inl ⟨rfl,rfl⟩
 case round=>
  rcases hrel with⟨rfl,rfl⟩|⟨rfl,hL⟩
  ·obtain⟨w2,rfl⟩:∃u,u=wr:=⟨_,rfl⟩
   have x2:=bf B1.out
   have x3:=bf A2.out
   have h1:=H.out
   obtain⟨kz,r0,r1,r2,r3,r4,r5⟩:=h1.row
   have p0:=mV r0 r1 r2 r3 r4 r5
   obtain⟨YI,m0,m1,m2,m3,m4,m5⟩:=H'.out.row
   have q0:=mV m0 m1 m2 m3 m4 m5
   obtain⟨Z,hZ⟩:∃Z,w2.heap.size=Z:=⟨_,rfl⟩
   obtain⟨a3,s3,u3⟩:=av (.cells #[.slice cT 1 cS,.slice A' n c',G 4,G ret,Zs] 62) hZ
   obtain⟨a4,s4,u4⟩:=av (.cells #[.slice Pp 1 pc,.slice A n c,G 4,G ret,.slice T 0 tc] 62) s3
   have b3:=u4 _ _ a3
   have l4:ak w2.heap.size w2 ((w2.alloc (.cells #[.slice cT 1 cS,.slice A' n c',G 4,G ret,Zs] 62)).alloc (.cells #[.slice Pp 1 pc,.slice A n c,G 4,G ret,.slice T 0 tc] 62)):=(F0).alloc (by simp) _
   have l3:ak w2.heap.size w2 (w2.alloc (.cells #[.slice cT 1 cS,.slice A' n c',G 4,G ret,Zs] 62)):=F0
   have n3:=bf (l3.some A2.out)
   have Ye:=l3.some r0
   have n0:(w2.alloc (.cells #[.slice cT 1 cS,.slice A' n c',G 4,G ret,Zs] 62)).cell? ⟨g,0,none⟩=some (.slice Pp 1 pc):=(Yc Ye).trans r1
   have n1:(w2.alloc (.cells #[.slice cT 1 cS,.slice A' n c',G 4,G ret,Zs] 62)).cell? ⟨g,1,none⟩=some (.slice A n c):=(Yc Ye).trans r2
   have n2:(w2.alloc (.cells #[.slice cT 1 cS,.slice A' n c',G 4,G ret,Zs] 62)).cell? ⟨g,2,none⟩=some (G 4):=(Yc Ye).trans r3
   have n3':(w2.alloc (.cells #[.slice cT 1 cS,.slice A' n c',G 4,G ret,Zs] 62)).cell? ⟨g,3,none⟩=some (G ret):=(Yc Ye).trans r4
   have n4:(w2.alloc (.cells #[.slice cT 1 cS,.slice A' n c',G 4,G ret,Zs] 62)).cell? ⟨g,4,none⟩=some (.slice T 0 tc):=(Yc Ye).trans r5
   clear r0 r1 r2 r3 r4 r5 m0 m1 m2 m3 m4 m5 Ye l3 a3 u3 u4 s3
   go_upto_region 8 with fail
   obtain⟨t7,oJ⟩:∃t,t=Z+1:=⟨_,rfl⟩
   rw[←oJ]at a4⊢
   have HZ:=cf hZ
   clear oJ p0 q0 n0 n1 n2 n3 n3' n4 x2 x3 s4
   rw[hZ]at l4
   clear hZ
   obtain⟨t6,Ql⟩:∃t,t=Z:=⟨_,rfl⟩
   rw[←Ql]at b3 l4⊢
   have L4:=cf (show ak w2.heap.size w2 _ from(by rw[HZ.out,←Ql];exact l4))
   clear Ql l4
   generalize(w2.alloc (.cells #[.slice cT 1 cS,.slice A' n c',G 4,G ret,Zs] 62)).alloc (.cells #[.slice Pp 1 pc,.slice A n c,G 4,G ret,.slice T 0 tc] 62)=w4 at a4 b3 L4⊢
   have A4:=cf a4;have B3:=cf b3
   have v0:=bf b3
   have v1:=bf a4
   have uV:=Cq w4 cT Pp 1 cS pc [0] (H'.out.low L4.out).par.ints (H.out.low L4.out).par.ints (by omega)
   clear a4 b3
   go_upto_region 9 with(first
    |(go_at_call 62;refine uV.mono ?_;rintro e w5 ⟨rfl,l5⟩))
   have b5:=l5.some B3.out
   have a5:=l5.some A4.out
   have v2:w5.cell? ⟨t6,1,none⟩=some (.slice A' n c'):=Yc b5
   have v3:w5.cell? ⟨t6,2,none⟩=some (G 4):=Yc b5
   have v4:w5.cell? ⟨t6,3,none⟩=some (G ret):=Yc b5
   have v5:w5.cell? ⟨t6,4,none⟩=some Zs:=Yc b5
   have v6:w5.cell? ⟨t7,1,none⟩=some (.slice A n c):=Yc a5
   have v7:w5.cell? ⟨t7,2,none⟩=some (G 4):=Yc a5
   have v8:w5.cell? ⟨t7,3,none⟩=some (G ret):=Yc a5
   have v9:w5.cell? ⟨t7,4,none⟩=some (.slice T 0 tc):=Yc a5
   have L5:=cf (L4.out.trans (l5.mono L4.out.size));have A5:=cf a5;have B5:=cf b5
   clear v0 v1 uV l5 a5 b5 A4 B3 L4
   go_upto_region 12 with fail
   clear v2 v3 v4 v5 v6 v7 v8 v9
   go_loopw[9] (fun i wx=>∃q:Nat,i=G q∧q≤n∧ak w5.heap.size w5 wx) (fun i _=>n-(intOf i).toNat)
   case atStart=>exact⟨0,rfl,by omega,ak.refl _ _⟩
   case round=>
    obtain⟨q,rfl,hq,hL⟩:=hrel
    obtain⟨wv,rfl⟩:∃u,u=wr:=⟨_,rfl⟩
    have v0:=jw (hL.some B5.out)
    by_cases bw:q<n
    ·have hv:=(H.out.low L5.out).low hL
     have bN:(q:Int)<(n:Int):=by omega
     have nu:(0:Int)≤(q:Int):=by omega
     have mI:(q:Int)≤40:=by omega
     obtain⟨o,ho⟩:∃o,l[q]?=some o:=⟨_,List.getElem?_eq_getElem (by have:=hv.ops.1;omega)⟩
     obtain⟨ga,cs,rfl,qD,hg,k0,k1,k2,k3,k4,k5⟩:=hv.ops.2 q o ho
     obtain⟨eK,jH,rfl,al7,mw,m0,m1,m2,m3,m4,m5⟩:=((H'.out.low L5.out).low hL).ops.2 q o ho
     have Se:=EC wv.drew o
     have ld:ak wv.heap.size wv wv.drew:=(ak.refl _ wv).drew
     have ly:Hid (∀w',ak wv.drew.heap.size wv.drew w'→(w'.cell? ⟨t6,1,none⟩=some (.slice (ad eK) n c')∧w'.cell? ⟨t7,1,none⟩=some (.slice (ad ga) n c))∧(w'.cell? ⟨eK,q*6,none⟩=some (G o.code)∧w'.cell? ⟨eK,q*6+1,none⟩=some (G o.res)∧w'.cell? ⟨eK,q*6+2,none⟩=some (G o.a)∧w'.cell? ⟨eK,q*6+3,none⟩=some (G o.b)∧w'.cell? ⟨eK,q*6+4,none⟩=some (.int .u16 o.n)∧w'.cell? ⟨eK,q*6+5,none⟩=some Zs)∧w'.cell? ⟨ga,q*6,none⟩=some (G o.code)∧w'.cell? ⟨ga,q*6+1,none⟩=some (G o.res)∧w'.cell? ⟨ga,q*6+2,none⟩=some (G o.a)∧w'.cell? ⟨ga,q*6+3,none⟩=some (G o.b)∧w'.cell? ⟨ga,q*6+4,none⟩=some (.int .u16 o.n)∧w'.cell? ⟨ga,q*6+5,none⟩=some Zs):=cf fun w' hl=>by
      have gS:=ld.trans (hl.mono ld.size)
      have e1:=gS.some hg
      have e2:=gS.some mw
      exact⟨⟨Yc (gS.some (hL.some B5.out)),Yc (gS.some (hL.some A5.out))⟩,⟨(Yc e2).trans m0,(Yc e2).trans m1,(Yc e2).trans m2,(Yc e2).trans m3,(Yc e2).trans m4,(Yc e2).trans m5⟩,(Yc e1).trans k0,(Yc e1).trans k1,(Yc e1).trans k2,(Yc e1).trans k3,(Yc e1).trans k4,(Yc e1).trans k5⟩
     have lH:=ly.out wv.drew (ak.refl _ _)
     have je:=cf (hL.trans (ld.mono hL.size))
     clear hv hg mw k0 k1 k2 k3 k4 k5 m0 m1 m2 m3 m4 m5 ho hL ld
     go_upto_region 14 with fail
     clear v0
     refine wp_region_noPanic ?_
     refine wp_region_held_drew (S:=fun w'=>(w'.cell? ⟨t6,1,none⟩=some (.slice (ad eK) n c')∧w'.cell? ⟨t7,1,none⟩=some (.slice (ad ga) n c))∧(w'.cell? ⟨eK,q*6,none⟩=some (G o.code)∧w'.cell? ⟨eK,q*6+1,none⟩=some (G o.res)∧w'.cell? ⟨eK,q*6+2,none⟩=some (G o.a)∧w'.cell? ⟨eK,q*6+3,none⟩=some (G o.b)∧w'.cell? ⟨eK,q*6+4,none⟩=some (.int .u16 o.n)∧w'.cell? ⟨eK,q*6+5,none⟩=some Zs)∧w'.cell? ⟨ga,q*6,none⟩=some (G o.code)∧w'.cell? ⟨ga,q*6+1,none⟩=some (G o.res)∧w'.cell? ⟨ga,q*6+2,none⟩=some (G o.a)∧w'.cell? ⟨ga,q*6+3,none⟩=some (G o.b)∧w'.cell? ⟨ga,q*6+4,none⟩=some (.int .u16 o.n)∧w'.cell? ⟨ga,q*6+5,none⟩=some Zs) (by kernel_rfl) (by exact(by exact lH)) (fun af=>?_)
     generalize wv.drew=wd at af lH ly je Se⊢
     refine tk 0 af ?_
     refine tk 1 af ?_
     refine tk 2 af ?_
     refine tk 3 af ?_
     refine tk 4 af ?_
     refine tk 5 af ?_
     refine tk 6 af ?_
     refine tk 7 af ?_
     refine tk 8 af ?_
     refine tk 9 af ?_
     refine aG 10 fun KK aI=>?_
     refine aR rfl 63 #[OV o,OV o] (by go_simp) (fun v w'=>v=.bool true∧ak wd.heap.size wd w') (Se.mono (by rintro e w' ⟨rfl,he⟩;exact⟨_,rfl,rfl,he⟩)) ?_
     rintro v w6 ⟨rfl,l6⟩
     have L6:=cf l6
     clear l6
     refine aI.out _ _ (by exact(ly.out _ L6.out)) (fun af=>?_)
     clear aI KK
     (try simp only[Act.put,bh])
     refine tk 11 af ?_
     refine wpAnyH_done (by kernel_rfl) ?_ _
     refine NoPanic.normal ?_
     go_wp2_with fail
     exact⟨⟨q+1,by simp,bw,je.out.trans (L6.out.mono je.out.size)⟩,by show n-((q:Int)+1).toNat<n-((q:Int)).toNat;omega⟩
    ·have bN:¬(q:Int)<(n:Int):=by omega
     have v5:=vE (hL.some B5.out)
     have HL:=cf (L5.out.trans (hL.mono L5.out.size))
     clear hL
     go_upto_region 18 with fail
     go_loopw[11] (fun i wx=>i=G 0∧wx=wv) (fun _ _=>0)
     case atStart=>exact⟨rfl,rfl⟩
     case round=>
      obtain⟨rfl,rfl⟩:=hrel
      go_wp2_with fail
      exact⟨.inr ⟨rfl,HL.out⟩,by decide⟩
  ·have x2:wr.cell? ⟨S,0,none⟩=some (.slice (ad g') 1 iV):=Yc (hL.some B1.out)
   have HL:=cf (L2.out.trans (hL.mono L2.out.size))
   clear hL
   go_wp2_with fail
   go_ret
   exact⟨rfl,HL.out⟩
end
end Go.Proofs.YtjkahfmdcpfjjaaGreat
