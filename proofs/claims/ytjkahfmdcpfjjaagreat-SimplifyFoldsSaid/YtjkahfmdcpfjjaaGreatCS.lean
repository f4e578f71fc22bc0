/- The reference: the machine: stop, pay. -/
import Derived.Test.YtjkahfmdcpfjjaaGreatCP
set_option linter.unusedVariables false
namespace Go.Proofs.YtjkahfmdcpfjjaaGreat
open Go.RowKit
section
set_option maxRecDepth 100000
set_option maxHeartbeats 8000000
theorem pD.VC {l:List aE} (hc:pD l) {o:aE} (ho:o∈l):o.res<de l:=by
 have h1:=fY l 1 o ho
 unfold de
 omega
theorem tS (w:World) (g cg:Nat) (ret:Int) (T:Option Addr) (tc:Nat):
 Calls Tryz.prog 60 #[.agg #[.slice (ad g) 1 cg],.agg #[G 4,G ret,.slice T 0 tc]] w (fun e w'=>e=.returned (.bool true)∧ak w.heap.size w w'):=by
 obtain⟨S,hS⟩:∃S,w.heap.size=S:=⟨_,rfl⟩
 obtain⟨a1,s1,u1⟩:=av (.cells #[.slice (ad g) 1 cg] 40) hS
 obtain⟨a2,s2,u2⟩:=av (.cells #[G 4,G ret,.slice T 0 tc] 60) s1
 have l2:ak w.heap.size w ((w.alloc (.cells #[.slice (ad g) 1 cg] 40)).alloc (.cells #[G 4,G ret,.slice T 0 tc] 60)):=(F0).alloc (by simp) _
 have x0:=Yc (j:=0) a2
 have L2:=cf l2
 clear a1 u1 u2 l2
 go_enter Tryz.func60,Tryz.ntmps60
 go_wp2_with fail
 go_ret
 exact⟨rfl,L2.out⟩
theorem EZ (w:World) (g cg:Nat) (Pp:Option Addr) (pc:Nat) (A:Option Addr) (n c:Nat) (T:Option Addr) (tc:Nat) (l:List aE) (ret:Int) (h:fe w g Pp pc A n c T tc l ret) (hn:n≤40) (bB:kC l ret) (jL:pD l) (hh:ij l) (lG:∀o∈l,vQ l (l.flatMap bl++[ret]) o) (N:Nat) (hN:de l=(N:Int)) (Qv:1≤cg):
 Calls Tryz.prog 19 #[.agg #[.slice (ad g) 1 cg]] w (fun e w'=>e=.returned (.bool true)∧ak w.heap.size w w'):=by
 have bw:∀v∈l.flatMap bl++[ret],0≤v∧v<(N:Int):=by
  rw[←hN,jL.count]
  intro v hv
  rcases List.mem_append.1 hv with hv|hv
  ·obtain⟨o,ho,hvo⟩:=List.mem_flatMap.1 hv
   obtain⟨k,hk,hko⟩:=List.mem_iff_getElem.1 ho
   have h1:=bB.use k o (by rw[List.getElem?_eq_getElem hk,hko]) v hvo
   exact⟨h1.ko,h1.lt jL⟩
  ·rw[List.mem_singleton.1 hv]
   exact⟨bB.ret.ko,bB.ret.lt jL⟩
 have Lm:N≤101:=by have:=dH bB.ok;omega
 obtain⟨S,hS⟩:∃S,w.heap.size=S:=⟨_,rfl⟩
 obtain⟨a1,s1,u1⟩:=av (.cells #[.slice (ad g) 1 cg] 40) hS
 have l1:ak w.heap.size w (w.alloc (.cells #[.slice (ad g) 1 cg] 40)):=F0
 have H:=cf (h.low l1);have dA:=cf bB;have HC:=cf jL;have HH:=cf hh;have Tg:=cf lG;have HN:=cf hN;have HLT:=cf bw
 have bF:=cf (show decide ((100000:Int)<de l)=false from by have:=dH bB.ok;exact decide_eq_false (by omega))
 clear h bB jL hh lG hN bw u1 s1
 go_enter Tryz.func19,Tryz.ntmps19
 go_upto_region 1 with fail
 have iW:=cf hS
 rw[hS]at l1
 clear hS
 generalize w.alloc (.cells #[.slice (ad g) 1 cg] 40)=w1 at a1 l1 H⊢
 have x1:=bf a1
 have L1:=cf l1;have A1:=cf a1
 have Hu:=xK w1 g cg Pp pc A n c T tc l ret H.out hn dA.out Qv
 clear l1 a1
 go_upto_region 2 with(first
  |(go_at_call 28;refine Hu.mono ?_;rintro e w2 ⟨rfl,l2⟩))
 have L2:=cf l2
 clear x1 Hu l2
 have ld:ak w2.heap.size w2 w2.drew:=(ak.refl _ _).drew
 have S9:Hid (∀w',ak w2.drew.heap.size w2.drew w'→w'.cell? ⟨S,0,none⟩=some (.slice (ad g) 1 cg)):=cf fun w' hl=>Yc ((ld.trans (hl.mono ld.size)).some (L2.out.some A1.out))
 have lH:=bf (ld.some (L2.out.some A1.out))
 have je:=cf (L2.out.trans (ld.mono L2.out.size))
 clear ld
 refine wp_region_noPanic ?_
 refine wp_region_held_drew (S:=fun w'=>w'.cell? ⟨S,0,none⟩=some (.slice (ad g) 1 cg)) (by kernel_rfl) (by exact(by exact lH)) (fun af=>?_)
 generalize w2.drew=wd at af lH S9 je⊢
 refine tk 0 af ?_
 refine tk 1 af ?_
 refine tk 2 af ?_
 refine tk 3 af ?_
 refine aG 4 fun KK aI=>?_
 have dX:=fM wd g cg Pp pc A n c T tc l ret (H.out.low je.out) hn dA.out.ok
 refine cb (by kernel_rfl) 55 #[.agg #[.slice (ad g) 1 cg]] (by go_simp) (fun v w'=>v=G (de l)∧ak wd.heap.size wd w') (dX.mono (by rintro e w' ⟨rfl,he⟩;exact⟨_,rfl,rfl,he⟩)) ?_
 rintro v w3 ⟨rfl,l3⟩
 have Uv:=S9.out _ l3
 have L3:=cf l3
 clear l3 dX
 refine aI.out _ _ (by exact Uv) (fun af=>?_)
 clear aI KK
 (try simp only[Act.put,bh])
 refine tk 5 af ?_
 rw[bF.out]
 refine tk 6 af ?_
 refine tk 7 af ?_
 refine tk 8 af ?_
 refine tk 10 af ?_
 refine aG 9 fun KK aI=>?_
 have FH:=KE w3 g cg Pp pc A n c T tc l ret ((H.out.low je.out).low L3.out) hn dA.out HC.out Qv
 refine cb (by kernel_rfl) 25 #[.agg #[.slice (ad g) 1 cg]] (by go_simp) (fun v w'=>ak w3.heap.size w3 w'∧∃g' iV cT cS A' c',v=.agg #[.slice (ad g') 1 iV]∧1≤iV∧fe w' g' cT cS A' n c' none 0 l ret) (FH.mono (by rintro e w' ⟨hl,g',iV,cT,cS,A',c',rfl,h1,hf⟩;exact⟨_,rfl,hl,g',iV,cT,cS,A',c',rfl,h1,hf⟩)) ?_
 rintro v w4 ⟨l4,g',iV,cT,cS,A',c',rfl,Oc,hF⟩
 have Bl:=S9.out _ (L3.out.trans (l4.mono L3.out.size))
 have hq:=Kn w4 g' iV cT cS A' c' g cg Pp pc A n c T tc l ret hF (((H.out.low je.out).low L3.out).low l4) hn
 have L4:=cf (L3.out.trans (l4.mono L3.out.size))
 clear l4 hF FH Oc
 refine aI.out _ _ (by exact Bl) (fun af=>?_)
 clear aI KK
 (try simp only[Act.put,bh])
 refine aG 11 fun KK aI=>?_
 refine cb (by kernel_rfl) 22 #[.agg #[.slice (ad g') 1 iV],.agg #[.slice (ad g) 1 cg]] (by go_simp) (fun v w'=>v=.bool true∧ak w4.heap.size w4 w') (hq.mono (by rintro e w' ⟨rfl,he⟩;exact⟨_,rfl,rfl,he⟩)) ?_
 rintro v w5 ⟨rfl,l5⟩
 have L5:=cf (L4.out.trans (l5.mono L4.out.size))
 have CW:=S9.out _ L5.out
 clear l5 hq
 refine aI.out _ _ (by exact CW) (fun af=>?_)
 clear aI KK
 (try simp only[Act.put,bh])
 refine tk 12 af ?_
 refine tk 13 af ?_
 refine wpAnyH_done (by kernel_rfl) ?_ _
 refine NoPanic.normal ?_
 have H5:=cf ((H.out.low je.out).low L5.out)
 have A5:=cf (L5.out.some (je.out.some A1.out))
 have L15:=cf (L1.out.trans ((je.out.trans (L5.out.mono je.out.size)).mono (by have:=L1.out.size;have:=iW.out;omega)))
 have Yl:=Bs w5 g cg Pp pc A n c T tc l ret H5.out hn dA.out N HN.out HLT.out
 clear lH S9 je af L5 L4 L3 L2 Uv Bl
 go_upto_region 5 with(first
  |(go_at_call 56;refine Yl.mono ?_;rintro e w6 ⟨l6,U,rfl,hU⟩))
 have H6:=cf (H5.out.low l6);have A6:=cf (l6.some A5.out);have L6:=cf (L15.out.trans (l6.mono (by have:=L15.out.size;have:=iW.out;omega)));have U6:=cf hU
 have x6:=bf A6.out
 have BK:=J0 w6 g cg Pp pc A n c T tc l ret H6.out hn dA.out.form HH.out
 clear Yl l6 hU CW
 go_upto_region 6 with(first
  |(go_at_call 57;refine BK.mono ?_;rintro e w7 ⟨rfl,l7⟩))
 have H7:=cf (H6.out.low l7);have A7:=cf (l7.some A6.out);have L7:=cf (L6.out.trans (l7.mono (by have:=L6.out.size;have:=iW.out;omega)));have U7:=cf (U6.out.low l7)
 have x7:=bf A7.out
 have hmg:=E3 w7 g cg Pp pc A n c T tc l ret H7.out hn dA.out.ok
 clear BK l7 x6
 go_upto_region 9 with(first
  |(go_at_call 58;refine hmg.mono ?_;rintro e w8 ⟨rfl,l8⟩))
 have H8:=cf (H7.out.low l8);have A8:=cf (l8.some A7.out);have L8:=cf (L7.out.trans (l8.mono (by have:=L7.out.size;have:=iW.out;omega)));have U8:=cf (U7.out.low l8)
 clear hmg l8 x7 H5 H6 H7 A5 A6 A7 L6 L7 L15 U6 U7 A1 L1 H
 go_upto_region 10 with fail
 go_loopw[7] (fun i wr=>(i=G 0∧wr=w8)∨(i=G 1∧ak w8.heap.size w8 wr)) (fun i _=>1-(intOf i).toNat)
 case atStart=>exact .inl ⟨rfl,rfl⟩
 case round=>
  rcases hrel with⟨rfl,rfl⟩|⟨rfl,hL⟩
  ·obtain⟨w8,rfl⟩:∃u,u=wr:=⟨_,rfl⟩
   have x1:=bf A8.out
   have h1:=H8.out
   obtain⟨kz,r0,r1,r2,r3,r4,r5⟩:=h1.row
   obtain⟨p0,p1,p2,p3,p4⟩:=mV r0 r1 r2 r3 r4 r5
   have l9:ak w8.heap.size w8 (w8.alloc (.cells #[.slice Pp 1 pc,.slice A n c,G 4,G ret,.slice T 0 tc] 62)):=F0
   have a9:=ao w8 (.cells #[.slice Pp 1 pc,.slice A n c,G 4,G ret,.slice T 0 tc] 62)
   have L9:=cf l9;have U9:=cf (U8.out.low l9);have A9:=cf (l9.some A8.out);have H9:=cf (H8.out.low l9)
   clear r0 r1 r2 r3 r4 r5 h1 l9
   go_upto_region 14 with fail
   obtain⟨t8,ZS⟩:∃t,t=w8.heap.size:=⟨_,rfl⟩
   rw[←ZS]at a9⊢
   clear ZS p0 p1 p2 p3 p4 x1
   generalize w8.alloc (.cells #[.slice Pp 1 pc,.slice A n c,G 4,G ret,.slice T 0 tc] 62)=w9 at a9 L9 U9 A9 H9⊢
   have B9:=cf a9
   clear a9
   go_loopw[9] (fun i wx=>∃q:Nat,i=G q∧q≤n∧ak w9.heap.size w9 wx) (fun i _=>n-(intOf i).toNat)
   case atStart=>exact⟨0,rfl,by omega,ak.refl _ _⟩
   case round=>
    obtain⟨q,rfl,hq,hL⟩:=hrel
    obtain⟨wv,rfl⟩:∃u,u=wr:=⟨_,rfl⟩
    have v0:=jw (hL.some B9.out)
    have hlen:l.length=n:=H8.out.ops.1
    by_cases bw:q<n
    ·have hv:=H9.out.low hL
     have bN:(q:Int)<(n:Int):=by omega
     have nu:(0:Int)≤(q:Int):=by omega
     have mI:(q:Int)≤40:=by omega
     obtain⟨o,ho⟩:∃o,l[q]?=some o:=⟨_,List.getElem?_eq_getElem (by have:=hv.ops.1;omega)⟩
     obtain⟨ga,cs,rfl,qD,hg,k0,k1,k2,k3,k4,k5⟩:=hv.ops.2 q o ho
     have c0:=iw hg k0 k1 k2 k3 k4 k5
     have ld:ak wv.heap.size wv wv.drew:=(ak.refl _ wv).drew
     have iA:=List.mem_of_getElem? ho
     have mK:=wR wv.drew g cg Pp pc (ad ga) n c T tc l ret (hv.low ld) hn o (dA.out.form o iA) (Tg.out o iA) U (N+1) ((U9.out.low hL).low ld) (by have h1:=HC.out.VC iA;have h2:=HN.out;omega)
     have lH:(wv.drew.cell? ⟨S,0,none⟩=some (.slice (ad g) 1 cg)∧wv.drew.cell? ⟨t8,1,none⟩=some (.slice (ad ga) n c))∧wv.drew.cell? ⟨ga,q*6,none⟩=some (G o.code)∧wv.drew.cell? ⟨ga,q*6+1,none⟩=some (G o.res)∧wv.drew.cell? ⟨ga,q*6+2,none⟩=some (G o.a)∧wv.drew.cell? ⟨ga,q*6+3,none⟩=some (G o.b)∧wv.drew.cell? ⟨ga,q*6+4,none⟩=some (.int .u16 o.n)∧wv.drew.cell? ⟨ga,q*6+5,none⟩=some Zs:=⟨⟨Yc (ld.some (hL.some A9.out)),v0⟩,c0⟩
     have ly:Hid (∀w',ak wv.drew.heap.size wv.drew w'→(w'.cell? ⟨S,0,none⟩=some (.slice (ad g) 1 cg)∧w'.cell? ⟨t8,1,none⟩=some (.slice (ad ga) n c))∧w'.cell? ⟨ga,q*6,none⟩=some (G o.code)∧w'.cell? ⟨ga,q*6+1,none⟩=some (G o.res)∧w'.cell? ⟨ga,q*6+2,none⟩=some (G o.a)∧w'.cell? ⟨ga,q*6+3,none⟩=some (G o.b)∧w'.cell? ⟨ga,q*6+4,none⟩=some (.int .u16 o.n)∧w'.cell? ⟨ga,q*6+5,none⟩=some Zs):=cf fun w' hl=>by
      have gS:=ld.trans (hl.mono ld.size)
      have mw:=gS.some hg
      exact⟨⟨Yc (gS.some (hL.some A9.out)),Yc (gS.some (hL.some B9.out))⟩,(Yc mw).trans k0,(Yc mw).trans k1,(Yc mw).trans k2,(Yc mw).trans k3,(Yc mw).trans k4,(Yc mw).trans k5⟩
     have je:=cf (hL.trans (ld.mono hL.size))
     clear hv hg k0 k1 k2 k3 k4 k5 ho hL ld iA
     go_upto_region 16 with fail
     clear v0 c0
     refine wp_region_noPanic ?_
     refine wp_region_held_drew (S:=fun w'=>(w'.cell? ⟨S,0,none⟩=some (.slice (ad g) 1 cg)∧w'.cell? ⟨t8,1,none⟩=some (.slice (ad ga) n c))∧w'.cell? ⟨ga,q*6,none⟩=some (G o.code)∧w'.cell? ⟨ga,q*6+1,none⟩=some (G o.res)∧w'.cell? ⟨ga,q*6+2,none⟩=some (G o.a)∧w'.cell? ⟨ga,q*6+3,none⟩=some (G o.b)∧w'.cell? ⟨ga,q*6+4,none⟩=some (.int .u16 o.n)∧w'.cell? ⟨ga,q*6+5,none⟩=some Zs) (by kernel_rfl) (by exact(by exact lH)) (fun af=>?_)
     generalize wv.drew=wd at af lH ly je mK⊢
     refine tk 0 af ?_
     refine tk 1 af ?_
     refine tk 2 af ?_
     refine tk 3 af ?_
     refine tk 4 af ?_
     refine tk 5 af ?_
     refine tk 6 af ?_
     refine aG 7 fun KK aI=>?_
     refine aR rfl 59 #[.agg #[.slice (ad g) 1 cg],OV o,.slice (ad U) (N+1) (N+1)] (by go_simp) (fun v w'=>v=.bool true∧ak wd.heap.size wd w') (mK.mono (by rintro e w' ⟨rfl,he⟩;exact⟨_,rfl,rfl,he⟩)) ?_
     rintro v w6 ⟨rfl,l6⟩
     have L6:=cf l6
     clear l6
     refine aI.out _ _ (by exact(ly.out _ L6.out)) (fun af=>?_)
     clear aI KK
     (try simp only[Act.put,bh])
     refine tk 8 af ?_
     refine wpAnyH_done (by kernel_rfl) ?_ _
     refine NoPanic.normal ?_
     go_wp2_with fail
     exact⟨⟨q+1,by simp,bw,je.out.trans (L6.out.mono je.out.size)⟩,by show n-((q:Int)+1).toNat<n-((q:Int)).toNat;omega⟩
    ·have bN:¬(q:Int)<(n:Int):=by omega
     have HL:=cf hL
     clear hL
     go_upto_region 20 with fail
     go_loopw[11] (fun k wx=>k=G 0∧wx=wv) (fun _ _=>0)
     case atStart=>exact⟨rfl,rfl⟩
     case round=>
      obtain⟨rfl,rfl⟩:=hrel
      obtain⟨wv,rfl⟩:∃u,u=wr:=⟨_,rfl⟩
      obtain⟨gp,cp,Z2,KV,pJ,rm⟩:=H9.out.par
      have v1:wv.cell? ⟨t8,0,none⟩=some (.slice Pp 1 pc):=Yc (HL.out.some B9.out)
      have v2:wv.cell? ⟨t8,2,none⟩=some (G 4):=Yc (HL.out.some B9.out)
      have v3:wv.cell? ⟨t8,3,none⟩=some (G ret):=Yc (HL.out.some B9.out)
      have v4:wv.cell? ⟨t8,4,none⟩=some (.slice T 0 tc):=Yc (HL.out.some B9.out)
      have x0:=bf (HL.out.some A9.out)
      have TQ:=tS wv g cg ret T tc
      clear pJ rm Z2 KV
      go_wp2_with(first
       |(go_at_call 60;refine TQ.mono ?_;rintro e w6 ⟨rfl,l6⟩))
      exact⟨.inr ⟨rfl,L9.out.trans ((HL.out.trans (l6.mono HL.out.size)).mono L9.out.size)⟩,by decide⟩
  ·have x1:wr.cell? ⟨S,0,none⟩=some (.slice (ad g) 1 cg):=Yc (hL.some A8.out)
   have p0:∃kz,wr.heap[g]?=some (.cells kz 62 (0,0)):=by obtain⟨kz,r0,_⟩:=(H8.out.low hL).row;exact⟨kz,r0⟩
   have HF:=cf (L8.out.trans (hL.mono (by have:=L8.out.size;have:=iW.out;omega)))
   clear hL p0
   go_wp2_with fail
   go_ret
   exact⟨rfl,by rw[iW.out];exact HF.out⟩
end
section
set_option maxRecDepth 100000
set_option maxHeartbeats 8000000
theorem pow_one (j:Nat):(1:Int)≤2^j:=by
 induction j with
 |zero=>decide
 |succ k ih=>rw[Int.pow_succ];omega
theorem Py {b:Int} (h:W b):bits BinOp.and IntKind.u16 b 15=b%16:=by
 rw[vC,sk]
 unfold ft
 obtain⟨n,rfl⟩:∃n:Nat,b=(n:Int):=⟨b.toNat,by have:=h.1;omega⟩
 have hn:n<65536:=by have:=h.2;omega
 have e1:(BitVec.ofInt 16 (n:Int)).toNat=n:=by rw[BitVec.toNat_ofInt];omega
 have e2:(BitVec.ofInt 16 15).toNat=2^4-1:=by decide
 rw[BitVec.toNat_and,e1,e2,Nat.and_two_pow_sub_one_eq_mod]
 rfl
theorem oX (w:World) (a:Int) (ha:W a):Calls Tryz.prog 220 #[.int .u16 a] w (fun e w'=>e=.returned (G (pX a))∧w'=w):=by
 have h0:0≤a:=ha.1
 have h1:a<65536:=ha.2
 by_cases hc:32768≤a
 ·have hs:a-65536=pX a:=by unfold pX;rw[if_neg (by omega)]
  go_enter Tryz.func220,Tryz.ntmps220
  go_wp2_with fail
  go_ret
  exact⟨by rw[←hs];try rfl,rfl⟩
 ·have hs:a=pX a:=by unfold pX;rw[if_pos (by omega)]
  have HS:=cf hs
  clear hs
  go_enter Tryz.func220,Tryz.ntmps220
  go_wp2_with fail
  go_ret
  exact⟨by rw[←HS.out];rfl,rfl⟩
theorem AI (w:World) (b:Bool):Calls Tryz.prog 221 #[.bool b] w (fun e w'=>e=.returned (.int .u16 (if b then 1 else 0))∧w'=w):=by
 cases b
 all_goals
  go_enter Tryz.func221,Tryz.ntmps221
  go_wp2_with fail
  go_ret
  exact⟨rfl,rfl⟩
variable {x:Int}
theorem Oj (h:x<0):(x-1).tdiv 2=x/2:=by
 rw[show x-1= -(1-x) by omega,Int.neg_tdiv,Int.tdiv_eq_ediv_of_nonneg (by omega)]
 omega
theorem Oi (h:0≤x):x.tdiv 2=x/2:=Int.tdiv_eq_ediv_of_nonneg h
theorem IT {a:Int} (h:W a) (j:Nat): -32768≤pX a/2^j∧pX a/2^j≤32767:=by
 have hs: -32768≤pX a∧pX a≤32767:=by unfold W at h;unfold pX;split<;>omega
 induction j with
 |zero=>simpa using hs
 |succ j ih=>
  rw[Int.pow_succ,←Int.ediv_ediv_of_nonneg (by have:=pow_one j;omega)]
  omega
theorem Gm (w:World) (a b:Int) (ha:W a) (hb:W b):Calls Tryz.prog 177 #[G 5,.int .u16 a,.int .u16 b] w (fun e w'=>e=.returned (.int .u16 (arith 5 a b))∧w'=w):=by
 have hf:IntKind.u16.wrap (a+b)=arith 5 a b:=by rw[vJ,←eh]
 have HF:=cf hf
 clear hf
 clear ha hb
 go_enter Tryz.func177,Tryz.ntmps177
 go_wp2_with fail
 go_ret
 exact⟨by rw[←HF.out];(try rfl),rfl⟩
theorem Gl (w:World) (a b:Int) (ha:W a) (hb:W b):Calls Tryz.prog 177 #[G 6,.int .u16 a,.int .u16 b] w (fun e w'=>e=.returned (.int .u16 (arith 6 a b))∧w'=w):=by
 have hf:IntKind.u16.wrap (a-b)=arith 6 a b:=by rw[Gn,←eh]
 have HF:=cf hf
 clear hf
 clear ha hb
 go_enter Tryz.func177,Tryz.ntmps177
 go_wp2_with fail
 go_ret
 exact⟨by rw[←HF.out];(try rfl),rfl⟩
theorem Gk (w:World) (a b:Int) (ha:W a) (hb:W b):Calls Tryz.prog 177 #[G 7,.int .u16 a,.int .u16 b] w (fun e w'=>e=.returned (.int .u16 (arith 7 a b))∧w'=w):=by
 have hf:IntKind.u16.wrap (a*b)=arith 7 a b:=by rw[vI,←eh]
 have HF:=cf hf
 clear hf
 clear ha hb
 go_enter Tryz.func177,Tryz.ntmps177
 go_wp2_with fail
 go_ret
 exact⟨by rw[←HF.out];(try rfl),rfl⟩
theorem vH (w:World) (a b:Int) (ha:W a) (hb:W b) (pq:b≠0):Calls Tryz.prog 177 #[G 8,.int .u16 a,.int .u16 b] w (fun e w'=>e=.returned (.int .u16 (arith 8 a b))∧w'=w):=by
 have dS:0≤b:=hb.1
 have ha1:0≤a:=ha.1
 have ha2:a<65536:=ha.2
 have hd:a.tdiv b=a/b:=Int.tdiv_eq_ediv_of_nonneg ha.1
 have hw:IntKind.u16.wrap (a/b)=a/b:=by rw[eh];have:=qL (a:=a) (m:=b) ha (by omega);unfold W at this;omega
 have HD:=cf (And.intro hd hw)
 clear ha hb hd hw
 go_enter Tryz.func177,Tryz.ntmps177
 go_wp2_with fail
 go_ret
 exact⟨by rw[Px,←HD.out.2,←HD.out.1];rfl,rfl⟩
theorem Gj (w:World) (a b:Int) (ha:W a) (hb:W b):Calls Tryz.prog 177 #[G 9,.int .u16 a,.int .u16 b] w (fun e w'=>e=.returned (.int .u16 (arith 9 a b))∧w'=w):=by
 have hf:=vC a b
 have HF:=cf hf
 clear hf
 clear ha hb
 go_enter Tryz.func177,Tryz.ntmps177
 go_wp2_with fail
 go_ret
 exact⟨by rw[←HF.out];(try rfl),rfl⟩
theorem Dz (w:World) (a b:Int) (ha:W a) (hb:W b):Calls Tryz.prog 177 #[G 10,.int .u16 a,.int .u16 b] w (fun e w'=>e=.returned (.int .u16 (arith 10 a b))∧w'=w):=by
 have hf:=Iw a b
 have HF:=cf hf
 clear hf
 clear ha hb
 go_enter Tryz.func177,Tryz.ntmps177
 go_wp2_with fail
 go_ret
 exact⟨by rw[←HF.out];(try rfl),rfl⟩
theorem Dy (w:World) (a b:Int) (ha:W a) (hb:W b):Calls Tryz.prog 177 #[G 11,.int .u16 a,.int .u16 b] w (fun e w'=>e=.returned (.int .u16 (arith 11 a b))∧w'=w):=by
 have hf:=vA a b
 have HF:=cf hf
 clear hf
 clear ha hb
 go_enter Tryz.func177,Tryz.ntmps177
 go_wp2_with fail
 go_ret
 exact⟨by rw[←HF.out];(try rfl),rfl⟩
theorem Dx (w:World) (a b:Int) (ha:W a) (hb:W b):Calls Tryz.prog 177 #[G 12,.int .u16 a,.int .u16 b] w (fun e w'=>e=.returned (.int .u16 (arith 12 a b))∧w'=w):=by
 obtain⟨k,hk⟩:∃k:Nat,b%16=(k:Int):=⟨(b%16).toNat,by omega⟩
 have ab3:(k:Int)<16:=by omega
 have sS:(0:Int)≤(k:Int):=by omega
 have Lo:=Py hb
 rw[hk]at Lo
 have hf:IntKind.u16.wrap (a*2^(k:Int).toNat)=arith 12 a b:=by rw[eh,AO,hk]
 have HF:=cf hf
 clear hf
 clear ha hb
 go_enter Tryz.func177,Tryz.ntmps177
 go_wp2_with fail
 go_ret
 exact⟨by rw[←HF.out];(try rfl),rfl⟩
theorem Dw (w:World) (a b:Int) (ha:W a) (hb:W b):Calls Tryz.prog 177 #[G 13,.int .u16 a,.int .u16 b] w (fun e w'=>e=.returned (.int .u16 (arith 13 a b))∧w'=w):=by
 obtain⟨k,hk⟩:∃k:Nat,b%16=(k:Int):=⟨(b%16).toNat,by omega⟩
 have ab3:(k:Int)<16:=by omega
 have sS:(0:Int)≤(k:Int):=by omega
 have Lo:=Py hb
 rw[hk]at Lo
 have hf:a/2^(k:Int).toNat=arith 13 a b:=by rw[AN,hk]
 have HF:=cf hf
 clear hf
 clear ha hb
 go_enter Tryz.func177,Tryz.ntmps177
 go_wp2_with fail
 go_ret
 exact⟨by rw[←HF.out];(try rfl),rfl⟩
theorem Du (w:World) (a b:Int) (ha:W a) (hb:W b):Calls Tryz.prog 177 #[G 14,.int .u16 a,.int .u16 b] w (fun e w'=>e=.returned (.int .u16 (arith 14 a b))∧w'=w):=by
 obtain⟨k,hk⟩:∃k:Nat,b%16=(k:Int):=⟨(b%16).toNat,by omega⟩
 have ab3:(k:Int)<16:=by omega
 have sS:(0:Int)≤(k:Int):=by omega
 have Lo:=Py hb
 rw[hk]at Lo
 have hsg:=oX w a ha
 have HA:=cf ha
 have hf:IntKind.u16.wrap (pX a/2^k)=arith 14 a b:=by rw[eh,AK,hk];rfl
 have HF:=cf hf
 clear hf
 clear ha hb
 go_enter Tryz.func177,Tryz.ntmps177
 go_upto_region 23 with(first
  |(go_at_call 220;(with_reducible refine hsg.mono ?_);rintro e w3 ⟨rfl,fE⟩;rw[fE];clear fE w3))
 clear hsg
 go_loopw[7,8] (fun x i wr=>∃j:Nat,i=G j∧j≤k∧x=G (pX a/2^j)∧wr=w) (fun _ i _=>k-(intOf i).toNat)
 case atStart=>exact⟨0,rfl,by omega,by simp,rfl⟩
 case round=>
  obtain⟨j,rfl,hj,rfl,rfl⟩:=hrel
  obtain⟨w,rfl⟩:∃u,u=wr:=⟨_,rfl⟩
  by_cases bw:j<k
  ·have bN:(j:Int)<(k:Int):=by omega
   have hj0:(0:Int)≤(j:Int):=by omega
   have aw8:(j:Int)<16:=by omega
   have dS:=IT HA.out j
   have dQ:pX a/2^j/2=pX a/2^(j+1):=by rw[Int.pow_succ,←Int.ediv_ediv_of_nonneg (by have:=pow_one j;omega)]
   have UZ:=cf dQ
   clear dQ
   revert dS UZ
   generalize pX a/2^j=x
   intro dS UZ
   obtain⟨x1,x2⟩:=dS
   by_cases hx:x<0
   ·have hd:=Oj hx
    have Qg:IntKind.i64.wrap (x-1)=x-1:=IntWalk.i64_in _ (by omega)
    have Qf:IntKind.i64.wrap (x/2)=x/2:=IntWalk.i64_in _ (by omega)
    go_wp2_with fail
    exact⟨⟨j+1,by simp,bw,by(try rw[←UZ.out]);(try rfl),by simp⟩,by show k-((j:Int)+1).toNat<k-((j:Int)).toNat;omega⟩
   ·have Bg:0≤x:=by omega
    have hd:=Oi Bg
    have Qf:IntKind.i64.wrap (x/2)=x/2:=IntWalk.i64_in _ (by omega)
    go_wp2_with fail
    exact⟨⟨j+1,by simp,bw,by(try rw[←UZ.out]);(try rfl),by simp⟩,by show k-((j:Int)+1).toNat<k-((j:Int)).toNat;omega⟩
  ·have bN:¬(j:Int)<(k:Int):=by omega
   obtain rfl:j=k:=by omega
   go_wp2_with fail
   go_ret
   exact⟨by rw[←HF.out];rfl,rfl⟩
theorem Dt (w:World) (a b:Int) (ha:W a) (hb:W b):Calls Tryz.prog 177 #[G 15,.int .u16 a,.int .u16 b] w (fun e w'=>e=.returned (.int .u16 (arith 15 a b))∧w'=w):=by
 have hf:(if a=b then(1:Int)else 0)=arith 15 a b:=rfl
 have HF:=cf hf
 clear hf
 clear ha hb
 go_enter Tryz.func177,Tryz.ntmps177
 go_wp2_with(first
  |(go_at_call 221;(with_reducible refine(AI _ _).mono ?_);rintro e w3 ⟨rfl,fE⟩;rw[fE];clear fE w3))
 all_goals(go_ret;exact⟨by simp[tD, *],rfl⟩)
theorem Ds (w:World) (a b:Int) (ha:W a) (hb:W b):Calls Tryz.prog 177 #[G 16,.int .u16 a,.int .u16 b] w (fun e w'=>e=.returned (.int .u16 (arith 16 a b))∧w'=w):=by
 have hf:(if a<b then(1:Int)else 0)=arith 16 a b:=rfl
 have HF:=cf hf
 clear hf
 clear ha hb
 go_enter Tryz.func177,Tryz.ntmps177
 go_wp2_with(first
  |(go_at_call 221;(with_reducible refine(AI _ _).mono ?_);rintro e w3 ⟨rfl,fE⟩;rw[fE];clear fE w3))
 all_goals(go_ret;exact⟨by simp[Iy, *],rfl⟩)
theorem Dr (w:World) (a b:Int) (ha:W a) (hb:W b):Calls Tryz.prog 177 #[G 17,.int .u16 a,.int .u16 b] w (fun e w'=>e=.returned (.int .u16 (arith 17 a b))∧w'=w):=by
 have hf:(if pX a<pX b then(1:Int)else 0)=arith 17 a b:=rfl
 have hsa:=oX w a ha
 have KT:=oX w b hb
 have HF:=cf hf
 clear hf
 clear ha hb
 go_enter Tryz.func177,Tryz.ntmps177
 go_wp2_with(first
  |(go_at_call 220;(with_reducible refine hsa.mono ?_);rintro e w3 ⟨rfl,fE⟩;rw[fE];clear fE w3)
  |(go_at_call 220;(with_reducible refine KT.mono ?_);rintro e w3 ⟨rfl,fE⟩;rw[fE];clear fE w3)
  |(go_at_call 221;(with_reducible refine(AI _ _).mono ?_);rintro e w3 ⟨rfl,fE⟩;rw[fE];clear fE w3))
 all_goals(go_ret;exact⟨by rw[←HF.out];simp[*],rfl⟩)
theorem KN (w:World) (c a b:Int) (h5:5≤c) (dz:c≤17) (ha:W a) (hb:W b) (h8:c=8→b≠0):Calls Tryz.prog 177 #[G c,.int .u16 a,.int .u16 b] w (fun e w'=>e=.returned (.int .u16 (arith c a b))∧w'=w):=by
 have eR:c=5∨c=6∨c=7∨c=8∨c=9∨c=10∨c=11∨c=12∨c=13∨c=14∨c=15∨c=16∨c=17:=by omega
 rcases eR with rfl|rfl|rfl|rfl|rfl|rfl|rfl|rfl|rfl|rfl|rfl|rfl|rfl
 ·exact Gm w a b ha hb
 ·exact Gl w a b ha hb
 ·exact Gk w a b ha hb
 ·exact vH w a b ha hb (h8 rfl)
 ·exact Gj w a b ha hb
 ·exact Dz w a b ha hb
 ·exact Dy w a b ha hb
 ·exact Dx w a b ha hb
 ·exact Dw w a b ha hb
 ·exact Du w a b ha hb
 ·exact Dt w a b ha hb
 ·exact Ds w a b ha hb
 ·exact Dr w a b ha hb
end
section
set_option maxRecDepth 100000
set_option maxHeartbeats 8000000
structure da (S:Nat) (B:List Nat) (w w':World):Prop where
 os:w'.os=w.os
 out:w'.output=w.output
 size:w.heap.size≤w'.heap.size
 block:∀g,g<S→g∉B→w'.heap[g]?=w.heap[g]?
theorem da.refl (S:Nat) (B:List Nat) (w:World):da S B w w:=⟨rfl,rfl,Nat.le_refl _,fun _ _ _=>rfl⟩
variable {S:Nat} {B:List Nat} {w w':World}
theorem da.trans {rh:World} (h:da S B w w') (h':da S B w' rh):da S B w rh:=⟨h'.os.trans h.os,h'.out.trans h.out,Nat.le_trans h.size h'.size,fun g hg hb=>(h'.block g hg hb).trans (h.block g hg hb)⟩
theorem da.bD (h:ak S w w'):da S B w w':=⟨h.os,h.out,h.size,fun g hg _=>h.block g hg⟩
theorem da.set (w:World) {d i:Nat} (hd:d∈B) (v:Value):da S B w (w.setCell ⟨d,i,none⟩ v):=⟨rfl,rfl,by rw[cW];exact Nat.le_refl _,fun g _ hn=>aj (by rintro rfl;exact hn hd)⟩
theorem da.low {S':Nat} (h:da S B w w') (hB:∀b∈B,S'≤b) (hS:S'≤S):ak S' w w':=⟨h.os,h.out,h.size,fun g hg=>h.block g (by omega) fun hb=>by have:=hB g hb;omega⟩
theorem da.obj (h:da S B w w') {g:Nat} {o:Obj} (hg:g<S) (hb:g∉B) (ho:w.heap[g]?=some o):w'.heap[g]?=some o:=(h.block g hg hb).trans ho
theorem da.more {B':List Nat} (h:da S B w w') (hB:∀b∈B,b∈B'):da S B' w w':=⟨h.os,h.out,h.size,fun g hg hb=>h.block g hg fun mw=>hb (hB g mw)⟩
theorem Mc (w:World) (m:Nat) (cs:Array Value) (k i:Int) (hm:w.heap[m]?=some (.cells cs 87 (0,0))) (Oq:cs[10]?=some (.bool false)) (Lp:cs[14]?=some (G 0)) (Lo:cs[15]?=some (.int .u16 0)):
 Calls Tryz.prog 127 #[.pointer (ad m),G k,.int .u16 i] w (fun e w'=>e=.returned (.tuple #[])∧w'=((w.setCell ⟨m,10,none⟩ (.bool true)).setCell ⟨m,14,none⟩ (G k)).setCell ⟨m,15,none⟩ (.int .u16 i)):=by
 have QO:w.cell? ⟨m,10,none⟩=some (.bool false):=(Yc hm).trans Oq
 have Tq:w.cell? ⟨m,14,none⟩=some (G 0):=(Yc hm).trans Lp
 have Tp:w.cell? ⟨m,15,none⟩=some (.int .u16 0):=(Yc hm).trans Lo
 have f0:=fun i:Nat=>au (j:=i) hm
 have bw:=aB hm
 clear hm
 go_enter Tryz.func127,Tryz.ntmps127
 go_wp2_with fail
 go_end0
 exact⟨rfl,rfl⟩
theorem Ro (w:World) (m:Nat) (cs:Array Value) (F:Int) (hm:w.heap[m]?=some (.cells cs 87 (0,0))) (h9:cs[9]?=some (G F)) (Oq:cs[10]?=some (.bool false)) (h1:1≤F) (h2:F≤1000):
 Calls Tryz.prog 128 #[.pointer (ad m)] w (fun e w'=>e=.returned (.bool true)∧w'=w.setCell ⟨m,9,none⟩ (G (F-1))):=by
 have x9:w.cell? ⟨m,9,none⟩=some (G F):=(Yc hm).trans h9
 have QO:w.cell? ⟨m,10,none⟩=some (.bool false):=(Yc hm).trans Oq
 have f0:=fun i:Nat=>au (j:=i) hm
 have bw:=aB hm
 have hF:¬F<1:=by omega
 clear hm
 go_enter Tryz.func128,Tryz.ntmps128
 go_wp2_with fail
 go_ret
 exact⟨rfl,rfl⟩
end
end Go.Proofs.YtjkahfmdcpfjjaaGreat
