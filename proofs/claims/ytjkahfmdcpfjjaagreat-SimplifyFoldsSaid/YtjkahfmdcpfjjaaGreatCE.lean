/- The reference: a function is right. -/
import Derived.Test.YtjkahfmdcpfjjaaGreatCB
set_option linter.unusedVariables false
namespace Go.Proofs.YtjkahfmdcpfjjaaGreat
open Go.RowKit
section
set_option maxRecDepth 100000
set_option maxHeartbeats 8000000
theorem xi (w:World) (fb fc ab ac gm cm g cg:Nat) (hp:lr w fb fc ab ac gm cm g cg) (h:oO w gm):
 Calls Tryz.prog 44 #[.agg #[.slice (ad fb) 2 fc,.slice (ad ab) 2 ac,G 0,G (-1),Zs,Zs],G 0] w (fun e w'=>e=.returned (.bool true)∧ak w.heap.size w w'):=by
 have rm:=hp
 obtain⟨S,hS⟩:∃S,w.heap.size=S:=⟨_,rfl⟩
 obtain⟨a1,s1,u1⟩:=av (.cells #[.slice (ad fb) 2 fc,.slice (ad ab) 2 ac,G 0,G (-1),Zs,Zs] 34) hS
 obtain⟨a2,s2,u2⟩:=av (.cells #[.slice (ad gm) 1 cm] 40) s1
 have b1:=u2 _ _ a1
 have l1:ak w.heap.size w (w.alloc (.cells #[.slice (ad fb) 2 fc,.slice (ad ab) 2 ac,G 0,G (-1),Zs,Zs] 34)):=F0
 have l2:ak w.heap.size w ((w.alloc (.cells #[.slice (ad fb) 2 fc,.slice (ad ab) 2 ac,G 0,G (-1),Zs,Zs] 34)).alloc (.cells #[.slice (ad gm) 1 cm] 40)):=l1.alloc (by simp) _
 obtain⟨Lq,Lu,f1,f2,f3,f4,f5,f6,f7,f8,f9,f10⟩:=hp
 have x1:(w.alloc (.cells #[.slice (ad fb) 2 fc,.slice (ad ab) 2 ac,G 0,G (-1),Zs,Zs] 34)).cell? ⟨fb,0,none⟩=some (.slice (ad gm) 1 cm):=(Yc (l1.some f1)).trans f2
 have X3:Hid (∀w',ak w.heap.size w w'→w'.cell? ⟨ab,0,none⟩=some (G 0)):=cf fun w' hl=>(Yc (hl.some f4)).trans f5
 have H:=cf h
 have HC:=cf f9
 have H2:=cf (h.low l2)
 have kE:(1:Nat)<ac:=by omega
 clear h f1 f2 f3 f4 f5 f6 l1 u1 u2 a1 rm
 go_enter Tryz.func44,Tryz.ntmps44
 go_upto_region 2 with fail
 have iW:=cf hS
 obtain⟨t5,gh⟩:∃t,t=S+1:=⟨_,rfl⟩
 rw[←gh]at a2 s2⊢
 have HS2:=cf s2
 have L2:=cf l2
 have B1:=cf b1;have A2:=cf a2
 clear hS gh s1 s2 x1 l2 b1 a2
 generalize(w.alloc (.cells #[.slice (ad fb) 2 fc,.slice (ad ab) 2 ac,G 0,G (-1),Zs,Zs] 34)).alloc (.cells #[.slice (ad gm) 1 cm] 40)=w2 at L2 B1 A2 HS2 H2⊢
 have HX:Hid (∀w',ak w2.heap.size w2 w'→w'.cell? ⟨S,0,none⟩=some (.slice (ad fb) 2 fc)∧w'.cell? ⟨S,1,none⟩=some (.slice (ad ab) 2 ac)∧w'.cell? ⟨S,2,none⟩=some (G 0)∧w'.cell? ⟨S,3,none⟩=some (G (-1))∧w'.cell? ⟨S,4,none⟩=some Zs∧w'.cell? ⟨S,5,none⟩=some Zs∧w'.cell? ⟨t5,0,none⟩=some (.slice (ad gm) 1 cm)):=
  cf fun w' hl=>⟨Yc (hl.some B1.out),Yc (hl.some B1.out),Yc (hl.some B1.out),Yc (hl.some B1.out),Yc (hl.some B1.out),Yc (hl.some B1.out),Yc (hl.some A2.out)⟩
 clear B1 A2 HS2
 obtain⟨y0,y1,y2,y3,y4,y5,z0⟩:=HX.out w2 (ak.refl _ _)
 go_upto_region 4 with fail
 obtain⟨kz,r0,r1,r2,r3,r4,r5⟩:=H2.out
 have p0:w2.cell? ⟨gm,0,none⟩=some Zs:=(Yc r0).trans r1
 have x3:=X3.out w2 L2.out
 clear r0 r1 r2 r3 r4 r5
 go_quiet(fail)
 have L3:=cf (L2.out.drewN nq)
 have Hm:ak w2.heap.size w2 (w2.drewN nq):=(ak.refl _ w2).drewN nq
 have H3:=cf (H2.out.low Hm)
 have D3:Hid (∀w',ak (w2.drewN nq).heap.size (w2.drewN nq) w'→w'.cell? ⟨S,0,none⟩=some (.slice (ad fb) 2 fc)∧w'.cell? ⟨S,1,none⟩=some (.slice (ad ab) 2 ac)∧w'.cell? ⟨S,2,none⟩=some (G 0)∧w'.cell? ⟨S,3,none⟩=some (G (-1))∧w'.cell? ⟨S,4,none⟩=some Zs∧w'.cell? ⟨S,5,none⟩=some Zs∧w'.cell? ⟨t5,0,none⟩=some (.slice (ad gm) 1 cm)):=
  cf fun w' hl=>HX.out w' (Hm.trans (hl.mono Hm.size))
 clear y0 y1 y2 y3 y4 y5 z0 p0 x3 HX H2 L2 Hm
 generalize w2.drewN nq=w3 at L3 H3 D3⊢
 go_upto_region 7 with fail
 go_loopw[6] (fun i wr=>(i=G 0∧wr=w3)∨(i=G 1∧ak w3.heap.size w3 wr)) (fun i _=>1-(intOf i).toNat)
 case atStart=>exact .inl ⟨rfl,rfl⟩
 case round=>
  rcases hrel with⟨rfl,rfl⟩|⟨rfl,hL⟩
  ·obtain⟨w3,rfl⟩:∃u,u=wr:=⟨_,rfl⟩
   obtain⟨y0,y1,y2,y3,y4,y5,z0⟩:=D3.out w3 (ak.refl _ _)
   have h1:=H3.out
   obtain⟨kz,r0,r1,r2,r3,r4,r5⟩:=H3.out
   obtain⟨p0,p1,p2,p3,p4⟩:=mV r0 r1 r2 r3 r4 r5
   have l4:ak w3.heap.size w3 (w3.alloc (.cells #[Zs,Zs,G 5,G 0,Zs] 62)):=F0
   have a4:=ao w3 (.cells #[Zs,Zs,G 5,G 0,Zs] 62)
   clear r0 r1 r2 r3 r4 r5
   go_upto_region 11 with fail
   obtain⟨t7,oJ⟩:∃t,t=w3.heap.size:=⟨_,rfl⟩
   rw[←oJ]at a4⊢
   have L4:=cf l4;have A4:=cf a4
   have H4:=cf (H3.out.low l4)
   clear p0 p1 p2 p3 p4 y0 y1 y2 y3 y4 y5 z0 oJ l4 a4
   generalize w3.alloc (.cells #[Zs,Zs,G 5,G 0,Zs] 62)=w4 at L4 A4 H4⊢
   go_loopw[8] (fun i wx=>i=G 0∧wx=w4) (fun _ _=>0)
   case atStart=>exact⟨rfl,rfl⟩
   case round=>
    obtain⟨rfl,rfl⟩:=hrel
    obtain⟨wv,rfl⟩:∃u,u=wr:=⟨_,rfl⟩
    obtain⟨y0,y1,y2,y3,y4,y5,z0⟩:=D3.out wv L4.out
    have v0:wv.cell? ⟨t7,1,none⟩=some Zs:=Yc A4.out
    have v2:wv.cell? ⟨t7,2,none⟩=some (G 5):=Yc A4.out
    have v3:wv.cell? ⟨t7,3,none⟩=some (G 0):=Yc A4.out
    have v4:wv.cell? ⟨t7,4,none⟩=some Zs:=Yc A4.out
    have n9:=FW wv gm cm
    have HL:=L4
    go_wp2_with(first
     |(go_at_call 120;refine n9.mono ?_;rintro e w6 ⟨rfl,l6⟩))
    exact⟨.inr ⟨rfl,HL.out.trans (l6.mono HL.out.size)⟩,by decide⟩
  ·obtain⟨w5,rfl⟩:∃u,u=wr:=⟨_,rfl⟩
   obtain⟨y0,y1,y2,y3,y4,y5,z0⟩:=D3.out w5 hL
   have vb:=Ky w5 gm cm (H3.out.low hL)
   have L5:=cf hL
   clear hL y0 y1 y2 y3 y4 y5
   go_upto_region 20 with(first
    |(go_at_call 121;refine vb.mono ?_;rintro e w6 ⟨l6,D,rfl⟩))
   have L6:=cf (L5.out.trans (l6.mono L5.out.size))
   clear l6 vb z0
   obtain⟨y0,y1,y2,y3,y4,y5,z0⟩:=D3.out w6 L6.out
   have wk:Calls Tryz.prog 123 #[.agg #[.slice (ad gm) 1 cm]] w6 (fun e w'=>ak w6.heap.size w6 w'∧∃gb gc,e=.returned (.agg #[.slice (ad gb) 1 gc])∧iE w' gb):=by
    obtain⟨kz,r0,r1,r2,r3,r4,r5⟩:=H3.out.low L6.out
    exact CY w6 gm cm none 0 ⟨kz,r0,r5⟩
   clear y0 y1 y2 y3 y4 y5
   go_upto_region 22 with(first
    |(go_at_call 123;refine wk.mono ?_;rintro e w7 ⟨l7,gb,gc,rfl,ZW⟩;have WJ:=Dl w7 gb gc ZW)
    |(go_at_call 122;refine WJ.mono ?_;rintro e w8 ⟨l8,DA,dc,rfl,hdc,zn⟩))
   have L8:=cf (L6.out.trans ((l7.trans (l8.mono l7.size)).mono L6.out.size))
   have HDA:=cf zn
   clear l7 l8 zn WJ ZW wk z0 L5
   go_loopw[14] (fun i wr=>(i=G 0∧wr=w8)∨(i=G 1∧ak w8.heap.size w8 wr)) (fun i _=>1-(intOf i).toNat)
   case atStart=>exact .inl ⟨rfl,rfl⟩
   case round=>
    rcases hrel with⟨rfl,rfl⟩|⟨rfl,hL⟩
    ·obtain⟨w8,rfl⟩:∃u,u=wr:=⟨_,rfl⟩
     obtain⟨y0,y1,y2,y3,y4,y5,z0⟩:=D3.out w8 L8.out
     have h1:=H3.out.low L8.out
     obtain⟨kz,r0,r1,r2,r3,r4,r5⟩:=h1
     obtain⟨p0,p1,p2,p3,p4⟩:=mV r0 r1 r2 r3 r4 r5
     have l9:ak w8.heap.size w8 (w8.alloc (.cells #[Zs,Zs,G 5,G 0,Zs] 62)):=F0
     have a9:=ao w8 (.cells #[Zs,Zs,G 5,G 0,Zs] 62)
     clear r0 r1 r2 r3 r4 r5
     go_upto_region 25 with fail
     obtain⟨t15,sQ⟩:∃t,t=w8.heap.size:=⟨_,rfl⟩
     rw[←sQ]at a9⊢
     have L9:=cf (L8.out.trans (l9.mono L8.out.size));have A9:=cf a9
     have X4:=HDA.out.low l9
     have PN:=cf X4
     have XL:=cf l9
     clear p0 p1 p2 p3 p4 y0 y1 y2 y3 y4 y5 z0 sQ l9 a9
     generalize w8.alloc (.cells #[Zs,Zs,G 5,G 0,Zs] 62)=w9 at L9 A9 X4 PN XL⊢
     obtain⟨dg,dcs,dr,drs,rfl,Li,Lh,Ob,Oa⟩:=X4
     have e1:w9.cell? ⟨dg,0,none⟩=some (.slice (ad dr) 1 1):=(Yc Li).trans Lh
     have e2:w9.cell? ⟨dr,0,none⟩=some (.bool true):=(Yc Ob).trans Oa
     clear Li Lh Ob Oa
     go_upto_region 28 with fail
     clear e1 e2
     go_loopw[16] (fun i wx=>i=G 0∧wx=w9) (fun _ _=>0)
     case atStart=>exact⟨rfl,rfl⟩
     case round=>
      obtain⟨rfl,rfl⟩:=hrel
      obtain⟨wv,rfl⟩:∃u,u=wr:=⟨_,rfl⟩
      have v0:=jw A9.out
      have hL:ak wv.heap.size wv wv:=ak.refl _ _
      have TP:=wC wv.drew
      have ld:ak wv.heap.size wv wv.drew:=(ak.refl _ wv).drew
      have lH:wv.drew.cell? ⟨t15,1,none⟩=some Zs∧wv.drew.cell? ⟨t15,2,none⟩=some (G 5)∧wv.drew.cell? ⟨t15,3,none⟩=some (G 0)∧wv.drew.cell? ⟨t15,4,none⟩=some Zs:=⟨Yc (hL.some A9.out),Yc (hL.some A9.out),Yc (hL.some A9.out),Yc (hL.some A9.out)⟩
      have ly:Hid (∀w',ak wv.drew.heap.size wv.drew w'→w'.cell? ⟨t15,1,none⟩=some Zs∧w'.cell? ⟨t15,2,none⟩=some (G 5)∧w'.cell? ⟨t15,3,none⟩=some (G 0)∧w'.cell? ⟨t15,4,none⟩=some Zs):=cf fun w' hl=>by
       have gS:=(hL.trans ((ld.trans (hl.mono ld.size)).mono hL.size)).some A9.out
       exact⟨Yc gS,Yc gS,Yc gS,Yc gS⟩
      have je:=cf (hL.trans (ld.mono hL.size))
      clear hL ld
      go_upto_region 33 with fail
      clear v0
      refine wp_region_noPanic ?_
      refine wp_region_held_drew (S:=fun w'=>w'.cell? ⟨t15,1,none⟩=some Zs∧w'.cell? ⟨t15,2,none⟩=some (G 5)∧w'.cell? ⟨t15,3,none⟩=some (G 0)∧w'.cell? ⟨t15,4,none⟩=some Zs) (by kernel_rfl) (by exact(by exact lH)) (fun af=>?_)
      generalize wv.drew=wd at af lH ly je TP⊢
      refine tk 0 af ?_
      refine tk 1 af ?_
      refine tk 3 af ?_
      refine tk 4 af ?_
      refine tk 5 af ?_
      refine tk 6 af ?_
      refine tk 7 af ?_
      refine tk 8 af ?_
      refine aG 2 fun KK aI=>?_
      refine aR rfl 126 #[.agg #[G 5,G 0,Zs]] (by go_simp) (fun v w'=>v=Zs∧ak wd.heap.size wd w') (TP.mono (by rintro e w' ⟨hl,rfl⟩;exact⟨_,rfl,rfl,hl⟩)) ?_
      rintro v w6 ⟨rfl,l6⟩
      have wj:=Fc w6 none 0 (G 0) (.slice (ad D) 0 0) (.slice (ad dg) 1 dc)
      have L6:=cf l6
      clear l6
      refine aI.out _ _ (by exact(ly.out _ L6.out)) (fun af=>?_)
      clear aI KK
      (try simp only[Act.put,bh])
      refine aG 9 fun KK aI=>?_
      refine aR rfl 124 #[Zs,G 0,G 0,.slice (ad D) 0 0,.slice (ad dg) 1 dc] (by go_simp) (fun v w'=>v=.bool true∧w'=w6) (wj.mono (by rintro e w' ⟨rfl,he⟩;exact⟨_,rfl,rfl,he⟩)) ?_
      rintro v w7 ⟨rfl,he⟩
      rw[he]
      clear he w7
      refine aI.out _ _ (by exact(ly.out _ L6.out)) (fun af=>?_)
      clear aI KK
      (try simp only[Act.put,bh])
      refine tk 10 af ?_
      refine wpAnyH_done (by kernel_rfl) ?_ _
      refine NoPanic.normal ?_
      go_wp2_with fail
      exact⟨.inr ⟨rfl,XL.out.trans ((je.out.trans (L6.out.mono je.out.size)).mono XL.out.size)⟩,by decide⟩
    ·obtain⟨y0,y1,y2,y3,y4,y5,z0⟩:=D3.out wr (L8.out.trans (hL.mono L8.out.size))
     have HL:=cf (L3.out.trans ((L8.out.trans (hL.mono L8.out.size)).mono L3.out.size))
     clear hL y0 y1 y2 y3 y4 y5
     go_wp2_with fail
     go_ret
     exact⟨rfl,HL.out⟩
end
section
set_option maxRecDepth 100000
set_option maxHeartbeats 8000000
theorem FC (w:World) (fb fc ab ac gm cm g cg:Nat) (hp:lr w fb fc ab ac gm cm g cg):
 Calls Tryz.prog 43 #[.agg #[.slice (ad fb) 2 fc,.slice (ad ab) 2 ac,G 0,G (-1),Zs,Zs]] w (fun e w'=>e=.returned (G 0)∧ak w.heap.size w w'):=by
 have l1:ak w.heap.size w (w.alloc (.cells #[.slice (ad fb) 2 fc,.slice (ad ab) 2 ac,G 0,G (-1),Zs,Zs] 34)):=F0
 have a1:=ao w (.cells #[.slice (ad fb) 2 fc,.slice (ad ab) 2 ac,G 0,G (-1),Zs,Zs] 34)
 obtain⟨Lq,Lu,f1,f2,f3,f4,f5,f6,f7,f8,f9,f10⟩:=hp
 have x0:(w.alloc (.cells #[.slice (ad fb) 2 fc,.slice (ad ab) 2 ac,G 0,G (-1),Zs,Zs] 34)).cell? ⟨ab,0,none⟩=some (G 0):=(Yc (l1.some f4)).trans f5
 have x1:(w.alloc (.cells #[.slice (ad fb) 2 fc,.slice (ad ab) 2 ac,G 0,G (-1),Zs,Zs] 34)).cell? ⟨ab,1,none⟩=some (G 1):=(Yc (l1.some f4)).trans f6
 clear f1 f2 f3 f4 f5 f6
 go_enter Tryz.func43,Tryz.ntmps43
 go_upto_region 1 with fail
 obtain⟨t1,eu⟩:∃t,t=w.heap.size:=⟨_,rfl⟩
 rw[←eu]at a1⊢
 have HT:=cf eu
 clear eu
 generalize w.alloc (.cells #[.slice (ad fb) 2 fc,.slice (ad ab) 2 ac,G 0,G (-1),Zs,Zs] 34)=w1 at l1 a1 x0 x1⊢
 have y0:=aC a1
 have L1:=cf l1
 clear a1 l1
 go_upto_region 6 with fail
 go_loopw[3] (fun i wr=>(i=G 0∨i=G 1∨i=G 2)∧wr=w1) (fun i _=>2-(intOf i).toNat)
 case atStart=>exact⟨.inl rfl,rfl⟩
 case round=>
  obtain⟨rfl|rfl|rfl,rfl⟩:=hrel
  ·go_wp2_with fail
   exact⟨by simp,by decide⟩
  ·go_wp2_with fail
   exact⟨by simp,by decide⟩
  ·go_upto_region 11 with fail
   go_loopw[4] (fun i wx=>i=G 0∧wx=wr) (fun _ _=>0)
   case atStart=>exact⟨rfl,rfl⟩
   case round=>
    obtain⟨rfl,rfl⟩:=hrel
    go_upto_region 16 with fail
    go_loopw[5] (fun i wx=>i=G 0∧wx=wr) (fun _ _=>0)
    case atStart=>exact⟨rfl,rfl⟩
    case round=>
     obtain⟨rfl,rfl⟩:=hrel
     go_wp2_with fail
     go_ret
     exact⟨rfl,L1.out⟩
theorem rq (w:World) (fb fc ab ac gm cm:Nat) (g cg:Nat) (Pp:Option Addr) (pc:Nat) (A:Option Addr) (n c:Nat) (T:Option Addr) (tc:Nat) (l:List aE) (ret:Int) (hp:lr w fb fc ab ac gm cm g cg) (hh:oO w gm) (h:fe w g Pp pc A n c T tc l ret) (hn:n≤40) (bB:kC l ret):
 Calls Tryz.prog 15 #[.agg #[.slice (ad fb) 2 fc,.slice (ad ab) 2 ac,G 0,G (-1),Zs,Zs]] w (fun e w'=>e=.returned (G 0)∧ak w.heap.size w w'):=by
 have l1:ak w.heap.size w (w.alloc (.cells #[.slice (ad fb) 2 fc,.slice (ad ab) 2 ac,G 0,G (-1),Zs,Zs] 34)):=F0
 have a1:=ao w (.cells #[.slice (ad fb) 2 fc,.slice (ad ab) 2 ac,G 0,G (-1),Zs,Zs] 34)
 have HP:=cf (hp.low l1);have HH:=cf (hh.low l1);have H:=cf (h.low l1);have dA:=cf bB
 clear hp hh h bB
 go_enter Tryz.func15,Tryz.ntmps15
 go_upto_region 1 with fail
 obtain⟨t1,eu⟩:∃t,t=w.heap.size:=⟨_,rfl⟩
 rw[←eu]at a1⊢
 clear eu
 generalize w.alloc (.cells #[.slice (ad fb) 2 fc,.slice (ad ab) 2 ac,G 0,G (-1),Zs,Zs] 34)=w1 at l1 a1 HP HH H⊢
 have HX:Hid (∀w',ak w1.heap.size w1 w'→w'.cell? ⟨t1,0,none⟩=some (.slice (ad fb) 2 fc)∧w'.cell? ⟨t1,1,none⟩=some (.slice (ad ab) 2 ac)∧w'.cell? ⟨t1,2,none⟩=some (G 0)∧w'.cell? ⟨t1,3,none⟩=some (G (-1))∧w'.cell? ⟨t1,4,none⟩=some Zs∧w'.cell? ⟨t1,5,none⟩=some Zs):=cf fun w' hl=>⟨Yc (hl.some a1),Yc (hl.some a1),Yc (hl.some a1),Yc (hl.some a1),Yc (hl.some a1),Yc (hl.some a1)⟩
 have L1:=cf l1
 clear a1 l1
 obtain⟨y0,y1,y2,y3,y4,y5⟩:=HX.out w1 (ak.refl _ _)
 have BK:=FC w1 fb fc ab ac gm cm g cg HP.out
 go_upto_region 2 with(first
  |(go_at_call 43;refine BK.mono ?_;rintro e w2 ⟨rfl,l2⟩))
 clear y0 y1 y2 y3 y4 y5 BK
 have L2:=cf l2
 clear l2
 go_upto_region 5 with fail
 go_loopw[4] (fun i wr=>(i=G 0∨i=G 1∨i=G 2)∧ak w1.heap.size w1 wr) (fun i _=>2-(intOf i).toNat)
 case atStart=>exact⟨.inl rfl,L2.out⟩
 case round=>
  obtain⟨hi,hL⟩:=hrel
  obtain⟨wv,rfl⟩:∃u,u=wr:=⟨_,rfl⟩
  obtain⟨y0,y1,y2,y3,y4,y5⟩:=HX.out wv hL
  have HL:=cf hL
  rcases hi with rfl|rfl|rfl
  ·have hf:=xi wv fb fc ab ac gm cm g cg (HP.out.low hL) (HH.out.low hL)
   clear hL
   go_wp2_with(first
    |(go_at_call 44;refine hf.mono ?_;rintro e w3 ⟨rfl,l3⟩))
   exact⟨⟨by simp,HL.out.trans (l3.mono HL.out.size)⟩,by decide⟩
  ·have hf:=Aj wv fb fc ab ac gm cm g cg Pp pc A n c T tc l ret (HP.out.low hL) (H.out.low hL) hn dA.out
   clear hL
   go_wp2_with(first
    |(go_at_call 44;refine hf.mono ?_;rintro e w3 ⟨rfl,l3⟩))
   exact⟨⟨by simp,HL.out.trans (l3.mono HL.out.size)⟩,by decide⟩
  ·clear hL
   go_wp2_with fail
   go_ret
   exact⟨rfl,L1.out.trans (HL.out.mono L1.out.size)⟩
end
section
set_option maxRecDepth 100000
set_option maxHeartbeats 8000000
theorem eZ.kinds {o:aE} (h:eZ o):o.code≠26∧o.code≠2:=by
 rcases fF h.1 with⟨k,_⟩|⟨k,_⟩|⟨k,k',_⟩|⟨k,_⟩<;>omega
theorem xK (w:World) (g cg:Nat) (Pp:Option Addr) (pc:Nat) (A:Option Addr) (n c:Nat) (T:Option Addr) (tc:Nat) (l:List aE) (ret:Int) (h:fe w g Pp pc A n c T tc l ret) (hn:n≤40) (bB:kC l ret) (Qv:1≤cg):
 Calls Tryz.prog 28 #[.agg #[.slice (ad g) 1 cg]] w (fun e w'=>e=.returned (.bool true)∧ak w.heap.size w w'):=by
 have zo:∀u:World,(Instr.makeSlice 105 (G 0) (G 0)).run Tryz.prog u=.ok (.slice (ad (u.heap.size)) 0 0) (u.alloc (.cells #[] 4)):=fun u=>by kernel_rfl
 have Wx:∀u:World,(Instr.makeSlice 22 (G 2) (G 2)).run Tryz.prog u=.ok (.slice (ad (u.heap.size)) 2 2) (u.alloc (.cells #[G 0,G 0] 3)):=fun u=>by kernel_rfl
 have Yt:∀u:World,(Instr.makeSlice 30 (G 2) (G 2)).run Tryz.prog u=.ok (.slice (ad (u.heap.size)) 2 2) (u.alloc (.cells #[Zs,Zs] 40)):=fun u=>by kernel_rfl
 have l1:ak w.heap.size w (w.alloc (.cells #[.slice (ad g) 1 cg] 40)):=F0
 have a1:=ao w (.cells #[.slice (ad g) 1 cg] 40)
 have H:=cf (h.low l1);have dA:=cf bB
 have x0:=(h.low l1)
 clear h bB
 go_enter Tryz.func28,Tryz.ntmps28
 go_upto_region 1 with fail
 obtain⟨t1,eu⟩:∃t,t=w.heap.size:=⟨_,rfl⟩
 rw[←eu]at a1⊢
 clear eu
 generalize w.alloc (.cells #[.slice (ad g) 1 cg] 40)=w1 at l1 a1 x0 H⊢
 have HX:Hid (∀w',ak w1.heap.size w1 w'→w'.cell? ⟨t1,0,none⟩=some (.slice (ad g) 1 cg)∧w'.cell? ⟨g,0,none⟩=some (.slice Pp 1 pc)∧w'.cell? ⟨g,1,none⟩=some (.slice A n c)):=cf fun w' hl=>by
  obtain⟨kz,r0,r1,r2,r3,r4,r5⟩:=x0.row
  exact⟨Yc (hl.some a1),(Yc (hl.some r0)).trans r1,(Yc (hl.some r0)).trans r2⟩
 have L1:=cf l1;have A1:=cf a1
 clear x0 l1 a1
 obtain⟨z0,z1,z2⟩:=HX.out w1 (ak.refl _ _)
 go_upto_region 6 with fail
 clear z0 z1 z2
 go_loopw[3,4,5] (fun a b i wr=>a=G 0∧b=G 0∧(i=G 0∨i=G 1)∧ak w1.heap.size w1 wr) (fun _ _ i _=>1-(intOf i).toNat)
 case atStart=>exact⟨rfl,rfl,.inl rfl,ak.refl _ _⟩
 case round=>
  obtain⟨rfl,rfl,rfl|rfl,hL⟩:=hrel
  ·obtain⟨w2,rfl⟩:∃u,u=wr:=⟨_,rfl⟩
   obtain⟨z0,z1,z2⟩:=HX.out w2 hL
   have L2:=cf hL
   clear hL
   go_upto_region 9 with fail
   clear z0 z1 z2
   go_loopw[3,4,6] (fun a b i wx=>a=G 0∧b=G 0∧∃q:Nat,i=G q∧q≤n∧ak w1.heap.size w1 wx) (fun _ _ i _=>n-(intOf i).toNat)
   case atStart=>exact⟨rfl,rfl,0,rfl,by omega,L2.out⟩
   case round=>
    obtain⟨rfl,rfl,q,rfl,hq,hL⟩:=hrel
    obtain⟨wv,rfl⟩:∃u,u=wr:=⟨_,rfl⟩
    obtain⟨z0,z1,z2⟩:=HX.out wv hL
    by_cases bw:q<n
    ·have hv:=H.out.low hL
     have bN:(q:Int)<(n:Int):=by omega
     have nu:(0:Int)≤(q:Int):=by omega
     have mI:(q:Int)≤40:=by omega
     obtain⟨o,ho⟩:∃o,l[q]?=some o:=⟨_,List.getElem?_eq_getElem (by have:=hv.ops.1;omega)⟩
     obtain⟨ga,cs,rfl,qD,hg,k0,k1,k2,k3,k4,k5⟩:=hv.ops.2 q o ho
     have c0:=iw hg k0 k1 k2 k3 k4 k5
     have hf:=(dA.out.form o (List.mem_of_getElem? ho)).kinds
     obtain⟨e26,e2⟩:=hf
     have l9:ak wv.heap.size wv (wv.alloc (OC o)):=F0
     have a9:=ao wv (OC o)
     have HL:=cf (hL.trans (l9.mono hL.size))
     clear hv hg k0 k1 k2 k3 k4 k5 ho hL l9
     go_upto_region 12 with fail
     clear c0 z0 z1 z2
     generalize wv.heap.size=t7 at a9⊢
     generalize wv.alloc (OC o)=wa at a9 HL⊢
     have x0:=bf a9
     clear a9
     go_wp2_with fail
     exact⟨⟨rfl,rfl,q+1,by simp,bw,HL.out⟩,by show n-((q:Int)+1).toNat<n-((q:Int)).toNat;omega⟩
    ·have bN:¬(q:Int)<(n:Int):=by omega
     have HL:=cf hL
     clear hL
     go_wp2_with fail
     exact⟨⟨rfl,rfl,.inr rfl,HL.out⟩,by decide⟩
  ·obtain⟨w2,rfl⟩:∃u,u=wr:=⟨_,rfl⟩
   obtain⟨z0,z1,z2⟩:=HX.out w2 hL
   obtain⟨S,hS⟩:∃S,w2.heap.size=S:=⟨_,rfl⟩
   obtain⟨a2,s2,u2⟩:=av (.cells #[Zs,.slice (ad (S+1+1)) 2 2,G 0,G (-1),Zs,Zs] 34) hS
   obtain⟨a3,s3,u3⟩:=av (.cells #[] 4) s2
   obtain⟨a5,s4,u4⟩:=av (.cells #[G 0,G 0] 3) s3
   have b5:=u4 _ _ (u3 _ _ a2)
   have l5:ak S w2 (((w2.alloc (.cells #[Zs,.slice (ad (S+1+1)) 2 2,G 0,G (-1),Zs,Zs] 34)).alloc (.cells #[] 4)).alloc (.cells #[G 0,G 0] 3)):=(((ak.refl S w2).alloc (by omega) _).alloc (by omega) _).alloc (by omega) _
   have L2:=cf hL
   clear hL
   go_upto_region 22 with fail
   have L5:=cf (show ak w1.heap.size w1 _ from L2.out.trans (l5.mono (by rw[←hS];exact L2.out.size)))
   have rT:w1.heap.size≤S:=by rw[←hS];exact L2.out.size
   obtain⟨t10,mF⟩:∃t,t=S+1+1:=⟨_,rfl⟩
   rw[←mF]at b5 a5 L5⊢
   have HT:=cf (And.intro mF rT)
   clear a2 a3 l5 s2 s3 s4 u2 u3 u4 hS mF rT zo Wx z0 z1 z2 L2
   generalize((w2.alloc (.cells #[Zs,.slice (ad t10) 2 2,G 0,G (-1),Zs,Zs] 34)).alloc (.cells #[] 4)).alloc (.cells #[G 0,G 0] 3)=w5 at b5 a5 L5⊢
   have B5:=cf b5;have A5:=cf a5
   clear b5 a5
   go_loopw[10] (fun i wr=>(i=G 0∨i=G 1)∧ak w5.heap.size w5 wr) (fun i _=>1-(intOf i).toNat)
   case atStart=>exact⟨.inl rfl,ak.refl _ _⟩
   case round=>
    obtain⟨rfl|rfl,hL⟩:=hrel
    ·obtain⟨w6,rfl⟩:∃u,u=wr:=⟨_,rfl⟩
     obtain⟨z0,z1,z2⟩:=HX.out w6 (L5.out.trans (hL.mono L5.out.size))
     have L6:=cf hL
     clear hL
     go_upto_region 25 with fail
     clear z0 z1 z2
     go_loopw[11] (fun i wx=>∃q:Nat,i=G q∧q≤n∧ak w5.heap.size w5 wx) (fun i _=>n-(intOf i).toNat)
     case atStart=>exact⟨0,rfl,by omega,L6.out⟩
     case round=>
      obtain⟨q,rfl,hq,hL⟩:=hrel
      obtain⟨wv,rfl⟩:∃u,u=wr:=⟨_,rfl⟩
      have CX:=L5.out.trans (hL.mono L5.out.size)
      obtain⟨z0,z1,z2⟩:=HX.out wv CX
      by_cases bw:q<n
      ·have hv:=H.out.low CX
       have bN:(q:Int)<(n:Int):=by omega
       have nu:(0:Int)≤(q:Int):=by omega
       have mI:(q:Int)≤40:=by omega
       obtain⟨o,ho⟩:∃o,l[q]?=some o:=⟨_,List.getElem?_eq_getElem (by have:=hv.ops.1;omega)⟩
       obtain⟨ga,cs,rfl,qD,hg,k0,k1,k2,k3,k4,k5⟩:=hv.ops.2 q o ho
       have c0:=iw hg k0 k1 k2 k3 k4 k5
       have hf:=(dA.out.form o (List.mem_of_getElem? ho)).kinds
       obtain⟨e26,e2⟩:=hf
       have l9:ak wv.heap.size wv (wv.alloc (OC o)):=F0
       have a9:=ao wv (OC o)
       have HL:=cf (hL.trans (l9.mono hL.size))
       clear hv hg k0 k1 k2 k3 k4 k5 ho hL l9 CX
       go_upto_region 28 with fail
       clear c0 z0 z1 z2
       generalize wv.heap.size=t7 at a9⊢
       generalize wv.alloc (OC o)=wa at a9 HL⊢
       have x0:=bf a9
       clear a9
       have ax6:decide (o.code=26)=false:=by simpa using e26
       go_wp2_with fail
       exact⟨⟨q+1,by simp,bw,HL.out⟩,by show n-((q:Int)+1).toNat<n-((q:Int)).toNat;omega⟩
      ·have bN:¬(q:Int)<(n:Int):=by omega
       have HL:=cf hL
       clear hL CX
       go_wp2_with fail
       exact⟨⟨.inr rfl,HL.out⟩,by decide⟩
    ·obtain⟨w6,rfl⟩:∃u,u=wr:=⟨_,rfl⟩
     have CX:=L5.out.trans (hL.mono L5.out.size)
     obtain⟨z0,z1,z2⟩:=HX.out w6 CX
     have b6:=hL.some B5.out
     have a6:=hL.some A5.out
     have y1:=jw b6
     have q1:=jw a6
     have f1:w6.frozen? ⟨t10,1,none⟩=false:=au a6
     have L6:=cf CX;have B6:=cf b6;have A6:=cf a6
     clear hL CX b6 a6
     go_upto_region 31 with fail
     go_region
     have hT:=HT.out
     have b7:((w6.setCell ⟨t10,1,none⟩ (G 1)).drew).heap[S]?=some (.cells #[Zs,.slice (ad t10) 2 2,G 0,G (-1),Zs,Zs] 34 (0,0)):=(aj (show S≠t10 by omega)).trans B6.out
     have a7:((w6.setCell ⟨t10,1,none⟩ (G 1)).drew).heap[t10]?=some (.cells #[G 0,G 1] 3 (0,0)):=by
      show(w6.setCell ⟨t10,1,none⟩ (G 1)).heap[t10]?=_
      rw[aD A6.out];rfl
     have L7:=cf (show ak w1.heap.size w1 ((w6.setCell ⟨t10,1,none⟩ (G 1)).drew)from(L6.out.setCell (by omega) _).drew)
     clear z0 z1 z2 y1 q1 f1 L6 B6 A6
     generalize(w6.setCell ⟨t10,1,none⟩ (G 1)).drew=w7 at b7 a7 L7⊢
     have l8:ak w7.heap.size w7 (w7.alloc (.cells #[Zs,Zs] 40)):=F0
     have c8:=ao w7 (.cells #[Zs,Zs] 40)
     have b8:=l8.some b7
     have a8:=l8.some a7
     have f8:(w7.alloc (.cells #[Zs,Zs] 40)).frozen? ⟨S,0,none⟩=false:=au b8
     have g8:=bf b8
     have HSt:=cf (show S<w7.heap.size∧t10<w7.heap.size from⟨aB b7,aB a7⟩)
     go_upto_region 33 with fail
     obtain⟨t12,jK⟩:∃t,t=w7.heap.size:=⟨_,rfl⟩
     have hSt:=HSt.out
     rw[←jK]at c8 hSt⊢
     have b9:((w7.alloc (.cells #[Zs,Zs] 40)).setCell ⟨S,0,none⟩ (.slice (ad t12) 2 2)).heap[S]?=some (.cells #[.slice (ad t12) 2 2,.slice (ad t10) 2 2,G 0,G (-1),Zs,Zs] 34 (0,0)):=by rw[aD b8];rfl
     have a9:((w7.alloc (.cells #[Zs,Zs] 40)).setCell ⟨S,0,none⟩ (.slice (ad t12) 2 2)).heap[t10]?=some (.cells #[G 0,G 1] 3 (0,0)):=(aj (by omega)).trans a8
     have c9:((w7.alloc (.cells #[Zs,Zs] 40)).setCell ⟨S,0,none⟩ (.slice (ad t12) 2 2)).heap[t12]?=some (.cells #[Zs,Zs] 40 (0,0)):=(aj (by omega)).trans c8
     have L9:=cf (show ak w1.heap.size w1 ((w7.alloc (.cells #[Zs,Zs] 40)).setCell ⟨S,0,none⟩ (.slice (ad t12) 2 2))from(L7.out.trans (l8.mono L7.out.size)).setCell hT.2 _)
     have QA:=cf (show w1.heap.size≤t12 by rw[jK];exact L7.out.size)
     clear b7 a7 l8 c8 b8 a8 f8 g8 jK L7 Yt HSt hSt
     generalize(w7.alloc (.cells #[Zs,Zs] 40)).setCell ⟨S,0,none⟩ (.slice (ad t12) 2 2)=w9 at b9 a9 c9 L9⊢
     have Zl:ak w9.heap.size w9 (w9.alloc (.cells #[Zs,Zs,G 5,G 0,Zs] 62)):=F0
     have d10:=ao w9 (.cells #[Zs,Zs,G 5,G 0,Zs] 62)
     have b10:=Zl.some b9
     have UK:=Zl.some c9
     have a10:=Zl.some a9
     have HT9:=cf (show t12<w9.heap.size∧S<w9.heap.size∧t10<w9.heap.size∧w1.heap.size≤t12 from⟨aB c9,aB b9,aB a9,QA.out⟩)
     have y0:=bf b9
     have y1:=bf b10
     have q1:=bf UK
     have f1:(w9.alloc (.cells #[Zs,Zs,G 5,G 0,Zs] 62)).frozen? ⟨t12,0,none⟩=false:=au UK
     go_upto_region 34 with fail
     obtain⟨gm,Qt⟩:∃t,t=w9.heap.size:=⟨_,rfl⟩
     have Bh:=HT9.out
     rw[←Qt]at d10 Bh⊢
     have av8:t12≠S:=by rintro rfl;rw[b9]at c9;cases c9
     have au1:t12≠t10:=by rintro rfl;rw[a9]at c9;cases c9
     have b11:((w9.alloc (.cells #[Zs,Zs,G 5,G 0,Zs] 62)).setCell ⟨t12,0,none⟩ (.slice (ad gm) 1 1)).heap[S]?=some (.cells #[.slice (ad t12) 2 2,.slice (ad t10) 2 2,G 0,G (-1),Zs,Zs] 34 (0,0)):=(aj (by omega)).trans b10
     have a11:((w9.alloc (.cells #[Zs,Zs,G 5,G 0,Zs] 62)).setCell ⟨t12,0,none⟩ (.slice (ad gm) 1 1)).heap[t10]?=some (.cells #[G 0,G 1] 3 (0,0)):=(aj (by omega)).trans a10
     have c11:((w9.alloc (.cells #[Zs,Zs,G 5,G 0,Zs] 62)).setCell ⟨t12,0,none⟩ (.slice (ad gm) 1 1)).heap[t12]?=some (.cells #[.slice (ad gm) 1 1,Zs] 40 (0,0)):=by rw[aD UK];rfl
     have d11:((w9.alloc (.cells #[Zs,Zs,G 5,G 0,Zs] 62)).setCell ⟨t12,0,none⟩ (.slice (ad gm) 1 1)).heap[gm]?=some (.cells #[Zs,Zs,G 5,G 0,Zs] 62 (0,0)):=(aj (by omega)).trans d10
     have jK:w1.heap.size≤t12:=Bh.2.2.2
     have L11:=cf (show ak w1.heap.size w1 ((w9.alloc (.cells #[Zs,Zs,G 5,G 0,Zs] 62)).setCell ⟨t12,0,none⟩ (.slice (ad gm) 1 1))from(L9.out.trans (Zl.mono L9.out.size)).setCell jK _)
     clear b9 a9 c9 Zl d10 b10 UK a10 y0 y1 q1 f1 Qt L9 HT9
     generalize(w9.alloc (.cells #[Zs,Zs,G 5,G 0,Zs] 62)).setCell ⟨t12,0,none⟩ (.slice (ad gm) 1 1)=QQ at b11 a11 c11 d11 L11⊢
     obtain⟨z0,z1,z2⟩:=HX.out QQ L11.out
     have y0:=bf b11
     have q1:=jw c11
     have f1:QQ.frozen? ⟨t12,1,none⟩=false:=au c11
     go_upto_region 36 with fail
     have b13:(QQ.setCell ⟨t12,1,none⟩ (.slice (ad g) 1 cg)).heap[S]?=some (.cells #[.slice (ad t12) 2 2,.slice (ad t10) 2 2,G 0,G (-1),Zs,Zs] 34 (0,0)):=(aj (by omega)).trans b11
     have hPR:lr (QQ.setCell ⟨t12,1,none⟩ (.slice (ad g) 1 cg)) t12 2 t10 2 gm 1 g cg:=by
      have c12:(QQ.setCell ⟨t12,1,none⟩ (.slice (ad g) 1 cg)).heap[t12]?=some (.cells #[.slice (ad gm) 1 1,.slice (ad g) 1 cg] 40 (0,0)):=by rw[aD c11];rfl
      exact⟨_,_,c12,rfl,rfl,(aj (by omega)).trans a11,rfl,rfl,by omega,by omega,by omega,Qv⟩
     have hHR:oO (QQ.setCell ⟨t12,1,none⟩ (.slice (ad g) 1 cg)) gm:=⟨_,(aj (by omega)).trans d11,rfl,rfl,rfl,rfl,rfl⟩
     have sZ:=cf (L11.out.setCell jK (i:=1) (.slice (ad g) 1 cg))
     have ZJ:=rq (QQ.setCell ⟨t12,1,none⟩ (.slice (ad g) 1 cg)) t12 2 t10 2 gm 1 g cg Pp pc A n c T tc l ret hPR hHR (H.out.low sZ.out) hn dA.out
     clear z0 z1 z2 y0 q1 f1 b11 a11 c11 d11 L11 hPR hHR hT
     generalize QQ.setCell ⟨t12,1,none⟩ (.slice (ad g) 1 cg)=w13 at b13 sZ ZJ⊢
     obtain⟨y0,y1,y2,y3,y4,y5⟩:=aC b13
     clear b13
     go_loopw[13] (fun i wr=>i=G 0∧wr=w13) (fun _ _=>0)
     case atStart=>exact⟨rfl,rfl⟩
     case round=>
      obtain⟨rfl,rfl⟩:=hrel
      go_wp2_with(first
       |(go_at_call 15;refine ZJ.mono ?_;rintro e w14 ⟨rfl,RT⟩))
      go_ret
      exact⟨rfl,L1.out.trans ((sZ.out.trans (RT.mono sZ.out.size)).mono L1.out.size)⟩
end
end Go.Proofs.YtjkahfmdcpfjjaaGreat
