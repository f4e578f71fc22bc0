/- The reference: a function is valid. -/
import Derived.Test.YtjkahfmdcpfjjaaGreatC9
set_option linter.unusedVariables false
namespace Go.Proofs.YtjkahfmdcpfjjaaGreat
open Go.RowKit
section
set_option maxRecDepth 100000
set_option maxHeartbeats 8000000
def oO (w:World) (g:Nat):Prop:=∃cs,w.heap[g]?=some (.cells cs 62 (0,0))∧cs[0]?=some Zs∧cs[1]?=some Zs∧cs[2]?=some (G 5)∧cs[3]?=some (G 0)∧cs[4]?=some Zs
theorem oO.low {w w':World} {g:Nat} (h:oO w g) (hl:ak w.heap.size w w'):oO w' g:=by
 obtain⟨cs,h1,r⟩:=h
 exact⟨cs,hl.some h1,r⟩
theorem F8 (w:World) (g cg:Nat) (h:oO w g):
 Calls Tryz.prog 55 #[.agg #[.slice (ad g) 1 cg]] w (fun e w'=>e=.returned (G 0)∧ak w.heap.size w w'):=by
 have l1:ak w.heap.size w (w.alloc (.cells #[.slice (ad g) 1 cg] 40)):=F0
 have a1:=ao w (.cells #[.slice (ad g) 1 cg] 40)
 have H1:=cf (h.low l1)
 clear h
 go_enter Tryz.func55,Tryz.ntmps55
 go_upto_region 3 with fail
 obtain⟨t1,eu⟩:∃t,t=w.heap.size:=⟨_,rfl⟩
 rw[←eu]at a1⊢
 clear eu
 generalize w.alloc (.cells #[.slice (ad g) 1 cg] 40)=w1 at l1 a1 H1⊢
 have L1:=cf l1
 have A1:=cf a1
 clear l1 a1
 go_loopw[3,4] (fun a i wr=>(a=G 0∧i=G 0∧wr=w1)∨(a=G 0∧i=G 1∧ak w1.heap.size w1 wr)) (fun _ i _=>1-(intOf i).toNat)
 case atStart=>exact .inl ⟨rfl,rfl,rfl⟩
 case round=>
  rcases hrel with⟨rfl,rfl,rfl⟩|⟨rfl,rfl,hl⟩
  ·obtain⟨w1,rfl⟩:∃u,u=wr:=⟨_,rfl⟩
   have x1:=bf A1.out
   obtain⟨kz,r0,r1,r2,r3,r4,r5⟩:=H1.out
   have p0:=(Yc (j:=0) r0).trans r1
   have p1:=(Yc (j:=1) r0).trans r2
   have p2:=(Yc (j:=2) r0).trans r3
   have p3:=(Yc (j:=3) r0).trans r4
   have p4:=(Yc (j:=4) r0).trans r5
   have l2:ak w1.heap.size w1 (w1.alloc (.cells #[Zs,Zs,G 5,G 0,Zs] 62)):=F0
   have a2:=ao w1 (.cells #[Zs,Zs,G 5,G 0,Zs] 62)
   have L2:=cf l2
   clear r0 r1 r2 r3 r4 r5
   go_upto_region 7 with fail
   clear p0 p1 p2 p3 p4 x1 l2
   obtain⟨t5,gh⟩:∃t,t=w1.heap.size:=⟨_,rfl⟩
   rw[←gh]at a2⊢
   clear gh
   generalize w1.alloc (.cells #[Zs,Zs,G 5,G 0,Zs] 62)=w2 at a2 L2⊢
   have y0:=gV a2
   clear a2
   go_loopw[3,6] (fun a i wr=>a=G 0∧i=G 0∧wr=w2) (fun _ _ _=>0)
   case atStart=>exact⟨rfl,rfl,rfl⟩
   case round=>
    obtain⟨rfl,rfl,rfl⟩:=hrel
    obtain⟨w2,rfl⟩:∃u,u=wr:=⟨_,rfl⟩
    go_upto_region 11 with fail
    go_loopw[3,7] (fun a i wr=>a=G 0∧i=G 0∧wr=w2) (fun _ _ _=>0)
    case atStart=>exact⟨rfl,rfl,rfl⟩
    case round=>
     obtain⟨rfl,rfl,rfl⟩:=hrel
     go_wp2_with fail
     exact⟨.inr ⟨rfl,rfl,L2.out⟩,by decide⟩
  ·have x1:wr.cell? ⟨t1,0,none⟩=some (.slice (ad g) 1 cg):=Yc (hl.some A1.out)
   have HL:=cf (L1.out.trans (hl.mono L1.out.size))
   clear hl
   go_wp2_with fail
   go_ret
   exact⟨rfl,HL.out⟩
theorem Ky (w:World) (g cg:Nat) (h:oO w g):
 Calls Tryz.prog 121 #[.agg #[.slice (ad g) 1 cg]] w (fun e w'=>ak w.heap.size w w'∧∃D,e=.returned (.tuple #[.slice (ad D) 0 0,.bool true])):=by
 have l1:ak w.heap.size w (w.alloc (.cells #[.slice (ad g) 1 cg] 40)):=F0
 have a1:=ao w (.cells #[.slice (ad g) 1 cg] 40)
 have dX:=F8 _ g cg (h.low l1)
 have H1:=cf (h.low l1)
 clear h
 go_enter Tryz.func121,Tryz.ntmps121
 go_upto_region 1 with fail
 obtain⟨t1,eu⟩:∃t,t=w.heap.size:=⟨_,rfl⟩
 rw[←eu]at a1⊢
 clear eu
 generalize w.alloc (.cells #[.slice (ad g) 1 cg] 40)=w1 at l1 a1 dX H1⊢
 have x1:=bf a1
 have L1:=cf l1;have A1:=cf a1
 clear l1 a1
 have xd:∀w2:World,∃cs,(Instr.makeSlice 169 (G 0) (G 0)).run Tryz.prog w2=.ok (.slice (ad (w2.heap.size)) 0 0) (w2.alloc (.cells cs 215))∧cs.size=0*2:=fun w2=>qp UP w2 0 (by omega) (by decide)
 go_upto_region 2 with(first
  |(go_at_call 55;refine dX.mono ?_;rintro e w2 ⟨rfl,l2⟩;obtain⟨cs,eJ,cC⟩:=xd w2))
 have l3:ak w2.heap.size w2 (w2.alloc (.cells cs 215)):=F0
 obtain⟨D,hD⟩:∃D,D=w2.heap.size:=⟨_,rfl⟩
 rw[←hD]
 have L3:=cf (L1.out.trans ((l2.trans (l3.mono l2.size)).mono L1.out.size))
 have A3:=cf (l3.some (l2.some A1.out))
 have H3:=cf ((H1.out.low l2).low l3)
 clear xd eJ l3 l2 x1 dX cC hD A1 L1 H1
 generalize w2.alloc (.cells cs 215)=w3 at L3 A3 H3⊢
 go_upto_region 3 with fail
 go_loopw[5] (fun i wr=>i=G 0∧wr=w3) (fun _ _=>0)
 case atStart=>exact⟨rfl,rfl⟩
 case round=>
  obtain⟨rfl,rfl⟩:=hrel
  obtain⟨w4,rfl⟩:∃u,u=wr:=⟨_,rfl⟩
  go_upto_region 7 with fail
  go_loopw[6] (fun i wr=>(i=G 0∧wr=w4)∨(i=G 1∧ak w4.heap.size w4 wr)) (fun i _=>1-(intOf i).toNat)
  case atStart=>exact .inl ⟨rfl,rfl⟩
  case round=>
   rcases hrel with⟨rfl,rfl⟩|⟨rfl,hL⟩
   ·obtain⟨w4,rfl⟩:∃u,u=wr:=⟨_,rfl⟩
    have x1:=bf A3.out
    obtain⟨kz,r0,r1,r2,r3,r4,r5⟩:=H3.out
    have p0:=(Yc (j:=0) r0).trans r1
    have p1:=(Yc (j:=1) r0).trans r2
    have p2:=(Yc (j:=2) r0).trans r3
    have p3:=(Yc (j:=3) r0).trans r4
    have p4:=(Yc (j:=4) r0).trans r5
    have l5:ak w4.heap.size w4 (w4.alloc (.cells #[Zs,Zs,G 5,G 0,Zs] 62)):=F0
    have a5:=ao w4 (.cells #[Zs,Zs,G 5,G 0,Zs] 62)
    have L5:=cf l5
    clear r0 r1 r2 r3 r4 r5 l5
    go_upto_region 11 with fail
    clear p0 p1 p2 p3 p4 x1
    obtain⟨t7,oJ⟩:∃t,t=w4.heap.size:=⟨_,rfl⟩
    rw[←oJ]at a5⊢
    clear oJ
    generalize w4.alloc (.cells #[Zs,Zs,G 5,G 0,Zs] 62)=w5 at a5 L5⊢
    have y1:=jw a5
    clear a5
    go_loopw[8,9,10] (fun k v a wx=>k=G 0∧wx=w5) (fun _ _ _ _=>0)
    case atStart=>exact⟨rfl,rfl⟩
    case round=>
     obtain⟨rfl,rfl⟩:=hrel
     go_wp2_with fail
     exact⟨.inr ⟨rfl,L5.out⟩,by decide⟩
   ·have x1:wr.cell? ⟨t1,0,none⟩=some (.slice (ad g) 1 cg):=Yc (hL.some A3.out)
    have HF:=cf (L3.out.trans (hL.mono L3.out.size))
    clear hL
    go_wp2_with fail
    go_ret2
    exact⟨HF.out,D,rfl⟩
theorem wC (w:World):
 Calls Tryz.prog 126 #[.agg #[G 5,G 0,Zs]] w (fun e w'=>ak w.heap.size w w'∧e=.returned Zs):=by
 have l1:ak w.heap.size w (w.alloc (.cells #[G 5,G 0,Zs] 60)):=F0
 have a1:=ao w (.cells #[G 5,G 0,Zs] 60)
 go_enter Tryz.func126,Tryz.ntmps126
 go_upto_region 2 with fail
 obtain⟨t1,eu⟩:∃t,t=w.heap.size:=⟨_,rfl⟩
 rw[←eu]at a1⊢
 clear eu
 generalize w.alloc (.cells #[G 5,G 0,Zs] 60)=w1 at l1 a1⊢
 have L1:=cf l1
 have x0:=Pk a1
 clear a1 l1
 go_upto_region 5 with fail
 go_loopw[3,4] (fun v i wr=>v=Zs∧i=G 0∧wr=w1) (fun _ _ _=>0)
 case atStart=>exact⟨rfl,rfl,rfl⟩
 case round=>
  obtain⟨rfl,rfl,rfl⟩:=hrel
  go_wp2_with fail
  go_ret
  exact⟨L1.out,rfl⟩
theorem Fc (w:World) (B:Option Addr) (d:Nat) (a x y:Value):
 Calls Tryz.prog 124 #[.slice B 0 d,G 0,a,x,y] w (fun e w'=>e=.returned (.bool true)∧w'=w):=by
 go_enter Tryz.func124,Tryz.ntmps124
 go_wp2_with fail
 go_loopw[11] (fun i wr=>i=G 0∧wr=w) (fun _ _=>0)
 case atStart=>exact⟨rfl,rfl⟩
 case round=>
  obtain⟨rfl,rfl⟩:=hrel
  go_wp2_with fail
  go_ret
  exact⟨rfl,rfl⟩
theorem FW (w:World) (g cg:Nat):
 Calls Tryz.prog 120 #[.agg #[.slice (ad g) 1 cg],.agg #[G 5,G 0,Zs]] w (fun e w'=>e=.returned (.bool true)∧ak w.heap.size w w'):=by
 obtain⟨S,hS⟩:∃S,w.heap.size=S:=⟨_,rfl⟩
 obtain⟨a1,s1,u1⟩:=av (.cells #[.slice (ad g) 1 cg] 40) hS
 obtain⟨a2,s2,u2⟩:=av (.cells #[G 5,G 0,Zs] 60) s1
 obtain⟨a3,s3,u3⟩:=av (.cells #[G 0,G 1,G 2,G 0,G 0,G 0] 213) s2
 have b2:=u3 _ _ a2
 have l3:ak w.heap.size w (((w.alloc (.cells #[.slice (ad g) 1 cg] 40)).alloc (.cells #[G 5,G 0,Zs] 60)).alloc (.cells #[G 0,G 1,G 2,G 0,G 0,G 0] 213)):=((F0).alloc (by simp) _).alloc (by simp;omega) _
 go_enter Tryz.func120,Tryz.ntmps120
 go_upto_region 2 with fail
 have iW:=cf hS
 have x0:∀w',ak (S+1+1+1) (((w.alloc (.cells #[.slice (ad g) 1 cg] 40)).alloc (.cells #[G 5,G 0,Zs] 60)).alloc (.cells #[G 0,G 1,G 2,G 0,G 0,G 0] 213)) w'→w'.cell? ⟨S+1,0,none⟩=some (G 5)∧w'.cell? ⟨S+1,1,none⟩=some (G 0)∧w'.cell? ⟨S+1,2,none⟩=some Zs∧w'.cell? ⟨S+1+1,5,none⟩=some (G 0):=fun w' hl=>
  ⟨Yc ((hl.block (S+1) (by omega)).trans b2),Yc ((hl.block (S+1) (by omega)).trans b2),Yc ((hl.block (S+1) (by omega)).trans b2),Yc ((hl.block (S+1+1) (by omega)).trans a3)⟩
 have hx:=x0 _ (ak.refl _ _)
 have X0:=cf x0
 have L3:=cf l3
 clear a1 a2 a3 u1 u2 u3 s1 s2 b2 hS x0 l3
 obtain⟨t3,lZ⟩:∃t,t=S+1:=⟨_,rfl⟩
 obtain⟨t5,gh⟩:∃t,t=S+1+1:=⟨_,rfl⟩
 rw[←gh,←lZ]at hx⊢
 rw[←gh,←lZ]at X0
 clear lZ gh
 generalize((w.alloc (.cells #[.slice (ad g) 1 cg] 40)).alloc (.cells #[G 5,G 0,Zs] 60)).alloc (.cells #[G 0,G 1,G 2,G 0,G 0,G 0] 213)=w3 at hx X0 L3 s3⊢
 obtain⟨y0,y1,y2,y3⟩:=hx
 go_quiet(fail)
 have z:=X0.out (w3.drewN nq) ((ak.refl _ w3).drewN nq)
 obtain⟨z0,z1,z2,z3⟩:=z
 have HF:=cf (show ak w.heap.size w (w3.drewN nq)from L3.out.drewN nq)
 clear y0 y1 y2 y3
 generalize w3.drewN nq=w4 at z0 z1 z2 z3 HF⊢
 go_wp2_with fail
 go_loopw[6] (fun i wr=>i=G 0∧wr=w4) (fun _ _=>0)
 case atStart=>exact⟨rfl,rfl⟩
 case round=>
  obtain⟨rfl,rfl⟩:=hrel
  go_wp2_with fail
  go_ret
  exact⟨rfl,HF.out⟩
end
section
set_option maxRecDepth 100000
set_option maxHeartbeats 8000000
def lr (w:World) (fb fc ab ac gm cm g cg:Nat):Prop:=∃Lq Lu,w.heap[fb]?=some (.cells Lq 40 (0,0))∧Lq[0]?=some (.slice (ad gm) 1 cm)∧Lq[1]?=some (.slice (ad g) 1 cg)∧w.heap[ab]?=some (.cells Lu 3 (0,0))∧Lu[0]?=some (G 0)∧Lu[1]?=some (G 1)∧2≤fc∧2≤ac∧1≤cm∧1≤cg
theorem lr.low {w w':World} {fb fc ab ac gm cm g cg:Nat} (h:lr w fb fc ab ac gm cm g cg) (hl:ak w.heap.size w w'):lr w' fb fc ab ac gm cm g cg:=by
 obtain⟨Lq,Lu,h1,h2,h3,h4,r⟩:=h
 exact⟨Lq,Lu,hl.some h1,h2,h3,hl.some h4,r⟩
structure kC (l:List aE) (ret:Int):Prop where
 form:∀o∈l,eZ o
 small:∀o∈l,o.res≤100
 res:gJ l
 use:∀(k:Nat) (o:aE),l[k]?=some o→∀v∈bl o,bs l k v
 ret:bs l l.length ret
theorem eZ.okR {o:aE} (h:eZ o) (hs:o.res≤100):Lv o:=by
 refine⟨h.1,?_,hs⟩
 cases hr:bR o.code with
 |true=>have:=h.2.1 hr;omega
 |false=>have:=h.2.2.1 hr;omega
variable {l:List aE}
theorem kC.ok {ret:Int} (h:kC l ret):∀o∈l,Lv o:=fun o ho=>(h.form o ho).okR (h.small o ho)
theorem bs.ko {k:Nat} {v:Int} (h:bs l k v):0≤v:=by
 rcases h with rfl|h
 ·exact Int.le_refl _
 ·omega
theorem Aj (w:World) (fb fc ab ac gm cm:Nat) (g cg:Nat) (Pp:Option Addr) (pc:Nat) (A:Option Addr) (n c:Nat) (T:Option Addr) (tc:Nat) (l:List aE) (ret:Int) (hp:lr w fb fc ab ac gm cm g cg) (h:fe w g Pp pc A n c T tc l ret) (hn:n≤40) (bB:kC l ret):
 Calls Tryz.prog 44 #[.agg #[.slice (ad fb) 2 fc,.slice (ad ab) 2 ac,G 0,G (-1),Zs,Zs],G 1] w (fun e w'=>e=.returned (.bool true)∧ak w.heap.size w w'):=by
 have rm:=hp
 obtain⟨S,hS⟩:∃S,w.heap.size=S:=⟨_,rfl⟩
 obtain⟨a1,s1,u1⟩:=av (.cells #[.slice (ad fb) 2 fc,.slice (ad ab) 2 ac,G 0,G (-1),Zs,Zs] 34) hS
 obtain⟨a2,s2,u2⟩:=av (.cells #[.slice (ad g) 1 cg] 40) s1
 have b1:=u2 _ _ a1
 have l1:ak w.heap.size w (w.alloc (.cells #[.slice (ad fb) 2 fc,.slice (ad ab) 2 ac,G 0,G (-1),Zs,Zs] 34)):=F0
 have l2:ak w.heap.size w ((w.alloc (.cells #[.slice (ad fb) 2 fc,.slice (ad ab) 2 ac,G 0,G (-1),Zs,Zs] 34)).alloc (.cells #[.slice (ad g) 1 cg] 40)):=l1.alloc (by simp) _
 obtain⟨Lq,Lu,f1,f2,f3,f4,f5,f6,f7,f8,f9,f10⟩:=hp
 have x1:(w.alloc (.cells #[.slice (ad fb) 2 fc,.slice (ad ab) 2 ac,G 0,G (-1),Zs,Zs] 34)).cell? ⟨fb,1,none⟩=some (.slice (ad g) 1 cg):=(Yc (l1.some f1)).trans f3
 have X3:Hid (∀w',ak w.heap.size w w'→w'.cell? ⟨ab,1,none⟩=some (G 1)):=cf fun w' hl=>(Yc (hl.some f4)).trans f6
 have H:=cf h;have dA:=cf bB
 have HC:=cf f10
 have H2:=cf (h.low l2)
 have kE:(1:Nat)<ac:=by omega
 clear h bB f1 f2 f3 f4 f5 f6 l1 u1 u2 a1 rm
 go_enter Tryz.func44,Tryz.ntmps44
 go_upto_region 2 with fail
 have iW:=cf hS
 obtain⟨t5,gh⟩:∃t,t=S+1:=⟨_,rfl⟩
 rw[←gh]at a2 s2⊢
 have HS2:=cf s2
 have L2:=cf l2
 have B1:=cf b1;have A2:=cf a2
 clear hS gh s1 s2 x1 l2 b1 a2
 generalize(w.alloc (.cells #[.slice (ad fb) 2 fc,.slice (ad ab) 2 ac,G 0,G (-1),Zs,Zs] 34)).alloc (.cells #[.slice (ad g) 1 cg] 40)=w2 at L2 B1 A2 HS2 H2⊢
 have HX:Hid (∀w',ak w2.heap.size w2 w'→w'.cell? ⟨S,0,none⟩=some (.slice (ad fb) 2 fc)∧w'.cell? ⟨S,1,none⟩=some (.slice (ad ab) 2 ac)∧w'.cell? ⟨S,2,none⟩=some (G 0)∧w'.cell? ⟨S,3,none⟩=some (G (-1))∧w'.cell? ⟨S,4,none⟩=some Zs∧w'.cell? ⟨S,5,none⟩=some Zs∧w'.cell? ⟨t5,0,none⟩=some (.slice (ad g) 1 cg)):=
  cf fun w' hl=>⟨Yc (hl.some B1.out),Yc (hl.some B1.out),Yc (hl.some B1.out),Yc (hl.some B1.out),Yc (hl.some B1.out),Yc (hl.some B1.out),Yc (hl.some A2.out)⟩
 clear B1 A2 HS2
 obtain⟨y0,y1,y2,y3,y4,y5,z0⟩:=HX.out w2 (ak.refl _ _)
 go_upto_region 4 with fail
 obtain⟨kz,r0,r1,r2,r3,r4,r5⟩:=H2.out.row
 have p0:w2.cell? ⟨g,0,none⟩=some (.slice Pp 1 pc):=(Yc r0).trans r1
 have x3:=X3.out w2 L2.out
 clear r0 r1 r2 r3 r4 r5
 go_quiet(fail)
 have L3:=cf (L2.out.drewN nq)
 have Hm:ak w2.heap.size w2 (w2.drewN nq):=(ak.refl _ w2).drewN nq
 have H3:=cf (H2.out.low Hm)
 have D3:Hid (∀w',ak (w2.drewN nq).heap.size (w2.drewN nq) w'→w'.cell? ⟨S,0,none⟩=some (.slice (ad fb) 2 fc)∧w'.cell? ⟨S,1,none⟩=some (.slice (ad ab) 2 ac)∧w'.cell? ⟨S,2,none⟩=some (G 0)∧w'.cell? ⟨S,3,none⟩=some (G (-1))∧w'.cell? ⟨S,4,none⟩=some Zs∧w'.cell? ⟨S,5,none⟩=some Zs∧w'.cell? ⟨t5,0,none⟩=some (.slice (ad g) 1 cg)):=
  cf fun w' hl=>HX.out w' (Hm.trans (hl.mono Hm.size))
 clear y0 y1 y2 y3 y4 y5 z0 p0 x3 HX H2 L2 Hm
 generalize w2.drewN nq=w3 at L3 H3 D3⊢
 go_upto_region 7 with fail
 go_loopw[6] (fun i wr=>(i=G 0∧wr=w3)∨(i=G 1∧ak w3.heap.size w3 wr)) (fun i _=>1-(intOf i).toNat)
 case atStart=>exact .inl ⟨rfl,rfl⟩
 case round=>
  rcases hrel with⟨rfl,rfl⟩|⟨rfl,hL⟩
  ·obtain⟨w3,rfl⟩:∃u,u=wr:=⟨_,rfl⟩
   obtain⟨y0,y1,y2,y3,y4,y5,z0⟩:=D3.out w3 (ak.refl _ _)
   have h1:=H3.out
   obtain⟨kz,r0,r1,r2,r3,r4,r5⟩:=h1.row
   obtain⟨p0,p1,p2,p3,p4⟩:=mV r0 r1 r2 r3 r4 r5
   have l4:ak w3.heap.size w3 (w3.alloc (.cells #[.slice Pp 1 pc,.slice A n c,G 4,G ret,.slice T 0 tc] 62)):=F0
   have a4:=ao w3 (.cells #[.slice Pp 1 pc,.slice A n c,G 4,G ret,.slice T 0 tc] 62)
   clear r0 r1 r2 r3 r4 r5 h1
   go_upto_region 11 with fail
   obtain⟨t7,oJ⟩:∃t,t=w3.heap.size:=⟨_,rfl⟩
   rw[←oJ]at a4⊢
   have L4:=cf l4;have A4:=cf a4
   have H4:=cf (H3.out.low l4)
   clear p0 p1 p2 p3 p4 y0 y1 y2 y3 y4 y5 z0 oJ l4 a4
   generalize w3.alloc (.cells #[.slice Pp 1 pc,.slice A n c,G 4,G ret,.slice T 0 tc] 62)=w4 at L4 A4 H4⊢
   go_loopw[8] (fun i wx=>∃q:Nat,i=G q∧q≤n∧ak w4.heap.size w4 wx) (fun i _=>n-(intOf i).toNat)
   case atStart=>exact⟨0,rfl,by omega,ak.refl _ _⟩
   case round=>
    obtain⟨q,rfl,hq,hL⟩:=hrel
    obtain⟨wv,rfl⟩:∃u,u=wr:=⟨_,rfl⟩
    obtain⟨y0,y1,y2,y3,y4,y5,z0⟩:=D3.out wv (L4.out.trans (hL.mono L4.out.size))
    have v0:=jw (hL.some A4.out)
    by_cases bw:q<n
    ·have hv:=H4.out.low hL
     have bN:(q:Int)<(n:Int):=by omega
     have nu:(0:Int)≤(q:Int):=by omega
     have mI:(q:Int)≤40:=by omega
     obtain⟨o,ho⟩:∃o,l[q]?=some o:=⟨_,List.getElem?_eq_getElem (by have:=hv.ops.1;omega)⟩
     obtain⟨ga,cs,rfl,qD,hg,k0,k1,k2,k3,k4,k5⟩:=hv.ops.2 q o ho
     have c0:=iw hg k0 k1 k2 k3 k4 k5
     have hf:=FQ wv.drew fb fc ab ac o (dA.out.form o (List.mem_of_getElem? ho))
     have ld:ak wv.heap.size wv wv.drew:=(ak.refl _ wv).drew
     have lH:(wv.drew.cell? ⟨S,0,none⟩=some (.slice (ad fb) 2 fc)∧wv.drew.cell? ⟨S,1,none⟩=some (.slice (ad ab) 2 ac)∧wv.drew.cell? ⟨S,2,none⟩=some (G 0)∧wv.drew.cell? ⟨S,3,none⟩=some (G (-1))∧wv.drew.cell? ⟨S,4,none⟩=some Zs∧wv.drew.cell? ⟨S,5,none⟩=some Zs)∧wv.drew.cell? ⟨t7,1,none⟩=some (.slice (ad ga) n c)∧wv.drew.cell? ⟨ga,q*6,none⟩=some (G o.code)∧wv.drew.cell? ⟨ga,q*6+1,none⟩=some (G o.res)∧wv.drew.cell? ⟨ga,q*6+2,none⟩=some (G o.a)∧wv.drew.cell? ⟨ga,q*6+3,none⟩=some (G o.b)∧wv.drew.cell? ⟨ga,q*6+4,none⟩=some (.int .u16 o.n)∧wv.drew.cell? ⟨ga,q*6+5,none⟩=some Zs:=⟨⟨y0,y1,y2,y3,y4,y5⟩,v0,c0⟩
     have ly:Hid (∀w',ak wv.drew.heap.size wv.drew w'→(w'.cell? ⟨S,0,none⟩=some (.slice (ad fb) 2 fc)∧w'.cell? ⟨S,1,none⟩=some (.slice (ad ab) 2 ac)∧w'.cell? ⟨S,2,none⟩=some (G 0)∧w'.cell? ⟨S,3,none⟩=some (G (-1))∧w'.cell? ⟨S,4,none⟩=some Zs∧w'.cell? ⟨S,5,none⟩=some Zs)∧w'.cell? ⟨t7,1,none⟩=some (.slice (ad ga) n c)∧w'.cell? ⟨ga,q*6,none⟩=some (G o.code)∧w'.cell? ⟨ga,q*6+1,none⟩=some (G o.res)∧w'.cell? ⟨ga,q*6+2,none⟩=some (G o.a)∧w'.cell? ⟨ga,q*6+3,none⟩=some (G o.b)∧w'.cell? ⟨ga,q*6+4,none⟩=some (.int .u16 o.n)∧w'.cell? ⟨ga,q*6+5,none⟩=some Zs):=cf fun w' hl=>by
      have gS:=ld.trans (hl.mono ld.size)
      obtain⟨y0,y1,y2,y3,y4,y5,z0⟩:=D3.out w' (L4.out.trans ((hL.trans (gS.mono hL.size)).mono L4.out.size))
      have mw:=gS.some hg
      exact⟨⟨y0,y1,y2,y3,y4,y5⟩,Yc (gS.some (hL.some A4.out)),(Yc mw).trans k0,(Yc mw).trans k1,(Yc mw).trans k2,(Yc mw).trans k3,(Yc mw).trans k4,(Yc mw).trans k5⟩
     have je:=cf (hL.trans (ld.mono hL.size))
     clear hv hg k0 k1 k2 k3 k4 k5 ho hL ld
     go_upto_region 13 with fail
     clear y0 y1 y2 y3 y4 y5 v0 c0 z0
     refine wp_region_noPanic ?_
     refine wp_region_held_drew (S:=fun w'=>(w'.cell? ⟨S,0,none⟩=some (.slice (ad fb) 2 fc)∧w'.cell? ⟨S,1,none⟩=some (.slice (ad ab) 2 ac)∧w'.cell? ⟨S,2,none⟩=some (G 0)∧w'.cell? ⟨S,3,none⟩=some (G (-1))∧w'.cell? ⟨S,4,none⟩=some Zs∧w'.cell? ⟨S,5,none⟩=some Zs)∧w'.cell? ⟨t7,1,none⟩=some (.slice (ad ga) n c)∧w'.cell? ⟨ga,q*6,none⟩=some (G o.code)∧w'.cell? ⟨ga,q*6+1,none⟩=some (G o.res)∧w'.cell? ⟨ga,q*6+2,none⟩=some (G o.a)∧w'.cell? ⟨ga,q*6+3,none⟩=some (G o.b)∧w'.cell? ⟨ga,q*6+4,none⟩=some (.int .u16 o.n)∧w'.cell? ⟨ga,q*6+5,none⟩=some Zs) (by kernel_rfl) (by exact(by exact lH)) (fun af=>?_)
     generalize wv.drew=wd at af lH ly je hf⊢
     refine tk 0 af ?_
     refine tk 1 af ?_
     refine tk 2 af ?_
     refine tk 3 af ?_
     refine tk 4 af ?_
     refine tk 5 af ?_
     refine aG 6 fun KK aI=>?_
     refine aR rfl 119 #[.agg #[.slice (ad fb) 2 fc,.slice (ad ab) 2 ac,G 0,G (-1),Zs,Zs],OV o] (by go_simp) (fun v w'=>v=.bool true∧ak wd.heap.size wd w') (hf.mono (by rintro e w' ⟨rfl,he⟩;exact⟨_,rfl,rfl,he⟩)) ?_
     rintro v w6 ⟨rfl,l6⟩
     have L6:=cf l6
     clear l6
     refine aI.out _ _ (by exact(ly.out _ L6.out)) (fun af=>?_)
     clear aI KK
     (try simp only[Act.put,bh])
     refine tk 7 af ?_
     refine wpAnyH_done (by kernel_rfl) ?_ _
     refine NoPanic.normal ?_
     go_wp2_with fail
     exact⟨⟨q+1,by simp,bw,je.out.trans (L6.out.mono je.out.size)⟩,by show n-((q:Int)+1).toNat<n-((q:Int)).toNat;omega⟩
    ·have bN:¬(q:Int)<(n:Int):=by omega
     have h4:=H4.out.low hL
     obtain⟨kz,r0,r1,r2,r3,r4,r5⟩:=h4.row
     have v2:=rn (hL.some A4.out)
     have v3:=mM (hL.some A4.out)
     have v4:=vE (hL.some A4.out)
     have n9:=Kv wv g cg Pp pc A n c T tc l ret h4 dA.out.ret.ko
     have HL:=cf (L4.out.trans (hL.mono L4.out.size))
     clear hL h4 r0 r1 r2 r3 r4 r5
     go_wp2_with(first
      |(go_at_call 120;refine n9.mono ?_;rintro e w6 ⟨rfl,l6⟩))
     exact⟨.inr ⟨rfl,HL.out.trans (l6.mono HL.out.size)⟩,by decide⟩
  ·obtain⟨w5,rfl⟩:∃u,u=wr:=⟨_,rfl⟩
   obtain⟨N,hN⟩:∃N:Nat,de l=(N:Int):=⟨(de l).toNat,by have:=ey l;omega⟩
   have Lm:N≤101:=by have:=dH dA.out.ok;omega
   have wK:1≤N:=by have:=ey l;omega
   obtain⟨y0,y1,y2,y3,y4,y5,z0⟩:=D3.out w5 hL
   have vb:=Pc w5 g cg Pp pc A n c T tc l ret (H3.out.low hL) hn dA.out.ok dA.out.res N hN
   have L5:=cf hL;have HN:=cf hN
   clear hL hN y0 y1 y2 y3 y4 y5
   go_upto_region 20 with(first
    |(go_at_call 121;refine vb.mono ?_;rintro e w6 ⟨l6,D,rfl,hD⟩))
   have L6:=cf (L5.out.trans (l6.mono L5.out.size))
   have D6:=cf hD
   clear l6 hD vb z0
   obtain⟨y0,y1,y2,y3,y4,y5,z0⟩:=D3.out w6 L6.out
   have wk:=J8 w6 g cg Pp pc A n c T tc l ret (H3.out.low L6.out)
   clear y0 y1 y2 y3 y4 y5
   go_upto_region 22 with(first
    |(go_at_call 123;refine wk.mono ?_;rintro e w7 ⟨l7,gb,gc,rfl,ZW⟩;have WJ:=Dl w7 gb gc ZW)
    |(go_at_call 122;refine WJ.mono ?_;rintro e w8 ⟨l8,DA,dc,rfl,hdc,zn⟩))
   have L8:=cf (L6.out.trans ((l7.trans (l8.mono l7.size)).mono L6.out.size))
   have D8:=cf ((D6.out.low l7).low l8)
   have HDA:=cf zn
   clear l7 l8 zn WJ ZW wk z0 D6 L5
   go_loopw[14] (fun i wr=>(i=G 0∧wr=w8)∨(i=G 1∧ak w8.heap.size w8 wr)) (fun i _=>1-(intOf i).toNat)
   case atStart=>exact .inl ⟨rfl,rfl⟩
   case round=>
    rcases hrel with⟨rfl,rfl⟩|⟨rfl,hL⟩
    ·obtain⟨w8,rfl⟩:∃u,u=wr:=⟨_,rfl⟩
     obtain⟨y0,y1,y2,y3,y4,y5,z0⟩:=D3.out w8 L8.out
     have h1:=H3.out.low L8.out
     obtain⟨kz,r0,r1,r2,r3,r4,r5⟩:=h1.row
     obtain⟨p0,p1,p2,p3,p4⟩:=mV r0 r1 r2 r3 r4 r5
     have l9:ak w8.heap.size w8 (w8.alloc (.cells #[.slice Pp 1 pc,.slice A n c,G 4,G ret,.slice T 0 tc] 62)):=F0
     have a9:=ao w8 (.cells #[.slice Pp 1 pc,.slice A n c,G 4,G ret,.slice T 0 tc] 62)
     clear r0 r1 r2 r3 r4 r5 h1
     go_upto_region 25 with fail
     obtain⟨t15,sQ⟩:∃t,t=w8.heap.size:=⟨_,rfl⟩
     rw[←sQ]at a9⊢
     have L9:=cf (L8.out.trans (l9.mono L8.out.size));have A9:=cf a9
     have D9:=cf (D8.out.low l9)
     have X4:=HDA.out.low l9
     have PN:=cf X4
     have XL:=cf l9
     clear p0 p1 p2 p3 p4 y0 y1 y2 y3 y4 y5 z0 sQ l9 a9
     generalize w8.alloc (.cells #[.slice Pp 1 pc,.slice A n c,G 4,G ret,.slice T 0 tc] 62)=w9 at L9 A9 D9 X4 PN XL⊢
     obtain⟨dg,dcs,dr,drs,rfl,Li,Lh,Ob,Oa⟩:=X4
     have e1:w9.cell? ⟨dg,0,none⟩=some (.slice (ad dr) 1 1):=(Yc Li).trans Lh
     have e2:w9.cell? ⟨dr,0,none⟩=some (.bool true):=(Yc Ob).trans Oa
     clear Li Lh Ob Oa
     go_upto_region 28 with fail
     clear e1 e2
     go_loopw[16] (fun i wx=>∃q:Nat,i=G q∧q≤n∧ak w9.heap.size w9 wx) (fun i _=>n-(intOf i).toNat)
     case atStart=>exact⟨0,rfl,by omega,ak.refl _ _⟩
     case round=>
      obtain⟨q,rfl,hq,hL⟩:=hrel
      obtain⟨wv,rfl⟩:∃u,u=wr:=⟨_,rfl⟩
      have v0:=jw (hL.some A9.out)
      have hlen:l.length=n:=H.out.ops.1
      by_cases bw:q<n
      ·have hv:=(H3.out.low L9.out).low hL
       have bN:(q:Int)<(n:Int):=by omega
       have nu:(0:Int)≤(q:Int):=by omega
       have mI:(q:Int)≤40:=by omega
       obtain⟨o,ho⟩:∃o,l[q]?=some o:=⟨_,List.getElem?_eq_getElem (by have:=hv.ops.1;omega)⟩
       obtain⟨ga,cs,rfl,qD,hg,k0,k1,k2,k3,k4,k5⟩:=hv.ops.2 q o ho
       have c0:=iw hg k0 k1 k2 k3 k4 k5
       have Yl:=Br wv o (dA.out.form o (List.mem_of_getElem? ho)).1
       have kr:=dA.out.use q o ho
       have hol:(bl o).length≤2:=by unfold bl dv il;split<;>split<;>simp
       have HL:=cf hL;have HU:=cf kr
       have Qs:∀w6,ak wv.heap.size wv w6→∀(B:Option Addr) (m d:Nat),bW w6 wv.heap.size B m d (bl o)→Calls Tryz.prog 124 #[.slice B m d,G 0,G q,.slice (ad D) N N,.slice (ad dg) 1 dc] w6 (fun e w'=>e=.returned (.bool true)∧ak w6.heap.size w6 w'):=fun w6 l6 B m d hB=>
        yj w6 B m d (bl o) q D N n dc l (ad dg) hB.Ek (by have:=hB.1;omega) ((D9.out.low HL.out).low l6) hlen HN.out hq (by omega) Lm ((PN.out.low HL.out).low l6) hdc HU.out
       have HK:=cf Qs
       clear hv hg k0 k1 k2 k3 k4 k5 ho hL kr Qs
       go_wp2_with(first
        |(go_at_call 125;refine Yl.mono ?_;rintro e w6 ⟨l6,B,m,d,rfl,hB⟩;have wj:=HK.out w6 l6 B m d hB)
        |(go_at_call 124;refine wj.mono ?_;rintro e w7 ⟨rfl,l7⟩))
       exact⟨⟨q+1,by simp,bw,HL.out.trans ((l6.trans (l7.mono l6.size)).mono HL.out.size)⟩,by show n-((q:Int)+1).toNat<n-((q:Int)).toNat;omega⟩
      ·have bN:¬(q:Int)<(n:Int):=by omega
       have TP:=pT wv.drew ret T tc dA.out.ret.ko
       have ld:ak wv.heap.size wv wv.drew:=(ak.refl _ wv).drew
       have lH:wv.drew.cell? ⟨t15,1,none⟩=some (.slice A n c)∧wv.drew.cell? ⟨t15,2,none⟩=some (G 4)∧wv.drew.cell? ⟨t15,3,none⟩=some (G ret)∧wv.drew.cell? ⟨t15,4,none⟩=some (.slice T 0 tc):=⟨Yc (hL.some A9.out),Yc (hL.some A9.out),Yc (hL.some A9.out),Yc (hL.some A9.out)⟩
       have ly:Hid (∀w',ak wv.drew.heap.size wv.drew w'→w'.cell? ⟨t15,1,none⟩=some (.slice A n c)∧w'.cell? ⟨t15,2,none⟩=some (G 4)∧w'.cell? ⟨t15,3,none⟩=some (G ret)∧w'.cell? ⟨t15,4,none⟩=some (.slice T 0 tc)):=cf fun w' hl=>by
        have gS:=(hL.trans ((ld.trans (hl.mono ld.size)).mono hL.size)).some A9.out
        exact⟨Yc gS,Yc gS,Yc gS,Yc gS⟩
       have je:=cf (hL.trans (ld.mono hL.size))
       have Qs:∀w6,ak wv.drew.heap.size wv.drew w6→∀(B:Option Addr) (d:Nat),bW w6 wv.drew.heap.size B 1 d [ret]→Calls Tryz.prog 124 #[.slice B 1 d,G 0,G n,.slice (ad D) N N,.slice (ad dg) 1 dc] w6 (fun e w'=>e=.returned (.bool true)∧ak w6.heap.size w6 w'):=fun w6 l6 B d hB=>
        yj w6 B 1 d [ret] n D N n dc l (ad dg) hB.Ek (by omega) (((D9.out.low hL).low ld).low l6) hlen HN.out (Nat.le_refl _) (by omega) Lm (((PN.out.low hL).low ld).low l6) hdc (by intro v hv;simp at hv;subst hv;rw[←hlen];exact dA.out.ret)
       have HK:=cf Qs
       clear hL Qs ld
       go_upto_region 33 with fail
       clear v0
       refine wp_region_noPanic ?_
       refine wp_region_held_drew (S:=fun w'=>w'.cell? ⟨t15,1,none⟩=some (.slice A n c)∧w'.cell? ⟨t15,2,none⟩=some (G 4)∧w'.cell? ⟨t15,3,none⟩=some (G ret)∧w'.cell? ⟨t15,4,none⟩=some (.slice T 0 tc)) (by kernel_rfl) (by exact(by exact lH)) (fun af=>?_)
       generalize wv.drew=wd at af lH ly je TP HK⊢
       refine tk 0 af ?_
       refine tk 1 af ?_
       refine tk 3 af ?_
       refine tk 4 af ?_
       refine tk 5 af ?_
       refine tk 6 af ?_
       refine tk 7 af ?_
       refine tk 8 af ?_
       refine aG 2 fun KK aI=>?_
       refine aR rfl 126 #[.agg #[G 4,G ret,.slice T 0 tc]] (by go_simp) (fun v w'=>ak wd.heap.size wd w'∧∃A c,v=.slice A 1 c∧bW w' wd.heap.size A 1 c [ret]) (TP.mono (by rintro e w' ⟨hl,A,c,rfl,ho⟩;exact⟨_,rfl,hl,A,c,rfl,ho⟩)) ?_
       rintro v w6 ⟨l6,B,d,rfl,hB⟩
       have wj:=HK.out w6 l6 B d hB
       have L6:=cf l6
       clear l6 hB
       refine aI.out _ _ (by exact(ly.out _ L6.out)) (fun af=>?_)
       clear aI KK
       (try simp only[Act.put,bh])
       refine aG 9 fun KK aI=>?_
       refine aR rfl 124 #[.slice B 1 d,G 0,G n,.slice (ad D) N N,.slice (ad dg) 1 dc] (by go_simp) (fun v w'=>v=.bool true∧ak w6.heap.size w6 w') (wj.mono (by rintro e w' ⟨rfl,he⟩;exact⟨_,rfl,rfl,he⟩)) ?_
       rintro v w7 ⟨rfl,l7⟩
       have L7:=cf (L6.out.trans (l7.mono L6.out.size))
       clear l7
       refine aI.out _ _ (by exact(ly.out _ L7.out)) (fun af=>?_)
       clear aI KK
       (try simp only[Act.put,bh])
       refine tk 10 af ?_
       refine wpAnyH_done (by kernel_rfl) ?_ _
       refine NoPanic.normal ?_
       go_wp2_with fail
       exact⟨.inr ⟨rfl,XL.out.trans ((je.out.trans (L7.out.mono je.out.size)).mono XL.out.size)⟩,by decide⟩
    ·obtain⟨y0,y1,y2,y3,y4,y5,z0⟩:=D3.out wr (L8.out.trans (hL.mono L8.out.size))
     have HL:=cf (L3.out.trans ((L8.out.trans (hL.mono L8.out.size)).mono L3.out.size))
     clear hL y0 y1 y2 y3 y4 y5
     go_wp2_with fail
     go_ret
     exact⟨rfl,HL.out⟩
end
end Go.Proofs.YtjkahfmdcpfjjaaGreat
