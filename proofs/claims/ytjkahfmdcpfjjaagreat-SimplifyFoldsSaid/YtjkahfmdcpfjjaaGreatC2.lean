/- The reference: rows of numbers; the values that an operation uses. -/
import Derived.Test.YtjkahfmdcpfjjaaGreatBX
set_option linter.unusedVariables false
namespace Go.Proofs.YtjkahfmdcpfjjaaGreat
open Go.RowKit
section
set_option maxRecDepth 100000
set_option maxHeartbeats 16000000
variable {w:World}
theorem cb {P:Program} {ops:Array Oper} {o:Oper} {a:Act} {KK:Act→World→Prop} {Q:Exit→Act→World→Prop} {E:Prop} (hw:Region.wanted o (yielded ops a.tmps)=true) (f:FuncId) (args:Array Value) (hr:(execOp a.eval o).run P w=.ok (.enter f args) w)
 (R:Value→World→Prop) (hc:Calls P f args w (fun e w'=>∃v,e=.returned v∧R v w')) (h:∀v w',R v w'→KK (a.put o.dst v) w'):if Region.wanted o (yielded ops a.tmps)=true then Oper.wp P o a w KK Q else E:=by
 rw[if_pos hw]
 unfold Oper.wp
 rw[hr,Oper.upon_enter]
 refine hc.mono ?_
 rintro e w' ⟨v,rfl,hR⟩
 exact h v w' hR
def Hd (o:aE):Prop:=o.code=1∧o.a=0
variable {c g j n:Nat} {L:List aE} {y:aE}
theorem me (h:dk w (ad g) n c L) (hy:L[j]?=some y) (hd:Hd y):w.cell? ⟨g,j*6,none⟩=some (G 1)∧w.cell? ⟨g,j*6+1,none⟩=some (G y.res)∧w.cell? ⟨g,j*6+2,none⟩=some (G 0)∧w.cell? ⟨g,j*6+3,none⟩=some (G y.b)∧w.cell? ⟨g,j*6+4,none⟩=some (.int .u16 y.n)∧w.cell? ⟨g,j*6+5,none⟩=some Zs:=by
 obtain⟨g',cs,e,_,hg,k0,k1,k2,k3,k4,k5⟩:=h.2 j y hy
 cases e
 rw[hd.1]at k0
 rw[hd.2]at k2
 exact⟨(Yc hg).trans k0,(Yc hg).trans k1,(Yc hg).trans k2,(Yc hg).trans k3,(Yc hg).trans k4,(Yc hg).trans k5⟩
theorem J1 (h:dk w (ad g) n c L) (hy:L[j]?=some y) (i:Nat):w.frozen? ⟨g,i,none⟩=false:=by
 obtain⟨g',cs,e,_,hg,_⟩:=h.2 j y hy
 cases e
 exact au hg
theorem LR {x:aE} (h:dk w (ad g) n c L) (hj:0<j) (hjn:j<n) (hx:L[j-1]?=some x) (hy:L[j]?=some y) (WI:Hd x) (WH:Hd y):
 ∀w',w'=((((((((((((w.setCell ⟨g,j*6,none⟩ (G 1)).setCell ⟨g,j*6+1,none⟩ (G x.res)).setCell ⟨g,j*6+2,none⟩ (G 0)).setCell ⟨g,j*6+3,none⟩ (G x.b)).setCell ⟨g,j*6+4,none⟩ (.int .u16 x.n)).setCell ⟨g,j*6+5,none⟩ Zs).setCell ⟨g,(j-1)*6,none⟩ (G 1)).setCell ⟨g,(j-1)*6+1,none⟩ (G y.res)).setCell ⟨g,(j-1)*6+2,none⟩ (G 0)).setCell ⟨g,(j-1)*6+3,none⟩ (G y.b)).setCell ⟨g,(j-1)*6+4,none⟩ (.int .u16 y.n)).setCell ⟨g,(j-1)*6+5,none⟩ Zs)→dk w' (ad g) n c (Tx L j x y)∧aY [g] w w':=by
 rintro w' rfl
 obtain⟨g',e,h'⟩:=h.Vn (by rintro rfl;simp at hy)
 cases e
 obtain⟨h1,c1,z1⟩:=yZ h' hjn x _ rfl
 obtain⟨h2,c2,z2⟩:=yZ h1 (show j-1<n by omega) y _ rfl
 rw[WI.1,WI.2]at h2 c1 c2
 rw[WH.1,WH.2]at h2 c2
 exact⟨h2.LL,c1.trans c2⟩
def ta (S:Nat) (w:World) (g n c:Nat) (l:List aE) (wr:World) (L:List aE):Prop:=af3 S w wr g∧dk wr (ad g) n c L∧L.Perm l
theorem ta.low {S:Nat} {wr wr':World} {l:List aE} (h:ta S w g n c l wr L) (hS:S≤w.heap.size) (hl:ak wr.heap.size wr wr'):ta S w g n c l wr' L:=
 ⟨⟨h.1.1.trans (hl.mono (Nat.le_trans hS h.1.1.size)),fun K hk=>(h.1.2 K hk).low hl⟩,h.2.1.low hl,h.2.2⟩
theorem Fg (S:Nat) (w:World) (g n c:Nat) (l:List aE) (h:dk w (ad g) n c l) (hd:∀o∈l,Hd o) (hn:n≤12) (hS:S≤w.heap.size) (hg:S≤g):
 Calls Tryz.prog 209 #[.slice (ad g) n c,G 0,G n,.func (.func 116) #[] #[]] w (fun e w'=>e=.returned (.tuple #[])∧∃L,ta S w g n c l w' L∧Ord n L):=by
 have H0:Hid (ta S w g n c l w l):=cf ⟨⟨ak.refl _ _,fun K hk=>hk⟩,h,List.Perm.refl _⟩
 have HD:=cf hd
 have hlen:Hid (∀L:List aE,L.Perm l→L.length=n):=cf (fun L hp=>hp.length_eq.trans h.1)
 clear h hd
 go_enter Tryz.func209,Tryz.ntmps209
 go_wp2_with fail
 go_loopw[8] (fun i wr=>∃(q:Nat) (L:List aE),i=G q∧1≤q∧(q≤n∨q=1)∧ta S w g n c l wr L∧Ord q L) (fun i _=>n-(intOf i).toNat)
 case atStart=>exact⟨1,l,rfl,by omega,.inr rfl,H0.out,fun p q x y hp hq h1 h2=>by omega⟩
 case round=>
  obtain⟨wv,rfl⟩:∃u,u=wr:=⟨_,rfl⟩
  obtain⟨i,L,rfl,DY,Sq,hQ,hO⟩:=hrel
  have HQ:=cf hQ;have HO:=cf hO
  clear hQ hO
  by_cases bw:i<n
  ·have bN:(i:Int)<(n:Int):=by omega
   have ao2:(i:Int)≤12:=by omega
   go_wp2_with fail
   go_loopw[9] (fun jj wr=>∃(j:Nat) (L:List aE),jj=G j∧j≤i∧ta S w g n c l wr L∧QG i j L) (fun jj _=>(intOf jj).toNat)
   case atStart=>exact⟨i,L,rfl,Nat.le_refl _,HQ.out,QG.start HO.out⟩
   case round=>
    obtain⟨wy,rfl⟩:∃u,u=wr:=⟨_,rfl⟩
    obtain⟨j,L,rfl,BH,hQ,hI⟩:=hrel
    by_cases hj0:j=0
    ·subst hj0
     have aH:ta S w g n c l wy L∧Ord (i+1) L:=⟨hQ,hI.stop (fun x y h0=>by omega)⟩
     have HF:=cf aH
     clear hQ hI aH
     go_upto_region 4 with fail
     go_quiet(fail)
     go_wp2_with fail
     exact⟨⟨i+1,L,by simp,by omega,.inl bw,HF.out.1.low hS ((ak.refl _ wy).drewN _),HF.out.2⟩,by show n-((i:Int)+1).toNat<n-((i:Int)).toNat;omega⟩
    ·have hjp:0<j:=by omega
     have hj:(0:Int)<(j:Int):=by omega
     obtain⟨k,hk⟩:∃k,k=j-1:=⟨_,rfl⟩
     have Fv:(j:Int)-1=(k:Int):=by omega
     have aw9:(j:Int)≤12:=by omega
     have ax0:(0:Int)≤(j:Int):=by omega
     have sS:(0:Int)≤(k:Int):=by omega
     have hjn:(j:Int)<(n:Int):=by omega
     have Qs:(k:Int)<(n:Int):=by omega
     have aw7:(k:Int)≤12:=by omega
     have hwk:IntKind.i64.wrap ((j:Int)-1)=(k:Int):=by rw[Fv];exact IntWalk.i64_in _ (by omega)
     have hlL:=hlen.out L hQ.2.2
     obtain⟨x,hx⟩:∃x,L[k]?=some x:=⟨_,List.getElem?_eq_getElem (by omega)⟩
     obtain⟨y,hy⟩:∃y,L[j]?=some y:=⟨_,List.getElem?_eq_getElem (by omega)⟩
     have WI:=HD.out x (hQ.2.2.mem_iff.1 (List.mem_of_getElem? hx))
     have WH:=HD.out y (hQ.2.2.mem_iff.1 (List.mem_of_getElem? hy))
     have Yy:ta S w g n c l wy.drew L:=hQ.low hS (ak.refl _ wy).drew
     have av3:IntKind.i64.wrap (k:Int)=(k:Int):=IntWalk.i64_in _ (by omega)
     have lH:=And.intro (me Yy.2.1 hy WH) (me Yy.2.1 hx WI)
     have ly:Hid (∀w',ak wy.drew.heap.size wy.drew w'→(w'.cell? ⟨g,j*6,none⟩=some (G 1)∧w'.cell? ⟨g,j*6+1,none⟩=some (G y.res)∧w'.cell? ⟨g,j*6+2,none⟩=some (G 0)∧w'.cell? ⟨g,j*6+3,none⟩=some (G y.b)∧w'.cell? ⟨g,j*6+4,none⟩=some (.int .u16 y.n)∧w'.cell? ⟨g,j*6+5,none⟩=some Zs)∧w'.cell? ⟨g,k*6,none⟩=some (G 1)∧w'.cell? ⟨g,k*6+1,none⟩=some (G x.res)∧w'.cell? ⟨g,k*6+2,none⟩=some (G 0)∧w'.cell? ⟨g,k*6+3,none⟩=some (G x.b)∧w'.cell? ⟨g,k*6+4,none⟩=some (.int .u16 x.n)∧w'.cell? ⟨g,k*6+5,none⟩=some Zs):=cf (fun w' hl=>And.intro (me (Yy.low hS hl).2.1 hy WH) (me (Yy.low hS hl).2.1 hx WI))
     have HX:=cf hx;have HY:=cf hy;have HDX:=cf WI;have HDY:=cf WH;have YK:=cf Yy;have HI:=cf hI;have HK:=cf hk
     clear hx hy WI WH Yy hI hQ hk
     by_cases hyx:y.n<x.n
     ·have hcw:gU y.n x.n= -1:=by unfold gU;rw[if_pos hyx]
      go_upto_region 4 with fail
      refine wp_region_noPanic ?_
      refine wp_region_held_drew (S:=fun w'=>(w'.cell? ⟨g,j*6,none⟩=some (G 1)∧w'.cell? ⟨g,j*6+1,none⟩=some (G y.res)∧w'.cell? ⟨g,j*6+2,none⟩=some (G 0)∧w'.cell? ⟨g,j*6+3,none⟩=some (G y.b)∧w'.cell? ⟨g,j*6+4,none⟩=some (.int .u16 y.n)∧w'.cell? ⟨g,j*6+5,none⟩=some Zs)∧w'.cell? ⟨g,k*6,none⟩=some (G 1)∧w'.cell? ⟨g,k*6+1,none⟩=some (G x.res)∧w'.cell? ⟨g,k*6+2,none⟩=some (G 0)∧w'.cell? ⟨g,k*6+3,none⟩=some (G x.b)∧w'.cell? ⟨g,k*6+4,none⟩=some (.int .u16 x.n)∧w'.cell? ⟨g,k*6+5,none⟩=some Zs) (by kernel_rfl) (by exact(by exact lH)) (fun af=>?_)
      generalize wy.drew=wd at af lH YK ly⊢
      refine tk 0 af ?_
      refine tk 1 af ?_
      refine tk 2 af ?_
      refine tk 3 af ?_
      refine tk 4 af ?_
      refine tk 5 af ?_
      refine tk 6 af ?_
      refine tk 7 af ?_
      refine tk 8 af ?_
      refine tk 9 af ?_
      refine tk 10 af ?_
      refine tk 11 af ?_
      refine tk 12 af ?_
      refine tk 13 af ?_
      refine aG 14 fun KK aI=>?_
      refine cb (by kernel_rfl) 116 #[.agg #[G 1,G y.res,G 0,G y.b,.int .u16 y.n,Zs],.agg #[G 1,G x.res,G 0,G x.b,.int .u16 x.n,Zs]] (by go_simp) (fun v w'=>v=G (gU y.n x.n)∧ak wd.heap.size wd w') ((CR wd y x).mono (by rintro e w' ⟨rfl,he⟩;exact⟨_,rfl,rfl,he⟩)) ?_
      rintro v w6 ⟨rfl,l6⟩
      have L6:=cf l6
      clear l6
      refine aI.out _ _ (by exact(ly.out _ L6.out)) (fun af=>?_)
      clear aI KK
      (try simp only[Act.put,bh])
      refine tk 15 af ?_
      refine tk 16 af ?_
      refine wpAnyH_done (by kernel_rfl) ?_ _
      refine NoPanic.normal ?_
      go_upto_region 6 with fail
      have DZ:=ly.out w6 L6.out
      obtain⟨⟨y0,y1,y2,y3,y4,y5⟩,x0,x1,x2,x3,x4,x5⟩:=DZ
      have kN:=fun i=>J1 (YK.out.low hS L6.out).2.1 HX.out i
      have Yz:=cf (YK.out.low hS L6.out)
      have ao8:=HDX;have ao7:=HDY
      clear YK ly lH af HDX HDY L6
      go_region
      have zq:j-1=k:=by have:=HK.out;omega
      have Zw:L[j-1]?=some x:=by rw[zq];exact HX.out
      have mJ:=LR Yz.out.2.1 hjp (by omega) Zw HY.out ao8.out ao7.out _ rfl
      rw[zq]at mJ
      have HP:=cf (show ta S w g n c l _ (Tx L j x y)∧QG i k (Tx L j x y)from⟨⟨⟨Yz.out.1.1.trans (mJ.2.low (by simpa using hg) (Nat.le_trans hS Yz.out.1.1.size)),fun K hk=>(Yz.out.1.2 K hk).set.set.set.set.set.set.set.set.set.set.set.set⟩,mJ.1,(LN hjp Zw HY.out).trans Yz.out.2.2⟩,by have:=HI.out.swap hjp BH Zw HY.out hyx;rw[zq]at this;exact this⟩)
      clear mJ x0 x1 x2 x3 x4 x5 y0 y1 y2 y3 y4 y5 Yz kN
      revert HP
      generalize((((((((((((w6.setCell ⟨g,j*6,none⟩ (G 1)).setCell ⟨g,j*6+1,none⟩ (G x.res)).setCell ⟨g,j*6+2,none⟩ (G 0)).setCell ⟨g,j*6+3,none⟩ (G x.b)).setCell ⟨g,j*6+4,none⟩ (.int .u16 x.n)).setCell ⟨g,j*6+5,none⟩ Zs).setCell ⟨g,k*6,none⟩ (G 1)).setCell ⟨g,k*6+1,none⟩ (G y.res)).setCell ⟨g,k*6+2,none⟩ (G 0)).setCell ⟨g,k*6+3,none⟩ (G y.b)).setCell ⟨g,k*6+4,none⟩ (.int .u16 y.n)).setCell ⟨g,k*6+5,none⟩ Zs)=w7
      intro HP
      go_wp2_with fail
      exact⟨⟨k,_,rfl,by omega,HP.out.1.low hS (ak.refl _ _).drew,HP.out.2⟩,by show((k:Int)).toNat<((j:Int)).toNat;omega⟩
     ·have hcw:0≤gU y.n x.n:=by unfold gU;rw[if_neg hyx];split<;>decide
      have ax1:¬gU y.n x.n<0:=by omega
      go_upto_region 4 with fail
      refine wp_region_noPanic ?_
      refine wp_region_held_drew (S:=fun w'=>(w'.cell? ⟨g,j*6,none⟩=some (G 1)∧w'.cell? ⟨g,j*6+1,none⟩=some (G y.res)∧w'.cell? ⟨g,j*6+2,none⟩=some (G 0)∧w'.cell? ⟨g,j*6+3,none⟩=some (G y.b)∧w'.cell? ⟨g,j*6+4,none⟩=some (.int .u16 y.n)∧w'.cell? ⟨g,j*6+5,none⟩=some Zs)∧w'.cell? ⟨g,k*6,none⟩=some (G 1)∧w'.cell? ⟨g,k*6+1,none⟩=some (G x.res)∧w'.cell? ⟨g,k*6+2,none⟩=some (G 0)∧w'.cell? ⟨g,k*6+3,none⟩=some (G x.b)∧w'.cell? ⟨g,k*6+4,none⟩=some (.int .u16 x.n)∧w'.cell? ⟨g,k*6+5,none⟩=some Zs) (by kernel_rfl) (by exact(by exact lH)) (fun af=>?_)
      generalize wy.drew=wd at af lH YK ly⊢
      refine tk 0 af ?_
      refine tk 1 af ?_
      refine tk 2 af ?_
      refine tk 3 af ?_
      refine tk 4 af ?_
      refine tk 5 af ?_
      refine tk 6 af ?_
      refine tk 7 af ?_
      refine tk 8 af ?_
      refine tk 9 af ?_
      refine tk 10 af ?_
      refine tk 11 af ?_
      refine tk 12 af ?_
      refine tk 13 af ?_
      refine aG 14 fun KK aI=>?_
      refine cb (by kernel_rfl) 116 #[.agg #[G 1,G y.res,G 0,G y.b,.int .u16 y.n,Zs],.agg #[G 1,G x.res,G 0,G x.b,.int .u16 x.n,Zs]] (by go_simp) (fun v w'=>v=G (gU y.n x.n)∧ak wd.heap.size wd w') ((CR wd y x).mono (by rintro e w' ⟨rfl,he⟩;exact⟨_,rfl,rfl,he⟩)) ?_
      rintro v w6 ⟨rfl,l6⟩
      have L6:=cf l6
      clear l6
      refine aI.out _ _ (by exact(ly.out _ L6.out)) (fun af=>?_)
      clear aI KK
      (try simp only[Act.put,bh])
      refine tk 15 af ?_
      refine tk 16 af ?_
      refine wpAnyH_done (by kernel_rfl) ?_ _
      refine NoPanic.normal ?_
      go_wp2_with fail
      have aH:ta S w g n c l w6 L∧Ord (i+1) L:=⟨YK.out.low hS L6.out,HI.out.stop (fun a b h0 ha hb=>by
       rw[show j-1=k by have:=HK.out;omega,HX.out]at ha
       rw[HY.out]at hb
       cases ha;cases hb;omega)⟩
      exact⟨⟨i+1,L,by simp,by omega,.inl bw,aH.1,aH.2⟩,by show n-((i:Int)+1).toNat<n-((i:Int)).toNat;omega⟩
  ·have bN:¬(i:Int)<(n:Int):=by omega
   have aH:ta S w g n c l wv L∧Ord n L:=⟨HQ.out,fun p q x y hp hq h1 h2=>HO.out p q x y hp hq h1 (by omega)⟩
   go_wp2_with fail
   go_end0
   exact⟨rfl,L,aH⟩
end
section
set_option maxRecDepth 100000
set_option maxHeartbeats 8000000
theorem Cl (w:World) (n:Nat) (hn:n≤12):Calls Tryz.prog 218 #[.int .u64 n] w (fun e w'=>(∃z,e=.returned (G z))∧w'=w):=by
 have:n=0∨n=1∨n=2∨n=3∨n=4∨n=5∨n=6∨n=7∨n=8∨n=9∨n=10∨n=11∨n=12:=by omega
 rcases this with rfl|rfl|rfl|rfl|rfl|rfl|rfl|rfl|rfl|rfl|rfl|rfl|rfl
 all_goals
  go_enter Tryz.func218,Tryz.ntmps218
  go_wp2_with fail
  go_ret
  exact⟨⟨_,rfl⟩,rfl⟩
theorem Jx (w:World) (n:Nat) (hn:n≤12):Calls Tryz.prog 170 #[.int .u64 n] w (fun e w'=>(∃z,e=.returned (G z))∧w'=w):=by
 have h64:=Cl w n hn
 go_enter Tryz.func170,Tryz.ntmps170
 go_wp2_with(first
  |(go_at_call 218;refine h64.mono ?_;rintro e w2 ⟨⟨z,rfl⟩,rfl⟩))
 go_ret
 exact⟨⟨_,rfl⟩,rfl⟩
theorem Cs (w:World) (A:Option Addr) (c:Nat) (fv:Value):Calls Tryz.prog 209 #[.slice A 0 c,G 0,G 0,fv] w (fun e w'=>e=.returned (.tuple #[])∧w'=w):=by
 go_enter Tryz.func209,Tryz.ntmps209
 go_wp2_with fail
 go_loopw[8] (fun i wr=>i=G 1∧wr=w) (fun _ _=>0)
 case atStart=>exact⟨rfl,rfl⟩
 case round=>
  obtain⟨rfl,rfl⟩:=hrel
  go_wp2_with fail
  go_end0
  exact⟨rfl,rfl⟩
def PG (S:Nat) (w:World) (A:Option Addr) (n c:Nat) (l:List aE) (w':World):Prop:=∃L,ak S w w'∧dk w' A n c L∧L.Perm l∧Ord n L∧∀K,AR w A K→AR w' A K
theorem Ff (S:Nat) (w:World) (A:Option Addr) (n c:Nat) (l:List aE) (h:dk w A n c l) (hd:∀o∈l,Hd o) (hn:n≤12) (hS:S≤w.heap.size) (hA:∀a,A=some a→S≤a.block):
 Calls Tryz.prog 209 #[.slice A n c,G 0,G n,.func (.func 116) #[] #[]] w (fun e w'=>e=.returned (.tuple #[])∧PG S w A n c l w'):=by
 cases l with
 |nil=>
  have:n=0:=h.1.symm
  subst this
  refine(Cs w A c _).mono ?_
  rintro e w' ⟨rfl,rfl⟩
  exact⟨rfl,[],ak.refl _ _,h,List.Perm.refl _,fun p q x y hp=>by simp at hp,fun K hk=>hk⟩
 |cons o l=>
  obtain⟨g,cs,rfl,_⟩:=h.2 0 o rfl
  refine(Fg S w g n c (o::l) h hd hn hS (hA _ rfl)).mono ?_
  rintro e w' ⟨rfl,L,⟨h1,h2,h3⟩,h4⟩
  exact⟨rfl,L,h1.1,h2,h3,h4,fun K hk a ha=>by cases ha;exact h1.2 K (hk _ rfl)⟩
theorem Rn (S:Nat) (w:World) (A:Option Addr) (n c:Nat) (l:List aE) (z:Int) (h:dk w A n c l) (hd:∀o∈l,Hd o) (hn:n≤12) (hS:S≤w.heap.size) (hA:∀a,A=some a→S≤a.block):
 Calls Tryz.prog 169 #[.slice A n c,G 0,G n,G z,.func (.func 116) #[] #[]] w (fun e w'=>e=.returned (.tuple #[])∧PG S w A n c l w'):=by
 have an9:=Ff S w A n c l h hd hn hS hA
 have po:(n:Int)≤12:=by omega
 have hwn:IntKind.i64.wrap (n:Int)=(n:Int):=IntWalk.i64_in _ (by omega)
 clear h hd
 go_enter Tryz.func169,Tryz.ntmps169
 go_wp2_with fail
 go_loopw[1,2] (fun a b wr=>a=G 0∧b=G n∧wr=w) (fun _ _ _=>0)
 case atStart=>exact⟨rfl,rfl,rfl⟩
 case round=>
  obtain⟨rfl,rfl,rfl⟩:=hrel
  go_wp2_with(first
   |(go_at_call 209;with_reducible refine an9.mono ?_;rintro e w6 ⟨rfl,hq⟩))
  first
   |(go_ret;exact⟨rfl,hq⟩)
   |exact bodyPost_ret (v:=.tuple #[]) (by simp[results,Tryz.results169,go_sem];done) rfl ⟨rfl,hq⟩
   |exact bodyPost_ret (v:=.tuple #[]) rfl rfl ⟨rfl,hq⟩
theorem Mg (S:Nat) (w:World) (A:Option Addr) (n c:Nat) (l:List aE) (h:dk w A n c l) (hd:∀o∈l,Hd o) (hn:n≤12) (hS:S≤w.heap.size) (hA:∀a,A=some a→S≤a.block):
 Calls Tryz.prog 115 #[.slice A n c,.func (.func 116) #[] #[]] w (fun e w'=>e=.returned (.tuple #[])∧PG S w A n c l w'):=by
 have hlen:=Jx w n hn
 have ak7:=fun z=>Rn S w A n c l z h hd hn hS hA
 have hwn:IntKind.u64.wrap (n:Int)=(n:Int):=by
  show(n:Int)%18446744073709551616=n
  omega
 clear h hd
 go_enter Tryz.func115,Tryz.ntmps115
 go_wp2_with(first
  |(go_at_call 170;with_reducible refine hlen.mono ?_;rintro e w6 ⟨⟨z,rfl⟩,rfl⟩)
  |(go_at_call 169;with_reducible refine(ak7 _).mono ?_;rintro e w7 ⟨rfl,hq⟩))
 go_end0
 exact⟨rfl,hq⟩
end
section
def nK (w:World) (A:Option Addr) (n c:Nat) (l:List aE):Prop:=l.length=n∧∀j o,l[j]?=some o→∃g cs,A=some ⟨g,0,none⟩∧n≤c∧w.heap[g]?=some (.cells cs 67 (0,0))∧
 cs[j*6]?=some (G o.code)∧cs[j*6+1]?=some (G o.res)∧cs[j*6+2]?=some (G o.a)∧cs[j*6+3]?=some (G o.b)∧cs[j*6+4]?=some (.int .u16 o.n)∧cs[j*6+5]?=some Zs
variable {w w':World} {A Pp:Option Addr} {c n pc:Nat} {l:List aE}
theorem nK.low (h:nK w A n c l) (hl:ak w.heap.size w w'):nK w' A n c l:=⟨h.1,fun j o hj=>by
 obtain⟨g,cs,e,hc,hg,r⟩:=h.2 j o hj
 exact⟨g,cs,e,hc,hl.some hg,r⟩⟩
def dT (w:World) (Pp:Option Addr) (pc:Nat):Prop:=∃g cs,Pp=some ⟨g,0,none⟩∧1≤pc∧w.heap[g]?=some (.cells cs 3 (0,0))∧cs[0]?=some (G 0)
theorem dT.low (h:dT w Pp pc) (hl:ak w.heap.size w w'):dT w' Pp pc:=by
 obtain⟨g,cs,e,hc,hg,h0⟩:=h
 exact⟨g,cs,e,hc,hl.some hg,h0⟩
theorem dT.cG {B:List Nat} (h:dT w Pp pc) (hc:aY B w w') (hB:∀b∈B,∀cs,w.heap[b]?≠some (.cells cs 3 (0,0))):dT w' Pp pc:=by
 obtain⟨g,cs,e,KV,hg,h0⟩:=h
 exact⟨g,cs,e,KV,hc.obj hg (fun hm=>hB g hm cs hg),h0⟩
structure fe (w:World) (g:Nat) (Pp:Option Addr) (pc:Nat) (A:Option Addr) (n c:Nat) (T:Option Addr) (tc:Nat) (l:List aE) (ret:Int):Prop where
 row:∃cs,w.heap[g]?=some (.cells cs 62 (0,0))∧cs[0]?=some (.slice Pp 1 pc)∧cs[1]?=some (.slice A n c)∧cs[2]?=some (G 4)∧cs[3]?=some (G ret)∧cs[4]?=some (.slice T 0 tc)
 ops:nK w A n c l
 par:dT w Pp pc
theorem fe.low {g:Nat} {T:Option Addr} {tc:Nat} {ret:Int} (h:fe w g Pp pc A n c T tc l ret) (hl:ak w.heap.size w w'):fe w' g Pp pc A n c T tc l ret:=by
 obtain⟨cs,hg,r⟩:=h.row
 exact⟨⟨cs,hl.some hg,r⟩,h.ops.low hl,h.par.low hl⟩
def Lv (o:aE):Prop:=aS o.code∧-1≤o.res∧o.res≤100
end
section
set_option maxRecDepth 100000
set_option maxHeartbeats 8000000
def Hg (a b:Int):Int:=if a<b then b else a
def de (l:List aE):Int:=l.foldl (fun m o=>Hg m (o.res+1)) 1
theorem Is (l:List aE):∀m:Int,m≤l.foldl (fun m o=>Hg m (o.res+1)) m:=by
 induction l with
 |nil=>intro m;exact Int.le_refl _
 |cons o l ih=>
  intro m
  have:=ih (Hg m (o.res+1))
  have h2:m≤Hg m (o.res+1):=by unfold Hg;split<;>omega
  exact Int.le_trans h2 this
theorem fY (l:List aE):∀(m:Int) (o:aE),o∈l→o.res+1≤l.foldl (fun m o=>Hg m (o.res+1)) m:=by
 induction l with
 |nil=>intro m o h;cases h
 |cons x l ih=>
  intro m o h
  rcases List.mem_cons.1 h with rfl|h
  ·have h2:o.res+1≤Hg m (o.res+1):=by unfold Hg;split<;>omega
   exact Int.le_trans h2 (Is l _)
  ·exact ih _ o h
theorem SL (l:List aE):∀(m b:Int),m≤b→(∀o∈l,o.res+1≤b)→l.foldl (fun m o=>Hg m (o.res+1)) m≤b:=by
 induction l with
 |nil=>intro m b h _;exact h
 |cons x l ih=>
  intro m b h hl
  refine ih _ b ?_ (fun o ho=>hl o (List.mem_cons_of_mem _ ho))
  have:=hl x (List.mem_cons_self ..)
  show Hg m (x.res+1)≤b
  unfold Hg;split<;>omega
variable {l:List aE}
theorem sc {q:Nat} {o:aE} (h:l[q]?=some o):de (l.take (q+1))=Hg (de (l.take q)) (o.res+1):=by
 unfold de
 rw[List.take_add_one,h]
 simp
theorem ey (l:List aE):1≤de l:=Is l 1
theorem dH (h:∀o∈l,Lv o):de l≤101:=SL l 1 101 (by omega) (fun o ho=>by have:=(h o ho).2.2;omega)
theorem fM (w:World) (g cg:Nat) (Pp:Option Addr) (pc:Nat) (A:Option Addr) (n c:Nat) (T:Option Addr) (tc:Nat) (l:List aE) (ret:Int) (h:fe w g Pp pc A n c T tc l ret) (hn:n≤40) (bB:∀o∈l,Lv o):
 Calls Tryz.prog 55 #[.agg #[.slice (ad g) 1 cg]] w (fun e w'=>e=.returned (G (de l))∧ak w.heap.size w w'):=by
 have l1:ak w.heap.size w (w.alloc (.cells #[.slice (ad g) 1 cg] 40)):=F0
 have a1:=ao w (.cells #[.slice (ad g) 1 cg] 40)
 have H:=cf h;have dA:=cf bB
 clear h bB
 go_enter Tryz.func55,Tryz.ntmps55
 go_upto_region 3 with fail
 obtain⟨t1,eu⟩:∃t,t=w.heap.size:=⟨_,rfl⟩
 rw[←eu]at a1⊢
 clear eu
 generalize w.alloc (.cells #[.slice (ad g) 1 cg] 40)=w1 at l1 a1⊢
 have L1:=cf l1
 have A1:=cf a1
 clear l1 a1
 go_loopw[3,4] (fun a i wr=>(a=G 0∧i=G 0∧wr=w1)∨(a=G (de l)∧i=G 1∧ak w1.heap.size w1 wr)) (fun _ i _=>1-(intOf i).toNat)
 case atStart=>exact .inl ⟨rfl,rfl,rfl⟩
 case round=>
  rcases hrel with⟨rfl,rfl,rfl⟩|⟨rfl,rfl,hl⟩
  ·obtain⟨w1,rfl⟩:∃u,u=wr:=⟨_,rfl⟩
   have x1:=bf A1.out
   have h1:=H.out.low L1.out
   obtain⟨kz,r0,r1,r2,r3,r4,r5⟩:=h1.row
   obtain⟨gp,cp,rfl,KV,pJ,rm⟩:=h1.par
   have p0:=mV r0 r1 r2 r3 r4 r5
   have l2:ak w1.heap.size w1 (w1.alloc (.cells #[.slice (ad gp) 1 pc,.slice A n c,G 4,G ret,.slice T 0 tc] 62)):=F0
   have a2:=ao w1 (.cells #[.slice (ad gp) 1 pc,.slice A n c,G 4,G ret,.slice T 0 tc] 62)
   have L2:=cf l2;have H2:=cf (h1.low l2)
   have q0:=(Yc (j:=0) (l2.some pJ)).trans rm
   clear r0 r1 r2 r3 r4 r5 pJ rm h1 H
   go_upto_region 7 with fail
   clear p0 x1 l2
   obtain⟨t5,gh⟩:∃t,t=w1.heap.size:=⟨_,rfl⟩
   rw[←gh]at a2⊢
   clear gh
   generalize w1.alloc (.cells #[.slice (ad gp) 1 pc,.slice A n c,G 4,G ret,.slice T 0 tc] 62)=w2 at a2 L2 H2 q0⊢
   obtain⟨y0,y1⟩:=gV a2
   clear a2
   go_loopw[3,6] (fun a i wr=>((a=G 0∧i=G 0)∨(a=G 1∧i=G 1))∧wr=w2) (fun _ i _=>1-(intOf i).toNat)
   case atStart=>exact⟨.inl ⟨rfl,rfl⟩,rfl⟩
   case round=>
    obtain⟨⟨rfl,rfl⟩|⟨rfl,rfl⟩,rfl⟩:=hrel
    ·go_wp2_with fail
     exact⟨by simp,by decide⟩
    ·obtain⟨w2,rfl⟩:∃u,u=wr:=⟨_,rfl⟩
     go_upto_region 11 with fail
     go_loopw[3,7] (fun a i wr=>∃q:Nat,i=G q∧q≤n∧a=G (de (l.take q))∧wr=w2) (fun _ i _=>n-(intOf i).toNat)
     case atStart=>exact⟨0,rfl,by omega,rfl,(by trivial)⟩
     case round=>
      obtain⟨q,rfl,hq,rfl,rfl⟩:=hrel
      obtain⟨w2,rfl⟩:∃u,u=wr:=⟨_,rfl⟩
      have hv:=H2.out
      clear q0 y0
      by_cases bw:q<n
      ·have bN:(q:Int)<(n:Int):=by omega
       have nu:(0:Int)≤(q:Int):=by omega
       have mI:(q:Int)≤40:=by omega
       obtain⟨o,ho⟩:∃o,l[q]?=some o:=⟨_,List.getElem?_eq_getElem (by have:=hv.ops.1;omega)⟩
       obtain⟨ga,cs,rfl,qD,hg,k0,k1,k2,k3,k4,k5⟩:=hv.ops.2 q o ho
       have c1:w2.cell? ⟨ga,q*6+1,none⟩=some (G o.res):=(Yc hg).trans k1
       have bB:=dA.out o (List.mem_of_getElem? ho)
       have sR:=bB.2.1;have DT:=bB.2.2
       have jX:=sc ho
       have dS:=ey (l.take q)
       have Bk:=dH (l:=l.take q) (fun o ho=>dA.out o (List.mem_of_mem_take ho))
       have hw:IntKind.i64.wrap (o.res+1)=o.res+1:=IntWalk.i64_in _ (by omega)
       generalize de (l.take q)=m at jX dS Bk⊢
       clear hv hg k0 k1 k2 k3 k4 k5 bB ho
       go_wp2_with fail
       refine⟨⟨q+1,rfl,bw,?_,(by trivial)⟩,by show n-((q:Int)+1).toNat<n-((q:Int)).toNat;omega⟩
       rw[jX]
       rfl
      ·have bN:¬(q:Int)<(n:Int):=by omega
       have hq:l.take q=l:=List.take_of_length_le (by have:=hv.ops.1;omega)
       rw[hq]
       clear hv hq
       go_wp2_with fail
       exact⟨.inr ⟨rfl,rfl,L2.out⟩,by decide⟩
  ·have x1:wr.cell? ⟨t1,0,none⟩=some (.slice (ad g) 1 cg):=Yc (hl.some A1.out)
   have HL:=cf (L1.out.trans (hl.mono L1.out.size))
   clear hl
   go_wp2_with fail
   go_ret
   exact⟨rfl,HL.out⟩
end
section
theorem apI:Ap Tryz.prog 22 3 1 8:=⟨Tryz.underlying22,by
 obtain⟨ti,nT,hz,hs,hb⟩:=dP (show(Tryz.prog.info? 3).map (fun i=>(i.zero,i.size,i.bytes))=some (some (G 0),1,8) by kernel_rfl)
 exact⟨ti,_,nT,hz,hs,hb,rfl⟩,by decide,by decide⟩
def ints (xs:List Int):List Value:=xs.map fun x=>G x
theorem RW {xs:List Int} {j:Nat} {x:Int} (h:xs[j]?=some x):(ints xs)[j]?=some (G x):=by simp[ints,h]
def bW (w:World) (S:Nat) (A:Option Addr) (n c:Nat) (xs:List Int):Prop:=xs.length=n∧Own w S 3 1 (.slice A n c) n (ints xs)
theorem bW.nil (w:World) (S:Nat):bW w S none 0 0 []:=⟨rfl,Own.nil _ _ _ _⟩
variable {w w':World} {S c n:Nat} {A:Option Addr}
theorem bW.low {xs:List Int} (h:bW w S A n c xs) (hl:ak w.heap.size w w'):bW w' S A n c xs:=⟨h.1,h.2.low hl⟩
def j9 (w:World) (A:Option Addr) (n c:Nat) (xs:List Int):Prop:=xs.length=n∧n≤c∧∀(j:Nat) (x:Int),xs[j]?=some x→∃(g:Nat) (cs:Array Value),A=some ⟨g,0,none⟩∧w.heap[g]?=some (.cells cs 3 (0,0))∧cs[j]?=some (Value.int .i64 x)
theorem j9.low {xs:List Int} (h:j9 w A n c xs) (hl:ak w.heap.size w w'):j9 w' A n c xs:=⟨h.1,h.2.1,fun j x hj=>by
 obtain⟨g,cs,e,hg,r⟩:=h.2.2 j x hj
 exact⟨g,cs,e,hl.some hg,r⟩⟩
theorem bW.Ek {xs:List Int} (h:bW w S A n c xs):j9 w A n c xs:=by
 obtain⟨hn,hO⟩:=h
 rcases hO.form with⟨e,rfl⟩|⟨g,c',cs,e,h2,h3,h4⟩
 ·cases e
  refine⟨hn,Nat.le_refl _,fun j x hj=>?_⟩
  have:=List.length_eq_zero_iff.1 hn
  subst this
  simp at hj
 ·cases e
  exact⟨hn,h4,fun j x hj=>⟨g,cs,rfl,h3,(Yc h3).symm.trans (hO.cell (RW hj))⟩⟩
variable {v:Value}
theorem Own.slice {base e size:Nat} {xs:List Value} (h:Own w base e size v n xs):∃A c,v=.slice A n c:=by
 rcases h.form with⟨rfl,rfl⟩|⟨g,c,cs,rfl,_⟩
 ·exact⟨_,_,rfl⟩
 ·exact⟨_,_,rfl⟩
theorem j7 {xs:List Int} (h:bW w S A n c xs) (x:Int) (hn:n≤1000) (hS:S≤w.heap.size):
 ∃A' c' w',(Builtin.append_ #[22,22] 22 #[.slice A n c,.slice (ad (w.heap.size)) 1 1]).run Tryz.prog (w.alloc (.cells #[G x] 3))=.ok (.slice A' (n+1) c') w'∧bW w' S A' (n+1) c' (xs++[x])∧ak S w w':=by
 have l1:ak w.heap.size w (w.alloc (.cells #[G x] 3)):=F0
 have dy:=h.2.low l1
 obtain⟨v',w',cN,fP⟩:=eC (ty:=22) apI dy (c:=1) (m:=1) (ao w (.cells #[G x] 3)) rfl (by simp[Value.oneCell']) (by omega) (by simp;omega)
 obtain⟨A',c',rfl⟩:=fP.own.slice
 refine⟨A',c',w',cN,⟨by simp[h.1],?_⟩,(l1.mono hS).trans (fP.low dy (Nat.le_refl _) (by simp;omega))⟩
 have:=fP.own
 simpa[ints]using this
theorem DE {xs:List Int} (h:bW w S A n c xs) {B:Option Addr} {m d:Nat} {ys:List Int} (hy:j9 w B m d ys) (hn:n+m≤10000) (hS:S≤w.heap.size) (hB:B≠none∨m=0∧d=0):
 ∃A' c' w',(Builtin.append_ #[22,22] 22 #[.slice A n c,.slice B m d]).run Tryz.prog w=.ok (.slice A' (n+m) c') w'∧bW w' S A' (n+m) c' (xs++ys)∧ak S w w':=by
 cases B with
 |none=>
  obtain⟨rfl,rfl⟩:m=0∧d=0:=by simpa using hB
  have Zt:ys=[]:=List.length_eq_zero_iff.1 hy.1
  subst Zt
  have h3:∀u,(sizeOf 3).run Tryz.prog u=.ok 1 u:=fun u=>by kernel_rfl
  refine⟨A,c,w,?_,by simpa using h,ak.refl _ _⟩
  rcases h.2.form with⟨e,rfl⟩|⟨g,c',cs,e,h2,h3',h4⟩
  ·cases e
   simp[Builtin.append_,Builtin.lenOf,Builtin.firstCells,run_underlying Tryz.underlying22,h3]
  ·cases e
   simp[Builtin.append_,Builtin.lenOf,Builtin.firstCells,run_underlying Tryz.underlying22,h3,h4,storeCells]
 |some a=>
  obtain⟨ti,z,hi,hz,np,Bj,RZ⟩:=apI.info
  have eJ:∀j u,(ints ys)[j]?=some u→w.cell? (a.add j)=some u:=fun j u hj=>by
   obtain⟨y,wH,rfl⟩:∃y,ys[j]?=some y∧G y=u:=by simpa[ints]using hj
   obtain⟨g,cs,e,hg,r⟩:=hy.2.2 j y wH
   cases e
   have ve:(⟨g,0,none⟩:Addr).add j=⟨g,j,none⟩:=by
    by_cases h0:j=0
    ·subst h0;simp[Addr.add]
    ·simp[Addr.add,h0]
   rw[ve]
   exact(Yc hg).trans r
  obtain⟨v',w',cN,h2,h3,_⟩:=run_append_own (P:=Tryz.prog) w S 22 22 3 ti z 1 8 apI.ht hi hz np Bj RZ apI.pos (.slice A n c) n (ints xs) h.2 a m d (ints ys) (by simp[ints,hy.1]) eJ (by simp[ints,Value.oneCell']) (by have:maxLen=9223372036854775807:=rfl;omega) (by omega) hS
  have JA:Own w' S 3 1 v' (n+m) (ints xs++ints ys):=h2
  obtain⟨A',c',rfl⟩:=JA.slice
  refine⟨A',c',w',cN,⟨by simp[h.1,hy.1],by simpa[ints]using JA⟩,⟨h3.os,h3.output,h3.size,fun g hg=>h3.block g (by omega) fun he=>?_⟩⟩
  rcases h.2.form with⟨h1,_⟩|⟨g',c,cs,h1,h2,h3,_⟩
  ·rw[h1]at he;cases he
  ·rw[h1]at he;simp[Value.ownBlock]at he;omega
theorem aO {P:Program} {ops:Array Oper} {rest:List Oper} {o:Oper} {a:Act} {Q:Exit→Act→World→Prop} {t:TypeId} (yw:o.guard=none) (s x:Operand) (ho:o.op=.call {callee:=.builtin .append,args:= #[s,x],argTypes:= #[t,t]})
 {vs vx:Value} (hs:a.eval s=vs) (hx:a.eval x=vx) (cN:(Builtin.append_ #[t,t] o.type #[vs,vx]).run P w=.ok v w') (h:wpList P ops Q rest (a.put o.dst v) w'):wpList P ops Q (o::rest) a w:=
 wpList_plain yw fun _ hK=>by
  unfold Oper.wp execOp
  simp only[ho,resolve,invoke,builtin,Sem.run_bind,Sem.run_pure,Result.andThen_ok,List.map_toArray,List.map_cons,List.map_nil,hs,hx,cN]
  exact hK _ _ h
end
end Go.Proofs.YtjkahfmdcpfjjaaGreat
