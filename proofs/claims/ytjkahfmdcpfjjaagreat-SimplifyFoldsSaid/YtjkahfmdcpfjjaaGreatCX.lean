/- The reference: the machine: a call. -/
import Derived.Test.YtjkahfmdcpfjjaaGreatCV
set_option linter.unusedVariables false
namespace Go.Proofs.YtjkahfmdcpfjjaaGreat
open Go.RowKit
section
set_option maxRecDepth 100000
set_option maxHeartbeats 8000000
def cU (M:Int→Int) (o:aE):Prop:=o.code=8∧M o.b=0
structure jx (M:Int→Int) (o:aE):Prop where
 const:o.code=1→M o.res=o.n
 one:o.code=3∨o.code=4→M o.res=fj o.code (M o.a) 0
 two:5≤o.code→o.code≤17→¬cU M o→M o.res=arith o.code (M o.a) (M o.b)
def ik (M:Int→Int) (o:aE):Option (Int×Int):=if o.code=25 then some (o.n,M o.a)else none
def dK (M:Int→Int) (l:List aE):List (Int×Int):=l.filterMap (ik M)
def oj (w:World) (VV N:Nat) (M:Int→Int) (l:List aE) (q:Nat):Prop:=∃cs,w.heap[VV]?=some (.cells cs 27 (0,0))∧cs.size=N∧∀v:Int,bs l q v→∃k:Nat,v=(k:Int)∧k<N∧cs[k]?=some (.int .u16 (M v))
variable {q:Nat} {M:Int→Int} {l:List aE}
theorem oj.of {w w':World} {VV N:Nat} (h:oj w VV N M l q) (hk:w'.heap[VV]?=w.heap[VV]?):oj w' VV N M l q:=by
 obtain⟨cs,h1,r⟩:=h
 exact⟨cs,hk.trans h1,r⟩
theorem ER {o:aE} (h:l[q]?=some o):dK M (l.take (q+1))=dK M (l.take q)++(ik M o).toList:=by
 unfold dK
 rw[mR h,List.filterMap_append]
 cases e:ik M o with
 |none=>simp[e]
 |some p=>simp[e]
theorem Q6 (w:World) (m VV N:Nat) (fb fc ab ac R:Nat) (d F:Int) (hN:N≤1000) (M:Int→Int) (hW:∀v,W (M v)) (l:List aE) (q:Nat) (hV:oj w VV N M l q) (o:aE) (hf:eZ o) (hu:∀v∈bl o,bs l q v) (hs:jx M o) (lG:¬cU M o) (S:Nat) (Ys:m<S) (hS:S≤w.heap.size) (O:Option Addr) (no co:Nat) (xs:List (Int×Int)) (hm:w.heap[m]?=some (.cells #[.slice (ad fb) 2 fc,.slice (ad ab) 2 ac,G 0,G (-1),Zs,Zs,.slice (ad R) 8192 8192,Zs,Zs,G F,.bool false,G 1,.int .u16 0,.slice O no co,G 0,.int .u16 0,.string ⟨#[]⟩,G 0,G 0] 87 (0,0))) (hO:cR w S O no co xs) (Fq:no≤1000):
 Calls Tryz.prog 129 #[.pointer (ad m),OV o,.slice (ad VV) N N,G d] w (fun e w'=>∃r O' Ce pK,e=.returned (.int .u16 r)∧(o.code≠25→r=M o.res)∧da S [m] w w'∧w'.heap[m]?=some (.cells #[.slice (ad fb) 2 fc,.slice (ad ab) 2 ac,G 0,G (-1),Zs,Zs,.slice (ad R) 8192 8192,Zs,Zs,G F,.bool false,G 1,.int .u16 0,.slice O' Ce pK,G 0,.int .u16 0,.string ⟨#[]⟩,G 0,G 0] 87 (0,0))∧cR w' S O' Ce pK (xs++(ik M o).toList)):=by
 obtain⟨c,r,a,b,n⟩:=o
 obtain⟨vcs,mq,pG,V0⟩:=hV
 obtain⟨hf1,hf2,CP,hf4,hf5,hf6,hf7⟩:=hf
 simp only at hf1 hf2 CP hf4 hf5 hf6 hf7
 have mr:∀(v:Int) (w':World),c≠25→v=M r→ak w.heap.size w w'→∃r' O' Ce pK,Ending.returned (Value.int .u16 v)=Ending.returned (Value.int .u16 r')∧((⟨c,r,a,b,n⟩:aE).code≠25→r'=M r)∧da S [m] w w'∧w'.heap[m]?=some (.cells #[.slice (ad fb) 2 fc,.slice (ad ab) 2 ac,G 0,G (-1),Zs,Zs,.slice (ad R) 8192 8192,Zs,Zs,G F,.bool false,G 1,.int .u16 0,.slice O' Ce pK,G 0,.int .u16 0,.string ⟨#[]⟩,G 0,G 0] 87 (0,0))∧cR w' S O' Ce pK (xs++(ik M ⟨c,r,a,b,n⟩).toList):=fun v w' hc he hl=>
  ⟨v,O,no,co,rfl,fun _=>he,da.bD (hl.mono hS),hl.some hm,by
   have:ik M ⟨c,r,a,b,n⟩=none:=by unfold ik;rw[if_neg hc]
   rw[this]
   simpa using hO.low hl⟩
 rcases fF hf1 with⟨rfl,h2,h3,h4,h5⟩|⟨hc,h2,h3,h4,h5⟩|⟨Lj,Qx,h2,h3,h4,h5⟩|⟨rfl,h2,h3,h4,h5⟩
 ·refine(Es w m VV N d r n a b hN).mono ?_
  rintro e w' ⟨rfl,hl⟩
  obtain⟨r',O',Ce,pK,he,h⟩:=mr n w' (by decide) (hs.const rfl).symm hl
  cases he
  exact⟨n,O',Ce,pK,rfl,h⟩
 ·obtain⟨ai,rfl,FM,Ag⟩:=V0 a (hu a (by simp[bl,dv,h3]))
  have hr:=hs.one hc
  rcases hc with rfl|rfl
  ·refine(IQ w m VV N d r n b hN vcs mq ai _ FM Ag (hW _)).mono ?_
   rintro e w' ⟨rfl,hl⟩
   obtain⟨r',O',Ce,pK,he,h⟩:=mr _ w' (by decide) hr.symm hl
   cases he
   exact⟨_,O',Ce,pK,rfl,h⟩
  ·refine(IP w m VV N d r n b hN vcs mq ai _ FM Ag (hW _)).mono ?_
   rintro e w' ⟨rfl,hl⟩
   obtain⟨r',O',Ce,pK,he,h⟩:=mr _ w' (by decide) hr.symm hl
   cases he
   exact⟨_,O',Ce,pK,rfl,h⟩
 ·obtain⟨ai,rfl,FM,Ag⟩:=V0 a (hu a (by simp[bl,dv,h3]))
  obtain⟨bi,rfl,Sy,Og⟩:=V0 b (hu b (by simp[bl,il,h4]))
  have hr:=hs.two Lj Qx lG
  have key:Calls Tryz.prog 129 #[.pointer (ad m),.agg #[G c,G r,G ai,G bi,.int .u16 n,Zs],.slice (ad VV) N N,G d] w (fun e w'=>e=.returned (.int .u16 (arith c (M ai) (M bi)))∧ak w.heap.size w w'):=by
   by_cases h8:c=8
   ·subst h8;exact IM w m VV N d r n hN vcs mq ai _ FM Ag (hW _) bi _ Sy Og (hW _) (fun h0=>lG ⟨rfl,h0⟩)
   ·exact ay5 w m VV N c d r n Lj Qx hN vcs mq ai _ FM Ag (hW _) bi _ Sy Og (hW _) h8
  refine key.mono ?_
  rintro e w' ⟨rfl,hl⟩
  obtain⟨r',O',Ce,pK,he,h⟩:=mr _ w' (by omega) hr.symm hl
  cases he
  exact⟨_,O',Ce,pK,rfl,h⟩
 ·obtain⟨ai,rfl,FM,Ag⟩:=V0 a (hu a (by simp[bl,dv,h3]))
  refine(Md w m VV N d r n b hN vcs mq S Ys hS _ hm O no co rfl xs hO Fq ai _ FM Ag (hW _)).mono ?_
  rintro e w' ⟨rfl,w1,O',pK,hl,hO1,rfl⟩
  have Ud:=hl.obj Ys hm
  refine⟨0,O',no+1,pK,rfl,fun h=>absurd rfl h,(da.bD hl).trans (da.set _ (by simp) _),by rw[aD Ud];rfl,?_⟩
  have:ik M ⟨25,r,(ai:Int),b,n⟩=some (n,M ai):=by unfold ik;rw[if_pos rfl]
  rw[this]
  exact hO1.kept fun g cs hg _=>aj (by omega)
theorem IN (w:World) (m VV N:Nat) (fb fc ab ac R:Nat) (d F:Int) (hN:N≤1000) (M:Int→Int) (hW:∀v,W (M v)) (l:List aE) (q:Nat) (hV:oj w VV N M l q) (o:aE) (hf:eZ o) (hu:∀v∈bl o,bs l q v) (lG:cU M o) (S:Nat) (Ys:m<S) (hS:S≤w.heap.size) (O:Option Addr) (no co:Nat) (xs:List (Int×Int)) (hm:w.heap[m]?=some (.cells #[.slice (ad fb) 2 fc,.slice (ad ab) 2 ac,G 0,G (-1),Zs,Zs,.slice (ad R) 8192 8192,Zs,Zs,G F,.bool false,G 1,.int .u16 0,.slice O no co,G 0,.int .u16 0,.string ⟨#[]⟩,G 0,G 0] 87 (0,0))) (hO:cR w S O no co xs):
 Calls Tryz.prog 129 #[.pointer (ad m),OV o,.slice (ad VV) N N,G d] w (fun e w'=>e=.returned (.int .u16 0)∧da S [m] w w'∧w'.heap[m]?=some (.cells #[.slice (ad fb) 2 fc,.slice (ad ab) 2 ac,G 0,G (-1),Zs,Zs,.slice (ad R) 8192 8192,Zs,Zs,G F,.bool true,G 1,.int .u16 0,.slice O no co,G 4,.int .u16 0,.string ⟨#[]⟩,G 0,G 0] 87 (0,0))∧cR w' S O no co xs):=by
 obtain⟨c,r,a,b,n⟩:=o
 obtain⟨vcs,mq,pG,V0⟩:=hV
 obtain⟨rfl,pq⟩:c=8∧M b=0:=lG
 obtain⟨ai,rfl,FM,Ag⟩:=V0 a (hu a (by simp[bl,dv,aZ]))
 obtain⟨bi,rfl,Sy,Og⟩:=V0 b (hu b (by simp[bl,il,bc]))
 rw[pq]at Og
 refine(IL w m VV N d r n hN vcs mq _ hm rfl rfl rfl ai _ FM Ag (hW _) bi Sy Og).mono ?_
 rintro e w' ⟨rfl,w1,hl,rfl⟩
 have Ud:=hl.some hm
 have Wx:(w1.setCell ⟨m,10,none⟩ (.bool true)).heap[m]?=some (.cells #[.slice (ad fb) 2 fc,.slice (ad ab) 2 ac,G 0,G (-1),Zs,Zs,.slice (ad R) 8192 8192,Zs,Zs,G F,.bool true,G 1,.int .u16 0,.slice O no co,G 0,.int .u16 0,.string ⟨#[]⟩,G 0,G 0] 87 (0,0)):=by rw[aD Ud];rfl
 have Yt:((w1.setCell ⟨m,10,none⟩ (.bool true)).setCell ⟨m,14,none⟩ (G 4)).heap[m]?=some (.cells #[.slice (ad fb) 2 fc,.slice (ad ab) 2 ac,G 0,G (-1),Zs,Zs,.slice (ad R) 8192 8192,Zs,Zs,G F,.bool true,G 1,.int .u16 0,.slice O no co,G 4,.int .u16 0,.string ⟨#[]⟩,G 0,G 0] 87 (0,0)):=by rw[aD Wx];rfl
 refine⟨rfl,(((da.bD (hl.mono hS)).trans (da.set _ (by simp) _)).trans (da.set _ (by simp) _)).trans (da.set _ (by simp) _),by rw[aD Yt];rfl,?_⟩
 exact(((hO.low hl).kept fun g cs hg _=>aj (by omega)).kept fun g cs hg _=>aj (by omega)).kept fun g cs hg _=>aj (by omega)
end
section
set_option maxRecDepth 100000
set_option maxHeartbeats 8000000
theorem E8 (w:World) (N:Nat) (hN:N≤1000):∃cs,(Instr.makeSlice 23 (G N) (G N)).run Tryz.prog w=.ok (.slice (ad (w.heap.size)) N N) (w.alloc (.cells cs 27))∧cs.size=N:=by
 obtain⟨ti,nT,hz,hs,hb⟩:=dP (show(Tryz.prog.info? 27).map (fun i=>(i.zero,i.size,i.bytes))=some (some (.int .u16 0),1,2) by kernel_rfl)
 have h1:((ti.bytes:Nat):Int)*(N:Int)≤281474976710656:=by rw[hb];omega
 have hr:=run_make (P:=Tryz.prog) w 23 27 ti (.int .u16 0) Tryz.underlying23 nT hz .i64 .i64 N N (by omega) (Int.le_refl _) h1 (by omega)
 simp only[Int.toNat_natCast]at hr
 exact⟨_,hr,by rw[size_madeCells,hs];omega⟩
variable {w w':World} {A:Option Addr} {N S S' VV c n q:Nat} {l:List aE}
theorem fe.but {g:Nat} {Pp:Option Addr} {pc:Nat} {T:Option Addr} {tc:Nat} {ret:Int} (h:fe w g Pp pc A n c T tc l ret) (hk:∀(b:Nat) (cs:Array Value) (e:TypeId),w.heap[b]?=some (.cells cs e (0,0))→e=62∨e=67∨e=3→w'.heap[b]?=w.heap[b]?):fe w' g Pp pc A n c T tc l ret:=by
 obtain⟨cs,hg,r⟩:=h.row
 refine⟨⟨cs,(hk _ _ _ hg (by decide)).trans hg,r⟩,⟨h.ops.1,fun j o hj=>?_⟩,?_⟩
 ·obtain⟨g2,At,e,hc,mc,r2⟩:=h.ops.2 j o hj
  exact⟨g2,At,e,hc,(hk _ _ _ mc (by decide)).trans mc,r2⟩
 ·obtain⟨g2,At,e,hc,mc,r2⟩:=h.par
  exact⟨g2,At,e,hc,(hk _ _ _ mc (by decide)).trans mc,r2⟩
theorem da.cut {m V:Nat} (h:da S [m,V] w w') (hS:S'≤S) (hV:S'≤V):da S' [m] w w':=⟨h.os,h.out,h.size,fun g hg hb=>h.block g (by omega) (by
 simp only[List.mem_cons,List.not_mem_nil,or_false]at hb⊢
 omega)⟩
theorem cR.base {xs:List (Int×Int)} (h:cR w S A n c xs) (hS:S'≤S):cR w S' A n c xs:=by
 obtain⟨h0,h1|⟨g',c',cur,h1,h2,r⟩⟩:=h.2
 ·exact⟨h.1,h0,.inl h1⟩
 ·exact⟨h.1,h0,.inr ⟨g',c',cur,h1,Nat.le_trans hS h2,r⟩⟩
def Ends (M:Int→Int) (l:List aE) (ret:Int) (r:Int) (zA:Bool) (kind:Int) (xs:List (Int×Int)):Prop:=
 ((∀(q:Nat) (o:aE),l[q]?=some o→¬cU M o)∧r=M ret∧zA=false∧kind=0∧xs=dK M l)∨
 (∃(q:Nat) (o:aE),l[q]?=some o∧cU M o∧(∀(j:Nat) (o':aE),j<q→l[j]?=some o'→¬cU M o')∧r=0∧zA=true∧kind=4∧xs=dK M (l.take q))
variable {M:Int→Int} {o:aE}
theorem oj.put (h:oj w VV N M l q) (ho:l[q]?=some o) (k:Nat) (hk:o.res=(k:Int)) (Ui:k<N) (w':World) (hw:w'=w.setCell ⟨VV,k,none⟩ (.int .u16 (M o.res))):oj w' VV N M l (q+1):=by
 subst hw
 obtain⟨cs,h1,h2,h3⟩:=h
 refine⟨cs.setIfInBounds k (.int .u16 (M o.res)),aD h1,by simpa using h2,fun v hv=>?_⟩
 by_cases he:v=o.res
 ·subst he
  exact⟨k,hk,Ui,by simp[h2,Ui]⟩
 ·have Cu:bs l q v:=by
   rcases hv with rfl|⟨h0,j,o',hj,cP,rfl⟩
   ·exact .inl rfl
   ·refine .inr ⟨h0,j,o',?_,cP,rfl⟩
    by_cases hjq:j=q
    ·subst hjq
     rw[ho]at cP
     cases cP
     exact absurd rfl he
    ·omega
  obtain⟨u,rfl,hu1,ZN⟩:=h3 v Cu
  refine⟨u,rfl,hu1,?_⟩
  rw[Array.getElem?_setIfInBounds,if_neg (by intro e;apply he;rw[hk,e]),ZN]
theorem oj.next (h:oj w VV N M l q) (ho:l[q]?=some o) (hr:o.res= -1):oj w VV N M l (q+1):=by
 obtain⟨cs,h1,h2,h3⟩:=h
 refine⟨cs,h1,h2,fun v hv=>h3 v ?_⟩
 rcases hv with rfl|⟨h0,j,o',hj,cP,rfl⟩
 ·exact .inl rfl
 ·refine .inr ⟨h0,j,o',?_,cP,rfl⟩
  by_cases hjq:j=q
  ·subst hjq
   rw[ho]at cP
   cases cP
   omega
  ·omega
theorem Pr (w:World) (m R gm cm:Nat) (fb fc ab ac:Nat) (g cg:Nat) (Pp:Option Addr) (pc:Nat) (A:Option Addr) (n c:Nat) (T:Option Addr) (tc:Nat) (l:List aE) (ret:Int) (hp:lr w fb fc ab ac gm cm g cg) (h:fe w g Pp pc A n c T tc l ret) (hn:n≤40) (bB:kC l ret) (M:Int→Int) (hW:∀v,W (M v)) (hs:∀o∈l,jx M o) (F:Int) (hF:F=100) (hm:w.heap[m]?=some (.cells #[.slice (ad fb) 2 fc,.slice (ad ab) 2 ac,G 0,G (-1),Zs,Zs,.slice (ad R) 8192 8192,Zs,Zs,G F,.bool false,G 0,.int .u16 0,Zs,G 0,.int .u16 0,.string ⟨#[]⟩,G 0,G 0] 87 (0,0))) (AB aw:Nat) (haw:1≤aw) (Ln:w.heap[AB]?=some (.cells #[.int .u16 (M 0)] 27 (0,0))):
 Calls Tryz.prog 46 #[.pointer (ad m),G 1,.slice (ad AB) 1 aw,G 1] w (fun e w'=>∃r F' zA kind O no co xs,e=.returned (.int .u16 r)∧da w.heap.size [m] w w'∧w'.heap[m]?=some (.cells #[.slice (ad fb) 2 fc,.slice (ad ab) 2 ac,G 0,G (-1),Zs,Zs,.slice (ad R) 8192 8192,Zs,Zs,G F',.bool zA,G 1,.int .u16 0,.slice O no co,G kind,.int .u16 0,.string ⟨#[]⟩,G 0,G 0] 87 (0,0))∧cR w' w.heap.size O no co xs∧Ends M l ret r zA kind xs):=by
 obtain⟨Lq,Lu,f1,f2,f3,f4,f5,f6,f7,f8,f9,f10⟩:=hp
 have qE:m≠fb:=by rintro rfl;rw[hm]at f1;cases f1
 have Ww:m≠AB:=by rintro rfl;rw[hm]at Ln;cases Ln
 have aa2:∀(b:Nat) (cs:Array Value) (e:TypeId),w.heap[b]?=some (Obj.cells cs e (0,0))→e≠87→b≠m:=by
  rintro b cs e hb he rfl
  rw[hm]at hb
  cases hb
  exact he rfl
 have x0:w.cell? ⟨m,0,none⟩=some (.slice (ad fb) 2 fc):=Yc hm
 have QO:w.cell? ⟨m,10,none⟩=some (.bool false):=Yc hm
 have x11:w.cell? ⟨m,11,none⟩=some (G 0):=Yc hm
 have ap7:w.frozen? ⟨m,11,none⟩=false:=au hm
 have Sn:=aB hm
 have xf:w.cell? ⟨fb,1,none⟩=some (.slice (ad g) 1 cg):=(Yc f1).trans f3
 have m1:(w.setCell ⟨m,11,none⟩ (G 1)).heap[m]?=some (.cells #[.slice (ad fb) 2 fc,.slice (ad ab) 2 ac,G 0,G (-1),Zs,Zs,.slice (ad R) 8192 8192,Zs,Zs,G F,.bool false,G 1,.int .u16 0,Zs,G 0,.int .u16 0,.string ⟨#[]⟩,G 0,G 0] 87 (0,0)):=by rw[aD hm];rfl
 have k1:da w.heap.size [m] w (w.setCell ⟨m,11,none⟩ (G 1)):=da.set _ (by simp) _
 have h1:fe (w.setCell ⟨m,11,none⟩ (G 1)) g Pp pc A n c T tc l ret:=h.but (fun b cs e hb he=>k1.block b (aB hb) (by simp only[List.mem_singleton];exact aa2 _ _ _ hb (by rcases he with rfl|rfl|rfl<;>decide)))
 have b1:(w.setCell ⟨m,11,none⟩ (G 1)).heap[fb]?=some (.cells Lq 40 (0,0)):=k1.obj (aB f1) (by simpa using fun e=>qE e.symm) f1
 have c1:(w.setCell ⟨m,11,none⟩ (G 1)).heap[AB]?=some (.cells #[.int .u16 (M 0)] 27 (0,0)):=k1.obj (aB Ln) (by simpa using fun e=>Ww e.symm) Ln
 have H:=cf h1;have dA:=cf bB;have HS:=cf hs;have HW:=cf hW;have HF:=cf hF;have K1:=cf k1;have M1:=cf m1;have B1:=cf b1;have C1:=cf c1;have F3:=cf f3
 have U0:=cf Ww
 have HAL:=cf (aB Ln)
 obtain⟨N,hN⟩:∃N:Nat,de l=(N:Int):=⟨(de l).toNat,by have:=ey l;omega⟩
 have Lm:N≤101:=by have:=dH bB.ok;omega
 have wK:1≤N:=by have:=ey l;omega
 have HN:=cf hN
 clear h bB hs hW hF hm f1 f3 Ln k1 m1 b1 c1 h1 qE Ww aa2 hN
 go_enter Tryz.func46,Tryz.ntmps46
 go_upto_region 3 with fail
 clear x0 QO x11 ap7 xf
 obtain⟨w1,Qg⟩:∃u,u=w.setCell ⟨m,11,none⟩ (G 1):=⟨_,rfl⟩
 rw[←Qg]at H K1 M1 B1 C1⊢
 clear Qg
 have x0:=bf M1.out
 have xf:w1.cell? ⟨fb,1,none⟩=some (.slice (ad g) 1 cg):=(Yc B1.out).trans F3.out
 have dX:=fM w1 g cg Pp pc A n c T tc l ret H.out hn dA.out.ok
 rw[HN.out]at dX
 have xd:=fun w2:World=>E8 w2 N (by omega)
 go_upto_region 8 with(first
  |(go_at_call 55;(with_reducible refine dX.mono ?_);rintro e w2 ⟨rfl,l2⟩;obtain⟨vcs,eJ,Qh⟩:=xd w2))
 obtain⟨VV,hVV⟩:∃D,D=w2.heap.size:=⟨_,rfl⟩
 have l3:ak w2.heap.size w2 (w2.alloc (.cells vcs 27)):=F0
 have a3:=ao w2 (.cells vcs 27)
 rw[←hVV]at a3⊢
 have Nj:=l2.trans (l3.mono l2.size)
 have H3:=cf (H.out.low Nj);have M3:=cf (Nj.some M1.out);have C3:=cf (Nj.some C1.out)
 have HVV:Hid (w1.heap.size≤VV):=cf (by rw[hVV];exact l2.size)
 have HVL:Hid (VV<(w2.alloc (.cells vcs 27)).heap.size):=cf (by rw[hVV];simp)
 have K3:=cf (K1.out.trans (da.bD (Nj.mono K1.out.size)))
 have V3:=cf a3
 clear xd eJ dX x0 xf l2 l3 a3 Nj hVV
 generalize w2.alloc (.cells vcs 27)=w3 at H3 M3 C3 HVL K3 V3⊢
 have HVS:=cf Qh
 clear Qh
 go_upto_region 9 with fail
 go_loopw[2,11] (fun a i wr=>a=.slice (ad AB) 1 aw∧i=G 0∧wr=w3) (fun _ _ _=>0)
 case atStart=>exact⟨rfl,rfl,rfl⟩
 case round=>
  obtain⟨rfl,rfl,rfl⟩:=hrel
  obtain⟨w3,rfl⟩:∃u,u=wr:=⟨_,rfl⟩
  have QO:w3.cell? ⟨m,10,none⟩=some (.bool false):=Yc M3.out
  have h3:=H3.out
  obtain⟨kz,r0,r1,r2,r3,r4,r5⟩:=h3.row
  obtain⟨gp,cp,rfl,KV,pJ,rm⟩:=h3.par
  have p0:=mV r0 r1 r2 r3 r4 r5
  have l4:ak w3.heap.size w3 (w3.alloc (.cells #[.slice (ad gp) 1 pc,.slice A n c,G 4,G ret,.slice T 0 tc] 62)):=F0
  have a4:=ao w3 (.cells #[.slice (ad gp) 1 pc,.slice A n c,G 4,G ret,.slice T 0 tc] 62)
  have L4:=cf l4;have GP:=cf (l4.some pJ);have H4:=cf (h3.low l4)
  have HP0:=cf rm
  clear r0 r1 r2 r3 r4 r5 h3 l4 pJ rm
  go_upto_region 12 with fail
  obtain⟨t12,jK⟩:∃t,t=w3.heap.size:=⟨_,rfl⟩
  rw[←jK]at a4⊢
  have HT:Hid (VV<t12∧t12<(w3.alloc (.cells #[.slice (ad gp) 1 pc,.slice A n c,G 4,G ret,.slice T 0 tc] 62)).heap.size):=cf ⟨by rw[jK];exact HVL.out,by rw[jK];simp⟩
  clear jK p0 QO
  have M4:=cf (L4.out.some M3.out);have C4:=cf (L4.out.some C3.out);have V4:=cf (L4.out.some V3.out)
  have K4:=cf (K3.out.trans (da.bD (L4.out.mono K3.out.size)))
  generalize w3.alloc (.cells #[.slice (ad gp) 1 pc,.slice A n c,G 4,G ret,.slice T 0 tc] 62)=w4 at a4 L4 GP H4 HT M4 C4 V4 K4⊢
  have B4:=cf a4
  clear a4 H3 M3 C3 HVL K3 V3
  go_loopw[13] (fun i wr=>(i=G 0∧wr=w4)∨(i=G 1∧da w4.heap.size [VV] w4 wr∧oj wr VV N M l 0)) (fun i _=>1-(intOf i).toNat)
  case atStart=>exact .inl ⟨rfl,rfl⟩
  case round=>
   rcases hrel with⟨rfl,rfl⟩|⟨rfl,hL,hV⟩
   ·obtain⟨w4,rfl⟩:∃u,u=wr:=⟨_,rfl⟩
    have y0:=bf B4.out
    have z0:w4.cell? ⟨gp,0,none⟩=some (G 0):=(Yc GP.out).trans HP0.out
    have c0:=bf C4.out
    have v0:∃x,w4.cell? ⟨VV,0,none⟩=some x:=⟨vcs[0]'(by rw[HVS.out];omega),by rw[Yc V4.out,Array.getElem?_eq_getElem]⟩
    obtain⟨x0,v0⟩:=v0
    have fr0:w4.frozen? ⟨VV,0,none⟩=false:=au V4.out
    have ax5:(1:Int)≤(N:Int):=by omega
    have au4:(0:Int)<(N:Int):=by omega
    go_upto_region 14 with fail
    go_region
    have HQ:=cf (show da w4.heap.size [VV] w4 (w4.setCell ⟨VV,0,none⟩ (.int .u16 (M 0))).drew∧oj (w4.setCell ⟨VV,0,none⟩ (.int .u16 (M 0))).drew VV N M l 0 from⟨(da.set _ (by simp) _).trans (da.bD (ak.refl _ _).drew),_,aD V4.out,by simpa using HVS.out,fun v hv=>by
     rcases hv with rfl|⟨_,j,o,hj,_⟩
     ·refine⟨0,rfl,by omega,?_⟩
      rw[Array.getElem?_setIfInBounds,if_pos rfl,if_pos (by rw[HVS.out];omega)]
     ·omega⟩)
    clear y0 z0 c0 v0 fr0
    generalize(w4.setCell ⟨VV,0,none⟩ (.int .u16 (M 0))).drew=w5 at HQ⊢
    go_wp2_with fail
    exact⟨.inr ⟨rfl,HQ.out⟩,by decide⟩
   ·obtain⟨w5,rfl⟩:∃u,u=wr:=⟨_,rfl⟩
    have an0:=HT.out.2
    have Ut:∀(b:Nat) (cs:Array Value) (e:TypeId),w4.heap[b]?=some (Obj.cells cs e (0,0))→e≠27→b≠VV:=by
     rintro b cs e hb he rfl
     rw[V4.out]at hb
     cases hb
     exact he rfl
    have M5:=cf (hL.obj (aB M4.out) (by simpa using Ut _ _ _ M4.out (by decide)) M4.out)
    have B5:=cf (hL.obj (aB B4.out) (by simpa using Ut _ _ _ B4.out (by decide)) B4.out)
    have H5:=cf (H4.out.but (fun b cs e hb he=>hL.block b (aB hb) (by simpa using Ut _ _ _ hb (by rcases he with rfl|rfl|rfl<;>decide))))
    have V5:=cf hV
    have K5:=cf (K4.out.trans (hL.low (S':=w.heap.size) (by simp only[List.mem_singleton];rintro b rfl;exact Nat.le_trans K1.out.size HVV.out) K4.out.size|>da.bD))
    have DK:Hid (VV<t12∧t12<w5.heap.size):=cf ⟨HT.out.1,Nat.lt_of_lt_of_le HT.out.2 hL.size⟩
    have La:m<w.heap.size:=Sn
    have XM:Hid (w.heap.size≤VV):=cf (Nat.le_trans K1.out.size HVV.out)
    have HTY:Hid (∀(b:Nat) (cs:Array Value) (e:TypeId),w5.heap[b]?=some (Obj.cells cs e (0,0))→e=62∨e=67∨e=3→b<w5.heap.size∧b∉[m,VV]):=cf (by
     intro b cs e hb he
     refine⟨aB hb,?_⟩
     obtain⟨vs5,hv5,_⟩:=hV
     simp only[List.mem_cons,List.not_mem_nil,or_false]
     rintro(rfl|rfl)
     ·rw[M5.out]at hb;cases hb;simp at he
     ·rw[hv5]at hb;cases hb;simp at he)
    have y0:=bf B5.out
    clear hL hV Ut an0 H4 M4 C4 V4 K4 B4 L4 GP HT
    go_upto_region 16 with fail
    clear y0
    go_loopw[14] (fun i wr=>∃(q:Nat) (O:Option Addr) (no co:Nat) (F:Int),i=G q∧q≤n∧F=100-(q:Int)∧da w5.heap.size [m,VV] w5 wr∧wr.heap[m]?=some (.cells #[.slice (ad fb) 2 fc,.slice (ad ab) 2 ac,G 0,G (-1),Zs,Zs,.slice (ad R) 8192 8192,Zs,Zs,G F,.bool false,G 1,.int .u16 0,.slice O no co,G 0,.int .u16 0,.string ⟨#[]⟩,G 0,G 0] 87 (0,0))∧cR wr w5.heap.size O no co (dK M (l.take q))∧oj wr VV N M l q∧(∀(j:Nat) (o:aE),j<q→l[j]?=some o→¬cU M o)) (fun i _=>n-(intOf i).toNat)
    case atStart=>exact⟨0,none,0,0,F,rfl,by omega,by have:=HF.out;omega,da.refl _ _ _,M5.out,cR.nil _ _,V5.out,fun j o hj=>by omega⟩
    case round=>
     obtain⟨q,O,no,co,F,rfl,hq,hF,hL,hM,hO,hV,hT⟩:=hrel
     obtain⟨wv,rfl⟩:∃u,u=wr:=⟨_,rfl⟩
     have hlen:l.length=n:=H5.out.ops.1
     have au0:no≤40:=by
      have h1:=hO.1
      unfold dK at h1
      have h2:=List.length_filterMap_le (ik M) (l.take q)
      rw[List.length_take]at h2
      omega
     have v0:=jw (hL.obj (g:=t12) DK.out.2 (by simp;have:=DK.out;have:=XM.out;omega) B5.out)
     have zm:1≤F:=by omega
     have hF2:F≤1000:=by omega
     obtain⟨wp,ZA⟩:∃u,u=wv.setCell ⟨m,9,none⟩ (G (F-1)):=⟨_,rfl⟩
     have JP:=Ro wv m _ F hM rfl rfl zm hF2
     rw[←ZA]at JP
     have hmp:wp.heap[m]?=some (.cells #[.slice (ad fb) 2 fc,.slice (ad ab) 2 ac,G 0,G (-1),Zs,Zs,.slice (ad R) 8192 8192,Zs,Zs,G (F-1),.bool false,G 1,.int .u16 0,.slice O no co,G 0,.int .u16 0,.string ⟨#[]⟩,G 0,G 0] 87 (0,0)):=by rw[ZA,aD hM];rfl
     have CF:∀b,b≠m→wp.heap[b]?=wv.heap[b]?:=fun b hb=>by rw[ZA];exact aj hb
     have aa5:m<w5.heap.size:=aB M5.out
     have Ut:VV≠m:=by have:=XM.out;omega
     have wL:da w5.heap.size [m,VV] w5 wp:=hL.trans (by rw[ZA];exact da.set _ (by simp) _)
     have hOp:cR wp w5.heap.size O no co (dK M (l.take q)):=hO.kept fun g cs hg _=>CF g (by omega)
     have hVp:oj wp VV N M l q:=hV.of (CF VV Ut)
     have T1:w5.heap.size≤wp.heap.size:=wL.size
     have m10:wv.cell? ⟨m,10,none⟩=some (.bool false):=Yc hM
     have v1:=jw (wL.obj (g:=t12) DK.out.2 (by simp;have:=DK.out;have:=XM.out;omega) B5.out)
     have HMP:=cf hmp;have YN:=cf wL;have HOP:=cf hOp;have HVP:=cf hVp;have HTR:=cf hT;have HFq:=cf hF;have HPS:=cf T1;have HM5:=cf aa5;have HVM:=cf Ut
     have HHP:=cf (H5.out.but (fun b cs e hb he=>wL.block b (HTY.out b cs e hb he).1 (HTY.out b cs e hb he).2))
     clear hM hO hV hT hL hmp CF aa5 Ut wL hOp hVp hF ZA T1
     by_cases bw:q<n
     ·have hv:=HHP.out
      have bN:(q:Int)<(n:Int):=by omega
      have nu:(0:Int)≤(q:Int):=by omega
      have mI:(q:Int)≤40:=by omega
      obtain⟨o,ho⟩:∃o,l[q]?=some o:=⟨_,List.getElem?_eq_getElem (by have:=hv.ops.1;omega)⟩
      obtain⟨ga,cs,rfl,qD,hg,k0,k1,k2,k3,k4,k5⟩:=hv.ops.2 q o ho
      obtain⟨c0,c1,c2,c3,c4,c5⟩:=iw hg k0 k1 k2 k3 k4 k5
      have iA:=List.mem_of_getElem? ho
      have oL:=dA.out.form o iA
      have kr:=dA.out.use q o ho
      have On:N≤1000:=by omega
      have Wu:no≤1000:=by omega
      have NY:ga<w5.heap.size∧ga∉[m,VV]:=by
       obtain⟨eK,jH,e',_,NZ,_⟩:=H5.out.ops.2 q o ho
       cases e'
       exact HTY.out _ _ _ NZ (by decide)
      by_cases Hq:cU M o
      ·have gR:=IN wp m VV N fb fc ab ac R 1 (F-1) On M HW.out l q HVP.out o oL kr Hq w5.heap.size HM5.out HPS.out O no co (dK M (l.take q)) HMP.out HOP.out
       have ar2:=cf Hq;have HO:=cf ho
       clear hv hg k0 k1 k2 k3 k4 k5 ho Hq iA oL kr NY
       go_wp2_with(first
        |(go_at_call 128;(with_reducible refine JP.mono ?_);rintro e u ⟨rfl,hu⟩;rw[hu];clear hu u)
        |(go_at_call 129;(with_reducible refine gR.mono ?_);rintro e w6 ⟨rfl,Ig,Oo,Uw⟩;have m6:w6.cell? ⟨m,10,none⟩=some (.bool true):=Yc Oo;have Ti:=cf Ig;have HM6:=cf Oo;have UY:=cf Uw;clear Ig Oo Uw))
       go_ret
       refine⟨0,F-1,true,4,O,no,co,_,rfl,K5.out.trans ((YN.out.trans (Ti.out.more (by simp))).cut (by have:=K5.out.size;omega) XM.out),HM6.out,UY.out.base K5.out.size,.inr ⟨q,o,HO.out,ar2.out,HTR.out,rfl,rfl,rfl,rfl⟩⟩
      ·have gR:=Q6 wp m VV N fb fc ab ac R 1 (F-1) On M HW.out l q HVP.out o oL kr (HS.out o iA) Hq w5.heap.size HM5.out HPS.out O no co (dK M (l.take q)) HMP.out HOP.out Wu
       have HK6:Hid (∀w6,da w5.heap.size [m] wp w6→w6.cell? ⟨t12,1,none⟩=some (.slice (ad ga) n c)∧w6.cell? ⟨ga,q*6+1,none⟩=some (G o.res)∧oj w6 VV N M l q):=cf (fun w6 Ig=>by
        have hVS:VV<w5.heap.size:=Nat.lt_trans DK.out.1 DK.out.2
        refine⟨Yc ((YN.out.trans (Ig.more (by simp))).obj (g:=t12) DK.out.2 (by simp;have:=DK.out;have:=XM.out;omega) B5.out),(Yc (Ig.obj NY.1 (by have:=NY.2;simp only[List.mem_cons,List.not_mem_nil,or_false]at this⊢;omega) hg)).trans k1,HVP.out.of (Ig.block VV hVS (by simp;exact HVM.out))⟩)
       have HTQ:Hid (∀(j:Nat) (o':aE),j<q+1→l[j]?=some o'→¬cU M o'):=cf (fun j o' hj h'=>by
        by_cases hjq:j=q
        ·subst hjq
         rw[ho]at h'
         cases h'
         exact Hq
        ·exact HTR.out j o' (by omega) h')
       have HOS:=cf (ER (M:=M) ho)
       have HO:=cf ho
       by_cases cO:o.code=25
       ·have sR:o.res= -1:=oL.2.2.1 (by rw[cO];decide)
        have aa0:¬(0:Int)≤o.res:=by omega
        have HR1:=cf sR
        clear hv hg k0 k1 k2 k3 k4 k5 ho Hq iA oL kr NY sR cO
        go_wp2_with(first
         |(go_at_call 128;(with_reducible refine JP.mono ?_);rintro e u ⟨rfl,hu⟩;rw[hu];clear hu u)
         |(go_at_call 129;(with_reducible refine gR.mono ?_);rintro e w6 ⟨r,O',Ce,pK,rfl,hr,Ig,Oo,Uw⟩;have m6:w6.cell? ⟨m,10,none⟩=some (.bool false):=Yc Oo;obtain⟨t6,r6,v6⟩:=HK6.out w6 Ig;have Ti:=cf Ig;have HM6:=cf Oo;have UY:=cf Uw;have HV6:=cf v6;clear Ig Oo Uw hr v6))
        exact⟨⟨q+1,O',Ce,pK,F-1,by simp,bw,by have:=HFq.out;omega,YN.out.trans (Ti.out.more (by simp)),HM6.out,by rw[HOS.out];exact UY.out,HV6.out.next HO.out HR1.out,HTQ.out⟩,by show n-((q:Int)+1).toNat<n-((q:Int)).toNat;omega⟩
       ·have nt:0≤o.res:=oL.2.1 (by unfold bR;simp[cO])
        have Z0:o.res<(N:Int):=by
         have h1:=fY l 1 o iA
         have h2:=HN.out
         unfold de at h2
         omega
        obtain⟨k,hk⟩:∃k:Nat,o.res=(k:Int):=⟨o.res.toNat,by omega⟩
        have Ui:k<N:=by omega
        have sS:(0:Int)≤(k:Int):=by omega
        have ab1:(k:Int)<(N:Int):=by omega
        have Qs:(k:Int)≤101:=by omega
        have HK:=cf hk
        have H25:=cf cO
        clear hv hg k0 k1 k2 k3 k4 k5 ho Hq iA oL kr NY cO hk nt Z0
        go_wp2_with(first
         |(go_at_call 128;(with_reducible refine JP.mono ?_);rintro e u ⟨rfl,hu⟩;rw[hu];clear hu u)
         |(go_at_call 129;(with_reducible refine gR.mono ?_);rintro e w6 ⟨r,O',Ce,pK,rfl,hr,Ig,Oo,Uw⟩;have m6:w6.cell? ⟨m,10,none⟩=some (.bool false):=Yc Oo;obtain⟨t6,r6,v6⟩:=HK6.out w6 Ig;rw[HK.out]at r6;have DT:=hr H25.out;clear hr;have HR:=cf DT;clear DT;have Ti:=cf Ig;have HM6:=cf Oo;have UY:=cf Uw;have HV6:=cf v6;obtain⟨vs6,e1,e2,e3⟩:=v6;obtain⟨xv,qx⟩:∃x,w6.cell? ⟨VV,k,none⟩=some x:=⟨vs6[k]'(by omega),by rw[Yc e1,Array.getElem?_eq_getElem]⟩;have fv:w6.frozen? ⟨VV,k,none⟩=false:=au e1;clear Ig Oo Uw e1 e2 e3))
        exact⟨⟨q+1,O',Ce,pK,F-1,by simp,bw,by have:=HFq.out;omega,(YN.out.trans (Ti.out.more (by simp))).trans (da.set _ (by simp) _),(aj (fun e=>HVM.out e.symm)).trans HM6.out,by rw[HOS.out];exact UY.out.kept fun g cs hg _=>aj (by have:=DK.out;omega),HV6.out.put HO.out k HK.out Ui _ (by rw[HR.out]),HTQ.out⟩,by show n-((q:Int)+1).toNat<n-((q:Int)).toNat;omega⟩
     ·have bN:¬(q:Int)<(n:Int):=by omega
      obtain rfl:q=n:=by omega
      obtain⟨vs6,e1,e2,e3⟩:=HVP.out
      obtain⟨k,hk,Ui,hkc⟩:=e3 ret (by rw[←hlen];exact dA.out.ret)
      have sS:(0:Int)≤(k:Int):=by omega
      have ab1:(k:Int)<(N:Int):=by omega
      have Qs:(k:Int)≤101:=by omega
      have Lk:wp.heap[t12]?=some (.cells #[.slice (ad gp) 1 pc,.slice A q c,G 4,G ret,.slice T 0 tc] 62 (0,0)):=YN.out.obj (g:=t12) DK.out.2 (by simp;have:=DK.out;have:=XM.out;omega) B5.out
      rw[hk]at Lk
      have v2:=rn Lk
      have v3:=mM Lk
      have v4:=vE Lk
      have kc:wp.cell? ⟨VV,k,none⟩=some (.int .u16 (M ret)):=(Yc e1).trans hkc
      have hwl:VV<wp.heap.size:=aB e1
      have HKC:=cf kc
      clear e1 e2 e3 hkc Lk kc
      go_upto_region 30 with(first
       |(go_at_call 128;(with_reducible refine JP.mono ?_);rintro e u ⟨rfl,hu⟩;rw[hu];clear hu u))
      have l6:ak wp.heap.size wp (wp.alloc (.cells #[G 4,G k,.slice T 0 tc] 60)):=F0
      have a6:=ao wp (.cells #[G 4,G k,.slice T 0 tc] 60)
      obtain⟨t18,wY⟩:∃t,t=wp.heap.size:=⟨_,rfl⟩
      rw[←wY]at a6⊢
      clear wY
      have kc6:(wp.alloc (.cells #[G 4,G k,.slice T 0 tc] 60)).cell? ⟨VV,k,none⟩=some (.int .u16 (M ret)):=by
       obtain⟨vs6,e1,_⟩:=HVP.out
       exact(Yc (l6.some e1)).trans ((Yc e1).symm.trans HKC.out)
      have L6:=cf l6
      clear l6 v1 v2 v3 v4 m10 JP
      generalize wp.alloc (.cells #[G 4,G k,.slice T 0 tc] 60)=w6 at a6 kc6 L6⊢
      obtain⟨z0,z1⟩:=gV a6
      clear a6
      go_wp2_with fail
      go_ret
      refine⟨M (k:Int),F-1,false,0,O,no,co,_,rfl,K5.out.trans ((YN.out.cut (by have:=K5.out.size;omega) XM.out).trans (da.bD (L6.out.mono (by have:=K5.out.size;have:=HPS.out;omega)))),L6.out.some HMP.out,(HOP.out.low L6.out).base K5.out.size,.inl ⟨fun j o hj=>HTR.out j o (by have:=(List.getElem?_eq_some_iff.1 hj).1;omega) hj,by rw[hk],rfl,rfl,by rw[←hlen,List.take_length]⟩⟩
end
end Go.Proofs.YtjkahfmdcpfjjaaGreat
