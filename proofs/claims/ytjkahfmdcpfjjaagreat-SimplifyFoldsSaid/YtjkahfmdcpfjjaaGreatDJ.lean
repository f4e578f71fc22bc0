/- The plain part: the statement's function itself, and what is equal at the end. -/
import Derived.Test.YtjkahfmdcpfjjaaGreatDG
set_option linter.unusedVariables false
namespace Go.Proofs.YtjkahfmdcpfjjaaGreat
open Go.RowKit
section
def bY (c v0 v1:Int):List aE:=[⟨1,1,0,0,v0⟩,⟨1,2,0,0,v1⟩,⟨c,3,1,2,0⟩,⟨c,4,0,2,0⟩,⟨c,5,1,0,0⟩,⟨25,-1,4,0,1⟩,⟨25,-1,5,0,2⟩]
def Bn (c a b:Int):Int:=if c=8∧b=0 then 0 else arith c a b
def di (c v0 v1 x:Int) (v:Int):Int:=if v=0 then x else if v=1 then v0 else if v=2 then v1 else if v=3 then Bn c v0 v1 else if v=4 then Bn c x v1 else if v=5 then Bn c v0 x else 0
section
variable {c v0 v1 x : Int}
theorem vK {a b:Int} (h5:5≤c) (ha:W a) (hb:W b):W (Bn c a b):=by
 unfold Bn
 by_cases h:c=8∧b=0
 ·rw[if_pos h];exact⟨by omega,by omega⟩
 ·rw[if_neg h];exact vG ha hb h5 (fun h8 hb=>h ⟨h8,hb⟩)
theorem xp (h5:5≤c) (h0:W v0) (h1:W v1) (hx:W x) (v:Int):W (di c v0 v1 x v):=by
 unfold di
 split
 ·exact hx
 ·split
  ·exact h0
  ·split
   ·exact h1
   ·split
    ·exact vK h5 h0 h1
    ·split
     ·exact vK h5 hx h1
     ·split
      ·exact vK h5 h0 hx
      ·exact⟨by omega,by omega⟩
theorem Ir (h5:5≤c) (dz:c≤17):aS c:=by
 unfold aS
 simp
 omega
theorem BZ (h5:5≤c) (dz:c≤17):∀o∈bY c v0 v1,Lv o:=by
 intro o ho
 have hc:=Ir h5 dz
 simp only[bY,List.mem_cons,List.not_mem_nil,or_false]at ho
 rcases ho with rfl|rfl|rfl|rfl|rfl|rfl|rfl
 ·exact⟨by unfold aS;simp,by show(-1:Int)≤1;omega,by show(1:Int)≤100;omega⟩
 ·exact⟨by unfold aS;simp,by show(-1:Int)≤2;omega,by show(2:Int)≤100;omega⟩
 ·exact⟨hc,by show(-1:Int)≤3;omega,by show(3:Int)≤100;omega⟩
 ·exact⟨hc,by show(-1:Int)≤4;omega,by show(4:Int)≤100;omega⟩
 ·exact⟨hc,by show(-1:Int)≤5;omega,by show(5:Int)≤100;omega⟩
 ·exact⟨by unfold aS;simp,by show(-1:Int)≤-1;omega,by show(-1:Int)≤100;omega⟩
 ·exact⟨by unfold aS;simp,by show(-1:Int)≤-1;omega,by show(-1:Int)≤100;omega⟩
theorem MH (h5:5≤c):∀o∈bY c v0 v1,o.code≠2:=by
 intro o ho
 simp only[bY,List.mem_cons,List.not_mem_nil,or_false]at ho
 rcases ho with rfl|rfl|rfl|rfl|rfl|rfl|rfl<;>simp<;>omega
theorem B0:fS (bY c v0 v1)=[(0,0),(1,1),(2,2),(3,3),(4,4),(5,5)]:=rfl
variable {o:aE}
theorem lP {f:Int→Int} (h1:0≤o.res→f o.res=o.res) (h2:f o.a=o.a) (h3:f o.b=o.b):dw f o=o:=by
 unfold dw
 obtain⟨a,b,d,e,n⟩:=o
 simp only at h1 h2 h3⊢
 rw[h2,h3]
 by_cases h0:0≤b
 ·rw[if_pos h0,h1 h0];simp
 ·rw[if_neg h0];simp
theorem BY:bK (bY c v0 v1) 0=0∧bK (bY c v0 v1) 1=1∧bK (bY c v0 v1) 2=2∧bK (bY c v0 v1) 3=3∧bK (bY c v0 v1) 4=4∧bK (bY c v0 v1) 5=5:=by
 unfold bK
 rw[B0]
 exact⟨rfl,rfl,rfl,rfl,rfl,rfl⟩
theorem MJ:eT (bY c v0 v1)=bY c v0 v1:=by
 obtain⟨n0,n1,n2,n3,n4,n5⟩:=BY (c:=c) (v0:=v0) (v1:=v1)
 unfold eT
 generalize bK (bY c v0 v1)=f at n0 n1 n2 n3 n4 n5
 unfold bY
 simp only[List.map_cons,List.map_nil]
 rw[lP (fun _=>n1) n0 n0,lP (fun _=>n2) n0 n0,lP (fun _=>n3) n1 n2,lP (fun _=>n4) n0 n2,lP (fun _=>n5) n1 n0,lP (fun h=>absurd h (by decide)) n4 n0,lP (fun h=>absurd h (by decide)) n5 n0]
def vW:St:=⟨6,[],[],[],[]⟩
def DQ (v0:Int):St:=(aK vW v0).2.alias 1 (aK vW v0).1
def iI (v0 v1:Int):St:=(aK (DQ v0) v1).2.alias 2 (aK (DQ v0) v1).1
def MG (c:Int):List aE:=[⟨c,3,1,2,0⟩,⟨c,4,0,2,0⟩,⟨c,5,1,0,0⟩,⟨25,-1,4,0,1⟩,⟨25,-1,5,0,2⟩]
theorem fJ {acc:St×List aE} (h:o.code≠1):im acc o=(acc.1,acc.2++[o]):=by unfold im;rw[if_neg h]
theorem rG (h5:5≤c):fU (bY c v0 v1)=(iI v0 v1,MG c):=by
 have hc:c≠1:=by omega
 have FH:de (bY c v0 v1)=6:=rfl
 unfold fU
 rw[FH]
 unfold bY
 simp only[List.foldl_cons,List.foldl_nil]
 rw[show im (⟨6,[],[],[],[]⟩,[]) (⟨1,1,0,0,v0⟩:aE)=(DQ v0,[])from rfl,show im (DQ v0,[]) (⟨1,2,0,0,v1⟩:aE)=(iI v0 v1,[])from rfl]
 rw[fJ (o:=⟨c,3,1,2,0⟩) hc,fJ (o:=⟨c,4,0,2,0⟩) hc,fJ (o:=⟨c,5,1,0,0⟩) hc,fJ (o:=⟨25,-1,4,0,1⟩) (by decide),fJ (o:=⟨25,-1,5,0,2⟩) (by decide)]
 rfl
theorem Rt (h5:5≤c) (q:Nat) (hq:q≤7):(lq (bY c v0 v1) q).1=vW∨(lq (bY c v0 v1) q).1=DQ v0∨(lq (bY c v0 v1) q).1=iI v0 v1:=by
 have hc:c≠1:=by omega
 have key:∀(q:Nat) (o:aE),(bY c v0 v1)[q]?=some o→o.code≠1→(lq (bY c v0 v1) (q+1)).1=(lq (bY c v0 v1) q).1:=fun q o ho hc=>by rw[Hh ho,fJ hc]
 have e0:(lq (bY c v0 v1) 0).1=vW:=rfl
 have e1:(lq (bY c v0 v1) 1).1=DQ v0:=rfl
 have e2:(lq (bY c v0 v1) 2).1=iI v0 v1:=rfl
 have e3:(lq (bY c v0 v1) 3).1=iI v0 v1:=(key 2 _ rfl hc).trans e2
 have e4:(lq (bY c v0 v1) 4).1=iI v0 v1:=(key 3 _ rfl hc).trans e3
 have e5:(lq (bY c v0 v1) 5).1=iI v0 v1:=(key 4 _ rfl hc).trans e4
 have e6:(lq (bY c v0 v1) 6).1=iI v0 v1:=(key 5 _ rfl (by decide)).trans e5
 have e7:(lq (bY c v0 v1) 7).1=iI v0 v1:=(key 6 _ rfl (by decide)).trans e6
 have eR:q=0∨q=1∨q=2∨q=3∨q=4∨q=5∨q=6∨q=7:=by omega
 rcases eR with rfl|rfl|rfl|rfl|rfl|rfl|rfl|rfl
 ·exact .inl e0
 ·exact .inr (.inl e1)
 all_goals first|exact .inr (.inr e2)|exact .inr (.inr e3)|exact .inr (.inr e4)|exact .inr (.inr e5)|exact .inr (.inr e6)|exact .inr (.inr e7)
structure SF (M:Int→Int) (v0 v1:Int) (a1 a2:Int):Prop where
 ok0:cB M vW
 ok1:cB M (DQ v0)
 Yf:cB M (iI v0 v1)
 n1:aA (iI v0 v1).nm a1=some v0
 n2:aA (iI v0 v1).nm a2=some v1
 f0:bu (iI v0 v1) 0=0
 f1:bu (iI v0 v1) 1=a1
 f2:bu (iI v0 v1) 2=a2
 f3:bu (iI v0 v1) 3=3
 f4:bu (iI v0 v1) 4=4
 f5:bu (iI v0 v1) 5=5
 x1:(DQ v0).next≤7
 x2:(iI v0 v1).next≤8
 cm:jF (iI v0 v1)
theorem Vv {M:Int→Int} (hW:∀v,W (M v)) (h1:M 1=v0) (h2:M 2=v1):∃a1 a2,SF M v0 v1 a1 a2:=by
 have ok0:cB M vW:=⟨fun n v=>by simp[vW,aA],fun v n h=>by simp[vW,aA]at h,by show(6:Int)≤6;omega,fun v u h=>by simp[vW,aA]at h,fun p hp=>by simp[vW]at hp,hW⟩
 have w0:W v0:=by rw[←h1];exact hW 1
 have w1:W v1:=by rw[←h2];exact hW 2
 obtain⟨k1,e1,g1,al1,_,_,nx1,_⟩:=jc ok0 w0
 have mq:cj (aA (aK vW v0).2.nm) M (aK vW v0).1=M 1:=by rw[dB g1,h1]
 obtain⟨m1,e1',_⟩:=qY k1 (r:=1) (by omega) (by omega) (.inr (by rw[g1];rfl)) mq
 have m1':cB M (DQ v0):=m1
 obtain⟨k2,e2,g2,al2,_,_,nx2,_⟩:=jc m1' w1
 have pG:cj (aA (aK (DQ v0) v1).2.nm) M (aK (DQ v0) v1).1=M 2:=by rw[dB g2,h2]
 obtain⟨m2,QC,_⟩:=qY k2 (r:=2) (by omega) (by omega) (.inr (by rw[g2];rfl)) pG
 have m2':cB M (iI v0 v1):=m2
 have J3:∀k,aA (iI v0 v1).al k=if k=2 then some (aK (DQ v0) v1).1 else if k=1 then some (aK vW v0).1 else none:=fun k=>by
  show aA (dj (aK (DQ v0) v1).2.al 2 _) k=_
  rw[cQ,al2]
  by_cases hk:k=2
  ·rw[if_pos hk,if_pos hk]
  ·rw[if_neg hk,if_neg hk]
   show aA (dj (aK vW v0).2.al 1 _) k=_
   rw[cQ,al1]
   rfl
 have zi:aA (iI v0 v1).nm (aK vW v0).1=some v0:=QC.nm _ _ (e2.nm _ _ (e1'.nm _ _ g1))
 refine⟨(aK vW v0).1,(aK (DQ v0) v1).1,ok0,m1',m2',zi,QC.nm _ _ g2,?_,?_,?_,?_,?_,?_,?_,?_,qZ (nX (qZ (nX ⟨by simp[vW],by simp[vW]⟩ v0) _ _) v1) _ _⟩
 ·unfold bu;rw[J3];rfl
 ·unfold bu;rw[J3];rfl
 ·unfold bu;rw[J3];rfl
 ·unfold bu;rw[J3];rfl
 ·unfold bu;rw[J3];rfl
 ·unfold bu;rw[J3];rfl
 ·show(aK vW v0).2.next≤7
  have:vW.next=6:=rfl
  omega
 ·show(aK (DQ v0) v1).2.next≤8
  have h3:(DQ v0).next≤7:=by
   show(aK vW v0).2.next≤7
   have:vW.next=6:=rfl
   omega
  omega
theorem Ef (nm:Int→Option Int) (o:aE):wt nm o≤2:=by
 unfold wt
 cases cE nm o with
 |aW o'=>simp only;split<;>omega
 |val v=>simp
 |nF n=>simp
 |Bb o' n=>simp only;split<;>(try omega);split<;>omega
def tP (c v1 x:Int):Prop:=c=8∧(v1=0∨x=0)
def xU (c v0 v1 x:Int):List (Int×Int):=[(1,Bn c x v1),(2,Bn c v0 x)]
theorem Ru {a1 a2:Int} (h5:5≤c) (dz:c≤17) (h:SF (di c v0 v1 x) v0 v1 a1 a2):FI (di c v0 v1 x) (tP c v1 x) (xU c v0 v1 x) (Bn c v0 v1) 14 (iI v0 v1) (MG c) 3:=by
 obtain⟨ua,ub⟩:=cM h5 dz
 have e3:bO (iI v0 v1) ⟨c,3,1,2,0⟩=⟨c,3,a1,a2,0⟩:=by unfold bO;simp only[ua,ub,if_true,h.f1,h.f2]
 have e4:bO (iI v0 v1) ⟨c,4,0,2,0⟩=⟨c,4,0,a2,0⟩:=by unfold bO;simp only[ua,ub,if_true,h.f0,h.f2]
 have e5:bO (iI v0 v1) ⟨c,5,1,0,0⟩=⟨c,5,a1,0,0⟩:=by unfold bO;simp only[ua,ub,if_true,h.f0,h.f1]
 have u25:aZ 25=true:=rfl
 have w25:bc 25=false:=rfl
 have e6:bO (iI v0 v1) ⟨25,-1,4,0,1⟩=⟨25,-1,4,0,1⟩:=by unfold bO;simp only[u25,w25,if_true,h.f4];rfl
 have e7:bO (iI v0 v1) ⟨25,-1,5,0,2⟩=⟨25,-1,5,0,2⟩:=by unfold bO;simp only[u25,w25,if_true,h.f5];rfl
 have jn:(MG c).map (bO (iI v0 v1))=[⟨c,3,a1,a2,0⟩,⟨c,4,0,a2,0⟩,⟨c,5,a1,0,0⟩,⟨25,-1,4,0,1⟩,⟨25,-1,5,0,2⟩]:=by
  unfold MG
  simp only[List.map_cons,List.map_nil,e3,e4,e5,e6,e7]
 have KI:c≠25:=by omega
 have o1:ix (iI v0 v1) a1:=.inr (by rw[h.n1];rfl)
 have o2:ix (iI v0 v1) a2:=.inr (by rw[h.n2];rfl)
 have p1:6≤a1:=(h.Yf.kw _ _ h.n1).1
 have p2:6≤a2:=(h.Yf.kw _ _ h.n2).1
 have q1:cj (aA (iI v0 v1).nm) (di c v0 v1 x) a1=v0:=dB h.n1
 have q2:cj (aA (iI v0 v1).nm) (di c v0 v1 x) a2=v1:=dB h.n2
 have qv:∀v:Int,v<6→cj (aA (iI v0 v1).nm) (di c v0 v1 x) v=di c v0 v1 x v:=fun v hv=>by unfold cj;rw[h.Yf.low hv];rfl
 have q0:=qv 0 (by omega)
 have q4:=qv 4 (by omega)
 have q5:=qv 5 (by omega)
 have z0:di c v0 v1 x 0=x:=rfl
 have z4:di c v0 v1 x 4=Bn c x v1:=rfl
 have z5:di c v0 v1 x 5=Bn c v0 x:=rfl
 unfold FI
 rw[jn,h.f3]
 have fA:∀(r a b:Int),3≤r→r≤5→ix (iI v0 v1) a→ix (iI v0 v1) b→¬(a=0∧b=0)→jC (iI v0 v1) ⟨c,r,a,b,0⟩:=fun r a b h1 h2 h3 h4 h6=>⟨⟨.inr ⟨h5,dz,h3,h4,h6⟩,rfl⟩,h1,h2⟩
 have f6:jB (iI v0 v1) ⟨25,-1,4,0,1⟩:=⟨rfl,rfl,rfl,by decide,by decide,by decide,.inl (by decide)⟩
 have f7:jB (iI v0 v1) ⟨25,-1,5,0,2⟩:=⟨rfl,rfl,rfl,by decide,by decide,by decide,.inl (by decide)⟩
 refine⟨h.Yf,?_,?_,?_,?_,?_,?_,?_,?_,?_,⟨by decide,.inl (by decide)⟩,?_,?_,by simp⟩
 ·intro o ho
  simp only[List.mem_cons,List.not_mem_nil,or_false]at ho
  rcases ho with rfl|rfl|rfl|rfl|rfl
  ·exact .inl (fA _ _ _ (by omega) (by omega) o1 o2 (by omega))
  ·exact .inl (fA _ _ _ (by omega) (by omega) (.inl rfl) o2 (by omega))
  ·exact .inl (fA _ _ _ (by omega) (by omega) o1 (.inl rfl) (by omega))
  ·exact .inr f6
  ·exact .inr f7
 ·intro o ho
  rw[←jn]at ho
  obtain⟨y,_,rfl⟩:=List.mem_map.1 ho
  exact yd h.Yf y
 ·intro o ho
  have Cx:∀(r a b:Int),(pz c (cj (aA (iI v0 v1).nm) (di c v0 v1 x) b)→di c v0 v1 x r=arith c (cj (aA (iI v0 v1).nm) (di c v0 v1 x) a) (cj (aA (iI v0 v1).nm) (di c v0 v1 x) b))→vP (aA (iI v0 v1).nm) (di c v0 v1 x) ⟨c,r,a,b,0⟩:=fun r a b hh cO hn=>by
   show di c v0 v1 x r=fj c _ _
   rw[gZ h5]
   exact hh hn
  have WZ:∀{a b:Int},pz c b→Bn c a b=arith c a b:=fun{a b} hn=>by unfold Bn;rw[if_neg (fun hh=>hn hh.1 hh.2)]
  simp only[List.mem_cons,List.not_mem_nil,or_false]at ho
  rcases ho with rfl|rfl|rfl|rfl|rfl
  ·exact Cx 3 a1 a2 (fun hn=>by rw[q1,q2];rw[q2]at hn;exact WZ hn)
  ·exact Cx 4 0 a2 (fun hn=>by rw[q0,q2,z0];rw[q2]at hn;exact WZ hn)
  ·exact Cx 5 a1 0 (fun hn=>by rw[q1,q0,z0];rw[q0,z0]at hn;exact WZ hn)
  ·exact fun cO=>absurd rfl cO
  ·exact fun cO=>absurd rfl cO
 ·have hn:∀r a b:Int,fk (aA (iI v0 v1).nm) (di c v0 v1 x) ⟨c,r,a,b,0⟩=none:=fun r a b=>by unfold fk;rw[if_neg KI]
  have hs:∀a n:Int,fk (aA (iI v0 v1).nm) (di c v0 v1 x) ⟨25,-1,a,0,n⟩=some (n,cj (aA (iI v0 v1).nm) (di c v0 v1 x) a):=fun a n=>by unfold fk;rw[if_pos rfl]
  simp only[List.filterMap_cons,List.filterMap_nil,hn,hs,q4,q5,z4,z5]
  rfl
 ·unfold tP
  constructor
  ·rintro⟨o,ho,h8,hb⟩
   simp only[List.mem_cons,List.not_mem_nil,or_false]at ho
   rcases ho with rfl|rfl|rfl|rfl|rfl
   ·exact⟨h8,.inl (by rw[←q2];exact hb)⟩
   ·exact⟨h8,.inl (by rw[←q2];exact hb)⟩
   ·exact⟨h8,.inr (by rw[←z0,←q0];exact hb)⟩
   ·exact absurd h8 (by decide)
   ·exact absurd h8 (by decide)
  ·rintro⟨h8,hb|hb⟩
   ·exact⟨⟨c,3,a1,a2,0⟩,by simp,h8,by show cj _ _ a2=0;rw[q2,hb]⟩
   ·exact⟨⟨c,5,a1,0,0⟩,by simp,h8,by show cj _ _ 0=0;rw[q0,z0,hb]⟩
 ·have hk:∀r a b:Int,fV ⟨c,r,a,b,0⟩=r:=fun r a b=>by unfold fV;rw[if_neg KI]
  simp only[List.map_cons,List.map_nil,hk]
  have e1:fV ⟨25,-1,4,0,1⟩=100:=rfl
  have e2:fV ⟨25,-1,5,0,2⟩=100:=rfl
  rw[e1,e2]
  decide
 ·intro o ho cO
  simp only[List.mem_cons,List.not_mem_nil,or_false]at ho
  rcases ho with rfl|rfl|rfl|rfl|rfl
  ·exact absurd cO KI
  ·exact absurd cO KI
  ·exact absurd cO KI
  ·exact .inr ⟨⟨c,4,0,a2,0⟩,by simp,KI,rfl⟩
  ·exact .inr ⟨⟨c,5,a1,0,0⟩,by simp,KI,rfl⟩
 ·exact h.f3
 ·rw[qv 3 (by omega)];rfl
 ·exact .inr ⟨⟨c,3,a1,a2,0⟩,by simp,KI,rfl⟩
 ·unfold kG
  simp only[List.map_cons,List.map_nil,List.sum_cons,List.sum_nil,f6.P0,f7.P0]
  have t1:=Ef (aA (iI v0 v1).nm) ⟨c,3,a1,a2,0⟩
  have t2:=Ef (aA (iI v0 v1).nm) ⟨c,4,0,a2,0⟩
  have t3:=Ef (aA (iI v0 v1).nm) ⟨c,5,a1,0,0⟩
  have:=h.x2
  omega
end
end
section
section
variable {c v0 v1 x : Int}
theorem Rs (h5:5≤c) (dz:c≤17):kC (bY c v0 v1) 3:=by
 obtain⟨ua,ub⟩:=cM h5 dz
 have KI:c≠25:=by omega
 have oh:bR c=true:=by unfold bR;simp[KI]
 have CU:=Ir h5 dz
 have fA:∀(r a b:Int),0≤r→eZ ⟨c,r,a,b,0⟩:=fun r a b hr=>⟨CU,fun _=>hr,(fun h=>by rw[show bR c=false from h]at oh;cases oh),(fun h=>by rw[show bc c=false from h]at ub;cases ub),fun _=>rfl,(fun h=>by rw[show aZ c=false from h]at ua;cases ua),fun h=>absurd h KI⟩
 have fC:∀(r n:Int),0≤r→eZ ⟨1,r,0,0,n⟩:=fun r n hr=>⟨by unfold aS;simp,fun _=>hr,fun h=>by simp[bR]at h,fun _=>rfl,fun h=>by simp[iB]at h,fun _=>rfl,fun h=>by simp at h⟩
 have fO:∀(a n:Int),1≤n→n≤255→eZ ⟨25,-1,a,0,n⟩:=fun a n h1 h2=>⟨by unfold aS;simp,fun h=>by simp[bR]at h,fun _=>rfl,fun _=>rfl,fun h=>by simp[iB]at h,fun h=>by simp[aZ]at h,fun _=>⟨h1,h2⟩⟩
 have hk:∀(k:Nat) (o:aE),(bY c v0 v1)[k]?=some o→(k=0∧o=⟨1,1,0,0,v0⟩)∨(k=1∧o=⟨1,2,0,0,v1⟩)∨(k=2∧o=⟨c,3,1,2,0⟩)∨(k=3∧o=⟨c,4,0,2,0⟩)∨(k=4∧o=⟨c,5,1,0,0⟩)∨(k=5∧o=⟨25,-1,4,0,1⟩)∨(k=6∧o=⟨25,-1,5,0,2⟩):=fun k o h=>by
  have bw:=(List.getElem?_eq_some_iff.1 h).1
  have hl:(bY c v0 v1).length=7:=rfl
  have eR:k=0∨k=1∨k=2∨k=3∨k=4∨k=5∨k=6:=by omega
  rcases eR with rfl|rfl|rfl|rfl|rfl|rfl|rfl
  all_goals(simp[bY]at h;simp[h])
 have kn:∀(k j:Nat) (r:Int) (o:aE),j<k→0<r→(bY c v0 v1)[j]?=some o→o.res=r→bs (bY c v0 v1) k r:=fun k j r o h1 h2 h3 h4=> .inr ⟨h2,j,o,h1,h3,h4⟩
 have k1:∀k:Nat,0<k→bs (bY c v0 v1) k 1:=fun k h=>kn k 0 1 _ h (by decide) rfl rfl
 have k2:∀k:Nat,1<k→bs (bY c v0 v1) k 2:=fun k h=>kn k 1 2 _ h (by decide) rfl rfl
 have k3:∀k:Nat,2<k→bs (bY c v0 v1) k 3:=fun k h=>kn k 2 3 _ h (by decide) rfl rfl
 have k4:∀k:Nat,3<k→bs (bY c v0 v1) k 4:=fun k h=>kn k 3 4 _ h (by decide) rfl rfl
 have k5:∀k:Nat,4<k→bs (bY c v0 v1) k 5:=fun k h=>kn k 4 5 _ h (by decide) rfl rfl
 have oA:∀(r a b v:Int),v∈bl ⟨c,r,a,b,0⟩→v=a∨v=b:=fun r a b v hv=>by
  unfold bl dv il at hv
  simp only[ua,ub,if_true,List.cons_append,List.nil_append,List.mem_cons,List.not_mem_nil,or_false]at hv
  exact hv
 refine⟨fun o ho=>?_,fun o ho=>(BZ h5 dz o ho).2.2,⟨fun o ho=>?_,fun j k o o' Fv ho cP h0=>?_⟩,fun k o ho v hv=>?_,k3 _ (by show 2<7;omega)⟩
 ·simp only[bY,List.mem_cons,List.not_mem_nil,or_false]at ho
  rcases ho with rfl|rfl|rfl|rfl|rfl|rfl|rfl
  ·exact fC _ _ (by decide)
  ·exact fC _ _ (by decide)
  ·exact fA _ _ _ (by decide)
  ·exact fA _ _ _ (by decide)
  ·exact fA _ _ _ (by decide)
  ·exact fO _ _ (by decide) (by decide)
  ·exact fO _ _ (by decide) (by decide)
 ·simp only[bY,List.mem_cons,List.not_mem_nil,or_false]at ho
  rcases ho with rfl|rfl|rfl|rfl|rfl|rfl|rfl<;>simp
 ·rcases hk j o ho with⟨rfl,rfl⟩|⟨rfl,rfl⟩|⟨rfl,rfl⟩|⟨rfl,rfl⟩|⟨rfl,rfl⟩|⟨rfl,rfl⟩|⟨rfl,rfl⟩<;>rcases hk k o' cP with⟨rfl,rfl⟩|⟨rfl,rfl⟩|⟨rfl,rfl⟩|⟨rfl,rfl⟩|⟨rfl,rfl⟩|⟨rfl,rfl⟩|⟨rfl,rfl⟩<;>first|(exfalso;omega)|(simp;done)|(exfalso;revert h0;decide)
 ·rcases hk k o ho with⟨rfl,rfl⟩|⟨rfl,rfl⟩|⟨rfl,rfl⟩|⟨rfl,rfl⟩|⟨rfl,rfl⟩|⟨rfl,rfl⟩|⟨rfl,rfl⟩
  ·simp[bl,dv,il,aZ,bc]at hv
  ·simp[bl,dv,il,aZ,bc]at hv
  ·rcases oA _ _ _ _ hv with rfl|rfl
   ·exact k1 _ (by omega)
   ·exact k2 _ (by omega)
  ·rcases oA _ _ _ _ hv with rfl|rfl
   ·exact .inl rfl
   ·exact k2 _ (by omega)
  ·rcases oA _ _ _ _ hv with rfl|rfl
   ·exact k1 _ (by omega)
   ·exact .inl rfl
  ·have:v=4:=by simpa[bl,dv,il,aZ,bc]using hv
   rw[this]
   exact k4 _ (by omega)
  ·have:v=5:=by simpa[bl,dv,il,aZ,bc]using hv
   rw[this]
   exact k5 _ (by omega)
theorem MI (h5:5≤c) (dz:c≤17):∀o∈bY c v0 v1,jx (di c v0 v1 x) o:=by
 intro o ho
 have hA:∀(r a b:Int),di c v0 v1 x r=Bn c (di c v0 v1 x a) (di c v0 v1 x b)→jx (di c v0 v1 x) ⟨c,r,a,b,0⟩:=fun r a b h=>by
  refine⟨fun e=>?_,fun e=>?_,fun _ _ ht=>?_⟩
  ·have:c=1:=e
   omega
  ·have:c=3∨c=4:=e
   omega
  ·show di c v0 v1 x r=arith c _ _
   rw[h]
   unfold Bn
   exact if_neg (fun hh=>ht hh)
 have hO:∀(a n:Int),jx (di c v0 v1 x) ⟨25,-1,a,0,n⟩:=fun a n=>⟨fun e=>by simp at e,fun e=>by simp at e,fun _ e=>by simp at e⟩
 simp only[bY,List.mem_cons,List.not_mem_nil,or_false]at ho
 rcases ho with rfl|rfl|rfl|rfl|rfl|rfl|rfl
 ·exact⟨fun _=>rfl,fun e=>by simp at e,fun e=>by simp at e⟩
 ·exact⟨fun _=>rfl,fun e=>by simp at e,fun e=>by simp at e⟩
 ·exact hA 3 1 2 rfl
 ·exact hA 4 0 2 rfl
 ·exact hA 5 1 0 rfl
 ·exact hO _ _
 ·exact hO _ _
theorem Jg (h5:5≤c) (dz:c≤17):(∃o∈bY c v0 v1,cU (di c v0 v1 x) o)↔tP c v1 x:=by
 have z0:di c v0 v1 x 0=x:=rfl
 have z2:di c v0 v1 x 2=v1:=rfl
 unfold tP
 constructor
 ·rintro⟨o,ho,h8,hb⟩
  simp only[bY,List.mem_cons,List.not_mem_nil,or_false]at ho
  rcases ho with rfl|rfl|rfl|rfl|rfl|rfl|rfl
  ·exact absurd h8 (by simp)
  ·exact absurd h8 (by simp)
  ·exact⟨h8,.inl hb⟩
  ·exact⟨h8,.inl hb⟩
  ·exact⟨h8,.inr hb⟩
  ·exact absurd h8 (by decide)
  ·exact absurd h8 (by decide)
 ·rintro⟨h8,hb|hb⟩
  ·exact⟨⟨c,3,1,2,0⟩,by simp[bY],h8,hb⟩
  ·exact⟨⟨c,5,1,0,0⟩,by simp[bY],h8,hb⟩
theorem Jh (h5:5≤c) (dz:c≤17):dK (di c v0 v1 x) (bY c v0 v1)=xU c v0 v1 x:=by
 have KI:c≠25:=by omega
 have hn:∀r a b:Int,ik (di c v0 v1 x) ⟨c,r,a,b,0⟩=none:=fun r a b=>by unfold ik;rw[if_neg KI]
 have h1:∀r n:Int,ik (di c v0 v1 x) ⟨1,r,0,0,n⟩=none:=fun r n=>by unfold ik;exact if_neg (show ¬((1:Int)=25) by decide)
 have hs:∀a n:Int,ik (di c v0 v1 x) ⟨25,-1,a,0,n⟩=some (n,di c v0 v1 x a):=fun a n=>by unfold ik;rw[if_pos rfl]
 unfold dK bY
 simp only[List.filterMap_cons,List.filterMap_nil,hn,hs,h1]
 rfl
theorem Ji (h5:5≤c) (dz:c≤17) (q:Nat) (o:aE) (ho:(bY c v0 v1)[q]?=some o) (h8:o.code=8) (j:Nat) (o':aE) (hj:j<q) (cP:(bY c v0 v1)[j]?=some o'):o'.code≠25:=by
 have hl:(bY c v0 v1).length=7:=rfl
 have hq:=(List.getElem?_eq_some_iff.1 ho).1
 have hq5:q<5:=by
  by_cases hx:q<5
  ·exact hx
  ·have eR:q=5∨q=6:=by omega
   rcases eR with rfl|rfl
   ·simp[bY]at ho;rw[←ho]at h8;simp at h8
   ·simp[bY]at ho;rw[←ho]at h8;simp at h8
 have eR:j=0∨j=1∨j=2∨j=3:=by omega
 rcases eR with rfl|rfl|rfl|rfl
 all_goals(simp[bY]at cP;rw[←cP];simp;try omega)
theorem IU {s:St} {l H:List aE} {ret:Int} (h5:5≤c) (dz:c≤17) (hD:PU (di c v0 v1 x) (tP c v1 x) (xU c v0 v1 x) (Bn c v0 v1) 14 s l ret) (hH:DJ s l ret H)
 {r kind r' yk:Int} {xs GC:List (Int×Int)} (h1:AS (di c v0 v1 x) (bY c v0 v1) 3 r kind xs) (h2:AS (kh (H++l) (cj (aA s.nm) (di c v0 v1 x))) (De (H++l)) (bK (H++l) ret) r' yk GC):r=r'∧kind=yk∧xs=GC:=by
 have hF:=Dj hD hH (by omega)
 have Qx:=h2.cases hF.last
 rw[hF.oT,QV hD hH,hF.aj1,hF.outs,Rq hD hH]at Qx
 have Lj:=h1.cases (Ji h5 dz)
 rw[Jg h5 dz,Jh h5 dz]at Lj
 have hrv:=hD.fr.Vw
 have h3:di c v0 v1 x 3=Bn c v0 v1:=rfl
 rcases Lj with⟨t1,a1,b1,d1⟩|⟨t1,a1,b1,d1⟩<;>rcases Qx with⟨t2,a2,b2,d2⟩|⟨t2,a2,b2,d2⟩
 ·exact⟨by rw[a1,a2,hrv,h3],by rw[b1,b2],by rw[d1,d2]⟩
 ·exact absurd t2 t1
 ·exact absurd t1 t2
 ·exact⟨by rw[a1,a2],by rw[b1,b2],by rw[d1,d2]⟩
end
end
end Go.Proofs.YtjkahfmdcpfjjaaGreat
