/- The reference: ordered: operands are put into order. -/
import Derived.Test.YtjkahfmdcpfjjaaGreatD5
set_option linter.unusedVariables false
namespace Go.Proofs.YtjkahfmdcpfjjaaGreat
open Go.RowKit
section
theorem find_congr {α:Type} {p q:α→Bool}:∀{l:List α},(∀x∈l,p x=q x)→l.find? p=l.find? q
 |[],_=>rfl
 |x::l,h=>by
  rw[List.find?_cons,List.find?_cons,h x (List.mem_cons_self ..),find_congr (fun y hy=>h y (List.mem_cons_of_mem _ hy))]
variable {f:aE→aE} {c v:Int}
theorem vq {l:List aE} {u:Int} (hf:∀o,(f o).code=o.code∧(f o).n=o.n) (h:∀o∈l,o.code=1→((f o).res=u↔o.res=v)):(cd (l.map f) u).code=(cd l v).code∧(cd (l.map f) u).n=(cd l v).n:=by
 unfold cd
 rw[List.find?_map,find_congr (q:=fun o=>o.code==1&&o.res==v) (fun o ho=>by
  simp only[Function.comp_apply,(hf o).1]
  by_cases hc:o.code=1
  ·have h2:((f o).res==u)=(o.res==v):=by
    rw[Bool.eq_iff_iff]
    simpa using h o ho hc
   rw[h2]
  ·have h2:(o.code==1)=false:=by simpa using hc
   rw[h2]
   rfl)]
 cases hx:l.find? (fun o=>o.code==1&&o.res==v)with
 |none=>exact⟨rfl,rfl⟩
 |some o=>exact hf o
theorem xM (f:Int→Int) (o:aE):(dw f o).code=o.code∧(dw f o).n=o.n:=⟨rfl,rfl⟩
section
variable {l : List aE} {ret : Int}
variable {o:aE}
theorem eE.const (h:eE l ret) (ho:o∈l) (hc:o.code=1):bs l l.length o.res∧0<o.res:=by
 have h0:0≤o.res:=(h.form o ho).2.1 (by rw[hc];rfl)
 have hp:0<o.res:=by rcases h.res.pos o ho with h1|h1<;>omega
 obtain⟨j,hj,e⟩:=List.mem_iff_getElem.1 ho
 exact⟨.inr ⟨hp,j,o,hj,by rw[List.getElem?_eq_getElem hj,e],rfl⟩,hp⟩
variable {q:Nat}
theorem eE.cd (h:eE l ret) (hv:bs l q v):(cd (eT l) (bK l v)).code=(cd l v).code∧(cd (eT l) (bK l v)).n=(cd l v).n:=by
 unfold eT
 refine vq (xM _) (fun o ho hc=>?_)
 obtain⟨hk,hp⟩:=h.const ho hc
 show(if 0≤o.res then bK l o.res else o.res)=_↔_
 rw[if_pos (by omega)]
 exact⟨fun e=>Cc h.res hk hv e,fun e=>by rw[e]⟩
theorem eE.iZ (h:eE l ret) (hv:bs l q v):iZ (eT l) (bK l v)↔iZ l v:=by
 unfold Go.Proofs.YtjkahfmdcpfjjaaGreat.iZ
 rw[(h.cd hv).1]
end
structure vR (l:List aE) (us:List Int) (o:aE):Prop where
 used:lp l o→o.res∈us
 one:o.code=3∨o.code=4→¬iZ l o.a
 two:lp l o→5≤o.code→o.code≤17→¬(iZ l o.a∧iZ l o.b)
def jO (l:List aE) (ret:Int):List Int:=l.flatMap bl++[ret]
theorem Vm {l:List aE} {f:Int→Int} {ret:Int} (h:v∈jO l ret):f v∈jO (l.map (dw f)) (f ret):=by
 unfold jO at h⊢
 rw[List.mem_append]at h⊢
 rcases h with h|h
 ·left
  obtain⟨o,ho,hv⟩:=List.mem_flatMap.1 h
  exact List.mem_flatMap.2 ⟨dw f o,List.mem_map.2 ⟨o,ho,rfl⟩,by rw[B7];exact List.mem_map.2 ⟨v,hv,rfl⟩⟩
 ·right
  rw[List.mem_singleton]at h⊢
  rw[h]
theorem cM (h5:5≤c) (dz:c≤17):aZ c=true∧bc c=true:=by
 unfold aZ bc
 simp[h5,dz]
theorem pN (h:c=3∨c=4):aZ c=true:=by
 unfold aZ
 rcases h with rfl|rfl<;>rfl
variable {o:aE}
theorem vR.ren {l:List aE} {ret:Int} (h:eE l ret) {k:Nat} (ho:l[k]?=some o) (hn:vR l (jO l ret) o):vR (eT l) (jO (eT l) (bK l ret)) (dw (bK l) o):=by
 have hk:=h.use k o ho
 have hka:aZ o.code=true→bs l k o.a:=fun e=>hk _ (by unfold bl dv;rw[e];simp)
 have hkb:bc o.code=true→bs l k o.b:=fun e=>hk _ (by unfold bl il;rw[e];simp)
 have ea:aZ o.code=true→(dw (bK l) o).a=bK l o.a:=fun e=>by show(if aZ o.code then _ else _)=_;rw[e];rfl
 have eb:bc o.code=true→(dw (bK l) o).b=bK l o.b:=fun e=>by show(if bc o.code then _ else _)=_;rw[e];rfl
 have hp:lp (eT l) (dw (bK l) o)→lp l o:=by
  rintro(⟨h1,h2⟩|⟨h1,h2,h3⟩)
  ·exact .inl ⟨h1,h2⟩
  ·have h8:o.code=8:=h1
   obtain⟨u1,u2⟩:=cM (c:=o.code) (by omega) (by omega)
   rw[eb u2]at h2 h3
   rw[(h.cd (hkb u2)).2]at h3
   exact .inr ⟨h8,(h.iZ (hkb u2)).1 h2,h3⟩
 refine⟨fun mr=>?_,fun hc=>?_,fun mr h5 dz=>?_⟩
 ·have hm:=hn.used (hp mr)
  have hr:(dw (bK l) o).res=bK l o.res:=by
   have h0:0≤o.res:=(h.form o (List.mem_of_getElem? ho)).2.1 (by
    unfold bR
    have:o.code≠25:=by rcases hp mr with⟨h1,_⟩|⟨h1,_⟩<;>omega
    simp[this])
   show(if 0≤o.res then _ else _)=_
   rw[if_pos h0]
  rw[hr]
  exact Vm hm
 ·have Of:o.code=3∨o.code=4:=hc
  have u1:=pN Of
  rw[ea u1,h.iZ (hka u1)]
  exact hn.one Of
 ·obtain⟨u1,u2⟩:=cM (c:=o.code) h5 dz
  rw[ea u1,eb u2,h.iZ (hka u1),h.iZ (hkb u2)]
  exact hn.two (hp mr) h5 dz
def dt (l:List aE):List Int:=(l.filter fun o=>decide (o.code=1)).map (·.res)
theorem nY {l:List aE}:v∈dt l↔iZ l v:=by
 unfold dt iZ cd
 constructor
 ·intro h
  obtain⟨o,ho,rfl⟩:=List.mem_map.1 h
  rw[List.mem_filter]at ho
  have hc:o.code=1:=by simpa using ho.2
  cases hx:l.find? (fun x=>x.code==1&&x.res==o.res)with
  |none=>
   have:=List.find?_eq_none.1 hx o ho.1
   simp[hc]at this
  |some x=>
   have:=List.find?_some hx
   simp at this
   exact this.1
 ·intro h
  cases hx:l.find? (fun x=>x.code==1&&x.res==v)with
  |none=>rw[hx]at h;simp at h
  |some x=>
   have h1:=List.find?_some hx
   have h2:=List.mem_of_find?_eq_some hx
   simp at h1
   exact List.mem_map.2 ⟨x,List.mem_filter.2 ⟨h2,by simp[h1.1]⟩,h1.2⟩
instance (c:Int):Decidable (Comm c):=by unfold Comm;infer_instance
def bJ (cs:List Int) (o:aE):aE:=if Comm o.code∧((o.a∈cs∧o.b∉cs)∨((o.a∈cs↔o.b∈cs)∧o.b<o.a))then{o with a:=o.b,b:=o.a}else o
theorem gO (cs:List Int) (o:aE):bJ cs o=o∨(Comm o.code∧bJ cs o={o with a:=o.b,b:=o.a}):=by
 unfold bJ
 by_cases h:Comm o.code∧((o.a∈cs∧o.b∉cs)∨((o.a∈cs↔o.b∈cs)∧o.b<o.a))
 ·rw[if_pos h];exact .inr ⟨h.1,rfl⟩
 ·rw[if_neg h];exact .inl rfl
theorem ct (cs:List Int) (o:aE):(bJ cs o).code=o.code∧(bJ cs o).n=o.n∧(bJ cs o).res=o.res:=by
 rcases gO cs o with h|⟨_,h⟩<;>rw[h]<;>exact⟨rfl,rfl,rfl⟩
theorem eM (h:Comm c):5≤c∧c≤15∧c≠8:=by unfold Comm at h;omega
theorem rA (cs:List Int) (o:aE) (v:Int):v∈bl (bJ cs o)↔v∈bl o:=by
 rcases gO cs o with h|⟨hc,h⟩
 ·rw[h]
 ·rw[h]
  obtain⟨u1,u2⟩:=cM (c:=o.code) (eM hc).1 (by have:=(eM hc).2.1;omega)
  unfold bl dv il
  simp only[u1,u2,if_true,List.cons_append,List.nil_append,List.mem_cons,List.not_mem_nil,or_false]
  exact Or.comm
section
variable {l : List aE} {cs : List Int} {ret : Int}
variable {q:Nat}
theorem gP (h:(l.map (bJ cs))[q]?=some o):∃o',l[q]?=some o'∧o=bJ cs o':=by
 rw[List.getElem?_map]at h
 cases e:l[q]? with
 |none=>rw[e]at h;cases h
 |some o'=>rw[e]at h;cases h;exact⟨o',rfl,rfl⟩
theorem II (h:l[q]?=some o):(l.map (bJ cs))[q]?=some (bJ cs o):=by rw[List.getElem?_map,h];rfl
theorem tV:bs (l.map (bJ cs)) q v↔bs l q v:=by
 constructor
 ·rintro(h|⟨h,j,o,hj,ho,hr⟩)
  ·exact .inl h
  ·obtain⟨o',cP,rfl⟩:=gP ho
   exact .inr ⟨h,j,o',hj,cP,by rw[←hr,(ct cs o').2.2]⟩
 ·rintro(h|⟨h,j,o,hj,ho,hr⟩)
  ·exact .inl h
  ·exact .inr ⟨h,j,_,hj,II ho,by rw[(ct cs o).2.2,hr]⟩
theorem tW (v:Int):(cd (l.map (bJ cs)) v).code=(cd l v).code∧(cd (l.map (bJ cs)) v).n=(cd l v).n:=vq (fun o=>⟨(ct cs o).1,(ct cs o).2.1⟩) (fun o _ _=>by rw[(ct cs o).2.2])
theorem fh (v:Int):iZ (l.map (bJ cs)) v↔iZ l v:=by unfold iZ;rw[(tW v).1]
theorem kC.swap (h:kC l ret):kC (l.map (bJ cs)) ret:=by
 refine⟨fun o ho=>?_,fun o ho=>?_,⟨fun o ho=>?_,fun j k o o' Fv ho cP h0=>?_⟩,fun k o ho v hv=>?_,?_⟩
 ·obtain⟨x,hx,rfl⟩:=List.mem_map.1 ho
  rcases gO cs x with e|⟨hc,e⟩
  ·rw[e];exact h.form x hx
  ·rw[e]
   obtain⟨f1,f2,f3,f4,f5,f6,f7⟩:=h.form x hx
   obtain⟨u1,u2⟩:=cM (c:=x.code) (eM hc).1 (by have:=(eM hc).2.1;omega)
   exact⟨f1,f2,f3,(fun e=>by rw[show bc x.code=false from e]at u2;cases u2),f5,(fun e=>by rw[show aZ x.code=false from e]at u1;cases u1),f7⟩
 ·obtain⟨x,hx,rfl⟩:=List.mem_map.1 ho
  rw[(ct cs x).2.2];exact h.small x hx
 ·obtain⟨x,hx,rfl⟩:=List.mem_map.1 ho
  rw[(ct cs x).2.2];exact h.res.pos x hx
 ·obtain⟨x,hx,rfl⟩:=gP ho
  obtain⟨y,hy,rfl⟩:=gP cP
  rw[(ct cs x).2.2]at h0⊢
  rw[(ct cs y).2.2]
  exact h.res.mL j k x y Fv hx hy h0
 ·obtain⟨x,hx,rfl⟩:=gP ho
  exact tV.2 (h.use k x hx v ((rA cs x v).1 hv))
 ·rw[List.length_map];exact tV.2 h.ret
theorem pD.swap (h:pD l):pD (l.map (bJ cs)):=by
 intro q o ho
 obtain⟨x,hx,rfl⟩:=gP ho
 rw[(ct cs x).2.2]
 have e:fl ((l.map (bJ cs)).take q)=fl (l.take q):=by
  unfold fl
  rw[←List.map_take,List.filter_map,List.length_map]
  congr 2
  apply List.filter_congr
  intro o _
  simp only[Function.comp_apply,(ct cs o).2.2]
 rw[e]
 exact h q x hx
theorem ij.map (hf:∀o,(f o).code=o.code∧(f o).n=o.n) (h:ij l):ij (l.map f):=by
 have get:∀{q:Nat} {o:aE},(l.map f)[q]?=some o→∃x,l[q]?=some x∧o=f x:=fun{q o} h=>by
  rw[List.getElem?_map]at h
  cases e:l[q]? with
  |none=>rw[e]at h;cases h
  |some o'=>rw[e]at h;cases h;exact⟨o',rfl,rfl⟩
 refine⟨fun k o ho hc j o' hj cP=>?_,fun k o o' ho cP hc=>?_⟩
 ·obtain⟨x,hx,rfl⟩:=get ho
  obtain⟨y,hy,rfl⟩:=get cP
  rw[(hf x).1]at hc
  rw[(hf y).1]
  exact h.first k x hx hc j y hj hy
 ·obtain⟨x,hx,rfl⟩:=get ho
  obtain⟨y,hy,rfl⟩:=get cP
  rw[(hf y).1]at hc
  rw[(hf x).2,(hf y).2]
  exact h.inc k x y hx hy hc
theorem GK:v∈jO (l.map (bJ cs)) ret↔v∈jO l ret:=by
 unfold jO
 rw[List.mem_append,List.mem_append]
 refine or_congr ?_ Iff.rfl
 constructor
 ·intro h
  obtain⟨o,ho,hv⟩:=List.mem_flatMap.1 h
  obtain⟨x,hx,rfl⟩:=List.mem_map.1 ho
  exact List.mem_flatMap.2 ⟨x,hx,(rA cs x v).1 hv⟩
 ·intro h
  obtain⟨x,hx,hv⟩:=List.mem_flatMap.1 h
  exact List.mem_flatMap.2 ⟨_,List.mem_map.2 ⟨x,hx,rfl⟩,(rA cs x v).2 hv⟩
theorem vR.swap (hn:vR l (jO l ret) o):vQ (l.map (bJ (dt l))) (jO (l.map (bJ (dt l))) ret) (bJ (dt l) o):=by
 have dY:Comm o.code→¬(iZ l o.a∧iZ l o.b):=fun hc=>by
  obtain⟨h1,h2,h3⟩:=eM hc
  exact hn.two (.inl ⟨by omega,h3⟩) h1 (by omega)
 by_cases h:Comm o.code∧((o.a∈dt l∧o.b∉dt l)∨((o.a∈dt l↔o.b∈dt l)∧o.b<o.a))
 ·have e:bJ (dt l) o={o with a:=o.b,b:=o.a}:=by unfold bJ;rw[if_pos h]
  rw[e]
  obtain⟨hc,hr⟩:=h
  obtain⟨h1,h2,h3⟩:=eM hc
  rw[nY,nY]at hr
  refine⟨fun _=>GK.2 (hn.used (.inl ⟨by omega,h3⟩)),fun h34=>?_,fun _ _ _=>?_,fun _=>?_⟩
  ·have:o.code=3∨o.code=4:=h34
   omega
  ·rw[fh,fh];exact fun x=>dY hc ⟨x.2,x.1⟩
  ·rw[fh,fh]
   show ¬iZ l o.b∧(iZ l o.a∨o.b≤o.a)
   rcases hr with⟨x,y⟩|⟨x,y⟩
   ·exact⟨y,.inl x⟩
   ·exact⟨fun z=>dY hc ⟨x.2 z,z⟩,.inr (by omega)⟩
 ·have e:bJ (dt l) o=o:=by unfold bJ;rw[if_neg h]
  rw[e]
  have mr:lp (l.map (bJ (dt l))) o→lp l o:=by
   rintro(h1|⟨h1,h2,h3⟩)
   ·exact .inl h1
   ·rw[fh]at h2
    rw[(tW _).2]at h3
    exact .inr ⟨h1,h2,h3⟩
  refine⟨fun hp=>GK.2 (hn.used (mr hp)),fun h34=>by rw[fh];exact hn.one h34,fun hp h5 dz=>by rw[fh,fh];exact hn.two (mr hp) h5 dz,fun hc=>?_⟩
  rw[fh,fh]
  have hx:=dY hc
  rw[nY,nY]at h
  have h':¬((iZ l o.a∧¬iZ l o.b)∨((iZ l o.a↔iZ l o.b)∧o.b<o.a)):=fun z=>h ⟨hc,z⟩
  by_cases ha:iZ l o.a<;>by_cases hb:iZ l o.b
  ·exact absurd ⟨ha,hb⟩ hx
  ·exact absurd (.inl ⟨ha,hb⟩) h'
  ·exact⟨ha,.inl hb⟩
  ·refine⟨ha,.inr ?_⟩
   by_cases bw:o.b<o.a
   ·exact absurd (.inr ⟨⟨fun z=>absurd z ha,fun z=>absurd z hb⟩,bw⟩) h'
   ·omega
end
end
section
open Classical in
noncomputable def kh (l:List aE) (M:Int→Int) (k:Int):Int:=if h:∃v,bs l l.length v∧bK l v=k then M h.choose else M 0
section
variable {l : List aE} {ret : Int} {M : Int → Int}
variable {k q:Nat} {v:Int}
theorem JE (h:bs l q v):bs l l.length v:=by
 rcases h with h|⟨h,j,o,hj,ho,hr⟩
 ·exact .inl h
 ·exact .inr ⟨h,j,o,(List.getElem?_eq_some_iff.1 ho).1,ho,hr⟩
theorem lQ (h:gJ l) (hv:bs l q v):kh l M (bK l v)=M v:=by
 unfold kh
 have hx:∃u,bs l l.length u∧bK l u=bK l v:=⟨v,JE hv,rfl⟩
 rw[dif_pos hx]
 have:=hx.choose_spec
 rw[Cc h this.1 hv this.2]
theorem I4 (hW:∀v,W (M v)) (k:Int):W (kh l M k):=by
 unfold kh
 split
 ·exact hW _
 ·exact hW 0
theorem I3 (h:gJ l):kh l M 0=M 0:=by
 have:=lQ (M:=M) h (q:=0) (v:=0) (.inl rfl)
 rwa[nP h]at this
theorem eE.oT (h:eE l ret) {o:aE} (ho:l[k]?=some o):cU (kh l M) (dw (bK l) o)↔cU M o:=by
 unfold cU
 show o.code=8∧_↔_
 refine and_congr_right fun h8=>?_
 obtain⟨u1,u2⟩:=cM (c:=o.code) (by omega) (by omega)
 have eb:(dw (bK l) o).b=bK l o.b:=by show(if bc o.code then _ else _)=_;rw[u2];rfl
 rw[eb,lQ h.res (h.use k o ho _ (by unfold bl il;rw[u2];simp))]
theorem eE.fj (h:eE l ret) {o:aE} (ho:l[k]?=some o) (hs:jx M o):jx (kh l M) (dw (bK l) o):=by
 have hm:=List.mem_of_getElem? ho
 have iT:o.code≠25→kh l M (dw (bK l) o).res=M o.res:=fun cO=>by
  have h0:0≤o.res:=(h.form o hm).2.1 (by unfold bR;simp[cO])
  have hp:0<o.res:=by rcases h.res.pos o hm with h1|h1<;>omega
  show kh l M (if 0≤o.res then _ else _)=_
  rw[if_pos h0]
  exact lQ h.res (q:=k+1) (.inr ⟨hp,k,o,by omega,ho,rfl⟩)
 have ha:aZ o.code=true→kh l M (dw (bK l) o).a=M o.a:=fun u1=>by
  show kh l M (if aZ o.code then _ else _)=_
  rw[u1]
  exact lQ h.res (h.use k o ho _ (by unfold bl dv;rw[u1];simp))
 have hb:bc o.code=true→kh l M (dw (bK l) o).b=M o.b:=fun u1=>by
  show kh l M (if bc o.code then _ else _)=_
  rw[u1]
  exact lQ h.res (h.use k o ho _ (by unfold bl il;rw[u1];simp))
 refine⟨fun hc=>?_,fun hc=>?_,fun h5 dz ht=>?_⟩
 ·have Of:o.code=1:=hc
  rw[iT (by omega)];exact hs.const Of
 ·have Of:o.code=3∨o.code=4:=hc
  rw[iT (by omega),ha (pN Of)];exact hs.one Of
 ·have h5':5≤o.code:=h5
  have ad3:o.code≤17:=dz
  obtain⟨u1,u2⟩:=cM h5' ad3
  rw[h.oT ho]at ht
  rw[iT (by omega),ha u1,hb u2];exact hs.two h5' ad3 ht
theorem eE.outs (h:eE l ret) {o:aE} (ho:l[k]?=some o):ik (kh l M) (dw (bK l) o)=ik M o:=by
 unfold ik
 show(if o.code=25 then some (o.n,_)else none)=_
 by_cases cO:o.code=25
 ·rw[if_pos cO,if_pos cO]
  have u1:aZ o.code=true:=by rw[cO];rfl
  have:kh l M (dw (bK l) o).a=M o.a:=by
   show kh l M (if aZ o.code then _ else _)=_
   rw[u1]
   exact lQ h.res (h.use k o ho _ (by unfold bl dv;rw[u1];simp))
  rw[this]
 ·rw[if_neg cO,if_neg cO]
end
section
variable {cs : List Int} {M : Int → Int} {o : aE}
theorem xx:cU M (bJ cs o)↔cU M o:=by
 rcases gO cs o with h|⟨hc,h⟩
 ·rw[h]
 ·rw[h]
  have:=(eM hc).2.2
  unfold cU
  exact⟨fun x=>absurd x.1 this,fun x=>absurd x.1 this⟩
theorem LP (hs:jx M o):jx M (bJ cs o):=by
 rcases gO cs o with h|⟨hc,h⟩
 ·rw[h];exact hs
 ·rw[h]
  obtain⟨h1,h2,h3⟩:=eM hc
  refine⟨fun e=>?_,fun e=>?_,fun _ _ _=>?_⟩
  ·have:o.code=1:=e
   omega
  ·have:o.code=3∨o.code=4:=e
   omega
  ·show M o.res=arith o.code (M o.b) (M o.a)
   rw[pw hc]
   exact hs.two h1 (by omega) (fun x=>h3 x.1)
theorem LS:ik M (bJ cs o)=ik M o:=by
 rcases gO cs o with h|⟨hc,h⟩
 ·rw[h]
 ·rw[h]
  unfold ik
  obtain⟨h1,h2,h3⟩:=eM hc
  rw[if_neg (show ¬o.code=25 by omega),if_neg (show ¬o.code=25 by omega)]
end
theorem AS.cases {M:Int→Int} {l:List aE} {ret r kind:Int} {xs:List (Int×Int)} (h:AS M l ret r kind xs) (hl:∀(q:Nat) (o:aE),l[q]?=some o→o.code=8→∀(j:Nat) (o':aE),j<q→l[j]?=some o'→o'.code≠25):
 (¬(∃o∈l,cU M o)∧r=M ret∧kind=6∧xs=dK M l)∨((∃o∈l,cU M o)∧r=0∧kind=4∧xs=[]):=by
 rcases h with⟨h1,h2,h3,h4⟩|⟨q,o,ho,ht,hq,h2,h3,h4⟩
 ·refine .inl ⟨?_,h2,h3,h4⟩
  rintro⟨o,ho,ht⟩
  obtain⟨q,hq,e⟩:=List.mem_iff_getElem.1 ho
  exact h1 q o (by rw[List.getElem?_eq_getElem hq,e]) ht
 ·refine .inr ⟨⟨o,List.mem_of_getElem? ho,ht⟩,h2,h3,?_⟩
  rw[h4]
  unfold dK
  rw[List.filterMap_eq_nil_iff]
  intro x hx
  obtain⟨j,hj,e⟩:=List.mem_iff_getElem.1 hx
  rw[List.length_take]at hj
  have Zw:l[j]?=some x:=by
   rw[List.getElem_take]at e
   rw[List.getElem?_eq_getElem (by omega),e]
  unfold ik
  rw[if_neg (hl q o ho ht.1 j x (by omega) Zw)]
noncomputable def De (l:List aE):List aE:=(eT l).map (bJ (dt (eT l)))
structure Fin (l:List aE) (ret:Int) (M:Int→Int) (K:List aE) (eS:Int) (M':Int→Int):Prop where
 ok:kC K eS
 can:pD K
 N3:ij K
 norm:∀o∈K,vQ K (K.flatMap bl++[eS]) o
 len:K.length=l.length
 word:∀v,W (M' v)
 zero:M' 0=M 0
 fj:∀o∈K,jx M' o
 aj1:M' eS=M ret
 oT:(∃o∈K,cU M' o)↔(∃o∈l,cU M o)
 outs:dK M' K=dK M l
 last:∀(q:Nat) (o:aE),K[q]?=some o→o.code=8→∀(j:Nat) (o':aE),j<q→K[j]?=some o'→o'.code≠25
theorem pa {α β:Type} {f g:α→Option β} {h:α→α}:∀{l:List α},(∀x∈l,f (h x)=g x)→(l.map h).filterMap f=l.filterMap g
 |[],_=>rfl
 |x::l,hx=>by
  rw[List.map_cons,List.filterMap_cons,List.filterMap_cons,hx x (List.mem_cons_self ..),pa (fun y hy=>hx y (List.mem_cons_of_mem _ hy))]
theorem Xc {l:List aE} {ret:Int} {M:Int→Int} (h:eE l ret) (hh:ij l) (hn:∀o∈l,vR l (jO l ret) o) (hW:∀v,W (M v)) (hs:∀o∈l,jx M o) (hl:∀(q:Nat) (o:aE),l[q]?=some o→o.code=8→∀(j:Nat) (o':aE),j<q→l[j]?=some o'→o'.code≠25):
 Fin l ret M (De l) (bK l ret) (kh l M):=by
 have at_:∀{o},o∈l→∃k:Nat,l[k]?=some o:=fun{o} ho=>by
  obtain⟨q,hq,e⟩:=List.mem_iff_getElem.1 ho
  exact⟨q,by rw[List.getElem?_eq_getElem hq,e]⟩
 have iA:∀{o},o∈De l→∃x∈l,o=bJ (dt (eT l)) (dw (bK l) x):=fun{o} ho=>by
  obtain⟨y,hy,rfl⟩:=List.mem_map.1 ho
  obtain⟨x,hx,rfl⟩:=List.mem_map.1 hy
  exact⟨x,hx,rfl⟩
 refine⟨h.ren.swap,(SP h.res).swap,(ij.map (xM _) hh).map (fun o=>⟨(ct _ o).1,(ct _ o).2.1⟩),?_,by unfold De eT;simp,I4 hW,I3 h.res,?_,lQ h.res h.ret,?_,?_,?_⟩
 ·intro o ho
  obtain⟨x,hx,rfl⟩:=iA ho
  obtain⟨k,hk⟩:=at_ hx
  exact((hn x hx).ren h hk).swap
 ·intro o ho
  obtain⟨x,hx,rfl⟩:=iA ho
  obtain⟨k,hk⟩:=at_ hx
  exact LP (h.fj hk (hs x hx))
 ·constructor
  ·rintro⟨o,ho,ht⟩
   obtain⟨x,hx,rfl⟩:=iA ho
   obtain⟨k,hk⟩:=at_ hx
   exact⟨x,hx,(h.oT hk).1 (xx.1 ht)⟩
  ·rintro⟨x,hx,ht⟩
   obtain⟨k,hk⟩:=at_ hx
   exact⟨_,List.mem_map.2 ⟨_,List.mem_map.2 ⟨x,hx,rfl⟩,rfl⟩,xx.2 ((h.oT hk).2 ht)⟩
 ·unfold dK De
  rw[pa (g:=ik (kh l M)) (fun x _=>LS)]
  unfold eT
  exact pa (fun x hx=>by
   obtain⟨k,hk⟩:=at_ hx
   exact h.outs hk)
 ·intro q o ho h8 j o' hj cP
  obtain⟨y,hy,rfl⟩:=gP ho
  obtain⟨x,hx,rfl⟩:=jQ _ hy
  obtain⟨y',Yj,rfl⟩:=gP cP
  obtain⟨x',Bg,rfl⟩:=jQ _ Yj
  rw[(ct _ _).1]at h8⊢
  exact hl q x hx h8 j x' hj Bg
end
section
set_option maxRecDepth 100000
set_option maxHeartbeats 8000000
variable {n q:Nat} {w:World}
theorem dm {P:Program} {ops:Array Oper} {Q:Exit→Act→World→Prop} {md:Region.Mode} {S:World→Prop} {i:Nat} {oi:Oper} {l:List Oper} {li:Array Bool} {a:Act} (hl:List.drop i ops.toList=oi::l)
 (hs:Region.noSelect ops=true) (hf:Region.free md ops li i=true) (hr:(Region.ready md ops li).contains i=true) (hQ:∀c a w,Q (.panic c) (a.put oi.dst undef) w→Q (.panic c) a w)
 (hw:Region.wanted oi (yielded ops a.tmps)=false) (hS:S w)
 (h:wpAnyH P md ops Q S n (li.setIfInBounds i true) (a.put oi.dst undef) w):wpAnyH P md ops Q S (n+1) li a w:=by
 have hi:ops[i]?=some oi:=by
  rw[←Array.getElem?_toList,←List.head?_drop,hl];rfl
 exact wpAnyH_take hi hs hf hr hQ (Or.inr ⟨hw,rfl⟩) hS h
def dJ (a b:Int):Int:=if a<b then-1 else if b<a then 1 else 0
theorem qM (w:World) (a b:Int):Calls Tryz.prog 112 #[G a,G b] w (fun e w'=>e=.returned (G (dJ a b))∧w'=w):=by
 by_cases h1:a<b
 ·have e:dJ a b= -1:=by unfold dJ;rw[if_pos h1]
  rw[e]
  go_enter Tryz.func112,Tryz.ntmps112
  go_wp2_with(first
   |(go_at_call 168;(with_reducible refine(Hf _ _).mono ?_);rintro e w' ⟨rfl,he⟩;rw[he];clear he w'))
  go_ret
  exact⟨rfl,rfl⟩
 ·by_cases h2:b<a
  ·have e:dJ a b=1:=by unfold dJ;rw[if_neg h1,if_pos h2]
   rw[e]
   go_enter Tryz.func112,Tryz.ntmps112
   go_wp2_with(first
    |(go_at_call 168;(with_reducible refine(Hf _ _).mono ?_);rintro e w' ⟨rfl,he⟩;rw[he];clear he w'))
   go_ret
   exact⟨rfl,rfl⟩
  ·have e:dJ a b=0:=by unfold dJ;rw[if_neg h1,if_neg h2]
   rw[e]
   go_enter Tryz.func112,Tryz.ntmps112
   go_wp2_with(first
    |(go_at_call 168;(with_reducible refine(Hf _ _).mono ?_);rintro e w' ⟨rfl,he⟩;rw[he];clear he w'))
   go_ret
   exact⟨rfl,rfl⟩
def TC (x y:Int):Int:=if x=0 then y else x
theorem ME (w:World) (g:Nat) (x y:Int) (h0:w.cell? ⟨g,0,none⟩=some (G x)) (h1:w.cell? ⟨g,1,none⟩=some (G y)):Calls Tryz.prog 111 #[.slice (ad g) 2 2] w (fun e w'=>e=.returned (G (TC x y))∧w'=w):=by
 generalize hz:TC x y=z
 unfold TC at hz
 go_enter Tryz.func111,Tryz.ntmps111
 go_wp2_with fail
 go_loopw[8] (fun i wr=>(i=G 0∨(i=G 1∧x=0)∨(i=G 2∧x=0∧y=0))∧wr=w) (fun i _=>2-(intOf i).toNat)
 case atStart=>exact⟨.inl rfl,rfl⟩
 case round=>
  obtain⟨rfl|⟨rfl,hx⟩|⟨rfl,hx,hy⟩,rfl⟩:=hrel
  ·by_cases hx:x=0
   ·subst hx
    clear hz
    go_wp2_with fail
    exact⟨by simp,by decide⟩
   ·rw[if_neg hx]at hz
    subst hz
    go_wp2_with fail
    go_ret
    exact⟨rfl,rfl⟩
  ·subst hx
   rw[if_pos rfl]at hz
   subst hz
   by_cases hy:y=0
   ·subst hy
    go_wp2_with fail
    exact⟨by simp,by decide⟩
   ·go_wp2_with fail
    go_ret
    exact⟨rfl,rfl⟩
  ·subst hx hy
   rw[if_pos rfl]at hz
   subst hz
   go_wp2_with fail
   go_ret
   exact⟨rfl,rfl⟩
def jS (cs:List Int) (v:Int):Int:=if v∈cs then 1 else 0
theorem BN (w:World) (z um:Nat) (cs:List Int) (hz:w.cell? ⟨z,0,none⟩=some (.map (some um))) (hu:aQ .i64 w um (nc cs)) (v:Int):Calls Tryz.prog 109 #[G v,.pointer (ad z)] w (fun e w'=>e=.returned (G (jS cs v))∧w'=w):=by
 have hl:=ql hu v
 by_cases h:v∈cs
 ·have e:jS cs v=1:=by unfold jS;rw[if_pos h]
  rw[e]
  rw[decide_eq_true h]at hl
  clear h hu e
  go_enter Tryz.func109,Tryz.ntmps109
  go_wp2_with fail
  go_ret
  exact⟨rfl,rfl⟩
 ·have e:jS cs v=0:=by unfold jS;rw[if_neg h]
  rw[e]
  rw[decide_eq_false h]at hl
  clear h hu e
  go_enter Tryz.func109,Tryz.ntmps109
  go_wp2_with fail
  go_ret
  exact⟨rfl,rfl⟩
theorem IG (cs:List Int) (o:aE) (hc:Comm o.code):(0<TC (dJ (jS cs o.a) (jS cs o.b)) (dJ o.a o.b)→bJ cs o={o with a:=o.b,b:=o.a})∧(¬0<TC (dJ (jS cs o.a) (jS cs o.b)) (dJ o.a o.b)→bJ cs o=o):=by
 have hk:0<TC (dJ (jS cs o.a) (jS cs o.b)) (dJ o.a o.b)↔((o.a∈cs∧o.b∉cs)∨((o.a∈cs↔o.b∈cs)∧o.b<o.a)):=by
  unfold TC jS dJ
  by_cases ha:o.a∈cs<;>by_cases hb:o.b∈cs<;>simp only[ha,hb,if_true,if_false]
  ·by_cases h1:o.a<o.b
   ·simp[h1];omega
   ·by_cases h2:o.b<o.a<;>simp[h1,h2]
  ·simp
  ·simp
  ·by_cases h1:o.a<o.b
   ·simp[h1];omega
   ·by_cases h2:o.b<o.a<;>simp[h1,h2]
 unfold bJ
 rw[hk]
 exact⟨fun h=>by rw[if_pos ⟨hc,h⟩],fun h=>by rw[if_neg (fun x=>h x.2)]⟩
theorem LW (cs:List Int) (o:aE) (hc:¬Comm o.code):bJ cs o=o:=by
 unfold bJ
 rw[if_neg (fun x=>hc x.1)]
variable {l:List aE} {o:aE}
theorem nK.swap {ga c:Nat} (h:nK w (ad ga) n c l) (ho:l[q]?=some o):nK ((w.setCell ⟨ga,q*6+2,none⟩ (G o.b)).setCell ⟨ga,q*6+3,none⟩ (G o.a)) (ad ga) n c (l.set q {o with a:=o.b,b:=o.a}):=by
 have hq:q<n:=by rw[←h.1];exact(List.getElem?_eq_some_iff.1 ho).1
 obtain⟨g',cs,e,qD,hg,k0,k1,k2,k3,k4,k5⟩:=h.2 q o ho
 cases e
 have hA:dk w (ad ga) n c l:=h
 refine(hA.put (o:={o with a:=o.b,b:=o.a}) hq qD hg ?_:dk _ _ _ _ _)
 have bw:∀{i:Nat} {v:Value},cs[i]?=some v→i<cs.size:=fun hi=>(Array.getElem?_eq_some_iff.1 hi).1
 have e1:w.setCell ⟨ga,q*6,none⟩ (G o.code)=w:=kg hg k0
 have e2:w.setCell ⟨ga,q*6+1,none⟩ (G o.res)=w:=kg hg k1
 have h2:=aD (i:=q*6+2) (v:=G o.b) hg
 have h3:=aD (i:=q*6+3) (v:=G o.a) h2
 have e4:((w.setCell ⟨ga,q*6+2,none⟩ (G o.b)).setCell ⟨ga,q*6+3,none⟩ (G o.a)).setCell ⟨ga,q*6+4,none⟩ (.int .u16 o.n)=((w.setCell ⟨ga,q*6+2,none⟩ (G o.b)).setCell ⟨ga,q*6+3,none⟩ (G o.a)):=kg h3 (by
  rw[Array.getElem?_setIfInBounds_ne (by omega),Array.getElem?_setIfInBounds_ne (by omega)];exact k4)
 have e5:((w.setCell ⟨ga,q*6+2,none⟩ (G o.b)).setCell ⟨ga,q*6+3,none⟩ (G o.a)).setCell ⟨ga,q*6+5,none⟩ Zs=((w.setCell ⟨ga,q*6+2,none⟩ (G o.b)).setCell ⟨ga,q*6+3,none⟩ (G o.a)):=kg h3 (by
  rw[Array.getElem?_setIfInBounds_ne (by omega),Array.getElem?_setIfInBounds_ne (by omega)];exact k5)
 show _=(((((w.setCell ⟨ga,q*6,none⟩ (G o.code)).setCell ⟨ga,q*6+1,none⟩ (G o.res)).setCell ⟨ga,q*6+2,none⟩ (G o.b)).setCell ⟨ga,q*6+3,none⟩ (G o.a)).setCell ⟨ga,q*6+4,none⟩ (.int .u16 o.n)).setCell ⟨ga,q*6+5,none⟩ Zs
 rw[e1,e2,e4,e5]
def pP (f:aE→aE) (l:List aE) (q:Nat):List aE:=(l.take q).map f++l.drop q
theorem LK (f:aE→aE) (h:l.length≤q):pP f l q=l.map f:=by unfold pP;rw[List.take_of_length_le h,List.drop_of_length_le h,List.append_nil]
theorem pO (f:aE→aE) (h:l[q]?=some o):(pP f l q)[q]?=some o:=by
 have bw:=(List.getElem?_eq_some_iff.1 h).1
 unfold pP
 rw[List.getElem?_append_right (by rw[List.length_map,List.length_take];omega),List.length_map,List.length_take,List.getElem?_drop,show q+(q-min q l.length)=q by omega]
 exact h
theorem xt (f:aE→aE) (h:l[q]?=some o):pP f l (q+1)=(pP f l q).set q (f o):=by
 obtain⟨bw,he⟩:=List.getElem?_eq_some_iff.1 h
 unfold pP
 rw[List.take_add_one,h,List.map_append,List.drop_eq_getElem_cons bw,he]
 rw[List.set_append_right _ _ (by rw[List.length_map,List.length_take];omega),List.length_map,List.length_take,show q-min q l.length=0 by omega]
 simp
theorem Mj (h:l[q]?=some o):l.set q o=l:=by
 obtain⟨bw,he⟩:=List.getElem?_eq_some_iff.1 h
 rw[←he]
 exact List.set_getElem_self bw
theorem xu (f:aE→aE) (h:l[q]?=some o) (hf:f o=o):pP f l (q+1)=pP f l q:=by
 rw[xt f h,hf,Mj (pO f h)]
theorem Gb (h:l[q]?=some o):dt (l.take (q+1))=if o.code=1 then dt (l.take q)++[o.res]else dt (l.take q):=by
 unfold dt
 rw[List.take_add_one,h]
 by_cases h1:o.code=1<;>simp[List.filter_append,h1]
def Ms (A:Option Addr):List Nat:=(A.map (·.block)).toList
end
end Go.Proofs.YtjkahfmdcpfjjaaGreat
