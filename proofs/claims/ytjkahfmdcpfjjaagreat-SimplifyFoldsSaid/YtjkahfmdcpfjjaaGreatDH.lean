/- The plain part: a graph that is done is a normal function. -/
import Derived.Test.YtjkahfmdcpfjjaaGreatDD
import Derived.Test.YtjkahfmdcpfjjaaGreatDF
set_option linter.unusedVariables false
namespace Go.Proofs.YtjkahfmdcpfjjaaGreat
open Go.RowKit
theorem FO {β:Type} {l:List (Int×β)} (hn:(l.map (·.1)).Nodup) {k:Int} {v:β} (h:(k,v)∈l):aA l k=some v:=by
 induction l with
 |nil=>cases h
 |cons p l ih=>
  rw[List.map_cons,List.nodup_cons]at hn
  unfold aA
  rw[List.find?_cons]
  rcases List.mem_cons.1 h with rfl|h
  ·simp
  ·have cH:¬p.1=k:=fun e=>hn.1 (e▸List.mem_map.2 ⟨_,h,rfl⟩)
   have:(p.1==k)=false:=by simpa using cH
   rw[this]
   exact ih hn.2 h
section
variable {M : Int → Int} {T0 : Prop} {outs : List (Int × Int)} {rv N : Int} {s : St} {l H : List aE} {ret : Int}
structure PU (M:Int→Int) (T0:Prop) (outs:List (Int×Int)) (rv N:Int) (s:St) (l:List aE) (ret:Int):Prop where
 fr:FR M T0 outs rv N s l ret
 cm:jF s
 P0:∀o∈l,wt (aA s.nm) o=0
 use:∀o∈l,fI (aA s.nm) o=true→o.res∈UL l ret
structure DJ (s:St) (l:List aE) (ret:Int) (H:List aE):Prop where
 perm:H.Perm ((s.cm.map sK).filter fun o=>decide (o.res∈jf l ret))
 ord:Ord H.length H
variable {o x y:aE}
theorem kO (hD:PU M T0 outs rv N s l ret) (hH:DJ s l ret H) (ho:o∈H):o=⟨1,o.res,0,0,o.n⟩∧aA s.nm o.res=some o.n∧6≤o.res∧W o.n∧o.res∈UL l ret:=by
 have h1:=hH.perm.mem_iff.1 ho
 rw[List.mem_filter]at h1
 obtain⟨p,hp,rfl⟩:=List.mem_map.1 h1.1
 have h2:=(hD.fr.ok.kc p.1 p.2).1 (FO hD.cm.1 hp)
 have h3:=hD.fr.ok.kw _ _ h2
 exact⟨rfl,h2,h3.1,h3.2.2,(xq _ _ _).1 (by simpa using h1.2)⟩
variable {n v:Int}
theorem Ze (hD:PU M T0 outs rv N s l ret) (hH:DJ s l ret H) (h:aA s.nm v=some n) (hu:v∈UL l ret):(⟨1,v,0,0,n⟩:aE)∈H:=by
 refine hH.perm.mem_iff.2 (List.mem_filter.2 ⟨List.mem_map.2 ⟨(n,v),Ow ((hD.fr.ok.kc n v).2 h),rfl⟩,?_⟩)
 simpa using(xq _ _ _).2 hu
variable {j k:Nat}
theorem Un (hD:PU M T0 outs rv N s l ret) (hH:DJ s l ret H) (Fv:j<k) (hx:H[j]?=some x) (hy:H[k]?=some y):x.n<y.n∧x.res≠y.res:=by
 obtain⟨hj,ej⟩:=List.getElem?_eq_some_iff.1 hx
 obtain⟨hk,ek⟩:=List.getElem?_eq_some_iff.1 hy
 have hn:(H.map (·.n)).Nodup:=by
  have h1:((s.cm.map sK).map (·.n)).Nodup:=by
   rw[List.map_map]
   exact hD.cm.1
  have h2:=(List.filter_sublist (p:=fun o:aE=>decide (o.res∈jf l ret)) (l:=s.cm.map sK)).map (·.n)
  exact(hH.perm.map (·.n)).nodup_iff.2 (h1.sublist h2)
 have cH:x.n≠y.n:=by
  have:=List.pairwise_iff_getElem.1 hn j k (by simpa using hj) (by simpa using hk) Fv
  rw[List.getElem_map,List.getElem_map,ej,ek]at this
  exact this
 have hle:=hH.ord j k x y hx hy Fv hk
 refine⟨by omega,fun e=>cH ?_⟩
 have h1:=(kO hD hH (List.mem_of_getElem? hx)).2.1
 have h2:=(kO hD hH (List.mem_of_getElem? hy)).2.1
 rw[e,h2]at h1
 exact(Option.some.inj h1).symm
theorem eI (hD:PU M T0 outs rv N s l ret) (ho:o∈l):(o.code≠25∧jC s o∧fV o=o.res∧3≤o.res∧o.res≤5)∨(o.code=25∧jB s o∧fV o=100):=by
 rcases hD.fr.form o ho with hA|hO
 ·have cO:=hA.kL
  exact .inl ⟨cO,hA,by unfold fV;rw[if_neg cO],hA.2⟩
 ·exact .inr ⟨hO.1,hO,by unfold fV;rw[if_pos hO.1]⟩
theorem tn (hD:PU M T0 outs rv N s l ret) (ho:o∈l):3≤o.code∧(o.code≤17∨o.code=25):=by
 rcases eI hD ho with⟨_,hA,_⟩|⟨h,_⟩
 ·rcases hA.1.1 with⟨h1|h1,_⟩|⟨h1,h2,_⟩<;>omega
 ·omega
theorem zC (hD:PU M T0 outs rv N s l ret) (Fv:j<k) (hx:l[j]?=some x) (hy:l[k]?=some y):fV x<fV y∨(fV x=100∧fV y=100):=by
 obtain⟨hj,ej⟩:=List.getElem?_eq_some_iff.1 hx
 obtain⟨hk,ek⟩:=List.getElem?_eq_some_iff.1 hy
 have:=List.pairwise_iff_getElem.1 hD.fr.keys j k (by simpa using hj) (by simpa using hk) Fv
 rw[List.getElem_map,List.getElem_map,ej,ek]at this
 exact this
theorem eO (h:(H++l)[k]?=some o):(k<H.length∧H[k]?=some o)∨(H.length≤k∧l[k-H.length]?=some o):=by
 by_cases hk:k<H.length
 ·rw[List.getElem?_append_left hk]at h;exact .inl ⟨hk,h⟩
 ·rw[List.getElem?_append_right (by omega)]at h;exact .inr ⟨by omega,h⟩
theorem Rh (hD:PU M T0 outs rv N s l ret) (hH:DJ s l ret H):gJ (H++l):=by
 refine⟨fun o ho=>?_,fun j k o o' Fv ho cP h0=>?_⟩
 ·rcases List.mem_append.1 ho with ho|ho
  ·have:=(kO hD hH ho).2.2.1;omega
  ·rcases eI hD ho with⟨_,_,_,h,_⟩|⟨_,hO,_⟩
   ·omega
   ·exact .inl hO.2.1
 ·rcases eO ho with⟨h1,h2⟩|⟨h1,h2⟩<;>rcases eO cP with⟨h3,h4⟩|⟨h3,h4⟩
  ·exact(Un hD hH Fv h2 h4).2
  ·have a:=(kO hD hH (List.mem_of_getElem? h2)).2.2.1
   rcases eI hD (List.mem_of_getElem? h4)with⟨_,_,_,_,h⟩|⟨_,hO,_⟩
   ·omega
   ·have:=hO.2.1;omega
  ·omega
  ·have hk:=zC hD (show j-H.length<k-H.length by omega) h2 h4
   rcases eI hD (List.mem_of_getElem? h2)with⟨_,_,e1,_,h⟩|⟨_,hO,_⟩
   ·rcases eI hD (List.mem_of_getElem? h4)with⟨_,_,e2,_,h'⟩|⟨_,hO,_⟩
    ·omega
    ·have:=hO.2.1;omega
   ·have:=hO.2.1;omega
theorem Cm (hD:PU M T0 outs rv N s l ret) (hH:DJ s l ret H) (h:aA s.nm v=some n) (hu:v∈UL l ret) (hk:H.length≤k):bs (H++l) k v:=by
 obtain⟨j,hj,e⟩:=List.mem_iff_getElem.1 (Ze hD hH h hu)
 exact .inr ⟨by have:=(hD.fr.ok.kw _ _ h).1;omega,j,⟨1,v,0,0,n⟩,by omega,by rw[List.getElem?_append_left hj,List.getElem?_eq_getElem hj,e],rfl⟩
theorem pe (hD:PU M T0 outs rv N s l ret) (hH:DJ s l ret H) (h:ix s v) (hu:v∈UL l ret) (hk:H.length≤k):bs (H++l) k v:=by
 rcases h with h|h
 ·exact .inl h
 ·obtain⟨n,hn⟩:=Option.isSome_iff_exists.1 h
  exact Cm hD hH hn hu hk
theorem zx (hD:PU M T0 outs rv N s l ret) (hH:DJ s l ret H) (hN:N≤20):eE (H++l) ret:=by
 have hlen:H.length≤14:=by
  have h1:=hH.perm.length_eq
  have h2:=List.length_filter_le (fun o:aE=>decide (o.res∈jf l ret)) (s.cm.map sK)
  rw[List.length_map]at h2
  have h3:=hD.cm.2
  have h4:=hD.fr.fl
  omega
 refine⟨fun o ho=>?_,by rw[List.length_append];have:=hD.fr.len;omega,Rh hD hH,fun k o ho v hv=>?_,?_⟩
 ·rcases List.mem_append.1 ho with ho|ho
  ·obtain⟨e,_,h6,hw,_⟩:=kO hD hH ho
   rw[e]
   exact⟨by unfold aS;simp,fun _=>by show 0≤o.res;omega,fun h=>by simp[bR]at h,fun _=>rfl,fun h=>by simp[iB]at h,fun _=>rfl,fun h=>by simp at h⟩
  ·have bB:=(hD.fr.form o ho).uy
   rcases eI hD ho with⟨cO,hA,_,h3,h5⟩|⟨cO,hO,_⟩
   ·refine⟨bB,fun _=>by omega,fun h=>?_,fun h=>?_,fun _=>hA.1.2,fun h=>?_,fun h=>absurd h cO⟩
    ·unfold bR at h
     simp[cO]at h
    ·rcases hA.1.1 with⟨_,_,hb⟩|⟨a,b,_⟩
     ·exact hb
     ·rw[(cM a b).2]at h;cases h
    ·rcases hA.1.1 with⟨a,_⟩|⟨a,b,_⟩
     ·rw[pN a]at h;cases h
     ·rw[(cM a b).1]at h;cases h
   ·refine⟨bB,fun h=>?_,fun _=>hO.2.1,fun _=>hO.2.2.1,fun h=>?_,fun h=>?_,fun _=>⟨hO.2.2.2.1,hO.2.2.2.2.1⟩⟩
    ·unfold bR at h
     simp[cO]at h
    ·unfold iB at h
     simp[cO]at h
    ·unfold aZ at h
     simp[cO]at h
 ·rcases eO ho with⟨h1,h2⟩|⟨h1,h2⟩
  ·obtain⟨e,_⟩:=kO hD hH (List.mem_of_getElem? h2)
   rw[e]at hv
   simp[bl,dv,il,aZ,bc]at hv
  ·have hm:=List.mem_of_getElem? h2
   have hu:v∈UL l ret:=zN hm hv
   rcases eI hD hm with⟨cO,hA,_⟩|⟨cO,hO,_⟩
   ·refine pe hD hH ?_ hu h1
    rcases hA.1.1 with⟨hc,ha,hb⟩|⟨a,b,oa,ob,_⟩
    ·have Cu:v=o.a:=by
      unfold bl dv il at hv
      have u2:bc o.code=false:=by unfold bc;rcases hc with hc|hc<;>rw[hc]<;>rfl
      rw[pN hc,u2]at hv
      simpa using hv
     rw[Cu,ha]
     exact .inl rfl
    ·unfold bl dv il at hv
     rw[(cM a b).1,(cM a b).2]at hv
     simp at hv
     rcases hv with rfl|rfl
     ·exact oa
     ·exact ob
   ·have Cu:v=o.a:=by
     unfold bl dv il at hv
     rw[cO]at hv
     simpa[aZ,bc]using hv
    rcases hD.fr.use o hm cO with hd|⟨o',cP,rU,mH⟩
    ·rw[Cu]at hu⊢
     exact pe hD hH hd hu h1
    ·obtain⟨j,hj,e⟩:=List.mem_iff_getElem.1 cP
     have hj':l[j]?=some o':=by rw[List.getElem?_eq_getElem hj,e]
     have bw:j<k-H.length:=by
      rcases eI hD cP with⟨_,_,e1,h3,h5⟩|⟨x,_⟩
      ·by_cases hle:j<k-H.length
       ·exact hle
       ·rcases Nat.lt_or_ge (k-H.length) j with NT|hge
        ·have:=zC hD NT h2 hj'
         have e2:fV o=100:=by unfold fV;rw[if_pos cO]
         omega
        ·have:j=k-H.length:=by omega
         rw[this,h2]at hj'
         cases hj'
         exact absurd cO rU
      ·exact absurd x rU
     rcases eI hD cP with⟨_,_,_,h3,_⟩|⟨x,_⟩
     ·rw[Cu,←mH]
      exact .inr ⟨by omega,j+H.length,o',by omega,by rw[List.getElem?_append_right (by omega),show j+H.length-H.length=j by omega,hj'],rfl⟩
     ·exact absurd x rU
 ·rcases hD.fr.Vx with hd|⟨o',cP,rU,mH⟩
  ·exact pe hD hH hd (by unfold UL;simp) (by rw[List.length_append];omega)
  ·obtain⟨j,hj,e⟩:=List.mem_iff_getElem.1 cP
   have hj':l[j]?=some o':=by rw[List.getElem?_eq_getElem hj,e]
   rcases eI hD cP with⟨_,_,_,h3,_⟩|⟨x,_⟩
   ·rw[←mH]
    exact .inr ⟨by omega,j+H.length,o',by rw[List.length_append];omega,by rw[List.getElem?_append_right (by omega),show j+H.length-H.length=j by omega,hj'],rfl⟩
   ·exact absurd x rU
theorem N2 (hD:PU M T0 outs rv N s l ret) (hH:DJ s l ret H):ij (H++l):=by
 have hl:∀{k:Nat} {o:aE},l[k]?=some o→o.code≠1:=fun h=>by have:=tn hD (List.mem_of_getElem? h);omega
 have hh:∀{k:Nat} {o:aE},H[k]?=some o→o.code=1:=fun h=>by rw[(kO hD hH (List.mem_of_getElem? h)).1]
 refine⟨fun k o ho hc j o' hj cP=>?_,fun k o o' ho cP hc=>?_⟩
 ·rcases eO ho with⟨h1,h2⟩|⟨h1,h2⟩
  ·rcases eO cP with⟨h3,h4⟩|⟨h3,h4⟩
   ·exact hh h4
   ·omega
  ·exact absurd hc (hl h2)
 ·rcases eO cP with⟨h3,h4⟩|⟨h3,h4⟩
  ·rcases eO ho with⟨h1,h2⟩|⟨h1,h2⟩
   ·exact(Un hD hH (Nat.lt_succ_self k) h2 h4).1
   ·omega
  ·exact absurd hc (hl h4)
theorem zW (hD:PU M T0 outs rv N s l ret) (hH:DJ s l ret H) (h:iZ (H++l) v):∃n,aA s.nm v=some n∧(cd (H++l) v).n=n:=by
 unfold iZ at h
 unfold cd at h⊢
 cases hx:(H++l).find? (fun x=>x.code==1&&x.res==v)with
 |none=>rw[hx]at h;simp at h
 |some x=>
  have h1:=List.find?_some hx
  have h2:=List.mem_of_find?_eq_some hx
  simp at h1
  rcases List.mem_append.1 h2 with h2|h2
  ·obtain⟨_,hn,_⟩:=kO hD hH h2
   rw[h1.2]at hn
   exact⟨x.n,hn,rfl⟩
  ·have:=tn hD h2;omega
theorem RE (hD:PU M T0 outs rv N s l ret) (hH:DJ s l ret H):∀o∈H++l,vR (H++l) (jO (H++l) ret) o:=by
 have JL:∀{v},v∈UL l ret→v∈jO (H++l) ret:=fun{v} hv=>by
  unfold UL at hv
  unfold jO
  rw[List.flatMap_append,List.append_assoc]
  exact List.mem_append_right _ hv
 intro o ho
 rcases List.mem_append.1 ho with ho|ho
 ·obtain⟨e,_,_,_,hu⟩:=kO hD hH ho
  have hc:o.code=1:=by rw[e]
  exact⟨fun _=>JL hu,fun h=>by omega,fun _ h=>by omega⟩
 ·refine⟨fun hp=>?_,fun hc=>?_,fun hp h5 dz Sz=>?_⟩
  ·refine JL (hD.use o ho ?_)
   unfold fI oy
   have hco:=tn hD ho
   rcases hp with⟨h1,h2⟩|⟨h1,h2,h3⟩
   ·simp[h2];omega
   ·obtain⟨n,hn,FH⟩:=zW hD hH h2
    rw[FH]at h3
    rw[h1,hn]
    simp[TH,h3]
  ·rcases eI hD ho with⟨_,hA,_⟩|⟨cO,_⟩
   ·rcases hA.1.1 with⟨_,ha,_⟩|⟨a,b,_⟩
    ·intro hi
     obtain⟨n,hn,_⟩:=zW hD hH hi
     rw[ha,hD.fr.ok.low (by omega)]at hn
     cases hn
    ·omega
   ·omega
  ·obtain⟨a,hna,hca⟩:=zW hD hH Sz.1
   obtain⟨b,uT,hcb⟩:=zW hD hH Sz.2
   have hw:=hD.P0 o ho
   have Sm:¬(o.code=3∨o.code=4):=by omega
   have h8:¬(o.code=8∧b=0):=by
    rintro⟨h8,pq⟩
    rcases hp with⟨_,h2⟩|⟨_,_,h3⟩
    ·exact h2 h8
    ·rw[hcb]at h3;exact h3 pq
   have hr:cE (aA s.nm) o=.nF (arith o.code a b):=by
    unfold cE
    rw[if_neg Sm,if_pos ⟨h5,dz⟩,hna,uT]
    simp only
    rw[if_neg h8]
   unfold wt at hw
   rw[hr]at hw
   cases hw
theorem Vu (hD:PU M T0 outs rv N s l ret) (hH:DJ s l ret H):∀o∈H++l,jx (cj (aA s.nm) M) o:=by
 intro o ho
 rcases List.mem_append.1 ho with ho|ho
 ·obtain⟨e,hn,_⟩:=kO hD hH ho
  have hc:o.code=1:=by rw[e]
  exact⟨fun _=>dB hn,fun h=>by omega,fun h=>by omega⟩
 ·have hco:=tn hD ho
  rcases eI hD ho with⟨cO,hA,_,h3,h5⟩|⟨cO,hO,_⟩
  ·have hr:cj (aA s.nm) M o.res=M o.res:=by unfold cj;rw[hD.fr.ok.low (by omega)];rfl
   have hs:=hD.fr.fj o ho cO
   refine⟨fun h=>by omega,fun h=>?_,fun h5 dz ht=>?_⟩
   ·rw[hr,hs (by intro h8;omega)]
    unfold gQ fj
    rcases h with h|h<;>simp[h]
   ·rw[hr,hs (fun h8 hb=>ht ⟨h8,hb⟩)]
    unfold gQ
    exact gZ h5
  ·exact⟨fun h=>by omega,fun h=>by omega,fun h=>by omega⟩
theorem QV (hD:PU M T0 outs rv N s l ret) (hH:DJ s l ret H):(∃o∈H++l,cU (cj (aA s.nm) M) o)↔T0:=by
 rw[←hD.fr.oT]
 constructor
 ·rintro⟨o,ho,ht⟩
  rcases List.mem_append.1 ho with ho|ho
  ·have hc:o.code=1:=by rw[(kO hD hH ho).1]
   have:=ht.1
   omega
  ·exact⟨o,ho,ht⟩
 ·rintro⟨o,ho,ht⟩
  exact⟨o,List.mem_append_right _ ho,ht⟩
theorem Rq (hD:PU M T0 outs rv N s l ret) (hH:DJ s l ret H):dK (cj (aA s.nm) M) (H++l)=outs:=by
 rw[←hD.fr.out]
 unfold dK
 rw[List.filterMap_append]
 have:H.filterMap (ik (cj (aA s.nm) M))=[]:=by
  rw[List.filterMap_eq_nil_iff]
  intro o ho
  have hc:o.code=1:=by rw[(kO hD hH ho).1]
  unfold ik
  rw[if_neg (by omega)]
 rw[this]
 rfl
theorem RS (hD:PU M T0 outs rv N s l ret) (hH:DJ s l ret H) (q:Nat) (o:aE) (ho:(H++l)[q]?=some o) (h8:o.code=8) (j:Nat) (o':aE) (hj:j<q) (cP:(H++l)[j]?=some o'):o'.code≠25:=by
 rcases eO cP with⟨h1,h2⟩|⟨h1,h2⟩
 ·have hc:o'.code=1:=by rw[(kO hD hH (List.mem_of_getElem? h2)).1]
  omega
 ·intro cO
  rcases eO ho with⟨h3,h4⟩|⟨h3,h4⟩
  ·omega
  ·have hk:=zC hD (show j-H.length<q-H.length by omega) h2 h4
   have e:fV o'=100:=by unfold fV;rw[if_pos cO]
   rcases eI hD (List.mem_of_getElem? h4)with⟨_,_,e2,_,h5⟩|⟨x,_⟩
   ·omega
   ·omega
theorem Dj (hD:PU M T0 outs rv N s l ret) (hH:DJ s l ret H) (hN:N≤20):Fin (H++l) ret (cj (aA s.nm) M) (De (H++l)) (bK (H++l) ret) (kh (H++l) (cj (aA s.nm) M)):=
 Xc (zx hD hH hN) (N2 hD hH) (RE hD hH) (fun v=>hD.fr.ok.LI v) (Vu hD hH) (RS hD hH)
end
end Go.Proofs.YtjkahfmdcpfjjaaGreat
