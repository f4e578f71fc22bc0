/- Small functions: what they say of an operation's code. -/
import Derived.Test.YtjkahfmdcpfjjaaGreatFF
import Derived.Below
import Derived.BigQuiet
import Derived.ChangeMaps5
import Derived.Deep.DeepCutAuto
import Derived.Deep.RegionHeld3
import Derived.Deep.RegionLaw
import Derived.IntWalk
import Derived.Lib.Hide
import Derived.MapKept
import Derived.RowKit3
import Derived.StillTailTactics
import Derived.Test.YtjkahfmdcpfjjaaGreatRows
import Derived.WalkKit
import Derived.WalkSpells
set_option linter.unusedVariables false
namespace Go.Proofs.YtjkahfmdcpfjjaaGreat
open Go.RowKit
section
def Dv (s:St) (ops:List aE) (v:Int):Prop:=ix s v∨∃o∈ops,o.code≠25∧o.res=v
structure FR (M:Int→Int) (T:Prop) (outs:List (Int×Int)) (rv N:Int) (s:St) (ops:List aE) (ret:Int):Prop where
 ok:cB M s
 form:∀o∈ops,Form s o
 res:∀o∈ops,bO s o=o
 fj:∀o∈ops,vP (aA s.nm) M o
 out:ops.filterMap (fk (aA s.nm) M)=outs
 oT:(∃o∈ops,j8 (aA s.nm) M o)↔T
 keys:(ops.map fV).Pairwise (fun a b=>a<b∨(a=100∧b=100))
 use:∀o∈ops,o.code=25→Dv s ops o.a
 BM:bu s ret=ret
 Vw:cj (aA s.nm) M ret=rv
 ov:0≤ret∧(ret<6∨(aA s.nm ret).isSome)
 Vx:Dv s ops ret
 fl:s.next+kG (aA s.nm) ops≤N
 len:ops.length≤12
def FI (M:Int→Int) (T:Prop) (outs:List (Int×Int)) (rv N:Int) (s:St) (ops:List aE) (ret:Int):Prop:=FR M T outs rv N s (ops.map (bO s)) (bu s ret)
section
variable {M : Int → Int} {T : Prop} {outs : List (Int × Int)} {rv N : Int} {s s' : St} {ops d : List aE} {ret : Int} {ag : Bool}
theorem yF (hs:cB M s) (v:Int):bu s (bu s v)=bu s v:=by
 cases e:aA s.al v with
 |none=>have:bu s v=v:=by unfold bu;rw[e];rfl
        rw[this,this]
 |some u=>
  obtain⟨_,_,h,_⟩:=hs.al v u e
  have:bu s v=u:=by unfold bu;rw[e];rfl
  rw[this]
  exact jb hs h
theorem yd (hs:cB M s) (o:aE):bO s (bO s o)=bO s o:=by
 unfold bO
 simp only
 cases aZ o.code<;>cases bc o.code<;>simp[yF hs]
def Us (s:St) (ops:List aE) (v:Int):Prop:=0≤v∧(v<6∨(aA s.nm v).isSome)∧Dv s ops v
theorem FR.us (h:FR M T outs rv N s ops ret) {o:aE} (ho:o∈ops) (cO:o.code=25):Us s ops o.a:=by
 have hO0:jB s o:=by
  rcases h.form o ho with hA|hO
  ·exact absurd cO hA.kL
  ·exact hO
 exact⟨hO0.2.2.2.2.2.1,hO0.2.2.2.2.2.2,h.use o ho cO⟩
theorem GX (h:FR M T outs rv N s ops ret):∀q,PI M (Us s ops) s (ops.take q) ((ops.take q).foldl dR (s,[],false)).1 ((ops.take q).foldl dR (s,[],false)).2.1 ((ops.take q).foldl dR (s,[],false)).2.2:=by
 intro q
 induction q with
 |zero=>exact PI.start h.ok
 |succ q ih=>
  by_cases hq:q<ops.length
  ·have e:ops.take (q+1)=ops.take q++[ops[q]]:=by rw[List.take_succ_eq_append_getElem hq]
   have hm:ops[q]∈ops:=List.getElem_mem hq
   rw[e,List.foldl_append]
   exact Q5 ih (h.form _ hm) (h.fj _ hm) (h.res _ hm) (fun cO=>h.us hm cO)
  ·rw[List.take_of_length_le (by omega)]at ih⊢
   exact ih
theorem Rp (h:FR M T outs rv N s ops ret) (hp:PI M (Us s ops) s ops s' d ag):FI M T outs rv N s' d ret∧(ag=true→kG (aA s'.nm) (d.map (bO s'))<kG (aA s.nm) ops)∧(ag=false→d=ops∧FR M T outs rv N s' ops ret∧∀o∈ops,wt (aA s'.nm) o=0):=by
 have qE:∀o∈d,Form s' (bO s' o)∧wt (aA s'.nm) (bO s' o)=wt (aA s'.nm) o∧fV (bO s' o)=fV o∧fk (aA s'.nm) M (bO s' o)=fk (aA s'.nm) M o∧(j8 (aA s'.nm) M (bO s' o)↔j8 (aA s'.nm) M o)∧vP (aA s'.nm) M (bO s' o)∧(bO s' o).code=o.code∧(bO s' o).res=o.res:=by
  intro o ho
  rcases hp.form o ho with hA|hO
  ·rw[hA.map hp.ok]
   exact⟨.inl hA,rfl,rfl,rfl,Iff.rfl,hp.fj o ho,rfl,rfl⟩
  ·obtain⟨mq,pG⟩:=nB hp.ok hO.2.2.2.2.2.2
   have wm:jB s' {o with a:=bu s' o.a}:=⟨hO.1,hO.2.1,hO.2.2.1,hO.2.2.2.1,hO.2.2.2.2.1,pG hO.2.2.2.2.2.1⟩
   rw[hO.map]
   refine⟨.inr wm,by rw[wm.P0,hO.P0],rfl,?_,Iff.rfl,fun cO=>absurd hO.1 cO,rfl,rfl⟩
   unfold fk
   simp only[hO.1]
   rw[mq]
 have hw:kG (aA s'.nm) (d.map (bO s'))=kG (aA s'.nm) d:=by
  unfold kG
  rw[List.map_map,show d.map (wt (aA s'.nm)∘bO s')=d.map (wt (aA s'.nm))from List.map_congr_left (fun o ho=>(qE o ho).2.1)]
 have ab0:(d.map fV).Pairwise (fun a b=>a<b∨(a=100∧b=100)):=h.keys.sublist hp.keys
 have qF:∀v,0≤v→(v<6∨(aA s.nm v).isSome)→Dv s ops v→Dv s' (d.map (bO s')) (bu s' v):=by
  intro v h0 hv hD
  rcases hD with hD|⟨o,ho,cO,rfl⟩
  ·rw[jb hp.ok (hp.ext.ix hD)]
   exact .inl (hp.ext.ix hD)
  ·cases e:aA s'.al o.res with
   |some u=>
    obtain⟨_,_,hu,_⟩:=hp.ok.al _ u e
    have:bu s' o.res=u:=by unfold bu;rw[e];rfl
    rw[this]
    exact .inl hu
   |none=>
    have:bu s' o.res=o.res:=by unfold bu;rw[e];rfl
    rw[this]
    rcases hp.Xg o ho cO with⟨o',cP,er⟩|er
    ·have rU:o'.code≠25:=by
      rcases hp.form o' cP with hA|hO
      ·exact hA.kL
      ·rcases h.form o ho with hA2|YA
       ·have:=hO.2.1;have:=hA2.2;omega
       ·exact absurd YA.1 cO
     exact .inr ⟨bO s' o',List.mem_map.2 ⟨o',cP,rfl⟩,by rw[(qE o' cP).2.2.2.2.2.2.1];exact rU,by rw[(qE o' cP).2.2.2.2.2.2.2];exact er⟩
    ·rw[e]at er;cases er
 have Fl:=nB hp.ok (v:=ret) (by
  rcases h.ov.2 with h1|h1
  ·exact .inl h1
  ·obtain⟨n,hn⟩:=Option.isSome_iff_exists.1 h1
   exact .inr (by rw[hp.ext.nm _ _ hn];rfl))
 have JL:d.length≤ops.length:=by have:=hp.keys.length_le;simpa using this
 have Uy:FI M T outs rv N s' d ret:=by
  refine⟨hp.ok,?_,?_,?_,?_,?_,?_,?_,yF hp.ok _,?_,Fl.2 h.ov.1,qF ret h.ov.1 h.ov.2 h.Vx,?_,?_⟩
  ·intro q hq
   obtain⟨o,ho,rfl⟩:=List.mem_map.1 hq
   exact(qE o ho).1
  ·intro q hq
   obtain⟨o,ho,rfl⟩:=List.mem_map.1 hq
   exact yd hp.ok o
  ·intro q hq
   obtain⟨o,ho,rfl⟩:=List.mem_map.1 hq
   exact(qE o ho).2.2.2.2.2.1
  ·rw[List.filterMap_map,←h.out,←hp.outs]
   exact ic (fun o ho=>(qE o ho).2.2.2.1)
  ·rw[←h.oT,←hp.oT]
   constructor
   ·rintro⟨q,hq,ht⟩
    obtain⟨o,ho,rfl⟩:=List.mem_map.1 hq
    exact⟨o,ho,(qE o ho).2.2.2.2.1.1 ht⟩
   ·rintro⟨o,ho,ht⟩
    exact⟨_,List.mem_map.2 ⟨o,ho,rfl⟩,(qE o ho).2.2.2.2.1.2 ht⟩
  ·rw[List.map_map,show d.map (fV∘bO s')=d.map fV from List.map_congr_left (fun o ho=>(qE o ho).2.2.1)]
   exact ab0
  ·intro q hq cO
   obtain⟨o,ho,rfl⟩:=List.mem_map.1 hq
   rcases hp.form o ho with hA|hO
   ·rw[(qE o ho).2.2.2.2.2.2.1]at cO;exact absurd cO hA.kL
   ·rw[hO.map]
    have rU:o.code=25:=hO.1
    show Dv _ _ (bu s' o.a)
    rcases hp.use o ho rU with hu|⟨u1,u2,u3⟩
    ·rw[jb hp.ok hu];exact .inl hu
    ·exact qF o.a u1 u2 u3
  ·rw[Fl.1,hp.ext.val h.ov.2];exact h.Vw
  ·rw[hw];have:=hp.fl;have:=h.fl;omega
  ·rw[List.length_map];have:=h.len;omega
 refine⟨Uy,fun FN=>?_,fun FN=>?_⟩
 ·rw[hw]
  have:=hp.Vj
  rw[FN]at this
  have e:yM true=1:=rfl
  omega
 ·obtain⟨rfl,ha,hn,hc,hx,hz⟩:=hp.same FN
  have jn:∀o∈d,bO s' o=o:=fun o ho=>by
   have:=h.res o ho
   unfold bO bu at this⊢
   rw[ha];exact this
  have e:d.map (bO s')=d:=by
   conv=>rhs;rw[←List.map_id d]
   exact List.map_congr_left (fun o ho=>jn o ho)
  have e2:bu s' ret=ret:=by
   have:=h.BM
   unfold bu at this⊢
   rw[ha];exact this
  refine⟨rfl,?_,fun o ho=>by rw[hn];exact hz o ho⟩
  have:=Uy
  unfold FI at this
  rw[e,e2]at this
  exact this
end
end
section
theorem cf {p:Prop} (h:p):Hid p:=h
abbrev G (n:Int):Value:=.int .i64 n
abbrev Zs:Value:=.slice none 0 0
abbrev ad (g:Nat):Option Addr:=some ⟨g,0,none⟩
variable {g i j s:Nat} {fr:Nat×Nat}
theorem Yc {w:World} {cs:Array Value} {e:TypeId} (h:w.heap[g]?=some (.cells cs e fr)):w.cell? ⟨g,j,none⟩=cs[j]?:=by
 simp[World.cell?,h]
theorem au {w:World} {cs:Array Value} {e:TypeId} (h:w.heap[g]?=some (.cells cs e (0,0))):w.frozen? ⟨g,j,none⟩=false:=by simp[World.frozen?,h]
variable {a a0 a1 a2 a3 a4 a5 a6 a7 b c d e f v:Value} {l:List Value} {t:TypeId}
theorem gV {w:World} (hh:w.heap[s]?=some (.cells (a::b::l).toArray t fr)):w.cell? ⟨s,0,none⟩=some a∧w.cell? ⟨s,1,none⟩=some b:=⟨Yc hh,Yc hh⟩
theorem Pk {w:World} (hh:w.heap[s]?=some (.cells (a::b::c::l).toArray t fr)):w.cell? ⟨s,0,none⟩=some a∧w.cell? ⟨s,1,none⟩=some b∧w.cell? ⟨s,2,none⟩=some c:=⟨Yc hh,Yc hh,Yc hh⟩
theorem sf {w:World} (hh:w.heap[s]?=some (.cells (a::b::c::d::e::l).toArray t fr)):w.cell? ⟨s,0,none⟩=some a∧w.cell? ⟨s,1,none⟩=some b∧w.cell? ⟨s,2,none⟩=some c∧w.cell? ⟨s,3,none⟩=some d∧w.cell? ⟨s,4,none⟩=some e:=⟨Yc hh,Yc hh,Yc hh,Yc hh,Yc hh⟩
theorem aC {w:World} (hh:w.heap[s]?=some (.cells (a::b::c::d::e::f::l).toArray t fr)):w.cell? ⟨s,0,none⟩=some a∧w.cell? ⟨s,1,none⟩=some b∧w.cell? ⟨s,2,none⟩=some c∧w.cell? ⟨s,3,none⟩=some d∧w.cell? ⟨s,4,none⟩=some e∧w.cell? ⟨s,5,none⟩=some f:=⟨Yc hh,Yc hh,Yc hh,Yc hh,Yc hh,Yc hh⟩
theorem vt {w:World} {g:Value} (hh:w.heap[s]?=some (.cells (a::b::c::d::e::f::g::l).toArray t fr)):w.cell? ⟨s,0,none⟩=some a∧w.cell? ⟨s,1,none⟩=some b∧w.cell? ⟨s,2,none⟩=some c∧w.cell? ⟨s,3,none⟩=some d∧w.cell? ⟨s,4,none⟩=some e∧w.cell? ⟨s,5,none⟩=some f∧w.cell? ⟨s,6,none⟩=some g:=⟨Yc hh,Yc hh,Yc hh,Yc hh,Yc hh,Yc hh,Yc hh⟩
theorem aq0 {w:World} {g h:Value} (hh:w.heap[s]?=some (.cells (a::b::c::d::e::f::g::h::l).toArray t fr)):w.cell? ⟨s,0,none⟩=some a∧w.cell? ⟨s,1,none⟩=some b∧w.cell? ⟨s,2,none⟩=some c∧w.cell? ⟨s,3,none⟩=some d∧w.cell? ⟨s,4,none⟩=some e∧w.cell? ⟨s,5,none⟩=some f∧w.cell? ⟨s,6,none⟩=some g∧w.cell? ⟨s,7,none⟩=some h:=⟨Yc hh,Yc hh,Yc hh,Yc hh,Yc hh,Yc hh,Yc hh,Yc hh⟩
theorem OE {w:World} {cs:Array Value} (h:w.heap[s]?=some (.cells cs t (0,0))):w.frozen? ⟨s,0,none⟩=false∧w.frozen? ⟨s,1,none⟩=false∧w.frozen? ⟨s,2,none⟩=false∧w.frozen? ⟨s,3,none⟩=false∧w.frozen? ⟨s,4,none⟩=false:=⟨au h,au h,au h,au h,au h⟩
theorem bG {w:World} {cs:Array Value} (h:w.heap[s]?=some (.cells cs t (0,0))):w.frozen? ⟨s,0,none⟩=false∧w.frozen? ⟨s,1,none⟩=false∧w.frozen? ⟨s,2,none⟩=false∧w.frozen? ⟨s,3,none⟩=false∧w.frozen? ⟨s,4,none⟩=false∧w.frozen? ⟨s,5,none⟩=false:=⟨au h,au h,au h,au h,au h,au h⟩
theorem bf {w:World} (h:w.heap[s]?=some (.cells (a0::l).toArray t fr)):w.cell? ⟨s,0,none⟩=some a0:=Yc h
theorem jw {w:World} (h:w.heap[s]?=some (.cells (a0::a1::l).toArray t fr)):w.cell? ⟨s,1,none⟩=some a1:=Yc h
theorem rn {w:World} (h:w.heap[s]?=some (.cells (a0::a1::a2::l).toArray t fr)):w.cell? ⟨s,2,none⟩=some a2:=Yc h
theorem mM {w:World} (h:w.heap[s]?=some (.cells (a0::a1::a2::a3::l).toArray t fr)):w.cell? ⟨s,3,none⟩=some a3:=Yc h
theorem vE {w:World} (h:w.heap[s]?=some (.cells (a0::a1::a2::a3::a4::l).toArray t fr)):w.cell? ⟨s,4,none⟩=some a4:=Yc h
theorem Lt {w:World} (h:w.heap[s]?=some (.cells (a0::a1::a2::a3::a4::a5::l).toArray t fr)):w.cell? ⟨s,5,none⟩=some a5:=Yc h
theorem Pw {w:World} (h:w.heap[s]?=some (.cells (a0::a1::a2::a3::a4::a5::a6::l).toArray t fr)):w.cell? ⟨s,6,none⟩=some a6:=Yc h
theorem at7 {w:World} (h:w.heap[s]?=some (.cells (a0::a1::a2::a3::a4::a5::a6::a7::l).toArray t fr)):w.cell? ⟨s,7,none⟩=some a7:=Yc h
theorem at8 {w:World} {a8:Value} (h:w.heap[s]?=some (.cells (a0::a1::a2::a3::a4::a5::a6::a7::a8::l).toArray t fr)):w.cell? ⟨s,8,none⟩=some a8:=Yc h
theorem mV {w:World} {cs:Array Value} (hg:w.heap[s]?=some (.cells cs t fr)) (h0:cs[0]?=some a) (h1:cs[1]?=some b) (h2:cs[2]?=some c) (h3:cs[3]?=some d) (h4:cs[4]?=some e):w.cell? ⟨s,0,none⟩=some a∧w.cell? ⟨s,1,none⟩=some b∧w.cell? ⟨s,2,none⟩=some c∧w.cell? ⟨s,3,none⟩=some d∧w.cell? ⟨s,4,none⟩=some e:=⟨(Yc hg).trans h0,(Yc hg).trans h1,(Yc hg).trans h2,(Yc hg).trans h3,(Yc hg).trans h4⟩
theorem iw {w:World} {q:Nat} {cs:Array Value} (hg:w.heap[s]?=some (.cells cs t fr)) (h0:cs[q*6]?=some a) (h1:cs[q*6+1]?=some b) (h2:cs[q*6+2]?=some c) (h3:cs[q*6+3]?=some d) (h4:cs[q*6+4]?=some e) (h5:cs[q*6+5]?=some f):w.cell? ⟨s,q*6,none⟩=some a∧w.cell? ⟨s,q*6+1,none⟩=some b∧w.cell? ⟨s,q*6+2,none⟩=some c∧w.cell? ⟨s,q*6+3,none⟩=some d∧w.cell? ⟨s,q*6+4,none⟩=some e∧w.cell? ⟨s,q*6+5,none⟩=some f:=⟨(Yc hg).trans h0,(Yc hg).trans h1,(Yc hg).trans h2,(Yc hg).trans h3,(Yc hg).trans h4,(Yc hg).trans h5⟩
variable {o:Obj}
theorem aB {w:World} (h:w.heap[g]?=some o):g<w.heap.size:=by
 rcases Nat.lt_or_ge g w.heap.size with bw|hge
 ·exact bw
 ·rw[Array.getElem?_eq_none hge]at h;cases h
theorem bq {w:World} {p:Addr} (h:w.cell? p=some v):p.block<w.heap.size:=by
 rcases Nat.lt_or_ge p.block w.heap.size with bw|hge
 ·exact bw
 ·have:w.heap[p.block]?=none:=Array.getElem?_eq_none hge
  unfold World.cell? at h
  simp[this]at h
theorem ao (w:World) (o:Obj):(w.alloc o).heap[w.heap.size]?=some o:=by
 show(w.heap.push o)[w.heap.size]?=_
 simp
theorem ir {w:World} {ob:Obj} (o:Obj) (h:w.heap[g]?=some ob):(w.alloc o).heap[g]?=some ob:=(Below.heap_alloc w o g (aB h)).trans h
theorem aD {w:World} {cs:Array Value} {e:TypeId} (h:w.heap[g]?=some (.cells cs e fr)):(w.setCell ⟨g,i,none⟩ v).heap[g]?=some (.cells (cs.setIfInBounds i v) e fr):=by
 obtain⟨bw,he⟩:=Array.getElem?_eq_some_iff.1 h
 simp only[World.setCell,Option.isSome,Bool.false_eq_true,if_false]
 rw[Array.getElem?_eq_getElem (by rw[Array.size_modify];exact bw),Array.getElem_modify_self,he]
theorem aj {w:World} {b:Nat} (h:b≠g):(w.setCell ⟨g,i,none⟩ v).heap[b]?=w.heap[b]?:=by
 simp only[World.setCell]
 rw[Array.getElem?_modify,if_neg (Ne.symm h)]
theorem cW (w:World) (a:Addr) (v:Value):(w.setCell a v).heap.size=w.heap.size:=by simp[World.setCell]
theorem pY {w:World} {cs:Array Value} {e:TypeId} (h:w.heap[g]?=some (.cells cs e fr)) (hv:cs[i]?=some v):(w.setCell ⟨g,i,none⟩ v).heap[g]?=some (.cells cs e fr):=by
 rw[aD h]
 have:cs.setIfInBounds i v=cs:=by
  apply Array.ext_getElem?
  intro j
  rw[Array.getElem?_setIfInBounds]
  split
  ·rename_i oK
   subst oK
   split
   ·exact hv.symm
   ·rename_i bw
    rw[Array.getElem?_eq_none (by omega)]at hv;cases hv
  ·rfl
 rw[this]
structure ak (S:Nat) (w w':World):Prop where
 os:w'.os=w.os
 out:w'.output=w.output
 size:w.heap.size≤w'.heap.size
 block:∀g,g<S→w'.heap[g]?=w.heap[g]?
section
variable {S S' : Nat} {w w' rh : World}
theorem ak.refl (S:Nat) (w:World):ak S w w:=⟨rfl,rfl,Nat.le_refl _,fun _ _=>rfl⟩
theorem ak.trans (h:ak S w w') (h':ak S w' rh):ak S w rh:=⟨h'.os.trans h.os,h'.out.trans h.out,Nat.le_trans h.size h'.size,fun g hg=>(h'.block g hg).trans (h.block g hg)⟩
theorem ak.mono (h:ak S w w') (hS:S'≤S):ak S' w w':=⟨h.os,h.out,h.size,fun g hg=>h.block g (by omega)⟩
theorem ak.alloc (h:ak S w w') (hS:S≤w'.heap.size) (o:Obj):ak S w (w'.alloc o):=h.trans ⟨rfl,rfl,by simp,fun g hg=>Below.heap_alloc _ _ _ (by omega)⟩
theorem F0 {w:World}:ak w.heap.size w (w.alloc o):=(ak.refl _ _).alloc (Nat.le_refl _) _
theorem ak.setCell (h:ak S w w') (hg:S≤g) (v:Value):ak S w (w'.setCell ⟨g,i,none⟩ v):=h.trans ⟨rfl,rfl,by rw[cW];exact Nat.le_refl _,fun b hb=>aj (by omega)⟩
theorem ak.drew (h:ak S w w'):ak S w w'.drew:=⟨h.os,h.out,h.size,h.block⟩
theorem ak.drewN (h:ak S w w') (n:Nat):ak S w (w'.drewN n):=⟨h.os,h.out,h.size,h.block⟩
theorem ak.obj (h:ak S w w') (hg:g<S) (ho:w.heap[g]?=some o):w'.heap[g]?=some o:=(h.block g hg).trans ho
theorem ak.some (h:ak w.heap.size w w') (ho:w.heap[g]?=some o):w'.heap[g]?=some o:=h.obj (aB ho) ho
end
structure Inv (S:Nat) (I:World→Prop):Prop where
 size:∀w,I w→S≤w.heap.size
 alloc:∀w o,I w→I (w.alloc o)
 set:∀w g i v,S≤g→I w→I (w.setCell ⟨g,i,none⟩ v)
 drew:∀w,I w→I w.drew
theorem Inv.more {S S':Nat} {I:World→Prop} (h:Inv S I) (hS:S≤S'):Inv S' (fun w=>I w∧S'≤w.heap.size):=
 ⟨fun w hw=>hw.2,fun w o hw=>⟨h.alloc w o hw.1,by simp;omega⟩,fun w g i v hg hw=>⟨h.set w g i v (by omega) hw.1,by rw[cW];exact hw.2⟩,fun w hw=>⟨h.drew w hw.1,hw.2⟩⟩
theorem Inv.low (S:Nat) (w0:World) (hS:S≤w0.heap.size):Inv S (fun w=>ak S w0 w):=
 ⟨fun w hw=>Nat.le_trans hS hw.size,fun w o hw=>hw.alloc (Nat.le_trans hS hw.size) o,fun w g i v hg hw=>hw.setCell hg v,fun w hw=>hw.drew⟩
end
section
def vU (kd:IntKind) (l:List (Int×Value)) (es:Array MapEntry):Prop:=es.toList.map (fun e=>(e.key,e.val))=l.map (fun p=>(Value.int kd p.1,p.2))
def aQ (kd:IntKind) (w:World) (g:Nat) (l:List (Int×Value)):Prop:=∃es clock,w.heap[g]?=some (.map es clock)∧vU kd l es∧(∀e∈es.toList,e.born<clock)∧(es.toList.map (·.born)).Nodup
theorem nH {es:Array MapEntry} {c:Nat} (h:(∀e∈es.toList,e.born<c)∧(es.toList.map (·.born)).Nodup) (k v:Value):(∀e∈(es.push ⟨k,v,c⟩).toList,e.born<c+1)∧((es.push ⟨k,v,c⟩).toList.map (·.born)).Nodup:=by
 refine⟨fun e hm=>?_,?_⟩
 ·simp at hm
  rcases hm with hm|rfl
  ·have:=h.1 e (by simpa using hm);omega
  ·exact Nat.lt_succ_self _
 ·rw[Array.toList_push,List.map_append,List.nodup_append]
  refine⟨h.2,by simp,?_⟩
  intro a ha b hb
  obtain⟨e,he,rfl⟩:=List.mem_map.1 ha
  have:=h.1 e he
  simp at hb
  omega
def fp (l:List (Int×Value)) (k:Int):Option Value:=(l.find? fun p=>p.1==k).map (·.2)
def eU:List (Int×Value)→Int→Value→List (Int×Value)
 |[],k,v=>[(k,v)]
 |p::l,k,v=>if p.1==k then(k,v)::l else p::eU l k v
theorem uk:∀{l:List (Int×Value)} {k:Int} {v:Value},l.any (fun p=>p.1==k)=false→eU l k v=l++[(k,v)]
 |[],k,v,_=>rfl
 |p::l,k,v,h=>by
  simp only[List.any_cons,Bool.or_eq_false_iff]at h
  simp[eU,h.1,uk h.2]
theorem BQ:∀{l:List (Int×Value)} {k:Int} {v:Value} {j:Nat} {q:Int×Value},l[j]?=some q→q.1=k→(∀m,m<j→∀q',l[m]?=some q'→q'.1≠k)→eU l k v=l.set j (k,v)
 |[],k,v,j,q,h,_,_=>by simp at h
 |p::l,k,v,0,q,h,hq,_=>by
  simp at h
  subst h
  simp[eU,hq]
 |p::l,k,v,j+1,q,h,hq,hm=>by
  have h0:=hm 0 (by omega) p rfl
  have:(p.1==k)=false:=by simpa using h0
  simp only[eU,this,List.set_cons_succ]
  rw[BQ (by simpa using h) hq (fun m hm' q' qA=>hm (m+1) (by omega) q' (by simpa using qA))]
  rfl
theorem aN (kd:IntKind):vU kd [] #[]:=rfl
theorem Kj {kd:IntKind} {k:Int}:∀(l:List (Int×Value)) (es:List MapEntry) (i:Nat),es.map (fun e=>(e.key,e.val))=l.map (fun p=>(Value.int kd p.1,p.2))→
 ∃r,Instr.findNow (.int kd) (.int kd k) es i=some r∧r.map (·.2)=fp l k∧(r=none↔l.any (fun p=>p.1==k)=false)∧∀j v,r=some (j,v)→i≤j∧∃q,l[j-i]?=some q∧q.1=k∧∀m,m<j-i→∀q',l[m]?=some q'→q'.1≠k:=by
 intro l
 induction l with
 |nil=>
  intro es i h
  cases es with
  |nil=>exact⟨none,rfl,rfl,by simp,by simp⟩
  |cons e es=>simp at h
 |cons p l ih=>
  intro es i h
  cases es with
  |nil=>simp at h
  |cons e es=>
   simp only[List.map_cons,List.cons.injEq,Prod.mk.injEq]at h
   obtain⟨⟨h1,h2⟩,h3⟩:=h
   by_cases hk:p.1=k
   ·refine⟨some (i,e.val),?_,?_,?_,?_⟩
    ·simp[Instr.findNow,Instr.sameNow,h1,hk]
    ·simp[fp,hk,h2]
    ·simp[hk]
    ·rintro j v hj
     cases hj
     exact⟨Nat.le_refl _,p,by simp,hk,fun m hm=>by omega⟩
   ·have hk':(p.1==k)=false:=by simpa using hk
    have Uj:(k==p.1)=false:=by simpa using fun h=>hk h.symm
    obtain⟨r,r1,r2,r3,r4⟩:=ih es (i+1) h3
    refine⟨r,?_,?_,?_,?_⟩
    ·simp only[Instr.findNow,Instr.sameNow,h1,if_true,Uj]
     exact r1
    ·rw[r2];simp[fp,hk']
    ·rw[r3];simp[hk']
    ·rintro j v hj
     obtain⟨a,q,b,c,d⟩:=r4 j v hj
     have e1:j-i=(j-(i+1))+1:=by omega
     refine⟨by omega,q,by rw[e1];simpa using b,c,fun m hm q' qA=>?_⟩
     cases m with
     |zero=>simp at qA;rw[←qA];exact hk
     |succ m=>exact d m (by omega) q' (by simpa using qA)
section
variable {P : Program} {w : World} {t kt et : TypeId} {g : Nat} {l : List (Int × Value)} {kd : IntKind} {k : Int}
theorem jv (hk:P.underlying kt=some (.int kd)) (b:Bool) (w:World):(Instr.checkKey b 10000 kt (.int kd k)).run P w=.ok () w:=by
 have e:∀n:Nat,(Instr.checkKey b (n+1) kt (.int kd k)).run P w=.ok () w:=fun n=>by
  unfold Instr.checkKey
  simp only[Sem.run_bind,run_underlying hk,Result.andThen_ok]
  rfl
 exact e 9999
theorem rY (hk:P.underlying kt=some (.int kd)) {es:Array MapEntry} (he:vU kd l es):∃r,(Instr.findKey kt (.int kd k) es.toList).run P w=.ok r w∧r.map (·.2)=fp l k∧(r=none↔l.any (fun p=>p.1==k)=false)∧∀j v,r=some (j,v)→∃q,l[j]?=some q∧q.1=k∧∀m,m<j→∀q',l[m]?=some q'→q'.1≠k:=by
 obtain⟨r,r1,r2,r3,r4⟩:=Kj (k:=k) l es.toList 0 he
 refine⟨r,?_,r2,r3,fun j v hj=>?_⟩
 ·simp only[Instr.findKey,Sem.run_bind,run_underlying hk,Result.andThen_ok,r1]
  rfl
 ·obtain⟨_,q,b,c,d⟩:=r4 j v hj
  exact⟨q,by simpa using b,c,fun m hm=>d m (by omega)⟩
theorem aM (ht:P.underlying t=some (.map kt et)) (hk:P.underlying kt=some (.int kd)) (h:aQ kd w g l) {z:Value} (hz:(zeroValue et).run P w=.ok z w) (ok:Bool):
 (Instr.lookup t (.map (some g)) (.int kd k) ok).run P w=.ok (if ok then .tuple #[(fp l k).getD z,.bool (fp l k).isSome]else(fp l k).getD z) w:=by
 obtain⟨es,clock,hg,he,_⟩:=h
 obtain⟨r,r1,r2,_,_⟩:=rY (w:=w) (k:=k) hk he
 cases r with
 |none=>
  have e:fp l k=none:=by rw[←r2];rfl
  simp[Instr.lookup,run_underlying ht,MapKept.run_getObj_map hg,jv hk,r1,hz,e]
 |some p=>
  have e:fp l k=some p.2:=by rw[←r2];rfl
  simp[Instr.lookup,run_underlying ht,MapKept.run_getObj_map hg,jv hk,r1,e]
theorem tO (ht:P.underlying t=some (.map kt et)) (hk:P.underlying kt=some (.int kd)) (h:aQ kd w g l) (v:Value):
 ∃es c,(Instr.mapUpdate t (.map (some g)) (.int kd k) v).run P w=.ok () (Go.ChangeMaps.setBlock w g (.map es c))∧vU kd (eU l k v) es∧(∀e∈es.toList,e.born<c)∧(es.toList.map (·.born)).Nodup:=by
 obtain⟨es,clock,hg,he,hbn⟩:=h
 obtain⟨r,r1,r2,r3,r4⟩:=rY (w:=w) (k:=k) hk he
 cases r with
 |none=>
  refine⟨es.push ⟨.int kd k,v,clock⟩,clock+1,?_,?_,?_⟩
  ·simp[Instr.mapUpdate,run_underlying ht,MapKept.run_getObj_map hg,jv hk,r1,MapKept.run_setObj_map _ hg,Go.ChangeMaps.setBlock]
  ·rw[uk (r3.1 rfl)]
   unfold vU at*
   simp[he]
  ·exact nH hbn _ _
 |some p=>
  obtain⟨j,v0⟩:=p
  obtain⟨q,b,c,d⟩:=r4 j v0 rfl
  have hlen:es.toList.length=l.length:=by have:=congrArg List.length he;simpa using this
  have hjl:j<l.length:=(List.getElem?_eq_some_iff.1 b).1
  have cC:es.size=l.length:=by rw[←hlen];simp
  have zr:j<es.size:=by omega
  have an5:es[j].key=.int kd k:=by
   have h1:=congrArg (fun l=>l[j]?) he
   simp[b,c,zr]at h1
   exact h1.1
  refine⟨es.modify j fun e=>{e with key:=.int kd k,val:=v},clock,?_,?_,?_⟩
  ·have hs:(Instr.keyThatStays es[j].key (.int kd k)).run P w=.ok (.int kd k) w:=by
    rw[an5]
    simp[Instr.keyThatStays,Instr.sameBits]
   simp[Instr.mapUpdate,run_underlying ht,MapKept.run_getObj_map hg,jv hk,r1,MapKept.run_setObj_map _ hg,Go.ChangeMaps.setBlock,zr,hs]
  ·rw[BQ b c d]
   unfold vU at*
   apply List.ext_getElem?
   intro m
   have h1:=congrArg (fun l=>l[m]?) he
   simp only[List.getElem?_map,Array.getElem?_toList,Array.getElem?_modify,List.getElem?_set]at h1⊢
   by_cases hm:j=m
   ·subst hm
    simp[zr,hjl]
   ·simp[hm,h1]
  ·have qy:(es.modify j fun e=>{e with key:=.int kd k,val:=v}).toList.map (·.born)=es.toList.map (·.born):=by
    apply List.ext_getElem?
    intro m
    simp only[List.getElem?_map,Array.getElem?_toList,Array.getElem?_modify]
    by_cases hm:j=m
    ·subst hm
     rw[if_pos rfl]
     cases es[j]?<;>rfl
    ·rw[if_neg hm]
   refine⟨fun e hm=>?_,by rw[qy];exact hbn.2⟩
   have:e.born∈(es.modify j fun e=>{e with key:=.int kd k,val:=v}).toList.map (·.born):=List.mem_map_of_mem hm
   rw[qy]at this
   obtain⟨e',Lg,h2⟩:=List.mem_map.1 this
   rw[←h2]
   exact hbn.1 e' Lg
end
end
section
set_option maxRecDepth 100000
set_option maxHeartbeats 8000000
abbrev iF (w:World) (g:Nat) (o:aE):Prop:=w.cell? ⟨g,0,none⟩=some (.int .i64 o.code)∧w.cell? ⟨g,1,none⟩=some (.int .i64 o.res)∧w.cell? ⟨g,2,none⟩=some (.int .i64 o.a)∧w.cell? ⟨g,3,none⟩=some (.int .i64 o.b)∧w.cell? ⟨g,4,none⟩=some (.int .u16 o.n)∧w.cell? ⟨g,5,none⟩=some (.slice none 0 0)
abbrev OC (o:aE):Obj:=.cells #[.int .i64 o.code,.int .i64 o.res,.int .i64 o.a,.int .i64 o.b,.int .u16 o.n,.slice none 0 0] 67
abbrev OV (o:aE):Value:=.agg #[.int .i64 o.code,.int .i64 o.res,.int .i64 o.a,.int .i64 o.b,.int .u16 o.n,.slice none 0 0]
def aS (c:Int):Prop:=c∈[1,3,4,5,6,7,8,9,10,11,12,13,14,15,16,17,25]
def bR (c:Int):Bool:= !(c==25)
def iB (c:Int):Bool:=c==1||c==25
theorem cV (w:World) (c:Int) (h:aS c):Calls Tryz.prog 147 #[G c] w (fun e w'=>e=.returned (.tuple #[.bool (aZ c),.bool (bc c)])∧w'=w):=by
 simp only[aS,List.mem_cons,List.not_mem_nil,or_false]at h
 rcases h with rfl|rfl|rfl|rfl|rfl|rfl|rfl|rfl|rfl|rfl|rfl|rfl|rfl|rfl|rfl|rfl|rfl
 all_goals
  go_enter Tryz.func147,Tryz.ntmps147
  go_wp2
  first
   |exact bodyPost_ret (v:=.tuple #[.bool true,.bool false]) (by simp[results,Tryz.results147,go_sem];done) rfl ⟨rfl,rfl⟩
   |exact bodyPost_ret (v:=.tuple #[.bool true,.bool true]) (by simp[results,Tryz.results147,go_sem];done) rfl ⟨rfl,rfl⟩
   |exact bodyPost_ret (v:=.tuple #[.bool false,.bool false]) (by simp[results,Tryz.results147,go_sem];done) rfl ⟨rfl,rfl⟩
theorem dC (w:World) (c:Int) (h:aS c):Calls Tryz.prog 65 #[G c] w (fun e w'=>e=.returned (.agg #[.bool true,.bool (bR c),.bool (aZ c),.bool (bc c),.bool (iB c)])∧ak w.heap.size w w'):=by
 simp only[aS,List.mem_cons,List.not_mem_nil,or_false]at h
 rcases h with rfl|rfl|rfl|rfl|rfl|rfl|rfl|rfl|rfl|rfl|rfl|rfl|rfl|rfl|rfl|rfl|rfl
 all_goals
  go_enter Tryz.func65,Tryz.ntmps65
  go_wp2
  first
   |exact bodyPost_ret (v:=.agg #[.bool true,.bool true,.bool true,.bool true,.bool false]) (by simp[results,Tryz.results65,go_sem];done) rfl ⟨rfl,F0⟩
   |exact bodyPost_ret (v:=.agg #[.bool true,.bool true,.bool true,.bool false,.bool false]) (by simp[results,Tryz.results65,go_sem];done) rfl ⟨rfl,F0⟩
   |exact bodyPost_ret (v:=.agg #[.bool true,.bool false,.bool true,.bool false,.bool true]) (by simp[results,Tryz.results65,go_sem];done) rfl ⟨rfl,F0⟩
   |exact bodyPost_ret (v:=.agg #[.bool true,.bool true,.bool false,.bool false,.bool true]) (by simp[results,Tryz.results65,go_sem];done) rfl ⟨rfl,F0⟩
end
end Go.Proofs.YtjkahfmdcpfjjaaGreat
