/- The plain part: one step of a pass. -/
import Derived.Test.YtjkahfmdcpfjjaaGreatFC
set_option linter.unusedVariables false
namespace Go.Proofs.YtjkahfmdcpfjjaaGreat
section
def jC (s:St) (o:aE):Prop:=((((o.code=3∨o.code=4)∧o.a=0∧o.b=0)∨(5≤o.code∧o.code≤17∧ix s o.a∧ix s o.b∧¬(o.a=0∧o.b=0)))∧o.n=0)∧3≤o.res∧o.res≤5
def jB (s:St) (o:aE):Prop:=o.code=25∧o.res= -1∧o.b=0∧1≤o.n∧o.n≤255∧0≤o.a∧(o.a<6∨(aA s.nm o.a).isSome)
def Form (s:St) (o:aE):Prop:=jC s o∨jB s o
def vP (nm:Int→Option Int) (M:Int→Int) (o:aE):Prop:=o.code≠25→pz o.code (cj nm M o.b)→M o.res=gQ nm M o
def fk (nm:Int→Option Int) (M:Int→Int) (o:aE):Option (Int×Int):=if o.code=25 then some (o.n,cj nm M o.a)else none
def fV (o:aE):Int:=if o.code=25 then 100 else o.res
def j8 (nm:Int→Option Int) (M:Int→Int) (o:aE):Prop:=o.code=8∧cj nm M o.b=0
open Classical in
noncomputable def wt (nm:Int→Option Int) (o:aE):Nat:=
 match cE nm o with
 | .aW o'=>if o'=o then 0 else 1
 | .val _=>1
 | .nF _=>1
 | .Bb o' n=>if o.code=6 then 2 else if nm o.b=some n then 0 else 1
noncomputable def kG (nm:Int→Option Int) (l:List aE):Nat:=(l.map (wt nm)).sum
theorem kF (nm:Int→Option Int) (l:List aE) (o:aE):kG nm (l++[o])=kG nm l+wt nm o:=by simp[kG]
variable {nm Yg:Int→Option Int}
theorem BC {o:aE} (ha:Yg o.a=nm o.a) (hb:Yg o.b=nm o.b):cE Yg o=cE nm o:=by
 unfold cE;rw[ha,hb]
theorem LH {o:aE} (ha:Yg o.a=nm o.a) (hb:Yg o.b=nm o.b):wt Yg o=wt nm o:=by
 unfold wt;rw[BC ha hb,hb]
section
variable {M : Int → Int} {s s' : St} {o : aE}
theorem Form.ext (h:Form s o) (he:Ext s s'):Form s' o:=by
 rcases h with⟨⟨h1,h2⟩,h3⟩|⟨h1,h2,h3,h4,h5,h6,h7⟩
 ·refine .inl ⟨⟨?_,h2⟩,h3⟩
  rcases h1 with h1|⟨a,b,c,d,e⟩
  ·exact .inl h1
  ·exact .inr ⟨a,b,he.ix c,he.ix d,e⟩
 ·refine .inr ⟨h1,h2,h3,h4,h5,h6,?_⟩
  rcases h7 with h7|h7
  ·exact .inl h7
  ·obtain⟨n,hn⟩:=Option.isSome_iff_exists.1 h7
   exact .inr (by rw[he.nm _ _ hn];rfl)
theorem Form.ab (h:Form s o):(o.a<6∨(aA s.nm o.a).isSome)∧(o.b<6∨(aA s.nm o.b).isSome):=by
 rcases h with⟨⟨⟨h1,h2,h3⟩|⟨a,b,c,d,e⟩,_⟩,_⟩|⟨h1,h2,h3,h4,h5,h6,h7⟩
 ·exact⟨.inl (by omega),.inl (by omega)⟩
 ·exact⟨c.lt,d.lt⟩
 ·exact⟨h7,.inl (by omega)⟩
theorem Form.Lz (h:Form s o) (he:Ext s s'):wt (aA s'.nm) o=wt (aA s.nm) o:=LH (he.get h.ab.1) (he.get h.ab.2)
theorem Form.Ml (h:Form s o) (he:Ext s s'):gQ (aA s'.nm) M o=gQ (aA s.nm) M o:=by
 unfold gQ;rw[he.val h.ab.1,he.val h.ab.2]
variable {v:Int}
theorem jb (hs:cB M s) (h:ix s v):bu s v=v:=by
 unfold bu
 cases e:aA s.al v with
 |none=>rfl
 |some u=>
  obtain⟨a,b,_⟩:=hs.al v u e
  rcases h with rfl|h
  ·omega
  ·rw[hs.low (by omega)]at h;cases h
theorem jC.map (h:jC s o) (hs:cB M s):bO s o=o:=by
 obtain⟨⟨h1|h1,_⟩,_⟩:=h
 ·obtain⟨hc,ha,hb⟩:=h1
  have e:bu s o.a=o.a:=jb hs (.inl ha)
  have:bc o.code=false:=by unfold bc;rcases hc with h|h<;>rw[h]<;>decide
  unfold bO
  rw[e,this]
  simp
 ·obtain⟨a,b,c,d,_⟩:=h1
  unfold bO
  rw[jb hs c,jb hs d]
  simp
theorem jB.map (h:jB s o):bO s o={o with a:=bu s o.a}:=by
 unfold bO
 have h1:aZ o.code=true:=by rw[h.1];decide
 have h2:bc o.code=false:=by rw[h.1];decide
 rw[h1,h2]
 simp
theorem jB.Rb (h:jB s o) (nm:Int→Option Int) (a:Int):cE nm {o with a:=a}=.aW {o with a:=a}:=by
 have h1:=h.1
 unfold cE
 simp only
 rw[if_neg (by omega),if_neg (by omega)]
theorem jB.P0 (h:jB s o) (nm:Int→Option Int):wt nm o=0:=by
 have:=h.Rb nm o.a
 unfold wt
 rw[show cE nm o=.aW o from this]
 simp
theorem nB (hs:cB M s) (h:v<6∨(aA s.nm v).isSome):cj (aA s.nm) M (bu s v)=cj (aA s.nm) M v∧(0≤v→0≤bu s v∧(bu s v<6∨(aA s.nm (bu s v)).isSome)):=by
 unfold bu
 cases e:aA s.al v with
 |none=>exact⟨rfl,fun h0=>⟨h0,h⟩⟩
 |some u=>
  obtain⟨a,b,c,d⟩:=hs.al v u e
  refine⟨?_,fun _=>?_⟩
  ·show cj (aA s.nm) M u=_
   rw[d]
   unfold cj
   rw[hs.low (by omega)]
   rfl
  ·show 0≤u∧(u<6∨_)
   rcases c with rfl|c
   ·exact⟨by decide,.inl (by decide)⟩
   ·obtain⟨n,hn⟩:=Option.isSome_iff_exists.1 c
    exact⟨by have:=(hs.kw u n hn).1;omega,.inr c⟩
def RC (o:aE) (b:Int) (r:RR):Prop:=(∀o',r=.aW o'→o'=o∨o'=⟨4,o.res,0,0,0⟩)∧(∀v,r=.val v→v=0)∧
    (∀o' n,r=.Bb o' n→(o.code=6∧o'=⟨5,o.res,0,0,0⟩)∨(o'=o∧12≤o.code∧o.code≤14∧n=b%16∧n≠0))
set_option maxHeartbeats 4000000 in
theorem sy (o:aE) (b:Int) (ha:o.a=0):RC o b (ei o b):=by
 have aW:RC o b (.aW o):=⟨fun o' h=>by cases h;exact .inl rfl,fun v h=>(by cases h),fun o' n h=>(by cases h)⟩
 have val:RC o b (.val 0):=⟨fun o' h=>(by cases h),fun v h=>by cases h;rfl,fun o' n h=>(by cases h)⟩
 have nF:∀m,RC o b (.nF m):=fun m=>⟨fun o' h=>(by cases h),fun v h=>(by cases h),fun o' n h=>(by cases h)⟩
 unfold ei
 rw[ha]
 split
 ·split
  ·exact val
  ·exact aW
 split
 ·rename_i h6
  exact⟨fun o' h=>(by cases h),fun v h=>(by cases h),fun o' n h=>by cases h;exact .inl ⟨h6,rfl⟩⟩
 split
 ·rename_i h
  split
  ·exact val
  ·rename_i h0
   exact⟨fun o' h=>(by cases h),fun v h=>(by cases h),fun o' n e=>by cases e;exact .inr ⟨rfl,by omega,by omega,rfl,h0⟩⟩
 split
 ·split
  ·exact nF _
  ·exact aW
 split
 ·split
  ·exact val
  split
  ·exact nF _
  ·exact aW
 split
 ·split
  ·exact val
  ·exact aW
 split
 ·split
  ·exact val
  split
  ·exact nF _
  ·exact aW
 split
 ·split
  ·exact val
  split
  ·exact nF _
  ·exact aW
 split
 ·split
  ·exact⟨fun o' h=>by cases h;exact .inr rfl,fun v h=>(by cases h),fun o' n h=>(by cases h)⟩
  split
  ·exact val
  ·exact aW
 ·exact aW
def LC (o:aE) (r:RR):Prop:=(∀o',r=.aW o'→o'=o∨o'=⟨3,o.res,o.b,0,0⟩)∧(∀v,r≠.val v)∧(∀o' n,r≠.Bb o' n)
theorem Fa (o:aE) (a:Int):LC o (oC o a):=by
 have aW:LC o (.aW o):=⟨fun o' h=>by cases h;exact .inl rfl,fun v h=>(by cases h),fun o' n h=>(by cases h)⟩
 unfold oC
 split
 ·split
  ·exact⟨fun o' h=>by cases h;exact .inr rfl,fun v h=>(by cases h),fun o' n h=>(by cases h)⟩
  split
  ·exact⟨fun o' h=>(by cases h),fun v h=>(by cases h),fun o' n h=>(by cases h)⟩
  ·exact aW
 ·exact aW
theorem ux (hs:cB M s) {o:aE} (hc:o.code=3∨o.code=4) (ha:o.a=0):cE (aA s.nm) o=.aW o:=by
 unfold cE
 rw[if_pos hc,ha,hs.low (by decide)]
theorem pQ (hs:cB M s) {o:aE} {b:Int} (h1:5≤o.code) (h2:o.code≤17) (ha:o.a=0) (hb:aA s.nm o.b=some b):cE (aA s.nm) o=ei o b:=by
 unfold cE
 rw[if_neg (by omega),if_pos ⟨h1,h2⟩,ha,hs.low (by decide),hb]
theorem yU {o:aE} (h:cE nm o=.aW o):wt nm o=0:=by unfold wt;rw[h];simp
theorem te {o o':aE} (h:cE nm o=.aW o') (cH:o'≠o):wt nm o=1:=by unfold wt;rw[h];simp[cH]
theorem xG (hs:cB M s) (h:jC s o):(∀o',cE (aA s.nm) o=.aW o'→jC s o'∧(o'=o∨(wt (aA s.nm) o=1∧wt (aA s.nm) o'=0)))∧
 (∀v,cE (aA s.nm) o=.val v→v=0∧wt (aA s.nm) o=1)∧(∀n,cE (aA s.nm) o=.nF n→wt (aA s.nm) o=1)∧
 (∀o' n,cE (aA s.nm) o=.Bb o' n→∃b,o.a=0∧aA s.nm o.b=some b∧((o.code=6∧o'=⟨5,o.res,0,0,0⟩∧wt (aA s.nm) o=2)∨(o'=o∧12≤o.code∧o.code≤14∧1≤n∧n<16∧((n=b∧wt (aA s.nm) o=0)∨(n≠b∧wt (aA s.nm) o=1))))):=by
 obtain⟨⟨hx,hn⟩,hr⟩:=h
 have Jk:∀c:Int,c=3∨c=4→jC s ⟨c,o.res,0,0,0⟩∧wt (aA s.nm) ⟨c,o.res,0,0,0⟩=0:=fun c hc=>⟨⟨⟨.inl ⟨hc,rfl,rfl⟩,rfl⟩,hr⟩,yU (ux hs hc rfl)⟩
 have kM:∀v,cE (aA s.nm) o=.val v→wt (aA s.nm) o=1:=fun v h=>by unfold wt;rw[h]
 have Sw:∀v,cE (aA s.nm) o=.nF v→wt (aA s.nm) o=1:=fun v h=>by unfold wt;rw[h]
 rcases hx with⟨hc,ha,hb⟩|⟨h1,h2,ha,hb,cH⟩
 ·have hk:=ux hs hc ha
  refine⟨fun o' h=>?_,fun v h=>?_,fun v h=>?_,fun o' n h=>?_⟩
  all_goals rw[hk]at h;cases h
  exact⟨⟨⟨.inl ⟨hc,ha,hb⟩,hn⟩,hr⟩,.inl rfl⟩
 ·have hF:jC s o:=⟨⟨.inr ⟨h1,h2,ha,hb,cH⟩,hn⟩,hr⟩
  by_cases tx:o.a=0
  ·have pq:o.b≠0:=fun h=>cH ⟨tx,h⟩
   rcases hb with hb|hb
   ·exact absurd hb pq
   obtain⟨b,hb⟩:=Option.isSome_iff_exists.1 hb
   have nr:=pQ hs h1 h2 tx hb
   obtain⟨c1,c2,c3⟩:=sy o b tx
   refine⟨fun o' h=>?_,fun v h=>⟨c2 v (nr▸h),kM v h⟩,Sw,fun o' n h=>⟨b,tx,hb,?_⟩⟩
   ·rcases c1 o' (nr▸h)with rfl|rfl
    ·exact⟨hF,.inl rfl⟩
    ·refine⟨(Jk 4 (.inr rfl)).1,.inr ⟨te h (fun e=>?_),(Jk 4 (.inr rfl)).2⟩⟩
     have:=congrArg aE.code e
     simp only at this
     omega
   ·have hw:wt (aA s.nm) o=if o.code=6 then 2 else if aA s.nm o.b=some n then 0 else 1:=by unfold wt;rw[h]
    rcases c3 o' n (nr▸h)with⟨e6,rfl⟩|⟨rfl,k1,k2,k3,k4⟩
    ·exact .inl ⟨e6,rfl,by rw[hw,if_pos e6]⟩
    ·refine .inr ⟨rfl,k1,k2,by omega,by omega,?_⟩
     rw[hw,if_neg (by omega),hb]
     by_cases uT:n=b
     ·exact .inl ⟨uT,by rw[uT];simp⟩
     ·exact .inr ⟨uT,by rw[if_neg (fun e=>uT (Option.some.inj e).symm)]⟩
  ·rcases ha with ha|ha
   ·exact absurd ha tx
   obtain⟨a,ha⟩:=Option.isSome_iff_exists.1 ha
   have eV:cE (aA s.nm) o=(match aA s.nm o.b with
    |some b=>if o.code=8∧b=0 then .aW o else .nF (arith o.code a b)
    |none=>if Comm o.code then ei {o with a:=o.b,b:=o.a} a else oC o a):=by
    unfold cE
    rw[if_neg (by omega),if_pos ⟨h1,h2⟩,ha]
    cases aA s.nm o.b<;>rfl
   rcases hb with hb|hb
   ·rw[hb,hs.low (by decide)]at eV
    simp only at eV
    by_cases dY:Comm o.code
    ·rw[if_pos dY]at eV
     have Sd:jC s {o with a:=0,b:=o.a}:=⟨⟨.inr ⟨h1,h2,.inl rfl,.inr (by rw[ha];rfl),fun h=>tx h.2⟩,hn⟩,hr⟩
     obtain⟨c1,c2,c3⟩:=sy {o with a:=0,b:=o.a} a rfl
     have Wd:=pQ hs (o:={o with a:=0,b:=o.a}) h1 h2 rfl ha
     have sL:o.code≠6∧¬(12≤o.code∧o.code≤14):=by unfold Comm at dY;omega
     refine⟨fun o' h=>?_,fun v h=>⟨c2 v (eV▸h),kM v h⟩,Sw,fun o' n h=>?_⟩
     ·rcases c1 o' (eV▸h)with rfl|rfl
      ·refine⟨Sd,.inr ⟨te h (fun e=>?_),yU (Wd.trans (eV▸h))⟩⟩
       have:=congrArg aE.a e
       simp only at this
       exact tx this.symm
      ·refine⟨(Jk 4 (.inr rfl)).1,.inr ⟨te h (fun e=>?_),(Jk 4 (.inr rfl)).2⟩⟩
       have:=congrArg aE.code e
       simp only at this
       omega
     ·rcases c3 o' n (eV▸h)with⟨e6,_⟩|⟨_,k1,k2,_⟩
      ·exact absurd e6 sL.1
      ·exact absurd ⟨k1,k2⟩ sL.2
    ·rw[if_neg dY]at eV
     obtain⟨c1,c2,c3⟩:=Fa o a
     refine⟨fun o' h=>?_,fun v h=>absurd (eV▸h) (c2 v),Sw,fun o' n h=>absurd (eV▸h) (c3 o' n)⟩
     rcases c1 o' (eV▸h)with rfl|rfl
     ·exact⟨hF,.inl rfl⟩
     ·rw[hb]at h⊢
      refine⟨(Jk 3 (.inl rfl)).1,.inr ⟨te h (fun e=>?_),(Jk 3 (.inl rfl)).2⟩⟩
      have:=congrArg aE.code e
      simp only at this
      omega
   ·obtain⟨b,hb⟩:=Option.isSome_iff_exists.1 hb
    rw[hb]at eV
    simp only at eV
    by_cases h8:o.code=8∧b=0
    ·rw[if_pos h8]at eV
     refine⟨fun o' h=>?_,fun v h=>?_,fun v h=>?_,fun o' n h=>?_⟩
     all_goals rw[eV]at h;cases h
     exact⟨hF,.inl rfl⟩
    ·rw[if_neg h8]at eV
     refine⟨fun o' h=>?_,fun v h=>?_,Sw,fun o' n h=>?_⟩
     all_goals rw[eV]at h;cases h
end
end
section
def yM (b:Bool):Nat:=if b then 1 else 0
structure PI (M:Int→Int) (U:Int→Prop) (s0:St) (p:List aE) (s:St) (d:List aE) (ag:Bool):Prop where
 ok:cB M s
 ext:Ext s0 s
 form:∀o∈d,Form s o
 fj:∀o∈d,vP (aA s.nm) M o
 use:∀o∈d,o.code=25→ix s o.a∨U o.a
 outs:d.filterMap (fk (aA s.nm) M)=p.filterMap (fk (aA s0.nm) M)
 oT:(∃o∈d,j8 (aA s.nm) M o)↔∃o∈p,j8 (aA s0.nm) M o
 keys:(d.map fV).Sublist (p.map fV)
 Xg:∀o∈p,o.code≠25→(∃o'∈d,o'.res=o.res)∨(aA s.al o.res).isSome
 Vj:kG (aA s.nm) d+yM ag≤kG (aA s0.nm) p
 fl:s.next+kG (aA s.nm) d≤s0.next+kG (aA s0.nm) p
 same:ag=false→d=p∧s.al=s0.al∧s.nm=s0.nm∧s.cm=s0.cm∧s.next=s0.next∧∀o∈p,wt (aA s0.nm) o=0
section
variable {M : Int → Int} {U : Int → Prop} {s0 s s' : St} {p d : List aE} {ag : Bool} {o : aE}
theorem vP.ext {o:aE} (h:vP (aA s.nm) M o) (hf:Form s o) (he:Ext s s'):vP (aA s'.nm) M o:=by
 intro cO hn
 rw[hf.Ml he]
 exact h cO (by rw[he.val hf.ab.2]at hn;exact hn)
theorem xV {o:aE} (hf:Form s o) (he:Ext s s'):fk (aA s'.nm) M o=fk (aA s.nm) M o:=by
 unfold fk;rw[he.val hf.ab.1]
theorem ll {o:aE} (hf:Form s o) (he:Ext s s'):j8 (aA s'.nm) M o↔j8 (aA s.nm) M o:=by
 unfold j8;rw[he.val hf.ab.2]
theorem ic {α β:Type} {f g:α→Option β}:∀{l:List α},(∀x∈l,f x=g x)→l.filterMap f=l.filterMap g
 |[],_=>rfl
 |x::l,h=>by
  rw[List.filterMap_cons,List.filterMap_cons,h x (List.mem_cons_self ..),ic (fun y hy=>h y (List.mem_cons_of_mem _ hy))]
theorem GF (hf:∀o∈d,Form s o) (he:Ext s s'):kG (aA s'.nm) d=kG (aA s.nm) d:=by
 unfold kG
 rw[List.map_congr_left (fun o ho=>(hf o ho).Lz he)]
theorem PI.start (h:cB M s):PI M U s [] s [] false:=
 ⟨h,Ext.refl s,fun _ h=>by simp at h,fun _ h=>by simp at h,fun _ h=>by simp at h,rfl,Iff.rfl,List.Sublist.slnil,fun _ h=>by simp at h,Nat.le_refl _,Int.le_refl _,fun _=>⟨rfl,rfl,rfl,rfl,rfl,fun _ h=>by simp at h⟩⟩
theorem PI.push (h:PI M U s0 p s d ag) (he:Ext s s') (bB:cB M s') {n:aE} {x:Bool} (hf:Form s' n) (hs:vP (aA s'.nm) M n) (hu:n.code=25→ix s' n.a∨U n.a) (hk:fV n=fV o) (ho:fk (aA s'.nm) M n=fk (aA s0.nm) M o) (ht:j8 (aA s'.nm) M n↔j8 (aA s0.nm) M o) (hr:n.res=o.res)
 (hw:wt (aA s'.nm) n≤wt (aA s0.nm) o) (Qf:ag=true∨wt (aA s'.nm) n+yM x≤wt (aA s0.nm) o) (hn:s'.next+wt (aA s'.nm) n≤s.next+wt (aA s0.nm) o) (hx:ag=false→x=false→n=o∧s'.al=s.al∧s'.nm=s.nm∧s'.cm=s.cm∧s'.next=s.next∧wt (aA s0.nm) o=0):
 PI M U s0 (p++[o]) s' (d++[n]) (ag||x):=by
 have Zz:=GF h.form he
 refine⟨bB,h.ext.trans he,?_,?_,?_,?_,?_,?_,?_,?_,?_,?_⟩
 ·intro q hq
  rcases List.mem_append.1 hq with hq|hq
  ·exact(h.form q hq).ext he
  ·rw[List.mem_singleton.1 hq];exact hf
 ·intro q hq
  rcases List.mem_append.1 hq with hq|hq
  ·exact(h.fj q hq).ext (h.form q hq) he
  ·rw[List.mem_singleton.1 hq];exact hs
 ·intro q hq cO
  rcases List.mem_append.1 hq with hq|hq
  ·exact(h.use q hq cO).imp_left he.ix
  ·rw[List.mem_singleton.1 hq]at cO⊢;exact hu cO
 ·rw[List.filterMap_append,List.filterMap_append,ic (fun q hq=>xV (h.form q hq) he),h.outs]
  congr 1
  simp only[List.filterMap_cons,List.filterMap_nil,ho]
 ·constructor
  ·rintro⟨q,hq,JN⟩
   rcases List.mem_append.1 hq with hq|hq
   ·obtain⟨q',qA,Nv⟩:=h.oT.1 ⟨q,hq,(ll (h.form q hq) he).1 JN⟩
    exact⟨q',List.mem_append_left _ qA,Nv⟩
   ·rw[List.mem_singleton.1 hq]at JN
    exact⟨o,List.mem_append_right _ (List.mem_singleton.2 rfl),ht.1 JN⟩
  ·rintro⟨q,hq,JN⟩
   rcases List.mem_append.1 hq with hq|hq
   ·obtain⟨q',qA,Nv⟩:=h.oT.2 ⟨q,hq,JN⟩
    exact⟨q',List.mem_append_left _ qA,(ll (h.form q' qA) he).2 Nv⟩
   ·rw[List.mem_singleton.1 hq]at JN
    exact⟨n,List.mem_append_right _ (List.mem_singleton.2 rfl),ht.2 JN⟩
 ·rw[List.map_append,List.map_append]
  exact h.keys.append (by simp only[List.map_cons,List.map_nil,hk];exact List.Sublist.refl _)
 ·intro q hq cO
  rcases List.mem_append.1 hq with hq|hq
  ·rcases h.Xg q hq cO with⟨q',qA,e⟩|e
   ·exact .inl ⟨q',List.mem_append_left _ qA,e⟩
   ·obtain⟨u,hu⟩:=Option.isSome_iff_exists.1 e
    exact .inr (he.al _ u hu)
  ·rw[List.mem_singleton.1 hq]
   exact .inl ⟨n,List.mem_append_right _ (List.mem_singleton.2 rfl),hr⟩
 ·rw[kF,kF,Zz]
  have h1:=h.Vj
  rcases Qf with rfl|Qf
  ·have:yM (true||x)=1:=rfl
   have e:yM true=1:=rfl
   omega
  ·have:yM (ag||x)≤yM ag+yM x:=by cases ag<;>cases x<;>decide
   omega
 ·rw[kF,kF,Zz]
  have h1:=h.fl
  omega
 ·intro FN
  have h1:ag=false:=by cases ag<;>simp at FN⊢
  have h2:x=false:=by cases x<;>simp at FN⊢
  obtain⟨a,b,c,e,f,g⟩:=h.same h1
  obtain⟨a',b',c',e',f',g'⟩:=hx h1 h2
  refine⟨by rw[a,a'],b'.trans b,c'.trans c,e'.trans e,f'.trans f,fun q hq=>?_⟩
  rcases List.mem_append.1 hq with hq|hq
  ·exact g q hq
  ·rw[List.mem_singleton.1 hq];exact g'
theorem PI.drop (h:PI M U s0 p s d ag) (he:Ext s s') (bB:cB M s') (cO:o.code≠25) (ht:¬j8 (aA s0.nm) M o) (J3:(aA s'.al o.res).isSome) (hw:1≤wt (aA s0.nm) o) (hn:s'.next≤s.next+1):
 PI M U s0 (p++[o]) s' d true:=by
 have Zz:=GF h.form he
 refine⟨bB,h.ext.trans he,fun q hq=>(h.form q hq).ext he,fun q hq=>(h.fj q hq).ext (h.form q hq) he,fun q hq cO=>(h.use q hq cO).imp_left he.ix,?_,?_,?_,?_,?_,?_,fun h=>(by cases h)⟩
 ·rw[List.filterMap_append,ic (fun q hq=>xV (h.form q hq) he),h.outs]
  simp[fk,cO]
 ·constructor
  ·rintro⟨q,hq,JN⟩
   obtain⟨q',qA,Nv⟩:=h.oT.1 ⟨q,hq,(ll (h.form q hq) he).1 JN⟩
   exact⟨q',List.mem_append_left _ qA,Nv⟩
  ·rintro⟨q,hq,JN⟩
   rcases List.mem_append.1 hq with hq|hq
   ·obtain⟨q',qA,Nv⟩:=h.oT.2 ⟨q,hq,JN⟩
    exact⟨q',qA,(ll (h.form q' qA) he).2 Nv⟩
   ·rw[List.mem_singleton.1 hq]at JN
    exact absurd JN ht
 ·rw[List.map_append]
  exact h.keys.trans (List.sublist_append_left _ _)
 ·intro q hq cO
  rcases List.mem_append.1 hq with hq|hq
  ·rcases h.Xg q hq cO with⟨q',qA,e⟩|e
   ·exact .inl ⟨q',qA,e⟩
   ·obtain⟨u,hu⟩:=Option.isSome_iff_exists.1 e
    exact .inr (he.al _ u hu)
  ·rw[List.mem_singleton.1 hq]
   exact .inr J3
 ·rw[kF,Zz]
  have h1:=h.Vj
  have e:yM true=1:=rfl
  omega
 ·rw[kF,Zz]
  have h1:=h.fl
  omega
end
end
section
section
variable {M : Int → Int} {U : Int → Prop} {s0 s s' : St} {p d : List aE} {ag : Bool} {o : aE}
theorem cB.defs (h:cB M s) {n:aE} (hr:n.res≠0):cB M (s.defs n):=by
 unfold St.defs
 split
 ·exact⟨h.kc,h.kw,h.nx,h.al,fun p hp=>by
   rcases RL hp with hp|hp
   ·exact h.df p hp
   ·rw[hp];show 0<n.res;omega,h.w⟩
 ·exact h
theorem yJ (s:St) (n:aE):(s.defs n).nm=s.nm∧(s.defs n).cm=s.cm∧(s.defs n).al=s.al∧(s.defs n).next=s.next:=by
 unfold St.defs
 split<;>exact⟨rfl,rfl,rfl,rfl⟩
theorem Ext.of_eq (hn:s'.nm=s.nm) (ha:s'.al=s.al):Ext s s':=⟨fun v n e=>by rw[hn];exact e,fun v _=>by rw[hn],fun v u e=>by rw[ha,e];rfl⟩
theorem Form.of_eq {o:aE} (h:Form s o) (hn:s'.nm=s.nm) (ha:s'.al=s.al):Form s' o:=h.ext (Ext.of_eq hn ha)
theorem qY (h:cB M s) {r v:Int} (h1:1≤r) (h5:r≤5) (hv:ix s v) (he:cj (aA s.nm) M v=M r):cB M (s.alias r v)∧Ext s (s.alias r v)∧(aA (s.alias r v).al r).isSome:=by
 refine⟨⟨h.kc,h.kw,h.nx,fun k u e=>?_,h.df,h.w⟩,⟨fun _ _ e=>e,fun _ _=>rfl,fun k u e=>?_⟩,?_⟩
 ·have e':aA (dj s.al r v) k=some u:=e
  rw[cQ]at e'
  split at e'
  ·rename_i hk;subst hk;cases e';exact⟨h1,h5,hv,he⟩
  ·exact h.al k u e'
 ·show(aA (dj s.al r v) k).isSome=true
  rw[cQ]
  split
  ·rfl
  ·rw[e];rfl
 ·show(aA (dj s.al r v) r).isSome=true
  rw[cQ,if_pos rfl];rfl
theorem jC.kL {o:aE} (h:jC s o):o.code≠25:=by
 obtain⟨⟨h1|h1,_⟩,_⟩:=h<;>omega
theorem Me (h:PI M U s0 p s d ag) (hf:jB s0 o) (hm:bO s0 o=o) (hu:U o.a):PI M U s0 (p++[o]) (dR (s,d,ag) o).1 (dR (s,d,ag) o).2.1 (dR (s,d,ag) o).2.2:=by
 have Ad:jB s o:=by
  rcases(Form.ext (.inr hf) h.ext:Form s o)with hA|hO
  ·exact absurd hf.1 hA.kL
  ·exact hO
 have he:dR (s,d,ag) o=(s,d++[{o with a:=bu s o.a}],ag||decide ({o with a:=bu s o.a}≠o)):=by
  unfold dR
  simp only
  rw[Ad.map,Ad.Rb]
  have:s.defs {o with a:=bu s o.a}=s:=by
   unfold St.defs
   rw[if_neg (by show ¬0≤o.res;rw[hf.2.1];decide)]
  simp only[this]
 rw[he]
 obtain⟨mq,pG⟩:=nB h.ok Ad.2.2.2.2.2.2
 have wm:jB s {o with a:=bu s o.a}:=⟨Ad.1,Ad.2.1,Ad.2.2.1,Ad.2.2.2.1,Ad.2.2.2.2.1,pG Ad.2.2.2.2.2.1⟩
 have Uh:ag=false→({o with a:=bu s o.a}:aE)=o:=fun FN=>by
  have J3:=(h.same FN).2.1
  have h0:bu s o.a=bu s0 o.a:=by unfold bu;rw[J3]
  rw[h0,←hf.map,hm]
 refine h.push (Ext.refl s) h.ok (.inr wm) (fun cO=>absurd hf.1 cO) ?_ rfl ?_ ?_ rfl (by rw[wm.P0];omega) ?_ (by rw[wm.P0];omega) (fun FN _=>⟨Uh FN,rfl,rfl,rfl,rfl,hf.P0 _⟩)
 ·intro _
  show ix s (bu s o.a)∨U (bu s o.a)
  cases e:aA s.al o.a with
  |none=>have:bu s o.a=o.a:=by unfold bu;rw[e];rfl
         rw[this];exact .inr hu
  |some u=>
   have:bu s o.a=u:=by unfold bu;rw[e];rfl
   rw[this];exact .inl (h.ok.al _ u e).2.2.1
 ·unfold fk
  simp only[hf.1]
  rw[mq,h.ext.val hf.2.2.2.2.2.2]
 ·constructor
  ·rintro⟨e,_⟩;have e':o.code=8:=e;rw[hf.1]at e';exact absurd e' (by decide)
  ·rintro⟨e,_⟩;rw[hf.1]at e;exact absurd e (by decide)
 ·cases FN:ag with
  |true=>exact .inl rfl
  |false=>
   right
   rw[wm.P0,Uh FN]
   simp[yM]
theorem Et (h:PI M U s0 p s d ag) (hf:jC s0 o) (hs:vP (aA s0.nm) M o):PI M U s0 (p++[o]) (dR (s,d,ag) o).1 (dR (s,d,ag) o).2.1 (dR (s,d,ag) o).2.2:=by
 have hF:Form s o:=Form.ext (.inl hf) h.ext
 have Ad:jC s o:=by
  rcases hF with hA|hO
  ·exact hA
  ·exact absurd hO.1 hf.kL
 have cO:=hf.kL
 have iT:=Ad.2
 have Cx:vP (aA s.nm) M o:=hs.ext (.inl hf) h.ext
 have Qe:wt (aA s.nm) o=wt (aA s0.nm) o:=Form.Lz (.inl hf) h.ext
 have Hq:j8 (aA s.nm) M o↔j8 (aA s0.nm) M o:=ll (.inl hf) h.ext
 have bB:=GM (nm:=aA s.nm) (M:=M) (o:=o) (h.ok.LI _) (h.ok.LI _)
 obtain⟨r1,r2,r3,r4⟩:=xG h.ok Ad
 unfold dR
 simp only
 rw[Ad.map h.ok]
 cases hr:cE (aA s.nm) o with
 |aW n=>
  rw[hr]at bB
  obtain⟨k1,k2,k3⟩:=bB
  obtain⟨q1,q2⟩:=r1 n hr
  obtain⟨e1,e2,e3,e4⟩:=yJ s n
  have hE:Ext s (s.defs n):=Ext.of_eq e1 e3
  have hv:aA (s.defs n).nm=aA s.nm:=by rw[e1]
  refine h.push hE (h.ok.defs (by rw[k1];omega)) (Form.of_eq (.inl q1) e1 e3) ?_ (fun h=>absurd h q1.kL) ?_ ?_ ?_ k1 ?_ ?_ ?_ ?_
  ·rw[hv]
   intro _ hn
   rw[k1,k2]
   refine Cx cO ?_
   by_cases h8:o.code=8
   ·have:=k3 (.inr h8);rw[this]at hn;exact hn
   ·exact cx h8
  ·unfold fV;rw[if_neg q1.kL,if_neg cO,k1]
  ·unfold fk;rw[if_neg q1.kL,if_neg cO]
  ·rw[hv,←Hq]
   constructor
   ·intro ht;have:=k3 (.inl ht.1);rw[this]at ht;exact ht
   ·intro ht;have:=k3 (.inr ht.1);rw[this];exact ht
  ·rw[hv,←Qe];rcases q2 with rfl|⟨a,b⟩
   ·exact Nat.le_refl _
   ·omega
  ·right
   rw[hv,←Qe];rcases q2 with rfl|⟨a,b⟩
   ·simp[yM]
   ·have:yM (decide (n≠o))≤1:=by unfold yM;split<;>omega
    omega
  ·rw[hv,e4,←Qe];rcases q2 with rfl|⟨a,b⟩
   ·omega
   ·omega
  ·intro _ hx
   have:n=o:=by simpa using hx
   exact⟨this,e3,e1,e2,e4,by rw[←Qe];exact yU (by rw[hr,this])⟩
 |val v=>
  rw[hr]at bB
  obtain⟨k1,k2,k3⟩:=bB
  obtain⟨q1,q2⟩:=r2 v hr
  subst q1
  have hM:M o.res=gQ (aA s.nm) M o:=Cx cO k2
  obtain⟨a1,a2,a3⟩:=qY h.ok (r:=o.res) (v:=0) (by omega) (by omega) (.inl rfl) (k3.symm.trans hM.symm)
  exact h.drop a2 a1 cO (fun ht=>k2 (Hq.2 ht).1 (Hq.2 ht).2) a3 (by rw[←Qe,q2];exact Nat.le_refl _) (by show s.next≤s.next+1;omega)
 |nF n=>
  rw[hr]at bB
  obtain⟨k1,k2,k3⟩:=bB
  have q2:=r3 n hr
  have hM:M o.res=gQ (aA s.nm) M o:=Cx cO k2
  obtain⟨c1,c2,c3,c4,c5,c6,c7,c8⟩:=jc h.ok k1
  obtain⟨a1,a2,a3⟩:=qY c1 (r:=o.res) (v:=(aK s n).1) (by omega) (by omega) (.inr (by rw[c3];rfl)) ((dB c3).trans (k3.symm.trans hM.symm))
  exact h.drop (c2.trans a2) a1 cO (fun ht=>k2 (Hq.2 ht).1 (Hq.2 ht).2) a3 (by rw[←Qe,q2];exact Nat.le_refl _) (by show(aK s n).2.next≤s.next+1;exact c7)
 |Bb o' n=>
  rw[hr]at bB
  obtain⟨k1,k2,k3,k4,k5⟩:=bB
  obtain⟨b,qa,qb,q⟩:=r4 o' n hr
  have hM:M o.res=gQ (aA s.nm) M o:=Cx cO (cx k5)
  obtain⟨c1,c2,c3,c4,c5,c6,c7,c8⟩:=jc h.ok k2
  obtain⟨v,hv⟩:∃v,v=(aK s n).1:=⟨_,rfl⟩
  obtain⟨t,ht⟩:∃t,t=(aK s n).2:=⟨_,rfl⟩
  have h0v:v≠0:=by
   have:=(c1.kw _ _ c3).1
   rw[←hv]at this;omega
  rw[←hv,←ht]at c3
  rw[←ht]at c1 c2 c4 c6 c7
  dsimp only
  rw[←hv,←ht]
  obtain⟨e1,e2,e3,e4⟩:=yJ t {o' with b:=v}
  have hE:Ext s (t.defs {o' with b:=v}):=c2.trans (Ext.of_eq e1 e3)
  have ZZ:({o' with b:=v}:aE).res=o.res:=k1
  have hvn:aA (t.defs {o' with b:=v}).nm=aA t.nm:=by rw[e1]
  have hOp:ix t v:=.inr (by rw[c3];rfl)
  have h0:aA t.nm 0=none:=c1.low (by decide)
  have Wo:o'.a=0:=by
   rcases q with⟨_,rfl,_⟩|⟨rfl,_⟩
   ·rfl
   ·exact qa
  have CT:5≤o'.code∧o'.code≤17∧o'.n=0:=by
   rcases q with⟨_,rfl,_⟩|⟨rfl,k1,k2,_⟩
   ·exact⟨by show(5:Int)≤5;decide,by show(5:Int)≤17;decide,rfl⟩
   ·exact⟨by omega,by omega,Ad.1.2⟩
  have Ux:jC t {o' with b:=v}:=⟨⟨.inr ⟨CT.1,CT.2.1,.inl Wo,hOp,fun h=>h0v h.2⟩,CT.2.2⟩,by show 3≤o'.res∧o'.res≤5;rw[k1];exact iT⟩
  have Qm:gQ (aA t.nm) M {o' with b:=v}=gQ (aA s.nm) M o:=by
   rw[←k3]
   unfold gQ
   simp only
   rw[dB c3,Wo,c2.val (v:=0) (.inl (by decide))]
  have nr:=pQ c1 (o:={o' with b:=v}) CT.1 CT.2.1 Wo c3
  have hwn:(wt (aA t.nm) {o' with b:=v}+yM (decide ({o' with b:=v}≠o))≤wt (aA s.nm) o)∧t.next+(wt (aA t.nm) {o' with b:=v}:Int)≤s.next+(wt (aA s.nm) o:Int)∧(({o' with b:=v}:aE)=o→t=s∧wt (aA s.nm) o=0):=by
   rcases q with⟨q6,rfl,qw⟩|⟨rfl,q1,q2,q3,q4,q5⟩
   ·show(wt (aA t.nm) ⟨5,o.res,0,v,0⟩+yM (decide ((⟨5,o.res,0,v,0⟩:aE)≠o))≤wt (aA s.nm) o)∧t.next+(wt (aA t.nm) ⟨5,o.res,0,v,0⟩:Int)≤s.next+(wt (aA s.nm) o:Int)∧((⟨5,o.res,0,v,0⟩:aE)=o→t=s∧wt (aA s.nm) o=0)
    have nr:cE (aA t.nm) ⟨5,o.res,0,v,0⟩=ei ⟨5,o.res,0,v,0⟩ n:=nr
    have:wt (aA t.nm) ⟨5,o.res,0,v,0⟩≤1:=by
     unfold wt
     rw[nr]
     unfold ei
     rw[if_pos rfl]
     by_cases wZ:n=0
     ·rw[if_pos wZ];exact Nat.le_refl _
     ·rw[if_neg wZ];simp
    have h2:yM (decide ((⟨5,o.res,0,v,0⟩:aE)≠o))≤1:=by unfold yM;split<;>omega
    refine⟨by omega,by omega,fun e=>?_⟩
    have:=congrArg aE.code e
    simp only at this
    omega
   ·have hz:wt (aA t.nm) {o' with b:=v}=0:=by
     unfold wt
     rw[nr]
     unfold ei
     rw[if_neg (by show ¬o'.code=5;omega),if_neg (by show ¬o'.code=6;omega),if_pos (by show o'.code=12∨o'.code=13∨o'.code=14;omega),if_neg (by omega)]
     simp only
     rw[if_neg (by omega),c3,show n%16=n by omega,if_pos rfl]
    rcases q5 with⟨rfl,qw⟩|⟨qn,qw⟩
    ·have dY:=(h.ok.kc n o'.b).2 qb
     have:=c8 _ dY
     rw[this]at hv ht
     simp only at hv ht
     subst hv ht
     rw[hz]
     refine⟨by simp[yM],by omega,fun _=>⟨rfl,rfl⟩⟩
    ·have h2:yM (decide ({o' with b:=v}≠o'))≤1:=by unfold yM;split<;>omega
     refine⟨by omega,by omega,fun e=>?_⟩
     have:=congrArg aE.b e
     simp only at this
     rw[this]at c3
     rw[c2.nm _ _ qb]at c3
     exact absurd (Option.some.inj c3).symm qn
  obtain⟨w1,w2,w3⟩:=hwn
  refine h.push hE (c1.defs (by show o'.res≠0;rw[k1];omega)) (Form.of_eq (.inl Ux) e1 e3) ?_ (fun h=>absurd h Ux.kL) ?_ ?_ ?_ ZZ ?_ ?_ ?_ ?_
  ·rw[hvn]
   intro _ _
   rw[Qm]
   show M o'.res=_
   rw[k1];exact hM
  ·unfold fV;rw[if_neg Ux.kL,if_neg cO];exact k1
  ·unfold fk;rw[if_neg Ux.kL,if_neg cO]
  ·rw[←Hq]
   exact⟨fun ht=>absurd ht.1 k4,fun ht=>absurd ht.1 k5⟩
  ·rw[hvn,←Qe];omega
  ·right;rw[hvn,←Qe];exact w1
  ·rw[hvn,e4,←Qe];exact w2
  ·intro _ hx
   have e:({o' with b:=v}:aE)=o:=by simpa using hx
   obtain⟨rfl,w0⟩:=w3 e
   exact⟨e,e3,e1,e2,e4,by rw[←Qe];exact w0⟩
theorem Q5 (h:PI M U s0 p s d ag) (hf:Form s0 o) (hs:vP (aA s0.nm) M o) (hm:bO s0 o=o) (hu:o.code=25→U o.a):PI M U s0 (p++[o]) (dR (s,d,ag) o).1 (dR (s,d,ag) o).2.1 (dR (s,d,ag) o).2.2:=by
 rcases hf with hf|hf
 ·exact Et h hf hs
 ·exact Me h hf hm (hu hf.1)
end
end
end Go.Proofs.YtjkahfmdcpfjjaaGreat
