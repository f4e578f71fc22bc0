/- The plain part: a graph's maps, and one pass of fold over the operations. -/
set_option linter.unusedVariables false
namespace Go.Proofs.YtjkahfmdcpfjjaaGreat
section
structure aE where
 code:Int
 res:Int
 a:Int
 b:Int
 n:Int
 deriving DecidableEq
def pX (a:Int):Int:=if a<32768 then a else a-65536
def ft (f:BitVec 16→BitVec 16→BitVec 16) (a b:Int):Int:=((f (BitVec.ofInt 16 a) (BitVec.ofInt 16 b)).toNat:Int)
def arith (c a b:Int):Int:=
 if c=5 then(a+b)%65536
 else if c=6 then(a-b)%65536
 else if c=7 then(a*b)%65536
 else if c=8 then a/b
 else if c=9 then ft (·&&&·) a b
 else if c=10 then ft (·|||·) a b
 else if c=11 then ft (·^^^·) a b
 else if c=12 then(a*2^(b%16).toNat)%65536
 else if c=13 then a/2^(b%16).toNat
 else if c=14 then(pX a/2^(b%16).toNat)%65536
 else if c=15 then(if a=b then 1 else 0)
 else if c=16 then(if a<b then 1 else 0)
 else(if pX a<pX b then 1 else 0)
def W (a:Int):Prop:=0≤a∧a<65536
theorem pv (f:BitVec 16→BitVec 16→BitVec 16) (a b:Int):W (ft f a b):=by
 unfold ft W
 have:=(f (BitVec.ofInt 16 a) (BitVec.ofInt 16 b)).isLt
 omega
theorem Y6 (k:Nat) (h:k<16):(1:Int)≤2^k:=by
 have:∀k:Nat,(1:Int)≤2^k:=fun k=>by
  induction k with
  |zero=>decide
  |succ k ih=>rw[Int.pow_succ];omega
 exact this k
variable {a b c x:Int}
theorem qL {m:Int} (h:W a) (hm:1≤m):W (a/m):=by
 unfold W at*
 refine⟨Int.ediv_nonneg h.1 (by omega),?_⟩
 have:=Int.ediv_le_self m h.1
 omega
theorem vJ (a b:Int):arith 5 a b=(a+b)%65536:=rfl
theorem Gn (a b:Int):arith 6 a b=(a-b)%65536:=rfl
theorem vI (a b:Int):arith 7 a b=(a*b)%65536:=rfl
theorem Px (a b:Int):arith 8 a b=a/b:=rfl
theorem sk (a b:Int):arith 9 a b=ft (·&&&·) a b:=rfl
theorem qV (a b:Int):arith 10 a b=ft (·|||·) a b:=rfl
theorem qU (a b:Int):arith 11 a b=ft (·^^^·) a b:=rfl
theorem AO (a b:Int):arith 12 a b=(a*2^(b%16).toNat)%65536:=rfl
theorem AN (a b:Int):arith 13 a b=a/2^(b%16).toNat:=rfl
theorem AK (a b:Int):arith 14 a b=(pX a/2^(b%16).toNat)%65536:=rfl
theorem tD (a b:Int):arith 15 a b=(if a=b then 1 else 0):=rfl
theorem Iy (a b:Int):arith 16 a b=(if a<b then 1 else 0):=rfl
theorem jl (n:Int):W (n%65536):=⟨Int.emod_nonneg _ (by decide),Int.emod_lt_of_pos _ (by decide)⟩
theorem vD (p:Prop) [Decidable p]:W (if p then 1 else 0):=by split<;>exact⟨by decide,by decide⟩
theorem SV (h:17≤c) (a b:Int):arith c a b=(if pX a<pX b then 1 else 0):=by
 unfold arith
 rw[if_neg (by omega),if_neg (by omega),if_neg (by omega),if_neg (by omega),if_neg (by omega),if_neg (by omega),if_neg (by omega),if_neg (by omega),if_neg (by omega),if_neg (by omega),if_neg (by omega),if_neg (by omega)]
theorem vG (ha:W a) (hb:W b) (hc:5≤c) (h8:c=8→b≠0):W (arith c a b):=by
 have eR:c=5∨c=6∨c=7∨c=8∨c=9∨c=10∨c=11∨c=12∨c=13∨c=14∨c=15∨c=16∨17≤c:=by omega
 rcases eR with rfl|rfl|rfl|rfl|rfl|rfl|rfl|rfl|rfl|rfl|rfl|rfl|h
 ·rw[vJ];exact jl _
 ·rw[Gn];exact jl _
 ·rw[vI];exact jl _
 ·rw[Px];exact qL ha (by have:=h8 rfl;unfold W at hb;omega)
 ·rw[sk];exact pv _ _ _
 ·rw[qV];exact pv _ _ _
 ·rw[qU];exact pv _ _ _
 ·rw[AO];exact jl _
 ·rw[AN];exact qL ha (Y6 _ (by omega))
 ·rw[AK];exact jl _
 ·rw[tD];exact vD _
 ·rw[Iy];exact vD _
 ·rw[SV h];exact vD _
theorem lS (h:W a):((BitVec.ofInt 16 a).toNat:Int)=a:=by
 unfold W at h
 simp[BitVec.toNat_ofInt]
 omega
def Comm (c:Int):Prop:=c=5∨c=7∨c=9∨c=10∨c=11∨c=15
instance (c:Int):Decidable (Comm c):=by unfold Comm;infer_instance
theorem pw (h:Comm c):arith c a b=arith c b a:=by
 rcases h with rfl|rfl|rfl|rfl|rfl|rfl
 ·rw[vJ,vJ,Int.add_comm]
 ·rw[vI,vI,Int.mul_comm]
 ·rw[sk,sk,ft,ft,BitVec.and_comm]
 ·rw[qV,qV,ft,ft,BitVec.or_comm]
 ·rw[qU,qU,ft,ft,BitVec.xor_comm]
 ·rw[tD,tD];simp only[eq_comm]
def fj (c a b:Int):Int:=if c=3 then(-a)%65536 else if c=4 then 65535-a else arith c a b
theorem gZ (h:5≤c):fj c a b=arith c a b:=by
 unfold fj
 rw[if_neg (by omega),if_neg (by omega)]
theorem Gu (h:W x):arith 5 x 0=x:=by unfold W at h;simp[arith];omega
theorem En (hb:W b):arith 6 x b=arith 5 x ((-b)%65536):=by unfold W at hb;simp[arith];omega
theorem Ec:arith 6 0 x=fj 3 x 0:=by simp[arith,fj]
theorem Jn (h:W x):arith 7 x 1=x:=by unfold W at h;simp[arith];omega
theorem E2:arith 7 x 0=0:=by simp[arith]
theorem Kx:arith 8 x 1=x:=by simp[arith]
theorem EU:BitVec.ofInt 16 65535=BitVec.allOnes 16:=by decide
theorem Gs (h:W x):arith 9 x 65535=x:=by rw[sk,ft,EU,BitVec.and_allOnes];exact lS h
theorem Gq:arith 9 x 0=0:=by rw[sk,ft,show BitVec.ofInt 16 0=0#16 by decide,BitVec.and_zero];rfl
theorem Jd (h:W x):arith 10 x 0=x:=by rw[qV,ft,show BitVec.ofInt 16 0=0#16 by decide,BitVec.or_zero];exact lS h
theorem Je:arith 10 x 65535=65535:=by rw[qV,ft,EU,BitVec.or_allOnes];decide
theorem Ed (h:W x):arith 11 x 0=x:=by rw[qU,ft,show BitVec.ofInt 16 0=0#16 by decide,BitVec.xor_zero];exact lS h
theorem tJ (h:W x):arith 11 x 65535=fj 4 x 0:=by
 rw[qU,ft,EU,BitVec.xor_allOnes,BitVec.toNat_not]
 have:=lS h
 unfold W at h
 have e:fj 4 x 0=65535-x:=rfl
 rw[e]
 have e2:(2:Nat)^16=65536:=by decide
 omega
theorem xD (h:c=12∨c=13∨c=14):arith c x b=arith c x (b%16):=by
 have:b%16%16=b%16:=by omega
 rcases h with rfl|rfl|rfl<;>simp[arith,this]
theorem Ey (hx:W x) (h:c=12∨c=13∨c=14) (hb:b%16=0):arith c x b=x:=by
 unfold W at hx
 rcases h with rfl|rfl|rfl<;>simp[arith,hb,pX]
 ·omega
 ·split<;>omega
theorem Ex (h:c=12∨c=13∨c=14):arith c 0 b=0:=by
 rcases h with rfl|rfl|rfl<;>simp[arith,pX]
theorem M0 (h:W x):arith 16 x 0=0:=by unfold W at h;simp[arith];omega
end
section
inductive RR where
 |aW (o:aE)
 |val (v:Int)
 |nF (n:Int)
 |Bb (o:aE) (n:Int)
def ei (o:aE) (b:Int):RR:=
 if o.code=5 then(if b=0 then .val o.a else .aW o)
 else if o.code=6 then .Bb ⟨5,o.res,o.a,0,0⟩ ((-b)%65536)
 else if o.code=12∨o.code=13∨o.code=14 then(if b%16=0 then .val o.a else .Bb o (b%16))
 else if o.code=16 then(if b=0 then .nF 0 else .aW o)
 else if o.code=7 then(if b=1 then .val o.a else if b=0 then .nF 0 else .aW o)
 else if o.code=8 then(if b=1 then .val o.a else .aW o)
 else if o.code=9 then(if b=65535 then .val o.a else if b=0 then .nF 0 else .aW o)
 else if o.code=10 then(if b=0 then .val o.a else if b=65535 then .nF 65535 else .aW o)
 else if o.code=11 then(if b=65535 then .aW ⟨4,o.res,o.a,0,0⟩else if b=0 then .val o.a else .aW o)
 else .aW o
def oC (o:aE) (a:Int):RR:=
 if a=0 then
  (if o.code=6 then .aW ⟨3,o.res,o.b,0,0⟩
  else if o.code=12∨o.code=13∨o.code=14 then .nF 0
  else .aW o)
 else .aW o
def cE (nm:Int→Option Int) (o:aE):RR:=
 if o.code=3∨o.code=4 then(match nm o.a with|some a=> .nF (fj o.code a 0)|none=> .aW o)
 else if 5≤o.code∧o.code≤17 then
  (match nm o.a,nm o.b with
  |some a,some b=>if o.code=8∧b=0 then .aW o else .nF (arith o.code a b)
  |some a,none=>if Comm o.code then ei {o with a:=o.b,b:=o.a} a else oC o a
  |none,some b=>ei o b
  |none,none=> .aW o)
 else .aW o
def cj (nm:Int→Option Int) (M:Int→Int) (v:Int):Int:=(nm v).getD (M v)
def pz (c b:Int):Prop:=c=8→b≠0
def gQ (nm:Int→Option Int) (M:Int→Int) (o:aE):Int:=fj o.code (cj nm M o.a) (cj nm M o.b)
def S7 (nm:Int→Option Int) (M:Int→Int) (o:aE):RR→Prop
 | .aW o'=>o'.res=o.res∧gQ nm M o'=gQ nm M o∧((o'.code=8∨o.code=8)→o'=o)
 | .val v=>(v=o.a∨v=o.b)∧pz o.code (cj nm M o.b)∧gQ nm M o=cj nm M v
 | .nF n=>W n∧pz o.code (cj nm M o.b)∧gQ nm M o=n
 | .Bb o' n=>o'.res=o.res∧W n∧fj o'.code (cj nm M o'.a) n=gQ nm M o∧o'.code≠8∧o.code≠8
variable {nm:Int→Option Int} {M:Int→Int}
theorem dB {v n:Int} (h:nm v=some n):cj nm M v=n:=by simp[cj,h]
variable {o:aE}
theorem cL:S7 nm M o (.aW o):=⟨rfl,rfl,fun _=>rfl⟩
variable {a b c:Int}
theorem cx (h:c≠8):pz c b:=fun e=>absurd e h
set_option maxHeartbeats 2000000 in
theorem BG (hc:5≤o.code) (hb:cj nm M o.b=b) (wa:W (cj nm M o.a)) (wb:W b):S7 nm M o (ei o b):=by
 obtain⟨code,res,a,b',n⟩:=o
 simp only at hc hb wa⊢
 have hs:gQ nm M ⟨code,res,a,b',n⟩=arith code (cj nm M a) b:=by simp only[gQ,hb];exact gZ hc
 unfold ei
 simp only
 split
 ·rename_i h;subst h
  split
  ·rename_i h;subst h;exact⟨.inl rfl,cx (show(5:Int)≠8 by decide),by rw[hs];exact Gu wa⟩
  ·exact cL
 split
 ·rename_i h;subst h
  exact⟨rfl,jl _,by rw[hs];exact(gZ (show(5:Int)≤5 by decide)).trans (En wb).symm,(show(5:Int)≠8 by decide),(show(6:Int)≠8 by decide)⟩
 split
 ·rename_i h
  split
  ·rename_i h0
   exact⟨.inl rfl,cx (by show code≠8;omega),by rw[hs];exact Ey wa h h0⟩
  ·exact⟨rfl,⟨by omega,by omega⟩,by rw[hs];exact(gZ hc).trans (xD h).symm,by show code≠8;omega,by show code≠8;omega⟩
 split
 ·rename_i h;subst h
  split
  ·rename_i h;subst h;exact⟨⟨by decide,by decide⟩,cx (show(16:Int)≠8 by decide),by rw[hs];exact M0 wa⟩
  ·exact cL
 split
 ·rename_i h;subst h
  split
  ·rename_i h;subst h;exact⟨.inl rfl,cx (show(7:Int)≠8 by decide),by rw[hs];exact Jn wa⟩
  split
  ·rename_i h;subst h;exact⟨⟨by decide,by decide⟩,cx (show(7:Int)≠8 by decide),by rw[hs];exact E2⟩
  ·exact cL
 split
 ·rename_i h;subst h
  split
  ·rename_i h;subst h;exact⟨.inl rfl,fun _=>by rw[hb];decide,by rw[hs];exact Kx⟩
  ·exact cL
 split
 ·rename_i h;subst h
  split
  ·rename_i h;subst h;exact⟨.inl rfl,cx (show(9:Int)≠8 by decide),by rw[hs];exact Gs wa⟩
  split
  ·rename_i h;subst h;exact⟨⟨by decide,by decide⟩,cx (show(9:Int)≠8 by decide),by rw[hs];exact Gq⟩
  ·exact cL
 split
 ·rename_i h;subst h
  split
  ·rename_i h;subst h;exact⟨.inl rfl,cx (show(10:Int)≠8 by decide),by rw[hs];exact Jd wa⟩
  split
  ·rename_i h;subst h;exact⟨⟨by decide,by decide⟩,cx (show(10:Int)≠8 by decide),by rw[hs];exact Je⟩
  ·exact cL
 split
 ·rename_i h;subst h
  split
  ·rename_i h;subst h
   refine⟨rfl,?_,fun h=>h.elim (fun h=>absurd h (show ¬((4:Int)=8) by decide)) (fun h=>absurd h (show ¬((11:Int)=8) by decide))⟩
   rw[hs]
   simp only[gQ]
   rw[show fj 4 (cj nm M a) (cj nm M 0)=fj 4 (cj nm M a) 0 from rfl]
   exact(tJ wa).symm
  split
  ·rename_i h;subst h;exact⟨.inl rfl,cx (show(11:Int)≠8 by decide),by rw[hs];exact Ed wa⟩
  ·exact cL
 ·exact cL
theorem RP (hc:5≤o.code) (ha:cj nm M o.a=a):S7 nm M o (oC o a):=by
 obtain⟨code,res,a',b',n⟩:=o
 simp only at hc ha⊢
 have hs:gQ nm M ⟨code,res,a',b',n⟩=arith code a (cj nm M b'):=by simp only[gQ,ha];exact gZ hc
 unfold oC
 simp only
 split
 ·rename_i h0;subst h0
  split
  ·rename_i h;subst h
   refine⟨rfl,?_,fun h=>h.elim (fun h=>absurd h (show ¬((3:Int)=8) by decide)) (fun h=>absurd h (show ¬((6:Int)=8) by decide))⟩
   rw[hs]
   exact Ec.symm
  split
  ·rename_i h
   exact⟨⟨by decide,by decide⟩,cx (by show code≠8;omega),by rw[hs];exact Ex h⟩
  ·exact cL
 ·exact cL
theorem ML (ha:W a) (h:c=3∨c=4):W (fj c a 0):=by
 unfold W at*
 rcases h with rfl|rfl
 ·exact jl _
 ·show 0≤65535-a∧65535-a<65536;omega
theorem GM (wa:W (cj nm M o.a)) (wb:W (cj nm M o.b)):S7 nm M o (cE nm o):=by
 unfold cE
 split
 ·rename_i h
  cases ha:nm o.a with
  |none=>exact cL
  |some a=>
   have e:=dB (M:=M) ha
   rw[e]at wa
   refine⟨ML wa h,cx (by omega),?_⟩
   simp only[gQ,e]
   rcases h with h|h<;>rw[h]<;>rfl
 split
 ·rename_i h0 h
  have hc:5≤o.code:=h.1
  cases ha:nm o.a with
  |none=>
   cases hb:nm o.b with
   |none=>exact cL
   |some b=>have e:=dB (M:=M) hb;exact BG hc e wa (e▸wb)
  |some a=>
   have e:=dB (M:=M) ha
   cases hb:nm o.b with
   |none=>
    simp only
    split
    ·rename_i dY
     have:=BG (nm:=nm) (M:=M) (o:={o with a:=o.b,b:=o.a}) (b:=a) hc e wb (e▸wa)
     have hs:gQ nm M {o with a:=o.b,b:=o.a}=gQ nm M o:=by
      simp only[gQ]
      rw[gZ hc,gZ hc]
      exact pw dY
     have h8:o.code≠8:=by unfold Comm at dY;omega
     revert this
     cases ei {o with a:=o.b,b:=o.a} a with
     |aW o'=>rintro⟨h1,h2,h3⟩;exact⟨h1,h2.trans hs,fun h=>by
      rcases h with h|h
      ·exact absurd (by have:=h3 (.inl h);rw[this]at h;exact h) h8
      ·exact absurd h h8⟩
     |val v=>rintro⟨h1,h2,h3⟩;exact⟨h1.symm,cx h8,hs▸h3⟩
     |nF n=>rintro⟨h1,h2,h3⟩;exact⟨h1,cx h8,hs▸h3⟩
     |Bb o' n=>rintro⟨h1,h2,h3,h4,h5⟩;exact⟨h1,h2,h3.trans hs,h4,h5⟩
    ·exact RP hc e
   |some b=>
    have e2:=dB (M:=M) hb
    simp only
    split
    ·exact cL
    ·rename_i h8
     have hn:pz o.code (cj nm M o.b):=fun h=>by rw[e2];intro pq;exact h8 ⟨h,pq⟩
     refine⟨vG (e▸wa) (e2▸wb) hc (fun h pq=>h8 ⟨h,pq⟩),hn,?_⟩
     simp only[gQ,e,e2]
     exact gZ hc
 ·exact cL
end
section
section
variable {β : Type}
def aA (l:List (Int×β)) (k:Int):Option β:=(l.find? fun p=>p.1==k).map (·.2)
def dj:List (Int×β)→Int→β→List (Int×β)
 |[],k,v=>[(k,v)]
 |p::l,k,v=>if p.1==k then(k,v)::l else p::dj l k v
theorem cQ (l:List (Int×β)) (k k':Int) (v:β):aA (dj l k v) k'=if k'=k then some v else aA l k':=by
 induction l with
 |nil=>
  by_cases h:k'=k
  ·subst h;simp[dj,aA]
  ·have h2:¬k=k':=fun e=>h e.symm
   simp[dj,aA,h,h2]
 |cons p l ih=>
  unfold dj
  by_cases hp:p.1=k
  ·rw[if_pos (by simpa using hp)]
   by_cases h:k'=k
   ·subst h;simp[aA]
   ·have h2:¬k=k':=fun e=>h e.symm
    have h3:¬p.1=k':=by rw[hp];exact h2
    simp[aA,h,h2,h3]
  ·rw[if_neg (by simpa using hp)]
   by_cases h3:p.1=k'
   ·have:¬k'=k:=by rw[←h3];exact hp
    simp[aA,h3,this]
   ·have:aA (p::dj l k v) k'=aA (dj l k v) k':=by simp[aA,h3]
    rw[this,ih]
    simp[aA,h3]
variable {k v:Int}
theorem Ow {l:List (Int×β)} {v:β} (h:aA l k=some v):(k,v)∈l:=by
 unfold aA at h
 obtain⟨p,hp,rfl⟩:=Option.map_eq_some_iff.1 h
 have h1:=List.mem_of_find?_eq_some hp
 have h2:=List.find?_some hp
 have:p.1=k:=by simpa using h2
 rw[←this];exact h1
theorem Kc {l:List (Int×β)} (h:∀p∈l,p.1≠k):aA l k=none:=by
 unfold aA
 rw[List.find?_eq_none.2 (fun p hp=>by simpa using h p hp)]
 rfl
theorem RL {l:List (Int×β)} {v:β} {p:Int×β} (h:p∈dj l k v):p∈l∨p=(k,v):=by
 induction l with
 |nil=>simp[dj]at h;exact .inr h
 |cons q l ih=>
  unfold dj at h
  split at h
  ·rcases List.mem_cons.1 h with h|h
   ·exact .inr h
   ·exact .inl (List.mem_cons_of_mem _ h)
  ·rcases List.mem_cons.1 h with h|h
   ·exact .inl (h▸List.mem_cons_self ..)
   ·rcases ih h with h|h
    ·exact .inl (List.mem_cons_of_mem _ h)
    ·exact .inr h
end
structure St where
 next:Int
 al:List (Int×Int)
 df:List (Int×aE)
 nm:List (Int×Int)
 cm:List (Int×Int)
def aK (s:St) (n:Int):Int×St:=
 match aA s.cm n with
 |some v=>(v,s)
 |none=>(s.next,{s with next:=s.next+1,cm:=dj s.cm n s.next,nm:=dj s.nm s.next n})
def bu (s:St) (v:Int):Int:=(aA s.al v).getD v
def aZ (c:Int):Bool:=c==3||c==4||(decide (5≤c)&&decide (c≤17))||c==25
def bc (c:Int):Bool:=decide (5≤c)&&decide (c≤17)
def bO (s:St) (o:aE):aE:={o with a:=if aZ o.code then bu s o.a else o.a,b:=if bc o.code then bu s o.b else o.b}
def St.alias (s:St) (r v:Int):St:={s with al:=dj s.al r v}
def St.defs (s:St) (o:aE):St:=if 0≤o.res then{s with df:=dj s.df o.res o}else s
def dR (acc:St×List aE×Bool) (o:aE):St×List aE×Bool:=
 match cE (aA acc.1.nm) (bO acc.1 o)with
 | .aW n=>(acc.1.defs n,acc.2.1++[n],acc.2.2||decide (n≠o))
 | .val v=>(acc.1.alias o.res v,acc.2.1,true)
 | .nF k=>((aK acc.1 k).2.alias o.res (aK acc.1 k).1,acc.2.1,true)
 | .Bb o' k=>((aK acc.1 k).2.defs {o' with b:=(aK acc.1 k).1},acc.2.1++[{o' with b:=(aK acc.1 k).1}],acc.2.2||decide ({o' with b:=(aK acc.1 k).1}≠o))
structure cB (M:Int→Int) (s:St):Prop where
 kc:∀n v,aA s.cm n=some v↔aA s.nm v=some n
 kw:∀v n,aA s.nm v=some n→6≤v∧v<s.next∧W n
 nx:6≤s.next
 al:∀v u,aA s.al v=some u→1≤v∧v≤5∧(u=0∨(aA s.nm u).isSome)∧cj (aA s.nm) M u=M v
 df:∀p∈s.df,0<p.1
 w:∀v,W (M v)
def ix (s:St) (v:Int):Prop:=v=0∨(aA s.nm v).isSome
structure Ext (s s':St):Prop where
 nm:∀v n,aA s.nm v=some n→aA s'.nm v=some n
 old:∀v,v<6→aA s'.nm v=aA s.nm v
 al:∀v u,aA s.al v=some u→(aA s'.al v).isSome
theorem Ext.refl (s:St):Ext s s:=⟨fun _ _ h=>h,fun _ _=>rfl,fun _ _ h=>by rw[h];rfl⟩
theorem Ext.trans {s s' s'':St} (h:Ext s s') (h':Ext s' s''):Ext s s'':=⟨fun v n e=>h'.nm v n (h.nm v n e),fun v hv=>(h'.old v hv).trans (h.old v hv),fun v u e=>by
 obtain⟨u',hu⟩:=Option.isSome_iff_exists.1 (h.al v u e)
 exact h'.al v u' hu⟩
section
variable {M : Int → Int} {s s' : St}
theorem cB.LI (h:cB M s) (v:Int):W (cj (aA s.nm) M v):=by
 unfold cj
 cases hn:aA s.nm v with
 |none=>exact h.w v
 |some n=>exact(h.kw v n hn).2.2
variable {k v:Int}
theorem cB.low (h:cB M s) (hv:v<6):aA s.nm v=none:=by
 cases hn:aA s.nm v with
 |none=>rfl
 |some n=>have:=(h.kw v n hn).1;omega
theorem Ext.ix (h:Ext s s') (hv:ix s v):ix s' v:=by
 rcases hv with h0|h1
 ·exact .inl h0
 ·obtain⟨n,hn⟩:=Option.isSome_iff_exists.1 h1
  exact .inr (by rw[h.nm v n hn];rfl)
theorem Ext.get (h:Ext s s') (hv:v<6∨(aA s.nm v).isSome):aA s'.nm v=aA s.nm v:=by
 rcases hv with h0|h1
 ·exact h.old v h0
 ·obtain⟨n,hn⟩:=Option.isSome_iff_exists.1 h1
  rw[h.nm v n hn,hn]
theorem ix.lt (h:ix s v):v<6∨(aA s.nm v).isSome:=by
 rcases h with rfl|h
 ·exact .inl (by decide)
 ·exact .inr h
theorem Ext.val (h:Ext s s') (hv:v<6∨(aA s.nm v).isSome):cj (aA s'.nm) M v=cj (aA s.nm) M v:=by
 unfold cj;rw[h.get hv]
theorem jc (h:cB M s) {n:Int} (hn:W n):cB M (aK s n).2∧Ext s (aK s n).2∧aA (aK s n).2.nm (aK s n).1=some n∧(aK s n).2.al=s.al∧(aK s n).2.df=s.df∧s.next≤(aK s n).2.next∧(aK s n).2.next≤s.next+1∧(∀v,aA s.cm n=some v→aK s n=(v,s)):=by
 unfold aK
 cases hc:aA s.cm n with
 |some v=>exact⟨h,Ext.refl s,(h.kc n v).1 hc,rfl,rfl,Int.le_refl _,(by show s.next≤s.next+1;omega),fun u hu=>by cases hu;rfl⟩
 |none=>
  have qC:aA s.nm s.next=none:=by
   cases hx:aA s.nm s.next with
   |none=>rfl
   |some m=>have:=(h.kw _ _ hx).2.1;omega
  have dQ:=h.nx
  refine⟨⟨?_,?_,by show 6≤s.next+1;omega,?_,h.df,h.w⟩,⟨?_,?_,fun v u e=>by rw[show aA s.al v=some u from e];rfl⟩,by simp[cQ],rfl,rfl,by show s.next≤s.next+1;omega,by show s.next+1≤s.next+1;omega,fun v hv=>by cases hv⟩
  ·intro m v
   show aA (dj s.cm n s.next) m=some v↔aA (dj s.nm s.next n) v=some m
   rw[cQ,cQ]
   by_cases hm:m=n
   ·subst hm
    rw[if_pos rfl]
    by_cases hv:v=s.next
    ·subst hv;simp
    ·rw[if_neg hv]
     constructor
     ·intro e;cases e;exact absurd rfl hv
     ·intro e;have:=(h.kc m v).2 e;rw[hc]at this;cases this
   ·rw[if_neg hm]
    by_cases hv:v=s.next
    ·subst hv
     rw[if_pos rfl]
     constructor
     ·intro e;have:=(h.kc m s.next).1 e;rw[qC]at this;cases this
     ·intro e;cases e;exact absurd rfl hm
    ·rw[if_neg hv];exact h.kc m v
  ·intro v m e
   have e':aA (dj s.nm s.next n) v=some m:=e
   rw[cQ]at e'
   show 6≤v∧v<s.next+1∧W m
   split at e'
   ·rename_i hv;cases e';subst hv;exact⟨dQ,by omega,hn⟩
   ·obtain⟨a,b,c⟩:=h.kw v m e';exact⟨a,by omega,c⟩
  ·intro v u e
   obtain⟨a,b,c,d⟩:=h.al v u e
   have hu:u≠s.next:=by
    rcases c with rfl|c
    ·omega
    ·rintro rfl;rw[qC]at c;cases c
   refine⟨a,b,?_,?_⟩
   ·rcases c with c|c
    ·exact .inl c
    ·exact .inr (by show(aA (dj s.nm s.next n) u).isSome=true;rw[cQ,if_neg hu];exact c)
   ·show cj (aA (dj s.nm s.next n)) M u=M v
    unfold cj
    rw[cQ,if_neg hu]
    exact d
  ·intro v m e
   show aA (dj s.nm s.next n) v=some m
   rw[cQ]
   split
   ·rename_i hv;subst hv;rw[qC]at e;cases e
   ·exact e
  ·intro v hv
   show aA (dj s.nm s.next n) v=aA s.nm v
   rw[cQ,if_neg (by omega)]
end
end
end Go.Proofs.YtjkahfmdcpfjjaaGreat
