/- The reference: an operation of a normal function. -/
import Derived.Test.YtjkahfmdcpfjjaaGreatCO
set_option linter.unusedVariables false
namespace Go.Proofs.YtjkahfmdcpfjjaaGreat
open Go.RowKit
set_option maxRecDepth 100000
set_option maxHeartbeats 8000000
theorem jY (l:List aE) (v:Int):cd l v=⟨0,0,0,0,0⟩∨∃r a b n,cd l v=⟨1,r,a,b,n⟩:=by
 unfold cd
 cases h:(l.find? fun o=>o.code==1&&o.res==v)with
 |none=>exact .inl rfl
 |some o=>
  have:=List.find?_some h
  simp at this
  obtain⟨c,r,a,b,n⟩:=o
  simp at this
  exact .inr ⟨r,a,b,n,by simp[this.1]⟩
def iZ (l:List aE) (v:Int):Prop:=(cd l v).code=1
def lp (l:List aE) (o:aE):Prop:=(o.code≤17∧o.code≠8)∨(o.code=8∧iZ l o.b∧(cd l o.b).n≠0)
structure vQ (l:List aE) (us:List Int) (o:aE):Prop where
 used:lp l o→o.res∈us
 one:o.code=3∨o.code=4→¬iZ l o.a
 two:lp l o→5≤o.code→o.code≤17→¬(iZ l o.a∧iZ l o.b)
 com:Comm o.code→¬iZ l o.a∧(iZ l o.b∨o.a≤o.b)
theorem wR {us:List Int} (w:World) (g cg:Nat) (Pp:Option Addr) (pc:Nat) (A:Option Addr) (n c:Nat) (T:Option Addr) (tc:Nat) (l:List aE) (ret:Int) (h:fe w g Pp pc A n c T tc l ret) (hn:n≤40) (o:aE) (hf:eZ o) (lG:vQ l us o) (U M:Nat) (hU:lj w U M us) (hM:o.res<(M:Int)):
 Calls Tryz.prog 59 #[.agg #[.slice (ad g) 1 cg],OV o,.slice (ad U) M M] w (fun e w'=>e=.returned (.bool true)∧ak w.heap.size w w'):=by
 obtain⟨S,hS⟩:∃S,w.heap.size=S:=⟨_,rfl⟩
 obtain⟨a1,s1,u1⟩:=av (.cells #[.slice (ad g) 1 cg] 40) hS
 obtain⟨a2,s2,u2⟩:=av (OC o) s1
 have b1:=u2 _ _ a1
 have l2:ak w.heap.size w ((w.alloc (.cells #[.slice (ad g) 1 cg] 40)).alloc (OC o)):=(F0).alloc (by simp) _
 have H:=cf (h.low l2);have HU:=cf (hU.low l2)
 have ja:=dC ((w.alloc (.cells #[.slice (ad g) 1 cg] 40)).alloc (OC o)) o.code hf.1
 clear h hU a1 u1 u2 s1
 go_enter Tryz.func59,Tryz.ntmps59
 go_upto_region 1 with fail
 have iW:=cf hS
 obtain⟨t4,uR⟩:∃t,t=S+1:=⟨_,rfl⟩
 rw[←uR]at a2⊢
 have L2:=cf l2
 clear hS uR s2 l2
 generalize(w.alloc (.cells #[.slice (ad g) 1 cg] 40)).alloc (OC o)=w2 at a2 b1 ja L2 H HU⊢
 have x0:=bf a2
 have A2:=cf a2;have B1:=cf b1
 have an6:¬o.code=26:=by rcases fF hf.1 with⟨k,_⟩|⟨k,_⟩|⟨k,k',_⟩|⟨k,_⟩<;>omega
 clear a2 b1
 go_upto_region 4 with(first
  |(go_at_call 65;refine ja.mono ?_;rintro e w3 ⟨rfl,l3⟩))
 clear x0 ja an6
 have l4:ak w3.heap.size w3 (w3.alloc (.cells #[.bool true,.bool (bR o.code),.bool (aZ o.code),.bool (bc o.code),.bool (iB o.code)] 102)):=F0
 have f4:=ao w3 (.cells #[.bool true,.bool (bR o.code),.bool (aZ o.code),.bool (bc o.code),.bool (iB o.code)] 102)
 have yh:=l3.trans (l4.mono l3.size)
 have a4:=yh.some A2.out;have b4:=yh.some B1.out
 have L4:=cf (L2.out.trans (yh.mono L2.out.size))
 have H4:=cf (H.out.low yh);have HU4:=cf (HU.out.low yh)
 obtain⟨t7,oJ⟩:∃t,t=w3.heap.size:=⟨_,rfl⟩
 rw[←oJ]at f4⊢
 clear l3 l4 yh oJ A2 B1 L2 H HU
 generalize w3.alloc (.cells #[.bool true,.bool (bR o.code),.bool (aZ o.code),.bool (bc o.code),.bool (iB o.code)] 102)=w4 at f4 a4 b4 L4 H4 HU4⊢
 have HF:Hid (∀w',ak w4.heap.size w4 w'→w'.cell? ⟨S,0,none⟩=some (.slice (ad g) 1 cg)∧(iF w' t4 o)∧(w'.cell? ⟨t7,2,none⟩=some (.bool (aZ o.code))∧w'.cell? ⟨t7,3,none⟩=some (.bool (bc o.code)))):=cf fun w' hl=>⟨Yc (hl.some b4),⟨Yc (hl.some a4),Yc (hl.some a4),Yc (hl.some a4),Yc (hl.some a4),Yc (hl.some a4),Yc (hl.some a4)⟩,Yc (hl.some f4),Yc (hl.some f4)⟩
 clear f4 a4 b4
 obtain⟨z0,⟨x0,x1,x2,x3,x4,x5⟩,y2,y3⟩:=HF.out w4 (ak.refl _ _)
 have k4:ak w4.heap.size w4 w4:=ak.refl _ _
 have HC:Hid (∀(w':World) (v c0 r0 a0 b0 n0:Int),ak w4.heap.size w4 w'→cd l v=⟨c0,r0,a0,b0,n0⟩→Calls Tryz.prog 135 #[.agg #[.slice (ad g) 1 cg],G v] w' (fun e rh=>e=.returned (.agg #[G c0,G r0,G a0,G b0,.int .u16 n0,Zs])∧ak w'.heap.size w' rh)):=cf fun w' v c0 r0 a0 b0 n0 hl hx=>Au w' g cg Pp pc A n c T tc l ret (H4.out.low hl) hn v _ hx
 have HP:Hid (∀w',ak w4.heap.size w4 w'→Calls Tryz.prog 136 #[OV o] w' (fun e rh=>e=.returned (.bool (decide (o.code≤17∧o.code≠8)))∧ak w'.heap.size w' rh)):=cf fun w' hl=>MB w' o hf.1
 have UU:Hid (lp l o→bR o.code=true→∀w',ak w4.heap.size w4 w'→∃k:Nat,0<k∧0≤o.res∧w'.cell? ⟨U,o.res.toNat,none⟩=some (G k)):=cf fun hp hr w' hl=>by
  have h0:=hf.2.1 hr
  obtain⟨cs,e1,e2,e3⟩:=HU4.out.low hl
  obtain⟨k,q1,q2,q3⟩:=e3 o.res.toNat (by omega)
  refine⟨k,q3 ?_,h0,(Yc e1).trans q1⟩
  rw[show((o.res.toNat:Nat):Int)=o.res by omega]
  exact lG.used hp
 have Tg:=cf lG;have HFM:=cf hf
 have dY:∀u:World,Calls Tryz.prog 133 #[G o.code] u (fun e w'=>e=.returned (.bool (decide (Comm o.code)))∧w'=u):=fun u=>Ax u o.code hf.1
 have hf0:∀(u:World) (c0 r0 a0 b0 n0:Int),(Instr.field 67 (.agg #[G c0,G r0,G a0,G b0,.int .u16 n0,Zs]) 0).run Tryz.prog u=.ok (G c0) u:=fun u c0 r0 a0 b0 n0=>by kernel_rfl
 have hf4:∀(u:World) (c0 r0 a0 b0 n0:Int),(Instr.field 67 (.agg #[G c0,G r0,G a0,G b0,.int .u16 n0,Zs]) 4).run Tryz.prog u=.ok (.int .u16 n0) u:=fun u c0 r0 a0 b0 n0=>by kernel_rfl
 have wj:=fF hf.1
 clear lG hf
 rcases wj with⟨k0,k1,k2,k3,k5⟩|⟨k0,k1,k2,k3,k5⟩|⟨k0,k0',k1,k2,k3,k5⟩|⟨k0,k1,k2,k3,k5⟩
 ·rw[k2]at y2;rw[k3]at y3
  have mr:lp l o:=.inl (by omega)
  have JO:decide (o.code≤17∧o.code≠8)=true:=by rw[decide_eq_true_eq];omega
  rw[JO]at HP
  have d1:decide (o.code=1)=true:=by simpa using k0
  have d1x:(o.code==1)=true:=by simpa using k0
  clear k0
  go_wp2_with(first
   |(go_at_call 136;(with_reducible refine(HP.out w4 k4).mono ?_);rintro e w5 ⟨rfl,l5⟩;have k5:=k4.trans (l5.mono k4.size);clear z0 x0 x1 x2 x3 x4 x5 y2 y3;obtain⟨z0,⟨x0,x1,x2,x3,x4,x5⟩,y2,y3⟩:=HF.out w5 k5;rw[k2]at y2;rw[k3]at y3;obtain⟨kk,sS,nt,u0⟩:=UU.out mr k1 w5 k5;have JV:¬(kk:Int)=0:=(by omega);have Wf:=hM))
  go_ret
  exact⟨rfl,L4.out.trans (k5.mono L4.out.size)⟩
 ·rw[k2]at y2;rw[k3]at y3
  have mr:lp l o:=.inl (by omega)
  have JO:decide (o.code≤17∧o.code≠8)=true:=by rw[decide_eq_true_eq];omega
  rw[JO]at HP
  have e1:¬o.code=1:=by omega
  have e2:¬o.code=2:=by omega
  have e1d:decide (o.code=1)=false:=by simpa using e1
  have e1x:(o.code==1)=false:=by simpa using e1
  have e2d:decide (o.code=2)=false:=by simpa using e2
  have e2x:(o.code==2)=false:=by simpa using e2
  have Qw:decide (Comm o.code)=false:=by rw[decide_eq_false_iff_not];unfold Comm;omega
  rw[Qw]at dY
  have hx:cd l o.a=⟨0,0,0,0,0⟩:=by
   rcases jY l o.a with h|⟨r,a,b,n,h⟩
   ·exact h
   ·exact absurd (show iZ l o.a by unfold iZ;rw[h]) (Tg.out.one k0)
  clear k0
  go_wp2_with(first
   |(go_at_call 135;(with_reducible refine(HC.out w4 o.a _ _ _ _ _ k4 hx).mono ?_);rintro e w5 ⟨rfl,l5⟩;have k5:=k4.trans (l5.mono k4.size);clear z0 x0 x1 x2 x3 x4 x5 y2 y3;obtain⟨z0,⟨x0,x1,x2,x3,x4,x5⟩,y2,y3⟩:=HF.out w5 k5;rw[k2]at y2;rw[k3]at y3)
   |(go_at_call 136;(with_reducible refine(HP.out w5 k5).mono ?_);rintro e w6 ⟨rfl,l6⟩;have k6:=k5.trans (l6.mono k5.size);clear z0 x0 x1 x2 x3 x4 x5 y2 y3;obtain⟨z0,⟨x0,x1,x2,x3,x4,x5⟩,y2,y3⟩:=HF.out w6 k6;rw[k2]at y2;rw[k3]at y3;obtain⟨kk,sS,nt,u0⟩:=UU.out mr k1 w6 k6;have JV:¬(kk:Int)=0:=(by omega);have Wf:=hM)
   |(go_at_call 133;(with_reducible refine(dY _).mono ?_);rintro e w9 ⟨rfl,rfl⟩))
  go_ret
  exact⟨rfl,L4.out.trans (k6.mono L4.out.size)⟩
 ·rw[k2]at y2;rw[k3]at y3
  have e1:¬o.code=1:=by omega
  have e2:¬o.code=2:=by omega
  have e1d:decide (o.code=1)=false:=by simpa using e1
  have e1x:(o.code==1)=false:=by simpa using e1
  have e2d:decide (o.code=2)=false:=by simpa using e2
  have e2x:(o.code==2)=false:=by simpa using e2
  have ha:=jY l o.a
  have hb:=jY l o.b
  by_cases h8:o.code=8
  ·have JO:decide (o.code≤17∧o.code≠8)=false:=by rw[decide_eq_false_iff_not];omega
   rw[JO]at HP
   have Qw:decide (Comm o.code)=false:=by rw[decide_eq_false_iff_not];unfold Comm;omega
   rw[Qw]at dY
   have d8:decide (o.code=8)=true:=by simpa using h8
   have d8x:(o.code==8)=true:=by simpa using h8
   rcases hb with hb|⟨br,ba,bb,bn,hb⟩
   ·rcases ha with ha|⟨ar,aa,ab,an,ha⟩
    ·clear h8
     go_wp2_with(first
      |(go_at_call 135;(with_reducible refine(HC.out w4 o.a _ _ _ _ _ k4 ha).mono ?_);rintro e w5 ⟨rfl,l5⟩;have k5:=k4.trans (l5.mono k4.size);clear z0 x0 x1 x2 x3 x4 x5 y2 y3;obtain⟨z0,⟨x0,x1,x2,x3,x4,x5⟩,y2,y3⟩:=HF.out w5 k5;rw[k2]at y2;rw[k3]at y3)
      |(go_at_call 135;(with_reducible refine(HC.out w5 o.b _ _ _ _ _ k5 hb).mono ?_);rintro e w6 ⟨rfl,l6⟩;have k6:=k5.trans (l6.mono k5.size);clear z0 x0 x1 x2 x3 x4 x5 y2 y3;obtain⟨z0,⟨x0,x1,x2,x3,x4,x5⟩,y2,y3⟩:=HF.out w6 k6;rw[k2]at y2;rw[k3]at y3)
      |(go_at_call 136;(with_reducible refine(HP.out w6 k6).mono ?_);rintro e w7 ⟨rfl,l7⟩;have k7:=k6.trans (l7.mono k6.size);clear z0 x0 x1 x2 x3 x4 x5 y2 y3;obtain⟨z0,⟨x0,x1,x2,x3,x4,x5⟩,y2,y3⟩:=HF.out w7 k7;rw[k2]at y2;rw[k3]at y3))
     go_ret
     exact⟨rfl,L4.out.trans (k7.mono L4.out.size)⟩
    ·clear h8
     go_wp2_with(first
      |(go_at_call 135;(with_reducible refine(HC.out w4 o.a _ _ _ _ _ k4 ha).mono ?_);rintro e w5 ⟨rfl,l5⟩;have k5:=k4.trans (l5.mono k4.size);clear z0 x0 x1 x2 x3 x4 x5 y2 y3;obtain⟨z0,⟨x0,x1,x2,x3,x4,x5⟩,y2,y3⟩:=HF.out w5 k5;rw[k2]at y2;rw[k3]at y3)
      |(go_at_call 135;(with_reducible refine(HC.out w5 o.b _ _ _ _ _ k5 hb).mono ?_);rintro e w6 ⟨rfl,l6⟩;have k6:=k5.trans (l6.mono k5.size);clear z0 x0 x1 x2 x3 x4 x5 y2 y3;obtain⟨z0,⟨x0,x1,x2,x3,x4,x5⟩,y2,y3⟩:=HF.out w6 k6;rw[k2]at y2;rw[k3]at y3)
      |(go_at_call 136;(with_reducible refine(HP.out w6 k6).mono ?_);rintro e w7 ⟨rfl,l7⟩;have k7:=k6.trans (l7.mono k6.size);clear z0 x0 x1 x2 x3 x4 x5 y2 y3;obtain⟨z0,⟨x0,x1,x2,x3,x4,x5⟩,y2,y3⟩:=HF.out w7 k7;rw[k2]at y2;rw[k3]at y3))
     go_ret
     exact⟨rfl,L4.out.trans (k7.mono L4.out.size)⟩
   ·by_cases wZ:bn=0
    ·rcases ha with ha|⟨ar,aa,ab,an,ha⟩
     ·subst wZ
      clear h8
      go_wp2_with(first
       |(go_at_call 135;(with_reducible refine(HC.out w4 o.a _ _ _ _ _ k4 ha).mono ?_);rintro e w5 ⟨rfl,l5⟩;have k5:=k4.trans (l5.mono k4.size);clear z0 x0 x1 x2 x3 x4 x5 y2 y3;obtain⟨z0,⟨x0,x1,x2,x3,x4,x5⟩,y2,y3⟩:=HF.out w5 k5;rw[k2]at y2;rw[k3]at y3)
       |(go_at_call 135;(with_reducible refine(HC.out w5 o.b _ _ _ _ _ k5 hb).mono ?_);rintro e w6 ⟨rfl,l6⟩;have k6:=k5.trans (l6.mono k5.size);clear z0 x0 x1 x2 x3 x4 x5 y2 y3;obtain⟨z0,⟨x0,x1,x2,x3,x4,x5⟩,y2,y3⟩:=HF.out w6 k6;rw[k2]at y2;rw[k3]at y3)
       |(go_at_call 136;(with_reducible refine(HP.out w6 k6).mono ?_);rintro e w7 ⟨rfl,l7⟩;have k7:=k6.trans (l7.mono k6.size);clear z0 x0 x1 x2 x3 x4 x5 y2 y3;obtain⟨z0,⟨x0,x1,x2,x3,x4,x5⟩,y2,y3⟩:=HF.out w7 k7;rw[k2]at y2;rw[k3]at y3)
       |(go_at_call 135;(with_reducible refine(HC.out w7 o.b _ _ _ _ _ k7 hb).mono ?_);rintro e w8 ⟨rfl,l8⟩;have k8:=k7.trans (l8.mono k7.size);clear z0 x0 x1 x2 x3 x4 x5 y2 y3;obtain⟨z0,⟨x0,x1,x2,x3,x4,x5⟩,y2,y3⟩:=HF.out w8 k8;rw[k2]at y2;rw[k3]at y3))
      go_ret
      exact⟨rfl,L4.out.trans (k8.mono L4.out.size)⟩
     ·subst wZ
      clear h8
      go_wp2_with(first
       |(go_at_call 135;(with_reducible refine(HC.out w4 o.a _ _ _ _ _ k4 ha).mono ?_);rintro e w5 ⟨rfl,l5⟩;have k5:=k4.trans (l5.mono k4.size);clear z0 x0 x1 x2 x3 x4 x5 y2 y3;obtain⟨z0,⟨x0,x1,x2,x3,x4,x5⟩,y2,y3⟩:=HF.out w5 k5;rw[k2]at y2;rw[k3]at y3)
       |(go_at_call 135;(with_reducible refine(HC.out w5 o.b _ _ _ _ _ k5 hb).mono ?_);rintro e w6 ⟨rfl,l6⟩;have k6:=k5.trans (l6.mono k5.size);clear z0 x0 x1 x2 x3 x4 x5 y2 y3;obtain⟨z0,⟨x0,x1,x2,x3,x4,x5⟩,y2,y3⟩:=HF.out w6 k6;rw[k2]at y2;rw[k3]at y3)
       |(go_at_call 136;(with_reducible refine(HP.out w6 k6).mono ?_);rintro e w7 ⟨rfl,l7⟩;have k7:=k6.trans (l7.mono k6.size);clear z0 x0 x1 x2 x3 x4 x5 y2 y3;obtain⟨z0,⟨x0,x1,x2,x3,x4,x5⟩,y2,y3⟩:=HF.out w7 k7;rw[k2]at y2;rw[k3]at y3)
       |(go_at_call 135;(with_reducible refine(HC.out w7 o.b _ _ _ _ _ k7 hb).mono ?_);rintro e w8 ⟨rfl,l8⟩;have k8:=k7.trans (l8.mono k7.size);clear z0 x0 x1 x2 x3 x4 x5 y2 y3;obtain⟨z0,⟨x0,x1,x2,x3,x4,x5⟩,y2,y3⟩:=HF.out w8 k8;rw[k2]at y2;rw[k3]at y3))
      go_ret
      exact⟨rfl,L4.out.trans (k8.mono L4.out.size)⟩
    ·have mr:lp l o:=.inr ⟨h8,by unfold iZ;rw[hb],by rw[hb];exact wZ⟩
     have hx:cd l o.a=⟨0,0,0,0,0⟩:=by
      rcases ha with h|⟨r,a,b,n,h⟩
      ·exact h
      ·exact absurd ⟨show iZ l o.a by unfold iZ;rw[h],show iZ l o.b by unfold iZ;rw[hb]⟩ (Tg.out.two mr (by omega) (by omega))
     have dn:(bn !=0)=true:=by simpa using wZ
     clear ha
     clear h8
     go_wp2_with(first
      |(go_at_call 135;(with_reducible refine(HC.out w4 o.a _ _ _ _ _ k4 hx).mono ?_);rintro e w5 ⟨rfl,l5⟩;have k5:=k4.trans (l5.mono k4.size);clear z0 x0 x1 x2 x3 x4 x5 y2 y3;obtain⟨z0,⟨x0,x1,x2,x3,x4,x5⟩,y2,y3⟩:=HF.out w5 k5;rw[k2]at y2;rw[k3]at y3)
      |(go_at_call 135;(with_reducible refine(HC.out w5 o.b _ _ _ _ _ k5 hb).mono ?_);rintro e w6 ⟨rfl,l6⟩;have k6:=k5.trans (l6.mono k5.size);clear z0 x0 x1 x2 x3 x4 x5 y2 y3;obtain⟨z0,⟨x0,x1,x2,x3,x4,x5⟩,y2,y3⟩:=HF.out w6 k6;rw[k2]at y2;rw[k3]at y3)
      |(go_at_call 136;(with_reducible refine(HP.out w6 k6).mono ?_);rintro e w7 ⟨rfl,l7⟩;have k7:=k6.trans (l7.mono k6.size);clear z0 x0 x1 x2 x3 x4 x5 y2 y3;obtain⟨z0,⟨x0,x1,x2,x3,x4,x5⟩,y2,y3⟩:=HF.out w7 k7;rw[k2]at y2;rw[k3]at y3)
      |(go_at_call 135;(with_reducible refine(HC.out w7 o.b _ _ _ _ _ k7 hb).mono ?_);rintro e w8 ⟨rfl,l8⟩;have k8:=k7.trans (l8.mono k7.size);clear z0 x0 x1 x2 x3 x4 x5 y2 y3;obtain⟨z0,⟨x0,x1,x2,x3,x4,x5⟩,y2,y3⟩:=HF.out w8 k8;rw[k2]at y2;rw[k3]at y3;obtain⟨kk,sS,nt,u0⟩:=UU.out mr k1 w8 k8;have JV:¬(kk:Int)=0:=(by omega);have Wf:=hM)
      |(go_at_call 133;(with_reducible refine(dY _).mono ?_);rintro e w9 ⟨rfl,rfl⟩))
     go_ret
     exact⟨rfl,L4.out.trans (k8.mono L4.out.size)⟩
  ·have mr:lp l o:=.inl (by omega)
   have JO:decide (o.code≤17∧o.code≠8)=true:=by rw[decide_eq_true_eq];omega
   rw[JO]at HP
   have h2c:=Tg.out.two mr k0 k0'
   by_cases sL:Comm o.code
   ·obtain⟨hna,uT⟩:=Tg.out.com sL
    have Qw:decide (Comm o.code)=true:=by rw[decide_eq_true_eq];exact sL
    rw[Qw]at dY
    have hx:cd l o.a=⟨0,0,0,0,0⟩:=by
     rcases ha with h|⟨r,a,b,n,h⟩
     ·exact h
     ·exact absurd (show iZ l o.a by unfold iZ;rw[h]) hna
    clear ha sL
    rcases hb with hb|⟨br,ba,bb,bn,hb⟩
    ·have hle:o.a≤o.b:=by
      rcases uT with h|h
      ·unfold iZ at h;rw[hb]at h;simp at h
      ·exact h
     go_wp2_with(first
      |(go_at_call 135;(with_reducible refine(HC.out w4 o.a _ _ _ _ _ k4 hx).mono ?_);rintro e w5 ⟨rfl,l5⟩;have k5:=k4.trans (l5.mono k4.size);clear z0 x0 x1 x2 x3 x4 x5 y2 y3;obtain⟨z0,⟨x0,x1,x2,x3,x4,x5⟩,y2,y3⟩:=HF.out w5 k5;rw[k2]at y2;rw[k3]at y3)
      |(go_at_call 135;(with_reducible refine(HC.out w5 o.b _ _ _ _ _ k5 hb).mono ?_);rintro e w6 ⟨rfl,l6⟩;have k6:=k5.trans (l6.mono k5.size);clear z0 x0 x1 x2 x3 x4 x5 y2 y3;obtain⟨z0,⟨x0,x1,x2,x3,x4,x5⟩,y2,y3⟩:=HF.out w6 k6;rw[k2]at y2;rw[k3]at y3)
      |(go_at_call 136;(with_reducible refine(HP.out w6 k6).mono ?_);rintro e w7 ⟨rfl,l7⟩;have k7:=k6.trans (l7.mono k6.size);clear z0 x0 x1 x2 x3 x4 x5 y2 y3;obtain⟨z0,⟨x0,x1,x2,x3,x4,x5⟩,y2,y3⟩:=HF.out w7 k7;rw[k2]at y2;rw[k3]at y3;obtain⟨kk,sS,nt,u0⟩:=UU.out mr k1 w7 k7;have JV:¬(kk:Int)=0:=(by omega);have Wf:=hM)
      |(go_at_call 133;(with_reducible refine(dY _).mono ?_);rintro e w9 ⟨rfl,rfl⟩))
     go_ret
     exact⟨rfl,L4.out.trans (k7.mono L4.out.size)⟩
    ·go_wp2_with(first
      |(go_at_call 135;(with_reducible refine(HC.out w4 o.a _ _ _ _ _ k4 hx).mono ?_);rintro e w5 ⟨rfl,l5⟩;have k5:=k4.trans (l5.mono k4.size);clear z0 x0 x1 x2 x3 x4 x5 y2 y3;obtain⟨z0,⟨x0,x1,x2,x3,x4,x5⟩,y2,y3⟩:=HF.out w5 k5;rw[k2]at y2;rw[k3]at y3)
      |(go_at_call 135;(with_reducible refine(HC.out w5 o.b _ _ _ _ _ k5 hb).mono ?_);rintro e w6 ⟨rfl,l6⟩;have k6:=k5.trans (l6.mono k5.size);clear z0 x0 x1 x2 x3 x4 x5 y2 y3;obtain⟨z0,⟨x0,x1,x2,x3,x4,x5⟩,y2,y3⟩:=HF.out w6 k6;rw[k2]at y2;rw[k3]at y3)
      |(go_at_call 136;(with_reducible refine(HP.out w6 k6).mono ?_);rintro e w7 ⟨rfl,l7⟩;have k7:=k6.trans (l7.mono k6.size);clear z0 x0 x1 x2 x3 x4 x5 y2 y3;obtain⟨z0,⟨x0,x1,x2,x3,x4,x5⟩,y2,y3⟩:=HF.out w7 k7;rw[k2]at y2;rw[k3]at y3;obtain⟨kk,sS,nt,u0⟩:=UU.out mr k1 w7 k7;have JV:¬(kk:Int)=0:=(by omega);have Wf:=hM)
      |(go_at_call 133;(with_reducible refine(dY _).mono ?_);rintro e w9 ⟨rfl,rfl⟩))
     go_ret
     exact⟨rfl,L4.out.trans (k7.mono L4.out.size)⟩
   ·have Qw:decide (Comm o.code)=false:=by rw[decide_eq_false_iff_not];exact sL
    rw[Qw]at dY
    rcases ha with ha|⟨ar,aa,ab,an,ha⟩
    ·rcases hb with hb|⟨br,ba,bb,bn,hb⟩
     ·go_wp2_with(first
       |(go_at_call 135;(with_reducible refine(HC.out w4 o.a _ _ _ _ _ k4 ha).mono ?_);rintro e w5 ⟨rfl,l5⟩;have k5:=k4.trans (l5.mono k4.size);clear z0 x0 x1 x2 x3 x4 x5 y2 y3;obtain⟨z0,⟨x0,x1,x2,x3,x4,x5⟩,y2,y3⟩:=HF.out w5 k5;rw[k2]at y2;rw[k3]at y3)
       |(go_at_call 135;(with_reducible refine(HC.out w5 o.b _ _ _ _ _ k5 hb).mono ?_);rintro e w6 ⟨rfl,l6⟩;have k6:=k5.trans (l6.mono k5.size);clear z0 x0 x1 x2 x3 x4 x5 y2 y3;obtain⟨z0,⟨x0,x1,x2,x3,x4,x5⟩,y2,y3⟩:=HF.out w6 k6;rw[k2]at y2;rw[k3]at y3)
       |(go_at_call 136;(with_reducible refine(HP.out w6 k6).mono ?_);rintro e w7 ⟨rfl,l7⟩;have k7:=k6.trans (l7.mono k6.size);clear z0 x0 x1 x2 x3 x4 x5 y2 y3;obtain⟨z0,⟨x0,x1,x2,x3,x4,x5⟩,y2,y3⟩:=HF.out w7 k7;rw[k2]at y2;rw[k3]at y3;obtain⟨kk,sS,nt,u0⟩:=UU.out mr k1 w7 k7;have JV:¬(kk:Int)=0:=(by omega);have Wf:=hM)
       |(go_at_call 133;(with_reducible refine(dY _).mono ?_);rintro e w9 ⟨rfl,rfl⟩))
      go_ret
      exact⟨rfl,L4.out.trans (k7.mono L4.out.size)⟩
     ·go_wp2_with(first
       |(go_at_call 135;(with_reducible refine(HC.out w4 o.a _ _ _ _ _ k4 ha).mono ?_);rintro e w5 ⟨rfl,l5⟩;have k5:=k4.trans (l5.mono k4.size);clear z0 x0 x1 x2 x3 x4 x5 y2 y3;obtain⟨z0,⟨x0,x1,x2,x3,x4,x5⟩,y2,y3⟩:=HF.out w5 k5;rw[k2]at y2;rw[k3]at y3)
       |(go_at_call 135;(with_reducible refine(HC.out w5 o.b _ _ _ _ _ k5 hb).mono ?_);rintro e w6 ⟨rfl,l6⟩;have k6:=k5.trans (l6.mono k5.size);clear z0 x0 x1 x2 x3 x4 x5 y2 y3;obtain⟨z0,⟨x0,x1,x2,x3,x4,x5⟩,y2,y3⟩:=HF.out w6 k6;rw[k2]at y2;rw[k3]at y3)
       |(go_at_call 136;(with_reducible refine(HP.out w6 k6).mono ?_);rintro e w7 ⟨rfl,l7⟩;have k7:=k6.trans (l7.mono k6.size);clear z0 x0 x1 x2 x3 x4 x5 y2 y3;obtain⟨z0,⟨x0,x1,x2,x3,x4,x5⟩,y2,y3⟩:=HF.out w7 k7;rw[k2]at y2;rw[k3]at y3;obtain⟨kk,sS,nt,u0⟩:=UU.out mr k1 w7 k7;have JV:¬(kk:Int)=0:=(by omega);have Wf:=hM)
       |(go_at_call 133;(with_reducible refine(dY _).mono ?_);rintro e w9 ⟨rfl,rfl⟩))
      go_ret
      exact⟨rfl,L4.out.trans (k7.mono L4.out.size)⟩
    ·rcases hb with hb|⟨br,ba,bb,bn,hb⟩
     ·go_wp2_with(first
       |(go_at_call 135;(with_reducible refine(HC.out w4 o.a _ _ _ _ _ k4 ha).mono ?_);rintro e w5 ⟨rfl,l5⟩;have k5:=k4.trans (l5.mono k4.size);clear z0 x0 x1 x2 x3 x4 x5 y2 y3;obtain⟨z0,⟨x0,x1,x2,x3,x4,x5⟩,y2,y3⟩:=HF.out w5 k5;rw[k2]at y2;rw[k3]at y3)
       |(go_at_call 135;(with_reducible refine(HC.out w5 o.b _ _ _ _ _ k5 hb).mono ?_);rintro e w6 ⟨rfl,l6⟩;have k6:=k5.trans (l6.mono k5.size);clear z0 x0 x1 x2 x3 x4 x5 y2 y3;obtain⟨z0,⟨x0,x1,x2,x3,x4,x5⟩,y2,y3⟩:=HF.out w6 k6;rw[k2]at y2;rw[k3]at y3)
       |(go_at_call 136;(with_reducible refine(HP.out w6 k6).mono ?_);rintro e w7 ⟨rfl,l7⟩;have k7:=k6.trans (l7.mono k6.size);clear z0 x0 x1 x2 x3 x4 x5 y2 y3;obtain⟨z0,⟨x0,x1,x2,x3,x4,x5⟩,y2,y3⟩:=HF.out w7 k7;rw[k2]at y2;rw[k3]at y3;obtain⟨kk,sS,nt,u0⟩:=UU.out mr k1 w7 k7;have JV:¬(kk:Int)=0:=(by omega);have Wf:=hM)
       |(go_at_call 133;(with_reducible refine(dY _).mono ?_);rintro e w9 ⟨rfl,rfl⟩))
      go_ret
      exact⟨rfl,L4.out.trans (k7.mono L4.out.size)⟩
     ·exact absurd ⟨show iZ l o.a by unfold iZ;rw[ha],show iZ l o.b by unfold iZ;rw[hb]⟩ h2c
 ·rw[k2]at y2;rw[k3]at y3
  have JO:decide (o.code≤17∧o.code≠8)=false:=by rw[decide_eq_false_iff_not];omega
  rw[JO]at HP
  have d8:decide (o.code=8)=false:=by rw[decide_eq_false_iff_not];omega
  have d8x:(o.code==8)=false:=by rw[beq_eq_false_iff_ne];omega
  rcases jY l o.a with ha|⟨ar,aa,ab,an,ha⟩
  ·clear k0
   go_wp2_with(first
    |(go_at_call 135;(with_reducible refine(HC.out w4 o.a _ _ _ _ _ k4 ha).mono ?_);rintro e w5 ⟨rfl,l5⟩;have k5:=k4.trans (l5.mono k4.size);clear z0 x0 x1 x2 x3 x4 x5 y2 y3;obtain⟨z0,⟨x0,x1,x2,x3,x4,x5⟩,y2,y3⟩:=HF.out w5 k5;rw[k2]at y2;rw[k3]at y3)
    |(go_at_call 136;(with_reducible refine(HP.out w5 k5).mono ?_);rintro e w6 ⟨rfl,l6⟩;have k6:=k5.trans (l6.mono k5.size);clear z0 x0 x1 x2 x3 x4 x5 y2 y3;obtain⟨z0,⟨x0,x1,x2,x3,x4,x5⟩,y2,y3⟩:=HF.out w6 k6;rw[k2]at y2;rw[k3]at y3))
   go_ret
   exact⟨rfl,L4.out.trans (k6.mono L4.out.size)⟩
  ·clear k0
   go_wp2_with(first
    |(go_at_call 135;(with_reducible refine(HC.out w4 o.a _ _ _ _ _ k4 ha).mono ?_);rintro e w5 ⟨rfl,l5⟩;have k5:=k4.trans (l5.mono k4.size);clear z0 x0 x1 x2 x3 x4 x5 y2 y3;obtain⟨z0,⟨x0,x1,x2,x3,x4,x5⟩,y2,y3⟩:=HF.out w5 k5;rw[k2]at y2;rw[k3]at y3)
    |(go_at_call 136;(with_reducible refine(HP.out w5 k5).mono ?_);rintro e w6 ⟨rfl,l6⟩;have k6:=k5.trans (l6.mono k5.size);clear z0 x0 x1 x2 x3 x4 x5 y2 y3;obtain⟨z0,⟨x0,x1,x2,x3,x4,x5⟩,y2,y3⟩:=HF.out w6 k6;rw[k2]at y2;rw[k3]at y3))
   go_ret
   exact⟨rfl,L4.out.trans (k6.mono L4.out.size)⟩
end Go.Proofs.YtjkahfmdcpfjjaaGreat
