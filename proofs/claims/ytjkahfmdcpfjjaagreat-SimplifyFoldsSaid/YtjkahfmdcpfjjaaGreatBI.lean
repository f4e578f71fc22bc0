/- Where an appended row stands; all. -/
import Derived.Test.YtjkahfmdcpfjjaaGreatBF
set_option linter.unusedVariables false
namespace Go.Proofs.YtjkahfmdcpfjjaaGreat
open Go.RowKit
section
set_option maxRecDepth 100000
set_option maxHeartbeats 8000000
def q9 (w:World) (g:Nat):Prop:=∃m,aQ .i64 w g m∧∀p∈m,∃k,p.2=G k
variable {w w':World} {g um z:Nat}
theorem q9.aW (h:q9 w g) (hk:w'.heap[g]?=w.heap[g]?):q9 w' g:=by
 obtain⟨m,hm,hp⟩:=h
 exact⟨m,hm.aW hk,hp⟩
theorem q9.lt (h:q9 w g):g<w.heap.size:=by
 obtain⟨m,⟨es,cl,hg,_⟩,hp⟩:=h
 exact aB hg
variable {v:Value}
theorem uo {p:Int×Value} {r:Int}:∀(m:List (Int×Value)),p∈eU m r v→p∈m∨p=(r,v)
 |[],h=>by simp[eU]at h;exact .inr h
 |q::m,h=>by
  unfold eU at h
  split at h
  ·rcases List.mem_cons.1 h with h|h
   ·exact .inr h
   ·exact .inl (List.mem_cons_of_mem _ h)
  ·rcases List.mem_cons.1 h with h|h
   ·left;rw[h];exact List.mem_cons_self ..
   ·rcases uo m h with h|h
    ·exact .inl (List.mem_cons_of_mem _ h)
    ·exact .inr h
theorem Da {k:Int} {m:List (Int×Value)} (h:fp m k=some v):∃p∈m,p.2=v:=by
 unfold fp at h
 obtain⟨p,hp,he⟩:=Option.map_eq_some_iff.1 h
 exact⟨p,List.mem_of_find?_eq_some hp,he⟩
theorem q9.get (h:q9 w g) (k:Int):∃z,(Instr.lookup 121 (.map (some g)) (G k) false).run Tryz.prog w=.ok (G z) w:=by
 obtain⟨m,hm,hp⟩:=h
 have:=aM (P:=Tryz.prog) (t:=121) Tryz.underlying121 Tryz.underlying3 hm (k:=k) (z:=G 0) (by kernel_rfl) false
 cases hg:fp m k with
 |none=>exact⟨0,by rw[this,hg];rfl⟩
 |some v=>
  obtain⟨p,Fo,rfl⟩:=Da hg
  obtain⟨z,hz⟩:=hp p Fo
  exact⟨z,by rw[this,hg];simp[hz]⟩
theorem q9.put (h:q9 w g) (k z:Int):∃w',(Instr.mapUpdate 121 (.map (some g)) (G k) (G z)).run Tryz.prog w=.ok () w'∧aY [g] w w'∧q9 w' g∧w'.heap.size=w.heap.size:=by
 obtain⟨m,hm,hp⟩:=h
 obtain⟨w',h1,h2,h3,h4⟩:=ay Tryz.underlying121 Tryz.underlying3 hm k (G z)
 refine⟨w',h1,h3,⟨_,h2,fun p Fo=>?_⟩,h4⟩
 rcases uo m Fo with h|rfl
 ·exact hp p h
 ·exact⟨z,rfl⟩
theorem Inv.cG (w0:World) (B:List Nat) (J:World→Prop) (hJ:∀w w',J w→ak w0.heap.size w w'→J w'):Inv w0.heap.size (fun w=>aY B w0 w∧J w):=by
 refine⟨fun w h=>h.1.size,fun w o h=>?_,fun w g i v hg h=>?_,fun w h=>⟨h.1.drew,hJ _ _ h.2 (ak.refl _ w).drew⟩⟩
 ·have hl:ak w0.heap.size w (w.alloc o):=(ak.refl _ w).alloc h.1.size o
  exact⟨h.1.tail hl,hJ _ _ h.2 hl⟩
 ·have hl:ak w0.heap.size w (w.setCell ⟨g,i,none⟩ v):=(ak.refl _ w).setCell hg v
  exact⟨h.1.tail hl,hJ _ _ h.2 hl⟩
theorem Cd (w:World) (z um:Nat) (hz:w.cell? ⟨z,0,none⟩=some (.map (some um))) (hu:q9 w um) (v:Int):Calls Tryz.prog 96 #[G v,.pointer (ad z)] w (fun e w'=>e=.returned (G v)∧aY [um] w w'∧q9 w' um∧w'.heap.size=w.heap.size):=by
 obtain⟨k,hk⟩:=hu.get v
 obtain⟨f,hf⟩:=Classical.axiomOfChoice (hu.put v)
 have hp:∀x,(Instr.mapUpdate 121 (.map (some um)) (G v) (G x)).run Tryz.prog w=.ok () (f x):=fun x=>(hf x).1
 have HF:=cf (fun x=>(hf x).2)
 clear hf hu
 go_enter Tryz.func96,Tryz.ntmps96
 go_wp2_with fail
 go_ret
 exact⟨rfl,(HF.out _).1,(HF.out _).2.1,(HF.out _).2.2⟩
theorem OW:∀(args:Array Value) (w:World),(callFunc 96 args).run Tryz.prog w=.ok (.enter 96 args) w:=dM Tryz.func96 (by kernel_rfl) rfl
def jE (z um:Nat) (w:World):Prop:=q9 w um∧w.heap[z]?=some (.cells #[.map (some um)] 121 (0,0))
theorem jE.low {S:Nat} (hz:z<S) (hu:um<S) (h:jE z um w) (hl:ak S w w'):jE z um w':=⟨h.1.aW (hl.block um hu),(hl.block z hz).trans h.2⟩
theorem jE.ne (h:jE z um w):z≠um:=by
 rintro rfl
 obtain⟨⟨m,⟨es,cl,hg,_⟩,_⟩,h2⟩:=h
 rw[hg]at h2;cases h2
theorem uB (wa:World) (z um:Nat) (v:Int) (hz:z<wa.heap.size) (hu:um<wa.heap.size):DO wa.heap.size (fun wx=>aY [um] wa wx∧jE z um wx) (fun wx=>aY [um] wa wx∧jE z um wx) 96 #[] #[.pointer (ad z)] v v:=fun w1 h1 _=>by
 have cH:=h1.2.ne
 refine(Cd w1 z um (Yc h1.2.2) h1.2.1 v).mono ?_
 rintro e w2 ⟨rfl,hc,ZN,cC⟩
 exact⟨rfl,⟨h1.1.trans hc,ZN,hc.obj h1.2.2 (by simpa using cH)⟩,by omega,fun g hg mc=>hc.block g mc (by simp;omega)⟩
theorem El (w:World) (gr bk al df nm ob cm om:Nat) (Pp:Option Addr) (pc ga n c:Nat) (T:Option Addr) (tc:Nat) (s:St) (l:List aE) (ret:Int) (h:Gr w gr bk al df nm ob cm om Pp pc ga n c T tc s l ret) (bB:jy l) (nt:0≤ret):
 Calls Tryz.prog 38 #[.pointer (ad gr)] w (fun e w'=>e=.returned (.bool false)∧ak w.heap.size w w'):=by
 have qE:∀(fn:Fn) (first cap:Array Value) (w:World),(Instr.makeFunc fn first cap).run Tryz.prog w=.ok (.func fn first cap) w:=fun _ _ _ _=>rfl
 have vY:∀u:World,(Instr.makeMap 121 none).run Tryz.prog u=.ok (.map (some u.heap.size)) (u.alloc (.map #[] 0)):=fun u=>by kernel_rfl
 have tw:=ez w gr bk tc T (Yc h.g) (Yc h.b)
 have po:n≤12:=h.small
 have H:=cf h;have dA:=cf bB;have Te:=cf nt
 clear h bB nt
 go_enter Tryz.func38,Tryz.ntmps38
 go_upto_region 2 with(first
  |(go_at_call 88;refine tw.mono ?_;rintro e w1 ⟨l1,r,cr,rfl,x1,sR,oh⟩))
 obtain⟨X,c',Ym⟩:=tU r cr oh
 have e2:q9 (w1.alloc (.map #[] 0)) w1.heap.size:=⟨[],⟨#[],0,ao w1 _,aN _,by simp⟩,by simp⟩
 have l2:ak w1.heap.size w1 (w1.alloc (.map #[] 0)):=(ak.refl _ w1).alloc (Nat.le_refl _) _
 have l4:ak w1.heap.size w1 ((w1.alloc (.map #[] 0)).alloc (.cells #[.map (some w1.heap.size)] 121)):=l2.alloc l2.size _
 have e4:jE (w1.alloc (.map #[] 0)).heap.size w1.heap.size ((w1.alloc (.map #[] 0)).alloc (.cells #[.map (some w1.heap.size)] 121)):=⟨e2.aW (Below.heap_alloc _ _ _ e2.lt),ao _ _⟩
 have x4:=(World.cell?_of_block (a:=⟨r,0,none⟩) (l4.block r (bq x1))).trans x1
 have G4:=cf ((H.out.low l1).low l4)
 have L4:=cf (l1.trans (l4.mono l1.size))
 have Hp:(w1.alloc (.map #[] 0)).heap.size=w1.heap.size+1:=by simp
 rw[Hp]at e4
 have ad5:w.heap.size≤w1.heap.size:=l1.size
 go_upto_region 4 with fail
 clear tw l1 l2 l4 e2 x1 Hp
 generalize w1.heap.size=um at e4 ad5 x4 G4 L4⊢
 generalize(w1.alloc (.map #[] 0)).alloc (.cells #[.map (some um)] 121)=w4 at e4 x4 G4 L4⊢
 have E4:=cf e4
 clear e4 vY sR
 go_wp2_with fail
 go_loopw[27] (fun i wr=>(i=G 0∧wr=w4)∨(i=G 1∧ak w.heap.size w wr)) (fun i _=>1-(intOf i).toNat)
 case atStart=>exact .inl ⟨rfl,rfl⟩
 case round=>
  rcases hrel with⟨rfl,rfl⟩|⟨rfl,hl⟩
  ·obtain⟨w4,rfl⟩:∃u,u=wr:=⟨_,rfl⟩
   have b4:=jw G4.out.b
   go_wp2_with fail
   go_loopw[36] (fun i wx=>∃q:Nat,i=G q∧q≤n∧aY [um] w4 wx∧jE (um+1) um wx) (fun i _=>n-(intOf i).toNat)
   case atStart=>exact⟨0,rfl,by omega,aY.refl _ _,E4.out⟩
   case round=>
    obtain⟨wv,rfl⟩:∃u,u=wr:=⟨_,rfl⟩
    obtain⟨q,rfl,hq,hL,hD⟩:=hrel
    have hb:wv.heap[bk]?=_:=hL.obj G4.out.b (by
     intro hm
     rw[List.mem_singleton]at hm
     obtain⟨⟨m,⟨es,cl,hg,_⟩,_⟩,h2⟩:=E4.out
     rw[←hm,G4.out.b]at hg;cases hg)
    by_cases bw:q<n
    ·have bN:(q:Int)<(n:Int):=by omega
     have nu:(0:Int)≤(q:Int):=by omega
     have mI:(q:Int)≤12:=by omega
     obtain⟨o,ho⟩:∃o,l[q]?=some o:=⟨_,List.getElem?_eq_getElem (by have:=G4.out.ops.1;omega)⟩
     obtain⟨Ft,yq,Sm,cs,JY,eR⟩:=G4.out.ops
     obtain⟨k0,k1,k2,k3,k4,k5⟩:=eR q o ho
     have hg:wv.heap[ga]?=_:=hL.obj JY (by
      intro hm
      rw[List.mem_singleton]at hm
      obtain⟨⟨m,⟨es,cl,hg,_⟩,_⟩,h2⟩:=E4.out
      rw[←hm,JY]at hg;cases hg)
     have c0:=iw hg k0 k1 k2 k3 k4 k5
     have Jl:aS o.code:=dA.out o (List.mem_of_getElem? ho)
     have l9:ak wv.heap.size wv (wv.alloc (OC o)):=F0
     have hz9:=Below.heap_alloc wv (OC o)
     have d9:=hD.low (aB hD.2) hD.1.lt l9
     have cC:wv.heap.size≤(wv.alloc (OC o)).heap.size:=l9.size
     have Zo:=aB hD.2
     have a9:=ao wv (OC o)
     go_upto_region 10 with fail
     clear c0 k0 k1 k2 k3 k4 k5 hz9 b4 hg JY
     generalize wv.alloc (OC o)=wa at a9 l9 d9 cC⊢
     obtain⟨x0,x1,x2,x3,x4,x5⟩:=aC a9
     have TO:=hD.1.lt
     have jn:=zO (fun _ wx=>aY [um] wa wx∧jE (um+1) um wx) wa o 96 #[] #[.pointer (ad (um+1))] o.a o.b (fun _=>(Inv.cG wa [um] (jE (um+1) um) (fun u u' hu hl=>hu.low (by omega) (by omega) hl)).two) ⟨aY.refl _ _,d9⟩ Jl OW (fun _=>uB wa (um+1) um _ (by omega) (by omega)) (fun _=>uB wa (um+1) um _ (by omega) (by omega))
     unfold aE.val at jn
     have HL:=cf (hL.trans (aY.bD l9))
     clear hL l9 d9 hD a9
     go_wp2_with(first
      |(go_at_call 85;refine jn.mono ?_;rintro e w6 ⟨rfl,Up,hu6⟩))
     exact⟨⟨q+1,rfl,bw,HL.out.trans Up,hu6⟩,by show n-((q:Int)+1).toNat<n-((q:Int)).toNat;omega⟩
    ·have bN:¬(q:Int)<(n:Int):=by omega
     have b2:=rn hb
     have b3:=mM hb
     have hbr:=gf wv bk ret Te.out b2 b3
     have HB:=cf hb;have HL:=cf hL;have HD:=cf hD
     clear b2 b3 b4 hb hL hD
     go_upto_region 13 with(first
      |(go_at_call 97;refine hbr.mono ?_;rintro e w6 ⟨rfl,l6⟩;have hb6:=l6.some HB.out;have d6:=HD.out.low (aB HD.out.2) HD.out.1.lt l6;have c6:=HL.out.trans (aY.bD l6)))
     have b3:=mM hb6
     have CL:=Cd w6 (um+1) um (Yc d6.2) d6.1 ret
     have uT:bk∉[um]:=by
      intro hm
      rw[List.mem_singleton]at hm
      obtain⟨⟨m,⟨es,cl,hg,_⟩,_⟩,h2⟩:=E4.out
      rw[←hm,G4.out.b]at hg;cases hg
     have Lx:=cf hb6;have C6:=cf c6;have HNB:=cf uT
     clear hb6 c6 uT l6 hbr
     go_upto_region 14 with(first
      |(go_at_call 96;refine CL.mono ?_;rintro e w7 ⟨rfl,c7,_,_⟩;have b6:w7.cell? ⟨bk,4,none⟩=some (.slice T 0 tc):=Yc (c7.obj Lx.out HNB.out);have hlw:ak w.heap.size w w7:=L4.out.trans ((C6.out.trans c7).low (by simpa using ad5) L4.out.size);have HLW:=cf hlw;clear hlw c7 d6 b3 CL))
     go_wp2_with fail
     go_loopw[57] (fun i wr=>i=G 0∧wr=w7) (fun _ _=>0)
     case atStart=>exact⟨rfl,rfl⟩
     case round=>
      obtain⟨rfl,rfl⟩:=hrel
      go_wp2_with fail
      exact⟨.inr ⟨rfl,HLW.out⟩,by decide⟩
  ·go_wp2_with fail
   obtain⟨w5,rfl⟩:∃u,u=wr:=⟨_,rfl⟩
   go_loopw[70] (fun i wr=>i=G 0∧wr=w5) (fun _ _=>0)
   case atStart=>exact⟨rfl,rfl⟩
   case round=>
    obtain⟨rfl,rfl⟩:=hrel
    go_wp2_with fail
    go_ret
    exact⟨rfl,hl⟩
end
section
set_option maxRecDepth 100000
set_option maxHeartbeats 8000000
def oy (c:Int):Bool:=decide (1≤c)&&decide (c≤17)&&decide (c≠8)
def TH:Option Int→Bool
 |some n=>decide (n≠0)
 |none=>false
def fI (nm:Int→Option Int) (o:aE):Bool:=oy o.code||(decide (o.code=8)&&TH (nm o.b))
theorem EV {c:Int} (h:aS c):1≤c:=by
 simp only[aS,List.mem_cons,List.not_mem_nil,or_false]at h
 omega
theorem PJ (w:World) (o:aE) (ho:aS o.code):Calls Tryz.prog 166 #[OV o] w (fun e w'=>e=.returned (.bool (oy o.code))∧ak w.heap.size w w'):=by
 have hl:ak w.heap.size w (w.alloc (OC o)):=(ak.refl _ w).alloc (Nat.le_refl _) _
 have hb:=ao w (OC o)
 have h1:=EV ho
 clear ho
 obtain⟨p,hp⟩:∃p,p=oy o.code:=⟨_,rfl⟩
 rw[←hp]
 have HP:=cf hp
 clear hp
 by_cases h8:o.code=8
 ·have e:p=false:=by rw[HP.out,h8];rfl
  subst e
  have h2:o.code≤17:=by omega
  have d1:decide ((1:Int)≤o.code)=true:=by simp;omega
  have d2:decide (o.code≤17)=true:=by simp;omega
  have d3:decide (o.code=8)=true:=by simp;omega
  clear h8 h2
  go_enter Tryz.func166,Tryz.ntmps166
  go_wp2_with fail
  all_goals(go_ret;exact⟨by simp_all,hl⟩)
 ·by_cases dz:o.code≤17
  ·have e:p=true:=by rw[HP.out];simp[oy,h1,dz,h8]
   subst e
   have d1:decide ((1:Int)≤o.code)=true:=by simp;omega
   have d2:decide (o.code≤17)=true:=by simp;omega
   have d3:decide (o.code=8)=false:=by simp;omega
   go_enter Tryz.func166,Tryz.ntmps166
   go_wp2_with fail
   all_goals(go_ret;exact⟨by simp_all,hl⟩)
  ·have e:p=false:=by rw[HP.out];simp[oy,dz]
   subst e
   have d1:decide ((1:Int)≤o.code)=true:=by simp;omega
   have d2:decide (o.code≤17)=false:=by simp;omega
   go_enter Tryz.func166,Tryz.ntmps166
   go_wp2_with fail
   all_goals(go_ret;exact⟨by simp_all,hl⟩)
theorem BT (w:World) (gr nm:Nat) (s:St) (o:aE) (hg:w.cell? ⟨gr,4,none⟩=some (.map (some nm))) (he:aQ .i64 w nm (cc sa s.nm)) (ho:aS o.code):Calls Tryz.prog 108 #[.pointer (ad gr),OV o] w (fun e w'=>e=.returned (.bool (fI (aA s.nm) o))∧ak w.heap.size w w'):=by
 have hl:ak w.heap.size w (w.alloc (OC o)):=(ak.refl _ w).alloc (Nat.le_refl _) _
 have hb:=ao w (OC o)
 have mw:=(World.cell?_alloc_lt w (OC o) _ (bq hg)).trans hg
 have Lg:=he.low hl
 have hP:=fun u=>PJ u o ho
 obtain⟨k,hk⟩:∃k,k=aA s.nm o.b:=⟨_,rfl⟩
 obtain⟨p,hp⟩:∃p,p=oy o.code:=⟨_,rfl⟩
 obtain⟨pp,Fm⟩:∃pp,pp=fI (aA s.nm) o:=⟨_,rfl⟩
 rw[←Fm]
 have UX:Hid (pp=(p||(decide (o.code=8)&&TH k))):=cf (by rw[Fm,hp,hk];rfl)
 simp only[←hp]at hP
 clear hp Fm
 go_enter Tryz.func108,Tryz.ntmps108
 go_upto_region 1 with fail
 clear hg he
 obtain⟨S,hS⟩:∃S,w.heap.size=S:=⟨_,rfl⟩
 rw[hS]at hb⊢
 generalize w.alloc (OC o)=w1 at hl hb mw Lg⊢
 have x0:=aC hb
 have hq:∀m,(Instr.lookup 126 (.map (some nm)) (G o.b) true).run Tryz.prog (w1.drewN m)=.ok (.tuple #[.int .u16 (k.getD 0),.bool k.isSome]) (w1.drewN m):=fun m=>by
  have:=aM (P:=Tryz.prog) (t:=126) Tryz.underlying126 Tryz.underlying3 (Lg.low ((ak.refl _ w1).drewN m)) (k:=o.b) (z:=.int .u16 0) (by kernel_rfl) true
  rw[this,ew,←hk]
  cases k<;>rfl
 have HB:=cf hb;have HL:=cf hl
 clear hb hl Lg hk
 go_quiet(fail)
 clear hq
 have aH:∀u v,ak w1.heap.size (w1.drewN u) v→ak w1.heap.size w1 v:=fun u v h=>((ak.refl _ w1).drewN u).trans h
 cases p
 ·by_cases h8:o.code=8
  ·have d3:decide (o.code=8)=true:=by simp;omega
   have H8:=cf h8
   clear h8
   cases k with
   |none=>
    have e:pp=false:=by rw[UX.out];simp[TH]
    subst e
    simp only[Option.getD_none,Option.isSome_none]
    go_wp2_with(first
     |(go_at_call 166;(with_reducible refine(hP _).mono ?_);rintro e w5 ⟨rfl,l5⟩;have l6:=cf (aH _ _ l5);have b5:=l6.out.some HB.out;have y0:w5.cell? ⟨S,0,none⟩=some (G o.code):=Yc b5;clear l5 b5 x0 aH))
    all_goals(go_ret;exact⟨rfl,HL.out.trans (l6.out.mono HL.out.size)⟩)
   |some n=>
    by_cases hn:n=0
    ·subst hn
     have e:pp=false:=by rw[UX.out];simp[TH]
     subst e
     simp only[Option.getD_some,Option.isSome_some]
     go_wp2_with(first
      |(go_at_call 166;(with_reducible refine(hP _).mono ?_);rintro e w5 ⟨rfl,l5⟩;have l6:=cf (aH _ _ l5);have b5:=l6.out.some HB.out;have y0:w5.cell? ⟨S,0,none⟩=some (G o.code):=Yc b5;clear l5 b5 x0 aH))
     all_goals(go_ret;exact⟨rfl,HL.out.trans (l6.out.mono HL.out.size)⟩)
    ·have e:pp=true:=by rw[UX.out,H8.out];simp[TH,hn]
     subst e
     simp only[Option.getD_some,Option.isSome_some]
     go_wp2_with(first
      |(go_at_call 166;(with_reducible refine(hP _).mono ?_);rintro e w5 ⟨rfl,l5⟩;have l6:=cf (aH _ _ l5);have b5:=l6.out.some HB.out;have y0:w5.cell? ⟨S,0,none⟩=some (G o.code):=Yc b5;clear l5 b5 x0 aH))
     all_goals(go_ret;exact⟨by simp_all,HL.out.trans (l6.out.mono HL.out.size)⟩)
  ·have e:pp=false:=by rw[UX.out];simp[h8]
   subst e
   have d3:decide (o.code=8)=false:=by simp;omega
   generalize k.getD 0=kd
   generalize k.isSome=ks
   go_wp2_with(first
    |(go_at_call 166;(with_reducible refine(hP _).mono ?_);rintro e w5 ⟨rfl,l5⟩;have l6:=cf (aH _ _ l5);have b5:=l6.out.some HB.out;have y0:w5.cell? ⟨S,0,none⟩=some (G o.code):=Yc b5;clear l5 b5 x0 aH))
   all_goals(go_ret;exact⟨rfl,HL.out.trans (l6.out.mono HL.out.size)⟩)
 ·have e:pp=true:=by rw[UX.out];rfl
  subst e
  generalize k.getD 0=kd
  generalize k.isSome=ks
  go_wp2_with(first
   |(go_at_call 166;(with_reducible refine(hP _).mono ?_);rintro e w5 ⟨rfl,l5⟩;have l6:=cf (aH _ _ l5);have b5:=l6.out.some HB.out;have y0:w5.cell? ⟨S,0,none⟩=some (G o.code):=Yc b5;clear l5 b5 x0 aH))
  all_goals(go_ret;exact⟨rfl,HL.out.trans (l6.out.mono HL.out.size)⟩)
end
section
set_option maxRecDepth 100000
set_option maxHeartbeats 8000000
section
variable {P : Program} {t e size bytes base : Nat} {w : World}
variable {v v':Value} {m n:Nat} {w':World}
theorem qW (hE:Ap P t e size bytes) {ty:TypeId} {xs:List Value} (dy:Own w base e size v n xs) {g c:Nat} {cs:Array Value} {e':TypeId} {fr:Nat×Nat} (hg:w.heap[g]?=some (.cells cs e' fr)) (eR:cs.size=m*size) (h1:∀u∈cs,u.oneCell'=true) (hn:n+m≤1048576) (hm:0<m) (hr:(Builtin.append_ #[t,t] ty #[v,.slice (ad g) m c]).run P w=.ok v' w'):
 v'.ownBlock=v.ownBlock∨v'.ownBlock=some w.heap.size:=by
 obtain⟨ti,z,hi,hz,np,Bj,RZ⟩:=hE.info
 have uU:=hE.low
 have fX:=hE.pos
 have rS:(n+m)*bytes≤140737488355328:=by
  have:=Nat.mul_le_mul hn uU
  omega
 subst np
 subst Bj
 have CM:∀j u,cs.toList[j]?=some u→w.cell? ((⟨g,0,none⟩:Addr).add j)=some u:=fun j u hj=>by
  have ve:(⟨g,0,none⟩:Addr).add j=⟨g,j,none⟩:=by
   by_cases h0:j=0
   ·subst h0;simp[Addr.add]
   ·simp[Addr.add,h0]
  rw[ve,Yc hg]
  simpa using hj
 have hl:cs.toList.length=m*ti.size:=by simpa using eR
 have h1':∀u∈cs.toList,u.oneCell'=true:=fun u hu=>h1 u (by simpa using hu)
 rcases dy.2 with⟨rfl,rfl⟩|⟨g0,cap,cur,rfl,Oh,JY,qD,dY,ao9,as9⟩
 ·have h:=run_append_nil (P:=P) w t ty e ti z hE.ht hi hz ⟨g,0,none⟩ m c cs.toList hl CM hm (by omega) (by simp only[Nat.zero_add]at rS;omega)
  rw[h]at hr
  injection hr with h2 h3
  subst h2
  exact .inr rfl
 ·by_cases jm:n+m≤cap
  ·have uZ:n*ti.size+cs.toList.length≤cur.size:=by rw[hl,ao9,←Nat.add_mul];exact Nat.mul_le_mul_right _ jm
   have h:=run_append_room (P:=P) w t ty e ti hE.ht hi g0 n cap cur JY ⟨g,0,none⟩ m c cs.toList hl CM h1' jm uZ
   rw[h]at hr
   injection hr with h2 h3
   subst h2
   exact .inl rfl
  ·have holds:∀j u,xs[j]?=some u→w.cell? ((⟨g0,0,none⟩:Addr).add j)=some u:=World.ownsRow.cells (g:=g0) dy rfl
   have h:=run_append_grow (P:=P) w t ty e ti z hE.ht hi hz ⟨g0,0,none⟩ n cap xs dy.1 holds ⟨g,0,none⟩ m c cs.toList hl CM (by omega) (by omega) (growslice_fits (by omega) rS)
   rw[h]at hr
   injection hr with h2 h3
   subst h2
   exact .inr rfl
def PV (w w':World) (base e size:Nat) (v v':Value) (n:Nat) (xs:List Value) (m:Nat) (news:List Value):Prop:=vV w w' base e size v v' n xs m news∧(v'.ownBlock=v.ownBlock∨v'.ownBlock=some w.heap.size)
theorem ss (hE:Ap P t e size bytes) {ops:Array Oper} {rest:List Oper} {o:Oper} {a:Act} {Q:Exit→Act→World→Prop} (yw:o.guard=none) (s x:Operand) (ho:o.op=.call {callee:=.builtin .append,args:= #[s,x],argTypes:= #[t,t]})
 {v:Value} {n:Nat} {xs:List Value} (hs:a.eval s=v) (dy:Own w base e size v n xs) {g m c:Nat} {cs:Array Value} {e':TypeId} {fr:Nat×Nat} (hx:a.eval x=.slice (ad g) m c) (hg:w.heap[g]?=some (.cells cs e' fr)) (eR:cs.size=m*size) (h1:∀u∈cs,u.oneCell'=true) (hn:n+m≤1048576) (hm:0<m) (hb:base≤w.heap.size)
 (h:∀v' w',PV w w' base e size v v' n xs m cs.toList→wpList P ops Q rest (a.put o.dst v') w'):wpList P ops Q (o::rest) a w:=
 wpList_plain yw fun _ hK=>by
  obtain⟨v',w',cN,h2⟩:=eC (ty:=o.type) hE dy (c:=c) hg eR h1 hn hb
  have hp:=qW hE dy hg eR h1 hn hm cN
  unfold Oper.wp execOp
  simp only[ho,resolve,invoke,builtin,Sem.run_bind,Sem.run_pure,Result.andThen_ok,List.map_toArray,List.map_cons,List.map_nil,hs,hx,cN]
  exact hK _ _ (h v' w' ⟨h2,hp⟩)
end
structure Mv (X:Nat→Prop) (w w':World):Prop where
 os:w'.os=w.os
 out:w'.output=w.output
 size:w.heap.size≤w'.heap.size
 block:∀b,b<w.heap.size→¬X b→w'.heap[b]?=w.heap[b]?
variable {X:Nat→Prop} {w':World}
theorem Mv.bD {w:World} (h:ak w.heap.size w w'):Mv X w w':=⟨h.os,h.out,h.size,fun b hb _=>h.block b hb⟩
theorem Mv.trans {w rh:World} (h:Mv X w w') (h':Mv X w' rh):Mv X w rh:=⟨h'.os.trans h.os,h'.out.trans h.out,Nat.le_trans h.size h'.size,fun b hb hx=>(h'.block b (Nat.lt_of_lt_of_le hb h.size) hx).trans (h.block b hb hx)⟩
variable {m n:Nat} {v v':Value}
theorem PV.mv {w:World} {base e size:Nat} {xs news:List Value} (h:PV w w' base e size v v' n xs m news) (hX:∀g,v.ownBlock=some g→X g):Mv X w w':=
 ⟨h.1.os,h.1.out,h.1.size,fun b hb hx=>h.1.block b hb fun e=>hx (hX b e.symm)⟩
structure af4 (I:List Int→(Nat→Prop)→World→Prop):Prop where
 grow:∀l X X' w,I l X w→(∀b,X' b→X b∨w.heap.size≤b)→I l X' w
 move:∀l X w w',I l X w→Mv X w w'→I l X w'
def PT (I:List Int→(Nat→Prop)→World→Prop) (k:FuncId) (fi fZ:Array Value) (l l':List Int) (v r:Int):Prop:=∀X w1,I l X w1→(∀b,X b→b<w1.heap.size)→Calls Tryz.prog k (fi++ #[G v]++fZ) w1 (fun e w2=>e=.returned (G r)∧I l' X w2∧w1.heap.size≤w2.heap.size∧∀b,X b→b<w1.heap.size→w2.heap[b]?=w1.heap[b]?)
theorem SY:Ap Tryz.prog 22 3 1 8:=⟨Tryz.underlying22,by
 obtain⟨ti,nT,hz,hs,hb⟩:=dP (show(Tryz.prog.info? 3).map (fun i=>(i.zero,i.size,i.bytes))=some (some (G 0),1,8) by kernel_rfl)
 exact⟨ti,_,nT,hz,hs,hb,rfl⟩,by decide,by decide⟩
theorem ae5 (I:List Int→(Nat→Prop)→World→Prop) (hI:af4 I) (w:World) (A:Option Addr) (c:Nat) (xs:List Int) (f:Int→Int) (k:FuncId) (fi fZ:Array Value) (X:Nat→Prop) (hw:I [] X w) (hXb:∀b,X b→b<w.heap.size)
 (eJ:∀j x,xs[j]?=some x→∃g,A=some ⟨g,0,none⟩∧∀l X w1,I l X w1→w1.cell? ⟨g,j,none⟩=some (G x)) (hc:xs.length≤1000)
 (he:∀(args:Array Value) (w:World),(callFunc k args).run Tryz.prog w=.ok (.enter k args) w)
 (hf:∀j x,xs[j]?=some x→PT I k fi fZ (xs.take j) (xs.take (j+1)) x (f x)):
 Calls Tryz.prog 84 #[.slice A xs.length c,.func (.func k) fi fZ] w (fun e w'=>∃r X',e=.returned r∧I xs X' w'∧Own w' w.heap.size 3 1 r xs.length (xs.map fun x=>G (f x))∧(∀b,X b→X' b)∧(∀b,X' b→X b∨w.heap.size≤b)∧(∀g,r.ownBlock=some g→X' g)∧(∀b,X' b→b<w'.heap.size)∧w.heap.size≤w'.heap.size∧∀b,X b→b<w.heap.size→w'.heap[b]?=w.heap[b]?):=by
 obtain⟨n,hn⟩:∃n,n=xs.length:=⟨_,rfl⟩
 obtain⟨S,hS⟩:∃S,S=w.heap.size:=⟨_,rfl⟩
 rw[←hn,←hS]
 rw[←hn]at hc
 have HF:=cf hf;have ar4:=cf eJ;have HW:=cf hw;have HI:=cf hI;have HN:=cf hn;have HS:=cf hS;have HXB:=cf hXb
 clear hf eJ hw hI hn hS hXb
 go_enter Tryz.func84,Tryz.ntmps84
 go_wp2_with fail
 go_loopw[10,5] (fun i o wr=>∃(q:Nat) (X':Nat→Prop),i=G q∧q≤n∧I (xs.take q) X' wr∧Own wr S 3 1 o q ((xs.take q).map fun x=>G (f x))∧(∀b,X b→X' b)∧(∀b,X' b→X b∨S≤b)∧(∀g,o.ownBlock=some g→X' g)∧(∀b,X' b→b<wr.heap.size)∧S≤wr.heap.size∧∀b,X b→b<S→wr.heap[b]?=w.heap[b]?) (fun i _ _=>n-(intOf i).toNat)
 case atStart=>exact⟨0,X,rfl,by omega,HW.out,Own.nil _ _ _ _,fun _ h=>h,fun _ h=>Or.inl h,fun g h=>(by cases h),HXB.out,by have:=HS.out;omega,fun _ _ _=>rfl⟩
 case round=>
  obtain⟨wv,rfl⟩:∃u,u=wr:=⟨_,rfl⟩
  obtain⟨q,X',rfl,hq,YC,hO,hX1,hX2,Yx,hX4,cC,hXk⟩:=hrel
  by_cases bw:q<n
  ·have bN:(q:Int)<(n:Int):=by omega
   have nu:(0:Int)≤(q:Int):=by omega
   have mI:(q:Int)≤1000:=by omega
   obtain⟨x,hx⟩:∃x,xs[q]?=some x:=⟨_,List.getElem?_eq_getElem (by have:=HN.out;omega)⟩
   obtain⟨g,rfl,Ic⟩:=ar4.out q x hx
   have x1:wv.cell? ⟨g,q,none⟩=some (G x):=Ic _ _ _ YC
   have ca:=HF.out q x hx X' wv YC hX4
   have HP:Hid (Own wv S 3 1 u5 q ((xs.take q).map fun x=>G (f x))∧(∀b,X b→X' b)∧(∀b,X' b→X b∨S≤b)∧(∀g,u5.ownBlock=some g→X' g)∧(∀b,X' b→b<wv.heap.size)∧S≤wv.heap.size∧(∀b,X b→b<S→wv.heap[b]?=w.heap[b]?)∧xs[q]?=some x):=cf ⟨hO,hX1,hX2,Yx,hX4,cC,hXk,hx⟩
   clear YC hO hX1 hX2 Yx hX4 cC hXk hx Ic
   go_upto_region 6 with(first
    |(refine ca.mono ?_;rintro e w2 ⟨rfl,D0,JM,Uj⟩;obtain⟨p1,p2,p3,p4,p45,p5,p6,p7⟩:=HP.out;have YA:Own w2 S 3 1 u5 q ((xs.take q).map fun x=>G (f x)):=p1.kept (fun g hg=>Uj g (p4 g hg) (p1.lt g hg).2);have hO3:=cf (YA.low ((ak.refl _ w2).alloc (Nat.le_refl _) (.cells #[G (f x)] 3)));have DM:=cf D0;have HK2:=cf Uj;clear YA D0 Uj p1 p2 p3 p4 p45 p5 p6 p7)
    |(at_builtin;refine ss (w:=w2.alloc (.cells #[G (f x)] 3)) (P:=Tryz.prog) (base:=S) (n:=q) (m:=1) (xs:=(xs.take q).map fun x=>G (f x)) SY rfl (.tmp 14) (.tmp 18) rfl rfl hO3.out rfl (ao w2 _) rfl (by simp[Value.oneCell']) (by omega) (by omega) (by have h1:=HP.out.2.2.2.2.2.1;simp;omega) ?_;intro v9 w9 kE;have X2:=cf kE;clear kE))
   have aH:∃(q':Nat) (X':Nat→Prop),(q:Int)+1=(q':Int)∧q'≤n∧I (xs.take q') X' w9∧Own w9 S 3 1 v9 q' ((xs.take q').map fun x=>G (f x))∧(∀b,X b→X' b)∧(∀b,X' b→X b∨S≤b)∧(∀g,v9.ownBlock=some g→X' g)∧(∀b,X' b→b<w9.heap.size)∧S≤w9.heap.size∧∀b,X b→b<S→w9.heap[b]?=w.heap[b]?:=by
    obtain⟨p1,p2,p3,p4,p45,p5,p6,p7⟩:=HP.out
    have kE:=X2.out
    have NM:ak w2.heap.size w2 (w2.alloc (.cells #[G (f x)] 3)):=(ak.refl _ w2).alloc (Nat.le_refl _) _
    have hI3:=HI.out.move _ _ _ _ DM.out (Mv.bD NM)
    have hI4:=HI.out.grow _ _ (fun b=>X' b∨v9.ownBlock=some b) _ hI3 (fun b hb=>by
     rcases hb with hb|hb
     ·exact .inl hb
     ·rcases kE.2 with e|e
      ·rw[e]at hb;exact .inl (p4 b hb)
      ·rw[e]at hb;injection hb with hb;exact .inr (by omega))
    have K8:Mv (fun b=>X' b∨v9.ownBlock=some b) (w2.alloc (.cells #[G (f x)] 3)) w9:=kE.mv (fun g hg=> .inl (p4 g hg))
    have hI5:=HI.out.move _ _ _ _ hI4 K8
    have e1:xs.take (q+1)=xs.take q++[x]:=by
     have qA:=(List.getElem?_eq_some_iff.1 p7).1
     have Bg:=(List.getElem?_eq_some_iff.1 p7).2
     rw[List.take_succ_eq_append_getElem qA,Bg]
    have Qd:w2.heap.size≤(w2.alloc (.cells #[G (f x)] 3)).heap.size:=NM.size
    have hz9:=kE.1.size
    refine⟨q+1,_,by omega,by omega,hI5,?_,fun b hb=> .inl (p2 b hb),fun b hb=>?_,fun g hg=> .inr hg,fun b hb=>?_,by omega,fun b hb hbS=>?_⟩
    ·rw[e1,List.map_append]
     exact kE.1.own
    ·rcases hb with hb|hb
     ·exact p3 b hb
     ·rcases kE.2 with e|e
      ·rw[e]at hb;exact p3 b (p4 b hb)
      ·rw[e]at hb;injection hb with hb;exact .inr (by omega)
    ·rcases hb with hb|hb
     ·have:=p45 b hb;omega
     ·exact(kE.1.own.lt b hb).2
    ·have h9:=kE.1.block b (by omega) (fun e=>by
      have h1:=(p1.lt b e.symm).1
      omega)
     rw[h9,NM.block b (by omega),HK2.out b (p2 b hb) (by omega)]
     exact p6 b hb hbS
   have jz:=cf aH
   clear aH
   go_wp2_with fail
   obtain⟨q',X9,f1,f2⟩:=jz.out
   exact⟨⟨q',X9,by rw[f1],f2⟩,by show n-((q:Int)+1).toNat<n-((q:Int)).toNat;omega⟩
  ·have bN:¬(q:Int)<(n:Int):=by omega
   have mI:q=n:=by omega
   have aH:I xs X' wv∧Own wv S 3 1 u5 n (xs.map fun x=>G (f x)):=by
    have e:xs.take q=xs:=List.take_of_length_le (by have:=HN.out;omega)
    rw[e]at YC hO
    rw[mI]at hO
    exact⟨YC,hO⟩
   have jz:=cf aH
   clear aH YC hO
   go_wp2_with fail
   go_ret
   exact⟨_,rfl,X',jz.out.1,jz.out.2,hX1,hX2,Yx,hX4,cC,hXk⟩
end
end Go.Proofs.YtjkahfmdcpfjjaaGreat
