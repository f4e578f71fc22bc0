/- The reference: function: the graph is what it was, with its constants ahead. -/
import Derived.Test.YtjkahfmdcpfjjaaGreatD2
set_option linter.unusedVariables false
namespace Go.Proofs.YtjkahfmdcpfjjaaGreat
open Go.RowKit
set_option maxRecDepth 100000
set_option maxHeartbeats 8000000
variable {l:List aE}
theorem SE {q:Nat} {o:aE} (h:l[q]?=some o):(l.take (q+1)).flatMap bl=(l.take q).flatMap bl++bl o:=by
 rw[List.take_add_one,h]
 simp
def sK (p:Int×Int):aE:=⟨1,p.2,0,0,p.1⟩
def jf (l:List aE) (ret:Int):List Int:=(l.flatMap bl++[ret]).foldl nI []
theorem xq (l:List aE) (ret x:Int):x∈jf l ret↔x∈l.flatMap bl++[ret]:=by
 unfold jf
 rw[vN]
 simp
def Sv (p:Int×Value):aE:=⟨1,Fe p.2,0,0,p.1⟩
theorem Su (cm:List (Int×Int)):(cc cA cm).map Sv=cm.map sK:=by
 unfold cc
 rw[List.map_map]
 rfl
def aj4:Value→Nat
 | .slice _ n _=>n
 |_=>0
variable {kd:IntKind} {w w':World} {c g n:Nat} {V:List (Int×Value)}
theorem eX.mem {it:Nat} {l:List (Int×Value)} (h:eX kd w it g l V):(∀p∈V,p∈l)∧V.length≤l.length:=by
 obtain⟨es,clock,since,seen,c0,h1,h2,h3,h4,h5,h6,h7,h8⟩:=h
 refine⟨fun p hp=>h8.mem_iff.1 (List.mem_append_left _ hp),?_⟩
 have:=h8.length_eq
 rw[List.length_append]at this
 omega
theorem eX.VL {it:Nat} {l:List (Int×Value)} (h:eX kd w it g l V):(∃es cl,w.heap[g]?=some (.map es cl))∧∃si se c0,w.heap[it]?=some (.mapIter (some g) si se c0):=by
 obtain⟨es,clock,since,seen,c0,h1,h2,h3,h4,h5⟩:=h
 exact⟨⟨es,clock,h1⟩,since,seen,c0,h4⟩
variable {A:Option Addr}
theorem fe.cG {B:List Nat} {Pp:Option Addr} {pc:Nat} {T:Option Addr} {tc:Nat} {ret:Int} (h:fe w g Pp pc A n c T tc l ret) (hc:aY B w w') (hk:∀b∈B,∀(cs:Array Value) (e:TypeId),w.heap[b]?=some (.cells cs e (0,0))→e≠62∧e≠67∧e≠3):fe w' g Pp pc A n c T tc l ret:=by
 have key:∀{b:Nat} {cs:Array Value} {e:TypeId},w.heap[b]?=some (.cells cs e (0,0))→(e=62∨e=67∨e=3)→w'.heap[b]?=some (.cells cs e (0,0)):=fun{b cs e} hb he=>hc.obj hb fun hm=>by
  obtain⟨a1,a2,a3⟩:=hk b hm _ _ hb
  rcases he with he|he|he
  ·exact a1 he
  ·exact a2 he
  ·exact a3 he
 obtain⟨cs,hg,r⟩:=h.row
 refine⟨⟨cs,key hg (.inl rfl),r⟩,⟨h.ops.1,fun j o hj=>?_⟩,?_⟩
 ·obtain⟨g2,At,e,Qx,mc,r2⟩:=h.ops.2 j o hj
  exact⟨g2,At,e,Qx,key mc (.inr (.inl rfl)),r2⟩
 ·obtain⟨g2,At,e,Qx,mc,r2⟩:=h.par
  exact⟨g2,At,e,Qx,key mc (.inr (.inr rfl)),r2⟩
theorem dU.Ek (h:dU w g n c l):nK w (ad g) n c l:=by
 obtain⟨h1,h2,h3,cs,h4,h5⟩:=h
 exact⟨h1,fun j o hj=>⟨g,cs,rfl,h3,h4,h5 j o hj⟩⟩
theorem dk.Ek (h:dk w A n c l):nK w A n c l:=h
theorem cJ.same {S:Nat} {m:Nat} {l':List aE} (h:cJ w S A n c l) (ho:dk w' A m c l') (hm:m≤n) (hz:∀K,AR w A K→AR w' A K):cJ w' S A m c l':=by
 have hs:=hz _ h.size
 have hl:=ho.1
 obtain⟨h0,⟨h1,h2⟩|⟨g,c2,cur,h1,h2,h3,h4,h5,h6⟩⟩:=h.2
 ·cases h1
  have e:m=0:=by omega
  subst e
  have:l'=[]:=List.eq_nil_of_length_eq_zero hl
  subst this
  exact cJ.nil _ _
 ·cases h1
  obtain⟨cs,hg,cC⟩:=hs _ rfl
  exact cJ.of ho hg h2 cC (by omega) h5
theorem oW {P:Program} {ops:Array Oper} {o:Oper} {a:Act} {KK:Act→World→Prop} {Q:Exit→Act→World→Prop} {E:Prop} {t:TypeId} {v:Value} (yw:o.guard=none) (s x:Operand) (ho:o.op=.call {callee:=.builtin .append,args:= #[s,x],argTypes:= #[t,t]})
 {vs vx:Value} (hs:a.eval s=vs) (hx:a.eval x=vx) (cN:(Builtin.append_ #[t,t] o.type #[vs,vx]).run P w=.ok v w') (h:KK (a.put o.dst v) w'):if Region.wanted o (yielded ops a.tmps)=true then Oper.wp P o a w KK Q else E:=by
 have hw:Region.wanted o (yielded ops a.tmps)=true:=by simp[Region.wanted,yw]
 rw[if_pos hw]
 unfold Oper.wp execOp
 simp only[ho,resolve,invoke,builtin,Sem.run_bind,Sem.run_pure,Result.andThen_ok,List.map_toArray,List.map_cons,List.map_nil,hs,hx,cN]
 exact h
theorem Ak (w:World) (gr bk al df nm ob cm om:Nat) (Pp:Option Addr) (pc ga n c:Nat) (T:Option Addr) (tc:Nat) (s:St) (l:List aE) (ret:Int) (h:Gr w gr bk al df nm ob cm om Pp pc ga n c T tc s l ret) (hp:dT w Pp pc) (bB:jy l) (hf:Flat s.al) (hr:0≤ret) (Sn:l.map (bO s)=l) (hmr:bu s ret=ret) (dY:s.cm.length≤12):
 Calls Tryz.prog 42 #[.pointer (ad gr)] w (fun e w'=>aY [bk,ga] w w'∧∃H g cr A' c',e=.returned (.agg #[.slice (ad g) 1 cr])∧1≤cr∧H.Perm ((s.cm.map sK).filter fun o=>decide (o.res∈jf l ret))∧Ord H.length H∧fe w' g Pp pc A' (H.length+n) c' none 0 (H++l) ret):=by
 have qE:∀(fn:Fn) (first cap:Array Value) (w:World),(Instr.makeFunc fn first cap).run Tryz.prog w=.ok (.func fn first cap) w:=fun _ _ _ _=>rfl
 have vY:∀u:World,(Instr.makeMap 158 none).run Tryz.prog u=.ok (.map (some u.heap.size)) (u.alloc (.map #[] 0)):=fun u=>by kernel_rfl
 have xd:∀u:World,(Instr.makeMap 150 none).run Tryz.prog u=.ok (.map (some u.heap.size)) (u.alloc (.map #[] 0)):=fun u=>by kernel_rfl
 have l1:ak w.heap.size w (w.alloc (.cells #[Zs] 40)):=F0
 have a1:=ao w (.cells #[Zs] 40)
 have G1:=h.low l1
 have P1:=hp.low l1
 have po:n≤12:=h.small
 have dA:=cf bB;have Te:=cf hr;have Ea:=cf dY
 clear h hp dY
 go_enter Tryz.func42,Tryz.ntmps42
 go_upto_region 1 with fail
 obtain⟨z2,mE⟩:∃z2,z2=w.heap.size:=⟨_,rfl⟩
 have HZ2:=cf mE
 rw[←mE]at a1⊢
 clear mE
 generalize w.alloc (.cells #[Zs] 40)=w1 at l1 a1 G1 P1⊢
 have iT:=mW w1 gr bk al df nm ob cm om Pp pc ga n c T tc s l ret G1 bB hf hr
 rw[Sn,hmr]at iT
 clear bB hf hr Sn hmr
 go_upto_region 2 with(first
  |(go_at_call 87;(with_reducible refine iT.mono ?_);rintro e w2 ⟨rfl,ch2,T',oU,g2⟩))
 have hbk:∀(b:Nat) (cs:Array Value) (e:TypeId),w1.heap[b]?=some (Obj.cells cs e (0,0))→e=40∨e=3→b∉[bk,ga]:=by
  intro b cs e hb he hm
  obtain⟨_,_,_,csg,HJ,_⟩:=G1.ops
  simp only[List.mem_cons,List.not_mem_nil,or_false]at hm
  rcases hm with rfl|rfl
  ·rw[G1.b]at hb;cases hb;simp at he
  ·rw[HJ]at hb;cases hb;simp at he
 have c2:aY [bk,ga] w w2:=(aY.bD l1).trans ch2
 have a2:=ch2.obj a1 (hbk _ _ _ a1 (.inl rfl))
 have p2:=P1.cG ch2 (by
  intro b hb cs hc
  exact hbk _ _ _ hc (.inr rfl) hb)
 have G2:=cf g2;have C2:=cf c2;have A2:=cf a2;have P2:=cf p2
 clear l1 a1 G1 P1 iT ch2 g2 c2 a2 p2 hbk
 have tw:=ez w2 gr bk oU T' (Yc G2.out.g) (Yc G2.out.b)
 go_upto_region 3 with(first
  |(go_at_call 88;(with_reducible refine tw.mono ?_);rintro e w3 ⟨l3,r,cr,rfl,x3,Bi,oh⟩))
 have e4:Empty (w3.alloc (.map #[] 0)) w3.heap.size:=⟨0,ao w3 _⟩
 have l4:ak w3.heap.size w3 (w3.alloc (.map #[] 0)):=(ak.refl _ w3).alloc (Nat.le_refl _) _
 have G3:=cf (G2.out.low l3);have C3:=cf (C2.out.tail (l3.mono C2.out.size));have A3:=cf (l3.some A2.out);have P3:=cf (P2.out.low l3)
 have x4:(w3.alloc (.map #[] 0)).cell? ⟨r,0,none⟩=some (.pointer (ad bk)):=(World.cell?_of_block (a:=⟨r,0,none⟩) (l4.block r (bq x3))).trans x3
 obtain⟨es,cl,Qj⟩:=lJ (P:=Tryz.prog) (t:=158) Tryz.underlying158 zy e4 (.pointer (ad bk)) (G 0)
 have L4:=cf l4
 have L4':=cf (l4.setBlock (Nat.le_refl _) (.map es cl))
 have X3:=cf x3
 clear tw G2 C2 A2 P2 l3 l4 e4 x3
 go_upto_region 4 with fail
 go_wp2_with fail
 go_loopw[29] (fun i wr=>(i=G 0∧wr=w3.alloc (.map #[] 0))∨(i=G 1∧ak w3.heap.size w3 wr)) (fun i _=>1-(intOf i).toNat)
 case atStart=>exact .inl ⟨rfl,rfl⟩
 case round=>
  rcases hrel with⟨rfl,rfl⟩|⟨rfl,l5⟩
  ·go_wp2_with fail
   exact⟨.inr ⟨rfl,L4'.out⟩,by decide⟩
  ·obtain⟨w4,rfl⟩:∃u,u=wr:=⟨_,rfl⟩
   clear Qj x4 L4 L4'
   have l5s:=l5.size
   obtain⟨S,hS⟩:∃S,w4.heap.size=S:=⟨_,rfl⟩
   obtain⟨t1,s1,u1⟩:=av (.map #[] 0) hS
   obtain⟨t2,s2,u2⟩:=av (.cells #[.map (some S)] 150) s1
   obtain⟨t3,s3,u3⟩:=av (.cells #[Zs] 40) s2
   have v1:=u3 _ _ (u2 _ _ t1)
   have v2:=u3 _ _ t2
   have l6:ak w4.heap.size w4 (((w4.alloc (.map #[] 0)).alloc (.cells #[.map (some S)] 150)).alloc (.cells #[Zs] 40)):=((F0).alloc (by simp) _).alloc (by simp;omega) _
   have l36:=l5.trans (l6.mono l5.size)
   have G6:=cf (G3.out.low l36)
   have U6:=cf (show aQ .i64 (((w4.alloc (.map #[] 0)).alloc (.cells #[.map (some S)] 150)).alloc (.cells #[Zs] 40)) S (nc [])from⟨_,_,v1,aN _,by simp⟩)
   have Z6:=cf v2;have T6:=cf t3
   have x6:=(World.cell?_of_block (a:=⟨r,0,none⟩) (l36.block r (bq X3.out))).trans X3.out
   have HS3:=cf (show w3.heap.size≤S by omega)
   have L6:=cf l36
   clear l5 l6 l36 t1 t2 t3 X3 l5s u1 u2 u3 v1 v2
   go_upto_region 12 with fail
   clear hS
   generalize((w4.alloc (.map #[] 0)).alloc (.cells #[.map (some S)] 150)).alloc (.cells #[Zs] 40)=w6 at G6 L6 U6 Z6 T6 x6 s3⊢
   obtain⟨t7,oJ⟩:∃t,t=S+1:=⟨_,rfl⟩
   obtain⟨t9,Bh⟩:∃t,t=S+1+1:=⟨_,rfl⟩
   rw[←Bh,←oJ]
   have HT:=cf (And.intro oJ Bh)
   rw[←oJ]at Z6;rw[←Bh]at T6
   have nZ:Hid (w6.heap.size=t9+1):=cf (by omega)
   clear oJ Bh s1 s2 s3
   have b6:=jw G6.out.b
   have Uu:w6.cell? ⟨bk,0,none⟩=some (.slice Pp 1 pc)∧w6.cell? ⟨bk,1,none⟩=some (.slice (ad ga) n c)∧w6.cell? ⟨bk,2,none⟩=some (G 4)∧w6.cell? ⟨bk,3,none⟩=some (G ret):=⟨Yc G6.out.b,Yc G6.out.b,Yc G6.out.b,Yc G6.out.b⟩
   have Tb:=cf Uu
   have UW:Hid (∀o,(fun w':World=>w'.cell? ⟨bk,0,none⟩=some (.slice Pp 1 pc)∧w'.cell? ⟨bk,1,none⟩=some (.slice (ad ga) n c)∧w'.cell? ⟨bk,2,none⟩=some (G 4)∧w'.cell? ⟨bk,3,none⟩=some (G ret)) (w6.alloc o)):=cf (fun o=>by have l:ak w6.heap.size w6 (w6.alloc o):=F0;exact⟨Yc (l.some G6.out.b),Yc (l.some G6.out.b),Yc (l.some G6.out.b),Yc (l.some G6.out.b)⟩)
   clear Uu
   go_wp2_with fail
   go_loopw[42] (fun i wr=>(i=G 0∧wr=w6)∨(i=G 1∧ak w3.heap.size w3 wr∧aQ .i64 wr S (nc (jf l ret))∧wr.heap[t7]?=some (.cells #[.map (some S)] 150 (0,0))∧∃g cr,w3.heap.size≤g∧wr.heap[t9]?=some (.cells #[.slice (ad g) 1 cr] 40 (0,0))∧1≤cr∧fe wr g Pp pc (ad ga) n c none 0 l ret)) (fun i _=>1-(intOf i).toNat)
   case atStart=>exact .inl ⟨rfl,rfl⟩
   case round=>
    rcases hrel with⟨rfl,rfl⟩|⟨rfl,hC,hU,hZ,hF⟩
    ·obtain⟨w6,rfl⟩:∃u,u=wr:=⟨_,rfl⟩
     go_upto_region 15 with fail
     refine wp_region_noPanic ?_
     refine wp_region_held_drew (S:=fun w'=>w'.cell? ⟨bk,0,none⟩=some (.slice Pp 1 pc)∧w'.cell? ⟨bk,1,none⟩=some (.slice (ad ga) n c)∧w'.cell? ⟨bk,2,none⟩=some (G 4)∧w'.cell? ⟨bk,3,none⟩=some (G ret)) (by kernel_rfl) (by exact(by exact Tb.out)) (fun af=>?_)
     refine tk 0 af ?_
     refine tk 1 af ?_
     refine tk 2 af ?_
     refine tk 3 af ?_
     refine tk 4 af ?_
     refine tk 5 af ?_
     refine tk 6 af ?_
     refine tk 7 af ?_
     refine tk 8 af ?_
     refine tk 9 af ?_
     refine tk 10 af ?_
     refine tk 11 af ?_
     refine tk 12 af ?_
     refine tk 13 af ?_
     refine tk 14 af ?_
     refine tk 15 af ?_
     refine tk 16 af ?_
     refine tk 17 af ?_
     refine aG 18 fun KK aI=>?_
     go_simp
     refine aI.out _ _ (by exact(UW.out _)) (fun af=>?_)
     clear aI KK
     (try simp only[Act.put,bh])
     refine aG 19 fun KK aI=>?_
     go_simp
     refine aI.out _ _ (by exact(UW.out _)) (fun af=>?_)
     clear aI KK
     (try simp only[Act.put,bh])
     refine wpAnyH_done (by kernel_rfl) ?_ _
     refine NoPanic.normal ?_
     have l7:ak w6.heap.size w6 ((w6.alloc (.cells #[.slice Pp 1 pc,.slice (ad ga) n c,G 4,G ret,Zs] 62)).drew):=((ak.refl _ w6).alloc (Nat.le_refl _) _).drew
     have r7:((w6.alloc (.cells #[.slice Pp 1 pc,.slice (ad ga) n c,G 4,G ret,Zs] 62)).drew).heap[w6.heap.size]?=some (.cells #[.slice Pp 1 pc,.slice (ad ga) n c,G 4,G ret,Zs] 62 (0,0)):=ao w6 _
     have L7:=cf (L6.out.trans (l7.mono L6.out.size))
     have U7:=cf (show vO ((w6.alloc (.cells #[.slice Pp 1 pc,.slice (ad ga) n c,G 4,G ret,Zs] 62)).drew) t7 S [] [] ((w6.alloc (.cells #[.slice Pp 1 pc,.slice (ad ga) n c,G 4,G ret,Zs] 62)).drew)from⟨aY.refl _ _,U6.out.low l7,l7.some Z6.out⟩)
     have T7:=cf (l7.some T6.out);have R7:=cf r7
     have HTL:Hid (t7<((w6.alloc (.cells #[.slice Pp 1 pc,.slice (ad ga) n c,G 4,G ret,Zs] 62)).drew).heap.size∧S<((w6.alloc (.cells #[.slice Pp 1 pc,.slice (ad ga) n c,G 4,G ret,Zs] 62)).drew).heap.size):=cf (by
      have h1:=l7.size
      have h2:=nZ.out
      have h3:=HT.out
      omega)
     have ap6:Hid (t9<w6.heap.size):=cf (by have:=nZ.out;omega)
     clear UW Tb U6 T6 L6 G6 l7 af x6 b6 r7
     obtain⟨t12,jK⟩:∃t,t=w6.heap.size:=⟨_,rfl⟩
     rw[←jK]at R7 ap6⊢
     clear jK
     generalize(w6.alloc (.cells #[.slice Pp 1 pc,.slice (ad ga) n c,G 4,G ret,Zs] 62)).drew=w7 at R7 L7 U7 T7 HTL⊢
     have b7:w7.cell? ⟨bk,1,none⟩=some (.slice (ad ga) n c):=Yc (G3.out.low L7.out).b
     go_wp2_with fail
     go_loopw[69] (fun i wx=>∃q:Nat,i=G q∧q≤n∧vO w7 t7 S [] ((l.take q).flatMap bl) wx) (fun i _=>n-(intOf i).toNat)
     case atStart=>exact⟨0,rfl,by omega,U7.out⟩
     case round=>
      obtain⟨wv,rfl⟩:∃u,u=wr:=⟨_,rfl⟩
      obtain⟨q,rfl,hq,hU⟩:=hrel
      have lv:ak w3.heap.size w3 wv:=L7.out.trans (hU.1.low (by simpa using HS3.out) L7.out.size)
      have gv:=G3.out.low lv
      have hlen:l.length=n:=gv.ops.1
      by_cases bw:q<n
      ·have bN:(q:Int)<(n:Int):=by omega
       have nu:(0:Int)≤(q:Int):=by omega
       have mI:(q:Int)≤12:=by omega
       obtain⟨o,ho⟩:∃o,l[q]?=some o:=⟨_,List.getElem?_eq_getElem (by omega)⟩
       obtain⟨_,_,qD,cs,hg,eJ⟩:=gv.ops
       obtain⟨k0,k1,k2,k3,k4,k5⟩:=eJ q o ho
       obtain⟨c0,c1,c2,c3,c4,c5⟩:=iw hg k0 k1 k2 k3 k4 k5
       have Jl:aS o.code:=dA.out o (List.mem_of_getElem? ho)
       have l9:ak wv.heap.size wv (wv.alloc (OC o)):=F0
       have a9:=ao wv (OC o)
       have Fj:t7<(wv.alloc (OC o)).heap.size∧S<(wv.alloc (OC o)).heap.size:=by have h1:=HTL.out;have h2:=hU.1.size;have h3:=l9.size;omega
       have hUa:vO (wv.alloc (OC o)) t7 S (((l.take q).flatMap bl).foldl nI []) [] (wv.alloc (OC o)):=⟨aY.refl _ _,hU.2.1.low l9,l9.some hU.2.2⟩
       have HL:=cf (hU.1.tail (l9.mono hU.1.size));have HFT:=cf (SE ho)
       clear hU gv lv k0 k1 k2 k3 k4 k5 hg eJ b7 l9 ho
       go_upto_region 19 with fail
       clear c0 c1 c2 c3 c4 c5
       obtain⟨t14,ph⟩:∃t,t=wv.heap.size:=⟨_,rfl⟩
       rw[←ph]at a9⊢
       clear ph
       generalize wv.alloc (OC o)=wa at a9 Fj hUa HL⊢
       obtain⟨x0,x1,x2,x3,x4,x5⟩:=aC a9
       have jn:=zP (vO wa t7 S (((l.take q).flatMap bl).foldl nI [])) wa o 113 #[] #[.pointer (ad t7)] o.a o.b (LJ wa t7 S _ Fj.1 Fj.2) hUa Jl Kt (fun _=>tN wa t7 S _ [] o.a Fj.1 Fj.2) (fun _=>tN wa t7 S _ (dv o) o.b Fj.1 Fj.2)
       clear a9 hUa
       go_wp2_with(first
        |(go_at_call 85;(with_reducible refine jn.mono ?_);rintro e w8 ⟨rfl,Oe⟩))
       exact⟨⟨q+1,rfl,bw,HL.out.trans Oe.1,by rw[HFT.out,List.foldl_append];exact Oe.2.1,Oe.2.2⟩,by show n-((q:Int)+1).toNat<n-((q:Int)).toNat;omega⟩
      ·have bN:¬(q:Int)<(n:Int):=by omega
       obtain rfl:q=n:=by omega
       rw[List.take_of_length_le (by omega)]at hU
       have hb:wv.heap[bk]?=_:=gv.b
       have Qn:=gf wv bk ret Te.out (Yc hb) (Yc hb)
       have LV:=cf lv;have GV:=cf gv;have UV:=cf hU
       have Ub:∀(b:Nat) (cs:Array Value) (e:TypeId),w7.heap[b]?=some (Obj.cells cs e (0,0))→b∉[S]:=by
        intro b cs e hb hm
        rw[List.mem_singleton]at hm
        obtain⟨es,cl,hg,_⟩:=U7.out.2.1
        rw[←hm,hb]at hg
        cases hg
       have TV:=cf (hU.1.obj T7.out (Ub _ _ _ T7.out));have RV:=cf (hU.1.obj R7.out (Ub _ _ _ R7.out))
       clear hb lv gv hU b7 Ub
       go_upto_region 22 with(first
        |(go_at_call 97;(with_reducible refine Qn.mono ?_);rintro e w8 ⟨rfl,l8⟩))
       have G8:=cf (GV.out.low l8)
       have y3:=mM G8.out.b
       have Fi:=xr w8 t7 S _ (Yc (l8.some UV.out.2.2)) (UV.out.2.1.low l8) ret
       have L8:=cf (LV.out.trans (l8.mono LV.out.size));have T8:=cf (l8.some TV.out);have R8:=cf (l8.some RV.out);have Z8:=cf (l8.some UV.out.2.2)
       have U8:Hid (w8.heap[S]?=wv.heap[S]?):=cf (l8.block S (by obtain⟨es,cl,hg,_⟩:=UV.out.2.1;exact aB hg))
       clear Qn l8
       go_upto_region 23 with(first
        |(go_at_call 113;(with_reducible refine Fi.mono ?_);rintro e w9 ⟨rfl,Sx,JR,Hr⟩)
        |((with_reducible refine Fi.mono ?_);rintro e w9 ⟨rfl,Sx,JR,Hr⟩))
       have Ub:∀(b:Nat) (cs:Array Value) (e:TypeId),w8.heap[b]?=some (Obj.cells cs e (0,0))→b∉[S]:=by
        intro b cs e hb hm
        rw[List.mem_singleton]at hm
        obtain⟨es,cl,hg,_⟩:=UV.out.2.1
        obtain⟨es9,cl9,hg9,_⟩:=JR
        have h1:=Sx.size
        have Ns:w8.heap[S]?=some (.map es cl):=by
         have:=L8.out
         exact U8.out.trans hg
        rw[←hm,hb]at Ns
        cases Ns
       have L9:=cf (L8.out.trans (Sx.low (by simpa using HS3.out) L8.out.size))
       have T9:=cf (Sx.obj T8.out (Ub _ _ _ T8.out));have R9:=cf (Sx.obj R8.out (Ub _ _ _ R8.out));have Z9:=cf (Sx.obj Z8.out (Ub _ _ _ Z8.out))
       have U9:Hid (aQ .i64 w9 S (nc (jf l ret))):=cf (by unfold jf;rw[List.foldl_append];exact JR)
       have G9:=cf (G3.out.low L9.out)
       have y9:=vE G9.out.b
       clear Ub JR Sx Hr Fi y3 G8 L8 T8 R8 Z8 GV LV TV RV UV U8
       go_wp2_with fail
       go_loopw[90] (fun i wr=>i=G 0∧wr=w9) (fun _ _=>0)
       case atStart=>exact⟨rfl,rfl⟩
       case round=>
        obtain⟨rfl,rfl⟩:=hrel
        obtain⟨w9,rfl⟩:∃u,u=wr:=⟨_,rfl⟩
        clear y9
        have z0:=sf R9.out
        have t8:=bf T9.out
        obtain⟨g,cg,wB,cs,qz,l6,h6,Ia,k0,k1,k2,k3,k4,Qv⟩:=sl w9 (.slice Pp 1 pc) (.slice (ad ga) q c) (G 4) (G ret) Zs (by simp[Value.oneCell'])
        have oB:=l6.some T9.out
        have fB:wB.frozen? ⟨t9,0,none⟩=false:=au oB
        have xB:=bf oB
        have LB:=cf l6;have OB:=cf oB;have HK:=cf (show wB.heap[g]?=some (.cells cs 62 (0,0))∧cs[0]?=some (.slice Pp 1 pc)∧cs[1]?=some (.slice (ad ga) q c)∧cs[2]?=some (G 4)∧cs[3]?=some (G ret)∧cs[4]?=some Zs from⟨Ia,k0,k1,k2,k3,k4⟩)
        have W3:w9.heap.size≤g:=by omega
        clear l6 oB Ia k0 k1 k2 k3 k4
        go_upto_region 28 with fail
        go_upto_region 29 with(first
         |(at_builtin;refine aO rfl (.tmp 112) (.tmp 114) rfl rfl rfl qz ?_))
        have aj8:=aB T9.out
        have NT:g≠t9:=by omega
        have ZG:w3.heap.size≤t9:=by have:=HT.out.2;have:=HS3.out;omega
        have J4:S≠t9:=by have:=HT.out.2;omega
        have h79:t7≠t9:=by have:=HT.out;omega
        have LF:=cf ((L9.out.trans (LB.out.mono L9.out.size)).setCell ZG (i:=0) (.slice (ad g) 1 cg))
        have FF:=cf (show fe (wB.setCell ⟨t9,0,none⟩ (.slice (ad g) 1 cg)) g Pp pc (ad ga) q c none 0 l ret from⟨⟨cs,(aj NT).trans HK.out.1,HK.out.2⟩,(G3.out.low LF.out).ops.Ek,P3.out.low LF.out⟩)
        have TF:=cf (aD (i:=0) (v:=.slice (ad g) 1 cg) OB.out)
        have UF:=cf ((U9.out.low LB.out).aW (aj (i:=0) (v:=.slice (ad g) 1 cg) J4))
        have ZF:=cf ((aj (i:=0) (v:=.slice (ad g) 1 cg) h79).trans (LB.out.some Z9.out))
        clear xB fB aj8 NT ZG J4 h79
        go_wp2_with fail
        exact⟨.inr ⟨rfl,LF.out,UF.out,ZF.out,g,cg,Nat.le_trans L9.out.size W3,TF.out,Qv,FF.out⟩,by decide⟩
    ·obtain⟨g,cg,sU,Bh,Qv,Ux⟩:=hF
     obtain⟨wa,rfl⟩:∃u,u=wr:=⟨_,rfl⟩
     have gv:=G3.out.low hC
     have y6:=Pw gv.g
     obtain⟨ob1,Sh,hri⟩:=BO (P:=Tryz.prog) (t:=128) Tryz.underlying128 gv.ig
     have l5:ak wa.heap.size wa (wa.alloc ob1):=(ak.refl _ wa).alloc (Nat.le_refl _) _
     have LB:=cf (hC.trans (l5.mono hC.size));have TB:=cf (l5.some Bh);have FB:=cf (Ux.low l5);have UB:=cf (hU.low l5);have ZB:=cf (l5.some hZ);have RB:=cf hri
     have HG3:=cf sU
     have PM:Hid (w3.heap.size≤wa.heap.size∧t9<wa.heap.size∧g<wa.heap.size∧wa.heap.size<(wa.alloc ob1).heap.size):=cf ⟨hC.size,aB Bh,by obtain⟨cs,hg,_⟩:=Ux.row;exact aB hg,by simp⟩
     clear gv hri l5 hC hU hZ Bh Ux sU UW Tb U6 T6 b6 x6 L6 G6
     go_upto_region 32 with fail
     clear Sh y6
     obtain⟨VW,ab4⟩:∃t,t=wa.heap.size:=⟨_,rfl⟩
     rw[←ab4]at RB PM⊢
     clear ab4
     generalize wa.alloc ob1=wb at LB TB FB UB ZB RB PM⊢
     go_loopw[17] (fun v wr=>∃(V:List (Int×Value)) (A:Option Addr) (c':Nat),v=.slice A V.length c'∧aY [VW] wb wr∧eX .u16 wr VW cm (cc cA s.cm) V∧cJ wr wb.heap.size A V.length c' (V.map Sv)) (fun v _=>s.cm.length-aj4 v)
     case atStart=>exact⟨[],none,0,rfl,aY.refl _ _,RB.out,cJ.nil _ _⟩
     case round=>
      obtain⟨V,A,c',rfl,Qy,hR,hO⟩:=hrel
      obtain⟨wv,rfl⟩:∃u,u=wr:=⟨_,rfl⟩
      have hlen:(cc cA s.cm).length=s.cm.length:=by simp[cc]
      have hVl:V.length≤s.cm.length:=by have:=hR.mem.2;omega
      have au3:=Ea.out
      rcases EK (P:=Tryz.prog) hR with⟨dQ,CA⟩|⟨k,v,w',dQ,hR',hen,Of,cC,bw⟩
      ·have hH:(V.map Sv).Perm (s.cm.map sK):=by
        have:=CA.map Sv
        rwa[Su]at this
       have NH:∀(b:Nat) (o:Obj),wb.heap[b]?=some o→(∀a b c d,o≠.mapIter a b c d)→b∉[VW]:=by
        intro b o hb ho hm
        rw[List.mem_singleton]at hm
        obtain⟨_,si,se,c0,hi⟩:=RB.out.VL
        rw[←hm,hb]at hi
        cases hi
        exact ho _ _ _ _ rfl
       have lv:ak w3.heap.size w3 wv:=LB.out.trans (Qy.low (by have:=PM.out.1;simpa using this) LB.out.size)
       have tv:=Qy.obj TB.out (NH _ _ TB.out (by intros;simp))
       have zv:=Qy.obj ZB.out (NH _ _ ZB.out (by intros;simp))
       have uv:aQ .i64 wv S (nc (jf l ret)):=by
        obtain⟨es,cl,hg,_⟩:=UB.out
        exact UB.out.aW (Qy.block S (aB hg) (NH _ _ hg (by intros;simp)))
       have fv:=FB.out.cG Qy (fun b hb cs e hg=>absurd hb (NH _ _ hg (by intros;simp)))
       have gv:=G3.out.low lv
       have y7:=at7 gv.g
       obtain⟨ob2,Sh,a2,rfl⟩:=sA (P:=Tryz.prog) (t:=129) Tryz.underlying129 gv.lB
       have l5:ak wv.heap.size wv (wv.alloc (.mapIter (some om) a2 #[] a2)):=(ak.refl _ wv).alloc (Nat.le_refl _) _
       have zh:∀ty,(Instr.next (.pointer (ad (wv.heap.size))) false ty).run Tryz.prog (wv.alloc (.mapIter (some om) a2 #[] a2))=.ok (.tuple #[.bool false]) (wv.alloc (.mapIter (some om) a2 #[] a2)):=fun ty=>uE (ao _ _) (gv.lB.low l5)
       have LD:=cf (lv.trans (l5.mono lv.size));have TD:=cf (l5.some tv);have FD:=cf (fv.low l5);have UD:=cf (uv.low l5);have ZD:=cf (l5.some zv);have OD:=cf (hO.low l5)
       have Ta:Hid (wb.heap.size≤(wv.alloc (.mapIter (some om) a2 #[] a2)).heap.size):=cf (by have:=Qy.size;have:=l5.size;omega)
       have HH:=cf hH
       clear gv l5 lv tv zv uv fv NH hR hO Qy CA hH LB TB FB UB ZB RB
       go_upto_region 36 with fail
       clear Sh y7 dQ
       generalize wv.heap.size=it2 at zh⊢
       generalize wv.alloc (.mapIter (some om) a2 #[] a2)=wd at zh LD TD FD UD ZD OD Ta⊢
       go_loopw[17] (fun b wr=>b=.slice A V.length c'∧wr=wd) (fun _ _=>0)
       case atStart=>exact⟨rfl,rfl⟩
       case round=>
        obtain⟨rfl,rfl⟩:=hrel
        obtain⟨wd,rfl⟩:∃u,u=wr:=⟨_,rfl⟩
        have gR:re (fun o=> !decide (o.res∈jf l ret)) 114 wb.heap.size wd #[.pointer (ad t7)] (V.map Sv):=fun wx hx o _=>Ej wx t7 S (jf l ret) (Yc ((hx.block t7 (by have:=HT.out;have:=PM.out;omega)).trans ZD.out)) (UD.out.aW (hx.block S (by have:=HT.out;have:=PM.out;omega))) o
        have YE:∀a,A=some a→wb.heap.size≤a.block:=by
         rintro a rfl
         obtain⟨h0,⟨h1,_⟩|⟨g2,c2,cur,h1,h2,_⟩⟩:=OD.out.2
         ·cases h1
         ·cases h1;exact h2
        have ab9:=yI (fun o=> !decide (o.res∈jf l ret)) 114 Ks wb.heap.size wd A V.length c' (V.map Sv) #[.pointer (ad t7)] OD.out.LL (by omega) gR Ta.out YE
        have QM:=cf YE
        clear gR YE
        go_upto_region 40 with(first
         |(go_at_call 106;(with_reducible refine ab9.mono ?_);rintro e we ⟨le,n1,rfl,oe,ze⟩))
        have Ft:n1≤V.length:=by
         rw[←oe.1]
         unfold kept
         have:=List.length_filter_le (fun o=> !(!decide (o.res∈jf l ret))) (V.map Sv)
         rwa[List.length_map]at this
        have TS:=Mg wb.heap.size we A n1 c' _ oe (fun o ho=>by
         obtain⟨p,_,rfl⟩:=List.mem_map.1 ((List.mem_filter.1 ho).1)
         exact⟨rfl,rfl⟩) (by omega) (by have:=le.size;have:=Ta.out;omega) QM.out
        have LE:=cf le;have ZE:=cf ze
        clear ab9 le oe ze zh
        go_upto_region 41 with(first
         |(go_at_call 115;(with_reducible refine TS.mono ?_);rintro e wf ⟨rfl,HL,lf,of,pf,Y7,zf⟩))
        have Zk:ak wb.heap.size wd wf:=LE.out.trans lf
        have PH:=cf (OD.out.same of Ft (fun K hK=>zf K (ZE.out K hK)))
        obtain rfl:HL.length=n1:=of.1
        have hpH:HL.Perm ((s.cm.map sK).filter fun o=>decide (o.res∈jf l ret)):=by
         refine pf.trans ?_
         unfold kept
         simp only[Bool.not_not]
         exact HH.out.filter _
        have LF:=cf (LD.out.trans (Zk.mono (by have:=PM.out;omega)))
        have hTF:=(Zk.block t9 (by have:=PM.out;omega)).trans TD.out
        obtain⟨cs,ab6,q0,q1,q2,q3,q4⟩:=FD.out.row
        have uW:=(Zk.block g (by have:=PM.out;omega)).trans ab6
        have td:=bf hTF
        have d1:wf.cell? ⟨g,1,none⟩=some (.slice (ad ga) n c):=(Yc uW).trans q1
        have ly:Hid (wb.heap.size≤wf.drew.heap.size):=cf (show wb.heap.size≤wf.heap.size by have:=Zk.size;have:=Ta.out;omega)
        have Tb:=cf td;have HGC:=cf uW;have Q0:=cf q0;have Q1:=cf q1;have Q2:=cf q2;have Q3:=cf q3;have Q4:=cf q4;have TF:=cf hTF;have HPH:=cf hpH;have ar6:=cf Y7
        clear TS lf of pf Y7 zf Zk hpH hTF uW ab6 q0 q1 q2 q3 q4 LE ZE QM OD FD TD LD UD ZD
        clear td
        refine wp_region_noPanic ?_
        refine wp_region_held_drew (S:=fun w'=>w'.cell? ⟨t9,0,none⟩=some (.slice (ad g) 1 cg)) (by kernel_rfl) (by exact Tb.out) (fun af=>?_)
        refine tk 0 af ?_
        refine tk 1 af ?_
        refine tk 2 af ?_
        refine tk 3 af ?_
        refine tk 4 af ?_
        refine tk 5 af ?_
        refine tk 6 af ?_
        refine aG 7 fun KK aI=>?_
        go_simp
        refine aI.out _ _ (by exact Tb.out) (fun af=>?_)
        clear aI KK
        (try simp only[Act.put,bh])
        refine aG 8 fun KK aI=>?_
        obtain⟨A2,c2,wx,cN,ox,lx,hox⟩:=SW (PH.out.low ((ak.refl _ wf).drew)) ((G3.out.low LF.out).ops.low ((ak.refl _ wf).drew)) (by omega) ly.out
        refine oW rfl (.tmp 160) (.tmp 165) rfl rfl rfl cN ?_
        have Sr:=(lx.block g (by have:=PM.out;omega)).trans HGC.out
        have Sb:=(lx.block t9 (by have:=PM.out;omega)).trans TF.out
        have htx:=bf Sb
        have fx:wx.frozen? ⟨g,1,none⟩=false:=au Sr
        have dx:wx.cell? ⟨g,1,none⟩=some (.slice (ad ga) n c):=(Yc Sr).trans Q1.out
        have ZR:t9≠g:=by rintro rfl;rw[Sr]at Sb;cases Sb
        have HGX:=cf Sr;have OX:=cf ox;have LX:=cf lx
        have jq:(wx.setCell ⟨g,1,none⟩ (.slice A2 (HL.length+n) c2)).cell? ⟨t9,0,none⟩=some (.slice (ad g) 1 cg):=(World.cell?_of_block (a:=⟨t9,0,none⟩) (aj ZR)).trans htx
        clear cN ox lx hox Sr Sb
        refine aI.out _ _ (by exact htx) (fun af=>?_)
        clear aI KK
        (try simp only[Act.put,bh])
        refine tk 9 af ?_
        refine tk 10 af ?_
        refine aG 11 fun KK aI=>?_
        go_simp
        refine aI.out _ _ (by exact jq) (fun af=>?_)
        clear aI KK
        (try simp only[Act.put,bh])
        refine wpAnyH_done (by kernel_rfl) ?_ _
        refine NoPanic.normal ?_
        have lE:ak w3.heap.size w3 (wx.setCell ⟨g,1,none⟩ (.slice A2 (HL.length+n) c2)):=(LF.out.trans ((ak.refl _ wf).drew.trans (LX.out.mono (by have:=PM.out;omega)))).setCell HG3.out _
        have oE:nK (wx.setCell ⟨g,1,none⟩ (.slice A2 (HL.length+n) c2)) A2 (HL.length+n) c2 (HL++l):=(OX.out.other (fun b _ hb=>aj (by
         rintro rfl
         obtain⟨jH,hb⟩:=hb
         rw[HGX.out]at hb;cases hb))).LL.Ek
        have rE:=aD (i:=1) (v:=.slice A2 (HL.length+n) c2) HGX.out
        have cC:1<cs.size:=(Array.getElem?_eq_some_iff.1 Q1.out).1
        have FE:=cf (show fe (wx.setCell ⟨g,1,none⟩ (.slice A2 (HL.length+n) c2)) g Pp pc A2 (HL.length+n) c2 none 0 (HL++l) ret from⟨⟨_,rE,by rw[Array.getElem?_setIfInBounds_ne (by decide)];exact Q0.out,by rw[Array.getElem?_setIfInBounds_self_of_lt cC],by rw[Array.getElem?_setIfInBounds_ne (by decide)];exact Q2.out,by rw[Array.getElem?_setIfInBounds_ne (by decide)];exact Q3.out,by rw[Array.getElem?_setIfInBounds_ne (by decide)];exact Q4.out⟩,oE,P3.out.low lE⟩)
        have AE:=cf (lE.some A3.out);have LE:=cf lE
        have e9:=jq
        clear lE oE rE cC fx dx htx ZR jq d1
        clear af
        generalize wx.setCell ⟨g,1,none⟩ (.slice A2 (HL.length+n) c2)=wE at FE LE AE e9⊢
        have e2:=bf AE.out
        have f2:wE.frozen? ⟨z2,0,none⟩=false:=au AE.out
        have jz:=cf (show aY [bk,ga] w (wE.setCell ⟨z2,0,none⟩ (.slice (ad g) 1 cg))∧fe (wE.setCell ⟨z2,0,none⟩ (.slice (ad g) 1 cg)) g Pp pc A2 (HL.length+n) c2 none 0 (HL++l) ret from by
         have cZ:aY [z2] wE (wE.setCell ⟨z2,0,none⟩ (.slice (ad g) 1 cg)):=aY.setCell _ (List.mem_singleton.2 rfl) _
         refine⟨C3.out.tail ((LE.out.mono C3.out.size).setCell (by have:=HZ2.out;omega) _),FE.out.cG cZ (fun b hb cs e he=>?_)⟩
         rw[List.mem_singleton]at hb
         subst hb
         rw[AE.out]at he
         cases he
         decide)
        go_wp2_with fail
        have QC:(wE.setCell ⟨z2,0,none⟩ (.slice (ad g) 1 cg)).cell? ⟨z2,0,none⟩=some (.slice (ad g) 1 cg):=Yc (aD AE.out)
        exact bodyPost_ret (v:=.agg #[.slice (ad g) 1 cg]) (by simp[results,Tryz.results42,go_sem,QC];done) rfl ⟨jz.out.1,HL,g,cg,A2,c2,rfl,Qv,HPH.out,ar6.out,jz.out.2⟩
      ·obtain⟨z,rfl⟩:∃z,v=G z:=by
        have:=hR'.mem.1 (k,v) (by simp)
        unfold cc at this
        obtain⟨p,_,hp⟩:=List.mem_map.1 this
        have:v=cA p.2:=by have:=congrArg Prod.snd hp;exact this.symm
        exact⟨p.2,this⟩
       have YB:cJ w' wb.heap.size A V.length c' (V.map Sv):=hO.other (fun b _ hb=>by
        obtain⟨cs,hb⟩:=hb
        refine Of.block b (aB hb) ?_
        rw[List.mem_singleton]
        rintro rfl
        obtain⟨_,si,se,c0,hi⟩:=hR.VL
        rw[hb]at hi;cases hi)
       obtain⟨A5,c5,w5,fW,o5,l5,iM,WQ,Qz⟩:=AP YB ⟨1,z,0,0,k⟩ (by omega) (by have:=Qy.size;omega)
       have hR5:eX .u16 w5 VW cm (cc cA s.cm) (V++[(k,G z)]):=by
        obtain⟨⟨es,cl,h1⟩,si,se,c0,h2⟩:=hR'.VL
        exact hR'.aW (iM _ (aB h1) (by intro cs h;rw[h1]at h;cases h)) (iM _ (aB h2) (by intro cs h;rw[h2]at h;cases h))
       have hC5:aY [VW] wb w5:=(Qy.trans Of).tail l5
       have pn:(Builtin.append_ #[57,57] 57 #[.slice A V.length c',.slice (ad (w'.heap.size)) 1 1]).run Tryz.prog (w'.alloc (.cells #[G 1,G z,G 0,G 0,.int .u16 k,Zs] 67))=.ok (.slice A5 (V.length+1) c5) w5:=fW
       have HF:=cf (show∃(V':List (Int×Value)) (A':Option Addr) (c'':Nat),Value.slice A5 (V.length+1) c5=.slice A' V'.length c''∧aY [VW] wb w5∧eX .u16 w5 VW cm (cc cA s.cm) V'∧cJ w5 wb.heap.size A' V'.length c'' (V'.map Sv)from⟨V++[(k,G z)],A5,c5,by rw[List.length_append];rfl,hC5,hR5,by rw[List.map_append,List.length_append];exact o5⟩)
       clear hO YB hR hR' hR5 hC5 o5 l5 iM WQ Qz fW Qy Of cC
       go_wp2_with(first
        |(at_builtin;refine aO rfl (.tmp 128) (.tmp 132) rfl rfl rfl pn ?_))
       exact⟨HF.out,by show s.cm.length-(V.length+1)<s.cm.length-V.length;omega⟩
end Go.Proofs.YtjkahfmdcpfjjaaGreat
