/- The reference: canon: its closures. -/
import Derived.Test.YtjkahfmdcpfjjaaGreatD3
set_option linter.unusedVariables false
namespace Go.Proofs.YtjkahfmdcpfjjaaGreat
open Go.RowKit
section
def MP (m:List (Int×Int)) (o:aE):List (Int×Int):=if 0≤o.res then dj m o.res (m.length:Nat)else m
def fS (l:List aE):List (Int×Int):=l.foldl MP [(0,0)]
def bK (l:List aE) (v:Int):Int:=(aA (fS l) v).getD 0
def dw (f:Int→Int) (o:aE):aE:={o with res:=if 0≤o.res then f o.res else o.res,a:=if aZ o.code then f o.a else o.a,b:=if bc o.code then f o.b else o.b}
def eT (l:List aE):List aE:=l.map (dw (bK l))
variable {j k q:Nat} {o:aE}
theorem xX {l:List aE} (h:l[q]?=some o):fS (l.take (q+1))=MP (fS (l.take q)) o:=by
 unfold fS
 rw[List.take_add_one,h,List.foldl_append]
 rfl
theorem zH {l:List aE} (h:gJ l):∀q,q≤l.length→(fS (l.take q)).length=fl (l.take q)∧aA (fS (l.take q)) 0=some 0∧
 (∀(j:Nat) (o:aE),j<q→l[j]?=some o→0≤o.res→aA (fS (l.take q)) o.res=some (fl (l.take j):Int))∧
 (∀v,v≠0→(∀(j:Nat) (o:aE),j<q→l[j]?=some o→0≤o.res→o.res≠v)→aA (fS (l.take q)) v=none):=by
 intro q
 induction q with
 |zero=>intro _;refine⟨rfl,rfl,fun j _ hj=>absurd hj (by omega),fun v hv _=>?_⟩;simp[fS,aA];omega
 |succ q ih=>
  intro hq
  obtain⟨ih1,ih2,ih3,ih4⟩:=ih (by omega)
  obtain⟨o,ho⟩:∃o,l[q]?=some o:=⟨_,List.getElem?_eq_getElem (by omega)⟩
  rw[xX ho,qk ho]
  unfold MP
  by_cases h0:0≤o.res
  ·have fX:0<o.res:=by rcases h.pos o (List.mem_of_getElem? ho)with h1|h1<;>omega
   have nw:aA (fS (l.take q)) o.res=none:=ih4 _ (by omega) (fun j o' hj cP JB=>fun e=>h.mL j q o' o hj cP ho (by omega) e)
   rw[if_pos h0,if_pos h0]
   refine⟨by rw[ji nw];simp[ih1],?_,?_,?_⟩
   ·rw[cQ,if_neg (by omega)];exact ih2
   ·intro j o' hj cP JB
    rw[cQ]
    by_cases hjq:j=q
    ·subst hjq;rw[ho]at cP;cases cP
     rw[if_pos rfl,ih1]
    ·rw[if_neg (fun e=>h.mL j q o' o (by omega) cP ho (by rcases h.pos o' (List.mem_of_getElem? cP)with h1|h1<;>omega) e)]
     exact ih3 j o' (by omega) cP JB
   ·intro v hv kx
    rw[cQ,if_neg (fun e=>kx q o (by omega) ho h0 e.symm)]
    exact ih4 v hv (fun j o' hj=>kx j o' (by omega))
  ·rw[if_neg h0,if_neg h0]
   refine⟨ih1,ih2,?_,?_⟩
   ·intro j o' hj cP JB
    by_cases hjq:j=q
    ·subst hjq;rw[ho]at cP;cases cP;exact absurd JB h0
    ·exact ih3 j o' (by omega) cP JB
   ·intro v hv kx
    exact ih4 v hv (fun j o' hj=>kx j o' (by omega))
theorem VN {l:List aE} (h:j≤k):fl (l.take j)≤fl (l.take k):=by
 unfold fl
 have:((l.take j).filter (fun o=>decide (0≤o.res))).Sublist ((l.take k).filter (fun o=>decide (0≤o.res))):=(List.take_sublist_take_left h).filter _
 have:=this.length_le
 omega
theorem EY {l:List aE} (h:j<k) (ho:l[j]?=some o) (h0:0≤o.res):fl (l.take j)<fl (l.take k):=by
 have h1:=qk ho
 rw[if_pos h0]at h1
 have:=VN (l:=l) (show j+1≤k by omega)
 omega
theorem Jm (l:List aE) (q:Nat):fl (l.take q)≤l.length+1:=by
 unfold fl
 have h1:=List.length_filter_le (fun o:aE=>decide (0≤o.res)) (l.take q)
 have h2:=List.length_take_le' q l
 omega
section
variable {l : List aE}
theorem nP (h:gJ l):bK l 0=0:=by
 have:=(zH h l.length (Nat.le_refl _)).2.1
 rw[List.take_length]at this
 unfold bK;rw[this];rfl
theorem kK (h:gJ l) (ho:l[j]?=some o) (h0:0≤o.res):bK l o.res=(fl (l.take j):Int):=by
 have:=(zH h l.length (Nat.le_refl _)).2.2.1 j o (List.getElem?_eq_some_iff.1 ho).1 ho h0
 rw[List.take_length]at this
 unfold bK;rw[this];rfl
variable {v:Int}
theorem Cc (h:gJ l) {q':Nat} {u:Int} (hu:bs l q u) (hv:bs l q' v) (e:bK l u=bK l v):u=v:=by
 rcases hu with rfl|⟨u0,j,o,hj,ho,rfl⟩<;>rcases hv with rfl|⟨v0,k,o',hk,cP,rfl⟩
 ·rfl
 ·rw[nP h,kK h cP (by omega)]at e
  have:1≤fl (l.take k):=by unfold fl;omega
  omega
 ·rw[nP h,kK h ho (by omega)]at e
  have:1≤fl (l.take j):=by unfold fl;omega
  omega
 ·rw[kK h ho (by omega),kK h cP (by omega)]at e
  by_cases Fv:j<k
  ·have:=EY Fv ho (by omega);omega
  ·by_cases zq:k<j
   ·have:=EY zq cP (by omega);omega
   ·obtain rfl:j=k:=by omega
    rw[ho]at cP;cases cP;rfl
theorem jQ (f:Int→Int) (h:(l.map (dw f))[q]?=some o):∃o',l[q]?=some o'∧o=dw f o':=by
 rw[List.getElem?_map]at h
 cases e:l[q]? with
 |none=>rw[e]at h;cases h
 |some o'=>rw[e]at h;cases h;exact⟨o',rfl,rfl⟩
theorem Rj (f:Int→Int) (h:l[q]?=some o):(l.map (dw f))[q]?=some (dw f o):=by rw[List.getElem?_map,h];rfl
theorem B7 (f:Int→Int) (o:aE):bl (dw f o)=(bl o).map f:=by
 unfold bl dv il dw
 cases ha:aZ o.code<;>cases hb:bc o.code<;>simp[*]
theorem lO (h:gJ l) (ho:l[j]?=some o):(dw (bK l) o).res=if 0≤o.res then(fl (l.take j):Int)else-1:=by
 unfold dw
 simp only
 by_cases h0:0≤o.res
 ·rw[if_pos h0,if_pos h0,kK h ho h0]
 ·rw[if_neg h0,if_neg h0]
  rcases h.pos o (List.mem_of_getElem? ho)with h1|h1
  ·exact h1
  ·omega
theorem yi (h:gJ l) (hv:bs l q v):bs (eT l) q (bK l v):=by
 rcases hv with rfl|⟨v0,j,o,hj,ho,rfl⟩
 ·exact .inl (nP h)
 ·have h1:=lO h ho
  rw[if_pos (by omega)]at h1
  have h2:=kK h ho (by omega)
  have:1≤fl (l.take j):=by unfold fl;omega
  refine .inr ⟨by omega,j,_,hj,Rj _ ho,by rw[h1,h2]⟩
theorem LM (q:Nat):(eT l).take q=(l.take q).map (dw (bK l)):=by unfold eT;rw[List.map_take]
theorem Bx (h:gJ l) (ho:o∈l):(0≤(dw (bK l) o).res)↔0≤o.res:=by
 obtain⟨j,hj,e⟩:=List.mem_iff_getElem.1 ho
 have cP:l[j]?=some o:=by rw[List.getElem?_eq_getElem hj,e]
 rw[lO h cP]
 by_cases h0:0≤o.res
 ·rw[if_pos h0];constructor
  ·intro _;exact h0
  ·intro _;omega
 ·rw[if_neg h0];constructor
  ·intro h1;omega
  ·intro h1;omega
theorem RA (h:gJ l) (q:Nat):fl ((eT l).take q)=fl (l.take q):=by
 rw[LM]
 unfold fl
 rw[List.filter_map,List.length_map]
 congr 2
 apply List.filter_congr
 intro o ho
 have:=Bx h (List.take_subset q l ho)
 simp only[Function.comp_apply,decide_eq_decide]
 exact this
theorem SP (h:gJ l):pD (eT l):=by
 intro q o ho
 obtain⟨o',cP,rfl⟩:=jQ _ ho
 rw[RA h,lO h cP]
 by_cases h0:0≤o'.res
 ·rw[if_pos h0];exact .inr rfl
 ·rw[if_neg h0];exact .inl rfl
theorem Rg (h:gJ l):gJ (eT l):=by
 refine⟨fun o ho=>?_,fun j k o o' Fv ho cP h0=>?_⟩
 ·obtain⟨q,hq,e⟩:=List.mem_iff_getElem.1 ho
  obtain⟨o',cP,rfl⟩:=jQ _ (show(l.map (dw (bK l)))[q]?=some o by rw[show l.map (dw (bK l))=eT l from rfl,List.getElem?_eq_getElem hq,e])
  rw[lO h cP]
  by_cases h0:0≤o'.res
  ·rw[if_pos h0];right;unfold fl;omega
  ·rw[if_neg h0];exact .inl rfl
 ·obtain⟨x,hx,rfl⟩:=jQ _ ho
  obtain⟨y,hy,rfl⟩:=jQ _ cP
  rw[lO h hx]at h0⊢
  rw[lO h hy]
  by_cases TK:0≤x.res
  ·rw[if_pos TK]
   by_cases hy0:0≤y.res
   ·rw[if_pos hy0]
    have:=EY Fv hx TK
    omega
   ·rw[if_neg hy0];omega
  ·rw[if_neg TK]at h0;omega
end
structure eE (l:List aE) (ret:Int):Prop where
 form:∀o∈l,eZ o
 len:l.length≤40
 res:gJ l
 use:∀(k:Nat) (o:aE),l[k]?=some o→∀v∈bl o,bs l k v
 ret:bs l l.length ret
theorem eE.ren {l:List aE} {ret:Int} (h:eE l ret):kC (eT l) (bK l ret):=by
 refine⟨fun o ho=>?_,fun o ho=>?_,Rg h.res,fun k o ho v hv=>?_,?_⟩
 ·obtain⟨o',cP,rfl⟩:=List.mem_map.1 ho
  obtain⟨f1,f2,f3,f4,f5,f6,f7⟩:=h.form o' cP
  have hs:=Bx h.res cP
  refine⟨f1,fun e=>hs.2 (f2 e),fun e=>?_,fun e=>?_,f5,fun e=>?_,f7⟩
  ·have:=f3 e
   show(if 0≤o'.res then _ else o'.res)= -1
   rw[if_neg (by omega),this]
  ·have e':bc o'.code=false:=e
   show(if bc o'.code then _ else o'.b)=0
   rw[e'];exact f4 e'
  ·have e':aZ o'.code=false:=e
   show(if aZ o'.code then _ else o'.a)=0
   rw[e'];exact f6 e'
 ·obtain⟨q,hq,e⟩:=List.mem_iff_getElem.1 ho
  obtain⟨o',cP,rfl⟩:=jQ _ (show(l.map (dw (bK l)))[q]?=some o by rw[show l.map (dw (bK l))=eT l from rfl,List.getElem?_eq_getElem hq,e])
  rw[lO h.res cP]
  have:=Jm l q
  have:=h.len
  split<;>omega
 ·obtain⟨o',cP,rfl⟩:=jQ _ ho
  rw[B7]at hv
  obtain⟨u,hu,rfl⟩:=List.mem_map.1 hv
  exact yi h.res (h.use k o' cP u hu)
 ·have:=yi h.res h.ret
  rw[show(eT l).length=l.length by unfold eT;simp]
  exact this
end
section
set_option maxRecDepth 100000
set_option maxHeartbeats 8000000
theorem OZ:∀(args:Array Value) (w:World),(callFunc 83 args).run Tryz.prog w=.ok (.enter 83 args) w:=dM Tryz.func83 (by kernel_rfl) rfl
theorem nL (w:World) (z um:Nat) (m:List (Int×Int)) (v:Int) (hz:w.cell? ⟨z,0,none⟩=some (.map (some um))) (hm:aQ .i64 w um (cc cA m)):
 Calls Tryz.prog 83 #[G v,.pointer (ad z)] w (fun e w'=>e=.returned (G ((aA m v).getD 0))∧w'=w):=by
 have hl:(Instr.lookup 121 (.map (some um)) (G v) false).run Tryz.prog w=.ok (G ((aA m v).getD 0)) w:=by
  have:=aM (P:=Tryz.prog) (t:=121) Tryz.underlying121 Tryz.underlying3 hm (k:=v) (z:=G 0) (by kernel_rfl) false
  rw[ew]at this
  rw[this]
  cases aA m v<;>rfl
 clear hm
 generalize(aA m v).getD 0=r at hl⊢
 go_enter Tryz.func83,Tryz.ntmps83
 go_wp2_with fail
 go_ret
 exact⟨rfl,rfl⟩
theorem su (wa:World) (z um:Nat) (m:List (Int×Int)) (v:Int) (hz:wa.heap[z]?=some (.cells #[.map (some um)] 121 (0,0))) (hm:aQ .i64 wa um (cc cA m)) (S:Nat):DO S (fun wx=>ak wa.heap.size wa wx) (fun wx=>ak wa.heap.size wa wx) 83 #[] #[.pointer (ad z)] v ((aA m v).getD 0):=fun w1 h1 _=>by
 refine(nL w1 z um m v (Yc (h1.some hz)) (hm.low h1)).mono ?_
 rintro e w2 ⟨rfl,rfl⟩
 exact⟨rfl,h1,Nat.le_refl _,fun _ _ _=>rfl⟩
theorem bW.par {w:World} {S c:Nat} {A:Option Addr} (h:bW w S A 1 c [0]):dT w A c:=by
 obtain⟨h1,h2,h3⟩:=h.Ek
 obtain⟨g,cs,rfl,hg,h0⟩:=h3 0 0 rfl
 exact⟨g,cs,rfl,h2,hg,h0⟩
theorem SZ (w:World) (g c z um:Nat) (m:List (Int×Int)) (hg:w.cell? ⟨g,0,none⟩=some (G 0)) (hz:w.heap[z]?=some (.cells #[.map (some um)] 121 (0,0))) (hm:aQ .i64 w um (cc cA m)) (h0:aA m 0=some 0):
 Calls Tryz.prog 84 #[.slice (ad g) 1 c,.func (.func 83) #[] #[.pointer (ad z)]] w (fun e w'=>ak w.heap.size w w'∧∃Pp pc,e=.returned (.slice Pp 1 pc)∧dT w' Pp pc):=by
 have hv:∀(u:World),ak w.heap.size w u→Calls Tryz.prog 83 #[G 0,.pointer (ad z)] u (fun e w'=>e=.returned (G 0)∧w'=u):=fun u hl=>by
  have:=nL u z um m 0 (Yc (hl.some hz)) (hm.low hl)
  rw[h0]at this
  exact this
 have HV:=cf hv
 clear hv hm hz h0
 have hgs:=bq hg
 obtain⟨A4,c4,w4,iL,qB,vZ⟩:=j7 (bW.nil w w.heap.size) 0 (by omega) (Nat.le_refl _)
 rw[List.nil_append]at qB
 rw[Nat.zero_add]at iL qB
 have HF:=cf (And.intro vZ qB.par)
 clear qB vZ
 go_enter Tryz.func84,Tryz.ntmps84
 go_wp2_with fail
 go_loopw[10,5] (fun i s wr=>(i=G 0∧s=Zs∧wr=w)∨(i=G 1∧∃Pp pc,s=.slice Pp 1 pc∧ak w.heap.size w wr∧dT wr Pp pc)) (fun i _ _=>1-(intOf i).toNat)
 case atStart=>exact .inl ⟨rfl,rfl,rfl⟩
 case round=>
  rcases hrel with⟨rfl,rfl,rfl⟩|⟨rfl,Pp,pc,rfl,hl,hp⟩
  ·obtain⟨w,rfl⟩:∃u,u=wr:=⟨_,rfl⟩
   go_upto_region 6 with(first
    |(with_reducible refine(HV.out _ (ak.refl _ _)).mono ?_;rintro e w6 ⟨rfl,he6⟩;rw[he6];clear he6 w6)
    |(at_builtin;refine aO rfl (.tmp 14) (.tmp 18) rfl rfl rfl iL ?_))
   go_wp2_with fail
   exact⟨.inr ⟨rfl,A4,c4,rfl,HF.out.1,HF.out.2⟩,by decide⟩
  ·go_wp2_with fail
   go_ret
   exact⟨hl,Pp,pc,rfl,hp⟩
theorem zG (w:World) (t3 t4 t1 pm g cg tc:Nat) (self:Value) (T:Option Addr) (h3:w.heap[t3]?=some (.cells #[.map (some pm)] 121 (0,0))) (Fo:Empty w pm) (h4:w.heap[t4]?=some (.cells #[Zs] 22 (0,0))) (h1:w.heap[t1]?=some (.cells #[.slice (ad g) 1 cg] 40 (0,0))) (hg:w.cell? ⟨g,4,none⟩=some (.slice T 0 tc)) (ao4:∃cs,w.heap[g]?=some (.cells cs 62 (0,0))):
 Calls Tryz.prog 82 #[G 0,.pointer (ad t3),.pointer (ad t4),.pointer (ad t1),self] w (fun e w'=>e=.returned (.tuple #[])∧aY [pm,t4] w w'∧∃go co cs,w.heap.size≤go∧w'.heap[t4]?=some (.cells #[.slice (ad go) 1 co] 22 (0,0))∧w'.heap[go]?=some (.cells cs 3 (0,0))∧cs[0]?=some (G 0)):=by
 have hl:=lX (P:=Tryz.prog) (t:=121) Tryz.underlying121 EP Fo (z:=G 0) (by kernel_rfl) true (G 0)
 have Sp:(Instr.lookup 121 (.map (some pm)) (G 0) true).run Tryz.prog w=.ok (.tuple #[G 0,.bool false]) w:=hl
 obtain⟨es,cl,hu⟩:=lJ (P:=Tryz.prog) (t:=121) Tryz.underlying121 EP Fo (G 0) (G 0)
 have cH:∀{b:Nat} {cs:Array Value} {e:TypeId} {fr:Nat×Nat},w.heap[b]?=some (.cells cs e fr)→b≠pm:=fun{b cs e fr} hb he=>by
  subst he
  obtain⟨cl,h⟩:=Fo
  rw[hb]at h;cases h
 obtain⟨kz,JY⟩:=ao4
 have y3:=bf h3
 have y4:=bf h4
 have a4:=(bM (.map es cl) (cH h4)).trans h4
 have a1:=(bM (.map es cl) (cH h1)).trans h1
 have ag:=(bM (.map es cl) (cH JY)).trans JY
 have uW:kz[4]?=some (.slice T 0 tc):=(Yc JY).symm.trans hg
 have Yv:aY [pm,t4] w (Go.ChangeMaps.setBlock w pm (.map es cl)):=aY.setBlock _ (by simp) _
 have HGC:=cf uW
 clear hl Fo cH h3 h4 h1 hg JY uW
 go_enter Tryz.func82,Tryz.ntmps82
 go_upto_region 3 with fail
 clear Sp hu y3 y4
 generalize Go.ChangeMaps.setBlock w pm (.map es cl)=wA at a4 a1 ag Yv⊢
 have c4:=bf a4
 obtain⟨A9,cr,w9,yn,Wn,JT⟩:=j7 (bW.nil wA wA.heap.size) 0 (by omega) (Nat.le_refl _)
 rw[List.nil_append]at Wn
 rw[Nat.zero_add]at yn Wn
 have wk:∃g9 cs,A9=some ⟨g9,0,none⟩∧wA.heap.size≤g9∧w9.heap[g9]?=some (.cells cs 3 (0,0))∧cs[0]?=some (G 0):=by
  obtain⟨g9,cs,e,q1,q2⟩:=Wn.Ek.2.2 0 0 rfl
  refine⟨g9,cs,e,?_,q1,q2⟩
  rcases Wn.2.form with⟨e1,_⟩|⟨g8,c8,cs8,e1,e2,_⟩
  ·rw[e]at e1;cases e1
  ·rw[e]at e1;cases e1;exact e2
 obtain⟨g9,cs,rfl,W3,hr9,Z1⟩:=wk
 have o9:=JT.some a4
 have x9:=bf o9
 have f9:w9.frozen? ⟨t4,0,none⟩=false:=au o9
 have A4:=cf a4;have A1:=cf a1;have AG:=cf ag;have C0:=cf Yv;have L9:=cf JT;have R9:=cf hr9;have K9:=cf Z1;have O9:=cf o9
 clear a4 a1 ag Yv JT hr9 Z1 o9 Wn
 go_upto_region 4 with(first
  |(at_builtin;refine aO rfl (.tmp 21) (.tmp 23) rfl rfl rfl yn ?_))
 have uR:=aB A4.out
 have WC:g9≠t4:=by omega
 have ph:t1≠t4:=by
  rintro rfl
  have:=A4.out
  rw[A1.out]at this;cases this
 have Qu:g≠t4:=by
  rintro rfl
  have:=A4.out
  rw[AG.out]at this;cases this
 have e1:(w9.setCell ⟨t4,0,none⟩ (.slice (ad g9) 1 cr)).cell? ⟨t1,0,none⟩=some (.slice (ad g) 1 cg):=Yc ((aj ph).trans (L9.out.some A1.out))
 have eg:(w9.setCell ⟨t4,0,none⟩ (.slice (ad g9) 1 cr)).cell? ⟨g,4,none⟩=some (.slice T 0 tc):=(Yc ((aj Qu).trans (L9.out.some AG.out))).trans HGC.out
 have HF:=cf (show aY [pm,t4] w (w9.setCell ⟨t4,0,none⟩ (.slice (ad g9) 1 cr))∧(w9.setCell ⟨t4,0,none⟩ (.slice (ad g9) 1 cr)).heap[t4]?=some (.cells #[.slice (ad g9) 1 cr] 22 (0,0))∧(w9.setCell ⟨t4,0,none⟩ (.slice (ad g9) 1 cr)).heap[g9]?=some (.cells cs 3 (0,0))from⟨(C0.out.trans (aY.bD L9.out)).trans (aY.setCell _ (by simp) _),aD O9.out,(aj WC).trans R9.out⟩)
 have hgs:w.heap.size≤g9:=Nat.le_trans C0.out.size W3
 clear uR WC ph Qu x9 f9 c4 yn
 generalize w9.setCell ⟨t4,0,none⟩ (.slice (ad g9) 1 cr)=wB at e1 eg HF⊢
 go_wp2_with fail
 go_loopw[33] (fun i wr=>i=G 0∧wr=wB) (fun _ _=>0)
 case atStart=>exact⟨rfl,rfl⟩
 case round=>
  obtain⟨rfl,rfl⟩:=hrel
  go_wp2_with fail
  go_end0
  exact⟨rfl,HF.out.1,g9,cr,cs,hgs,HF.out.2.1,HF.out.2.2,K9.out⟩
theorem Gf {w:World} {t1 t2 pm t3 t4 t5:Nat} (o0 o1 o3 o4 o5:Obj) (h1:t1=w.heap.size) (h2:t2=t1+1) (h3:pm=t1+1+1) (h4:t3=t1+1+1+1) (h5:t4=t1+1+1+1+1) (h6:t5=t1+1+1+1+1+1):
 ∀w1,w1=(((((w.alloc o0).alloc o1).alloc (.map #[] 0)).alloc o3).alloc o4).alloc o5→ak w.heap.size w w1∧w1.heap[t1]?=some o0∧w1.heap[t2]?=some o1∧Empty w1 pm∧w1.heap[t3]?=some o3∧w1.heap[t4]?=some o4∧w1.heap[t5]?=some o5:=by
 rintro w1 rfl
 subst h2 h3 h4 h5 h6
 obtain⟨a1,s1,u1⟩:=av o0 h1.symm
 obtain⟨a2,s2,u2⟩:=av o1 s1
 obtain⟨a3,s3,u3⟩:=av (.map #[] 0) s2
 obtain⟨a4,s4,u4⟩:=av o3 s3
 obtain⟨a5,s5,u5⟩:=av o4 s4
 obtain⟨a6,s6,u6⟩:=av o5 s5
 exact⟨((((((ak.refl _ w).alloc (Nat.le_refl _) _).alloc (by omega) _).alloc (by omega) _).alloc (by omega) _).alloc (by omega) _).alloc (by omega) _,u6 _ _ (u5 _ _ (u4 _ _ (u3 _ _ (u2 _ _ a1)))),u6 _ _ (u5 _ _ (u4 _ _ (u3 _ _ a2))),⟨0,u6 _ _ (u5 _ _ (u4 _ _ a3))⟩,u6 _ _ (u5 _ _ a4),u6 _ _ a5,a6⟩
structure CI (w wx:World) (t1 t2 t4 go t6 um g cg co:Nat):Prop where
 lo:ak w.heap.size w wx
 TO:w.heap.size≤um
 f1:wx.heap[t1]?=some (.cells #[.slice (ad g) 1 cg] 40 (0,0))
 f2:wx.heap[t2]?=some (.cells #[Zs] 40 (0,0))
 f4:wx.heap[t4]?=some (.cells #[.slice (ad go) 1 co] 22 (0,0))
 YH:∃cs,wx.heap[go]?=some (.cells cs 3 (0,0))∧cs[0]?=some (G 0)
 f6:wx.heap[t6]?=some (.cells #[.map (some um)] 121 (0,0))
section
variable {w wx wy : World} {t1 t2 t4 go t6 um g cg co : Nat}
theorem CI.cG {B:List Nat} (h:CI w wx t1 t2 t4 go t6 um g cg co) (hc:aY B wx wy) (hB:∀b∈B,w.heap.size≤b∧∀cs e fr,wx.heap[b]?=some (.cells cs e fr)→e≠40∧e≠22∧e≠3∧e≠121):CI w wy t1 t2 t4 go t6 um g cg co:=by
 have key:∀{b:Nat} {cs:Array Value} {e:TypeId} {fr:Nat×Nat},wx.heap[b]?=some (.cells cs e fr)→(e=40∨e=22∨e=3∨e=121)→wy.heap[b]?=some (.cells cs e fr):=fun{b cs e fr} hb he=>hc.obj hb fun hm=>by
  obtain⟨_,h⟩:=hB b hm
  obtain⟨a,b,c,d⟩:=h _ _ _ hb
  rcases he with he|he|he|he
  ·exact a he
  ·exact b he
  ·exact c he
  ·exact d he
 obtain⟨cs,hg,h0⟩:=h.YH
 exact⟨h.lo.trans (hc.low (fun b hb=>(hB b hb).1) h.lo.size),h.TO,key h.f1 (.inl rfl),key h.f2 (.inl rfl),key h.f4 (.inr (.inl rfl)),⟨cs,key hg (.inr (.inr (.inl rfl))),h0⟩,key h.f6 (.inr (.inr (.inr rfl)))⟩
theorem CI.low (h:CI w wx t1 t2 t4 go t6 um g cg co) (hl:ak wx.heap.size wx wy):CI w wy t1 t2 t4 go t6 um g cg co:=h.cG (B:=[]) (aY.bD hl) (by simp)
theorem CI.put (h:CI w wx t1 t2 t4 go t6 um g cg co) {m:List (Int×Int)} (hm:aQ .i64 wx um (cc cA m)) (r:Int):(∀ty,(Builtin.len_ #[121] ty #[.map (some um)]).run Tryz.prog wx=.ok (G (m.length:Nat)) wx)∧∃cI tC,(Instr.mapUpdate 121 (.map (some um)) (G r) (G (m.length:Nat))).run Tryz.prog wx=.ok () (Go.ChangeMaps.setBlock wx um (.map cI tC))∧CI w (Go.ChangeMaps.setBlock wx um (.map cI tC)) t1 t2 t4 go t6 um g cg co∧aQ .i64 (Go.ChangeMaps.setBlock wx um (.map cI tC)) um (cc cA (dj m r (m.length:Nat))):=by
 obtain⟨cI,tC,hu,Lg,wo⟩:=tO (P:=Tryz.prog) (t:=121) Tryz.underlying121 Tryz.underlying3 hm (k:=r) (cA (m.length:Nat))
 rw[qe]at Lg
 obtain⟨es,cl,hg,he,_⟩:=hm
 have bw:=aB hg
 refine⟨fun ty=>?_,cI,tC,hu,h.cG (B:=[um]) (aY.setBlock _ (List.mem_singleton.2 rfl) _) ?_,cI,tC,jP _ bw,Lg,wo⟩
 ·have cC:es.size=m.length:=by
   have:=congrArg List.length he
   simpa[cc]using this
  simp[Builtin.len_,run_underlying Tryz.underlying121,MapKept.run_getObj_map hg,goInt,cC]
 ·intro b hb
  rw[List.mem_singleton]at hb
  subst hb
  refine⟨h.TO,fun cs e fr hb=>?_⟩
  rw[hg]at hb;cases hb
end
end
end Go.Proofs.YtjkahfmdcpfjjaaGreat
