/- sweep: what is struck. -/
import Derived.Test.YtjkahfmdcpfjjaaGreatBP
import Derived.Laws.IdiomCopy
import Derived.Lib.SliceRun
set_option linter.unusedVariables false
namespace Go.Proofs.YtjkahfmdcpfjjaaGreat
open Go.RowKit
section
set_option maxRecDepth 100000
set_option maxHeartbeats 8000000
def dk (w:World) (A:Option Addr) (n c:Nat) (l:List aE):Prop:=l.length=n∧∀j o,l[j]?=some o→∃g cs,A=some ⟨g,0,none⟩∧n≤c∧w.heap[g]?=some (.cells cs 67 (0,0))∧
 cs[j*6]?=some (G o.code)∧cs[j*6+1]?=some (G o.res)∧cs[j*6+2]?=some (G o.a)∧cs[j*6+3]?=some (G o.b)∧cs[j*6+4]?=some (.int .u16 o.n)∧cs[j*6+5]?=some Zs
variable {w':World} {A:Option Addr} {K S a b c g i n:Nat} {l:List aE}
theorem dk.low {w:World} (h:dk w A n c l) (hl:ak w.heap.size w w'):dk w' A n c l:=⟨h.1,fun j o hj=>by
 obtain⟨g,cs,e,hc,hg,r⟩:=h.2 j o hj
 exact⟨g,cs,e,hc,hl.some hg,r⟩⟩
theorem dU.LL {w:World} (h:dU w g n c l):dk w (ad g) n c l:=by
 obtain⟨h1,h2,h3,cs,h4,h5⟩:=h
 exact⟨h1,fun j o hj=>⟨g,cs,rfl,h3,h4,h5 j o hj⟩⟩
theorem dk.Vn {w:World} (h:dk w A n c l) (h0:l≠[]):∃g,A=some ⟨g,0,none⟩∧dU w g n c l:=by
 obtain⟨h1,h2⟩:=h
 have hp:0<l.length:=List.length_pos_iff.2 h0
 obtain⟨g,cs,rfl,h3,h4,_⟩:=h2 0 l[0] (List.getElem?_eq_getElem hp)
 refine⟨g,rfl,h1,by omega,h3,cs,h4,fun j o hj=>?_⟩
 obtain⟨g',jH,e,_,h4',h5⟩:=h2 j o hj
 cases e
 rw[h4]at h4'
 cases h4'
 exact h5
variable {v:Value}
theorem dk.uz {w:World} {base:Nat} (h:Own w base 67 6 v n (rowOf l)):∃A c,v=.slice A n c∧dk w A n c l:=by
 by_cases h0:l=[]
 ·have h1:=h.len
  rw[dp,h0]at h1
  have hn:n=0:=by simp at h1;omega
  obtain⟨A,c,e⟩:=h.shape
  exact⟨A,c,e,by rw[h0,hn];rfl,fun j o hj=>by rw[h0]at hj;simp at hj⟩
 ·obtain⟨g,c,e,_,ho⟩:=dU.uz h h0
  exact⟨_,c,e,ho.LL⟩
section
variable {P : Program} {t e size bytes base : Nat} {w : World}
theorem Bp (hE:Ap P t e size bytes) {ops:Array Oper} {rest:List Oper} {o:Oper} {a:Act} {Q:Exit→Act→World→Prop} (yw:o.guard=none) (s x:Operand) (ho:o.op=.call {callee:=.builtin .append,args:= #[s,x],argTypes:= #[t,t]})
 {v:Value} {n:Nat} {xs:List Value} (hs:a.eval s=v) (dy:Own w base e size v n xs) {ad:Addr} {m c:Nat} {news:List Value} (hx:a.eval x=.slice (some ad) m c) (hl:news.length=m*size) (CM:∀j u,news[j]?=some u→w.cell? (ad.add j)=some u) (h1:∀u∈news,u.oneCell'=true) (hn:n+m≤1048576) (hb:base≤w.heap.size)
 (h:∀v' w',vV w w' base e size v v' n xs m news→wpList P ops Q rest (a.put o.dst v') w'):wpList P ops Q (o::rest) a w:=by
 refine wpList_plain yw fun K hK=>?_
 obtain⟨ti,z,hi,hz,np,Bj,RZ⟩:=hE.info
 have uU:=hE.low
 have rS:(n+m)*bytes≤140737488355328:=by
  have:=Nat.mul_le_mul hn uU
  omega
 obtain⟨v',w',cN,h2,h3,_⟩:=run_append_own (P:=P) w base t o.type e ti z size bytes hE.ht hi hz np Bj RZ hE.pos v n xs dy ad m c news hl CM h1 (by have:maxLen=9223372036854775807:=rfl;omega) rS hb
 unfold Oper.wp execOp
 simp only[ho,resolve,invoke,builtin,Sem.run_bind,Sem.run_pure,Result.andThen_ok,List.map_toArray,List.map_cons,List.map_nil,hs,hx,cN]
 exact hK _ _ (h v' w' ⟨h2,h3.os,h3.output,h3.size,h3.block⟩)
end
theorem dk.row {w:World} (h:dk w (ad g) n c l):∀j u,(rowOf l)[j]?=some u→w.cell? ((⟨g,0,none⟩:Addr).add j)=some u:=fun j u hj=>by
 have ve:(⟨g,0,none⟩:Addr).add j=⟨g,j,none⟩:=by
  by_cases h0:j=0
  ·subst h0;simp[Addr.add]
  ·simp[Addr.add,h0]
 rw[ve]
 have bw:j<(rowOf l).length:=(List.getElem?_eq_some_iff.1 hj).1
 rw[dp]at bw
 have hi:j%6<6:=Nat.mod_lt _ (by decide)
 have hq:j/6<l.length:=by omega
 have BI:j/6*6+j%6=j:=by omega
 have ho:l[j/6]?=some l[j/6]:=List.getElem?_eq_getElem hq
 have hr:=BE ho (j%6) hi
 rw[BI,hj]at hr
 obtain⟨g',cs,e,qD,hg,k0,k1,k2,k3,k4,k5⟩:=h.2 _ _ ho
 cases e
 rw[Yc hg]
 generalize l[j/6]=o at*
 have h6:j%6=0∨j%6=1∨j%6=2∨j%6=3∨j%6=4∨j%6=5:=by omega
 rcases h6 with h6|h6|h6|h6|h6|h6<;>rw[h6]at hr BI<;>rw[←BI,hr]<;>assumption
theorem dk.VH {w:World} {base:Nat} (h:Own w base 67 6 v n (rowOf l)):∃A c,v=.slice A n c∧dk w A n c l∧∀a,A=some a→base≤a.block:=by
 obtain⟨A,c,hv,ho⟩:=dk.uz h
 refine⟨A,c,hv,ho,fun a ha=>?_⟩
 rcases h.form with⟨pG,_⟩|⟨g,c',cs,pG,hb,_⟩
 ·rw[hv]at pG;cases pG;cases ha
 ·rw[hv]at pG;cases pG;cases ha;exact hb
theorem I0 (l:List aE):∀u∈rowOf l,u.oneCell'=true:=fun u hu=>by
 unfold rowOf at hu
 obtain⟨o,_,hu⟩:=List.mem_flatMap.1 hu
 simp[aE.cells]at hu
 rcases hu with rfl|rfl|rfl|rfl|rfl|rfl<;>rfl
theorem KC (w:World) (A:Option Addr) (n c:Nat) (l:List aE) (h:dk w A n c l) (hn:n≤12):
 Calls Tryz.prog 77 #[.slice A n c] w (fun e w'=>ak w.heap.size w w'∧∃A' c',e=.returned (.slice A' n c')∧dk w' A' n c' l∧∀a,A'=some a→w.heap.size≤a.block):=by
 have hq:∀u,(binOp .eql 57 (.slice A n c) Zs).run Tryz.prog u=.ok (.bool A.isNone) u:=fun u=>Go.Lib.run_eql_slice_nil u 57 67 A n c 0 0 Tryz.underlying57
 have H:=cf h
 have hlen:=h.1
 cases A with
 |none=>
  have wZ:n=0:=by
   cases l with
   |nil=>exact hlen.symm
   |cons o l=>
    obtain⟨g,cs,e,_⟩:=h.2 0 o rfl
    cases e
  subst wZ
  obtain rfl:l=[]:=List.length_eq_zero_iff.1 hlen
  clear h
  go_enter Tryz.func77,Tryz.ntmps77
  go_wp2_with fail
  go_ret
  exact⟨ak.refl _ _,none,0,rfl,⟨rfl,by simp⟩,by simp⟩
 |some a=>
  clear h
  have xd:∀u:World,(Instr.buildSlice 57 0 #[]).run Tryz.prog u=.ok (.slice (ad (u.heap.size)) 0 0) (u.alloc (.cells #[] 67)):=fun u=>by kernel_rfl
  have h1:ak w.heap.size w (w.alloc (.cells #[] 67)):=(ak.refl _ w).alloc (Nat.le_refl _) _
  have dy:Own (w.alloc (.cells #[] 67)) w.heap.size 67 6 (.slice (ad (w.heap.size)) 0 0) 0 []:=⟨rfl,.inr ⟨w.heap.size,0,#[],rfl,Nat.le_refl _,ao w _,Nat.le_refl _,Nat.zero_le _,rfl,rfl⟩⟩
  have eJ:∀j u,(rowOf l)[j]?=some u→(w.alloc (.cells #[] 67)).cell? (a.add j)=some u:=fun j u hj=>by
   cases l with
   |nil=>simp[rowOf]at hj
   |cons o l'=>
    obtain⟨g,cs,e,_⟩:=H.out.2 0 o rfl
    cases e
    exact(H.out.low h1).row j u hj
  have HO:=cf dy;have HR:=cf eJ;have H1:=cf h1
  clear dy eJ h1
  go_enter Tryz.func77,Tryz.ntmps77
  go_upto_region 3 with fail
  go_wp2_with(first
   |(at_builtin;refine Bp (w:=w.alloc (.cells #[] 67)) (P:=Tryz.prog) (base:=w.heap.size) (n:=0) (m:=n) (xs:=[]) (news:=rowOf l) DF rfl (.tmp 5) (.tmp 6) rfl rfl HO.out rfl (by rw[dp,hlen]) HR.out (I0 l) (by omega) (by simp) ?_;intro v9 w9 yA;have JT:=cf (H1.out.trans (yA.low HO.out (Nat.le_refl _) (by simp)));have CD:Own w9 w.heap.size 67 6 v9 n (rowOf l):=(by have:=yA.own;simpa using this);obtain⟨A',c',rfl,h9,Yw⟩:=dk.VH CD;clear yA CD))
  go_ret
  exact⟨JT.out,A',c',rfl,h9,Yw⟩
def re (p:aE→Bool) (k:FuncId) (S:Nat) (w:World) (fZ:Array Value) (l:List aE):Prop:=∀wx,ak S w wx→∀o∈l,Calls Tryz.prog k (#[OV o]++fZ) wx (fun e w'=>e=.returned (.bool (p o))∧ak wx.heap.size wx w')
def kept (p:aE→Bool) (l:List aE):List aE:=l.filter fun o=> !p o
theorem nQ (p:aE→Bool) (l:List aE) (o:aE):kept p (l++[o])=if p o=true then kept p l else kept p l++[o]:=by
 unfold kept
 rw[List.filter_append]
 by_cases h:p o=true<;>simp[h]
variable {o:aE}
theorem nM {q:Nat} (h:l[q]?=some o):l.take (q+1)=l.take q++[o]:=by
 rw[List.take_add_one,h];rfl
theorem JJ (p:aE→Bool) (k:FuncId) (he:∀(args:Array Value) (w:World),(callFunc k args).run Tryz.prog w=.ok (.enter k args) w) (S:Nat) (w:World) (A:Option Addr) (n c:Nat) (l:List aE) (fZ:Array Value) (h:dk w A n c l) (hn:n≤12) (hf:re p k S w fZ l) (hS:S≤w.heap.size):
 Calls Tryz.prog 165 #[.slice A n c,.func (.func k) #[] fZ] w (fun e w'=>ak w.heap.size w w'∧((e=.returned (G (-1))∧kept p l=l)∨∃(i:Nat) (o:aE),e=.returned (G i)∧l[i]?=some o∧p o=true∧kept p (l.take i)=l.take i)):=by
 have H:=cf h;have HF:=cf hf
 have hlen:=cf h.1
 clear h hf
 go_enter Tryz.func165,Tryz.ntmps165
 go_wp2_with fail
 go_loopw[8] (fun i wr=>∃q:Nat,i=G q∧q≤n∧ak w.heap.size w wr∧kept p (l.take q)=l.take q) (fun i _=>n-(intOf i).toNat)
 case atStart=>exact⟨0,rfl,by omega,ak.refl _ _,rfl⟩
 case round=>
  obtain⟨wv,rfl⟩:∃u,u=wr:=⟨_,rfl⟩
  obtain⟨q,rfl,hq,hL,hk⟩:=hrel
  have gv:=H.out.low hL
  have HL:=cf hL;have HK:=cf hk
  clear hL hk
  by_cases bw:q<n
  ·have bN:(q:Int)<(n:Int):=by omega
   have nu:(0:Int)≤(q:Int):=by omega
   have mI:(q:Int)≤12:=by omega
   obtain⟨o,ho⟩:∃o,l[q]?=some o:=⟨_,List.getElem?_eq_getElem (by have:=hlen.out;omega)⟩
   obtain⟨g,cs,rfl,qD,hg,k0,k1,k2,k3,k4,k5⟩:=gv.2 q o ho
   have c0:=iw hg k0 k1 k2 k3 k4 k5
   have hP:=HF.out wv (HL.out.mono hS) o (List.mem_of_getElem? ho)
   have HO:=cf ho
   obtain⟨pp,hp⟩:∃pp,p o=pp:=⟨_,rfl⟩
   rw[hp]at hP
   have HP:=cf hp
   clear gv hg k0 k1 k2 k3 k4 k5 hp ho
   cases pp
   ·go_wp2_with(first
     |(with_reducible refine hP.mono ?_;rintro e w6 ⟨rfl,l6⟩))
    have Yu:¬p o=true:=by simpa using HP.out
    refine⟨⟨q+1,rfl,bw,HL.out.trans (l6.mono HL.out.size),?_⟩,by show n-((q:Int)+1).toNat<n-((q:Int)).toNat;omega⟩
    rw[nM HO.out,nQ,if_neg Yu,HK.out]
   ·go_wp2_with(first
     |(with_reducible refine hP.mono ?_;rintro e w6 ⟨rfl,l6⟩))
    go_ret
    have Yu:p o=true:=by simpa using HP.out
    exact⟨HL.out.trans (l6.mono HL.out.size),.inr ⟨q,o,rfl,HO.out,Yu,HK.out⟩⟩
  ·have bN:¬(q:Int)<(n:Int):=by omega
   go_wp2_with fail
   go_ret
   exact⟨HL.out,.inl ⟨rfl,by have:=HK.out;rw[List.take_of_length_le (by have:=hlen.out;omega)]at this;exact this⟩⟩
theorem By (g:Nat):∀(vs:List Value) (o:Nat) (w:World) (cs:Array Value) (e:TypeId) (fr:Nat×Nat),w.heap[g]?=some (.cells cs e fr)→
 ∃jH,(w.setCells g o vs).heap[g]?=some (.cells jH e fr)∧(∀k,k<o→jH[k]?=cs[k]?)∧(∀b,b≠g→(w.setCells g o vs).heap[b]?=w.heap[b]?)∧(w.setCells g o vs).heap.size=w.heap.size∧(w.setCells g o vs).os=w.os∧(w.setCells g o vs).output=w.output
 |[],o,w,cs,e,fr,h=>⟨cs,h,fun _ _=>rfl,fun _ _=>rfl,rfl,rfl,rfl⟩
 |v::vs,o,w,cs,e,fr,h=>by
  obtain⟨jH,h1,h2,h3,h4,h5,h6⟩:=By g vs (o+1) _ _ e fr (aD (i:=o) (v:=v) h)
  refine⟨jH,h1,fun k hk=>?_,fun b hb=>(h3 b hb).trans (aj hb),h4.trans (cW _ _ _),h5,h6⟩
  rw[h2 k (by omega),Array.getElem?_setIfInBounds_ne (by omega)]
theorem sd {w:World} {o:Nat} {cs:Array Value} (h:w.heap[g]?=some (.cells cs 67 (0,0))) (hn:0<n) (hs:o+n*6≤cs.size):
 ∃vs,∀ty,(Builtin.clear_ #[57] ty #[.slice (some ⟨g,o,none⟩) n c]).run Tryz.prog w=.ok (.tuple #[]) (w.setCells g o vs):=by
 have hz:∀w,(zeroValue 67).run Tryz.prog w=.ok (.agg #[G 0,G 0,G 0,G 0,.int .u16 0,Zs]) w:=fun w=>by kernel_rfl
 refine⟨(Builtin.zeroCells (Value.agg #[G 0,G 0,G 0,G 0,.int .u16 0,Zs]).cells n).toList,fun ty=>?_⟩
 have hlen:(Builtin.zeroCells (Value.agg #[G 0,G 0,G 0,G 0,.int .u16 0,Zs]).cells n).toList.length=n*6:=by
  rw[Array.length_toList,size_zeroCells];rfl
 have gR:=run_storeCells_cells (P:=Tryz.prog) g o (Builtin.zeroCells (Value.agg #[G 0,G 0,G 0,G 0,.int .u16 0,Zs]).cells n).toList 0 w
  (fun j hj=>by rw[hlen]at hj;rw[Yc h,Array.getElem?_eq_getElem (by omega)];rfl) (fun j hj=>au h) (fun v hv=>by
   simp only[Builtin.zeroCells,Array.toList_map,List.mem_map,Value.cells]at hv
   obtain⟨i,_,rfl⟩:=hv
   have:i%6<6:=Nat.mod_lt _ (by decide)
   have h6:i%6=0∨i%6=1∨i%6=2∨i%6=3∨i%6=4∨i%6=5:=by omega
   rcases h6 with h6|h6|h6|h6|h6|h6<;>simp[h6,Value.oneCell'])
 simp only[Nat.add_zero]at gR
 obtain⟨m,rfl⟩:∃m,n=m+1:=⟨n-1,by omega⟩
 simp only[Builtin.clear_,Sem.run_bind,List.getElem?_toArray,List.getElem?_cons_zero,run_underlying Tryz.underlying57,Result.andThen_ok,hz,gR]
 rfl
theorem dk.put {w:World} (h:dk w (ad g) n c l) (hi:i<n) (hn:n≤c) {cs:Array Value} (hg:w.heap[g]?=some (.cells cs 67 (0,0)))
 (hw:w'=(((((w.setCell ⟨g,i*6,none⟩ (G o.code)).setCell ⟨g,i*6+1,none⟩ (G o.res)).setCell ⟨g,i*6+2,none⟩ (G o.a)).setCell ⟨g,i*6+3,none⟩ (G o.b)).setCell ⟨g,i*6+4,none⟩ (.int .u16 o.n)).setCell ⟨g,i*6+5,none⟩ Zs):dk w' (ad g) n c (l.set i o):=by
 have hlen:=h.1
 obtain⟨o0,DV⟩:∃o0,l[i]?=some o0:=⟨_,List.getElem?_eq_getElem (by omega)⟩
 obtain⟨g',kz,e,_,JY,k0,k1,k2,k3,k4,k5⟩:=h.2 i o0 DV
 cases e
 rw[hg]at JY
 cases JY
 have KS:=aD (i:=i*6+5) (v:=Zs) (aD (i:=i*6+4) (v:=.int .u16 o.n) (aD (i:=i*6+3) (v:=G o.b) (aD (i:=i*6+2) (v:=G o.a) (aD (i:=i*6+1) (v:=G o.res) (aD (i:=i*6) (v:=G o.code) hg)))))
 rw[←hw]at KS
 have cC:i*6+5<cs.size:=(Array.getElem?_eq_some_iff.1 k5).1
 refine⟨by simpa using hlen,fun j o' hj=>⟨g,_,rfl,hn,KS,?_⟩⟩
 rw[List.getElem?_set]at hj
 by_cases oK:i=j
 ·subst oK
  rw[if_pos rfl,if_pos (by omega)]at hj
  cases hj
  simp[Array.getElem?_setIfInBounds,Nat.lt_of_succ_lt,cC]
  omega
 ·rw[if_neg oK]at hj
  obtain⟨g',YI,e,_,Fz,q0,q1,q2,q3,q4,q5⟩:=h.2 j o' hj
  cases e
  rw[hg]at Fz
  cases Fz
  refine⟨?_,?_,?_,?_,?_,?_⟩
  all_goals
   rw[Array.getElem?_setIfInBounds_ne (by omega),Array.getElem?_setIfInBounds_ne (by omega),Array.getElem?_setIfInBounds_ne (by omega),Array.getElem?_setIfInBounds_ne (by omega),Array.getElem?_setIfInBounds_ne (by omega),Array.getElem?_setIfInBounds_ne (by omega)]
   assumption
theorem QX (ha:a<n) (hn:n≤c):∀u,(Instr.slice 57 (.slice (ad g) n c) (some (G (a:Int))) none none).run Tryz.prog u=.ok (.slice (some ⟨g,a*6,none⟩) (n-a) (c-a)) u:=fun u=>by
 have hu:=Tryz.underlying57
 have h33:∀u,(sizeOf 67).run Tryz.prog u=.ok 6 u:=fun u=>by kernel_rfl
 have h2:a≤n:=by omega
 have h3:c≠a:=by omega
 by_cases h0:a=0
 ·subst h0
  simp[Instr.slice,go_sem,run_underlying hu,h33,Addr.add]
 ·have h4:¬a*6=0:=by omega
  have h5:¬c-a=0:=by omega
  have h6:a≤c:=by omega
  simp[Instr.slice,go_sem,run_underlying hu,h33,Addr.add,h2]
  rw[if_neg h3,if_neg h4]
theorem Ss (ha:a<n) (hn:n≤c):∀u,(Instr.slice 57 (.slice (ad g) n c) none (some (G (a:Int))) none).run Tryz.prog u=.ok (.slice (ad g) a c) u:=fun u=>by
 have hu:=Tryz.underlying57
 have h33:∀u,(sizeOf 67).run Tryz.prog u=.ok 6 u:=fun u=>by kernel_rfl
 have h3:a≤c:=by omega
 simp[Instr.slice,go_sem,run_underlying hu,h33,Addr.add,h3]
def Iz (w:World) (g K:Nat):Prop:=∃cs,w.heap[g]?=some (.cells cs 67 (0,0))∧cs.size=K
theorem Iz.low {w:World} (h:Iz w g K) (hl:ak w.heap.size w w'):Iz w' g K:=by
 obtain⟨cs,h1,h2⟩:=h
 exact⟨cs,hl.some h1,h2⟩
theorem Iz.set {w:World} (h:Iz w g K):Iz (w.setCell ⟨b,i,none⟩ v) g K:=by
 obtain⟨cs,h1,h2⟩:=h
 by_cases hb:g=b
 ·subst hb
  exact⟨_,aD h1,by simpa using h2⟩
 ·exact⟨cs,(aj hb).trans h1,h2⟩
theorem Iz.setCells:∀(vs:List Value) (o:Nat) (w:World),Iz w g K→Iz (w.setCells g o vs) g K
 |[],_,_,h=>h
 |v::vs,o,w,h=>Iz.setCells vs (o+1) _ (h.set (b:=g) (i:=o) (v:=v))
def AR (w:World) (A:Option Addr) (K:Nat):Prop:=∀a,A=some a→Iz w a.block K
def af3 (S:Nat) (w w':World) (g:Nat):Prop:=ak S w w'∧∀K,Iz w g K→Iz w' g K
def yS (p:aE→Bool) (S:Nat) (w:World) (g n c:Nat) (l:List aE) (a b:Nat) (wx:World):Prop:=af3 S w wx g∧a<b∧b≤n∧∃L,dk wx (ad g) n c L∧L.take a=kept p (l.take b)∧L.drop b=l.drop b
theorem yS.low {p:aE→Bool} {w wx wy:World} (h:yS p S w g n c l a b wx) (hl:ak wx.heap.size wx wy) (hS:S≤w.heap.size):yS p S w g n c l a b wy:=by
 obtain⟨h1,h2,h3,L,h4,h5⟩:=h
 exact⟨⟨h1.1.trans (hl.mono (Nat.le_trans hS h1.1.size)),fun K hk=>(h1.2 K hk).low hl⟩,h2,h3,L,h4.low hl,h5⟩
theorem RM {w:World} {k:Nat} {v0 v1 v2 v3 v4 v5:Value} (hg:S≤g):ak S w ((((((w.setCell ⟨g,k,none⟩ v0).setCell ⟨g,k+1,none⟩ v1).setCell ⟨g,k+2,none⟩ v2).setCell ⟨g,k+3,none⟩ v3).setCell ⟨g,k+4,none⟩ v4).setCell ⟨g,k+5,none⟩ v5):=
 ((((((ak.refl S w).setCell hg _).setCell hg _).setCell hg _).setCell hg _).setCell hg _).setCell hg _
theorem yI (p:aE→Bool) (k:FuncId) (he:∀(args:Array Value) (w:World),(callFunc k args).run Tryz.prog w=.ok (.enter k args) w) (S:Nat) (w:World) (A:Option Addr) (n c:Nat) (l:List aE) (fZ:Array Value) (h:dk w A n c l) (hn:n≤12) (hf:re p k S w fZ l) (hS:S≤w.heap.size) (hA:∀a,A=some a→S≤a.block):
 Calls Tryz.prog 106 #[.slice A n c,.func (.func k) #[] fZ] w (fun e w'=>ak S w w'∧∃n',e=.returned (.slice A n' c)∧dk w' A n' c (kept p l)∧∀K,AR w A K→AR w' A K):=by
 have hix:=JJ p k he S w A n c l fZ h hn hf hS
 have H:=cf h;have HF:=cf hf
 have hlen:=cf h.1
 clear h hf
 go_enter Tryz.func106,Tryz.ntmps106
 go_upto_region 2 with(first
  |(go_at_call 165;with_reducible refine hix.mono ?_;rintro e w1 ⟨l1,h1⟩;rcases h1 with⟨rfl,hk⟩|⟨i,o,rfl,ho,Yu,hk⟩))
 ·have L1:=cf l1;have HK:=cf hk
  clear l1 hk
  go_wp2_with fail
  go_ret
  exact⟨L1.out.mono hS,n,rfl,by rw[HK.out];exact H.out.low L1.out,fun K hk a ha=>(hk a ha).low L1.out⟩
 ·have hi:i<l.length:=(List.getElem?_eq_some_iff.1 ho).1
  have uV:i<n:=by have:=hlen.out;omega
  obtain⟨g,cs,rfl,qD,hg,_⟩:=H.out.2 i o ho
  have hgS:=hA _ rfl
  have h0:yS p S w g n c l i (i+1) w1:=⟨⟨l1.mono hS,fun K hk=>hk.low l1⟩,by omega,by omega,l,H.out.low l1,by rw[nM ho,nQ,if_pos Yu,hk],rfl⟩
  have H0:=cf h0
  have ao2:i<12:=by omega
  have Qg:IntKind.i64.wrap ((i:Int)+1)=(i:Int)+1:=IntWalk.i64_in _ (by omega)
  have cH:¬(i:Int)= -1:=by omega
  clear hix l1 h0 Yu hk hi hg
  go_wp2_with fail
  go_loopw[5,6] (fun i j wr=>∃a b:Nat,i=G a∧j=G b∧yS p S w g n c l a b wr) (fun _ j _=>n-(intOf j).toNat)
  case atStart=>exact⟨i,i+1,rfl,rfl,H0.out⟩
  case round=>
   obtain⟨wv,rfl⟩:∃u,u=wr:=⟨_,rfl⟩
   obtain⟨a,b,rfl,rfl,hD⟩:=hrel
   have Sz:=hD.2.1
   have hbn:=hD.2.2.1
   clear H0 Qg cH
   by_cases bw:b<n
   ·have bN:(b:Int)<(n:Int):=by omega
    have nu:(0:Int)≤(b:Int):=by omega
    have mI:(b:Int)≤12:=by omega
    have hwb:IntKind.i64.wrap ((b:Int)+1)=(b:Int)+1:=IntWalk.i64_in _ (by omega)
    have hwa:IntKind.i64.wrap ((a:Int)+1)=(a:Int)+1:=IntWalk.i64_in _ (by omega)
    have tx:(0:Int)≤(a:Int):=by omega
    have han:(a:Int)<(n:Int):=by omega
    have hDD:=hD
    obtain⟨uU,_,_,L,hL,ht,hd⟩:=hDD
    obtain⟨o,ho⟩:∃o,l[b]?=some o:=⟨_,List.getElem?_eq_getElem (by have:=hlen.out;omega)⟩
    have hoL:L[b]?=some o:=by
     have h1:(L.drop b)[0]?=(l.drop b)[0]?:=by rw[hd]
     simpa[ho]using h1
    obtain⟨g',cs,e,_,hg,k0,k1,k2,k3,k4,k5⟩:=hL.2 b o hoL
    cases e
    have c0:=iw hg k0 k1 k2 k3 k4 k5
    have l9:ak wv.heap.size wv (wv.alloc (OC o)):=F0
    have a9:=ao wv (OC o)
    have D9:=hD.low l9 hS
    have O:=cf ho
    clear uU hL ht hd hg k0 k1 k2 k3 k4 k5 hoL ho hD
    go_upto_region 8 with fail
    clear c0 l9
    generalize wv.heap.size=t7 at a9⊢
    generalize wv.alloc (OC o)=wa at a9 D9⊢
    have x0:=aC a9
    have hP:=HF.out wa D9.1.1 o (List.mem_of_getElem? O.out)
    have DD:=cf D9
    have A9:=cf a9
    clear D9 a9
    by_cases h3:p o=true
    ·have hp:p o=true:=h3
     rw[hp]at hP
     have H3:=cf h3
     clear h3 hp
     go_wp2_with(first
      |(with_reducible refine hP.mono ?_;rintro e w6 ⟨rfl,l6⟩))
     obtain⟨q1,q2,q3,L,q4,q5,q6⟩:=DD.out.low l6 hS
     refine⟨⟨a,b+1,rfl,by simp,q1,by omega,bw,L,q4,?_,?_⟩,by show n-((b:Int)+1).toNat<n-((b:Int)).toNat;omega⟩
     ·rw[nM O.out,nQ,if_pos H3.out,q5]
     ·rw[←List.drop_drop,←List.drop_drop,q6]
    ·have hp:p o=false:=by simpa using h3
     rw[hp]at hP
     have H3:=cf h3
     clear h3 hp
     go_upto_region 9 with(first
      |(with_reducible refine hP.mono ?_;rintro e w6 ⟨rfl,l6⟩))
     have a6:=l6.some A9.out
     obtain⟨q1,q2,q3,L,q4,q5,q6⟩:=DD.out.low l6 hS
     obtain⟨oa,wJ⟩:∃oa,L[a]?=some oa:=⟨_,List.getElem?_eq_getElem (by have:=q4.1;omega)⟩
     obtain⟨g',cs,e,Sl,hg,k0,k1,k2,k3,k4,k5⟩:=q4.2 a oa wJ
     cases e
     clear x0 hP
     have x0:=aC a6
     have c0:=iw hg k0 k1 k2 k3 k4 k5
     have f0:w6.frozen? ⟨g,a*6,none⟩=false:=au hg
     have f1:w6.frozen? ⟨g,a*6+1,none⟩=false:=au hg
     have f2:w6.frozen? ⟨g,a*6+2,none⟩=false:=au hg
     have f3:w6.frozen? ⟨g,a*6+3,none⟩=false:=au hg
     have f4:w6.frozen? ⟨g,a*6+4,none⟩=false:=au hg
     have f5:w6.frozen? ⟨g,a*6+5,none⟩=false:=au hg
     have aH:Hid (∀wF,wF=(((((w6.setCell ⟨g,a*6,none⟩ (G o.code)).setCell ⟨g,a*6+1,none⟩ (G o.res)).setCell ⟨g,a*6+2,none⟩ (G o.a)).setCell ⟨g,a*6+3,none⟩ (G o.b)).setCell ⟨g,a*6+4,none⟩ (.int .u16 o.n)).setCell ⟨g,a*6+5,none⟩ Zs→yS p S w g n c l (a+1) (b+1) wF):=cf (by
      intro wF hF
      have aa8:=q4.1
      refine⟨?_,by omega,bw,L.set a o,q4.put (by omega) Sl hg hF,?_,?_⟩
      ·rw[hF];exact⟨q1.1.trans (RM hgS),fun K hk=>(q1.2 K hk).set.set.set.set.set.set⟩
      ·rw[nM O.out,nQ,if_neg H3.out,←q5,List.take_add_one,List.take_set,List.getElem?_set,if_pos rfl,if_pos (by omega),List.set_eq_of_length_le (by rw[List.length_take];omega)]
       rfl
      ·rw[List.drop_set,if_pos (by omega),←List.drop_drop,←List.drop_drop,q6])
     clear a6 q1 q2 q3 q4 q5 q6 wJ hg k0 k1 k2 k3 k4 k5
     go_wp2_with fail
     exact⟨⟨a+1,b+1,by simp,by simp,aH.out _ rfl⟩,by show n-((b:Int)+1).toNat<n-((b:Int)).toNat;omega⟩
   ·obtain rfl:b=n:=by omega
    have bN:¬(b:Int)<(b:Int):=by omega
    obtain⟨q1,_,_,L,q4,q5,q6⟩:=hD
    have aa8:=q4.1
    obtain⟨oa,wJ⟩:∃oa,L[b-1]?=some oa:=⟨_,List.getElem?_eq_getElem (by omega)⟩
    obtain⟨g',cs,e,Sl,hg,k0,k1,k2,k3,k4,k5⟩:=q4.2 (b-1) oa wJ
    cases e
    have cC:(b-1)*6+5<cs.size:=(Array.getElem?_eq_some_iff.1 k5).1
    have Ym:=QX (g:=g) Sz Sl
    have ja:=Ss (g:=g) Sz Sl
    obtain⟨vs,rR⟩:=sd (o:=a*6) (n:=b-a) (c:=c-a) hg (by omega) (by omega)
    obtain⟨jH,s1,s2,s3,s4,s5,s6⟩:=By g vs (a*6) wv cs 67 (0,0) hg
    have aH:Hid (ak S w (wv.setCells g (a*6) vs)∧dk (wv.setCells g (a*6) vs) (ad g) a c (kept p l)∧∀K,AR w (ad g) K→AR (wv.setCells g (a*6) vs) (ad g) K):=cf (by
     have hk:kept p l=L.take a:=by rw[q5,List.take_of_length_le (by have:=hlen.out;omega)]
     refine⟨q1.1.trans ⟨s5,s6,by rw[s4];exact Nat.le_refl _,fun k hk=>s3 k (by omega)⟩,⟨by rw[hk,List.length_take];omega,fun j o hj=>?_⟩,fun K hK a' pV=>by cases pV;exact Iz.setCells vs _ _ (q1.2 K (hK _ rfl))⟩
     rw[hk,List.getElem?_take]at hj
     split at hj
     ·obtain⟨g2,At,e,_,mc,p0,p1,p2,p3,p4,p5⟩:=q4.2 j o hj
      cases e
      rw[hg]at mc
      cases mc
      exact⟨g,jH,rfl,by omega,s1,(s2 _ (by omega)).trans p0,(s2 _ (by omega)).trans p1,(s2 _ (by omega)).trans p2,(s2 _ (by omega)).trans p3,(s2 _ (by omega)).trans p4,(s2 _ (by omega)).trans p5⟩
     ·cases hj)
    clear q1 q4 q5 q6 wJ hg k0 k1 k2 k3 k4 k5 s1 s2 s3 s4 s5 s6 cC
    go_wp2_with fail
    go_ret
    exact⟨aH.out.1,a,rfl,aH.out.2.1,aH.out.2.2⟩
theorem FY (p:aE→Bool) (k:FuncId) (he:∀(args:Array Value) (w:World),(callFunc k args).run Tryz.prog w=.ok (.enter k args) w) (S:Nat) (w:World) (A:Option Addr) (n c:Nat) (l:List aE) (fZ:Array Value) (h:dk w A n c l) (hn:n≤12) (hf:re p k S w fZ l) (hS:S≤w.heap.size) (hA:∀a,A=some a→S≤a.block):
 Calls Tryz.prog 106 #[.slice A n c,.func (.func k) #[] fZ] w (fun e w'=>ak S w w'∧∃n',e=.returned (.slice A n' c)∧dk w' A n' c (kept p l)):=
 (yI p k he S w A n c l fZ h hn hf hS hA).mono (by rintro e w' ⟨h1,n',h2,h3,_⟩;exact⟨h1,n',h2,h3⟩)
end
section
set_option maxRecDepth 100000
set_option maxHeartbeats 8000000
def bV (nm:Int→Option Int) (ND:List Int) (o:aE):Bool:=fI nm o&& !decide (o.res∈ND)
theorem Ku:∀(args:Array Value) (w:World),(callFunc 107 args).run Tryz.prog w=.ok (.enter 107 args) w:=dM Tryz.func107 (by kernel_rfl) rfl
theorem O3 (w:World) (z4 nb:Nat) (ND:List Int) (r:Int) (h4:w.cell? ⟨z4,0,none⟩=some (.map (some nb))) (hm:aQ .i64 w nb (nc ND)):
 Calls Tryz.prog 104 #[G r,.pointer (ad z4)] w (fun e w'=>e=.returned (.bool (!decide (r∈ND)))∧w'=w):=by
 have hl:=ql hm r
 generalize decide (r∈ND)=b at hl⊢
 clear hm
 cases b
 ·go_enter Tryz.func104,Tryz.ntmps104
  go_wp2_with fail
  go_ret
  exact⟨rfl,rfl⟩
 ·go_enter Tryz.func104,Tryz.ntmps104
  go_wp2_with fail
  go_ret
  exact⟨rfl,rfl⟩
theorem Eo (w:World) (gr nm z1 z4 z5 nb:Nat) (s:St) (ND:List Int) (o:aE) (h1:w.heap[z1]?=some (.cells #[.pointer (ad gr)] 80 (0,0))) (h5:w.heap[z5]?=some (.cells #[.func (.func 104) #[] #[.pointer (ad z4)]] 153 (0,0)))
 (h4:w.heap[z4]?=some (.cells #[.map (some nb)] 150 (0,0))) (hm:aQ .i64 w nb (nc ND)) (hg:w.cell? ⟨gr,4,none⟩=some (.map (some nm))) (he:aQ .i64 w nm (cc sa s.nm)) (ho:aS o.code):
 Calls Tryz.prog 107 #[OV o,.pointer (ad z1),.pointer (ad z5)] w (fun e w'=>e=.returned (.bool (bV (aA s.nm) ND o))∧ak w.heap.size w w'):=by
 have hl:ak w.heap.size w (w.alloc (OC o)):=(ak.refl _ w).alloc (Nat.le_refl _) _
 have hb:=ao w (OC o)
 have g1:=(World.cell?_alloc_lt w (OC o) _ (bq hg)).trans hg
 have hP:=BT _ gr nm s o g1 (he.low hl) ho
 have a1:=hl.some h1
 have a4:=hl.some h4
 have a5:=hl.some h5
 have am:=hm.low hl
 obtain⟨pp,Fm⟩:∃pp,pp=fI (aA s.nm) o:=⟨_,rfl⟩
 have gR:bV (aA s.nm) ND o=(pp&& !decide (o.res∈ND)):=by rw[Fm];rfl
 rw[←Fm]at hP
 rw[gR]
 clear g1 h1 h4 h5 hm hg he ho Fm gR
 go_enter Tryz.func107,Tryz.ntmps107
 go_upto_region 1 with fail
 obtain⟨S,hS⟩:∃S,w.heap.size=S:=⟨_,rfl⟩
 rw[hS]at hb⊢
 generalize w.alloc (OC o)=w1 at hl hb hP a1 a4 a5 am⊢
 have x0:=aC hb
 have y1:=bf a1
 have HB:=cf hb;have HL:=cf hl;have A4:=cf a4;have A5:=cf a5;have AM:=cf am
 clear hb hl a1 a4 a5 am hS
 cases pp
 ·go_wp2_with(first
   |(go_at_call 108;(with_reducible refine hP.mono ?_);rintro e w6 ⟨rfl,l6⟩))
  go_ret
  exact⟨rfl,HL.out.trans (l6.mono HL.out.size)⟩
 ·go_wp2_with(first
   |(go_at_call 108;(with_reducible refine hP.mono ?_);rintro e w6 ⟨rfl,l6⟩;have b6:=l6.some HB.out;have z5':w6.cell? ⟨z5,0,none⟩=some (.func (.func 104) #[] #[.pointer (ad z4)]):=Yc (l6.some A5.out);have r6:w6.cell? ⟨S,1,none⟩=some (G o.res):=Yc b6;have hd:=O3 w6 z4 nb ND o.res (Yc (l6.some A4.out)) (AM.out.low l6);have L6:=cf l6;clear l6 b6 hP x0)
   |(go_at_call 104;(with_reducible refine hd.mono ?_);rintro e w7 ⟨rfl,rfl⟩))
  all_goals(go_ret;exact⟨by simp,HL.out.trans (L6.out.mono HL.out.size)⟩)
end
end Go.Proofs.YtjkahfmdcpfjjaaGreat
