/- A verified interpreter for calls on fixed data, part 4 of 5. -/
import Derived.Test.YtjkahfmdcpfjjaaGreatE3
import Derived.Orders
import Derived.RowKit3
set_option linter.unusedVariables false
set_option linter.unusedSectionVars false
namespace Go.Il
variable [Sym]
variable {e e':Env}
theorem kQ:∀(l:List Operand),(∀x∈l,ev e' x=ev e x)→vn e' l=vn e l:=by
 intro l
 induction l with
 |nil=>intro _;rfl
 |cons x l ih=>
  intro h
  have h1:=ih fun y hy=>h y (List.mem_cons_of_mem _ hy)
  have h2:=h x (List.mem_cons_self ..)
  unfold vn at*
  simp only[mf]
  rw[bp,bp,h2]
  cases ev e x with
  |none=>rfl
  |some v=>
   simp only[]
   have:=fw e' l none (fun vs=>some (v::vs))
   rw[this,fw e l none (fun vs=>some (v::vs))]
   unfold vn
   rw[h1]
theorem yG:∀(l:List (Nat×Operand)),(∀x∈l,ev e' x.2=ev e x.2)→QB e' l=QB e l:=by
 intro l
 induction l with
 |nil=>intro _;rfl
 |cons x l ih=>
  intro h
  obtain⟨i,x⟩:=x
  have h1:=ih fun y hy=>h y (List.mem_cons_of_mem _ hy)
  have h2:=h (i,x) (List.mem_cons_self ..)
  unfold QB at*
  simp only[sY]
  rw[bp,bp,h2]
  cases ev e x with
  |none=>rfl
  |some v=>
   simp only[]
   rw[ie e' l none (fun vs=>some ((i,v)::vs)),ie e l none (fun vs=>some ((i,v)::vs))]
   unfold QB
   rw[h1]
theorem rZ (x:Option Operand) (h:∀y∈x.toArray,ev e' y=ev e y):Xe e' x=Xe e x:=by
 cases x with
 |none=>rfl
 |some x=>
  unfold Xe Dg
  simp only[]
  rw[bp,bp,h x (by simp)]
variable {o:Oper}
theorem iY {P:Program} {st:St} (h:∀x∈o.op.operands,ev e' x=ev e x):MK P st e' o=MK P st e o:=by
 unfold MK km
 obtain⟨dst,op,type,pos,after,guard⟩:=o
 simp only at h
 cases op<;>simp only[Op.operands]at h<;>simp only[bp,fw,ie,qK]
 case makeFunc fn first captured=>
  cases fn<;>first|rfl|skip
  simp only[]
  rw[kQ first.toList (fun x hx=>h x (by simp at hx;simp[hx])),kQ captured.toList (fun x hx=>h x (by simp at hx;simp[hx]))]
 case build t ps=>rw[yG ps.toList (fun x hx=>h x.2 (by simp;exact⟨x.1,by simpa using hx⟩))]
 case slice t x lo hi mx=>
  rw[h x (by simp),rZ lo (fun y hy=>h y (by simp at hy;simp[hy])),rZ hi (fun y hy=>h y (by simp at hy;simp[hy])),rZ mx (fun y hy=>h y (by simp at hy;simp[hy]))]
 case call c=>
  obtain⟨cl,args,oS⟩:=c
  have h2:∀x∈args.toList,ev e' x=ev e x:=fun x hx=>h x (by simp at hx;simp[Call.operands,hx])
  cases cl<;>first|rfl|skip
  rename_i b
  cases b<;>first|rfl|skip
  case len=>
   simp only[]
   split
   ·rename_i x t hl _
    rw[h2 x (by rw[hl];simp)]
   ·rfl
  all_goals(simp only[];rw[kQ args.toList h2])
 all_goals(first|rfl|(simp_all;done))
theorem nO {P:Program} (h:∀x∈o.op.operands,ev e' x=ev e x):Qa P e' o=Qa P e o:=by
 unfold Qa wU
 obtain⟨dst,op,type,pos,after,guard⟩:=o
 simp only at h
 cases op<;>simp only[Op.operands]at h<;>simp only[bp,ie]
 case buildSlice t n ps=>rw[yG ps.toList (fun x hx=>h x.2 (by simp;exact⟨x.1,by simpa using hx⟩))]
 case makeMap t r=>cases r<;>simp_all
 all_goals(first|rfl|(simp_all;done))
theorem ET {P:Program} {st:St} {k:AV→St→Bool} (h:∀x∈o.op.operands,ev e' x=ev e x):wT P st e' o k=wT P st e o k:=by
 unfold wT
 obtain⟨dst,op,type,pos,after,guard⟩:=o
 simp only at h
 cases op<;>simp only[Op.operands]at h<;>simp only[bp,fw]
 case call c=>
  obtain⟨cl,args,oS⟩:=c
  have h2:∀x∈args.toList,ev e' x=ev e x:=fun x hx=>h x (by simp at hx;simp[Call.operands,hx])
  cases cl<;>first|rfl|skip
  rename_i b
  cases b<;>first|rfl|skip
  all_goals(simp only[];rw[kQ args.toList h2])
 all_goals(first|rfl|(simp_all;done))
theorem Jj {P:Program} {rec:dh} {st:St} {k:AV→St→Bool} (h:∀x∈o.op.operands,ev e' x=ev e x):wS P rec e' o st k=wS P rec e o st k:=by
 unfold wS
 split
 ·rw[qj,qj,iY h]
 ·rw[tp,tp,nO h]
 ·exact ET h
 ·split
  ·rename_i f args oS mK
   rw[mK]at h
   simp only[Op.operands,Call.operands]at h
   rw[bp,bp,h f (by simp)]
   simp only[fw]
   rw[kQ args.toList (fun x hx=>h x (by simp at hx;simp[hx]))]
  ·rfl
noncomputable def ue (e:Env):List Tmp→Env
 |[]=> .lf
 |t::ts=>match e.get t with
  |some v=>(ue e ts).set t v
  |none=>ue e ts
theorem yC (e:Env) (t:Tmp):∀ts:List Tmp,(ue e ts).get t=if t∈ts then e.get t else none:=by
 intro ts
 induction ts with
 |nil=>simp[ue,Tr.ny]
 |cons s ts ih=>
  simp only[ue]
  cases hs:e.get s with
  |none=>
   simp only[ih]
   by_cases h:t=s
   ·subst h;simp[hs]
   ·simp[h]
  |some v=>
   simp only[Tr.ib]
   by_cases h:s=t
   ·subst h;simp[hs]
   ·rw[if_neg h,ih];simp[Ne.symm h]
theorem dq {ops:Array Oper} (h:∀t∈looks ops o,e'.get t=e.get t):∀x∈o.op.operands,ev e' x=ev e x:=by
 intro x hx
 cases x with
 |tmp t=>
  have:t∈looks ops o:=by
   unfold looks
   exact List.mem_append_left _ (List.mem_filterMap.2 ⟨.tmp t,by simpa using hx,rfl⟩)
  unfold ev fR
  simp only[h t this]
 |const v=>rfl
 |global g=>rfl
 |func f=>rfl
theorem fH {ops:Array Oper} (h:∀t∈looks ops o,e'.get t=e.get t):ff ops o e'=ff ops o e:=by
 unfold ff
 cases hg:o.guard with
 |none=>rfl
 |some gw=>
  obtain⟨g,want⟩:=gw
  simp only[]
  cases ht:(ops[g]?).bind (·.dst)with
  |none=>rfl
  |some t=>
   simp only[]
   rw[h t (by unfold looks;rw[hg];simp only[ht];simp)]
end Go.Il
namespace Go.Il
variable [Sym]
def Good (ops:Array Oper):List Nat→List Nat→Prop
 |[],_=>True
 |i::is,done=>i<ops.size∧i∉done∧(∀j∈cy ops i,j∈done)∧Good ops is (i::done)
theorem Ez (ops:Array Oper):∀f done,Good ops (sched ops f done) done:=by
 intro f
 induction f with
 |zero=>intro done;trivial
 |succ f ih=>
  intro done
  have key:∀i,i∈(List.range ops.size).filter (fun i=> !done.contains i&&(cy ops i).all done.contains)→i<ops.size∧i∉done∧(∀j∈cy ops i,j∈done):=by
   intro i hi
   rw[List.mem_filter,List.mem_range,Bool.and_eq_true,Bool.not_eq_true',List.all_eq_true]at hi
   obtain⟨h1,h2,h3⟩:=hi
   exact⟨h1,fun hm=>by simp[hm]at h2,fun j hj=>by simpa using h3 j hj⟩
  simp only[sched]
  split
  ·trivial
  ·rename_i r rs Nx
   split
   ·rename_i i hi
    have:=key i (by rw[Nx];exact List.mem_of_find?_eq_some hi)
    exact⟨this.1,this.2.1,this.2.2,ih _⟩
   ·have:=key r (by rw[Nx];exact List.mem_cons_self ..)
    exact⟨this.1,this.2.1,this.2.2,ih _⟩
variable {i j n:Nat}
theorem gT {ops:Array Oper} (h:mg ops=true) {x y:Oper} {d:Tmp} (hi:ops[i]?=some x) (hj:ops[j]?=some y) (hd:x.dst=some d):
 (i=j→d∉looks ops y∨2≤bx y)∧(i≠j→y.dst≠some d∧(d∉looks ops y∨i∈cy ops j∨(2≤bx x∧j∈Gt ops ops.size i))):=by
 unfold mg at h
 rw[List.all_eq_true]at h
 have h:=h i (List.mem_range.2 (Array.getElem?_eq_some_iff.1 hi).1)
 rw[List.all_eq_true]at h
 have h:=h j (List.mem_range.2 (Array.getElem?_eq_some_iff.1 hj).1)
 rw[hi,hj]at h
 simp only[hd]at h
 refine⟨fun oK=>?_,fun oK=>?_⟩
 ·subst oK
  rw[Nat.beq_refl]at h
  simp only[Bool.or_eq_true,Bool.not_eq_true',List.contains_eq_mem,decide_eq_false_iff_not,Nat.ble_eq]at h
  exact h
 ·have hb:Nat.beq i j=false:=by
   cases hq:Nat.beq i j with
   |false=>rfl
   |true=>exact absurd (Nat.eq_of_beq_eq_true hq) oK
  rw[hb]at h
  simp only[Bool.and_eq_true,Bool.or_eq_true,Bool.not_eq_true',List.contains_eq_mem,decide_eq_false_iff_not,decide_eq_true_eq,Nat.ble_eq]at h
  refine⟨fun hy=>?_,?_⟩
  ·have:=h.1
   rw[hy]at this
   simp at this
  ·rcases h.2 with(h1|h1)|h1
   ·exact .inl h1
   ·exact .inr (.inl h1)
   ·exact .inr (.inr h1)
theorem Jr {a:Nat}:∀{l m:List Nat},a∈sv l m→a∈l∨a∈m:=by
 intro l
 induction l with
 |nil=>intro m h;exact .inr h
 |cons x l ih=>
  intro m h
  simp only[sv]at h
  split at h
  ·rcases ih h with h|h
   ·exact .inl (List.mem_cons_of_mem _ h)
   ·exact .inr h
  ·rcases ih h with h|h
   ·exact .inl (List.mem_cons_of_mem _ h)
   ·rcases List.mem_cons.1 h with rfl|h
    ·exact .inl (List.mem_cons_self ..)
    ·exact .inr h
theorem zM {a:Nat}:∀{l:List (List Nat)},a∈mO l→∃m∈l,a∈m:=by
 intro l
 induction l with
 |nil=>intro h;cases h
 |cons x l ih=>
  intro h
  rcases Jr h with h|h
  ·exact⟨x,List.mem_cons_self ..,h⟩
  ·obtain⟨m,h1,h2⟩:=ih h
   exact⟨m,List.mem_cons_of_mem _ h1,h2⟩
theorem vM {ops:Array Oper} {R:Nat→Prop} (hc:∀j,R j→∀i∈cy ops j,R i):∀(f i:Nat),(∀j∈cy ops i,R j)→∀j∈Gt ops f i,R j:=by
 intro f
 induction f with
 |zero=>intro i _ j hj;cases hj
 |succ f ih=>
  intro i hi j hj
  obtain⟨m,h1,h2⟩:=zM hj
  rcases List.mem_cons.1 h1 with rfl|h1
  ·exact hi j h2
  ·obtain⟨q,h3,rfl⟩:=List.mem_map.1 h1
   exact ih q (hc q (hi q h3)) j h2
variable {o:Oper}
theorem yc {ops:Array Oper} (ho:ops[j]?=some o):i∈cy ops j↔∃e∈o.after,Region.binds .any e=true∧e.on=i:=by
 unfold cy
 rw[ho]
 simp only[List.mem_map,List.mem_filter,Array.mem_toList_iff]
 constructor
 ·rintro⟨e,⟨h1,h2⟩,h3⟩;exact⟨e,h1,h2,h3⟩
 ·rintro⟨e,h1,h2,h3⟩;exact⟨e,⟨h1,h2⟩,h3⟩
variable {aU:Array Bool}
theorem I6 {ops:Array Oper} (bw:(List.range ops.size).all (fun j=>(cy ops j).all fun i=>Nat.blt i j)=true) (hs:aU.size=ops.size) (hr:Region.ready .any ops aU=[]):∀j,j<ops.size→aU.getD j false=true:=by
 intro j
 induction j using Nat.strongRecOn with
 |ind j ih=>
  intro hj
  cases hl:aU.getD j false with
  |true=>rfl
  |false=>
   have ho:ops[j]?=some ops[j]:=Array.getElem?_eq_getElem hj
   have:j∈Region.ready .any ops aU:=mem_ready.2 ⟨by
    have h2:j<aU.size:=by omega
    simp[h2]at hl⊢;exact hl,ops[j],ho,fun e he hb=>by
     have hp:e.on∈cy ops j:=(yc ho).2 ⟨e,he,hb,rfl⟩
     rw[List.all_eq_true]at bw
     have h3:=bw j (List.mem_range.2 hj)
     rw[List.all_eq_true]at h3
     have h4:e.on<j:=by simpa[Nat.blt_eq]using h3 _ hp
     exact ih _ h4 (by omega)⟩
   rw[hr]at this
   cases this
end Go.Il
namespace Go.Il
variable [Sym]
def S8 (P:Program) (ops:Array Oper) (n n0:Nat) (AL:Nat→Prop) (ids:Nat→Nat) (ρ:bL) (e:Env) (st:St) (j:Nat):Prop:=
 ∃o,ops[j]?=some o∧bx o<2∧(∀d,o.dst=some d→d<n)∧
  ((ff ops o e=some false∧∀d,o.dst=some d→e.get d=some bX)∨
   (ff ops o e=some true∧bx o=0∧∃v,MK P st e o=some v∧∀d,o.dst=some d→e.get d=some v)∨
   (ff ops o e=some true∧bx o=1∧AL j∧∃r s,Qa P e o=some (r,s)∧(∀d,o.dst=some d→e.get d=some (s.mk (ids j)))∧st.heap.get (ids j)=some r∧n0≤ids j∧ids j<st.next∧∀ep,ρ (ids j) ep=none))
structure jD (B:Nat→Prop) (P:Program) (rec:dh) (c:Ctx) (ops:Array Oper) (k:Env→St→Bool) (ρ0:bL) (rB:St) (w0:World) (ds:List Nat) (b:Frame)
 (suf done:List Nat) (real:Nat→Prop) (AL:Nat→Prop) (ids:Nat→Nat) (e:Env) (st:St) (ρ:bL) (w:World) (a:Act):Prop where
 go:nE P rec c ops suf done e st k=true
 QD:gX B ρ0 rB w0 ρ st w
 rel:aV B ρ st w
 gl:∀t v,e.get t=some v→(∀j o,j∈done→¬real j→ops[j]?=some o→o.dst≠some t)→∃v',a.tmps[t]?=some v'∧aL ρ v v'
 size:a.tmps.size=c.n
 marks:Ba ρ ds a.defers
 kind:b.kind=.normal
 fn:b.fn=c.fn
 round:nJ ρ c.round b.roundOf
 J9:Good ops suf done
 full:∀i,i<ops.size→i∈done∨i∈suf
 tail:gN ops suf=true
 sub:∀j,real j→j∈done
 closed:∀j,real j→∀i∈cy ops j,real i
 qN:∀j∈done,∀i∈cy ops j,i∈done
 late:∀j∈done,¬real j→S8 P ops c.n rB.next AL ids ρ e st j
 al:∀j,AL j→j∈done∧ids j<st.next
 inj:∀j j',AL j→AL j'→ids j=ids j'→j=j'
section
variable {B : Nat → Prop} {P : Program} {rec : dh} {c : Ctx} {ops : Array Oper} {k : Env → St → Bool} {ρ0 : bL} {rB : St} {w0 : World} {ds : List Nat} {b : Frame}
 {suf done:List Nat} {real:Nat→Prop} {AL:Nat→Prop} {ids:Nat→Nat} {e:Env} {st:St} {ρ:bL} {w:World} {a:Act}
noncomputable def qf (e:Env) (dst:Option Tmp) (v:AV):Env:=match dst with|some d=>e.set d v|none=>e
variable {i j n:Nat} {e e':Env} {v:AV}
theorem kI {dst:Option Tmp} {k:Env→Bool} (h:jU n e dst v k=true):(∀d,dst=some d→d<n)∧k (qf e dst v)=true:=by
 unfold jU at h
 cases dst with
 |none=>exact⟨(fun d hd=>by cases hd),h⟩
 |some d=>
  simp only at h
  split at h
  ·rename_i bw
   rw[Tr.eG]at h
   exact⟨fun d' hd=>by cases hd;simpa[Nat.blt_eq]using bw,h⟩
  ·cases h
variable {t:Tmp}
theorem dL {dst:Option Tmp} (h:dst≠some t):(qf e dst v).get t=e.get t:=by
 cases dst with
 |none=>rfl
 |some d=>exact Tr.bI _ _ (fun hd=>h (by rw[hd]))
theorem qH {dst:Option Tmp} (h:dst=some t):(qf e dst v).get t=some v:=by
 subst h;exact Tr.bH _ _ _
variable {bt:St} {ρ':bL}
theorem S8.put {n0:Nat} {PX:Nat→Prop} {uP:Nat→Nat} {dst:Option Tmp} (h:S8 P ops n n0 AL ids ρ e st j)
 (aa7:∀y,ops[j]?=some y→∀d,dst=some d→d∉looks ops y) (od:∀y,ops[j]?=some y→∀d,dst=some d→y.dst≠some d)
 (hq:∀y,ops[j]?=some y→ff ops y (qf e dst v)=some true→bx y=0→(∃v',MK P st e y=some v'∧∀d,y.dst=some d→(qf e dst v).get d=some v')→∃v',MK P bt (qf e dst v) y=some v'∧∀d,y.dst=some d→(qf e dst v).get d=some v')
 (J3:AL j→PX j) (hid:AL j→uP j=ids j) (dG:AL j→ids j<st.next→(∀ep,ρ (ids j) ep=none)→bt.heap.get (ids j)=st.heap.get (ids j)∧(∀ep,ρ' (ids j) ep=none)∧ids j<bt.next):
 S8 P ops n n0 PX uP ρ' (qf e dst v) bt j:=by
 obtain⟨o,ho,hc,hn,hh⟩:=h
 have hl:∀t∈looks ops o,(qf e dst v).get t=e.get t:=fun t ht=>dL (fun hd=>aa7 o ho t hd ht)
 have hw:=fH (ops:=ops) hl
 have hg:∀d,o.dst=some d→(qf e dst v).get d=e.get d:=fun d hd=>dL (fun he=>od o ho d he hd)
 refine⟨o,ho,hc,hn,?_⟩
 rcases hh with⟨h1,h2⟩|⟨h1,h2,u,h3,h4⟩|⟨h1,h2,h3,r,s,h4,h5,h6,h7,h8,h9⟩
 ·exact .inl ⟨hw.trans h1,fun d hd=>(hg d hd).trans (h2 d hd)⟩
 ·exact .inr (.inl ⟨hw.trans h1,h2,hq o ho (hw.trans h1) h2 ⟨u,h3,fun d hd=>(hg d hd).trans (h4 d hd)⟩⟩)
 ·obtain⟨g1,g2,g3⟩:=dG h3 h8 h9
  refine .inr (.inr ⟨hw.trans h1,h2,J3 h3,r,s,(nO (dq hl)).trans h4,?_,?_,?_,?_,?_⟩)
  ·rw[hid h3];exact fun d hd=>(hg d hd).trans (h5 d hd)
  ·rw[hid h3,g1];exact h6
  ·rw[hid h3];exact h7
  ·rw[hid h3];exact g3
  ·rw[hid h3];exact g2
variable {o:Oper}
theorem uh {l:List Nat} (h:recheck P ops st e l=true) (hj:j∈l) (ho:ops[j]?=some o) (hc:bx o=0) (hw:ff ops o e=some true):
 ∃v,MK P st e o=some v∧∀d,o.dst=some d→e.get d=some v:=by
 induction l with
 |nil=>cases hj
 |cons i l ih=>
  simp only[recheck,Bool.and_eq_true]at h
  rcases List.mem_cons.1 hj with rfl|hj
  ·have h:=h.1
   rw[ho]at h
   simp only[hc,hw,qj]at h
   split at h<;>(try(cases h;done))
   rename_i v hv
   refine⟨v,hv,fun d hd=>?_⟩
   rw[hd]at h
   simp only at h
   split at h<;>(try(cases h;done))
   rename_i u hu
   rw[hu,AV.eq_of_beq _ _ h]
  ·exact ih h.2 hj
theorem jD.ahead {is:List Nat} (mG:mm ops=true) (h:jD B P rec c ops k ρ0 rB w0 ds b (i::is) done real AL ids e st ρ w a) (hi:dE ops i=true):
 ∃PX uP e' bt,jD B P rec c ops k ρ0 rB w0 ds b is (i::done) real PX uP e' bt ρ w a:=by
 obtain⟨bw,rQ,eV,yv⟩:=h.J9
 have od:mg ops=true:=by unfold mm at mG;simp only[Bool.and_eq_true]at mG;exact mG.1.1.2
 have ho:ops[i]?=some ops[i]:=Array.getElem?_eq_getElem bw
 generalize ops[i]=o at ho
 have hc:bx o<2:=by unfold dE at hi;rw[ho]at hi;simpa[Nat.blt_eq]using hi
 have iN:=h.go
 simp only[nE,ho]at iN
 have Nw:∀d,o.dst=some d→d∉looks ops o:=fun d hd=>((gT od ho ho hd).1 rfl).resolve_right (by omega)
 have iz:∀j∈done,∀y,ops[j]?=some y→∀d,o.dst=some d→d∉looks ops y:=fun j hj y hy d hd=>by
  have cH:i≠j:=fun e=>rQ (e▸hj)
  rcases((gT od ho hy hd).2 cH).2 with h1|h1|h1
  ·exact h1
  ·exact absurd (h.qN j hj i h1) rQ
  ·omega
 have yy:∀j∈done,∀y,ops[j]?=some y→∀d,o.dst=some d→y.dst≠some d:=fun j hj y hy d hd=>((gT od ho hy hd).2 (fun e=>rQ (e▸hj))).1
 have KZ:¬real i:=fun hr=>rQ (h.sub i hr)
 have yx:∀j,j<ops.size→j∈i::done∨j∈is:=fun j hj=>by
  rcases h.full j hj with h1|h1
  ·exact .inl (List.mem_cons_of_mem _ h1)
  ·rcases List.mem_cons.1 h1 with rfl|h1
   ·exact .inl (List.mem_cons_self ..)
   ·exact .inr h1
 have sI:gN ops is=true:=by have:=h.tail;simp only[gN,Bool.and_eq_true]at this;exact this.2
 have rN:∀u t v,(qf e o.dst u).get t=some v→(∀j y,j∈i::done→¬real j→ops[j]?=some y→y.dst≠some t)→∃v',a.tmps[t]?=some v'∧aL ρ v v':=fun u t v ht hl=>by
  have cH:o.dst≠some t:=hl i o (List.mem_cons_self ..) KZ ho
  rw[dL cH]at ht
  exact h.gl t v ht (fun j y hj=>hl j y (List.mem_cons_of_mem _ hj))
 have J2:∀j∈i::done,∀q∈cy ops j,q∈i::done:=fun j hj q hq=>by
  rcases List.mem_cons.1 hj with rfl|hj
  ·exact List.mem_cons_of_mem _ (eV q hq)
  ·exact List.mem_cons_of_mem _ (h.qN j hj q hq)
 have hl:∀u,∀t∈looks ops o,(qf e o.dst u).get t=e.get t:=fun u t ht=>dL (fun hd=>Nw t hd ht)
 split at iN
 ·rename_i hw
  unfold wS at iN
  have ap2:bx o=0∨bx o=1:=by omega
  rcases ap2 with Yv|Lj
  ·rw[Yv]at iN
   simp only[qj]at iN
   split at iN<;>(try(cases iN;done))
   rename_i v hv
   obtain⟨hn,iN⟩:=kI iN
   simp only[Bool.true_and]at iN
   refine⟨AL,ids,_,_,iN,h.QD,h.rel,rN v,h.size,h.marks,h.kind,h.fn,h.round,yv,yx,sI,fun j hj=>List.mem_cons_of_mem _ (h.sub j hj),h.closed,J2,fun j hj hr=>?_,
    fun j hj=>⟨List.mem_cons_of_mem _ (h.al j hj).1,(h.al j hj).2⟩,h.inj⟩
   rcases List.mem_cons.1 hj with rfl|hj
   ·exact⟨o,ho,hc,hn,.inr (.inl ⟨(fH (hl v)).trans hw,Yv,v,(iY (dq (hl v))).trans hv,fun d hd=>qH hd⟩)⟩
   ·exact(h.late j hj hr).put (iz j hj) (yy j hj) (fun y hy _ _ ⟨v',g1,g2⟩=>⟨v',(iY (dq (ops:=ops) (fun t ht=>dL (fun hd=>iz j hj y hy t hd ht)))).trans g1,g2⟩)
     id (fun _=>rfl) (fun _ g1 g2=>⟨rfl,g2,g1⟩)
  ·rw[Lj]at iN
   simp only[tp]at iN
   split at iN<;>(try(cases iN;done))
   rename_i r s Nx
   rw[lU]at iN
   obtain⟨hn,iN⟩:=kI iN
   simp only[Bool.and_eq_true]at iN
   obtain⟨Yn,iN⟩:=iN
   have yu:∀j,AL j→j≠i:=fun j hj e=>rQ (e▸(h.al j hj).1)
   refine⟨fun j=>AL j∨j=i,fun j=>if j=i then st.next else ids j,_,_,iN,h.QD.trans ⟨bL.le_refl _,by simp,fun q hq hn=>⟨hn,Tr.bI _ _ (by omega)⟩,fun _ _=>rfl,Nat.le_refl _,rfl,rfl,fun _=>rfl⟩,h.rel.GS r,rN _,h.size,h.marks,h.kind,h.fn,h.round,yv,yx,sI,fun j hj=>List.mem_cons_of_mem _ (h.sub j hj),h.closed,J2,fun j hj hr=>?_,?_,?_⟩
   ·rcases List.mem_cons.1 hj with rfl|hj
    ·refine⟨o,ho,hc,hn,.inr (.inr ⟨(fH (hl _)).trans hw,Lj,.inr rfl,r,s,(nO (dq (hl _))).trans Nx,fun d hd=>?_,?_,?_,?_,?_⟩)⟩
     ·simp only[if_pos];exact qH hd
     ·simp only[if_pos];exact Tr.bH _ _ _
     ·simp only[if_pos];exact h.QD.next
     ·simp
     ·simp only[if_pos];exact fun ep=>h.rel.lT (Nat.le_refl _) ep
    ·exact(h.late j hj hr).put (iz j hj) (yy j hj) (fun y hy g1 g2 _=>uh Yn hj hy g2 g1) .inl (fun hj=>if_neg (yu j hj))
      (fun _ g1 g2=>⟨Tr.bI _ _ (by omega),g2,by simp only;omega⟩)
   ·rintro j (hj|rfl)
    ·rw[if_neg (yu j hj)]
     exact⟨List.mem_cons_of_mem _ (h.al j hj).1,by have:=(h.al j hj).2;simp only;omega⟩
    ·simp
   ·rintro j j' (hj|rfl) (hj'|rfl) he
    ·rw[if_neg (yu j hj),if_neg (yu j' hj')]at he;exact h.inj _ _ hj hj' he
    ·rw[if_neg (yu j hj),if_pos rfl]at he;have:=(h.al j hj).2;omega
    ·rw[if_neg (yu j' hj'),if_pos rfl]at he;have:=(h.al j' hj').2;omega
    ·rfl
 ·rename_i hw
  obtain⟨hn,iN⟩:=kI iN
  refine⟨AL,ids,_,_,iN,h.QD,h.rel,rN _,h.size,h.marks,h.kind,h.fn,h.round,yv,yx,sI,fun j hj=>List.mem_cons_of_mem _ (h.sub j hj),h.closed,J2,fun j hj hr=>?_,
   fun j hj=>⟨List.mem_cons_of_mem _ (h.al j hj).1,(h.al j hj).2⟩,h.inj⟩
  rcases List.mem_cons.1 hj with rfl|hj
  ·exact⟨o,ho,hc,hn,.inl ⟨(fH (hl _)).trans hw,fun d hd=>qH hd⟩⟩
  ·exact(h.late j hj hr).put (iz j hj) (yy j hj) (fun y hy _ _ ⟨v',g1,g2⟩=>⟨v',(iY (dq (ops:=ops) (fun t ht=>dL (fun hd=>iz j hj y hy t hd ht)))).trans g1,g2⟩)
    id (fun _=>rfl) (fun _ g1 g2=>⟨rfl,g2,g1⟩)
 ·cases iN
theorem jD.saturate (mG:mm ops=true):∀{suf done AL ids e st},jD B P rec c ops k ρ0 rB w0 ds b suf done real AL ids e st ρ w a→
 ∃IJ Dk PX uP e' bt,jD B P rec c ops k ρ0 rB w0 ds b IJ Dk real PX uP e' bt ρ w a∧∀i is,IJ=i::is→dE ops i=false:=by
 intro suf
 induction suf with
 |nil=>intro done AL ids e st h;exact⟨[],done,AL,ids,e,st,h,fun i is hi=>by cases hi⟩
 |cons i is ih=>
  intro done AL ids e st h
  cases hq:dE ops i with
  |true=>obtain⟨PX,uP,e',bt,h'⟩:=h.ahead mG hq;exact ih h'
  |false=>exact⟨i::is,done,AL,ids,e,st,h,fun j js hj=>by cases hj;exact hq⟩
end
end Go.Il
namespace Go.Il
variable [Sym]
section
variable {B : Nat → Prop} {P : Program} {rec : dh} {c : Ctx} {ops : Array Oper} {k : Env → St → Bool} {ρ0 : bL} {rB : St} {w0 : World} {ds : List Nat} {b : Frame}
 {suf done:List Nat} {real:Nat→Prop} {AL:Nat→Prop} {ids:Nat→Nat} {e:Env} {st:St} {ρ:bL} {w:World} {a:Act}
theorem jR (h:mm ops=true):(∀i,i<ops.size→i∈sched ops ops.size [])∧mg ops=true∧gN ops (sched ops ops.size [])=true∧(List.range ops.size).all (fun j=>(cy ops j).all fun i=>Nat.blt i j)=true:=by
 unfold mm at h
 simp only[Bool.and_eq_true]at h
 refine⟨fun i hi=>?_,h.1.1.2,h.1.2,h.2⟩
 have:=h.1.1.1
 rw[List.all_eq_true]at this
 simpa using this i (List.mem_range.2 hi)
variable {o:Oper}
theorem qI:∀t∈looks ops o,(ue e (looks ops o)).get t=e.get t:=fun t ht=>by rw[yC,if_pos ht]
variable {i j n:Nat}
theorem jD.YY (od:mg ops=true) (h:jD B P rec c ops k ρ0 rB w0 ds b suf done real AL ids e st ρ w a) (ho:ops[i]?=some o) (Nw:i∈done→bx o<2) (hp:∀j∈cy ops i,real j):
 iD ρ (ue e (looks ops o)) a.tmps:=by
 intro t v hv
 rw[yC]at hv
 split at hv<;>(try(cases hv;done))
 rename_i ht
 refine h.gl t v hv (fun j y hj hr hy hd=>?_)
 by_cases oK:j=i
 ·subst oK
  rw[ho]at hy;cases hy
  have:=Nw hj
  rcases(gT od ho ho hd).1 rfl with h1|h1
  ·exact h1 ht
  ·omega
 ·rcases((gT od hy ho hd).2 oK).2 with h1|h1|h1
  ·exact h1 ht
  ·exact hr (hp j h1)
  ·obtain⟨y',Yj,hc,_⟩:=h.late j hj hr
   rw[hy]at Yj;cases Yj
   omega
variable {a:Act} {t:Tmp}
theorem Act.Ih {dst:Option Tmp} {v:Value} (h:dst=some t) (bw:t<a.tmps.size):(a.put dst v).tmps[t]?=some v:=by
 subst h
 simp only[Act.put];rw[Array.getElem?_setIfInBounds,if_pos rfl,if_pos bw]
theorem Act.vg {dst:Option Tmp} {v:Value} (h:dst≠some t):(a.put dst v).tmps[t]?=a.tmps[t]?:=by
 cases dst with
 |none=>rfl
 |some d=>simp only[Act.put];exact Array.getElem?_setIfInBounds_ne (fun hd=>h (by rw[hd]))
theorem Act.size_put {dst:Option Tmp} {v:Value}:(a.put dst v).tmps.size=a.tmps.size:=by
 cases dst<;>simp[Act.put]
theorem Act.pr {dst:Option Tmp} {v:Value}:(a.put dst v).defers=a.defers:=by
 cases dst<;>rfl
theorem jD.land (h:jD B P rec c ops k ρ0 rB w0 ds b suf done real AL ids e st ρ w a) (hd:i∈done) (ho:ops[i]?=some o) (hp:∀j∈cy ops i,real j) (hn:∀d,o.dst=some d→d<c.n)
 {ρ':bL} {w':World} {v':Value} (hle:ρ.le ρ') (hs:aV B ρ' st w') (W0:gX B ρ0 rB w0 ρ' st w') (hv:∀d,o.dst=some d→∃v,e.get d=some v∧aL ρ' v v')
 (Fi:∀j,AL j→j≠i→(∀ep,ρ (ids j) ep=none)→∀ep,ρ' (ids j) ep=none):
 jD B P rec c ops k ρ0 rB w0 ds b suf done (fun j=>real j∨j=i) AL ids e st ρ' w' (a.put o.dst v'):=by
 refine⟨h.go,W0,hs,fun t v ht hl=>?_,by rw[Act.size_put];exact h.size,by rw[Act.pr];exact h.marks.mono hle,h.kind,h.fn,h.round.mono hle,h.J9,h.full,h.tail,?_,?_,h.qN,?_,h.al,h.inj⟩
 ·by_cases hdt:o.dst=some t
  ·obtain⟨u,h1,h2⟩:=hv t hdt
   rw[h1]at ht;cases ht
   exact⟨v',Act.Ih hdt (by rw[h.size];exact hn t hdt),h2⟩
  ·rw[Act.vg hdt]
   obtain⟨u,h1,h2⟩:=h.gl t v ht (fun j y hj hr hy=>by
    by_cases oK:j=i
    ·subst oK;rw[ho]at hy;cases hy;exact hdt
    ·exact hl j y hj (fun hh=>hh.elim hr oK) hy)
   exact⟨u,h1,h2.mono hle⟩
 ·rintro j (hj|rfl)
  ·exact h.sub j hj
  ·exact hd
 ·rintro j (hj|rfl) q hq
  ·exact .inl (h.closed j hj q hq)
  ·exact .inl (hp q hq)
 ·intro j hj hr
  obtain⟨y,hy,hc,zh,hh⟩:=h.late j hj (fun hh=>hr (.inl hh))
  refine⟨y,hy,hc,zh,?_⟩
  rcases hh with hh|hh|⟨h1,h2,h3,r,s,h4,h5,h6,h7,h8,h9⟩
  ·exact .inl hh
  ·exact .inr (.inl hh)
  ·exact .inr (.inr ⟨h1,h2,h3,r,s,h4,h5,h6,h7,h8,Fi j h3 (fun hh=>hr (.inr hh)) h9⟩)
theorem gX.ae2 {id:Nat} {o:Obj} (h:gX B ρ0 rB w0 ρ st w) (hB:∀b,B b→b<w.heap.size) (hid:rB.next≤id) (Fi:∀ep,ρ id ep=none) (kN:∀cs t lo hi,o=.cells cs t (lo,hi)→hi=0):gX B ρ0 rB w0 (ρ.add id 0 ⟨w.heap.size,0,n⟩) st {w with heap:=w.heap.push o}:=by
 refine⟨bL.le_trans h.le (bL.px (Fi 0)),h.next,fun q hq hn=>?_,fun b hb=>?_,by have:=h.size;simp;omega,h.os,h.out,fun a=>(nz kN a).trans (h.YG a)⟩
 ·obtain⟨h1,h2⟩:=h.un q hq hn
  refine⟨fun ep=>?_,h2⟩
  unfold bL.add
  rw[if_neg (by omega)]
  exact h1 ep
 ·rw[←h.low b hb]
  have:=hB b hb
  rw[Array.getElem?_push,if_neg (by omega)]
theorem jD.JD (mG:mm ops=true) (h:jD B P rec c ops k ρ0 rB w0 ds b suf done real AL ids e st ρ w a) (hd:i∈done) (hr:¬real i) (hp:∀j∈cy ops i,real j) (rest:List Nat) (kk:List Item) (cs:List Frame):
 ∃ρ' w' a',jD B P rec c ops k ρ0 rB w0 ds b suf done (fun j=>real j∨j=i) AL ids e st ρ' w' a'∧
  Steps P (lone (b.atR a (.inRegion ops (i::rest)::kk)) cs w) (lone (b.atR a' (.inRegion ops rest::kk)) cs w'):=by
 obtain⟨_,od,_,_⟩:=jR mG
 obtain⟨o,ho,hc,hn,hh⟩:=h.late i hd hr
 have ht:=h.YY od ho (fun _=>hc) hp
 have TL:=fH (ops:=ops) (o:=o) (qI (ops:=ops) (e:=e) (o:=o))
 have Le:=dq (ops:=ops) (o:=o) (qI (ops:=ops) (e:=e) (o:=o))
 rcases hh with⟨h1,h2⟩|⟨h1,h2,v,h3,h4⟩|⟨h1,h2,h3,r,s,h4,h5,h6,h7,h8,h9⟩
 ·have hw:=fy ht (TL.trans h1)
  refine⟨ρ,w,_,h.land hd ho hp hn (v':=undef) (bL.le_refl _) h.rel h.QD (fun d hd=>⟨_,h2 d hd,.n8 _ _ .nil⟩) (fun _ _ _ g=>g),.one ?_⟩
  have:=stepR_op_skip (P:=P) (b:=b) (a:=a) (k:=kk) (cs:=cs) (w:=w) (ops:=ops) (i:=i) (rest:=rest) (by rw[ho];simp[hw])
  rw[ho]at this
  exact this
 ·have hw:=fy ht (TL.trans h1)
  obtain⟨v',g1,g2⟩:=Ha (a:=a) h.rel ht ((iY Le).trans h3)
  exact⟨ρ,w,_,h.land hd ho hp hn (bL.le_refl _) h.rel h.QD (fun d hd=>⟨_,h4 d hd,g1⟩) (fun _ _ _ g=>g),.one (jh ho hw (jZ (.inr trivial) (.inl h2)) g2 (.inl rfl))⟩
 ·have hw:=fy ht (TL.trans h1)
  obtain⟨obj,n,v',g1,g2,g3⟩:=Hb (a:=a) h.rel ht ((nO Le).trans h4)
  refine⟨ρ.add (ids i) 0 ⟨w.heap.size,0,n⟩,_,_,h.land hd ho hp hn (bL.px (h9 0)) (h.rel.SU h8 h9 h6 (fun ρ' hle _=>g2 ρ' hle)) (h.QD.ae2 h.rel.low h7 h9 ((g2 ρ (bL.le_refl _)).Vo (xW h4))) (fun d hd=>⟨_,h5 d hd,g3 _ _ (bL.add_same _ _ _ _)⟩) (fun j hj cH hu ep=>?_),.one (jh ho hw (jZ (.inr trivial) (.inr (.inl h2))) g1 (.inl rfl))⟩
  unfold bL.add
  rw[if_neg (fun hh=>cH (h.inj _ _ hj h3 hh.1))]
  exact hu ep
theorem jD.O0 (dG:iP B P rec) (mG:mm ops=true) {is:List Nat} (h:jD B P rec c ops k ρ0 rB w0 ds b (i::is) done real AL ids e st ρ w a) (hi:dE ops i=false) (hp:∀j∈cy ops i,real j) (rest:List Nat) (kk:List Item) (cs:List Frame):
 ∃e' bt ρ' w' a',jD B P rec c ops k ρ0 rB w0 ds b is (i::done) (fun j=>real j∨j=i) AL ids e' bt ρ' w' a'∧
  Steps P (lone (b.atR a (.inRegion ops (i::rest)::kk)) cs w) (lone (b.atR a' (.inRegion ops rest::kk)) cs w'):=by
 obtain⟨_,od,_,_⟩:=jR mG
 obtain⟨bw,rQ,eV,yv⟩:=h.J9
 have ho:ops[i]?=some ops[i]:=Array.getElem?_eq_getElem bw
 generalize ops[i]=o at ho
 have hc:2≤bx o:=by
  unfold dE at hi
  rw[ho]at hi
  have:¬bx o<2:=fun hh=>by
   rw[←Nat.blt_eq]at hh
   have Fw:Nat.blt (bx o) 2=false:=hi
   rw[hh]at Fw
   cases Fw
  omega
 have ht:=h.YY od ho (fun hd=>absurd hd rQ) hp
 have TL:=fH (ops:=ops) (o:=o) (qI (ops:=ops) (e:=e) (o:=o))
 have Le:=dq (ops:=ops) (o:=o) (qI (ops:=ops) (e:=e) (o:=o))
 have iN:=h.go
 simp only[nE,ho]at iN
 have ac6:∀j,j∈Gt ops ops.size i→real j:=vM h.closed _ _ hp
 have cH:∀j∈done,j≠i:=fun j hj e=>rQ (e▸hj)
 have iz:∀j∈done,¬real j→∀y,ops[j]?=some y→∀d,o.dst=some d→d∉looks ops y:=fun j hj hr y hy d hd=>by
  rcases((gT od ho hy hd).2 (fun e=>cH j hj e.symm)).2 with h1|h1|h1
  ·exact h1
  ·exact absurd (h.qN j hj i h1) rQ
  ·exact absurd (ac6 j h1.2) hr
 have yy:∀j∈done,∀y,ops[j]?=some y→∀d,o.dst=some d→y.dst≠some d:=fun j hj y hy d hd=>((gT od ho hy hd).2 (fun e=>cH j hj e.symm)).1
 have yx:∀j,j<ops.size→j∈i::done∨j∈is:=fun j hj=>by
  rcases h.full j hj with h1|h1
  ·exact .inl (List.mem_cons_of_mem _ h1)
  ·rcases List.mem_cons.1 h1 with rfl|h1
   ·exact .inl (List.mem_cons_self ..)
   ·exact .inr h1
 have sI:gN ops is=true:=by have:=h.tail;simp only[gN,Bool.and_eq_true]at this;exact this.2
 have J2:∀j∈i::done,∀q∈cy ops j,q∈i::done:=fun j hj q hq=>by
  rcases List.mem_cons.1 hj with rfl|hj
  ·exact List.mem_cons_of_mem _ (eV q hq)
  ·exact List.mem_cons_of_mem _ (h.qN j hj q hq)
 have JL:∀j,(real j∨j=i)→j∈i::done:=by
  rintro j (hj|rfl)
  ·exact List.mem_cons_of_mem _ (h.sub j hj)
  ·exact List.mem_cons_self ..
 have ac2:∀j,(real j∨j=i)→∀q∈cy ops j,(real q∨q=i):=by
  rintro j (hj|rfl) q hq
  ·exact .inl (h.closed j hj q hq)
  ·exact .inl (hp q hq)
 have rN:∀(u:AV) (u':Value) (ρ':bL),ρ.le ρ'→aL ρ' u u'→(∀d,o.dst=some d→d<c.n)→∀t v,(qf e o.dst u).get t=some v→(∀j y,j∈i::done→¬(real j∨j=i)→ops[j]?=some y→y.dst≠some t)→∃v',(a.put o.dst u').tmps[t]?=some v'∧aL ρ' v v':=fun u u' ρ' hle hu hn t v ht hl=>by
  by_cases hdt:o.dst=some t
  ·rw[qH hdt]at ht;cases ht
   exact⟨u',Act.Ih hdt (by rw[h.size];exact hn t hdt),hu⟩
  ·rw[Act.vg hdt]
   rw[dL hdt]at ht
   obtain⟨x,h1,h2⟩:=h.gl t v ht (fun j y hj hr hy=>hl j y (List.mem_cons_of_mem _ hj) (fun hh=>hh.elim hr (cH j hj)) hy)
   exact⟨x,h1,h2.mono hle⟩
 split at iN
 ·rename_i hw
  have KS:=fy ht (TL.trans hw)
  rw[←Jj Le]at iN
  obtain⟨v,bt,ρ',v',w',g1,g2,g3,g4,g5⟩:=Ca (b:=b) (kk:=kk) (cs:=cs) (rest:=rest) dG h.rel ht ho KS iN
  obtain⟨hn,g1⟩:=kI g1
  rw[Bool.and_eq_true]at g1
  obtain⟨Yn,ao3⟩:=g1
  have Yn:recheck P ops bt (qf e o.dst v) (done.filter fun j=> !(Gt ops ops.size i).contains j)=true:=by
   split at Yn
   ·omega
   ·omega
   ·exact Yn
  refine⟨_,bt,ρ',w',_,⟨ao3,h.QD.trans g4,g2,rN v v' ρ' g4.le g3 hn,by rw[Act.size_put];exact h.size,by rw[Act.pr];exact h.marks.mono g4.le,h.kind,h.fn,h.round.mono g4.le,yv,yx,sI,JL,ac2,J2,fun j hj hr=>?_,
   fun j hj=>⟨List.mem_cons_of_mem _ (h.al j hj).1,Nat.lt_of_lt_of_le (h.al j hj).2 g4.next⟩,h.inj⟩,g5⟩
  have hj:j∈done:=(List.mem_cons.1 hj).resolve_left (fun e=>hr (.inr e))
  have hr:¬real j:=fun hh=>hr (.inl hh)
  refine(h.late j hj hr).put (iz j hj hr) (yy j hj) (fun y hy q1 q2 _=>uh Yn (List.mem_filter.2 ⟨hj,?_⟩) hy q2 q1) id (fun _=>rfl) (fun _ q1 q2=>⟨(g4.un _ q1 q2).2,(g4.un _ q1 q2).1,Nat.lt_of_lt_of_le q1 g4.next⟩)
  have:j∉Gt ops ops.size i:=fun hh=>hr (ac6 j hh)
  simp[this]
 ·rename_i hw
  have KS:=fy ht (TL.trans hw)
  obtain⟨hn,iN⟩:=kI iN
  refine⟨_,st,ρ,w,a.put o.dst undef,⟨iN,h.QD,h.rel,rN bX undef ρ (bL.le_refl _) (.n8 _ _ .nil) hn,by rw[Act.size_put];exact h.size,by rw[Act.pr];exact h.marks,h.kind,h.fn,h.round,yv,yx,sI,JL,ac2,J2,fun j hj hr=>?_,
   fun j hj=>⟨List.mem_cons_of_mem _ (h.al j hj).1,(h.al j hj).2⟩,h.inj⟩,.one ?_⟩
  ·have hj:j∈done:=(List.mem_cons.1 hj).resolve_left (fun e=>hr (.inr e))
   have hr:¬real j:=fun hh=>hr (.inl hh)
   exact(h.late j hj hr).put (iz j hj hr) (yy j hj) (fun y hy _ _ ⟨v',q1,q2⟩=>⟨v',(iY (dq (ops:=ops) (fun t ht=>dL (fun hd=>iz j hj hr y hy t hd ht)))).trans q1,q2⟩)
    id (fun _=>rfl) (fun _ q1 q2=>⟨rfl,q2,q1⟩)
  ·have:=stepR_op_skip (P:=P) (b:=b) (a:=a) (k:=kk) (cs:=cs) (w:=w) (ops:=ops) (i:=i) (rest:=rest) (by rw[ho];simp[KS])
   rw[ho]at this
   exact this
 ·cases iN
end
end Go.Il
namespace Go.Il
variable [Sym]
section
variable {B : Nat → Prop} {P : Program} {rec : dh} {c : Ctx} {ops : Array Oper} {k : Env → St → Bool} {ρ0 : bL} {rB : St} {w0 : World} {ds : List Nat} {b : Frame}
 {suf done:List Nat} {AL:Nat→Prop} {ids:Nat→Nat} {e:Env} {st:St} {ρ:bL} {w:World} {a:Act}
def kb (ops:Array Oper) (aU:Array Bool):List Nat:=(List.range ops.size).filter fun i=> !aU.getD i false
variable {aU:Array Bool} {i j n:Nat}
theorem IE (hs:aU.size=ops.size) (hi:i<ops.size) (hu:aU.getD i false=false):
 (kb ops (aU.setIfInBounds i true)).length<(kb ops aU).length:=by
 have h1:kb ops (aU.setIfInBounds i true)=(kb ops aU).filter (fun j=> !decide (j=i)):=by
  unfold kb
  rw[List.filter_filter]
  apply List.filter_congr
  intro j hj
  by_cases oK:j=i
  ·subst oK
   have:j<aU.size:=by omega
   simp[this]
  ·have:(aU.setIfInBounds i true)[j]?=aU[j]?:=Array.getElem?_setIfInBounds_ne (Ne.symm oK)
   simp[this,oK]
 rw[h1]
 refine List.length_filter_lt_length_iff_exists.2 ⟨i,?_,by simp⟩
 unfold kb
 exact List.mem_filter.2 ⟨List.mem_range.2 hi,by rw[hu];rfl⟩
theorem jD.ui {real Mu:Nat→Prop} (h:jD B P rec c ops k ρ0 rB w0 ds b suf done real AL ids e st ρ w a) (ZY:∀j,real j↔Mu j):jD B P rec c ops k ρ0 rB w0 ds b suf done Mu AL ids e st ρ w a:=by
 have:real=Mu:=funext fun j=>propext (ZY j)
 rw[←this];exact h
theorem GL (hs:aU.size=ops.size) (hi:i<ops.size) (j:Nat):(aU.getD j false=true∨j=i)↔(aU.setIfInBounds i true).getD j false=true:=by
 by_cases oK:j=i
 ·subst oK
  have:j<aU.size:=by omega
  simp[this]
 ·have:(aU.setIfInBounds i true)[j]?=aU[j]?:=Array.getElem?_setIfInBounds_ne (Ne.symm oK)
  simp[this,oK]
theorem O8 (dG:iP B P rec) (mG:mm ops=true) (kk:List Item) (cs:List Frame):∀(fuel t:Nat) (aU:Array Bool) (suf done:List Nat) (AL:Nat→Prop) (ids:Nat→Nat) (e:Env) (st:St) (ρ:bL) (w:World) (a:Act),
 aU.size=ops.size→(kb ops aU).length≤fuel→jD B P rec c ops k ρ0 rB w0 ds b suf done (fun j=>aU.getD j false=true) AL ids e st ρ w a→(∀i is,suf=i::is→dE ops i=false)→
 ∃e' bt ρ' a' w',k e' bt=true∧aV B ρ' bt w'∧kD ρ' c e' ds b a'∧gX B ρ0 rB w0 ρ' bt w'∧
  Steps P (lone (b.atR a (.inRegion ops (Region.linearise.go .any ops fuel t aU [])::kk)) cs w) (lone (b.atR a' kk) cs w'):=by
 have fin:∀(aU:Array Bool) (suf done:List Nat) (AL:Nat→Prop) (ids:Nat→Nat) (e:Env) (st:St) (ρ:bL) (w:World) (a:Act),(∀j,j<ops.size→aU.getD j false=true)→
  jD B P rec c ops k ρ0 rB w0 ds b suf done (fun j=>aU.getD j false=true) AL ids e st ρ w a→
  ∃e' bt ρ' a' w',k e' bt=true∧aV B ρ' bt w'∧kD ρ' c e' ds b a'∧gX B ρ0 rB w0 ρ' bt w'∧Steps P (lone (b.atR a (.inRegion ops []::kk)) cs w) (lone (b.atR a' kk) cs w'):=by
  intro aU suf done AL ids e st ρ w a kx h
  cases suf with
  |cons i is=>exact absurd (h.sub i (kx i h.J9.1)) h.J9.2.1
  |nil=>
   refine⟨e,st,ρ,a,w,h.go,h.rel,⟨fun t v ht=>h.gl t v ht (fun j y hj hr hy=>absurd (kx j (Array.getElem?_eq_some_iff.1 hy).1) hr),h.size,h.marks,h.kind,h.fn,h.round⟩,h.QD,.one stepR_region_end⟩
 obtain⟨_,od,_,bw⟩:=jR mG
 intro fuel
 induction fuel with
 |zero=>
  intro t aU suf done AL ids e st ρ w a hs hu h Wc
  simp only[Region.linearise.go,List.reverse_nil]
  refine fin aU suf done AL ids e st ρ w a (fun j hj=>?_) h
  cases hl:aU.getD j false with
  |true=>rfl
  |false=>
   have:j∈kb ops aU:=List.mem_filter.2 ⟨List.mem_range.2 hj,by rw[hl];rfl⟩
   have h0:kb ops aU=[]:=List.length_eq_zero_iff.1 (by omega)
   rw[h0]at this;cases this
 |succ fuel ih=>
  intro t aU suf done AL ids e st ρ w a hs hu h Wc
  simp only[Region.linearise.go]
  change∃e' bt ρ' a' w',k e' bt=true∧aV B ρ' bt w'∧kD ρ' c e' ds b a'∧gX B ρ0 rB w0 ρ' bt w'∧
   Steps P (lone (b.atR a (.inRegion ops (match(Region.ready .any ops aU)[t%(Region.ready .any ops aU).length]? with
    |some i=>Region.linearise.go .any ops fuel (t/(Region.ready .any ops aU).length) (aU.setIfInBounds i true) [i]
    |none=>[].reverse)::kk)) cs w) (lone (b.atR a' kk) cs w')
  cases hi:(Region.ready .any ops aU)[t%(Region.ready .any ops aU).length]? with
  |none=>
   have al3:Region.ready .any ops aU=[]:=by
    cases hr:Region.ready .any ops aU with
    |nil=>rfl
    |cons x xs=>
     rw[hr]at hi
     have bw:t%(x::xs).length<(x::xs).length:=Nat.mod_lt _ (by simp)
     simp at hi
     simp at bw
     omega
   exact fin aU suf done AL ids e st ρ w a (I6 bw hs al3) h
  |some i=>
   simp only[]
   rw[linearise_go_acc,List.reverse_singleton,List.singleton_append]
   obtain⟨Fs,o,ho,eV⟩:=mem_ready.1 (List.mem_of_getElem? hi)
   have NO:i<ops.size:=(Array.getElem?_eq_some_iff.1 ho).1
   have KZ:aU.getD i false=false:=by
    have h2:i<aU.size:=by omega
    simp[h2]at Fs⊢;exact Fs
   have hp:∀j∈cy ops i,aU.getD j false=true:=fun j hj=>by
    obtain⟨ed,h1,h2,rfl⟩:=(yc ho).1 hj
    exact eV ed h1 h2
   have Cy:(aU.setIfInBounds i true).size=ops.size:=by rw[Array.size_setIfInBounds];exact hs
   have ZO:=IE hs NO KZ
   by_cases hd:i∈done
   ·obtain⟨ρ',w',a',h1,h2⟩:=h.JD mG hd (by rw[KZ];simp) hp (Region.linearise.go .any ops fuel (t/(Region.ready .any ops aU).length) (aU.setIfInBounds i true) []) kk cs
    obtain⟨e2,Eu,ρ2,a2,w2,g1,g2,g3,g4,g5⟩:=ih (t/(Region.ready .any ops aU).length) (aU.setIfInBounds i true) suf done AL ids e st ρ' w' a' Cy (by omega) (h1.ui (GL hs NO)) Wc
    exact⟨e2,Eu,ρ2,a2,w2,g1,g2,g3,g4,h2.trans g5⟩
   ·cases suf with
    |nil=>exact absurd (h.full i NO) (by simp[hd])
    |cons r is=>
     have hrq:=Wc r is rfl
     have WB:i=r:=by
      rcases List.mem_cons.1 ((h.full i NO).resolve_left hd)with h1|h1
      ·exact h1
      ·exfalso
       have ht:=h.tail
       simp only[gN,hrq,Bool.and_eq_true,List.all_eq_true]at ht
       have:r∈Gt ops ops.size i:=by simpa using ht.1 i h1
       exact h.J9.2.1 (h.sub r (vM h.closed _ _ hp r this))
     subst WB
     obtain⟨e1,P4,ρ1,w1,a1,h1,h2⟩:=h.O0 dG mG hrq hp (Region.linearise.go .any ops fuel (t/(Region.ready .any ops aU).length) (aU.setIfInBounds i true) []) kk cs
     obtain⟨IJ,Dk,PX,uP,e',bt,h3,h4⟩:=h1.saturate mG
     obtain⟨e2,Eu,ρ2,a2,w2,g1,g2,g3,g4,g5⟩:=ih (t/(Region.ready .any ops aU).length) (aU.setIfInBounds i true) IJ Dk PX uP e' bt ρ1 w1 a1 Cy (by omega) (h3.ui (GL hs NO)) h4
     exact⟨e2,Eu,ρ2,a2,w2,g1,g2,g3,g4,h2.trans g5⟩
theorem As (hm:P.follows .mixedOrders=true):sr B P:=by
 intro rec dG c ops e st k h ρ w ds b a kk cs id hs hf
 unfold Di at h
 split at h<;>(try(cases h;done))
 rename_i mG
 obtain⟨kx,od,sI,bw⟩:=jR mG
 have h0:jD B P rec c ops k ρ st w ds b (sched ops ops.size []) [] (fun j=>(Array.replicate ops.size false).getD j false=true) (fun _=>False) (fun _=>0) e st ρ {w with drawn:=w.drawn+1} a:=by
  have lG:∀j,¬(Array.replicate ops.size false).getD j false=true:=fun j hj=>by
   by_cases zr:j<ops.size<;>simp[zr]at hj
  exact⟨h,.drew _,hs.drew _,fun t v ht _=>hf.gl t v ht,hf.size,hf.marks,hf.kind,hf.fn,hf.round,Ez _ _ _,fun i hi=> .inr (kx i hi),sI,
   fun j hj=>absurd hj (lG j),fun j hj=>absurd hj (lG j),(fun j hj=>by cases hj),(fun j hj=>by cases hj),fun j hj=>hj.elim,fun j _ hj=>hj.elim⟩
 obtain⟨IJ,Dk,PX,uP,e',bt,h3,h4⟩:=h0.saturate mG
 obtain⟨e2,Eu,ρ2,a2,w2,g1,g2,g3,g4,g5⟩:=O8 dG mG kk cs ops.size (w.tape w.drawn (.order b.fn id)) (Array.replicate ops.size false) IJ Dk PX uP e' bt ρ _ a (by simp) (by unfold kb;exact Nat.le_trans (List.length_filter_le _ _) (by simp)) h3 h4
 refine⟨e2,Eu,ρ2,a2,w2,g1,g2,g3,g4,.head stepR_region_draw ?_⟩
 simp only[Region.schedule,hm,Bool.true_or,if_true]
 exact g5
end
end Go.Il
namespace Go.Il
variable [Sym]
variable {ρ':bL} {bt:St}
theorem Grown.MN {w:World} {ρ:bL} {st:St} {w':World} (h:gX (fun b=>b<w.heap.size) ρ st w ρ' bt w'):RowKit.Grown w w':=by
 refine⟨⟨h.os,h.out,fun i hi=>?_⟩,h.YG,h.size⟩
 rw[h.low i hi]
 cases w.heap[i]? with
 |none=>rfl
 |some o=>cases o<;>first|rfl|exact⟨rfl,rfl,rfl,fun _ _=>rfl⟩|exact .inr ⟨rfl,rfl⟩
def isTrue (v:AV):Bool:=match v with| .bool true=>true|_=>false
end Go.Il
