/- merge of a graph of one block; decide; join. -/
import Derived.Test.YtjkahfmdcpfjjaaGreatBC
import Derived.Laws.IdiomRangeMap
set_option linter.unusedVariables false
namespace Go.Proofs.YtjkahfmdcpfjjaaGreat
open Go.RowKit
section
set_option maxRecDepth 100000
set_option maxHeartbeats 4000000
theorem UC {α:Type} {f:α→List Value} (hf:∀a,(f a).length=6):∀(l:List α) (j i:Nat) (a:α),l[j]?=some a→i<6→(l.flatMap f)[j*6+i]?=(f a)[i]?
 |[],j,i,a,h,_=>by simp at h
 |b::l,0,i,a,h,hi=>by
  simp at h
  subst h
  rw[List.flatMap_cons,Nat.zero_mul,Nat.zero_add,List.getElem?_append_left (by rw[hf];exact hi)]
 |b::l,j+1,i,a,h,hi=>by
  rw[List.flatMap_cons,List.getElem?_append_right (by rw[hf];omega),hf]
  have e:(j+1)*6+i-6=j*6+i:=by omega
  rw[e]
  exact UC hf l j i a (by simpa using h) hi
def rowOf (l:List aE):List Value:=l.flatMap fun o=>o.cells.toList
variable {l:List aE}
theorem BE {j:Nat} {o:aE} (h:l[j]?=some o) (i:Nat) (hi:i<6):(rowOf l)[j*6+i]?=o.cells[i]?:=by
 have:=UC (f:=fun o:aE=>o.cells.toList) (fun _=>rfl) l j i o h hi
 rw[show(rowOf l)=l.flatMap fun o=>o.cells.toList from rfl,this]
 simp
theorem dp (l:List aE):(rowOf l).length=l.length*6:=by
 induction l with
 |nil=>rfl
 |cons o l ih=>rw[rowOf,List.flatMap_cons,List.length_append,show(l.flatMap fun o=>o.cells.toList)=rowOf l from rfl,ih,List.length_cons];simp[aE.cells];omega
theorem lN (l:List aE) (o:aE):rowOf (l++[o])=rowOf l++o.cells.toList:=by simp[rowOf]
theorem dU.uz {w:World} {base n:Nat} {v:Value} (h:Own w base 67 6 v n (rowOf l)) (h0:l≠[]):∃g c,v=.slice (some ⟨g,0,none⟩) n c∧base≤g∧dU w g n c l:=by
 have hlen:l.length=n:=by have:=h.len;rw[dp]at this;omega
 have fX:0<l.length:=List.length_pos_iff.2 h0
 rcases h.form with⟨rfl,rfl⟩|⟨g,c,cs,rfl,hb,hg,hc⟩
 ·omega
 ·refine⟨g,c,rfl,hb,hlen,by omega,hc,cs,hg,fun j o hj=>?_⟩
  have key:∀i (hi:i<6) v,o.cells[i]?=some v→cs[j*6+i]?=some v:=fun i hi v hv=>by
   rw[←Yc hg]
   exact h.cell ((BE hj i hi).trans hv)
  exact⟨key 0 (by omega) _ rfl,key 1 (by omega) _ rfl,key 2 (by omega) _ rfl,key 3 (by omega) _ rfl,key 4 (by omega) _ rfl,key 5 (by omega) _ rfl⟩
theorem DF:Ap Tryz.prog 57 67 6 64:=⟨Tryz.underlying57,by
 obtain⟨ti,nT,hz,hs,hb⟩:=dP (show(Tryz.prog.info? 67).map (fun i=>(i.zero,i.size,i.bytes))=some (some (.agg #[.int .i64 0,.int .i64 0,.int .i64 0,.int .i64 0,.int .u16 0,.slice none 0 0]),6,64) by kernel_rfl)
 exact⟨ti,_,nT,hz,hs,hb,rfl⟩,by decide,by decide⟩
theorem An (w:World) (f:Value):Calls Tryz.prog 154 #[.slice none 0 0,.slice none 0 0,f] w (fun e w'=>e=.returned (.bool true)∧w'=w):=by
 go_enter Tryz.func154,Tryz.ntmps154
 go_wp2_with fail
 go_loopw[15] (fun i wr=>i=.int .i64 0∧wr=w) (fun _ _=>0)
 case atStart=>exact⟨rfl,rfl⟩
 case round=>
  obtain⟨rfl,rfl⟩:=hrel
  go_wp2_with fail
  go_ret
  exact⟨rfl,rfl⟩
theorem ED (w:World) (x y:aE):Calls Tryz.prog 91 #[OV x,OV y] w (fun e w'=>e=.returned (.bool (decide (x=y)))∧ak w.heap.size w w'):=by
 obtain⟨x1,x2,x3,x4,x5⟩:=x
 obtain⟨y1,y2,y3,y4,y5⟩:=y
 go_enter Tryz.func91,Tryz.ntmps91
 go_wp2_with(first|(go_at_call 154;refine(An _ _).mono ?_;rintro e w' ⟨rfl,he⟩;rw[he];clear he w'))
 all_goals(go_ret;exact⟨by simp[*],zR _ _ _⟩)
section
variable {M : Int → Int} {s s' : St} {o : aE}
theorem Ch (hs:cB M s) (h:Form s o):Form s (bO s o):=by
 rcases h with hA|hO
 ·rw[hA.map hs];exact .inl hA
 ·obtain⟨mq,pG⟩:=nB hs hO.2.2.2.2.2.2
  rw[hO.map]
  exact .inr ⟨hO.1,hO.2.1,hO.2.2.1,hO.2.2.2.1,hO.2.2.2.2.1,pG hO.2.2.2.2.2.1⟩
theorem cB.flat (h:cB M s):Flat s.al:=fun v u hu=>by
 obtain⟨_,_,hx,_⟩:=h.al v u hu
 cases hc:aA s.al u with
 |none=>rfl
 |some u'=>
  obtain⟨a,b,_⟩:=h.al u u' hc
  rcases hx with rfl|hx
  ·omega
  ·rw[h.low (by omega)]at hx;cases hx
theorem Form.uy (h:Form s o):aS o.code:=by
 unfold aS
 simp only[List.mem_cons,List.not_mem_nil,or_false]
 rcases h with⟨⟨⟨h1,_⟩|⟨h1,h2,_⟩,_⟩,_⟩|h1
 ·omega
 ·omega
 ·have:=h1.1;omega
theorem Q7 {acc:St×List aE×Bool} {o':aE} {v:Int} (hs:cB M acc.1) (hf:Form acc.1 (bO acc.1 o)) (h:af0 acc.1 (cE (aA acc.1.nm) (bO acc.1 o)) o' v s'):
 (0≤v∧dR acc o=(s'.alias o.res v,acc.2.1,true))∨(v= -1∧dR acc o=(s'.defs o',acc.2.1++[o'],acc.2.2||decide (o'≠o))):=by
 unfold dR
 cases hr:cE (aA acc.1.nm) (bO acc.1 o)with
 |aW n=>
  rw[hr]at h
  obtain⟨rfl,rfl,rfl⟩:=h
  exact .inr ⟨rfl,rfl⟩
 |val u=>
  rw[hr]at h
  obtain⟨rfl,rfl⟩:=h
  refine .inl ⟨?_,rfl⟩
  rcases hf with hA|hO
  ·have:=((xG hs hA).2.1 v hr).1;omega
  ·have:=hO.Rb (aA acc.1.nm) (bO acc.1 o).a
   have h2:cE (aA acc.1.nm) (bO acc.1 o)=.aW (bO acc.1 o):=this
   rw[h2]at hr;cases hr
 |nF n=>
  rw[hr]at h
  obtain⟨rfl,rfl⟩:=h
  refine .inl ⟨?_,rfl⟩
  have hw:W n:=by
   have:=GM (nm:=aA acc.1.nm) (M:=M) (o:=bO acc.1 o) (hs.LI _) (hs.LI _)
   rw[hr]at this
   exact this.1
  have:=((jc hs hw).1.kw _ _ (jc hs hw).2.2.1).1
  omega
 |Bb n k=>
  rw[hr]at h
  obtain⟨rfl,rfl,rfl⟩:=h
  exact .inr ⟨rfl,rfl⟩
end
section
variable {w w' : World} {gr bk al df nm ob cm om : Nat} {s : St}
theorem Gc.Mz (h:Gc w gr bk al df nm ob cm om s) (r v:Int):∃w',(Instr.mapUpdate 121 (.map (some al)) (.int .i64 r) (.int .i64 v)).run Tryz.prog w=.ok () w'∧aY [al] w w'∧Gc w' gr bk al df nm ob cm om (s.alias r v):=by
 obtain⟨w',h1,h2,h3,h4⟩:=ay Tryz.underlying121 Tryz.underlying3 h.iv r (.int .i64 v)
 have rQ:=h.mL
 simp only[List.nodup_cons,List.mem_cons,List.not_mem_nil,or_false,not_or]at rQ
 obtain⟨⟨a1,a2,a3,a4,a5⟩,_⟩:=rQ
 have no:∀{k},al≠k→k∉[al]:=fun hk=>by simp only[List.mem_singleton];exact Ne.symm hk
 refine⟨w',h1,h3,h3.obj h.g (by simp only[List.mem_singleton];exact bm h.g h.iv.isMap),?_,h.iO.cG h3 (no a1),h.fD.cG h3 (no a2),h.lC.cG h3 (no a3),h.ig.cG h3 (no a4),h.lB.cG h3 (no a5),h.mL⟩
 have:=h2
 rw[show(Value.int .i64 v)=cA v from rfl,qe]at this
 exact this
theorem Gc.My (h:Gc w gr bk al df nm ob cm om s) (o:aE):∃w',(Instr.mapUpdate 125 (.map (some df)) (.int .i64 o.res) (OV o)).run Tryz.prog w=.ok () w'∧aY [df] w w'∧Gc w' gr bk al df nm ob cm om {s with df:=dj s.df o.res o}:=by
 obtain⟨w',h1,h2,h3,h4⟩:=ay Tryz.underlying125 Tryz.underlying3 h.iO o.res o.val
 have rQ:=h.mL
 simp only[List.nodup_cons,List.mem_cons,List.not_mem_nil,or_false,not_or]at rQ
 obtain⟨⟨a1,a2,a3,a4,a5⟩,⟨b1,b2,b3,b4⟩,_⟩:=rQ
 have no:∀{k},df≠k→k∉[df]:=fun hk=>by simp only[List.mem_singleton];exact Ne.symm hk
 refine⟨w',h1,h3,h3.obj h.g (by simp only[List.mem_singleton];exact bm h.g h.iO.isMap),h.iv.cG h3 (no (Ne.symm a1)),?_,h.fD.cG h3 (no b1),h.lC.cG h3 (no b2),h.ig.cG h3 (no b3),h.lB.cG h3 (no b4),h.mL⟩
 have:=h2
 rw[qe]at this
 exact this
end
end
section
variable {p:Nat→Prop}
theorem exists_least (h:∃n,p n):∃n,p n∧∀m,p m→n≤m:=by
 obtain⟨n,hn⟩:=h
 induction n using Nat.strongRecOn with
 |ind n ih=>
  by_cases hx:∃m,m<n∧p m
  ·obtain⟨m,h1,h2⟩:=hx
   exact ih m h1 h2
  ·exact⟨n,hn,fun m hm=>Nat.le_of_not_lt fun hl=>hx ⟨m,hl,hm⟩⟩
open Classical in
noncomputable def lY (p:Nat→Prop):Nat:=if h:∃n,p n then Classical.choose (exists_least h)else 0
variable {al bk cm df gr n nm ob om:Nat}
theorem jW (h:p n):p (lY p)∧lY p≤n:=by
 have hx:∃n,p n:=⟨n,h⟩
 unfold lY
 rw[dif_pos hx]
 obtain⟨h1,h2⟩:=Classical.choose_spec (exists_least hx)
 exact⟨h1,h2 n h⟩
noncomputable def oz (p:World→Nat→Prop):Value→World→Nat
 | .bool true,w=>1+lY (p w)
 |_,_=>0
variable {M:Int→Int} {T:Prop} {N rv:Int} {s:St} {l:List aE}
theorem FI.aj2 {outs:List (Int×Int)} {ret:Int} (h:FI M T outs rv N s l ret):0≤ret:=by
 have h1:=h.ov.1
 unfold bu at h1
 cases e:aA s.al ret with
 |none=>rw[e]at h1;exact h1
 |some u=>have:=(h.ok.al _ _ e).1;omega
theorem FI.Cb {outs:List (Int×Int)} {ret:Int} (h:FI M T outs rv N s l ret):jy l:=fun o ho=>
 (h.form (bO s o) (List.mem_map.2 ⟨o,ho,rfl⟩)).uy
theorem FR.qm {outs:List (Int×Int)} {ret:Int} (h:FR M T outs rv N s l ret):l.map (bO s)=l:=by
 conv=>rhs;rw[←List.map_id l]
 exact List.map_congr_left (fun o ho=>h.res o ho)
theorem FR.aj0 {outs:List (Int×Int)} {ret:Int} (h:FR M T outs rv N s l ret):FI M T outs rv N s l ret:=by
 unfold FI
 rw[h.qm,h.BM]
 exact h
theorem Ee (nm:Int→Option Int) (a b:List aE):kG nm (a++b)=kG nm a+kG nm b:=by simp[kG]
variable {w w':World}
theorem Own.cG {base e size:Nat} {v:Value} {xs:List Value} {B:List Nat} (h:Own w base e size v n xs) (hc:aY B w w') (hb:∀g cs,w.heap[g]?=some (.cells cs e (0,0))→g∉B):Own w' base e size v n xs:=h.kept fun g hg=>by
 rcases h.form with⟨h1,_⟩|⟨g',c,cs,h1,_,h3,_⟩
 ·rw[h1]at hg;cases hg
 ·rw[h1]at hg;cases hg
  exact hc.block _ (aB h3) (hb _ _ h3)
theorem Gc.below {S:Nat} (h:Gc w gr bk al df nm ob cm om s) (hk:∀b,b<S→w'.heap[b]?=w.heap[b]?) (hb:gr<S∧al<S∧df<S∧nm<S∧ob<S∧cm<S∧om<S):Gc w' gr bk al df nm ob cm om s:=by
 obtain⟨b1,b2,b3,b4,b5,b6,b7⟩:=hb
 obtain⟨c1,e1⟩:=h.lC
 obtain⟨c2,e2⟩:=h.lB
 exact⟨(hk _ b1).trans h.g,h.iv.aW (hk _ b2),h.iO.aW (hk _ b3),h.fD.aW (hk _ b4),⟨c1,(hk _ b5).trans e1⟩,h.ig.aW (hk _ b6),⟨c2,(hk _ b7).trans e2⟩,h.mL⟩
theorem Gc.bounds (h:Gc w gr bk al df nm ob cm om s):gr<w.heap.size∧al<w.heap.size∧df<w.heap.size∧nm<w.heap.size∧ob<w.heap.size∧cm<w.heap.size∧om<w.heap.size:=by
 have key:∀{k},(∃es cl,w.heap[k]?=some (.map es cl))→k<w.heap.size:=fun hk=>by obtain⟨_,_,e⟩:=hk;exact aB e
 exact⟨aB h.g,key h.iv.isMap,key h.iO.isMap,key h.fD.isMap,key h.lC.isMap,key h.ig.isMap,key h.lB.isMap⟩
theorem aY.fresh {w1 w2:World} {ga gb:Nat} (h1:aY (GB gr bk al df nm cm ga) w w1) (h2:aY (GB gr bk al df nm cm gb) w1 w2) (hb:gb=ga∨w.heap.size≤gb):aY (GB gr bk al df nm cm ga) w w2:=by
 rcases hb with rfl|hb
 ·exact h1.trans h2
 ·refine⟨h2.os.trans h1.os,h2.out.trans h1.out,Nat.le_trans h1.size h2.size,fun g hg hn=>?_⟩
  have h3:g<w1.heap.size:=Nat.lt_of_lt_of_le hg h1.size
  refine(h2.block g h3 ?_).trans (h1.block g hg hn)
  simp only[GB,List.mem_cons,List.not_mem_nil,or_false,not_or]at hn⊢
  obtain⟨a1,a2,a3,a4,a5,a6,a7⟩:=hn
  exact⟨a1,a2,a3,a4,a5,a6,by omega⟩
def ml (s:St) (l:List aE) (q:Nat):St×List aE×Bool:=(l.take q).foldl dR (s,[],false)
theorem KO {q:Nat} {o:aE} (h:l[q]?=some o):ml s l (q+1)=dR (ml s l q) o:=by
 have hq:=(List.getElem?_eq_some_iff.1 h).1
 have ho:=(List.getElem?_eq_some_iff.1 h).2
 unfold ml
 rw[List.take_succ_eq_append_getElem hq,ho,List.foldl_append]
 rfl
structure PW (w1 wx:World) (S1 gr bk al df nm ob cm om:Nat) (s:St) (l:List aE) (q:Nat) (v:Value):Prop where
 c:aY [gr,al,df,nm,cm] w1 wx
 g:Gc wx gr bk al df nm ob cm om (ml s l q).1
 o:Own wx S1 67 6 v (ml s l q).2.1.length (rowOf (ml s l q).2.1)
end
section
set_option maxRecDepth 100000
set_option maxHeartbeats 8000000
def XG:Value→Nat
 | .bool true=>1
 |_=>0
theorem tU (r cr:Nat) (oh:1≤cr):∃X c',∀u,(Instr.slice 133 (.slice (ad r) 1 cr) (some (G 1)) none none).run Tryz.prog u=.ok (.slice X 0 c') u:=by
 have hu:=Tryz.underlying133
 by_cases h:cr=1
 ·subst h;exact⟨some ⟨r,0,none⟩,0,fun u=>by kernel_rfl⟩
 ·refine⟨some ⟨r,1,none⟩,cr-1,fun u=>?_⟩
  simp[Instr.slice,go_sem,run_underlying hu,Addr.add]
  exact h
theorem Eh (w:World) (r cr b c:Nat) (T:Option Addr) (k:Value) (hr:w.cell? ⟨r,0,none⟩=some (.pointer (ad b))) (ht:w.cell? ⟨b,4,none⟩=some (.slice T 0 c)) (oh:1≤cr):
 Calls Tryz.prog 92 #[.slice (ad r) 1 cr,k] w (fun e w'=>ak w.heap.size w w'∧∃m,e=.returned (.tuple #[.map (some m),G 0,.bool true])∧Empty w' m):=by
 have vY:∀u:World,(Instr.makeMap 121 none).run Tryz.prog u=.ok (.map (some u.heap.size)) (u.alloc (.map #[] 0)):=fun u=>by kernel_rfl
 have hl:=(ak.refl _ w).alloc (Nat.le_refl _) (.map #[] 0)
 have he:Empty (w.alloc (.map #[] 0)) w.heap.size:=⟨0,ao w _⟩
 have mH:=(World.cell?_alloc_lt w (.map #[] 0) _ (bq hr)).trans hr
 have Nv:=(World.cell?_alloc_lt w (.map #[] 0) _ (bq ht)).trans ht
 obtain⟨X,c',Ym⟩:=tU r cr oh
 go_enter Tryz.func92,Tryz.ntmps92
 go_upto_region 2 with fail
 clear vY hr ht
 obtain⟨m,hm⟩:∃m,w.heap.size=m:=⟨_,rfl⟩
 rw[hm]at he⊢
 generalize w.alloc (.map #[] 0)=w1 at hl he mH Nv⊢
 go_wp2_with fail
 go_loopw[24] (fun i wr=>i=G 0∧wr=w1) (fun _ _=>0)
 case atStart=>exact⟨rfl,rfl⟩
 case round=>
  obtain⟨rfl,rfl⟩:=hrel
  go_wp2_with fail
  obtain⟨w1,rfl⟩:∃u,u=wr:=⟨_,rfl⟩
  go_loopw[11,4] (fun b s wr=>(b=.bool true∨b=.bool false)∧s=.map (some m)∧wr=w1) (fun b _ _=>XG b)
  case atStart=>exact⟨.inl rfl,rfl,rfl⟩
  case round=>
   obtain⟨rfl|rfl,rfl,rfl⟩:=hrel
   ·go_wp2_with fail
    obtain⟨w1,rfl⟩:∃u,u=wr:=⟨_,rfl⟩
    go_loopw[50,11,4] (fun i b s wr=>b=.bool false∧(i=G 0∨i=G 1)∧s=.map (some m)∧wr=w1) (fun i _ _ _=>1-(intOf i).toNat)
    case atStart=>exact⟨rfl,.inl rfl,rfl,rfl⟩
    case round=>
     obtain⟨rfl,rfl|rfl,rfl,rfl⟩:=hrel
     ·go_wp2_with fail
      obtain⟨w1,rfl⟩:∃u,u=wr:=⟨_,rfl⟩
      go_loopw[59,4,11] (fun i s b wr=>i=G 0∧s=.map (some m)∧b=.bool false∧wr=w1) (fun _ _ _ _=>0)
      case atStart=>exact⟨rfl,rfl,rfl,rfl⟩
      case round=>
       obtain⟨rfl,rfl,rfl,rfl⟩:=hrel
       go_wp2_with fail
       exact⟨by simp,by decide⟩
     ·go_wp2_with fail
      exact⟨by simp,by decide⟩
   ·go_wp2_with fail
    exact bodyPost_ret (v:=.tuple #[.map (some m),G 0,.bool true]) (by simp[results,Tryz.results92,go_sem];done) rfl ⟨hl,m,rfl,he⟩
variable {P:Program} {w:World} {m:Nat}
theorem sA {t k e:TypeId} (ht:P.underlying t=some (.map k e)) (h:Empty w m):∃o,(Instr.range t (.map (some m))).run P w=.ok (.pointer (ad (w.heap.size))) (w.alloc o)∧∃a,o=.mapIter (some m) a #[] a:=by
 obtain⟨cl,hg⟩:=h
 exact⟨_,run_range_map w t k e m #[] cl ht hg,cl,rfl⟩
theorem uE {ty:TypeId} {r a b:Nat} (hr:w.heap[r]?=some (.mapIter (some m) a #[] b)) (h:Empty w m):(Instr.next (.pointer (ad r)) false ty).run P w=.ok (.tuple #[.bool false]) w:=by
 obtain⟨cl,hg⟩:=h
 simp[Instr.next,getObj,Sem.run_bind,Sem.run,hr,hg,Result.andThen,choose,Question.forced]
theorem Jq (w:World) (gr bk al df nm ob cm om:Nat) (Pp:Option Addr) (pc ga n c:Nat) (T:Option Addr) (tc:Nat) (s:St) (l:List aE) (ret:Int) (h:Gr w gr bk al df nm ob cm om Pp pc ga n c T tc s l ret) (bB:jy l) (Lc:Flat s.al) (nt:0≤ret) (NI:l.map (bO s)=l) (kN:bu s ret=ret):
 Calls Tryz.prog 36 #[.pointer (ad gr)] w (fun e w'=>e=.returned (.bool false)∧aY [bk,ga] w w'∧∃T' oU,Gr w' gr bk al df nm ob cm om Pp pc ga n c T' oU s l ret):=by
 have qE:∀(fn:Fn) (first cap:Array Value) (w:World),(Instr.makeFunc fn first cap).run Tryz.prog w=.ok (.func fn first cap) w:=fun _ _ _ _=>rfl
 have vY:∀u:World,(Instr.makeMap 150 none).run Tryz.prog u=.ok (.map (some u.heap.size)) (u.alloc (.map #[] 0)):=fun u=>by kernel_rfl
 have tw:=ez w gr bk tc T (Yc h.g) (Yc h.b)
 have H:=cf h
 have HX:Hid (jy l∧Flat s.al∧0≤ret∧l.map (bO s)=l∧bu s ret=ret):=cf ⟨bB,Lc,nt,NI,kN⟩
 clear h bB Lc nt NI kN
 go_enter Tryz.func36,Tryz.ntmps36
 go_upto_region 2 with(first
  |(go_at_call 88;refine tw.mono ?_;rintro e w1 ⟨l1,r,cr,rfl,x1,sR,oh⟩))
 have gS:ak w1.heap.size w1 (w1.alloc (.map #[] 0)):=(ak.refl _ w1).alloc (Nat.le_refl _) _
 obtain⟨X,c',Ym⟩:=tU r cr oh
 go_upto_region 3 with fail
 clear vY
 have G2:=cf ((H.out.low l1).low gS)
 have L2:=cf (l1.trans (gS.mono l1.size))
 have x2:(w1.alloc (.map #[] 0)).cell? ⟨r,0,none⟩=some (.pointer (ad bk)):=(World.cell?_alloc_lt w1 _ _ (bq x1)).trans x1
 clear x1 gS tw
 generalize w1.heap.size=m4
 generalize w1.alloc (.map #[] 0)=w2 at G2 L2 x2⊢
 have kM:=Eh w2 r cr bk tc T (.map (some m4)) x2 (Yc G2.out.b) oh
 have DT:=bq x2
 go_upto_region 4 with(first
  |(go_at_call 92;refine kM.mono ?_;rintro e w3 ⟨l3,m,rfl,e3⟩))
 have e4:Empty (w3.alloc (.cells #[.map (some m)] 121)) m:=e3.low ((ak.refl _ w3).alloc (Nat.le_refl _) _)
 have G4:=cf ((G2.out.low l3).low ((ak.refl _ w3).alloc (Nat.le_refl _) (.cells #[.map (some m)] 121)))
 have L4:=cf (L2.out.trans (((l3.alloc l3.size (.cells #[.map (some m)] 121))).mono L2.out.size))
 have c4:=Yc (j:=0) (ao w3 (.cells #[.map (some m)] 121))
 have x4:(w3.alloc (.cells #[.map (some m)] 121)).cell? ⟨r,0,none⟩=some (.pointer (ad bk)):=(World.cell?_alloc_lt w3 _ _ (Nat.lt_of_lt_of_le DT l3.size)).trans ((World.cell?_of_block (l3.block _ DT)).trans x2)
 clear e3 l3 x2 kM DT
 generalize w3.heap.size=z4 at c4⊢
 generalize w3.alloc (.cells #[.map (some m)] 121)=w4 at e4 G4 L4 c4 x4⊢
 go_wp2_with fail
 go_loopw[7,6] (fun b v wr=>b=.bool true∧wr=w4) (fun _ _ _=>0)
 case atStart=>exact⟨rfl,rfl⟩
 case round=>
  obtain⟨rfl,rfl⟩:=hrel
  obtain⟨w4,rfl⟩:∃u,u=wr:=⟨_,rfl⟩
  obtain⟨ob1,Sh,a,rfl⟩:=sA (P:=Tryz.prog) (t:=121) Tryz.underlying121 e4
  have l5:ak w4.heap.size w4 (w4.alloc (.mapIter (some m) a #[] a)):=(ak.refl _ w4).alloc (Nat.le_refl _) _
  have dQ:∀ty,(Instr.next (.pointer (ad (w4.heap.size))) false ty).run Tryz.prog (w4.alloc (.mapIter (some m) a #[] a))=.ok (.tuple #[.bool false]) (w4.alloc (.mapIter (some m) a #[] a)):=fun ty=>uE (ao _ _) (e4.low l5)
  go_upto_region 9 with fail
  have x5:(w4.alloc (.mapIter (some m) a #[] a)).cell? ⟨r,0,none⟩=some (.pointer (ad bk)):=(World.cell?_alloc_lt w4 _ _ (bq x4)).trans x4
  have g5:=G4.out.low l5
  have b5:=vE g5.b
  have iT:=mW _ gr bk al df nm ob cm om Pp pc ga n c T tc s l ret g5 HX.out.1 HX.out.2.1 HX.out.2.2.1
  rw[HX.out.2.2.2.1,HX.out.2.2.2.2]at iT
  have L5:=cf (L4.out.trans (l5.mono L4.out.size))
  clear Sh c4 x4 e4 G4 L4 l5 g5 G2 L2
  generalize w4.heap.size=z5 at dQ⊢
  generalize w4.alloc (.mapIter (some m) a #[] a)=w5 at dQ x5 b5 iT L5⊢
  go_loopw[44] (fun b wr=>wr=w5) (fun _ _=>0)
  case atStart=>rfl
  case round=>
   obtain rfl:=hrel
   go_wp2_with fail
   obtain⟨w5,rfl⟩:∃u,u=wr:=⟨_,rfl⟩
   go_loopw[63] (fun i wr=>(i=G 0∨i=G 1)∧wr=w5) (fun i _=>1-(intOf i).toNat)
   case atStart=>exact⟨.inl rfl,rfl⟩
   case round=>
    obtain⟨rfl|rfl,rfl⟩:=hrel
    ·go_wp2_with fail
     obtain⟨w5,rfl⟩:∃u,u=wr:=⟨_,rfl⟩
     go_loopw[72] (fun i wr=>i=G 0∧wr=w5) (fun _ _=>0)
     case atStart=>exact⟨rfl,rfl⟩
     case round=>
      obtain⟨rfl,rfl⟩:=hrel
      go_wp2_with fail
      exact⟨by simp,by decide⟩
    ·go_wp2_with fail
     obtain⟨w5,rfl⟩:∃u,u=wr:=⟨_,rfl⟩
     go_loopw[98,11] (fun i b wr=>i=G 0∧b=.bool false∧wr=w5) (fun _ _ _=>0)
     case atStart=>exact⟨rfl,rfl,rfl⟩
     case round=>
      obtain⟨rfl,rfl,rfl⟩:=hrel
      go_wp2_with(first
       |(go_at_call 87;refine iT.mono ?_;rintro e w6 ⟨rfl,ch6,T',oU,g6⟩))
      go_ret
      exact⟨rfl,(aY.bD L5.out).trans ch6,T',oU,g6⟩
theorem tT (w:World) (gv:Value) (bk:Nat) (h2:w.cell? ⟨bk,2,none⟩=some (G 4)):Calls Tryz.prog 95 #[gv,.pointer (ad bk)] w (fun e w'=>e=.returned (.bool false)∧ak w.heap.size w w'):=by
 have hl:ak w.heap.size w (w.alloc (.cells #[.pointer (ad bk)] 130)):=(ak.refl _ w).alloc (Nat.le_refl _) _
 have JA:=(World.cell?_alloc_lt w (.cells #[.pointer (ad bk)] 130) _ (bq h2)).trans h2
 go_enter Tryz.func95,Tryz.ntmps95
 go_wp2_with fail
 go_ret
 exact⟨rfl,hl⟩
theorem FZ (w:World) (gr bk al df nm ob cm om:Nat) (Pp:Option Addr) (pc ga n c:Nat) (T:Option Addr) (tc:Nat) (s:St) (l:List aE) (ret:Int) (h:Gr w gr bk al df nm ob cm om Pp pc ga n c T tc s l ret):
 Calls Tryz.prog 37 #[.pointer (ad gr)] w (fun e w'=>e=.returned (.bool false)∧ak w.heap.size w w'):=by
 have tw:=ez w gr bk tc T (Yc h.g) (Yc h.b)
 have H:=cf h
 clear h
 go_enter Tryz.func37,Tryz.ntmps37
 go_wp2_with(first
  |(go_at_call 88;refine tw.mono ?_;rintro e w1 ⟨l1,r,cr,rfl,x1,sR,oh⟩;have G1:=cf (H.out.low l1);have L1:=cf l1;clear l1))
 go_loopw[9,3] (fun i b wr=>b=.bool false∧((i=G 0∧wr=w1)∨(i=G 1∧ak w.heap.size w wr))) (fun i _ _=>1-(intOf i).toNat)
 case atStart=>exact⟨rfl,.inl ⟨rfl,rfl⟩⟩
 case round=>
  obtain⟨rfl,⟨rfl,rfl⟩|⟨rfl,hl⟩⟩:=hrel
  ·have TQ:=tT wr (.pointer (ad gr)) bk (Yc G1.out.b)
   obtain⟨w1,rfl⟩:∃u,u=wr:=⟨_,rfl⟩
   go_wp2_with fail
   go_loopw[3] (fun b wr=>b=.bool false∧wr=w1) (fun _ _=>0)
   case atStart=>exact⟨rfl,rfl⟩
   case round=>
    obtain⟨rfl,rfl⟩:=hrel
    go_wp2_with(first
     |(go_at_call 95;refine TQ.mono ?_;rintro e w6 ⟨rfl,l6⟩))
    exact⟨⟨rfl,.inr ⟨rfl,L1.out.trans (l6.mono L1.out.size)⟩⟩,by decide⟩
  ·go_wp2_with fail
   go_ret
   exact⟨rfl,hl⟩
theorem zZ (w:World) (r cr b c:Nat) (T:Option Addr) (hr:w.cell? ⟨r,0,none⟩=some (.pointer (ad b))) (ht:w.cell? ⟨b,4,none⟩=some (.slice T 0 c)):
 Calls Tryz.prog 102 #[.slice (ad r) 1 cr] w (fun e w'=>ak w.heap.size w w'∧∃m,e=.returned (.map (some m))∧Empty w' m):=by
 have vY:∀u:World,(Instr.makeMap 158 none).run Tryz.prog u=.ok (.map (some u.heap.size)) (u.alloc (.map #[] 0)):=fun u=>by kernel_rfl
 have hl:=(ak.refl _ w).alloc (Nat.le_refl _) (.map #[] 0)
 have he:Empty (w.alloc (.map #[] 0)) w.heap.size:=⟨0,ao w _⟩
 have mH:=(World.cell?_alloc_lt w (.map #[] 0) _ (bq hr)).trans hr
 have Nv:=(World.cell?_alloc_lt w (.map #[] 0) _ (bq ht)).trans ht
 go_enter Tryz.func102,Tryz.ntmps102
 go_upto_region 2 with fail
 clear vY hr ht
 obtain⟨m,hm⟩:∃m,w.heap.size=m:=⟨_,rfl⟩
 rw[hm]at he⊢
 generalize w.alloc (.map #[] 0)=w1 at hl he mH Nv⊢
 go_wp2_with fail
 go_loopw[11] (fun i wr=>(i=G 0∨i=G 1)∧wr=w1) (fun i _=>1-(intOf i).toNat)
 case atStart=>exact⟨.inl rfl,rfl⟩
 case round=>
  obtain⟨rfl|rfl,rfl⟩:=hrel
  ·go_wp2_with fail
   obtain⟨w1,rfl⟩:∃u,u=wr:=⟨_,rfl⟩
   go_loopw[20] (fun i wr=>i=G 0∧wr=w1) (fun _ _=>0)
   case atStart=>exact⟨rfl,rfl⟩
   case round=>
    obtain⟨rfl,rfl⟩:=hrel
    go_wp2_with fail
    exact⟨by simp,by decide⟩
  ·go_wp2_with fail
   go_ret
   exact⟨hl,m,rfl,he⟩
theorem Nm (w:World) (gr bk al df nm ob cm om:Nat) (Pp:Option Addr) (pc ga n c:Nat) (T:Option Addr) (tc:Nat) (s:St) (l:List aE) (ret:Int) (h:Gr w gr bk al df nm ob cm om Pp pc ga n c T tc s l ret):
 Calls Tryz.prog 39 #[.pointer (ad gr)] w (fun e w'=>e=.returned (.bool false)∧ak w.heap.size w w'):=by
 have tw:=ez w gr bk tc T (Yc h.g) (Yc h.b)
 have H:=cf h
 clear h
 go_enter Tryz.func39,Tryz.ntmps39
 go_upto_region 2 with(first
  |(go_at_call 88;refine tw.mono ?_;rintro e w1 ⟨l1,r,cr,rfl,x1,sR,oh⟩;have G1:=cf (H.out.low l1);have uV:=zZ w1 r cr bk tc T x1 (Yc G1.out.b)))
 go_wp2_with(first
  |(go_at_call 102;refine uV.mono ?_;rintro e w2 ⟨l2,m,rfl,e2⟩;have b2:w2.cell? ⟨bk,2,none⟩=some (G 4):=Yc (l2.some G1.out.b);have x2:=(World.cell?_of_block (a:=⟨r,0,none⟩) (l2.block r (bq x1))).trans x1;have L2:=cf (l1.trans (l2.mono l1.size))))
 go_loopw[16] (fun i wr=>(i=G 0∨i=G 1)∧wr=w2) (fun i _=>1-(intOf i).toNat)
 case atStart=>exact⟨.inl rfl,rfl⟩
 case round=>
  obtain⟨rfl|rfl,rfl⟩:=hrel
  ·go_wp2_with fail
   exact⟨by simp,by decide⟩
  ·go_wp2_with fail
   go_ret
   exact⟨rfl,L2.out⟩
end
end Go.Proofs.YtjkahfmdcpfjjaaGreat
