/- The blocks of a graph of one block. -/
import Derived.Test.YtjkahfmdcpfjjaaGreatA2
import Derived.Laws.AppendOwn
import Derived.Laws.EntriesVeiled
set_option linter.unusedVariables false
namespace Go.Proofs.YtjkahfmdcpfjjaaGreat
open Go.RowKit
section
set_option maxRecDepth 100000
set_option maxHeartbeats 4000000
def aE.cells (o:aE):Array Value:= #[G o.code,G o.res,G o.a,G o.b,.int .u16 o.n,Zs]
def aE.val (o:aE):Value:=OV o
theorem all_nil (w:World) (f:Value):Calls Tryz.prog 84 #[Zs,f] w (fun e w'=>e=.returned Zs∧w'=w):=by
 go_enter Tryz.func84,Tryz.ntmps84
 go_wp2
 go_loopw[10,5] (fun i s wr=>i=G 0∧s=Zs∧wr=w) (fun _ _ _=>0)
 case atStart=>exact⟨rfl,rfl,rfl⟩
 case round=>
  obtain⟨rfl,rfl,rfl⟩:=hrel
  go_wp2
  go_ret
  exact⟨rfl,rfl⟩
variable {w:World} {S g:Nat} {v3 v5:Value}
theorem pW {e:TypeId} {a0 a1 a2 a3 a4 a5 v0 v1 v2 v4:Value} (h:w.heap[g]?=some (.cells #[a0,a1,a2,a3,a4,a5] e (0,0))):
 ∀w',w'=(((((w.setCell ⟨g,0,none⟩ v0).setCell ⟨g,1,none⟩ v1).setCell ⟨g,2,none⟩ v2).setCell ⟨g,3,none⟩ v3).setCell ⟨g,4,none⟩ v4).setCell ⟨g,5,none⟩ v5→w'.heap[g]?=some (.cells #[v0,v1,v2,v3,v4,v5] e (0,0))∧(∀b,b≠g→w'.heap[b]?=w.heap[b]?)∧w'.heap.size=w.heap.size∧∀(S:Nat) (I:World→Prop),Inv S I→S≤g→I w→I w':=by
 rintro w' rfl
 refine⟨aD (aD (aD (aD (aD (aD h))))),fun b hb=>?_,by simp only[cW],fun S I hI hS hi=>hI.set _ _ _ _ hS (hI.set _ _ _ _ hS (hI.set _ _ _ _ hS (hI.set _ _ _ _ hS (hI.set _ _ _ _ hS (hI.set _ _ _ _ hS hi)))))⟩
 rw[aj hb,aj hb,aj hb,aj hb,aj hb,aj hb]
theorem dM {k : FuncId} {fn : Func} {c : Code} (hf : Tryz.prog.funcs[k]? = some fn) (aa1 : (fn.name == "runtime.NumGoroutine") = false) (hb : fn.body = some c) : ∀ (args : Array Value) (w : World), (callFunc k args).run Tryz.prog w = .ok (.enter k args) w := by
 intro args w
 have h1 : fn.name ≠ "runtime.NumGoroutine" := by simpa using aa1
 simp[callFunc,hf,h1,hb,mark]
structure Inv2 (S:Nat) (I:World→Prop):Prop where
 alloc:∀w o,I w→I (w.alloc o)
 set:∀w g i v,S≤g→g<S+2→I w→I (w.setCell ⟨g,i,none⟩ v)
variable {I:World→Prop}
theorem Inv.two (h:Inv S I):Inv2 S I:=⟨h.alloc,fun w g i v h1 _ h3=>h.set w g i v h1 h3⟩
theorem xC {v0 v1 v2 v4:Value} (hI:Inv2 S I) (h1:S≤g) (h2:g<S+2) (hi:I w):
 I ((((((w.setCell ⟨g,0,none⟩ v0).setCell ⟨g,1,none⟩ v1).setCell ⟨g,2,none⟩ v2).setCell ⟨g,3,none⟩ v3).setCell ⟨g,4,none⟩ v4).setCell ⟨g,5,none⟩ v5):=
 hI.set _ _ _ _ h1 h2 (hI.set _ _ _ _ h1 h2 (hI.set _ _ _ _ h1 h2 (hI.set _ _ _ _ h1 h2 (hI.set _ _ _ _ h1 h2 (hI.set _ _ _ _ h1 h2 hi)))))
def DO (S:Nat) (I I':World→Prop) (k:FuncId) (fi fZ:Array Value) (v r:Int):Prop:=∀w1,I w1→S+2≤w1.heap.size→Calls Tryz.prog k (fi++ #[G v]++fZ) w1 (fun e w2=>e=.returned (G r)∧I' w2∧w1.heap.size≤w2.heap.size∧∀g,S≤g→g<w1.heap.size→w2.heap[g]?=w1.heap[g]?)
def dv (o:aE):List Int:=if aZ o.code then[o.a]else[]
def il (o:aE):List Int:=if bc o.code then[o.b]else[]
def bl (o:aE):List Int:=dv o++il o
def tK (o:aE) (fa fb:Int):aE:=⟨o.code,o.res,if aZ o.code then fa else o.a,if bc o.code then fb else o.b,o.n⟩
theorem zO (I:List Int→World→Prop) (w:World) (o:aE) (k:FuncId) (fi fZ:Array Value) (fa fb:Int) (hI:∀l,Inv2 w.heap.size (I l)) (hw:I [] w) (ho:aS o.code) (he:∀(args:Array Value) (w:World),(callFunc k args).run Tryz.prog w=.ok (.enter k args) w)
 (N1:aZ o.code=true→DO w.heap.size (I []) (I [o.a]) k fi fZ o.a fa) (JZ:bc o.code=true→DO w.heap.size (I (dv o)) (I (dv o++[o.b])) k fi fZ o.b fb):
 Calls Tryz.prog 85 #[OV o,.func (.func k) fi fZ] w (fun e w'=>e=.returned (tK o fa fb).val∧I (bl o) w'):=by
 obtain⟨xa,uQ⟩:∃x,x=aZ o.code:=⟨_,rfl⟩
 obtain⟨xb,Nq⟩:∃x,x=bc o.code:=⟨_,rfl⟩
 have mK:∀u,Calls Tryz.prog 147 #[G o.code] u (fun e w'=>e=.returned (.tuple #[.bool xa,.bool xb])∧w'=u):=fun u=>by rw[uQ,Nq];exact cV u _ ho
 have eA:dv o=if xa then[o.a]else[]:=by rw[uQ];rfl
 have eB:bl o=dv o++if xb then[o.b]else[]:=by rw[Nq];rfl
 have eW:tK o fa fb=⟨o.code,o.res,if xa then fa else o.a,if xb then fb else o.b,o.n⟩:=by rw[uQ,Nq];rfl
 rw[←uQ]at N1
 rw[←Nq]at JZ
 rw[eW,eB]
 obtain⟨ra,DS⟩:∃r:Int,r=if xa then fa else o.a:=⟨_,rfl⟩
 obtain⟨rb,KU⟩:∃r:Int,r=if xb then fb else o.b:=⟨_,rfl⟩
 rw[←DS,←KU]
 have Lw:=cf DS;have HRB:=cf KU
 clear DS KU
 obtain⟨lb,Qr⟩:∃l:List Int,l=if xb then[o.b]else[]:=⟨_,rfl⟩
 rw[←Qr]
 have Gx:=cf Qr
 generalize dv o=la at eA JZ⊢
 have HFA:=cf N1;have HFB:=cf JZ;have HO:=cf mK;have HI:=cf hI;have HEA:=cf eA
 have zl:=(hI []).alloc _ (OC o) hw
 have D0:=(hI []).alloc _ (.cells #[G 0,G 0,G 0,G 0,.int .u16 0,Zs] 67) zl
 have hb:=ir (.cells #[G 0,G 0,G 0,G 0,.int .u16 0,Zs] 67) (ao w (OC o))
 have hr:((w.alloc (OC o)).alloc (.cells #[G 0,G 0,G 0,G 0,.int .u16 0,Zs] 67)).heap[w.heap.size+1]?=some (.cells #[G 0,G 0,G 0,G 0,.int .u16 0,Zs] 67 (0,0)):=by
  have:=ao (w.alloc (OC o)) (.cells #[G 0,G 0,G 0,G 0,.int .u16 0,Zs] 67)
  have e:(w.alloc (OC o)).heap.size=w.heap.size+1:=by simp
  rw[e]at this;exact this
 clear N1 JZ ho mK hI hw zl uQ Nq eA eB eW Qr
 go_enter Tryz.func85,Tryz.ntmps85
 go_upto_region 1 with fail
 generalize(w.alloc (OC o)).alloc (.cells #[G 0,G 0,G 0,G 0,.int .u16 0,Zs] 67)=w2 at D0 hb hr⊢
 generalize w.heap.size=S at hb hr HFA HFB HI⊢
 have c0:=bf hb
 have DM:=cf D0;have HB:=cf hb;have HR:=cf hr
 clear D0 hb hr
 go_upto_if 13 with(first
  |(go_at_call 147;(with_reducible refine(HO.out _).mono ?_);rintro e w3 ⟨rfl,fE⟩;rw[fE];clear fE w3))
 clear c0
 go_cut[] (fun wx=>I la wx∧wx.heap[S]?=some (.cells #[G o.code,G o.res,G ra,G o.b,.int .u16 o.n,Zs] 67 (0,0))∧wx.heap[S+1]?=some (.cells #[G 0,G 0,G 0,G 0,.int .u16 0,Zs] 67 (0,0)))
 case first=>
  have b2:=rn HB.out
  cases xa
  ·go_wp2_with fail
   go_meet
   have e1:=HEA.out;have e2:=Lw.out
   simp only[Bool.false_eq_true,if_false]at e1 e2
   rw[e1,e2]
   exact⟨DM.out,HB.out,HR.out⟩
  ·go_wp2_with(first
    |(refine(HFA.out rfl _ DM.out (by have:=aB HR.out;omega)).mono ?_;rintro e w3 ⟨rfl,NP,TX,CP⟩;have Ae:=(CP _ (Nat.le_refl _) (aB HB.out)).trans HB.out;have Bi:=(CP _ (Nat.le_succ _) (aB HR.out)).trans HR.out;have g2:w3.frozen? ⟨S,2,none⟩=false:=au Ae;have b3:w3.cell? ⟨S,2,none⟩=some (G o.a):=Yc Ae;have XZ:=cf NP;have PR:=cf Ae;have Td:=cf Bi;clear NP CP Ae Bi))
   go_meet
   have e1:=HEA.out;have e2:=Lw.out
   simp only[if_true]at e1 e2
   rw[e1,e2]
   exact⟨(HI.out _).set _ _ _ _ (Nat.le_refl _) (by omega) XZ.out,by rw[aD PR.out];rfl,(aj (by omega)).trans Td.out⟩
 case rest=>
  obtain⟨hi,hb,hr⟩:=hcut
  have DM:=cf hi;have HB:=cf hb;have HR:=cf hr
  clear hi hb hr
  go_upto_if 19 with fail
  go_cut[] (fun wx=>I (la++lb) wx∧wx.heap[S]?=some (.cells #[G o.code,G o.res,G ra,G rb,.int .u16 o.n,Zs] 67 (0,0))∧wx.heap[S+1]?=some (.cells #[G 0,G 0,G 0,G 0,.int .u16 0,Zs] 67 (0,0)))
  case first=>
   have b2:=mM HB.out
   cases xb
   ·go_wp2_with fail
    go_meet
    have e2:=HRB.out;have e3:=Gx.out
    simp only[Bool.false_eq_true,if_false]at e2 e3
    rw[e2,e3,List.append_nil]
    exact⟨DM.out,HB.out,HR.out⟩
   ·go_wp2_with(first
     |(refine(HFB.out rfl _ DM.out (by have:=aB HR.out;omega)).mono ?_;rintro e w3 ⟨rfl,NP,TX,CP⟩;have Ae:=(CP _ (Nat.le_refl _) (aB HB.out)).trans HB.out;have Bi:=(CP _ (Nat.le_succ _) (aB HR.out)).trans HR.out;have g2:w3.frozen? ⟨S,3,none⟩=false:=au Ae;have b3:w3.cell? ⟨S,3,none⟩=some (G o.b):=Yc Ae;have XZ:=cf NP;have PR:=cf Ae;have Td:=cf Bi;clear NP CP Ae Bi))
    go_meet
    have e2:=HRB.out;have e3:=Gx.out
    simp only[if_true]at e2 e3
    rw[e2,e3]
    exact⟨(HI.out _).set _ _ _ _ (Nat.le_refl _) (by omega) XZ.out,by rw[aD PR.out];rfl,(aj (by omega)).trans Td.out⟩
  case rest=>
   obtain⟨hi,hb,hr⟩:=hcut
   have d5:=Lt hb
   have f5:wc.frozen? ⟨S,5,none⟩=false:=au hb
   have DM:=cf hi;have HB:=cf hb;have HR:=cf hr
   clear hi hb hr
   go_upto_region 7 with(first
    |(go_at_call 84;(with_reducible refine(all_nil _ _).mono ?_);rintro e w3 ⟨rfl,fE⟩;rw[fE];clear fE w3))
   have hi:=(HI.out _).set _ S 5 Zs (Nat.le_refl _) (by omega) DM.out
   have hb:=pY (i:=5) (v:=Zs) HB.out rfl
   have hr:=(aj (i:=5) (v:=Zs) (show S+1≠S by omega)).trans HR.out
   generalize World.setCell _ _ _=w4 at hi hb hr⊢
   obtain⟨e0,e1,e2,e3,e4,e5⟩:=aC hb
   obtain⟨g0,g1,g2,g3,g4,g5⟩:=bG hr
   have z0:=aC hr
   have HI4:=cf hi;have HB4:=cf hb;have HR4:=cf hr
   clear hi hb hr d5 f5
   go_wp2_with fail
   have wM:=xC (g:=S+1) (v0:=G o.code) (v1:=G o.res) (v2:=G ra) (v3:=G rb) (v4:=.int .u16 o.n) (v5:=Zs) (HI.out _) (Nat.le_succ S) (by omega) HI4.out
   have aH:=pW (v0:=G o.code) (v1:=G o.res) (v2:=G ra) (v3:=G rb) (v4:=.int .u16 o.n) (v5:=Zs) HR4.out _ rfl
   generalize World.setCell _ _ _=wF at aH wM⊢
   obtain⟨hz,_,_,_⟩:=aH
   have x0:=aC hz
   exact bodyPost_ret (v:=.agg #[G o.code,G o.res,G ra,G rb,.int .u16 o.n,Zs]) (by simp[results,Tryz.results85,go_sem,x0];done) rfl ⟨rfl,wM⟩
end
section
structure Ap (P:Program) (t e size bytes:Nat):Prop where
 ht:P.underlying t=some (.slice e)
 info:∃ti z,P.info? e=some ti∧ti.zero=some z∧ti.size=size∧ti.bytes=bytes∧z.cells.size=size
 pos:0<size
 low:bytes≤1024
def Own (w:World) (base:Nat) (e size:Nat) (v:Value) (n:Nat) (xs:List Value):Prop:=w.ownsRow base e size v n xs
theorem Own.nil (w:World) (base e size:Nat):Own w base e size Zs 0 []:=⟨by simp,.inl ⟨rfl,rfl⟩⟩
structure vV (w w':World) (base e size:Nat) (v v':Value) (n:Nat) (xs:List Value) (m:Nat) (news:List Value):Prop where
 own:Own w' base e size v' (n+m) (xs++news)
 os:w'.os=w.os
 out:w'.output=w.output
 size:w.heap.size≤w'.heap.size
 block:∀k,k<w.heap.size→some k≠v.ownBlock→w'.heap[k]?=w.heap[k]?
section
variable {P : Program} {t e size bytes base : Nat} {w : World}
variable {c g:Nat}
theorem eC (hE:Ap P t e size bytes) {ty:TypeId} {v:Value} {n:Nat} {xs:List Value} (dy:Own w base e size v n xs) {m:Nat} {cs:Array Value} {e':TypeId} {fr:Nat×Nat} (hg:w.heap[g]?=some (.cells cs e' fr)) (eR:cs.size=m*size) (h1:∀u∈cs,u.oneCell'=true) (hn:n+m≤1048576) (hb:base≤w.heap.size):
 ∃v' w',(Builtin.append_ #[t,t] ty #[v,.slice (ad g) m c]).run P w=.ok v' w'∧vV w w' base e size v v' n xs m cs.toList:=by
 obtain⟨ti,z,hi,hz,np,Bj,RZ⟩:=hE.info
 have uU:=hE.low
 have rS:(n+m)*bytes≤140737488355328:=by
  have:=Nat.mul_le_mul hn uU
  omega
 obtain⟨v',w',hr,h2,h3,_⟩:=run_append_own (P:=P) w base t ty e ti z size bytes hE.ht hi hz np Bj RZ hE.pos v n xs dy ⟨g,0,none⟩ m c cs.toList (by simpa using eR)
  (fun j u hj=>by
   have ve:(⟨g,0,none⟩:Addr).add j=⟨g,j,none⟩:=by
    by_cases h0:j=0
    ·subst h0;simp[Addr.add]
    ·simp[Addr.add,h0]
   rw[ve,Yc hg]
   simpa using hj) (fun u hu=>h1 u (by simpa using hu)) (by have:maxLen=9223372036854775807:=rfl;omega) rS hb
 exact⟨v',w',hr,h2,h3.os,h3.output,h3.size,h3.block⟩
variable {o:Oper} {a:Act} {K:Act→World→Prop} {Q:Exit→Act→World→Prop}
theorem GJ (hE:Ap P t e size bytes) (s x:Operand) (ho:o.op=.call {callee:=.builtin .append,args:= #[s,x],argTypes:= #[t,t]})
 {v:Value} {n:Nat} {xs:List Value} (hs:a.eval s=v) (dy:Own w base e size v n xs) {g m c:Nat} {cs:Array Value} {e':TypeId} {fr:Nat×Nat} (hx:a.eval x=.slice (ad g) m c) (hg:w.heap[g]?=some (.cells cs e' fr)) (eR:cs.size=m*size) (h1:∀u∈cs,u.oneCell'=true) (hn:n+m≤1048576) (hb:base≤w.heap.size)
 (h:∀v' w',vV w w' base e size v v' n xs m cs.toList→K (a.put o.dst v') w'):o.wp P a w K Q:=by
 obtain⟨v',w',cN,h2⟩:=eC (ty:=o.type) hE dy (c:=c) hg eR h1 hn hb
 unfold Oper.wp execOp
 simp only[ho,resolve,invoke,builtin,Sem.run_bind,Sem.run_pure,Result.andThen_ok,List.map_toArray,List.map_cons,List.map_nil,hs,hx,cN]
 exact h v' w' h2
theorem mN (hE:Ap P t e size bytes) {ops:Array Oper} {rest:List Oper} (yw:o.guard=none) (s x:Operand) (ho:o.op=.call {callee:=.builtin .append,args:= #[s,x],argTypes:= #[t,t]})
 {v:Value} {n:Nat} {xs:List Value} (hs:a.eval s=v) (dy:Own w base e size v n xs) {g m c:Nat} {cs:Array Value} {e':TypeId} {fr:Nat×Nat} (hx:a.eval x=.slice (ad g) m c) (hg:w.heap[g]?=some (.cells cs e' fr)) (eR:cs.size=m*size) (h1:∀u∈cs,u.oneCell'=true) (hn:n+m≤1048576) (hb:base≤w.heap.size)
 (h:∀v' w',vV w w' base e size v v' n xs m cs.toList→wpList P ops Q rest (a.put o.dst v') w'):wpList P ops Q (o::rest) a w:=
 wpList_plain yw fun _ hK=>GJ hE s x ho hs dy hx hg eR h1 hn hb fun v' w' h2=>hK _ _ (h v' w' h2)
variable {E:Prop}
theorem xA (hE:Ap P t e size bytes) {ops:Array Oper} (yw:o.guard=none) (s x:Operand) (ho:o.op=.call {callee:=.builtin .append,args:= #[s,x],argTypes:= #[t,t]})
 {v:Value} {n:Nat} {xs:List Value} (hs:a.eval s=v) (dy:Own w base e size v n xs) {g m c:Nat} {cs:Array Value} {e':TypeId} {fr:Nat×Nat} (hx:a.eval x=.slice (ad g) m c) (hg:w.heap[g]?=some (.cells cs e' fr)) (eR:cs.size=m*size) (h1:∀u∈cs,u.oneCell'=true) (hn:n+m≤1048576) (hb:base≤w.heap.size)
 (h:∀v' w',vV w w' base e size v v' n xs m cs.toList→K (a.put o.dst v') w'):if Region.wanted o (yielded ops a.tmps)=true then Oper.wp P o a w K Q else E:=by
 have hw:Region.wanted o (yielded ops a.tmps)=true:=by simp[Region.wanted,yw]
 rw[if_pos hw]
 exact GJ hE s x ho hs dy hx hg eR h1 hn hb h
end
variable {o:Oper} {a:Act} {Q:Exit→Act→World→Prop} {E:Prop}
theorem aR {P:Program} {ops:Array Oper} {w:World} {KK:Act→World→Prop} (yw:o.guard=none) (f:FuncId) (args:Array Value) (hr:(execOp a.eval o).run P w=.ok (.enter f args) w)
 (R:Value→World→Prop) (hc:Calls P f args w (fun e w'=>∃v,e=.returned v∧R v w')) (h:∀v w',R v w'→KK (a.put o.dst v) w'):if Region.wanted o (yielded ops a.tmps)=true then Oper.wp P o a w KK Q else E:=by
 have hw:Region.wanted o (yielded ops a.tmps)=true:=by simp[Region.wanted,yw]
 rw[if_pos hw]
 unfold Oper.wp
 rw[hr,Oper.upon_enter]
 refine hc.mono ?_
 rintro e w' ⟨v,rfl,hR⟩
 exact h v w' hR
section
variable {w w' rh : World} {base e size n m : Nat} {v v' : Value} {xs news : List Value}
variable {c g:Nat}
theorem Own.cell (h:Own w base e size (.slice (ad g) n c) n xs) {j:Nat} {u:Value} (hj:xs[j]?=some u):w.cell? ⟨g,j,none⟩=some u:=by
 obtain⟨h0,⟨h1,_⟩|⟨g',c',cur,h1,h2,h3,h4,h5,h6,h7⟩⟩:=h
 ·cases h1
 ·cases h1
  rw[Yc h3]
  subst h7
  have h8:j<(cur.toList.take (n*size)).length:=(List.getElem?_eq_some_iff.1 hj).1
  simp only[List.length_take]at h8
  rw[List.getElem?_take,if_pos (by omega)]at hj
  simpa using hj
theorem Own.form (h:Own w base e size v n xs):(v=Zs∧n=0)∨∃g c cs,v=.slice (ad g) n c∧base≤g∧w.heap[g]?=some (.cells cs e (0,0))∧n≤c:=by
 obtain⟨h0,h1|⟨g',c',cur,h1,h2,h3,h4,h5,h6,h7⟩⟩:=h
 ·exact .inl h1
 ·exact .inr ⟨g',c',cur,h1,h2,h3,h4⟩
theorem Own.kept (h:Own w base e size v n xs) (hk:∀g,v.ownBlock=some g→w'.heap[g]?=w.heap[g]?):Own w' base e size v n xs:=by
 obtain⟨h0,h1|⟨g',c',cur,h1,h2,h3,h4,h5,h6,h7⟩⟩:=h
 ·exact⟨h0,.inl h1⟩
 ·exact⟨h0,.inr ⟨g',c',cur,h1,h2,by rw[hk g' (by rw[h1];rfl)];exact h3,h4,h5,h6,h7⟩⟩
theorem Own.low (h:Own w base e size v n xs) (hl:ak w.heap.size w w'):Own w' base e size v n xs:=h.kept fun g hg=>by
 rcases h.form with⟨h1,_⟩|⟨g',c,cs,h1,_,h3,_⟩
 ·rw[h1]at hg;cases hg
 ·rw[h1]at hg;cases hg
  exact hl.block _ (aB h3)
theorem Own.len (h:Own w base e size v n xs):xs.length=n*size:=h.1
theorem vV.row {k:Nat} (h:vV w w' base e size v v' n xs m news) (hk:n+m=k) (h0:0<k):∃g c cs,v'=.slice (ad g) k c∧base≤g∧w'.heap[g]?=some (.cells cs e (0,0))∧k≤c∧Own w' base e size (.slice (ad g) k c) k (xs++news):=by
 subst hk
 rcases h.own.form with⟨_,h1⟩|⟨g,c,cs,rfl,h2,h3,h4⟩
 ·omega
 ·exact⟨g,c,cs,rfl,h2,h3,h4,h.own⟩
theorem vV.low (h:vV w w' base e size v v' n xs m news) (dy:Own w base e size v n xs) {S:Nat} (hS:S≤base) (rT:S≤w.heap.size):ak S w w':=⟨h.os,h.out,h.size,fun g hg=>h.block g (by omega) fun he=>by
 rcases dy.form with⟨h1,_⟩|⟨g',c,cs,h1,h2,h3,_⟩
 ·rw[h1]at he;cases he
 ·rw[h1]at he;simp[Value.ownBlock]at he;omega⟩
end
end
section
set_option maxRecDepth 100000
set_option maxHeartbeats 4000000
def Empty (w:World) (g:Nat):Prop:=∃clock,w.heap[g]?=some (.map #[] clock)
section
variable {P : Program} {w : World} {t kt et : TypeId} {g : Nat}
def lu (P:Program) (kt:TypeId):Prop:=∃d,P.underlying kt=some d∧(match d with| .interface _| .array _ _| .struct _=>False|_=>True)
theorem nG (hk:lu P kt) (b:Bool) (v:Value) (w:World):(Instr.checkKey b 10000 kt v).run P w=.ok () w:=by
 obtain⟨d,hd,hp⟩:=hk
 have e:∀n:Nat,(Instr.checkKey b (n+1) kt v).run P w=.ok () w:=fun n=>by
  unfold Instr.checkKey
  simp only[Sem.run_bind,run_underlying hd,Result.andThen_ok]
  cases d<;>first|exact hp.elim|rfl
 exact e 9999
theorem qJ (hk:lu P kt) (v:Value) (w:World):(Instr.findKey kt v []).run P w=.ok none w:=by
 obtain⟨d,hd,_⟩:=hk
 simp only[Instr.findKey,Sem.run_bind,run_underlying hd,Result.andThen_ok,Instr.findNow]
 rfl
variable {z:Value}
theorem lX (ht:P.underlying t=some (.map kt et)) (hk:lu P kt) (h:Empty w g) (hz:(zeroValue et).run P w=.ok z w) (ok:Bool) (v:Value):
 (Instr.lookup t (.map (some g)) v ok).run P w=.ok (if ok then .tuple #[z,.bool false]else z) w:=by
 obtain⟨clock,hg⟩:=h
 simp[Instr.lookup,run_underlying ht,MapKept.run_getObj_map hg,nG hk,qJ hk,hz]
theorem lJ (ht:P.underlying t=some (.map kt et)) (hk:lu P kt) (h:Empty w g) (key v:Value):
 ∃es c,(Instr.mapUpdate t (.map (some g)) key v).run P w=.ok () (Go.ChangeMaps.setBlock w g (.map es c)):=by
 obtain⟨clock,hg⟩:=h
 refine⟨#[⟨key,v,clock⟩],clock+1,?_⟩
 simp[Instr.mapUpdate,run_underlying ht,MapKept.run_getObj_map hg,nG hk,qJ hk,MapKept.run_setObj_map _ hg,Go.ChangeMaps.setBlock]
end
theorem ak.setBlock {S:Nat} {w w':World} (h:ak S w w') {g:Nat} (hg:S≤g) (o:Obj):ak S w (Go.ChangeMaps.setBlock w' g o):=h.trans ⟨rfl,rfl,by simp[Go.ChangeMaps.setBlock],fun b hb=>by
 simp only[Go.ChangeMaps.setBlock,Array.getElem?_setIfInBounds]
 rw[if_neg (by omega)]⟩
variable {b:Nat}
theorem bM {w:World} {g:Nat} (o:Obj) (h:b≠g):(Go.ChangeMaps.setBlock w g o).heap[b]?=w.heap[b]?:=by
 simp only[Go.ChangeMaps.setBlock,Array.getElem?_setIfInBounds]
 rw[if_neg (by omega)]
theorem wG {w:World} {g i:Nat} (o:Obj) (h:b≠g):(Go.ChangeMaps.setBlock w g o).cell? ⟨b,i,none⟩=w.cell? ⟨b,i,none⟩:=World.cell?_of_block (w:=w) (bM o h)
theorem zy:lu Tryz.prog 130:=⟨_,Tryz.underlying130,trivial⟩
variable {z:Value}
theorem dP {P:Program} {e s:Nat} (h:(P.info? e).map (fun i=>(i.zero,i.size,i.bytes))=some (some z,s,b)):∃ti,P.info? e=some ti∧ti.zero=some z∧ti.size=s∧ti.bytes=b:=by
 obtain⟨ti,h1,h2⟩:=Option.map_eq_some_iff.1 h
 simp only[Prod.mk.injEq]at h2
 exact⟨ti,h1,h2.1,h2.2.1,h2.2.2⟩
theorem aq3:Ap Tryz.prog 133 130 1 8:=⟨Tryz.underlying133,by
 obtain⟨ti,nT,hz,hs,hb⟩:=dP (show(Tryz.prog.info? 130).map (fun i=>(i.zero,i.size,i.bytes))=some (some (.pointer none),1,8) by kernel_rfl)
 exact⟨ti,_,nT,hz,hs,hb,rfl⟩,by decide,by decide⟩
theorem IC (w:World) (S b s o v g c:Nat) (A:Option Addr) (hs:w.cell? ⟨s,0,none⟩=some (.map (some g))) (he:Empty w g) (ho:w.heap[o]?=some (.cells #[Zs] 133 (0,0))) (ht:w.cell? ⟨b,4,none⟩=some (.slice A 0 c)) (hSg:S≤g) (hSo:S≤o) (rT:S≤w.heap.size):
 Calls Tryz.prog 148 #[.pointer (ad b),.pointer (ad s),.pointer (ad o),.pointer (ad v)] w (fun e w'=>e=.returned (.tuple #[])∧ak S w w'∧∃r cr,w'.cell? ⟨o,0,none⟩=some (.slice (ad r) 1 cr)∧w'.cell? ⟨r,0,none⟩=some (.pointer (ad b))∧S≤r∧1≤cr):=by
 have hl:=lX (P:=Tryz.prog) (t:=195) Tryz.underlying195 zy he (z:=.bool false) (by kernel_rfl) false (.pointer (ad b))
 obtain⟨es,cl,hu⟩:=lJ (P:=Tryz.prog) (t:=195) Tryz.underlying195 zy he (.pointer (ad b)) (.bool true)
 have Hx:o≠g:=by
  rintro rfl
  obtain⟨cl,h1⟩:=he
  rw[ho]at h1;cases h1
 go_enter Tryz.func148,Tryz.ntmps148
 go_upto_region 2 with fail
 have Oh:b≠g:=by
  rintro rfl
  obtain⟨cl,h1⟩:=he
  simp[World.cell?,h1]at ht
 have lA:ak S w (Go.ChangeMaps.setBlock w g (.map es cl)):=(ak.refl S w).setBlock hSg _
 have oA:=(bM (.map es cl) Hx).trans ho
 have tA:=(wG (.map es cl) Oh).trans ht
 generalize Go.ChangeMaps.setBlock w g (.map es cl)=wA at lA oA tA⊢
 have Uu:S≤wA.heap.size:=Nat.le_trans rT lA.size
 have c0:=bf oA
 have Yp:o<wA.heap.size:=aB oA
 have hbA:b<wA.heap.size:=bq tA
 have c0a:(wA.alloc (.cells #[.pointer (ad b)] 130)).cell? ⟨o,0,none⟩=some Zs:=Yc (ir _ oA)
 have LA:=cf lA;have OA:=cf oA;have TA:=cf tA
 clear hl hu he hs ho ht lA oA tA
 go_upto_region 3 with(first
  |(at_builtin;refine mN (w:=wA.alloc (.cells #[.pointer (ad b)] 130)) (P:=Tryz.prog) (base:=S) (n:=0) (m:=1) (xs:=[]) aq3 rfl (.tmp 12) (.tmp 14) rfl rfl (show Own _ S 130 1 (Value.slice none 0 0) 0 []from Own.nil _ _ _ _) rfl (ao wA _) rfl (by simp[Value.oneCell']) (by omega) (by simp;omega) ?_;intro v9 w9 yA;have fP:vV (wA.alloc (.cells #[.pointer (ad b)] 130)) w9 S 130 1 Zs v9 0 [] 1 [.pointer (ad b)]:=yA;clear yA;obtain⟨r,cr,cs,rfl,W3,hr,oh,dy⟩:=fP.row (k:=1) rfl (by decide);have l9:ak S (wA.alloc (.cells #[.pointer (ad b)] 130)) w9:=fP.low (Own.nil _ _ _ _) (Nat.le_refl _) (by simp;omega);have o9:w9.heap[o]?=some (.cells #[Zs] 133 (0,0)):=(fP.block o (by simp;omega) (by simp[Value.ownBlock])).trans (ir _ OA.out);have t9:w9.cell? ⟨b,4,none⟩=some (.slice A 0 c):=((World.cell?_of_block (a:=⟨b,4,none⟩) (fP.block b (by simp;omega) (by simp[Value.ownBlock]))).trans (World.cell?_alloc_lt wA _ ⟨b,4,none⟩ hbA)).trans TA.out;have k9:w9.cell? ⟨o,0,none⟩=some Zs:=Yc o9;have f9:w9.frozen? ⟨o,0,none⟩=false:=au o9;have ag6:=cf dy;have HR:=cf hr;have L9:=cf l9;have O9:=cf o9;have T9:=cf t9;clear fP dy hr l9 o9 t9))
 have x9:w9.cell? ⟨r,0,none⟩=some (.pointer (ad b)):=ag6.out.cell (j:=0) rfl
 have Ny:r≠o:=by
  rintro rfl
  have hr:=HR.out
  rw[O9.out]at hr;cases hr
 have hbo:b≠o:=by
  rintro rfl
  have:=T9.out
  rw[Yc O9.out]at this
  simp at this
 have tF:(w9.setCell ⟨o,0,none⟩ (.slice (ad r) 1 cr)).cell? ⟨b,4,none⟩=some (.slice A 0 c):=(World.cell?_of_block (aj hbo)).trans T9.out
 have xF:(w9.setCell ⟨o,0,none⟩ (.slice (ad r) 1 cr)).cell? ⟨r,0,none⟩=some (.pointer (ad b)):=(World.cell?_of_block (aj Ny)).trans x9
 have oF:(w9.setCell ⟨o,0,none⟩ (.slice (ad r) 1 cr)).cell? ⟨o,0,none⟩=some (.slice (ad r) 1 cr):=Yc (aD O9.out)
 have lF:ak S w (w9.setCell ⟨o,0,none⟩ (.slice (ad r) 1 cr)):=((LA.out.alloc Uu _).trans L9.out).setCell hSo _
 generalize w9.setCell ⟨o,0,none⟩ (.slice (ad r) 1 cr)=wF at tF xF oF lF⊢
 have XF:=cf xF;have OF:=cf oF;have LF:=cf lF
 clear xF oF lF ag6 HR L9 O9 T9 LA OA TA k9 f9 x9
 go_wp2_with fail
 go_loopw[21] (fun i wr=>i=G 0∧wr=wF) (fun _ _=>0)
 case atStart=>exact⟨rfl,rfl⟩
 case round=>
  obtain⟨rfl,rfl⟩:=hrel
  go_wp2_with fail
  go_end0
  exact⟨rfl,LF.out,r,cr,OF.out,XF.out,W3,oh⟩
theorem av {w:World} {n:Nat} (o:Obj) (h:w.heap.size=n):(w.alloc o).heap[n]?=some o∧(w.alloc o).heap.size=n+1∧∀(g:Nat) (ob:Obj),w.heap[g]?=some ob→(w.alloc o).heap[g]?=some ob:=by
 subst h
 exact⟨ao w o,by simp,fun g ob hh=>ir o hh⟩
def Tn (w:World) (b:Nat) (e:Ending) (w':World):Prop:=ak w.heap.size w w'∧∃r cr,e=.returned (.slice (ad r) 1 cr)∧w'.cell? ⟨r,0,none⟩=some (.pointer (ad b))∧w.heap.size≤r∧1≤cr
theorem ez (w:World) (gr b c:Nat) (A:Option Addr) (hg:w.cell? ⟨gr,0,none⟩=some (.pointer (ad b))) (ht:w.cell? ⟨b,4,none⟩=some (.slice A 0 c)):
 Calls Tryz.prog 88 #[.pointer (ad gr)] w (Tn w b):=by
 have qE:∀(fn:Fn) (first cap:Array Value) (w:World),(Instr.makeFunc fn first cap).run Tryz.prog w=.ok (.func fn first cap) w:=fun _ _ _ _=>rfl
 have vY:∀u:World,(Instr.makeMap 195 none).run Tryz.prog u=.ok (.map (some u.heap.size)) (u.alloc (.map #[] 0)):=fun u=>by kernel_rfl
 obtain⟨S,hS⟩:∃S,w.heap.size=S:=⟨_,rfl⟩
 obtain⟨a1,s1,u1⟩:=av (.cells #[Zs] 133) hS
 obtain⟨a2,s2,u2⟩:=av (.map #[] 0) s1
 obtain⟨a3,s3,u3⟩:=av (.cells #[.map (some (S+1))] 195) s2
 obtain⟨a4,s4,u4⟩:=av (.cells #[.func (.func 148) #[] #[.pointer (ad (S+1+1)),.pointer (ad S),.pointer (ad (S+1+1+1))]] 196) s3
 have l5:ak S w ((((w.alloc (.cells #[Zs] 133)).alloc (.map #[] 0)).alloc (.cells #[.map (some (S+1))] 195)).alloc (.cells #[.func (.func 148) #[] #[.pointer (ad (S+1+1)),.pointer (ad S),.pointer (ad (S+1+1+1))]] 196)):=((((ak.refl S w).alloc (by omega) _).alloc (by omega) _).alloc (by omega) _).alloc (by omega) _
 have o5:=u4 _ _ (u3 _ _ (u2 _ _ a1))
 have m5:=u4 _ _ (u3 _ _ a2)
 have p5:=u4 _ _ a3
 have wk:gr<S:=hS▸bq hg
 have hb:b<S:=hS▸bq ht
 have HG:=cf hg;have HT:=cf ht;have L5:=cf l5;have O5:=cf o5;have M5:=cf m5;have P5:=cf p5;have A5:=cf a4
 clear a1 a2 a3 a4 u1 u2 u3 u4 l5 o5 m5 p5 hg ht s1 s2 s3 s4
 go_enter Tryz.func88,Tryz.ntmps88
 go_upto_region 5 with fail
 generalize((((w.alloc (.cells #[Zs] 133)).alloc (.map #[] 0)).alloc (.cells #[.map (some (S+1))] 195)).alloc (.cells #[.func (.func 148) #[] #[.pointer (ad (S+1+1)),.pointer (ad S),.pointer (ad (S+1+1+1))]] 196))=w5 at L5 O5 M5 P5 A5⊢
 have l5:=L5.out;have o5:=O5.out;have m5:=M5.out;have p5:=P5.out;have a5:=A5.out
 have q0:=bf a5
 have q1:w5.cell? ⟨gr,0,none⟩=some (.pointer (ad b)):=(World.cell?_of_block (l5.block gr wk)).trans HG.out
 have q2:w5.cell? ⟨b,4,none⟩=some (.slice A 0 c):=(World.cell?_of_block (l5.block b hb)).trans HT.out
 have Nr:=IC w5.drew S b (S+1+1) S (S+1+1+1) (S+1) c A (Yc p5) ⟨0,m5⟩ o5 q2 (by omega) (Nat.le_refl _) (by have:=l5.size;show S≤w5.heap.size;omega)
 clear l5 o5 m5 p5 a5
 have ZK:Calls Tryz.prog 148 #[.pointer (ad b),.pointer (ad (S+1+1)),.pointer (ad S),.pointer (ad (S+1+1+1))] w5.drew (fun e w'=>∃v,e=.returned v∧(v=.tuple #[]∧ak S w5.drew w'∧∃r cr,w'.cell? ⟨S,0,none⟩=some (.slice (ad r) 1 cr)∧w'.cell? ⟨r,0,none⟩=some (.pointer (ad b))∧S≤r∧1≤cr)):=Nr.mono (fun e w' h=>⟨_,h.1,rfl,h.2⟩)
 clear Nr
 go_region_law(first
  |(refine aR rfl 148 #[.pointer (ad b),.pointer (ad (S+1+1)),.pointer (ad S),.pointer (ad (S+1+1+1))] (by go_simp) _ ZK ?_;rintro v w6 ⟨rfl,l6,r,cr,e6,x6,hr6,ap1⟩))
 all_goals(try go_wp2_with fail)
 all_goals(go_ret;exact⟨by rw[hS];exact L5.out.drew.trans l6,r,cr,rfl,x6,by rw[hS];exact hr6,ap1⟩)
end
end Go.Proofs.YtjkahfmdcpfjjaaGreat
