/- The rules: constants. -/
import Derived.Test.YtjkahfmdcpfjjaaGreatB0
set_option linter.unusedVariables false
namespace Go.Proofs.YtjkahfmdcpfjjaaGreat
open Go.RowKit
section
set_option maxRecDepth 100000
set_option maxHeartbeats 4000000
theorem ay {kd:IntKind} {t kt et:TypeId} (ht:Tryz.prog.underlying t=some (.map kt et)) (hk:Tryz.prog.underlying kt=some (.int kd)) {w:World} {g:Nat} {l:List (Int×Value)} (h:aQ kd w g l) (k:Int) (v:Value):
 ∃w',(Instr.mapUpdate t (.map (some g)) (.int kd k) v).run Tryz.prog w=.ok () w'∧aQ kd w' g (eU l k v)∧aY [g] w w'∧w'.heap.size=w.heap.size:=by
 obtain⟨es,c,h1,h2,h2b⟩:=tO (P:=Tryz.prog) ht hk h (k:=k) v
 obtain⟨es0,cl,hg,_⟩:=h
 refine⟨_,h1,⟨es,c,?_,h2,h2b⟩,aY.setBlock w (by simp) _,by simp[Go.ChangeMaps.setBlock]⟩
 have:=aB hg
 simp[Go.ChangeMaps.setBlock,this]
def fns (k p q:Nat):Value:=.func (.func k) #[] #[.pointer (ad p),.pointer (ad q)]
theorem sq (w:World) (kind a b:Int) (hk:kind=0∨kind=1∨kind=2) (ha:W a) (hb:W b):Calls Tryz.prog 200 #[G kind,.int .u16 a,.int .u16 b] w (fun e w'=>e=.returned (.int .u16 (arith (12+kind) a b))∧ak w.heap.size w w'):=by
 have qE:∀(fn:Fn) (first cap:Array Value) (w:World),(Instr.makeFunc fn first cap).run Tryz.prog w=.ok (.func fn first cap) w:=fun _ _ _ _=>rfl
 have vY:∀u:World,(Instr.makeMap 230 none).run Tryz.prog u=.ok (.map (some u.heap.size)) (u.alloc (.map #[] 0)):=fun u=>by kernel_rfl
 obtain⟨S,hS⟩:∃S,w.heap.size=S:=⟨_,rfl⟩
 have WT:b.tmod 16=b%16:=by unfold W at hb;rw[Int.tmod_eq_emod_of_nonneg hb.1]
 have VZ:W (b%16):=⟨by omega,by omega⟩
 have Wh:0≤b%16∧b%16<16:=⟨by omega,by omega⟩
 have Uc:arith (12+kind) a (b%16)=arith (12+kind) a b:=(xD (by omega)).symm
 obtain⟨a1,s1,u1⟩:=av (.cells #[.int .u16 a] 27) hS
 obtain⟨a2,s2,u2⟩:=av (.cells #[.int .u16 (b.tmod 16)] 27) s1
 have l2:ak w.heap.size w ((w.alloc (.cells #[.int .u16 a] 27)).alloc (.cells #[.int .u16 (b.tmod 16)] 27)):=((ak.refl _ w).alloc (Nat.le_refl _) _).alloc (by simp) _
 have b1:=u2 _ _ a1
 rw[WT]at a2 s2 b1 l2
 clear u1 u2 a1 s1
 go_enter Tryz.func200,Tryz.ntmps200
 go_upto_region 2 with fail
 generalize(w.alloc (.cells #[.int .u16 a] 27)).alloc (.cells #[.int .u16 (b%16)] 27)=w2 at a2 s2 b1 l2⊢
 obtain⟨a3,s3,u3⟩:=av (.map #[] 0) s2
 have m3:aQ .i64 (w2.alloc (.map #[] 0)) (S+1+1) []:=⟨_,_,a3,aN _,by simp⟩
 have c1:=u3 _ _ b1
 have c2:=u3 _ _ a2
 have l3:=l2.trans (((ak.refl w2.heap.size w2).alloc (Nat.le_refl _) (.map #[] 0)).mono l2.size)
 obtain⟨w4,h4,m4,k4,s4⟩:=ay Tryz.underlying230 Tryz.underlying3 m3 0 (fns 233 S (S+1))
 obtain⟨w5,h5,m5,k5,s5⟩:=ay Tryz.underlying230 Tryz.underlying3 m4 1 (fns 234 S (S+1))
 obtain⟨w6,h6,m6,k6,s6⟩:=ay Tryz.underlying230 Tryz.underlying3 m5 2 (fns 235 S (S+1))
 have bQ:=vY w2
 rw[s2]at bQ
 have k46:aY [S+1+1] (w2.alloc (.map #[] 0)) w6:=(k4.trans k5).trans k6
 have d1:=k46.obj c1 (by simp only[List.mem_singleton];omega)
 have d2:=k46.obj c2 (by simp only[List.mem_singleton];omega)
 have l6:ak w.heap.size w w6:=l3.trans (k46.low (S:=w.heap.size) (by simp;omega) l3.size)
 have ef:(Instr.lookup 230 (.map (some (S+1+1))) (G kind) true).run Tryz.prog w6=.ok (.tuple #[fns (233+kind.toNat) S (S+1),.bool true]) w6:=by
  have:=aM (P:=Tryz.prog) (t:=230) Tryz.underlying230 Tryz.underlying3 m6 (k:=kind) (z:=.nilFunc) (by kernel_rfl) true
  rw[this]
  rcases hk with rfl|rfl|rfl<;>rfl
 clear vY m3 m4 m5 m6 k4 k5 k6 k46 a3 s3 u3 c1 c2 l2 l3 b1 a2
 unfold fns at h4 h5 h6 ef
 go_upto_region 3 with fail
 clear h4 h5 h6 bQ s2
 have HL:=cf l6
 have x1:=bf d1
 have x2:=bf d2
 clear d1 d2 s4 s5 s6 WT l6
 rcases hk with rfl|rfl|rfl
 ·have hc:=Xn w6 S (S+1) a (b%16) ha VZ Wh x1 x2
  clear x1 x2
  have HMD:Hid (arith 12 a (b%16)=arith (12+0) a b):=cf Uc
  clear Uc
  go_wp2_with(first
   |(go_at_call 233;(with_reducible refine hc.mono ?_);rintro e w7 ⟨rfl,l7⟩)
   |((with_reducible refine hc.mono ?_);rintro e w7 ⟨rfl,l7⟩))
  go_ret
  exact⟨by rw[←HMD.out];rfl,HL.out.trans (l7.mono HL.out.size)⟩
 ·have hc:=Xm w6 S (S+1) a (b%16) ha VZ Wh x1 x2
  clear x1 x2
  have HMD:Hid (arith 13 a (b%16)=arith (12+1) a b):=cf Uc
  clear Uc
  go_wp2_with(first
   |(go_at_call 234;(with_reducible refine hc.mono ?_);rintro e w7 ⟨rfl,l7⟩)
   |((with_reducible refine hc.mono ?_);rintro e w7 ⟨rfl,l7⟩))
  go_ret
  exact⟨by rw[←HMD.out];rfl,HL.out.trans (l7.mono HL.out.size)⟩
 ·have hc:=Xl w6 S (S+1) a (b%16) ha VZ Wh x1 x2
  clear x1 x2
  have HMD:Hid (arith 14 a (b%16)=arith (12+2) a b):=cf Uc
  clear Uc
  go_wp2_with(first
   |(go_at_call 235;(with_reducible refine hc.mono ?_);rintro e w7 ⟨rfl,l7⟩)
   |((with_reducible refine hc.mono ?_);rintro e w7 ⟨rfl,l7⟩))
  go_ret
  exact⟨by rw[←HMD.out];rfl,HL.out.trans (l7.mono HL.out.size)⟩
theorem Xt:Gz 199 (arith 12) (fun _ _=>True):=by
 intro w p q a b ha hb bB hp hq
 have hs:=sq w 0 a b (by omega) ha hb
 go_enter Tryz.func199,Tryz.ntmps199
 go_wp2_with(first
  |(go_at_call 200;(with_reducible refine hs.mono ?_);rintro e w3 ⟨rfl,l3⟩))
 go_ret
 exact⟨rfl,l3⟩
theorem Xs:Gz 201 (arith 13) (fun _ _=>True):=by
 intro w p q a b ha hb bB hp hq
 have hs:=sq w 1 a b (by omega) ha hb
 go_enter Tryz.func201,Tryz.ntmps201
 go_wp2_with(first
  |(go_at_call 200;(with_reducible refine hs.mono ?_);rintro e w3 ⟨rfl,l3⟩))
 go_ret
 exact⟨rfl,l3⟩
theorem Xr:Gz 202 (arith 14) (fun _ _=>True):=by
 intro w p q a b ha hb bB hp hq
 have hs:=sq w 2 a b (by omega) ha hb
 go_enter Tryz.func202,Tryz.ntmps202
 go_wp2_with(first
  |(go_at_call 200;(with_reducible refine hs.mono ?_);rintro e w3 ⟨rfl,l3⟩))
 go_ret
 exact⟨rfl,l3⟩
end
section
set_option maxRecDepth 100000
set_option maxHeartbeats 4000000
variable {w w':World} {al bk c cm df g ga gr i n nm ob om pc tc:Nat}
theorem jP (o:Obj) (h:g<w.heap.size):(Go.ChangeMaps.setBlock w g o).heap[g]?=some o:=by simp[Go.ChangeMaps.setBlock,h]
variable {P:Program} {Q:Exit→Act→World→Prop} {S:World→Prop} {oi:Oper} {l:List Oper} {v z:Value} {a:Act}
theorem ah6 {ops:Array Oper} {md:Region.Mode} {li:Array Bool} (hl:List.drop i ops.toList=oi::l)
 (hs:Region.noSelect ops=true) (hf:Region.free md ops li i=true) (hr:(Region.ready md ops li).contains i=true) (hQ:∀c a w,Q (.panic c) (a.put oi.dst v) w→Q (.panic c) a w)
 (hw:Region.wanted oi (yielded ops a.tmps)=true) (hy:∀w,S w→(execOp a.eval oi).run P w=.ok (.value v) w) (hS:S w)
 (h:wpAnyH P md ops Q S n (li.setIfInBounds i true) (a.put oi.dst v) w):wpAnyH P md ops Q S (n+1) li a w:=by
 have hi:ops[i]?=some oi:=by
  rw[←Array.getElem?_toList,←List.head?_drop,hl];rfl
 exact wpAnyH_take hi hs hf hr hQ (Or.inl ⟨hw,hy⟩) hS h
theorem fT {ops:Array Oper} {md:Region.Mode} {li:Array Bool} {rs:List Nat} (hl:List.drop i ops.toList=oi::l)
 (h:∀K':Act→World→Prop,Shut (∀a w,S w→(S w→wpAnyH P md ops Q S n (li.setIfInBounds i true) a w)→K' a w)→if Region.wanted oi (yielded ops a.tmps)=true then Oper.wp P oi a w K' Q else K' (a.put oi.dst undef) w)
 (hs:AllReadyH P md ops Q S n li a w rs):AllReadyH P md ops Q S n li a w (i::rs):=by
 have hi:ops[i]?=some oi:=by
  rw[←Array.getElem?_toList,←List.head?_drop,hl];rfl
 exact AllReadyH.cons hi h hs
variable {α:Type}
theorem bh:(∀(l:List α) (i:Nat) (a:α),l.toArray.setIfInBounds i a=(l.set i a).toArray)∧(∀(x:α) (xs:List α) (a:α),(x::xs).set 0 a=a::xs)∧(∀(x:α) (xs:List α) (n:Nat) (a:α),(x::xs).set (n+1) a=x::xs.set n a):=⟨fun _ _ _=>List.setIfInBounds_toArray ..,fun _ _ _=>List.set_cons_zero,fun _ _ _ _=>List.set_cons_succ⟩
theorem tk {ops:Array Oper} {md:Region.Mode} {li li':Array Bool} {a':Act} (i:Nat) (hS:S w) (h:wpAnyH P md ops Q S n li' a' w) (hl:List.drop i ops.toList=oi::l:=by rfl)
 (hs:Region.noSelect ops=true:=by kernel_rfl) (hf:Region.free md ops li i=true:=by kernel_rfl) (hr:(Region.ready md ops li).contains i=true:=by kernel_rfl) (hw:Region.wanted oi (yielded ops a.tmps)=true:=by rfl)
 (hy:∀w,S w→(execOp a.eval oi).run P w=.ok (.value v) w:=by intro w' rT;go_simp;(try with_reducible rfl)) (e1:li.setIfInBounds i true=li':=by(try simp only[bh]);(try rfl)) (e2:a.put oi.dst v=a':=by(try simp only[Act.put,bh]);(try rfl))
 (hQ:∀c a w,Q (.panic c) (a.put oi.dst v) w→Q (.panic c) a w:=by exact fun _ _ _ h=>h):wpAnyH P md ops Q S (n+1) li a w:=by
 subst e1 e2
 have hi:ops[i]?=some oi:=by
  rw[←Array.getElem?_toList,←List.head?_drop,hl];rfl
 exact wpAnyH_take hi hs hf hr hQ (Or.inl ⟨hw,hy⟩) hS h
theorem aG {ops:Array Oper} {md:Region.Mode} {li:Array Bool} (i:Nat)
 (h:∀K':Act→World→Prop,Shut (∀a w,S w→(S w→wpAnyH P md ops Q S n (li.setIfInBounds i true) a w)→K' a w)→if Region.wanted oi (yielded ops a.tmps)=true then Oper.wp P oi a w K' Q else K' (a.put oi.dst undef) w)
 (hl:List.drop i ops.toList=oi::l:=by rfl) (hr:Region.ready md ops li=[i]:=by kernel_rfl):wpAnyH P md ops Q S (n+1) li a w:=wpAnyH_ready hr (by simp) (fT hl h AllReadyH.nil)
variable {kd:IntKind}
theorem aQ.aW {l:List (Int×Value)} (h:aQ kd w g l) (hk:w'.heap[g]?=w.heap[g]?):aQ kd w' g l:=by
 obtain⟨es,cl,a,b⟩:=h
 exact⟨es,cl,hk.trans a,b⟩
def af1 (kd:IntKind) (z:Value) (w:World) (g:Nat) (st:Int) (l:List (Int×Value)) (k:Int):Prop:=∃es c clock,w.heap[g]?=some (.map (es.push ⟨.int kd k,z,c⟩) clock)∧vU kd l es∧((∀e∈es.toList,e.born<c)∧(es.toList.map (·.born)).Nodup)∧c<clock∧st=(c:Nat)
variable {t:TypeId} {k:Int}
theorem lW {kt et:TypeId} (ht:Tryz.prog.underlying t=some (.map kt et)) (JU:Tryz.prog.underlying kt=some (.int kd)) (hz:∀u,(zeroValue et).run Tryz.prog u=.ok z u) {l:List (Int×Value)} (h:aQ kd w g l) (hk:fp l k=none):∃o st,(Instr.mapEntry t (.map (some g)) (.int kd k)).run Tryz.prog w=.ok (.tuple #[z,G st]) (Go.ChangeMaps.setBlock w g o)∧af1 kd z (Go.ChangeMaps.setBlock w g o) g st l k:=by
 obtain⟨es,cl,hg,he,hb⟩:=h
 have bw:=aB hg
 obtain⟨r,r1,r2,r3,_⟩:=rY (P:=Tryz.prog) (w:=w) (k:=k) JU he
 have hr:r=none:=by
  cases r with
  |none=>rfl
  |some p=>rw[hk]at r2;simp at r2
 subst hr
 refine⟨.map (es.push ⟨.int kd k,z,cl⟩) (cl+1),(cl:Nat),?_,es,cl,cl+1,jP _ bw,he,hb,Nat.lt_succ_self _,rfl⟩
 simp[Instr.mapEntry,run_underlying ht,MapKept.run_getObj_map hg,jv JU,r1,hz,MapKept.run_setObj_map _ hg,Go.ChangeMaps.setBlock,goInt]
theorem iU {l:List (Int×Value)} {st:Int} (h:af1 kd z w g st l k) (v:Value):∃o,(Instr.entryStore t (.map (some g)) (G st) v).run Tryz.prog w=.ok () (Go.ChangeMaps.setBlock w g o)∧aQ kd (Go.ChangeMaps.setBlock w g o) g (l++[(k,v)]):=by
 obtain⟨es,c,cl,hg,he,hb,hc,rfl⟩:=h
 have bw:=aB hg
 have hf:(es.push ⟨.int kd k,z,c⟩).findIdx? (fun e=>(e.born:Int)==((c:Nat):Int))=some es.size:=by
  rw[Array.findIdx?_push]
  have h1:es.findIdx? (fun e=>(e.born:Int)==((c:Nat):Int))=none:=by
   rw[Array.findIdx?_eq_none_iff]
   intro e he
   have:=hb.1 e (by simpa using he)
   simp
   omega
  rw[h1]
  simp
 have hm:(es.push ⟨.int kd k,z,c⟩).modify es.size (fun e=>{e with val:=v})=es.push ⟨.int kd k,v,c⟩:=by
  apply Array.ext_getElem?
  intro i
  rw[Array.getElem?_modify,Array.getElem?_push,Array.getElem?_push]
  by_cases hi:i=es.size
  ·subst hi;simp
  ·have:¬es.size=i:=fun h=>hi h.symm
   simp[hi,this]
 refine⟨.map (es.push ⟨.int kd k,v,c⟩) cl,?_,es.push ⟨.int kd k,v,c⟩,cl,jP _ bw,?_,?_⟩
 ·simp[Instr.entryStore,MapKept.run_getObj_map hg,asInt,asIntOf,hf,hm,MapKept.run_setObj_map _ hg,Go.ChangeMaps.setBlock]
 ·unfold vU at*
  simp[he]
 ·exact⟨fun e Wx=>by have:=(nH hb (.int kd k) v).1 e Wx;omega,(nH hb (.int kd k) v).2⟩
structure Gc (w:World) (gr bk al df nm ob cm om:Nat) (s:St):Prop where
 g:w.heap[gr]?=some (.cells #[.pointer (ad bk),G s.next,.map (some al),.map (some df),.map (some nm),.map (some ob),.map (some cm),.map (some om)] 132 (0,0))
 iv:aQ .i64 w al (cc cA s.al)
 iO:aQ .i64 w df (cc aE.val s.df)
 fD:aQ .i64 w nm (cc sa s.nm)
 lC:Empty w ob
 ig:aQ .u16 w cm (cc cA s.cm)
 lB:Empty w om
 mL:[al,df,nm,ob,cm,om].Nodup
variable {Pp T:Option Addr} {s:St}
theorem Gr.core {l:List aE} {ret:Int} (h:Gr w gr bk al df nm ob cm om Pp pc ga n c T tc s l ret):Gc w gr bk al df nm ob cm om s:=⟨h.g,h.iv,h.iO,h.fD,h.lC,h.ig,h.lB,h.mL⟩
theorem Gc.low (h:Gc w gr bk al df nm ob cm om s) (hl:ak w.heap.size w w'):Gc w' gr bk al df nm ob cm om s:=
 ⟨hl.some h.g,h.iv.low hl,h.iO.low hl,h.fD.low hl,h.lC.low hl,h.ig.low hl,h.lB.low hl,h.mL⟩
theorem Gr.VE {s':St} {l:List aE} {ret:Int} (h:Gr w gr bk al df nm ob cm om Pp pc ga n c T tc s l ret) (hc:aY [gr,al,df,nm,cm] w w') (hg:Gc w' gr bk al df nm ob cm om s'):Gr w' gr bk al df nm ob cm om Pp pc ga n c T tc s' l ret:=by
 obtain⟨_,_,_,cs5,h5,_⟩:=h.ops
 have nb:bk∉[gr,al,df,nm,cm]:=by
  simp only[List.mem_cons,List.not_mem_nil,or_false,not_or]
  exact⟨bT h.b h.g (by decide),bm h.b h.iv.isMap,bm h.b h.iO.isMap,bm h.b h.fD.isMap,bm h.b h.ig.isMap⟩
 have na:ga∉[gr,al,df,nm,cm]:=by
  simp only[List.mem_cons,List.not_mem_nil,or_false,not_or]
  exact⟨bT h5 h.g (by decide),bm h5 h.iv.isMap,bm h5 h.iO.isMap,bm h5 h.fD.isMap,bm h5 h.ig.isMap⟩
 exact⟨hg.g,hc.obj h.b nb,hg.iv,hg.iO,hg.fD,hg.lC,hg.ig,hg.lB,h.ops.aW (hc.block ga (aB h5) na),h.small,h.mL⟩
theorem Kf (w:World) (gr bk al df nm ob cm om:Nat) (s:St) (h:Gc w gr bk al df nm ob cm om s) (h0:0≤s.next) (h1:s.next≤1000000):Calls Tryz.prog 146 #[.pointer (ad gr)] w (fun e w'=>e=.returned (G s.next)∧aY [gr] w w'∧Gc w' gr bk al df nm ob cm om {s with next:=s.next+1}):=by
 have y1:=jw h.g
 have f1:w.frozen? ⟨gr,1,none⟩=false:=au h.g
 have hm:∀{k},(∃es cl,w.heap[k]?=some (.map es cl))→k∉[gr]:=fun hk=>by simp only[List.mem_singleton];exact(bm h.g hk).symm
 have hc:aY [gr] w (w.setCell ⟨gr,1,none⟩ (G (s.next+1))):=aY.setCell _ (by simp) _
 have HF:Hid (aY [gr] w (w.setCell ⟨gr,1,none⟩ (G (s.next+1)))∧Gc (w.setCell ⟨gr,1,none⟩ (G (s.next+1))) gr bk al df nm ob cm om {s with next:=s.next+1}):=
  ⟨hc,by rw[aD h.g];rfl,h.iv.cG hc (hm h.iv.isMap),h.iO.cG hc (hm h.iO.isMap),h.fD.cG hc (hm h.fD.isMap),h.lC.cG hc (hm h.lC.isMap),h.ig.cG hc (hm h.ig.isMap),h.lB.cG hc (hm h.lB.isMap),h.mL⟩
 clear hc hm h
 go_enter Tryz.func146,Tryz.ntmps146
 go_wp2_with fail
 go_ret
 exact⟨by simp,HF.out⟩
theorem tq {l:List (Int×Int)} (h:aQ .u16 w cm (cc cA l)) (v:Int):(Instr.lookup 128 (.map (some cm)) (.int .u16 v) true).run Tryz.prog w=.ok (.tuple #[G ((aA l v).getD 0),.bool (aA l v).isSome]) w:=by
 have:=aM (P:=Tryz.prog) (t:=128) Tryz.underlying128 Tryz.underlying27 h (k:=v) (z:=G 0) (by kernel_rfl) true
 rw[ew]at this
 rw[this]
 cases aA l v<;>rfl
theorem nW (f:α→Value) (l:List (Int×α)) (k:Int) (v:α):cc f l++[(k,f v)]=cc f (l++[(k,v)]):=by simp[cc]
theorem ji {l:List (Int×α)} {v:α} (h:aA l k=none):dj l k v=l++[(k,v)]:=by
 induction l with
 |nil=>rfl
 |cons p l ih=>
  have hp:¬p.1=k:=by
   intro hp
   simp[aA,hp]at h
  have h2:aA l k=none:=by
   unfold aA at h⊢
   rw[List.find?_cons]at h
   have:(p.1==k)=false:=by simpa using hp
   rw[this]at h
   exact h
  unfold dj
  rw[if_neg (by simpa using hp),ih h2]
  rfl
theorem Av (w:World) (gr bk al df nm ob cm om:Nat) (s:St) (n v:Int) (h:Gc w gr bk al df nm ob cm om s) (hn:aA s.cm n=some v):Calls Tryz.prog 80 #[.pointer (ad gr),.int .u16 n] w (fun e w'=>e=.returned (G v)∧w'=w):=by
 have y6:=Pw h.g
 have hl:=tq h.ig n
 rw[hn]at hl
 have Sp:(Instr.lookup 128 (.map (some cm)) (.int .u16 n) true).run Tryz.prog w=.ok (.tuple #[G v,.bool true]) w:=hl
 clear hl h
 go_enter Tryz.func80,Tryz.ntmps80
 go_wp2_with fail
 go_ret
 exact⟨rfl,rfl⟩
theorem Aw (w:World) (gr bk al df nm ob cm om:Nat) (s:St) (n:Int) (h:Gc w gr bk al df nm ob cm om s) (h0:0≤s.next) (h1:s.next≤1000000) (hn:aA s.cm n=none) (hv:aA s.nm s.next=none):Calls Tryz.prog 80 #[.pointer (ad gr),.int .u16 n] w (fun e w'=>e=.returned (G s.next)∧aY [gr,nm,cm] w w'∧Gc w' gr bk al df nm ob cm om {s with next:=s.next+1,cm:=dj s.cm n s.next,nm:=dj s.nm s.next n}):=by
 have y6:=Pw h.g
 have hl:=tq h.ig n
 rw[hn]at hl
 have Sp:(Instr.lookup 128 (.map (some cm)) (.int .u16 n) true).run Tryz.prog w=.ok (.tuple #[G 0,.bool false]) w:=hl
 have kN:=Kf w gr bk al df nm ob cm om s h h0 h1
 clear hl h
 go_enter Tryz.func80,Tryz.ntmps80
 go_upto_region 4 with(first
  |(go_at_call 146;(with_reducible refine kN.mono ?_);rintro e w1 ⟨rfl,c1,g1⟩))
 have z6:=Pw g1.g
 have z4:=vE g1.g
 clear Sp kN y6
 refine wp_region_noPanic ?_
 refine wp_region_held_drew (S:=fun w'=>w'.cell? ⟨gr,6,none⟩=some (.map (some cm))∧w'.cell? ⟨gr,4,none⟩=some (.map (some nm))) (by kernel_rfl) ⟨z6,z4⟩ (fun af=>?_)
 have cD:aY [gr,nm,cm] w w1.drew:=(c1.more (by simp)).drew
 have gD:Gc w1.drew gr bk al df nm ob cm om {s with next:=s.next+1}:=g1.low ((ak.refl _ _).drew)
 clear z6 z4 c1 g1
 generalize w1.drew=wd at af cD gD⊢
 have rQ:=gD.mL
 have xc:cm≠nm∧cm≠al∧cm≠df∧cm≠ob∧cm≠om∧nm≠al∧nm≠df∧nm≠ob∧nm≠om:=by
  simp only[List.nodup_cons,List.mem_cons,List.not_mem_nil,or_false,not_or]at rQ
  obtain⟨⟨a1,a2,a3,a4,a5⟩,⟨b1,b2,b3,b4⟩,⟨c1,c2,c3⟩,⟨d1,d2⟩,e1,_⟩:=rQ
  exact⟨Ne.symm c2,Ne.symm a4,Ne.symm b3,Ne.symm d1,e1,Ne.symm a2,Ne.symm b1,c1,c3⟩
 obtain⟨m1,m2,m3,m4,m5,n1,n2,n3,n4⟩:=xc
 have uW:gr≠cm:=bm gD.g gD.ig.isMap
 have NX:gr≠nm:=bm gD.g gD.fD.isMap
 have CN:fp (cc cA s.cm) n=none:=by rw[ew,hn];rfl
 have Cu:fp (cc sa s.nm) s.next=none:=by rw[ew,hv];rfl
 obtain⟨o1,P4,sR,DU⟩:=lW (z:=G 0) Tryz.underlying128 Tryz.underlying27 (fun u=>by kernel_rfl) gD.ig CN
 have c1:aY [cm] wd (Go.ChangeMaps.setBlock wd cm o1):=aY.setBlock _ (by simp) _
 obtain⟨w2,Qf⟩:∃u,u=Go.ChangeMaps.setBlock wd cm o1:=⟨_,rfl⟩
 rw[←Qf]at sR DU c1
 obtain⟨o2,DT,JM⟩:=iU (t:=128) DU (G s.next)
 have c2:aY [cm] wd (Go.ChangeMaps.setBlock w2 cm o2):=c1.trans (aY.setBlock _ (by simp) _)
 obtain⟨w3,R1⟩:∃u,u=Go.ChangeMaps.setBlock w2 cm o2:=⟨_,rfl⟩
 rw[←R1]at DT JM c2
 have bh:aQ .i64 w3 nm (cc sa s.nm):=gD.fD.cG c2 (by simp only[List.mem_singleton];exact Ne.symm m1)
 obtain⟨o3,Y3,Bi,Qp⟩:=lW (z:=.int .u16 0) Tryz.underlying126 Tryz.underlying3 (fun u=>by kernel_rfl) bh Cu
 have c3:aY [nm,cm] wd (Go.ChangeMaps.setBlock w3 nm o3):=(c2.more (by simp)).trans (aY.setBlock _ (by simp) _)
 have Xk:aQ .u16 (Go.ChangeMaps.setBlock w3 nm o3) cm (cc cA s.cm++[(n,G s.next)]):=JM.aW (bM o3 m1)
 obtain⟨w4,TM⟩:∃u,u=Go.ChangeMaps.setBlock w3 nm o3:=⟨_,rfl⟩
 rw[←TM]at Bi Qp c3 Xk
 obtain⟨o4,Qo,Hs⟩:=iU (t:=126) Qp (.int .u16 n)
 have c4:aY [nm,cm] wd (Go.ChangeMaps.setBlock w4 nm o4):=c3.trans (aY.setBlock _ (by simp) _)
 have Xj:aQ .u16 (Go.ChangeMaps.setBlock w4 nm o4) cm (cc cA s.cm++[(n,G s.next)]):=Xk.aW (bM o4 m1)
 obtain⟨w5,ZC⟩:∃u,u=Go.ChangeMaps.setBlock w4 nm o4:=⟨_,rfl⟩
 rw[←ZC]at Qo Hs c4 Xj
 have mc:=c1.obj gD.g (by simp only[List.mem_singleton];exact uW)
 have sU:=c2.obj gD.g (by simp only[List.mem_singleton];exact uW)
 have Qu:=c3.obj gD.g (by simp only[List.mem_cons,List.not_mem_nil,or_false,not_or];exact⟨NX,uW⟩)
 have NZ:=c4.obj gD.g (by simp only[List.mem_cons,List.not_mem_nil,or_false,not_or];exact⟨NX,uW⟩)
 have RF:∀{k},cm≠k→nm≠k→k∉[nm,cm]:=fun h1 h2=>by simp only[List.mem_cons,List.not_mem_nil,or_false,not_or];exact⟨Ne.symm h2,Ne.symm h1⟩
 have HF:Hid (aY [gr,nm,cm] w w5∧Gc w5 gr bk al df nm ob cm om {s with next:=s.next+1,cm:=dj s.cm n s.next,nm:=dj s.nm s.next n}):=by
  refine⟨cD.trans (c4.more (by simp)),NZ,gD.iv.cG c4 (RF m2 n1),gD.iO.cG c4 (RF m3 n2),?_,gD.lC.cG c4 (RF m4 n3),?_,gD.lB.cG c4 (RF m5 n4),gD.mL⟩
  ·rw[ji hv];exact(nW sa s.nm s.next n)▸Hs
  ·rw[ji hn];exact(nW cA s.cm n s.next)▸Xj
 have jq:w2.cell? ⟨gr,6,none⟩=some (.map (some cm))∧w2.cell? ⟨gr,4,none⟩=some (.map (some nm)):=⟨Yc mc,Yc mc⟩
 have Uv:w3.cell? ⟨gr,6,none⟩=some (.map (some cm))∧w3.cell? ⟨gr,4,none⟩=some (.map (some nm)):=⟨Yc sU,Yc sU⟩
 have Bl:w4.cell? ⟨gr,6,none⟩=some (.map (some cm))∧w4.cell? ⟨gr,4,none⟩=some (.map (some nm)):=⟨Yc Qu,Yc Qu⟩
 have CW:w5.cell? ⟨gr,6,none⟩=some (.map (some cm))∧w5.cell? ⟨gr,4,none⟩=some (.map (some nm)):=⟨Yc NZ,Yc NZ⟩
 clear Qf R1 TM ZC DU Qp JM Hs c1 c2 c3 c4 mc sU Qu NZ cD gD Xk Xj bh rQ hn hv CN Cu m1 m2 m3 m4 m5 n1 n2 n3 n4 uW NX
 refine tk 0 af ?_
 refine tk 1 af ?_
 refine tk 2 af ?_
 refine tk 3 af ?_
 refine tk 4 af ?_
 refine tk 5 af ?_
 refine tk 6 af ?_
 refine tk 7 af ?_
 refine tk 8 af ?_
 refine tk 9 af ?_
 refine tk 10 af ?_
 refine tk 11 af ?_
 refine aG 12 fun KK aI=>?_
 go_simp
 refine aI.out _ _ (by exact jq) (fun af=>?_)
 clear aI KK
 (try simp only[Act.put,bh])
 refine tk 13 af ?_
 refine aG 14 fun KK aI=>?_
 go_simp
 refine aI.out _ _ (by exact Uv) (fun af=>?_)
 clear aI KK
 (try simp only[Act.put,bh])
 refine aG 15 fun KK aI=>?_
 go_simp
 refine aI.out _ _ (by exact Bl) (fun af=>?_)
 clear aI KK
 (try simp only[Act.put,bh])
 refine tk 16 af ?_
 refine aG 17 fun KK aI=>?_
 go_simp
 refine aI.out _ _ (by exact CW) (fun af=>?_)
 clear aI KK
 (try simp only[Act.put,bh])
 refine wpAnyH_done (by kernel_rfl) ?_ _
 refine NoPanic.normal ?_
 (try go_wp2_with fail)
 go_ret
 exact⟨rfl,HF.out⟩
theorem bZ {M:Int→Int} (w:World) (gr bk al df nm ob cm om:Nat) (s:St) (n:Int) (h:Gc w gr bk al df nm ob cm om s) (hs:cB M s) (h1:s.next≤1000000):Calls Tryz.prog 80 #[.pointer (ad gr),.int .u16 n] w (fun e w'=>∃v,e=.returned v∧(v=G (aK s n).1∧aY [gr,nm,cm] w w'∧Gc w' gr bk al df nm ob cm om (aK s n).2)):=by
 unfold aK
 cases hc:aA s.cm n with
 |some v=>
  refine(Av w gr bk al df nm ob cm om s n v h hc).mono ?_
  rintro e w' ⟨rfl,rfl⟩
  exact⟨_,rfl,rfl,aY.refl _ _,h⟩
 |none=>
  have hx:=hs.nx
  have hv:aA s.nm s.next=none:=by
   cases hx:aA s.nm s.next with
   |none=>rfl
   |some m=>have:=(hs.kw _ _ hx).2.1;omega
  refine(Aw w gr bk al df nm ob cm om s n h (by omega) h1 hc hv).mono ?_
  rintro e w' ⟨rfl,h2⟩
  exact⟨_,rfl,rfl,h2⟩
end
end Go.Proofs.YtjkahfmdcpfjjaaGreat
