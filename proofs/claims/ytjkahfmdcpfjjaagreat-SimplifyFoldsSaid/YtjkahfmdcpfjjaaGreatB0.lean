/- The rules: arithmetic on constants. -/
import Derived.Test.YtjkahfmdcpfjjaaGreatA5
import Derived.Laws.BitsAllLaws
set_option linter.unusedVariables false
namespace Go.Proofs.YtjkahfmdcpfjjaaGreat
open Go.RowKit
section
set_option maxRecDepth 100000
set_option maxHeartbeats 1000000
section
variable {α : Type}
def cc (f:α→Value) (l:List (Int×α)):List (Int×Value):=l.map fun p=>(p.1,f p.2)
theorem ew (f:α→Value) (l:List (Int×α)) (k:Int):fp (cc f l) k=(aA l k).map f:=by
 unfold fp aA cc
 induction l with
 |nil=>rfl
 |cons p l ih=>
  simp only[List.map_cons,List.find?_cons]
  cases h:(p.1==k)
  ·simpa using ih
  ·rfl
theorem qe (f:α→Value) (l:List (Int×α)) (k:Int) (v:α):eU (cc f l) k (f v)=cc f (dj l k v):=by
 unfold cc
 induction l with
 |nil=>rfl
 |cons p l ih=>
  simp only[List.map_cons,eU,dj]
  split
  ·rfl
  ·simp only[List.map_cons];rw[ih]
end
def cA (v:Int):Value:=G v
def sa (v:Int):Value:=.int .u16 v
variable {w:World}
theorem aQ.low {kd:IntKind} {w':World} {g:Nat} {m:List (Int×Value)} (h:aQ kd w g m) (hl:ak w.heap.size w w'):aQ kd w' g m:=by
 obtain⟨es,cl,hg,he⟩:=h
 exact⟨es,cl,hl.some hg,he⟩
theorem EP:lu Tryz.prog 3:=⟨_,Tryz.underlying3,trivial⟩
def Flat (al:List (Int×Int)):Prop:=∀v u,aA al v=some u→aA al u=none
def oM (al:List (Int×Int)) (v:Int):Int:=(aA al v).getD v
theorem Hj {al:Nat} {l:List (Int×Int)} (h:aQ .i64 w al (cc cA l)) (v:Int):(Instr.lookup 121 (.map (some al)) (G v) true).run Tryz.prog w=.ok (.tuple #[G ((aA l v).getD 0),.bool (aA l v).isSome]) w:=by
 have:=aM (P:=Tryz.prog) (t:=121) Tryz.underlying121 Tryz.underlying3 h (k:=v) (z:=G 0) (by kernel_rfl) true
 rw[ew]at this
 rw[this]
 cases aA l v<;>rfl
theorem Dd (w:World) (gr al:Nat) (l:List (Int×Int)) (v:Int) (hc:w.cell? ⟨gr,2,none⟩=some (.map (some al))) (hm:aQ .i64 w al (cc cA l)) (hf:Flat l):Calls Tryz.prog 90 #[.pointer (ad gr),G v] w (fun e w'=>e=.returned (G (oM l v))∧w'=w):=by
 obtain⟨u,hu⟩:∃u,u=oM l v:=⟨_,rfl⟩
 rw[←hu]
 have hl:=Hj hm v
 have qC:aA l u=none:=by
  unfold oM at hu
  cases e:aA l v with
  |none=>rw[e]at hu;rw[hu];exact e
  |some u'=>rw[e]at hu;rw[hu];exact hf _ _ e
 have gS:=Hj hm u
 rw[qC]at gS
 have an4:(Instr.lookup 121 (.map (some al)) (G u) true).run Tryz.prog w=.ok (.tuple #[G 0,.bool false]) w:=gS
 have ac4:u=v∨(aA l v=some u∧v≠u):=by
  unfold oM at hu
  cases e:aA l v with
  |none=>rw[e]at hu;exact .inl hu
  |some u'=>
   rw[e]at hu
   have:u=u':=hu
   rw[←this]
   refine .inr ⟨rfl,?_⟩
   rintro rfl
   rw[qC]at e;cases e
 clear gS hu qC hm hf
 rcases ac4 with rfl|⟨TW,cH⟩
 ·clear hl
  go_enter Tryz.func90,Tryz.ntmps90
  go_wp2_with fail
  go_loopw[1] (fun s wr=>s=G u∧wr=w) (fun _ _=>0)
  case atStart=>exact⟨rfl,rfl⟩
  case round=>
   obtain⟨rfl,rfl⟩:=hrel
   go_wp2_with fail
   go_ret
   exact⟨rfl,rfl⟩
 ·rw[TW]at hl
  have Sp:(Instr.lookup 121 (.map (some al)) (G v) true).run Tryz.prog w=.ok (.tuple #[G u,.bool true]) w:=hl
  have U0:=cf cH
  clear hl TW cH
  go_enter Tryz.func90,Tryz.ntmps90
  go_wp2_with fail
  go_loopw[1] (fun s wr=>(s=G v∨s=G u)∧wr=w) (fun s _=>if intOf s=u then 0 else 1)
  case atStart=>exact⟨.inl rfl,rfl⟩
  case round=>
   obtain⟨rfl|rfl,rfl⟩:=hrel
   ·clear an4
    go_wp2_with fail
    exact⟨by simp,by simp[intOf,U0.out]⟩
   ·clear Sp
    go_wp2_with fail
    go_ret
    exact⟨rfl,rfl⟩
theorem xN (w:World) (tv:Value) (r:Int) (h:0≤r):Calls Tryz.prog 86 #[.agg #[G 4,G r,tv]] w (fun e w'=>e=.returned (.bool true)∧ak w.heap.size w w'):=by
 go_enter Tryz.func86,Tryz.ntmps86
 go_wp2_with fail
 go_ret
 exact⟨rfl,F0⟩
theorem gf (w:World) (b:Nat) (r:Int) (h:0≤r) (h2:w.cell? ⟨b,2,none⟩=some (G 4)) (h3:w.cell? ⟨b,3,none⟩=some (G r)):Calls Tryz.prog 97 #[.pointer (ad b)] w (fun e w'=>e=.returned (.bool true)∧ak w.heap.size w w'):=by
 go_enter Tryz.func97,Tryz.ntmps97
 go_upto_region 1 with fail
 have hr:=(xN w.drew Zs r h).mono (fun e w' h=>(⟨_,h.1,rfl,h.2⟩:∃v,e=.returned v∧(v=.bool true∧ak w.heap.size w.drew w')))
 go_region_law(first
  |(refine aR rfl 86 #[.agg #[G 4,G r,Zs]] (by go_simp) _ hr ?_;rintro v w6 ⟨rfl,l6⟩))
 all_goals(try go_wp2_with fail)
 all_goals(go_ret;exact⟨rfl,(ak.refl _ _).drew.trans l6⟩)
end
section
structure aY (B:List Nat) (w w':World):Prop where
 os:w'.os=w.os
 out:w'.output=w.output
 size:w.heap.size≤w'.heap.size
 block:∀g,g<w.heap.size→g∉B→w'.heap[g]?=w.heap[g]?
section
variable {B B' : List Nat} {w w' rh : World}
theorem aY.bD (h:ak w.heap.size w w'):aY B w w':=⟨h.os,h.out,h.size,fun g hg _=>h.block g hg⟩
theorem aY.refl (B:List Nat) (w:World):aY B w w:=⟨rfl,rfl,Nat.le_refl _,fun _ _ _=>rfl⟩
theorem aY.trans (h:aY B w w') (h':aY B w' rh):aY B w rh:=⟨h'.os.trans h.os,h'.out.trans h.out,Nat.le_trans h.size h'.size,fun g hg hb=>(h'.block g (Nat.lt_of_lt_of_le hg h.size) hb).trans (h.block g hg hb)⟩
theorem aY.trans' (h:aY B w w') (h':aY B' w' rh) (hB:∀b∈B',b∈B∨w.heap.size≤b):aY B w rh:=⟨h'.os.trans h.os,h'.out.trans h.out,Nat.le_trans h.size h'.size,fun g hg hb=>(h'.block g (Nat.lt_of_lt_of_le hg h.size) (fun wo=>(hB g wo).elim hb (fun h1=>by omega))).trans (h.block g hg hb)⟩
theorem aY.more (h:aY B w w') (hB:∀b∈B,b∈B'):aY B' w w':=⟨h.os,h.out,h.size,fun g hg hb=>h.block g hg fun mw=>hb (hB g mw)⟩
variable {d g k:Nat}
theorem aY.setBlock (w:World) (hd:d∈B) (o:Obj):aY B w (Go.ChangeMaps.setBlock w d o):=⟨rfl,rfl,by simp[Go.ChangeMaps.setBlock],fun g _ hn=>bM o (by rintro rfl;exact hn hd)⟩
theorem aY.setCell (w:World) {i:Nat} (hd:d∈B) (v:Value):aY B w (w.setCell ⟨d,i,none⟩ v):=⟨rfl,rfl,by rw[cW];exact Nat.le_refl _,fun g _ hn=>aj (by rintro rfl;exact hn hd)⟩
theorem aY.drew (h:aY B w w'):aY B w w'.drew:=⟨h.os,h.out,h.size,h.block⟩
theorem aY.alloc (w:World) (o:Obj):aY B w (w.alloc o):=aY.bD (F0)
theorem aY.low {S:Nat} (h:aY B w w') (hB:∀b∈B,S≤b) (hS:S≤w.heap.size):ak S w w':=⟨h.os,h.out,h.size,fun g hg=>h.block g (by omega) fun hb=>by have:=hB g hb;omega⟩
theorem aY.obj {o:Obj} (h:aY B w w') (ho:w.heap[g]?=some o) (hb:g∉B):w'.heap[g]?=some o:=(h.block g (aB ho) hb).trans ho
theorem aY.tail (h:aY B w w') (h':ak w.heap.size w' rh):aY B w rh:=⟨h'.os.trans h.os,h'.out.trans h.out,Nat.le_trans h.size h'.size,fun g hg hb=>(h'.block g hg).trans (h.block g hg hb)⟩
theorem Empty.cG (h:Empty w g) (hc:aY B w w') (hb:g∉B):Empty w' g:=by
 obtain⟨cl,hg⟩:=h
 exact⟨cl,hc.obj hg hb⟩
variable {kd:IntKind} {m:List (Int×Value)}
theorem aQ.cG (h:aQ kd w g m) (hc:aY B w w') (hb:g∉B):aQ kd w' g m:=by
 obtain⟨es,cl,hg,he⟩:=h
 exact⟨es,cl,hc.obj hg hb,he⟩
theorem Empty.low (h:Empty w g) (hl:ak w.heap.size w w'):Empty w' g:=by
 obtain⟨cl,hg⟩:=h
 exact⟨cl,hl.some hg⟩
end
def dU (w:World) (g n c:Nat) (l:List aE):Prop:=l.length=n∧0<n∧n≤c∧∃cs:Array Value,w.heap[g]?=some (.cells cs 67 (0,0))∧∀j o,l[j]?=some o→
 cs[j*6]?=some (G o.code)∧cs[j*6+1]?=some (G o.res)∧cs[j*6+2]?=some (G o.a)∧cs[j*6+3]?=some (G o.b)∧cs[j*6+4]?=some (.int .u16 o.n)∧cs[j*6+5]?=some Zs
variable {d g k:Nat}
theorem dU.aW {w w':World} {n c:Nat} {l:List aE} (h:dU w g n c l) (hk:w'.heap[g]?=w.heap[g]?):dU w' g n c l:=by
 obtain⟨h1,h2,h3,cs,h4,h5⟩:=h
 exact⟨h1,h2,h3,cs,hk.trans h4,h5⟩
theorem dU.lt {w:World} {n c:Nat} {l:List aE} (h:dU w g n c l):g<w.heap.size:=by
 obtain⟨_,_,_,cs,h4,_⟩:=h
 exact aB h4
theorem dU.low {w w':World} {n c:Nat} {l:List aE} (h:dU w g n c l) (hl:ak w.heap.size w w'):dU w' g n c l:=h.aW (hl.block g h.lt)
def jy (l:List aE):Prop:=∀o∈l,aS o.code
structure Gr (w:World) (gr bk al df nm ob cm om:Nat) (Pp:Option Addr) (pc ga n c:Nat) (T:Option Addr) (tc:Nat) (s:St) (l:List aE) (ret:Int):Prop where
 g:w.heap[gr]?=some (.cells #[.pointer (ad bk),G s.next,.map (some al),.map (some df),.map (some nm),.map (some ob),.map (some cm),.map (some om)] 132 (0,0))
 b:w.heap[bk]?=some (.cells #[.slice Pp 1 pc,.slice (ad ga) n c,G 4,G ret,.slice T 0 tc] 136 (0,0))
 iv:aQ .i64 w al (cc cA s.al)
 iO:aQ .i64 w df (cc aE.val s.df)
 fD:aQ .i64 w nm (cc sa s.nm)
 lC:Empty w ob
 ig:aQ .u16 w cm (cc cA s.cm)
 lB:Empty w om
 ops:dU w ga n c l
 small:n≤12
 mL:[al,df,nm,ob,cm,om].Nodup
def GB (gr bk al df nm cm ga:Nat):List Nat:=[gr,bk,al,df,nm,cm,ga]
section
variable {w w' : World} {gr bk al df nm ob cm om : Nat} {Pp : Option Addr} {pc ga n c : Nat} {T : Option Addr} {tc : Nat} {s : St} {l : List aE} {ret : Int}
theorem Gr.low (h:Gr w gr bk al df nm ob cm om Pp pc ga n c T tc s l ret) (hl:ak w.heap.size w w'):Gr w' gr bk al df nm ob cm om Pp pc ga n c T tc s l ret:=
 ⟨hl.some h.g,hl.some h.b,h.iv.low hl,h.iO.low hl,h.fD.low hl,h.lC.low hl,h.ig.low hl,h.lB.low hl,h.ops.low hl,h.small,h.mL⟩
variable {kd:IntKind} {m:List (Int×Value)}
theorem aQ.isMap (h:aQ kd w g m):∃es cl,w.heap[g]?=some (.map es cl):=by
 obtain⟨es,cl,hg,_⟩:=h;exact⟨es,cl,hg⟩
theorem Empty.isMap (h:Empty w g):∃es cl,w.heap[g]?=some (.map es cl):=by
 obtain⟨cl,hg⟩:=h;exact⟨_,cl,hg⟩
variable {e:TypeId} {fr:Nat×Nat}
theorem bm {cs:Array Value} (h:w.heap[g]?=some (.cells cs e fr)) (hm:∃es cl,w.heap[k]?=some (.map es cl)):g≠k:=by
 rintro rfl
 obtain⟨es,cl,hm⟩:=hm
 rw[h]at hm;cases hm
theorem bT {cs jH:Array Value} {e':TypeId} {fr':Nat×Nat} (h:w.heap[g]?=some (.cells cs e fr)) (h':w.heap[k]?=some (.cells jH e' fr')) (he:e≠e'):g≠k:=by
 rintro rfl
 rw[h]at h';cases h';exact he rfl
theorem Gr.ad7 {T':Option Addr} {oU:Nat} (h:Gr w gr bk al df nm ob cm om Pp pc ga n c T tc s l ret):Gr (w.setCell ⟨bk,4,none⟩ (.slice T' 0 oU)) gr bk al df nm ob cm om Pp pc ga n c T' oU s l ret:=by
 have hc:aY [bk] w (w.setCell ⟨bk,4,none⟩ (.slice T' 0 oU)):=aY.setCell _ (by simp) _
 obtain⟨h1,h2,h3,cs5,h5,h6⟩:=h.ops
 have hm:∀{k},(∃es cl,w.heap[k]?=some (.map es cl))→k∉[bk]:=fun hk=>by simp only[List.mem_singleton];exact(bm h.b hk).symm
 exact⟨hc.obj h.g (by simp only[List.mem_singleton];exact bT h.g h.b (by decide)),by rw[aD h.b];rfl,h.iv.cG hc (hm h.iv.isMap),h.iO.cG hc (hm h.iO.isMap),h.fD.cG hc (hm h.fD.isMap),h.lC.cG hc (hm h.lC.isMap),h.ig.cG hc (hm h.ig.isMap),h.lB.cG hc (hm h.lB.isMap),
  h.ops.aW (hc.block ga (aB h5) (by simp only[List.mem_singleton];exact bT h5 h.b (by decide))),h.small,h.mL⟩
theorem Gr.Vr {r:Int} (h:Gr w gr bk al df nm ob cm om Pp pc ga n c T tc s l ret):Gr (w.setCell ⟨bk,3,none⟩ (G r)) gr bk al df nm ob cm om Pp pc ga n c T tc s l r:=by
 have hc:aY [bk] w (w.setCell ⟨bk,3,none⟩ (G r)):=aY.setCell _ (by simp) _
 obtain⟨h1,h2,h3,cs5,h5,h6⟩:=h.ops
 have hm:∀{k},(∃es cl,w.heap[k]?=some (.map es cl))→k∉[bk]:=fun hk=>by simp only[List.mem_singleton];exact(bm h.b hk).symm
 exact⟨hc.obj h.g (by simp only[List.mem_singleton];exact bT h.g h.b (by decide)),by rw[aD h.b];rfl,h.iv.cG hc (hm h.iv.isMap),h.iO.cG hc (hm h.iO.isMap),h.fD.cG hc (hm h.fD.isMap),h.lC.cG hc (hm h.lC.isMap),h.ig.cG hc (hm h.ig.isMap),h.lB.cG hc (hm h.lB.isMap),
  h.ops.aW (hc.block ga (aB h5) (by simp only[List.mem_singleton];exact bT h5 h.b (by decide))),h.small,h.mL⟩
variable {l':List aE}
theorem Gr.Mk {eK n' c':Nat} (h:Gr w gr bk al df nm ob cm om Pp pc ga n c T tc s l ret) (ho:dU w eK n' c' l') (hn:n'≤12):Gr (w.setCell ⟨bk,1,none⟩ (.slice (ad eK) n' c')) gr bk al df nm ob cm om Pp pc eK n' c' T tc s l' ret:=by
 have hc:aY [bk] w (w.setCell ⟨bk,1,none⟩ (.slice (ad eK) n' c')):=aY.setCell _ (by simp) _
 obtain⟨h1,h2,h3,cs5,h5,h6⟩:=ho
 have hm:∀{k},(∃es cl,w.heap[k]?=some (.map es cl))→k∉[bk]:=fun hk=>by simp only[List.mem_singleton];exact(bm h.b hk).symm
 exact⟨hc.obj h.g (by simp only[List.mem_singleton];exact bT h.g h.b (by decide)),by rw[aD h.b];rfl,h.iv.cG hc (hm h.iv.isMap),h.iO.cG hc (hm h.iO.isMap),h.fD.cG hc (hm h.fD.isMap),h.lC.cG hc (hm h.lC.isMap),h.ig.cG hc (hm h.ig.isMap),h.lB.cG hc (hm h.lB.isMap),
  dU.aW ⟨h1,h2,h3,cs5,h5,h6⟩ (hc.block eK (aB h5) (by simp only[List.mem_singleton];exact bT h5 h.b (by decide))),hn,h.mL⟩
end
theorem yZ {w:World} {n c q:Nat} {l:List aE} (h:dU w g n c l) (hq:q<n) (o:aE):
 ∀w',w'=(((((w.setCell ⟨g,q*6,none⟩ (G o.code)).setCell ⟨g,q*6+1,none⟩ (G o.res)).setCell ⟨g,q*6+2,none⟩ (G o.a)).setCell ⟨g,q*6+3,none⟩ (G o.b)).setCell ⟨g,q*6+4,none⟩ (.int .u16 o.n)).setCell ⟨g,q*6+5,none⟩ Zs→
  dU w' g n c (l.set q o)∧aY [g] w w'∧w'.heap.size=w.heap.size:=by
 rintro w' rfl
 obtain⟨h1,h2,h3,cs,h4,h5⟩:=h
 refine⟨⟨by rw[List.length_set];exact h1,h2,h3,_,aD (aD (aD (aD (aD (aD h4))))),fun j o' hj=>?_⟩,?_,by simp only[cW]⟩
 ·have hl:q<l.length:=by omega
  obtain⟨p0,p1,p2,p3,p4,p5⟩:=h5 q l[q] (List.getElem?_eq_getElem hl)
  have cC:q*6+5<cs.size:=(Array.getElem?_eq_some_iff.1 p5).1
  simp only[Array.getElem?_setIfInBounds,Array.size_setIfInBounds]
  rw[List.getElem?_set]at hj
  by_cases hqj:q=j
  ·subst hqj
   rw[if_pos rfl,if_pos hl]at hj
   cases hj
   refine⟨?_,?_,?_,?_,?_,?_⟩
   all_goals
    repeat rw[if_neg (by omega)]
    rw[if_pos rfl,if_pos (by omega)]
  ·rw[if_neg hqj]at hj
   obtain⟨a0,a1,a2,a3,a4,a5⟩:=h5 j o' hj
   refine⟨?_,?_,?_,?_,?_,?_⟩
   all_goals
    repeat rw[if_neg (by omega)]
    assumption
 ·have hm:g∈[g]:=List.mem_singleton.2 rfl
  exact(((((aY.setCell w hm _).trans (aY.setCell _ hm _)).trans (aY.setCell _ hm _)).trans (aY.setCell _ hm _)).trans (aY.setCell _ hm _)).trans (aY.setCell _ hm _)
variable {l':List aE}
theorem Gr.ES {w w':World} {gr bk al df nm ob cm om:Nat} {Pp:Option Addr} {pc ga n c:Nat} {T:Option Addr} {tc:Nat} {s:St} {l:List aE} {ret:Int} (h:Gr w gr bk al df nm ob cm om Pp pc ga n c T tc s l ret) (hc:aY [ga] w w') (ho:dU w' ga n c l'):Gr w' gr bk al df nm ob cm om Pp pc ga n c T tc s l' ret:=by
 obtain⟨h1,h2,h3,cs5,h5,h6⟩:=h.ops
 have hm:∀{k},(∃es cl,w.heap[k]?=some (.map es cl))→k∉[ga]:=fun hk=>by simp only[List.mem_singleton];exact(bm h5 hk).symm
 exact⟨hc.obj h.g (by simp only[List.mem_singleton];exact bT h.g h5 (by decide)),hc.obj h.b (by simp only[List.mem_singleton];exact bT h.b h5 (by decide)),h.iv.cG hc (hm h.iv.isMap),h.iO.cG hc (hm h.iO.isMap),h.fD.cG hc (hm h.fD.isMap),h.lC.cG hc (hm h.lC.isMap),h.ig.cG hc (hm h.ig.isMap),h.lB.cG hc (hm h.lB.isMap),ho,h.small,h.mL⟩
theorem OY:∀(args:Array Value) (w:World),(callFunc 90 args).run Tryz.prog w=.ok (.enter 90 args) w:=dM Tryz.func90 (by kernel_rfl) rfl
end
section
set_option maxRecDepth 100000
set_option maxHeartbeats 8000000
variable {α:Type} {q:Nat}
theorem VP (f:α→α) {l:List α} {o:α} (h:l[q]?=some o):((l.take q).map f++l.drop q)[q]?=some o:=by
 have hq:=(List.getElem?_eq_some_iff.1 h).1
 rw[List.getElem?_append_right (by rw[List.length_map,List.length_take];omega),List.length_map,List.length_take,List.getElem?_drop]
 have:q+(q-min q l.length)=q:=by omega
 rw[this];exact h
theorem MY (f:α→α) {l:List α} {o:α} (h:l[q]?=some o):((l.take q).map f++l.drop q).set q (f o)=(l.take (q+1)).map f++l.drop (q+1):=by
 have hq:=(List.getElem?_eq_some_iff.1 h).1
 have ho:=(List.getElem?_eq_some_iff.1 h).2
 have e1:l.drop q=o::l.drop (q+1):=by rw[List.drop_eq_getElem_cons hq,ho]
 have e2:l.take (q+1)=l.take q++[o]:=by rw[List.take_succ_eq_append_getElem hq,ho]
 rw[e1,e2,List.map_append,List.set_append_right _ _ (by rw[List.length_map,List.length_take];omega),List.length_map,List.length_take]
 have:q-min q l.length=0:=by omega
 rw[this,List.set_cons_zero,List.append_assoc]
 rfl
theorem RK (f:α→α) (l:List α) {n:Nat} (h:l.length≤n):(l.take n).map f++l.drop n=l.map f:=by
 rw[List.take_of_length_le h,List.drop_eq_nil_of_le h,List.append_nil]
theorem vi (wd:World) (gr al:Nat) (l:List (Int×Int)) (v:Int) (I:World→Prop) (hI:∀w1,I w1→w1.cell? ⟨gr,2,none⟩=some (.map (some al))∧aQ .i64 w1 al (cc cA l)) (hf:Flat l) (S:Nat):DO S I I 90 #[.pointer (ad gr)] #[] v (oM l v):=fun w1 h1 _=>by
 obtain⟨hc,hm⟩:=hI w1 h1
 refine(Dd w1 gr al l v hc hm hf).mono ?_
 rintro e w2 ⟨rfl,rfl⟩
 exact⟨rfl,h1,Nat.le_refl _,fun _ _ _=>rfl⟩
theorem sE (w:World) (gr al:Nat) (s:St) (o:aE) (hc:w.cell? ⟨gr,2,none⟩=some (.map (some al))) (hm:aQ .i64 w al (cc cA s.al)) (hf:Flat s.al) (ho:aS o.code):
 Calls Tryz.prog 85 #[OV o,.func (.func 90) #[.pointer (ad gr)] #[]] w (fun e w'=>∃v,e=.returned v∧(v=(bO s o).val∧ak w.heap.size w w')):=by
 have hI:∀w1,ak w.heap.size w w1→w1.cell? ⟨gr,2,none⟩=some (.map (some al))∧aQ .i64 w1 al (cc cA s.al):=fun w1 h1=>⟨(World.cell?_of_block (h1.block gr (bq hc))).trans hc,hm.low h1⟩
 refine(zO (fun _ wx=>ak w.heap.size w wx) w o 90 #[.pointer (ad gr)] #[] (oM s.al o.a) (oM s.al o.b) (fun _=>(Inv.low _ _ (Nat.le_refl _)).two) (ak.refl _ _) ho OY (fun _=>vi w gr al s.al _ _ hI hf _) (fun _=>vi w gr al s.al _ _ hI hf _)).mono ?_
 rintro e w' ⟨rfl,hl⟩
 exact⟨_,rfl,rfl,hl⟩
theorem mW (w:World) (gr bk al df nm ob cm om:Nat) (Pp:Option Addr) (pc ga n c:Nat) (T:Option Addr) (tc:Nat) (s:St) (l:List aE) (ret:Int) (h:Gr w gr bk al df nm ob cm om Pp pc ga n c T tc s l ret) (bB:jy l) (hf:Flat s.al) (hr:0≤ret):
 Calls Tryz.prog 87 #[.pointer (ad gr)] w (fun e w'=>e=.returned (.tuple #[])∧aY [bk,ga] w w'∧∃T' oU,Gr w' gr bk al df nm ob cm om Pp pc ga n c T' oU s (l.map (bO s)) (bu s ret)):=by
 have qE:∀(fn:Fn) (first cap:Array Value) (w:World),(Instr.makeFunc fn first cap).run Tryz.prog w=.ok (.func fn first cap) w:=fun _ _ _ _=>rfl
 have NI:∀u:World,(Instr.makeSlice 134 (G 0) (G 0)).run Tryz.prog u=.ok (.slice (ad (u.heap.size)) 0 0) (u.alloc (.cells #[] 142)):=fun u=>by kernel_rfl
 have tw:=ez w gr bk tc T (Yc h.g) (Yc h.b)
 have H:=cf h
 have po:n≤12:=h.small
 have dA:=cf bB;have HF:=cf hf
 clear h bB hf
 go_enter Tryz.func87,Tryz.ntmps87
 go_wp2_with(first
  |(go_at_call 88;refine tw.mono ?_;rintro e w1 ⟨l1,r,cr,rfl,x1,sR⟩;have G1:=cf (H.out.low l1);have X1:=cf x1;have L1:=cf l1;clear l1 x1))
 go_loopw[14] (fun i wr=>(i=G 0∧wr=w1)∨(i=G 1∧aY [bk,ga] w wr∧∃T' oU,Gr wr gr bk al df nm ob cm om Pp pc ga n c T' oU s (l.map (bO s)) (bu s ret))) (fun i _=>1-(intOf i).toNat)
 case atStart=>exact .inl ⟨rfl,rfl⟩
 case round=>
  rcases hrel with⟨rfl,rfl⟩|⟨rfl,WN,T',oU,hG⟩
  ·have x1:=X1.out
   have b1:=jw G1.out.b
   have hng:n≤12:=po
   go_wp2_with fail
   obtain⟨w1,rfl⟩:∃u,u=wr:=⟨_,rfl⟩
   go_loopw[23] (fun i wx=>∃q:Nat,i=G q∧q≤n∧aY [ga] w1 wx∧Gr wx gr bk al df nm ob cm om Pp pc ga n c T tc s ((l.take q).map (bO s)++l.drop q) ret) (fun i _=>n-(intOf i).toNat)
   case atStart=>exact⟨0,rfl,by omega,aY.refl _ _,by simpa using G1.out⟩
   case round=>
    obtain⟨wv,rfl⟩:∃u,u=wr:=⟨_,rfl⟩
    obtain⟨q,rfl,hq,hL,gv⟩:=hrel
    have y1:=jw gv.b
    by_cases bw:q<n
    ·have bN:(q:Int)<(n:Int):=by omega
     have nu:(0:Int)≤(q:Int):=by omega
     have mI:(q:Int)≤12:=by omega
     obtain⟨o,ho⟩:∃o,l[q]?=some o:=⟨_,List.getElem?_eq_getElem (by have:=H.out.ops.1;omega)⟩
     obtain⟨Ft,yq,Sm,cs,hg,eR⟩:=gv.ops
     obtain⟨k0,k1,k2,k3,k4,k5⟩:=eR q o (VP _ ho)
     have c0:=iw hg k0 k1 k2 k3 k4 k5
     have NL:=sE wv.drew gr al s o (Yc gv.g) gv.iv HF.out (dA.out o (List.mem_of_getElem? ho))
     have GV:=cf gv;have HL:=cf hL;have HG:=cf hg;have K0:=cf k0;have K1:=cf k1;have K2:=cf k2;have K3:=cf k3;have K4:=cf k4;have K5:=cf k5;have HO:=cf ho
     clear gv hL hg eR k0 k1 k2 k3 k4 k5 ho b1 x1
     obtain⟨o',cP⟩:∃o',o'=bO s o:=⟨_,rfl⟩
     rw[←cP]at NL
     unfold aE.val at NL
     have HO':=cf cP
     clear cP
     go_upto_region 7 with fail
     go_region_law(first
      |(refine aR rfl 85 #[OV o,.func (.func 90) #[.pointer (ad gr)] #[]] (by go_simp) _ NL ?_;rintro v w6 ⟨rfl,l6⟩;have g6:=l6.obj (aB HG.out) HG.out;have y6:w6.cell? ⟨bk,1,none⟩=some (.slice (ad ga) n c):=Yc (l6.obj (aB GV.out.b) GV.out.b);have d0:w6.cell? ⟨ga,q*6,none⟩=some (G o.code):=(Yc g6).trans K0.out;have d1:w6.cell? ⟨ga,q*6+1,none⟩=some (G o.res):=(Yc g6).trans K1.out;have d2:w6.cell? ⟨ga,q*6+2,none⟩=some (G o.a):=(Yc g6).trans K2.out;have d3:w6.cell? ⟨ga,q*6+3,none⟩=some (G o.b):=(Yc g6).trans K3.out;have d4:w6.cell? ⟨ga,q*6+4,none⟩=some (.int .u16 o.n):=(Yc g6).trans K4.out;have d5:w6.cell? ⟨ga,q*6+5,none⟩=some Zs:=(Yc g6).trans K5.out;have f0:w6.frozen? ⟨ga,q*6,none⟩=false:=au g6;have f1:w6.frozen? ⟨ga,q*6+1,none⟩=false:=au g6;have f2:w6.frozen? ⟨ga,q*6+2,none⟩=false:=au g6;have f3:w6.frozen? ⟨ga,q*6+3,none⟩=false:=au g6;have f4:w6.frozen? ⟨ga,q*6+4,none⟩=false:=au g6;have f5:w6.frozen? ⟨ga,q*6+5,none⟩=false:=au g6;have hG6:=GV.out.low ((ak.refl wv.heap.size wv).drew.trans l6);have Sf:=yZ hG6.ops bw o' _ rfl;have jz:=cf (And.intro ((HL.out.tail ((((ak.refl wv.heap.size wv).drew).trans l6).mono HL.out.size)).trans Sf.2.1) (hG6.ES Sf.2.1 Sf.1));clear g6 l6 hG6 Sf))
     all_goals(try go_wp2_with fail)
     all_goals exact⟨⟨q+1,rfl,bw,jz.out.1,by rw[←MY _ HO.out,←HO'.out];exact jz.out.2⟩,by show n-((q:Int)+1).toNat<n-((q:Int)).toNat;omega⟩
    ·have bN:¬(q:Int)<(n:Int):=by omega
     have Qn:=gf wv bk ret hr (Yc gv.b) (Yc gv.b)
     rw[RK _ _ (by have:=H.out.ops.1;omega)]at gv
     have GV:=cf gv;have HL:=cf hL
     clear gv hL b1 x1 y1
     go_upto_region 10 with(first
      |(go_at_call 97;refine Qn.mono ?_;rintro e w6 ⟨rfl,l6⟩;have g6:=GV.out.low l6;have y3:w6.cell? ⟨bk,3,none⟩=some (G ret):=Yc g6.b;have G6:=cf g6;have L6:=cf l6;clear g6 l6))
     have Ld:=Dd w6 gr al s.al ret (Yc G6.out.g) G6.out.iv HF.out
     have f3:w6.frozen? ⟨bk,3,none⟩=false:=au G6.out.b
     go_upto_region 11 with(first
      |(go_at_call 90;(with_reducible refine Ld.mono ?_);rintro e w7 ⟨rfl,he7⟩;rw[he7];clear he7 w7))
     have g7:=G6.out.Vr (r:=oM s.al ret)
     have c7:aY [bk] w6 (w6.setCell ⟨bk,3,none⟩ (G (oM s.al ret))):=aY.setCell _ (by simp) _
     clear Ld f3 y3
     generalize w6.setCell ⟨bk,3,none⟩ (G (oM s.al ret))=w7 at g7 c7⊢
     have l8:ak w7.heap.size w7 (w7.alloc (.cells #[] 142)):=F0
     have g8:=g7.low l8
     have y7:=vE g7.b
     have y8:=vE g8.b
     have f8:(w7.alloc (.cells #[] 142)).frozen? ⟨bk,4,none⟩=false:=au g8.b
     have aH:Hid (aY [bk,ga] w ((w7.alloc (.cells #[] 142)).setCell ⟨bk,4,none⟩ (.slice (ad (w7.heap.size)) 0 0))∧Gr ((w7.alloc (.cells #[] 142)).setCell ⟨bk,4,none⟩ (.slice (ad (w7.heap.size)) 0 0)) gr bk al df nm ob cm om Pp pc ga n c (ad (w7.heap.size)) 0 s (l.map (bO s)) (bu s ret)):=
      ⟨(((((aY.bD L1.out).trans (HL.out.more (by simp))).trans (aY.bD L6.out)).trans (c7.more (by simp))).trans (aY.bD l8)).trans (aY.setCell _ (by simp) _),g8.ad7⟩
     clear g7 g8 c7 l8
     go_wp2_with fail
     obtain⟨w8,hw8⟩:∃w8,w7.alloc (.cells #[] 142)=w8:=⟨_,rfl⟩
     rw[hw8]at y8 f8 aH⊢
     clear hw8 y7
     go_loopw[64] (fun i wx=>i=G 0∧wx=w8) (fun _ _=>0)
     case atStart=>exact⟨rfl,rfl⟩
     case round=>
      obtain⟨rfl,rfl⟩:=hrel
      go_wp2_with fail
      exact⟨.inr ⟨rfl,aH.out.1,_,_,aH.out.2⟩,by decide⟩
  ·go_wp2_with fail
   go_end0
   exact⟨rfl,WN,T',oU,hG⟩
end
section
set_option maxRecDepth 100000
set_option maxHeartbeats 1000000
theorem eh (n:Int):IntKind.u16.wrap n=n%65536:=IntKind.wrap_u16 n
variable {a:Int}
theorem pL (h:W a):IntKind.i16.wrap a=pX a:=by
 unfold W at h
 simp only[IntKind.wrap,IntKind.bits,IntKind.signed,pX]
 simp
 omega
theorem pt (r:BitVec 16):IntKind.u16.wrap (r.toNat:Int)=(r.toNat:Int):=by
 rw[eh]
 have:=r.isLt
 omega
theorem vC (a b:Int):bits BinOp.and IntKind.u16 a b=arith 9 a b:=pt _
theorem Iw (a b:Int):bits BinOp.or IntKind.u16 a b=arith 10 a b:=pt _
theorem vA (a b:Int):bits BinOp.xor IntKind.u16 a b=arith 11 a b:=pt _
theorem Pu (h:W a):bits BinOp.xor IntKind.u16 IntKind.u16.max a=65535-a:=by
 have e:IntKind.u16.max=65535:=by decide
 rw[e,vA,pw (by unfold Comm;omega),tJ h]
 rfl
theorem Mi (a b:Int) (h0:0≤b) (h:b<16):IntKind.u16.wrap (a*2^b.toNat)=arith 12 a b:=by
 rw[eh,AO,show b%16=b by omega]
theorem Mh (a b:Int) (h0:0≤b) (h:b<16):a/2^b.toNat=arith 13 a b:=by
 rw[AN,show b%16=b by omega]
theorem Mm {b:Int} (ha:W a) (h0:0≤b) (h:b<16):IntKind.u16.wrap (IntKind.i16.wrap a/2^b.toNat)=arith 14 a b:=by
 rw[eh,pL ha,AK,show b%16=b by omega]
theorem ru (w:World) (b:Bool):Calls Tryz.prog 204 #[.bool b] w (fun e w'=>e=.returned (.int .u16 (if b then 1 else 0))∧w'=w):=by
 cases b
 all_goals
  go_enter Tryz.func204,Tryz.ntmps204
  go_wp2_with fail
  go_ret
  exact⟨rfl,rfl⟩
def Gz (k:FuncId) (f:Int→Int→Int) (ok:Int→Int→Prop):Prop:=∀(w:World) (p q:Nat) (a b:Int),W a→W b→ok a b→w.cell? ⟨p,0,none⟩=some (.int .u16 a)→w.cell? ⟨q,0,none⟩=some (.int .u16 b)→
 Calls Tryz.prog k #[.pointer (ad p),.pointer (ad q)] w (fun e w'=>e=.returned (.int .u16 (f a b))∧ak w.heap.size w w')
theorem Xz:Gz 193 (arith 5) (fun _ _=>True):=by
 intro w p q a b ha hb bB hp hq
 go_enter Tryz.func193,Tryz.ntmps193
 go_wp2_with fail
 go_ret
 exact⟨by rw[vJ,←eh];rfl,ak.refl _ _⟩
theorem Xy:Gz 194 (arith 6) (fun _ _=>True):=by
 intro w p q a b ha hb bB hp hq
 go_enter Tryz.func194,Tryz.ntmps194
 go_wp2_with fail
 go_ret
 exact⟨by rw[Gn,←eh];rfl,ak.refl _ _⟩
theorem Xx:Gz 195 (arith 7) (fun _ _=>True):=by
 intro w p q a b ha hb bB hp hq
 go_enter Tryz.func195,Tryz.ntmps195
 go_wp2_with fail
 go_ret
 exact⟨by rw[vI,←eh];rfl,ak.refl _ _⟩
theorem Xw:Gz 196 (arith 9) (fun _ _=>True):=by
 intro w p q a b ha hb bB hp hq
 go_enter Tryz.func196,Tryz.ntmps196
 go_wp2_with fail
 go_ret
 exact⟨by rw[←vC];rfl,ak.refl _ _⟩
theorem Xv:Gz 197 (arith 10) (fun _ _=>True):=by
 intro w p q a b ha hb bB hp hq
 go_enter Tryz.func197,Tryz.ntmps197
 go_wp2_with fail
 go_ret
 exact⟨by rw[←Iw];rfl,ak.refl _ _⟩
theorem Xu:Gz 198 (arith 11) (fun _ _=>True):=by
 intro w p q a b ha hb bB hp hq
 go_enter Tryz.func198,Tryz.ntmps198
 go_wp2_with fail
 go_ret
 exact⟨by rw[←vA];rfl,ak.refl _ _⟩
theorem Xn:Gz 233 (arith 12) (fun _ b=>0≤b∧b<16):=by
 intro w p q a b ha hb bB hp hq
 go_enter Tryz.func233,Tryz.ntmps233
 go_wp2_with fail
 go_ret
 exact⟨by rw[←Mi a b bB.1 bB.2];rfl,ak.refl _ _⟩
theorem Xm:Gz 234 (arith 13) (fun _ b=>0≤b∧b<16):=by
 intro w p q a b ha hb bB hp hq
 go_enter Tryz.func234,Tryz.ntmps234
 go_wp2_with fail
 go_ret
 exact⟨by rw[←Mh a b bB.1 bB.2];rfl,ak.refl _ _⟩
theorem Xl:Gz 235 (arith 14) (fun _ b=>0≤b∧b<16):=by
 intro w p q a b ha hb bB hp hq
 go_enter Tryz.func235,Tryz.ntmps235
 go_wp2_with fail
 go_ret
 exact⟨by rw[←Mm ha bB.1 bB.2];rfl,ak.refl _ _⟩
theorem Xq:Gz 203 (arith 15) (fun _ _=>True):=by
 intro w p q a b ha hb bB hp hq
 have hf:(if a=b then(1:Int)else 0)=arith 15 a b:=rfl
 go_enter Tryz.func203,Tryz.ntmps203
 go_wp2_with(first
  |(go_at_call 204;(with_reducible refine(ru _ _).mono ?_);rintro e w3 ⟨rfl,fE⟩;rw[fE];clear fE w3))
 go_ret
 exact⟨by rw[←hf];simp,ak.refl _ _⟩
theorem Xp:Gz 205 (arith 16) (fun _ _=>True):=by
 intro w p q a b ha hb bB hp hq
 have hf:(if a<b then(1:Int)else 0)=arith 16 a b:=rfl
 go_enter Tryz.func205,Tryz.ntmps205
 go_wp2_with(first
  |(go_at_call 204;(with_reducible refine(ru _ _).mono ?_);rintro e w3 ⟨rfl,fE⟩;rw[fE];clear fE w3))
 go_ret
 exact⟨by rw[←hf];simp,ak.refl _ _⟩
theorem Xo:Gz 206 (arith 17) (fun _ _=>True):=by
 intro w p q a b ha hb bB hp hq
 have hf:(if pX a<pX b then(1:Int)else 0)=arith 17 a b:=rfl
 go_enter Tryz.func206,Tryz.ntmps206
 go_wp2_with(first
  |(go_at_call 204;(with_reducible refine(ru _ _).mono ?_);rintro e w3 ⟨rfl,fE⟩;rw[fE];clear fE w3))
 ·rw[pL ha,pL hb]at h
  go_ret
  exact⟨by rw[←hf,if_pos h];rfl,ak.refl _ _⟩
 ·rw[pL ha,pL hb]at h
  go_ret
  exact⟨by rw[←hf,if_neg (by omega)];rfl,ak.refl _ _⟩
theorem XB (w:World) (p:Nat) (a:Int) (ha:W a) (hp:w.cell? ⟨p,0,none⟩=some (.int .u16 a)):Calls Tryz.prog 191 #[.pointer (ad p)] w (fun e w'=>e=.returned (.int .u16 (fj 3 a 0))∧ak w.heap.size w w'):=by
 go_enter Tryz.func191,Tryz.ntmps191
 go_wp2_with fail
 all_goals(try(exact absurd ‹IntKind.u16.signed=true› (by decide)))
 go_ret
 exact⟨by rw[show fj 3 a 0=(-a)%65536 from rfl,←eh];rfl,ak.refl _ _⟩
theorem XA (w:World) (p:Nat) (a:Int) (ha:W a) (hp:w.cell? ⟨p,0,none⟩=some (.int .u16 a)):Calls Tryz.prog 192 #[.pointer (ad p)] w (fun e w'=>e=.returned (.int .u16 (fj 4 a 0))∧ak w.heap.size w w'):=by
 go_enter Tryz.func192,Tryz.ntmps192
 go_wp2_with fail
 all_goals(try(exact absurd ‹IntKind.u16.signed=true› (by decide)))
 go_ret
 exact⟨by rw[show fj 4 a 0=65535-a from rfl,←Pu ha];rfl,ak.refl _ _⟩
end
end Go.Proofs.YtjkahfmdcpfjjaaGreat
