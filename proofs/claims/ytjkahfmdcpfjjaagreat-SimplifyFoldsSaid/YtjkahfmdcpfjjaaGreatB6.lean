/- The rules: single, left. -/
import Derived.Test.YtjkahfmdcpfjjaaGreatB3
import Derived.Test.YtjkahfmdcpfjjaaGreatE5
set_option linter.unusedVariables false
namespace Go.Proofs.YtjkahfmdcpfjjaaGreat
open Go.RowKit
section
set_option maxHeartbeats 4000000
set_option maxRecDepth 100000
theorem Db:Tryz.prog.follows .mixedOrders=true:=by kernel_rfl
def isB (b:Bool) (v:Go.Il.AV) (_:Go.Il.St):Bool:=match v with| .bool b'=>b==b'|_=>false
theorem Dn {f:FuncId} {args:List Go.Il.AV} {args':Array Value} {b:Bool} (ha:∀ρ,@Go.Il.aP ⟨fun _=>0⟩ ρ args args'.toList) (h:Go.Il.gn Tryz.prog 100000 f ⟨.lf,0⟩ args (isB b)=true) (w:World):
 Calls Tryz.prog f args' w (fun e w'=>e=.returned (.bool b)∧ak w.heap.size w w'):=by
 letI:Go.Il.Sym:=⟨fun _=>0⟩
 have hs:Go.Il.aV (fun b=>b<w.heap.size) (fun _ _=>none) ⟨.lf,0⟩ w:=⟨fun _ _ _ h=>by(cases h),fun _ _ _ _ _ _ h=>by(cases h),fun _ h=>h⟩
 refine(Go.Il.sx Db hs (ha _) h).mono ?_
 rintro e w' ⟨v,bt,ρ',v',rfl,h1,h2,h3,h4⟩
 refine⟨?_,h4.os,h4.out,h4.size,fun g hg=>h4.low g hg⟩
 unfold isB at h1
 cases h2<;>first|(cases h1;done)|skip
 rename_i b'
 have:b=b':=by simpa using h1
 rw[this]
theorem mh (w:World) (c:Int) (h:aS c):Calls Tryz.prog 110 #[.int .i64 c] w (fun e w'=>e=.returned (.bool (decide (Comm c)))∧ak w.heap.size w w'):=by
 have key:∀c:Int,Go.Il.gn Tryz.prog 100000 110 ⟨.lf,0⟩ [.int .i64 c] (isB (decide (Comm c)))=true→Calls Tryz.prog 110 #[.int .i64 c] w (fun e w'=>e=.returned (.bool (decide (Comm c)))∧ak w.heap.size w w'):=fun c h=>
  Dn (fun ρ=>by letI:Go.Il.Sym:=⟨fun _=>0⟩;exact .cons _ _ _ _ (.int _ _) .nil) h w
 simp only[aS,List.mem_cons,List.not_mem_nil,or_false]at h
 rcases h with rfl|rfl|rfl|rfl|rfl|rfl|rfl|rfl|rfl|rfl|rfl|rfl|rfl|rfl|rfl|rfl|rfl
 all_goals exact key _ (by decide+kernel)
end
section
set_option maxRecDepth 100000
set_option maxHeartbeats 8000000
def af0 (s:St) (r:RR) (o':aE) (v:Int) (s':St):Prop:=
 match r with
 | .aW o=>o'=o∧v= -1∧s'=s
 | .val u=>v=u∧s'=s
 | .nF n=>v=(aK s n).1∧s'=(aK s n).2
 | .Bb o n=>o'={o with b:=(aK s n).1}∧v= -1∧s'=(aK s n).2
def bP (w:World) (gr bk al df nm ob cm om:Nat) (s:St) (r:RR) (e:Ending) (w':World):Prop:=∃o' v s',e=.returned (.tuple #[.agg #[G o'.code,G o'.res,G o'.a,G o'.b,.int .u16 o'.n,Zs],G v])∧af0 s r o' v s'∧aY [gr,nm,cm] w w'∧Gc w' gr bk al df nm ob cm om s'
theorem zR (w:World) (o o':Obj):ak w.heap.size w ((w.alloc o).alloc o'):=(F0).alloc (by simp) _
variable {w wx wy:World} {S al bk cm df gr nm ob om:Nat}
theorem Hi (h:Empty w ob) (v:Value):(Instr.lookup 127 (.map (some ob)) v true).run Tryz.prog w=.ok (.tuple #[.agg #[G 0,.int .u16 0],.bool false]) w:=
 lX (P:=Tryz.prog) (t:=127) Tryz.underlying127 EP h (z:=.agg #[G 0,.int .u16 0]) (by kernel_rfl) true v
theorem qt {l:List (Int×aE)} (h:aQ .i64 w df (cc aE.val l)) (h0:∀p∈l,0<p.1):(Instr.lookup 125 (.map (some df)) (G 0) true).run Tryz.prog w=.ok (.tuple #[.agg #[G 0,G 0,G 0,G 0,.int .u16 0,Zs],.bool false]) w:=by
 have:=aM (P:=Tryz.prog) (t:=125) Tryz.underlying125 Tryz.underlying3 h (k:=0) (z:=.agg #[G 0,G 0,G 0,G 0,.int .u16 0,Zs]) (by kernel_rfl) true
 rw[ew,Kc (fun p hp=>by have:=h0 p hp;omega)]at this
 exact this
structure cw (w wx:World) (S gr bk al df nm ob cm om:Nat) (s:St) (o:aE):Prop where
 lo:aY [gr,nm,cm] w wx
 sz:w.heap.size=S
 b:wx.heap[S]?=some (OC o)
 r:wx.heap[S+1]?=some (.cells #[G 0,G 0,G 0,G 0,.int .u16 0,Zs] 67 (0,0))
 g:Gc wx gr bk al df nm ob cm om s
variable {s:St}
theorem cw.start (o:aE) (hS:w.heap.size=S) (h:Gc w gr bk al df nm ob cm om s):cw w ((w.alloc (OC o)).alloc (.cells #[G 0,G 0,G 0,G 0,.int .u16 0,Zs] 67)) S gr bk al df nm ob cm om s o:=by
 obtain⟨a1,s1,u1⟩:=av (OC o) hS
 obtain⟨a2,s2,u2⟩:=av (.cells #[G 0,G 0,G 0,G 0,.int .u16 0,Zs] 67) s1
 exact⟨aY.bD (zR _ _ _),hS,u2 _ _ a1,a2,h.low (zR _ _ _)⟩
variable {o:aE}
theorem cw.low (h:cw w wx S gr bk al df nm ob cm om s o) (hl:ak wx.heap.size wx wy):cw w wy S gr bk al df nm ob cm om s o:=
 ⟨h.lo.trans (aY.bD hl),h.sz,hl.some h.b,hl.some h.r,h.g.low hl⟩
theorem cw.call {s':St} (h:cw w wx S gr bk al df nm ob cm om s o) (hc:aY [gr,nm,cm] wx wy) (hg:Gc wy gr bk al df nm ob cm om s'):cw w wy S gr bk al df nm ob cm om s' o:=by
 have hn:∀{b cs},wx.heap[b]?=some (.cells cs 67 (0,0))→b∉[gr,nm,cm]:=fun hb=>by
  simp only[List.mem_cons,List.not_mem_nil,or_false,not_or]
  exact⟨bT hb h.g.g (by decide),bm hb h.g.fD.isMap,bm hb h.g.ig.isMap⟩
 exact⟨h.lo.trans hc,h.sz,hc.obj h.b (hn h.b),hc.obj h.r (hn h.r),hg⟩
theorem cw.fin (h:cw w wx S gr bk al df nm ob cm om s o) (o':aE):
 ∀w',w'=(((((wx.setCell ⟨S+1,0,none⟩ (G o'.code)).setCell ⟨S+1,1,none⟩ (G o'.res)).setCell ⟨S+1,2,none⟩ (G o'.a)).setCell ⟨S+1,3,none⟩ (G o'.b)).setCell ⟨S+1,4,none⟩ (.int .u16 o'.n)).setCell ⟨S+1,5,none⟩ Zs→
  w'.heap[S+1]?=some (.cells #[G o'.code,G o'.res,G o'.a,G o'.b,.int .u16 o'.n,Zs] 67 (0,0))∧aY [gr,nm,cm] w w'∧Gc w' gr bk al df nm ob cm om s∧w'.heap[S]?=some (OC o):=by
 intro w' KS
 obtain⟨hz,ho,hs,hI⟩:=pW (v0:=G o'.code) (v1:=G o'.res) (v2:=G o'.a) (v3:=G o'.b) (v4:=.int .u16 o'.n) (v5:=Zs) h.r w' KS
 have hc:aY [S+1] wx w':=by
  have D0:=hI (S+1) (fun x=>ak (S+1) wx x) (Inv.low _ _ (by have:=aB h.r;omega)) (Nat.le_refl _) (ak.refl _ _)
  exact⟨D0.os,D0.out,D0.size,fun g _ hg=>ho g (by simpa using hg)⟩
 have hL:aY [gr,nm,cm] w w':=h.lo.trans' hc (fun b hb=> .inr (by have:=h.sz;simp only[List.mem_singleton]at hb;omega))
 refine⟨hz,hL,?_,(ho S (by omega)).trans h.b⟩
 have hm:∀{k},(∃es cl,wx.heap[k]?=some (.map es cl))→k∉[S+1]:=fun hk=>by simp only[List.mem_singleton];exact(bm h.r hk).symm
 exact⟨hc.obj h.g.g (by simp only[List.mem_singleton];exact bT h.g.g h.r (by decide)),h.g.iv.cG hc (hm h.g.iv.isMap),h.g.iO.cG hc (hm h.g.iO.isMap),h.g.fD.cG hc (hm h.g.fD.isMap),h.g.lC.cG hc (hm h.g.lC.isMap),h.g.ig.cG hc (hm h.g.ig.isMap),h.g.lB.cG hc (hm h.g.lB.isMap),h.g.mL⟩
theorem Ja (w:World) (gr bk al df nm ob cm om:Nat) (s:St) (o:aE) (h:Gc w gr bk al df nm ob cm om s):Calls Tryz.prog 207 #[.pointer (ad gr),OV o,.int .u16 0] w (bP w gr bk al df nm ob cm om s (.val o.a)):=by
 obtain⟨S,hS⟩:∃S,w.heap.size=S:=⟨_,rfl⟩
 have aF:=cw.start o hS h
 clear h
 go_enter Tryz.func207,Tryz.ntmps207
 go_upto_region 2 with fail
 generalize(w.alloc (OC o)).alloc (.cells #[G 0,G 0,G 0,G 0,.int .u16 0,Zs] 67)=w2 at aF⊢
 refine wp_region_noPanic ?_
 refine wp_region_held_drew (S:=fun w'=>iF w' S o) (by kernel_rfl) ⟨Yc aF.b,Yc aF.b,Yc aF.b,Yc aF.b,Yc aF.b,Yc aF.b⟩ (fun af=>?_)
 have HB:=cf (aF.low ((ak.refl _ _).drew))
 clear aF
 generalize w2.drew=wd at af HB⊢
 have HF:=cf (HB.out.fin o _ rfl)
 have jq:iF ((((((wd.setCell ⟨S+1,0,none⟩ (G o.code)).setCell ⟨S+1,1,none⟩ (G o.res)).setCell ⟨S+1,2,none⟩ (G o.a)).setCell ⟨S+1,3,none⟩ (G o.b)).setCell ⟨S+1,4,none⟩ (.int .u16 o.n)).setCell ⟨S+1,5,none⟩ Zs) S o:=by have hb:=HF.out.2.2.2;exact⟨Yc hb,Yc hb,Yc hb,Yc hb,Yc hb,Yc hb⟩
 refine tk 0 af ?_
 refine tk 1 af ?_
 refine tk 2 af ?_
 have d0:=aC HB.out.r
 have f0:=bG HB.out.r
 refine aG 3 fun KK aI=>?_
 go_simp
 refine aI.out _ _ (by exact jq) (fun af=>?_)
 clear aI KK
 (try simp only[Act.put,bh])
 clear d0 f0
 refine tk 4 af ?_
 refine wpAnyH_done (by kernel_rfl) ?_ _
 refine NoPanic.normal ?_
 (try go_wp2_with fail)
 have aH:=HF.out
 generalize((((((wd.setCell ⟨S+1,0,none⟩ (G o.code)).setCell ⟨S+1,1,none⟩ (G o.res)).setCell ⟨S+1,2,none⟩ (G o.a)).setCell ⟨S+1,3,none⟩ (G o.b)).setCell ⟨S+1,4,none⟩ (.int .u16 o.n)).setCell ⟨S+1,5,none⟩ Zs)=wF at aH⊢
 obtain⟨fz,fL,fG,_⟩:=aH
 have e0:=aC fz
 refine bodyPost_ret (v:=.tuple #[OV o,G o.a]) (by simp[results,Tryz.results207,go_sem,e0];done) rfl ?_
 exact⟨o,o.a,s,rfl,⟨rfl,rfl⟩,fL,fG⟩
theorem EO (w:World) (gr bk al df nm ob cm om:Nat) (s:St) (o:aE) (b:Int) (h:Gc w gr bk al df nm ob cm om s) (h0:o.a=0) (vb:∀p∈s.df,0<p.1) (hb:b≠0):Calls Tryz.prog 207 #[.pointer (ad gr),OV o,.int .u16 b] w (bP w gr bk al df nm ob cm om s (.aW o)):=by
 obtain⟨S,hS⟩:∃S,w.heap.size=S:=⟨_,rfl⟩
 have aF:=cw.start o hS h
 have dS:(b==0)=false:=by simpa using hb
 have QM:=cf h0
 have Tk:=cf vb
 clear h h0 vb
 go_enter Tryz.func207,Tryz.ntmps207
 go_upto_region 3 with fail
 generalize(w.alloc (OC o)).alloc (.cells #[G 0,G 0,G 0,G 0,.int .u16 0,Zs] 67)=w2 at aF⊢
 have bF:=aF.low ((ak.refl _ _).drew)
 have rT:w2.drew.cell? ⟨gr,5,none⟩=some (.map (some ob))∧w2.drew.cell? ⟨S,2,none⟩=some (G 0)∧(Instr.lookup 127 (.map (some ob)) (G 0) true).run Tryz.prog w2.drew=.ok (.tuple #[.agg #[G 0,.int .u16 0],.bool false]) w2.drew:=⟨Yc bF.g.g,by have:=Yc (j:=2) bF.b;rw[this];simp[QM.out],Hi bF.g.lC _⟩
 refine wp_region_noPanic ?_
 refine wp_region_held_drew (S:=fun w'=>w'.cell? ⟨gr,5,none⟩=some (.map (some ob))∧w'.cell? ⟨S,2,none⟩=some (G 0)∧(Instr.lookup 127 (.map (some ob)) (G 0) true).run Tryz.prog w'=.ok (.tuple #[.agg #[G 0,.int .u16 0],.bool false]) w') (by kernel_rfl) (by exact rT) (fun af=>?_)
 have PR:=cf bF
 clear rT bF aF
 generalize w2.drew=X5 at af PR⊢
 obtain⟨X3,Yx⟩:∃X,X5.heap.size=X:=⟨_,rfl⟩
 obtain⟨aX,sX,uX⟩:=av (.cells #[G 0,.int .u16 0] 140) Yx
 have dS:=PR.out.low ((ak.refl _ _).alloc (Nat.le_refl _) (.cells #[G 0,.int .u16 0] 140))
 have Bm:(X5.alloc (.cells #[G 0,.int .u16 0] 140)).cell? ⟨gr,5,none⟩=some (.map (some ob))∧(X5.alloc (.cells #[G 0,.int .u16 0] 140)).cell? ⟨S,2,none⟩=some (G 0)∧(Instr.lookup 127 (.map (some ob)) (G 0) true).run Tryz.prog (X5.alloc (.cells #[G 0,.int .u16 0] 140))=.ok (.tuple #[.agg #[G 0,.int .u16 0],.bool false]) (X5.alloc (.cells #[G 0,.int .u16 0] 140)):=⟨Yc dS.g.g,by have:=Yc (j:=2) dS.b;rw[this];simp[QM.out],Hi dS.g.lC _⟩
 have ag9:=cf dS
 have HA3:=cf aX
 clear dS aX uX sX PR
 refine tk 0 af ?_
 refine tk 1 af ?_
 refine tk 2 af ?_
 refine tk 3 af ?_
 refine tk 4 af ?_
 refine tk 5 af ?_
 refine tk 6 af ?_
 refine tk 7 af ?_
 refine tk 8 af ?_
 refine tk 9 af ?_
 refine aG 10 fun KK aI=>?_
 go_simp
 refine aI.out _ _ (by exact Bm) (fun af=>?_)
 clear aI KK
 (try simp only[Act.put,bh])
 refine aG 11 fun KK aI=>?_
 go_simp
 refine aI.out _ _ (by exact Bm) (fun af=>?_)
 clear aI KK
 (try simp only[Act.put,bh])
 refine tk 12 af ?_
 clear Bm af
 refine wpAnyH_done (by kernel_rfl) ?_ _
 refine NoPanic.normal ?_
 have aF:=ag9.out
 have aX:=HA3.out
 clear ag9 HA3
 generalize(X5.alloc (.cells #[G 0,.int .u16 0] 140))=w3 at aF aX⊢
 clear Yx
 clear aX
 go_upto_region 6 with fail
 have bF:=aF.low ((ak.refl _ _).drew)
 have rT:w3.drew.cell? ⟨gr,3,none⟩=some (.map (some df))∧w3.drew.cell? ⟨S,2,none⟩=some (G 0)∧(Instr.lookup 125 (.map (some df)) (G 0) true).run Tryz.prog w3.drew=.ok (.tuple #[.agg #[G 0,G 0,G 0,G 0,.int .u16 0,Zs],.bool false]) w3.drew:=⟨Yc bF.g.g,by have:=Yc (j:=2) bF.b;rw[this];simp[QM.out],qt bF.g.iO Tk.out⟩
 refine wp_region_noPanic ?_
 refine wp_region_held_drew (S:=fun w'=>w'.cell? ⟨gr,3,none⟩=some (.map (some df))∧w'.cell? ⟨S,2,none⟩=some (G 0)∧(Instr.lookup 125 (.map (some df)) (G 0) true).run Tryz.prog w'=.ok (.tuple #[.agg #[G 0,G 0,G 0,G 0,.int .u16 0,Zs],.bool false]) w') (by kernel_rfl) (by exact rT) (fun af=>?_)
 have Lx:=cf bF
 clear rT bF aF
 generalize w3.drew=IB at af Lx⊢
 obtain⟨X6,D1⟩:∃X,IB.heap.size=X:=⟨_,rfl⟩
 obtain⟨aX,sX,uX⟩:=av (.cells #[G 0,G 0,G 0,G 0,.int .u16 0,Zs] 67) D1
 have dS:=Lx.out.low ((ak.refl _ _).alloc (Nat.le_refl _) (.cells #[G 0,G 0,G 0,G 0,.int .u16 0,Zs] 67))
 have Bm:(IB.alloc (.cells #[G 0,G 0,G 0,G 0,.int .u16 0,Zs] 67)).cell? ⟨gr,3,none⟩=some (.map (some df))∧(IB.alloc (.cells #[G 0,G 0,G 0,G 0,.int .u16 0,Zs] 67)).cell? ⟨S,2,none⟩=some (G 0)∧(Instr.lookup 125 (.map (some df)) (G 0) true).run Tryz.prog (IB.alloc (.cells #[G 0,G 0,G 0,G 0,.int .u16 0,Zs] 67))=.ok (.tuple #[.agg #[G 0,G 0,G 0,G 0,.int .u16 0,Zs],.bool false]) (IB.alloc (.cells #[G 0,G 0,G 0,G 0,.int .u16 0,Zs] 67)):=⟨Yc dS.g.g,by have:=Yc (j:=2) dS.b;rw[this];simp[QM.out],qt dS.g.iO Tk.out⟩
 have PS:=cf dS
 have QL:=cf aX
 clear dS aX uX sX Lx
 refine tk 0 af ?_
 refine tk 1 af ?_
 refine tk 2 af ?_
 refine tk 3 af ?_
 refine tk 4 af ?_
 refine tk 5 af ?_
 refine tk 6 af ?_
 refine tk 7 af ?_
 refine tk 8 af ?_
 refine tk 9 af ?_
 refine aG 10 fun KK aI=>?_
 go_simp
 refine aI.out _ _ (by exact Bm) (fun af=>?_)
 clear aI KK
 (try simp only[Act.put,bh])
 refine aG 11 fun KK aI=>?_
 go_simp
 refine aI.out _ _ (by exact Bm) (fun af=>?_)
 clear aI KK
 (try simp only[Act.put,bh])
 refine tk 12 af ?_
 clear Bm af
 refine wpAnyH_done (by kernel_rfl) ?_ _
 refine NoPanic.normal ?_
 have aF:=PS.out
 have aX:=QL.out
 clear PS QL
 generalize(IB.alloc (.cells #[G 0,G 0,G 0,G 0,.int .u16 0,Zs] 67))=w6 at aF aX⊢
 clear D1
 clear aX
 have c0:=aC aF.b
 have d0:=aC aF.r
 have f0:=bG aF.r
 have HB:=cf aF
 clear aF
 go_wp2_with fail
 clear c0 d0 f0
 have aH:=HB.out.fin o _ rfl
 generalize((((((w6.setCell ⟨S+1,0,none⟩ (G o.code)).setCell ⟨S+1,1,none⟩ (G o.res)).setCell ⟨S+1,2,none⟩ (G o.a)).setCell ⟨S+1,3,none⟩ (G o.b)).setCell ⟨S+1,4,none⟩ (.int .u16 o.n)).setCell ⟨S+1,5,none⟩ Zs)=wF at aH⊢
 obtain⟨fz,fL,fG,_⟩:=aH
 have e0:=aC fz
 refine bodyPost_ret (v:=.tuple #[OV o,G (-1)]) (by simp[results,Tryz.results207,go_sem,e0];done) rfl ?_
 exact⟨o,-1,s,rfl,⟨rfl,rfl,rfl⟩,fL,fG⟩
end
section
set_option maxRecDepth 100000
set_option maxHeartbeats 8000000
theorem Za {c m:Int} (n:Int) (h:c=m):(c==n)=(m==n):=by rw[h]
theorem tY (w:World) (gr bk al df nm ob cm om:Nat) (s:St) (o:aE) (h0:o.a=0) (vb:∀p∈s.df,0<p.1) (h:Gc w gr bk al df nm ob cm om s):Calls Tryz.prog 150 #[.pointer (ad gr),OV o] w (bP w gr bk al df nm ob cm om s (.aW o)):=by
 obtain⟨S,hS⟩:∃S,w.heap.size=S:=⟨_,rfl⟩
 have QM:=cf h0
 have Tk:=cf vb
 clear h0 vb
 have aF:=cw.start o hS h
 clear h
 go_enter Tryz.func150,Tryz.ntmps150
 go_upto_region 1 with fail
 generalize(w.alloc (OC o)).alloc (.cells #[G 0,G 0,G 0,G 0,.int .u16 0,Zs] 67)=w2 at aF⊢
 have bF:=aF.low ((ak.refl _ _).drew)
 have rT:w2.drew.cell? ⟨gr,3,none⟩=some (.map (some df))∧w2.drew.cell? ⟨S,2,none⟩=some (G 0)∧(Instr.lookup 125 (.map (some df)) (G 0) true).run Tryz.prog w2.drew=.ok (.tuple #[.agg #[G 0,G 0,G 0,G 0,.int .u16 0,Zs],.bool false]) w2.drew:=⟨Yc bF.g.g,by have:=Yc (j:=2) bF.b;rw[this];simp[QM.out],qt bF.g.iO Tk.out⟩
 refine wp_region_noPanic ?_
 refine wp_region_held_drew (S:=fun w'=>w'.cell? ⟨gr,3,none⟩=some (.map (some df))∧w'.cell? ⟨S,2,none⟩=some (G 0)∧(Instr.lookup 125 (.map (some df)) (G 0) true).run Tryz.prog w'=.ok (.tuple #[.agg #[G 0,G 0,G 0,G 0,.int .u16 0,Zs],.bool false]) w') (by kernel_rfl) (by exact rT) (fun af=>?_)
 have Lx:=cf bF
 clear rT bF aF
 generalize w2.drew=IB at af Lx⊢
 obtain⟨X6,D1⟩:∃X,IB.heap.size=X:=⟨_,rfl⟩
 obtain⟨aX,sX,uX⟩:=av (.cells #[G 0,G 0,G 0,G 0,.int .u16 0,Zs] 67) D1
 have dS:=Lx.out.low ((ak.refl _ _).alloc (Nat.le_refl _) (.cells #[G 0,G 0,G 0,G 0,.int .u16 0,Zs] 67))
 have Bm:(IB.alloc (.cells #[G 0,G 0,G 0,G 0,.int .u16 0,Zs] 67)).cell? ⟨gr,3,none⟩=some (.map (some df))∧(IB.alloc (.cells #[G 0,G 0,G 0,G 0,.int .u16 0,Zs] 67)).cell? ⟨S,2,none⟩=some (G 0)∧(Instr.lookup 125 (.map (some df)) (G 0) true).run Tryz.prog (IB.alloc (.cells #[G 0,G 0,G 0,G 0,.int .u16 0,Zs] 67))=.ok (.tuple #[.agg #[G 0,G 0,G 0,G 0,.int .u16 0,Zs],.bool false]) (IB.alloc (.cells #[G 0,G 0,G 0,G 0,.int .u16 0,Zs] 67)):=⟨Yc dS.g.g,by have:=Yc (j:=2) dS.b;rw[this];simp[QM.out],qt dS.g.iO Tk.out⟩
 have PS:=cf dS
 have QL:=cf aX
 clear dS aX uX sX Lx
 refine tk 0 af ?_
 refine tk 1 af ?_
 refine tk 2 af ?_
 refine tk 3 af ?_
 refine tk 4 af ?_
 refine tk 5 af ?_
 refine tk 6 af ?_
 refine tk 7 af ?_
 refine tk 8 af ?_
 refine tk 9 af ?_
 refine aG 10 fun KK aI=>?_
 go_simp
 refine aI.out _ _ (by exact Bm) (fun af=>?_)
 clear aI KK
 (try simp only[Act.put,bh])
 refine aG 11 fun KK aI=>?_
 go_simp
 refine aI.out _ _ (by exact Bm) (fun af=>?_)
 clear aI KK
 (try simp only[Act.put,bh])
 refine tk 12 af ?_
 clear Bm af
 refine wpAnyH_done (by kernel_rfl) ?_ _
 refine NoPanic.normal ?_
 have aF:=PS.out
 have aX:=QL.out
 clear PS QL
 generalize(IB.alloc (.cells #[G 0,G 0,G 0,G 0,.int .u16 0,Zs] 67))=w6 at aF aX⊢
 clear D1
 clear aX
 have c0:=aC aF.b
 have d0:=aC aF.r
 have f0:=bG aF.r
 have HB:=cf aF
 clear aF
 go_wp2_with fail
 clear c0 d0 f0
 have aH:=HB.out.fin o _ rfl
 generalize((((((w6.setCell ⟨S+1,0,none⟩ (G o.code)).setCell ⟨S+1,1,none⟩ (G o.res)).setCell ⟨S+1,2,none⟩ (G o.a)).setCell ⟨S+1,3,none⟩ (G o.b)).setCell ⟨S+1,4,none⟩ (.int .u16 o.n)).setCell ⟨S+1,5,none⟩ Zs)=wF at aH⊢
 obtain⟨fz,fL,fG,_⟩:=aH
 have e0:=aC fz
 refine bodyPost_ret (v:=.tuple #[OV o,G (-1)]) (by simp[results,Tryz.results150,go_sem,e0];done) rfl ?_
 exact⟨o,(-1),s,rfl,⟨rfl,rfl,rfl⟩,fL,fG⟩
theorem E9 (w:World) (gr bk al df nm ob cm om:Nat) (s:St) (o:aE) (a:Int) (ha:a≠0) (h:Gc w gr bk al df nm ob cm om s):Calls Tryz.prog 151 #[.pointer (ad gr),OV o,.int .u16 a] w (bP w gr bk al df nm ob cm om s (.aW o)):=by
 obtain⟨S,hS⟩:∃S,w.heap.size=S:=⟨_,rfl⟩
 have ha1:(a !=0)=true:=by simpa using ha
 clear ha
 have aF:=cw.start o hS h
 clear h
 go_enter Tryz.func151,Tryz.ntmps151
 go_upto_region 1 with fail
 generalize(w.alloc (OC o)).alloc (.cells #[G 0,G 0,G 0,G 0,.int .u16 0,Zs] 67)=w2 at aF⊢
 have c0:=aC aF.b
 have d0:=aC aF.r
 have f0:=bG aF.r
 have HB:=cf aF
 clear aF
 go_wp2_with fail
 clear c0 d0 f0
 have aH:=HB.out.fin o _ rfl
 generalize((((((w2.setCell ⟨S+1,0,none⟩ (G o.code)).setCell ⟨S+1,1,none⟩ (G o.res)).setCell ⟨S+1,2,none⟩ (G o.a)).setCell ⟨S+1,3,none⟩ (G o.b)).setCell ⟨S+1,4,none⟩ (.int .u16 o.n)).setCell ⟨S+1,5,none⟩ Zs)=wF at aH⊢
 obtain⟨fz,fL,fG,_⟩:=aH
 have e0:=aC fz
 refine bodyPost_ret (v:=.tuple #[OV o,G (-1)]) (by simp[results,Tryz.results151,go_sem,e0];done) rfl ?_
 exact⟨o,(-1),s,rfl,⟨rfl,rfl,rfl⟩,fL,fG⟩
theorem JC (w:World) (gr bk al df nm ob cm om:Nat) (s:St) (o:aE) (h6:o.code≠6) (QA:o.code≠12) (UA:o.code≠13) (Lp:o.code≠14) (h:Gc w gr bk al df nm ob cm om s):Calls Tryz.prog 151 #[.pointer (ad gr),OV o,.int .u16 0] w (bP w gr bk al df nm ob cm om s (.aW o)):=by
 obtain⟨S,hS⟩:∃S,w.heap.size=S:=⟨_,rfl⟩
 have k6:(o.code==6)=false:=by simpa using h6
 have oI:(o.code==12)=false:=by simpa using QA
 have oH:(o.code==13)=false:=by simpa using UA
 have oG:(o.code==14)=false:=by simpa using Lp
 clear h6 QA UA Lp
 have aF:=cw.start o hS h
 clear h
 go_enter Tryz.func151,Tryz.ntmps151
 go_upto_region 1 with fail
 generalize(w.alloc (OC o)).alloc (.cells #[G 0,G 0,G 0,G 0,.int .u16 0,Zs] 67)=w2 at aF⊢
 have c0:=aC aF.b
 have d0:=aC aF.r
 have f0:=bG aF.r
 have HB:=cf aF
 clear aF
 go_wp2_with fail
 clear c0 d0 f0
 have aH:=HB.out.fin o _ rfl
 generalize((((((w2.setCell ⟨S+1,0,none⟩ (G o.code)).setCell ⟨S+1,1,none⟩ (G o.res)).setCell ⟨S+1,2,none⟩ (G o.a)).setCell ⟨S+1,3,none⟩ (G o.b)).setCell ⟨S+1,4,none⟩ (.int .u16 o.n)).setCell ⟨S+1,5,none⟩ Zs)=wF at aH⊢
 obtain⟨fz,fL,fG,_⟩:=aH
 have e0:=aC fz
 refine bodyPost_ret (v:=.tuple #[OV o,G (-1)]) (by simp[results,Tryz.results151,go_sem,e0];done) rfl ?_
 exact⟨o,(-1),s,rfl,⟨rfl,rfl,rfl⟩,fL,fG⟩
theorem Nh (w:World) (gr bk al df nm ob cm om:Nat) (s:St) (o:aE) (h6:o.code=6) (h:Gc w gr bk al df nm ob cm om s):Calls Tryz.prog 151 #[.pointer (ad gr),OV o,.int .u16 0] w (bP w gr bk al df nm ob cm om s (.aW ⟨3,o.res,o.b,0,0⟩)):=by
 obtain⟨S,hS⟩:∃S,w.heap.size=S:=⟨_,rfl⟩
 have k6:(o.code==6)=true:=by simpa using h6
 clear h6
 have aF:=cw.start o hS h
 clear h
 go_enter Tryz.func151,Tryz.ntmps151
 go_upto_region 1 with fail
 generalize(w.alloc (OC o)).alloc (.cells #[G 0,G 0,G 0,G 0,.int .u16 0,Zs] 67)=w2 at aF⊢
 obtain⟨o2,Ab⟩:∃o2:aE,o2=⟨3,o.res,o.b,0,0⟩:=⟨_,rfl⟩
 have c0:=aC aF.b
 have d0:=aC aF.r
 have f0:=bG aF.r
 have HB:=cf aF
 clear aF
 go_wp2_with fail
 clear c0 d0 f0
 have aH:=HB.out.fin (⟨3,o.res,o.b,0,0⟩:aE) _ rfl
 generalize((((((w2.setCell ⟨S+1,0,none⟩ (G (⟨3,o.res,o.b,0,0⟩:aE).code)).setCell ⟨S+1,1,none⟩ (G (⟨3,o.res,o.b,0,0⟩:aE).res)).setCell ⟨S+1,2,none⟩ (G (⟨3,o.res,o.b,0,0⟩:aE).a)).setCell ⟨S+1,3,none⟩ (G (⟨3,o.res,o.b,0,0⟩:aE).b)).setCell ⟨S+1,4,none⟩ (.int .u16 (⟨3,o.res,o.b,0,0⟩:aE).n)).setCell ⟨S+1,5,none⟩ Zs)=wF at aH⊢
 obtain⟨fz,fL,fG,_⟩:=aH
 have e0:=aC fz
 refine bodyPost_ret (v:=.tuple #[.agg #[G (⟨3,o.res,o.b,0,0⟩:aE).code,G (⟨3,o.res,o.b,0,0⟩:aE).res,G (⟨3,o.res,o.b,0,0⟩:aE).a,G (⟨3,o.res,o.b,0,0⟩:aE).b,.int .u16 (⟨3,o.res,o.b,0,0⟩:aE).n,Zs],G (-1)]) (by simp[results,Tryz.results151,go_sem,e0];done) rfl ?_
 exact⟨(⟨3,o.res,o.b,0,0⟩:aE),(-1),s,rfl,⟨rfl,rfl,rfl⟩,fL,fG⟩
theorem ay7 (w:World) (gr bk al df nm ob cm om:Nat) (s:St) (o:aE) {M:Int→Int} (hc:o.code=12∨o.code=13∨o.code=14) (hs:cB M s) (dQ:s.next≤1000000) (h:Gc w gr bk al df nm ob cm om s):Calls Tryz.prog 151 #[.pointer (ad gr),OV o,.int .u16 0] w (bP w gr bk al df nm ob cm om s (.nF 0)):=by
 rcases hc with hc|hc|hc
 all_goals
  obtain⟨S,hS⟩:∃S,w.heap.size=S:=⟨_,rfl⟩
  have HS:=cf hs
  have k6:=Za 6 hc
  have oI:=Za 12 hc
  have oH:=Za 13 hc
  have oG:=Za 14 hc
  clear hc hs
  have aF:=cw.start o hS h
  clear h
  go_enter Tryz.func151,Tryz.ntmps151
  go_upto_region 1 with fail
  generalize(w.alloc (OC o)).alloc (.cells #[G 0,G 0,G 0,G 0,.int .u16 0,Zs] 67)=w2 at aF⊢
  have c0:=aC aF.b
  go_upto_region 5 with fail
  clear c0
  have bF:=aF.low ((ak.refl _ _).drew)
  refine wp_region_noPanic ?_
  refine wp_region_held_drew (S:=fun w'=>iF w' S o) (by kernel_rfl) ⟨Yc bF.b,Yc bF.b,Yc bF.b,Yc bF.b,Yc bF.b,Yc bF.b⟩ (fun af=>?_)
  have gk:=cf bF
  clear bF aF
  generalize w2.drew=wd at af gk⊢
  have ca:=bZ wd gr bk al df nm ob cm om s (0) gk.out.g HS.out dQ
  refine tk 0 af ?_
  refine tk 1 af ?_
  refine aG 2 fun KK aI=>?_
  refine aR rfl 80 #[.pointer (ad gr),.int .u16 (0)] (by go_simp) _ ca ?_
  rintro v7 w7 ⟨rfl,c7,g7⟩
  have bj:=gk.out.call c7 g7
  have qG:iF w7 S o:=⟨Yc bj.b,Yc bj.b,Yc bj.b,Yc bj.b,Yc bj.b,Yc bj.b⟩
  obtain⟨cv,fQ⟩:∃cv,cv=(aK s (0)).1:=⟨_,rfl⟩
  rw[←fQ]
  have HB:=cf bj;have DN:=cf fQ
  clear bj c7 g7 ca gk fQ
  refine aI.out _ _ (by exact qG) (fun af=>?_)
  clear aI KK
  (try simp only[Act.put,bh])
  have HF:=cf (HB.out.fin o _ rfl)
  have jq:iF ((((((w7.setCell ⟨S+1,0,none⟩ (G o.code)).setCell ⟨S+1,1,none⟩ (G o.res)).setCell ⟨S+1,2,none⟩ (G o.a)).setCell ⟨S+1,3,none⟩ (G o.b)).setCell ⟨S+1,4,none⟩ (.int .u16 o.n)).setCell ⟨S+1,5,none⟩ Zs) S o:=by have hb:=HF.out.2.2.2;exact⟨Yc hb,Yc hb,Yc hb,Yc hb,Yc hb,Yc hb⟩
  have d0:=aC HB.out.r
  have f0:=bG HB.out.r
  refine aG 3 fun KK aI=>?_
  go_simp
  refine aI.out _ _ (by exact jq) (fun af=>?_)
  clear aI KK
  (try simp only[Act.put,bh])
  clear d0 f0
  refine tk 4 af ?_
  refine wpAnyH_done (by kernel_rfl) ?_ _
  refine NoPanic.normal ?_
  (try go_wp2_with fail)
  have aH:=HF.out
  generalize((((((w7.setCell ⟨S+1,0,none⟩ (G o.code)).setCell ⟨S+1,1,none⟩ (G o.res)).setCell ⟨S+1,2,none⟩ (G o.a)).setCell ⟨S+1,3,none⟩ (G o.b)).setCell ⟨S+1,4,none⟩ (.int .u16 o.n)).setCell ⟨S+1,5,none⟩ Zs)=wF at aH⊢
  obtain⟨fz,fL,fG,_⟩:=aH
  have e0:=aC fz
  refine bodyPost_ret (v:=.tuple #[OV o,G cv]) (by simp[results,Tryz.results151,go_sem,e0];done) rfl ?_
  exact⟨o,cv,(aK s 0).2,rfl,⟨DN.out,rfl⟩,fL,fG⟩
end
end Go.Proofs.YtjkahfmdcpfjjaaGreat
