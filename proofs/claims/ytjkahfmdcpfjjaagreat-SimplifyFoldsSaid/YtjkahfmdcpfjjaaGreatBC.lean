/- The rules: rule. -/
import Derived.Test.YtjkahfmdcpfjjaaGreatB2
import Derived.Test.YtjkahfmdcpfjjaaGreatBB
set_option linter.unusedVariables false
namespace Go.Proofs.YtjkahfmdcpfjjaaGreat
open Go.RowKit
set_option maxRecDepth 100000
set_option maxHeartbeats 8000000
variable {w:World} {nm:Nat} {l:List (Int×Int)} {v:Int}
theorem dO (h:aQ .i64 w nm (cc sa l)) {n:Int} (hv:aA l v=some n):(Instr.lookup 126 (.map (some nm)) (G v) true).run Tryz.prog w=.ok (.tuple #[.int .u16 n,.bool true]) w:=by
 have:=aM (P:=Tryz.prog) (t:=126) Tryz.underlying126 Tryz.underlying3 h (k:=v) (z:=.int .u16 0) (by kernel_rfl) true
 rw[ew,hv]at this
 exact this
theorem fo (h:aQ .i64 w nm (cc sa l)) (hv:aA l v=none):(Instr.lookup 126 (.map (some nm)) (G v) true).run Tryz.prog w=.ok (.tuple #[.int .u16 0,.bool false]) w:=by
 have:=aM (P:=Tryz.prog) (t:=126) Tryz.underlying126 Tryz.underlying3 h (k:=v) (z:=.int .u16 0) (by kernel_rfl) true
 rw[ew,hv]at this
 exact this
theorem cw.swap {wx:World} {S gr bk al df ob cm om:Nat} {s:St} {o:aE} (h:cw w wx S gr bk al df nm ob cm om s o) (u v:Int):cw w ((wx.setCell ⟨S,2,none⟩ (G u)).setCell ⟨S,3,none⟩ (G v)) S gr bk al df nm ob cm om s {o with a:=u,b:=v}:=by
 have hc:aY [S] wx ((wx.setCell ⟨S,2,none⟩ (G u)).setCell ⟨S,3,none⟩ (G v)):=(aY.setCell _ (by simp) _).trans (aY.setCell _ (by simp) _)
 have hm:∀{k},(∃es cl,wx.heap[k]?=some (.map es cl))→k∉[S]:=fun hk=>by simp only[List.mem_singleton];exact(bm h.b hk).symm
 have hg:=h.g
 exact⟨h.lo.trans' hc (fun b hb=> .inr (by have:=h.sz;simp only[List.mem_singleton]at hb;omega)),h.sz,by rw[aD (aD h.b)];rfl,(aj (by omega)).trans ((aj (by omega)).trans h.r),
  hc.obj hg.g (by simp only[List.mem_singleton];exact bT hg.g h.b (by decide)),hg.iv.cG hc (hm hg.iv.isMap),hg.iO.cG hc (hm hg.iO.isMap),hg.fD.cG hc (hm hg.fD.isMap),hg.lC.cG hc (hm hg.lC.isMap),hg.ig.cG hc (hm hg.ig.isMap),hg.lB.cG hc (hm hg.lB.isMap),hg.mL⟩
theorem Mq (w:World) (gr bk al df nm ob cm om:Nat) (s:St) (o:aE) (hc:o.code=25) (h:Gc w gr bk al df nm ob cm om s):Calls Tryz.prog 89 #[.pointer (ad gr),OV o] w (bP w gr bk al df nm ob cm om s (.aW o)):=by
 obtain⟨S,hS⟩:∃S,w.heap.size=S:=⟨_,rfl⟩
 have k3:(o.code !=3)=true:=by rw[hc];decide
 have k4:(o.code !=4)=true:=by rw[hc];decide
 have k5:¬o.code<5:=by omega
 have JF:17<o.code:=by omega
 clear hc
 have aF:=cw.start o hS h
 clear h
 go_enter Tryz.func89,Tryz.ntmps89
 go_upto_region 1 with fail
 generalize(w.alloc (OC o)).alloc (.cells #[G 0,G 0,G 0,G 0,.int .u16 0,Zs] 67)=w2 at aF⊢
 have c0:=aC aF.b
 have d0:=aC aF.r
 have f0:=bG aF.r
 have HB:=cf aF
 clear aF
 go_wp2_with fail
 clear c0 d0 f0
 have aH:=HB.out.fin o _ rfl
 generalize((((((w2.setCell ⟨S+1,0,none⟩ (G o.code)).setCell ⟨S+1,1,none⟩ (G o.res)).setCell ⟨S+1,2,none⟩ (G o.a)).setCell ⟨S+1,3,none⟩ (G o.b)).setCell ⟨S+1,4,none⟩ (.int .u16 o.n)).setCell ⟨S+1,5,none⟩ Zs)=wF at aH⊢
 obtain⟨fz,fL,fG,_⟩:=aH
 have e0:=aC fz
 refine bodyPost_ret (v:=.tuple #[OV o,G (-1)]) (by simp[results,Tryz.results89,go_sem,e0];done) rfl ?_
 exact⟨o,(-1),s,rfl,⟨rfl,rfl,rfl⟩,fL,fG⟩
theorem Vz (w:World) (gr bk al df nm ob cm om:Nat) (s:St) (o:aE) (hc:o.code=3) (h0:o.a=0) (hA:aA s.nm o.a=none) (vb:∀p∈s.df,0<p.1) (h:Gc w gr bk al df nm ob cm om s):Calls Tryz.prog 89 #[.pointer (ad gr),OV o] w (bP w gr bk al df nm ob cm om s (.aW o)):=by
 obtain⟨S,hS⟩:∃S,w.heap.size=S:=⟨_,rfl⟩
 have bB:aS o.code:=by rw[hc];unfold aS;decide
 have ym:aZ o.code=true:=by rw[hc];decide
 have yl:bc o.code=false:=by rw[hc];decide
 have k3:(o.code !=3)=false:=by rw[hc];decide
 have k4:(o.code !=4)=true:=by rw[hc];decide
 have HA:=cf hA;have H0:=cf h0;have Tk:=cf vb
 clear hA h0 vb hc
 have mK:∀u,Calls Tryz.prog 147 #[G o.code] u (fun e w'=>e=.returned (.tuple #[.bool true,.bool false])∧w'=u):=fun u=>by
  have:=cV u o.code bB
  rw[ym,yl]at this
  exact this
 have JQ:=cf bB
 clear bB ym yl
 have aF:=cw.start o hS h
 clear h
 go_enter Tryz.func89,Tryz.ntmps89
 go_upto_region 1 with fail
 generalize(w.alloc (OC o)).alloc (.cells #[G 0,G 0,G 0,G 0,.int .u16 0,Zs] 67)=w2 at aF⊢
 have c0:=bf aF.b
 go_upto_region 4 with(first
  |(go_at_call 147;(with_reducible refine(mK _).mono ?_);rintro e w3 ⟨rfl,fE⟩;rw[fE];clear fE w3))
 clear c0
 have bF:=aF.low ((ak.refl _ _).drew)
 refine wp_region_noPanic ?_
 refine wp_region_held_drew (S:=fun w'=>w'.cell? ⟨gr,4,none⟩=some (.map (some nm))∧w'.cell? ⟨S,2,none⟩=some (G o.a)∧(Instr.lookup 126 (.map (some nm)) (G o.a) true).run Tryz.prog w'=.ok (.tuple #[.int .u16 0,.bool false]) w') (by kernel_rfl) ⟨Yc bF.g.g,Yc bF.b,fo bF.g.fD HA.out⟩ (fun af=>?_)
 have jA:=cf bF
 clear bF aF
 generalize w2.drew=w4 at af jA⊢
 refine tk 0 af ?_
 refine tk 1 af ?_
 refine tk 2 af ?_
 refine tk 3 af ?_
 refine tk 4 af ?_
 refine tk 5 af ?_
 refine tk 6 af ?_
 refine tk 7 af ?_
 refine tk 8 af ?_
 refine tk 9 af ?_
 refine tk 10 af ?_
 refine tk 11 af ?_
 clear af
 refine wpAnyH_done (by kernel_rfl) ?_ _
 refine NoPanic.normal ?_
 have aF:=jA.out
 clear jA
 clear k3 k4
 go_upto_region 14 with fail
 obtain⟨c0,c1,c2,c3,c4,c5⟩:=aC aF.b
 have hp:=tY w4 gr bk al df nm ob cm om s o H0.out Tk.out aF.g
 have tb:=cf aF
 clear aF
 go_wp2_with(first
  |(go_at_call 150;(with_reducible refine hp.mono ?_);rintro e wr ⟨o2,v2,s2,rfl,Ab,c7,g7⟩;have bj:=tb.out.call c7 g7;have d0:wr.cell? ⟨S+1,0,none⟩=some (G 0):=Yc bj.r;have d1:wr.cell? ⟨S+1,1,none⟩=some (G 0):=Yc bj.r;have d2:wr.cell? ⟨S+1,2,none⟩=some (G 0):=Yc bj.r;have d3:wr.cell? ⟨S+1,3,none⟩=some (G 0):=Yc bj.r;have d4:wr.cell? ⟨S+1,4,none⟩=some (.int .u16 0):=Yc bj.r;have d5:wr.cell? ⟨S+1,5,none⟩=some Zs:=Yc bj.r;have f0:wr.frozen? ⟨S+1,0,none⟩=false:=au bj.r;have f1:wr.frozen? ⟨S+1,1,none⟩=false:=au bj.r;have f2:wr.frozen? ⟨S+1,2,none⟩=false:=au bj.r;have f3:wr.frozen? ⟨S+1,3,none⟩=false:=au bj.r;have f4:wr.frozen? ⟨S+1,4,none⟩=false:=au bj.r;have f5:wr.frozen? ⟨S+1,5,none⟩=false:=au bj.r;have HB:=cf bj;clear bj c7 g7))
 clear d0 d1 d2 d3 d4 d5 f0 f1 f2 f3 f4 f5
 have aH:=HB.out.fin o2 _ rfl
 generalize((((((wr.setCell ⟨S+1,0,none⟩ (G o2.code)).setCell ⟨S+1,1,none⟩ (G o2.res)).setCell ⟨S+1,2,none⟩ (G o2.a)).setCell ⟨S+1,3,none⟩ (G o2.b)).setCell ⟨S+1,4,none⟩ (.int .u16 o2.n)).setCell ⟨S+1,5,none⟩ Zs)=wF at aH⊢
 obtain⟨fz,fL,fG,_⟩:=aH
 have e0:=aC fz
 refine bodyPost_ret (v:=.tuple #[OV o2,G v2]) (by simp[results,Tryz.results89,go_sem,e0];done) rfl ?_
 exact⟨o2,v2,s2,rfl,Ab,fL,fG⟩
theorem Vy (w:World) (gr bk al df nm ob cm om:Nat) (s:St) (o:aE) (hc:o.code=4) (h0:o.a=0) (hA:aA s.nm o.a=none) (vb:∀p∈s.df,0<p.1) (h:Gc w gr bk al df nm ob cm om s):Calls Tryz.prog 89 #[.pointer (ad gr),OV o] w (bP w gr bk al df nm ob cm om s (.aW o)):=by
 obtain⟨S,hS⟩:∃S,w.heap.size=S:=⟨_,rfl⟩
 have bB:aS o.code:=by rw[hc];unfold aS;decide
 have ym:aZ o.code=true:=by rw[hc];decide
 have yl:bc o.code=false:=by rw[hc];decide
 have k3:(o.code !=3)=true:=by rw[hc];decide
 have k4:(o.code !=4)=false:=by rw[hc];decide
 have HA:=cf hA;have H0:=cf h0;have Tk:=cf vb
 clear hA h0 vb hc
 have mK:∀u,Calls Tryz.prog 147 #[G o.code] u (fun e w'=>e=.returned (.tuple #[.bool true,.bool false])∧w'=u):=fun u=>by
  have:=cV u o.code bB
  rw[ym,yl]at this
  exact this
 have JQ:=cf bB
 clear bB ym yl
 have aF:=cw.start o hS h
 clear h
 go_enter Tryz.func89,Tryz.ntmps89
 go_upto_region 1 with fail
 generalize(w.alloc (OC o)).alloc (.cells #[G 0,G 0,G 0,G 0,.int .u16 0,Zs] 67)=w2 at aF⊢
 have c0:=bf aF.b
 go_upto_region 4 with(first
  |(go_at_call 147;(with_reducible refine(mK _).mono ?_);rintro e w3 ⟨rfl,fE⟩;rw[fE];clear fE w3))
 clear c0
 have bF:=aF.low ((ak.refl _ _).drew)
 refine wp_region_noPanic ?_
 refine wp_region_held_drew (S:=fun w'=>w'.cell? ⟨gr,4,none⟩=some (.map (some nm))∧w'.cell? ⟨S,2,none⟩=some (G o.a)∧(Instr.lookup 126 (.map (some nm)) (G o.a) true).run Tryz.prog w'=.ok (.tuple #[.int .u16 0,.bool false]) w') (by kernel_rfl) ⟨Yc bF.g.g,Yc bF.b,fo bF.g.fD HA.out⟩ (fun af=>?_)
 have jA:=cf bF
 clear bF aF
 generalize w2.drew=w4 at af jA⊢
 refine tk 0 af ?_
 refine tk 1 af ?_
 refine tk 2 af ?_
 refine tk 3 af ?_
 refine tk 4 af ?_
 refine tk 5 af ?_
 refine tk 6 af ?_
 refine tk 7 af ?_
 refine tk 8 af ?_
 refine tk 9 af ?_
 refine tk 10 af ?_
 refine tk 11 af ?_
 clear af
 refine wpAnyH_done (by kernel_rfl) ?_ _
 refine NoPanic.normal ?_
 have aF:=jA.out
 clear jA
 clear k3 k4
 go_upto_region 14 with fail
 obtain⟨c0,c1,c2,c3,c4,c5⟩:=aC aF.b
 have hp:=tY w4 gr bk al df nm ob cm om s o H0.out Tk.out aF.g
 have tb:=cf aF
 clear aF
 go_wp2_with(first
  |(go_at_call 150;(with_reducible refine hp.mono ?_);rintro e wr ⟨o2,v2,s2,rfl,Ab,c7,g7⟩;have bj:=tb.out.call c7 g7;have d0:wr.cell? ⟨S+1,0,none⟩=some (G 0):=Yc bj.r;have d1:wr.cell? ⟨S+1,1,none⟩=some (G 0):=Yc bj.r;have d2:wr.cell? ⟨S+1,2,none⟩=some (G 0):=Yc bj.r;have d3:wr.cell? ⟨S+1,3,none⟩=some (G 0):=Yc bj.r;have d4:wr.cell? ⟨S+1,4,none⟩=some (.int .u16 0):=Yc bj.r;have d5:wr.cell? ⟨S+1,5,none⟩=some Zs:=Yc bj.r;have f0:wr.frozen? ⟨S+1,0,none⟩=false:=au bj.r;have f1:wr.frozen? ⟨S+1,1,none⟩=false:=au bj.r;have f2:wr.frozen? ⟨S+1,2,none⟩=false:=au bj.r;have f3:wr.frozen? ⟨S+1,3,none⟩=false:=au bj.r;have f4:wr.frozen? ⟨S+1,4,none⟩=false:=au bj.r;have f5:wr.frozen? ⟨S+1,5,none⟩=false:=au bj.r;have HB:=cf bj;clear bj c7 g7))
 clear d0 d1 d2 d3 d4 d5 f0 f1 f2 f3 f4 f5
 have aH:=HB.out.fin o2 _ rfl
 generalize((((((wr.setCell ⟨S+1,0,none⟩ (G o2.code)).setCell ⟨S+1,1,none⟩ (G o2.res)).setCell ⟨S+1,2,none⟩ (G o2.a)).setCell ⟨S+1,3,none⟩ (G o2.b)).setCell ⟨S+1,4,none⟩ (.int .u16 o2.n)).setCell ⟨S+1,5,none⟩ Zs)=wF at aH⊢
 obtain⟨fz,fL,fG,_⟩:=aH
 have e0:=aC fz
 refine bodyPost_ret (v:=.tuple #[OV o2,G v2]) (by simp[results,Tryz.results89,go_sem,e0];done) rfl ?_
 exact⟨o2,v2,s2,rfl,Ab,fL,fG⟩
theorem IW (w:World) (gr bk al df nm ob cm om:Nat) (s:St) (o:aE) (h5:5≤o.code) (dz:o.code≤17) (a b:Int) (hA:aA s.nm o.a=some a) (hB:aA s.nm o.b=some b) (hc:o.code=8) (pq:b=0) (ha:W a) (h:Gc w gr bk al df nm ob cm om s):Calls Tryz.prog 89 #[.pointer (ad gr),OV o] w (bP w gr bk al df nm ob cm om s (.aW o)):=by
 obtain⟨S,hS⟩:∃S,w.heap.size=S:=⟨_,rfl⟩
 have bB:aS o.code:=by unfold aS;simp only[List.mem_cons,List.not_mem_nil,or_false];omega
 have ym:aZ o.code=true:=by unfold aZ;simp[h5,dz]
 have yl:bc o.code=true:=by unfold bc;simp[h5,dz]
 have k3:(o.code !=3)=true:=by have:o.code≠3:=(by omega);simpa using this
 have k4:(o.code !=4)=true:=by have:o.code≠4:=(by omega);simpa using this
 have k5:¬o.code<5:=by omega
 have JF:¬17<o.code:=by omega
 have HA:=cf hA;have gk:=cf hB
 have dY:=fun u=>sN u o.code a b (by omega) dz ha (by subst pq;exact⟨by decide,by decide⟩)
 have Ib:jt o.code a b=.tuple #[.int .u16 0,.bool false]:=by unfold jt;rw[if_pos ⟨hc,pq⟩]
 rw[Ib]at dY
 have Ea:=cf dY
 clear hA hB Ib dY hc pq
 clear h5 dz
 have mK:∀u,Calls Tryz.prog 147 #[G o.code] u (fun e w'=>e=.returned (.tuple #[.bool true,.bool true])∧w'=u):=fun u=>by
  have:=cV u o.code bB
  rw[ym,yl]at this
  exact this
 have JQ:=cf bB
 clear bB ym yl
 have aF:=cw.start o hS h
 clear h
 go_enter Tryz.func89,Tryz.ntmps89
 go_upto_region 1 with fail
 generalize(w.alloc (OC o)).alloc (.cells #[G 0,G 0,G 0,G 0,.int .u16 0,Zs] 67)=w2 at aF⊢
 have c0:=bf aF.b
 go_upto_region 4 with(first
  |(go_at_call 147;(with_reducible refine(mK _).mono ?_);rintro e w3 ⟨rfl,fE⟩;rw[fE];clear fE w3))
 clear c0
 have bF:=aF.low ((ak.refl _ _).drew)
 refine wp_region_noPanic ?_
 refine wp_region_held_drew (S:=fun w'=>w'.cell? ⟨gr,4,none⟩=some (.map (some nm))∧w'.cell? ⟨S,2,none⟩=some (G o.a)∧(Instr.lookup 126 (.map (some nm)) (G o.a) true).run Tryz.prog w'=.ok (.tuple #[.int .u16 a,.bool true]) w') (by kernel_rfl) ⟨Yc bF.g.g,Yc bF.b,dO bF.g.fD HA.out⟩ (fun af=>?_)
 have jA:=cf bF
 clear bF aF
 generalize w2.drew=w4 at af jA⊢
 refine tk 0 af ?_
 refine tk 1 af ?_
 refine tk 2 af ?_
 refine tk 3 af ?_
 refine tk 4 af ?_
 refine tk 5 af ?_
 refine tk 6 af ?_
 refine tk 7 af ?_
 refine tk 8 af ?_
 refine tk 9 af ?_
 refine tk 10 af ?_
 refine tk 11 af ?_
 clear af
 refine wpAnyH_done (by kernel_rfl) ?_ _
 refine NoPanic.normal ?_
 have aF:=jA.out
 clear jA
 go_upto_region 7 with fail
 have bF:=aF.low ((ak.refl _ _).drew)
 refine wp_region_noPanic ?_
 refine wp_region_held_drew (S:=fun w'=>w'.cell? ⟨gr,4,none⟩=some (.map (some nm))∧w'.cell? ⟨S,3,none⟩=some (G o.b)∧(Instr.lookup 126 (.map (some nm)) (G o.b) true).run Tryz.prog w'=.ok (.tuple #[.int .u16 b,.bool true]) w') (by kernel_rfl) ⟨Yc bF.g.g,Yc bF.b,dO bF.g.fD gk.out⟩ (fun af=>?_)
 have jA:=cf bF
 clear bF aF
 generalize w4.drew=w5 at af jA⊢
 refine tk 0 af ?_
 refine tk 1 af ?_
 refine tk 2 af ?_
 refine tk 3 af ?_
 refine tk 4 af ?_
 refine tk 5 af ?_
 refine tk 6 af ?_
 refine tk 7 af ?_
 refine tk 8 af ?_
 refine tk 9 af ?_
 refine tk 10 af ?_
 refine tk 11 af ?_
 clear af
 refine wpAnyH_done (by kernel_rfl) ?_ _
 refine NoPanic.normal ?_
 have aF:=jA.out
 clear jA
 have c0:=bf aF.b
 have dY:=Ea.out w5
 have PO:=cf aF
 clear aF
 go_upto_region 12 with(first
  |(go_at_call 149;(with_reducible refine dY.mono ?_);rintro e w7 ⟨v7,rfl,rfl,l7⟩;have aF:=PO.out.low l7))
 clear c0 dY PO k3 k4 k5 JF
 obtain⟨c0,c1,c2,c3,c4,c5⟩:=aC aF.b
 have d0:=aC aF.r
 have f0:=bG aF.r
 have HB:=cf aF
 clear aF
 go_wp2_with fail
 clear c0 c1 c2 c3 c4 c5 d0 f0
 have aH:=HB.out.fin o _ rfl
 generalize((((((w7.setCell ⟨S+1,0,none⟩ (G o.code)).setCell ⟨S+1,1,none⟩ (G o.res)).setCell ⟨S+1,2,none⟩ (G o.a)).setCell ⟨S+1,3,none⟩ (G o.b)).setCell ⟨S+1,4,none⟩ (.int .u16 o.n)).setCell ⟨S+1,5,none⟩ Zs)=wF at aH⊢
 obtain⟨fz,fL,fG,_⟩:=aH
 have e0:=aC fz
 refine bodyPost_ret (v:=.tuple #[OV o,G (-1)]) (by simp[results,Tryz.results89,go_sem,e0];done) rfl ?_
 exact⟨o,(-1),s,rfl,⟨rfl,rfl,rfl⟩,fL,fG⟩
variable {M:Int→Int}
theorem EG (w:World) (gr bk al df nm ob cm om:Nat) (s:St) (o:aE) (h5:5≤o.code) (dz:o.code≤17) (a b:Int) (hA:aA s.nm o.a=some a) (hB:aA s.nm o.b=some b) (hs:cB M s) (dQ:s.next≤1000000) (hn:¬(o.code=8∧b=0)) (ha:W a) (hb:W b) (h:Gc w gr bk al df nm ob cm om s):Calls Tryz.prog 89 #[.pointer (ad gr),OV o] w (bP w gr bk al df nm ob cm om s (.nF (arith o.code a b))):=by
 obtain⟨S,hS⟩:∃S,w.heap.size=S:=⟨_,rfl⟩
 have bB:aS o.code:=by unfold aS;simp only[List.mem_cons,List.not_mem_nil,or_false];omega
 have ym:aZ o.code=true:=by unfold aZ;simp[h5,dz]
 have yl:bc o.code=true:=by unfold bc;simp[h5,dz]
 have k3:(o.code !=3)=true:=by have:o.code≠3:=(by omega);simpa using this
 have k4:(o.code !=4)=true:=by have:o.code≠4:=(by omega);simpa using this
 have k5:¬o.code<5:=by omega
 have JF:¬17<o.code:=by omega
 have HA:=cf hA;have gk:=cf hB;have HS:=cf hs
 have dY:=fun u=>sN u o.code a b (by omega) dz ha hb
 have Ib:jt o.code a b=.tuple #[.int .u16 (arith o.code a b),.bool true]:=by unfold jt;rw[if_neg hn,gZ h5]
 rw[Ib]at dY
 have Ea:=cf dY
 clear hA hB Ib dY hn hs ha hb
 clear h5 dz
 have mK:∀u,Calls Tryz.prog 147 #[G o.code] u (fun e w'=>e=.returned (.tuple #[.bool true,.bool true])∧w'=u):=fun u=>by
  have:=cV u o.code bB
  rw[ym,yl]at this
  exact this
 have JQ:=cf bB
 clear bB ym yl
 have aF:=cw.start o hS h
 clear h
 go_enter Tryz.func89,Tryz.ntmps89
 go_upto_region 1 with fail
 generalize(w.alloc (OC o)).alloc (.cells #[G 0,G 0,G 0,G 0,.int .u16 0,Zs] 67)=w2 at aF⊢
 have c0:=bf aF.b
 go_upto_region 4 with(first
  |(go_at_call 147;(with_reducible refine(mK _).mono ?_);rintro e w3 ⟨rfl,fE⟩;rw[fE];clear fE w3))
 clear c0
 have bF:=aF.low ((ak.refl _ _).drew)
 refine wp_region_noPanic ?_
 refine wp_region_held_drew (S:=fun w'=>w'.cell? ⟨gr,4,none⟩=some (.map (some nm))∧w'.cell? ⟨S,2,none⟩=some (G o.a)∧(Instr.lookup 126 (.map (some nm)) (G o.a) true).run Tryz.prog w'=.ok (.tuple #[.int .u16 a,.bool true]) w') (by kernel_rfl) ⟨Yc bF.g.g,Yc bF.b,dO bF.g.fD HA.out⟩ (fun af=>?_)
 have jA:=cf bF
 clear bF aF
 generalize w2.drew=w4 at af jA⊢
 refine tk 0 af ?_
 refine tk 1 af ?_
 refine tk 2 af ?_
 refine tk 3 af ?_
 refine tk 4 af ?_
 refine tk 5 af ?_
 refine tk 6 af ?_
 refine tk 7 af ?_
 refine tk 8 af ?_
 refine tk 9 af ?_
 refine tk 10 af ?_
 refine tk 11 af ?_
 clear af
 refine wpAnyH_done (by kernel_rfl) ?_ _
 refine NoPanic.normal ?_
 have aF:=jA.out
 clear jA
 go_upto_region 7 with fail
 have bF:=aF.low ((ak.refl _ _).drew)
 refine wp_region_noPanic ?_
 refine wp_region_held_drew (S:=fun w'=>w'.cell? ⟨gr,4,none⟩=some (.map (some nm))∧w'.cell? ⟨S,3,none⟩=some (G o.b)∧(Instr.lookup 126 (.map (some nm)) (G o.b) true).run Tryz.prog w'=.ok (.tuple #[.int .u16 b,.bool true]) w') (by kernel_rfl) ⟨Yc bF.g.g,Yc bF.b,dO bF.g.fD gk.out⟩ (fun af=>?_)
 have jA:=cf bF
 clear bF aF
 generalize w4.drew=w5 at af jA⊢
 refine tk 0 af ?_
 refine tk 1 af ?_
 refine tk 2 af ?_
 refine tk 3 af ?_
 refine tk 4 af ?_
 refine tk 5 af ?_
 refine tk 6 af ?_
 refine tk 7 af ?_
 refine tk 8 af ?_
 refine tk 9 af ?_
 refine tk 10 af ?_
 refine tk 11 af ?_
 clear af
 refine wpAnyH_done (by kernel_rfl) ?_ _
 refine NoPanic.normal ?_
 have aF:=jA.out
 clear jA
 have c0:=bf aF.b
 have dY:=Ea.out w5
 have PO:=cf aF
 clear aF
 obtain⟨nn,zi⟩:∃nn,nn=arith o.code a b:=⟨_,rfl⟩
 rw[←zi]at dY
 have HNN:=cf zi
 clear Ea zi
 go_upto_region 11 with(first
  |(go_at_call 149;(with_reducible refine dY.mono ?_);rintro e w7 ⟨v7,rfl,rfl,l7⟩;have aF:=PO.out.low l7))
 clear c0 dY PO k3 k4 k5 JF l7
 obtain⟨w6,hw6⟩:∃u,u=w7:=⟨_,rfl⟩
 rw[←hw6]at aF⊢
 clear hw6 w7
 have bF:=aF.low ((ak.refl _ _).drew)
 refine wp_region_noPanic ?_
 refine wp_region_held_drew (S:=fun w'=>iF w' S o) (by kernel_rfl) ⟨Yc bF.b,Yc bF.b,Yc bF.b,Yc bF.b,Yc bF.b,Yc bF.b⟩ (fun af=>?_)
 have gk:=cf bF
 clear bF aF
 generalize w6.drew=wd at af gk⊢
 have ca:=bZ wd gr bk al df nm ob cm om s (nn) gk.out.g HS.out dQ
 refine tk 0 af ?_
 refine tk 1 af ?_
 refine tk 2 af ?_
 refine aG 3 fun KK aI=>?_
 refine aR rfl 80 #[.pointer (ad gr),.int .u16 (nn)] (by go_simp) _ ca ?_
 rintro v7 w7 ⟨rfl,c7,g7⟩
 have bj:=gk.out.call c7 g7
 have qG:iF w7 S o:=⟨Yc bj.b,Yc bj.b,Yc bj.b,Yc bj.b,Yc bj.b,Yc bj.b⟩
 obtain⟨cv,fQ⟩:∃cv,cv=(aK s (nn)).1:=⟨_,rfl⟩
 rw[←fQ]
 have HB:=cf bj;have DN:=cf fQ
 clear bj c7 g7 ca gk fQ
 refine aI.out _ _ (by exact qG) (fun af=>?_)
 clear aI KK
 (try simp only[Act.put,bh])
 have HF:=cf (HB.out.fin o _ rfl)
 have jq:iF ((((((w7.setCell ⟨S+1,0,none⟩ (G o.code)).setCell ⟨S+1,1,none⟩ (G o.res)).setCell ⟨S+1,2,none⟩ (G o.a)).setCell ⟨S+1,3,none⟩ (G o.b)).setCell ⟨S+1,4,none⟩ (.int .u16 o.n)).setCell ⟨S+1,5,none⟩ Zs) S o:=by have hb:=HF.out.2.2.2;exact⟨Yc hb,Yc hb,Yc hb,Yc hb,Yc hb,Yc hb⟩
 have d0:=aC HB.out.r
 have f0:=bG HB.out.r
 refine aG 4 fun KK aI=>?_
 go_simp
 refine aI.out _ _ (by exact jq) (fun af=>?_)
 clear aI KK
 (try simp only[Act.put,bh])
 clear d0 f0
 refine tk 5 af ?_
 refine wpAnyH_done (by kernel_rfl) ?_ _
 refine NoPanic.normal ?_
 (try go_wp2_with fail)
 have aH:=HF.out
 generalize((((((w7.setCell ⟨S+1,0,none⟩ (G o.code)).setCell ⟨S+1,1,none⟩ (G o.res)).setCell ⟨S+1,2,none⟩ (G o.a)).setCell ⟨S+1,3,none⟩ (G o.b)).setCell ⟨S+1,4,none⟩ (.int .u16 o.n)).setCell ⟨S+1,5,none⟩ Zs)=wF at aH⊢
 obtain⟨fz,fL,fG,_⟩:=aH
 have e0:=aC fz
 refine bodyPost_ret (v:=.tuple #[OV o,G cv]) (by simp[results,Tryz.results89,go_sem,e0];done) rfl ?_
 exact⟨o,cv,(aK s nn).2,rfl,⟨by rw[DN.out,HNN.out],by rw[HNN.out]⟩,fL,fG⟩
theorem EF (w:World) (gr bk al df nm ob cm om:Nat) (s:St) (o:aE) (h5:5≤o.code) (dz:o.code≤17) (b:Int) (hs:cB M s) (dQ:s.next≤1000000) (h0:o.a=0) (hA:aA s.nm o.a=none) (hB:aA s.nm o.b=some b) (hb:W b) (cH:o.a≠o.b) (h:Gc w gr bk al df nm ob cm om s):Calls Tryz.prog 89 #[.pointer (ad gr),OV o] w (bP w gr bk al df nm ob cm om s (ei o b)):=by
 obtain⟨S,hS⟩:∃S,w.heap.size=S:=⟨_,rfl⟩
 have bB:aS o.code:=by unfold aS;simp only[List.mem_cons,List.not_mem_nil,or_false];omega
 have ym:aZ o.code=true:=by unfold aZ;simp[h5,dz]
 have yl:bc o.code=true:=by unfold bc;simp[h5,dz]
 have k3:(o.code !=3)=true:=by have:o.code≠3:=(by omega);simpa using this
 have k4:(o.code !=4)=true:=by have:o.code≠4:=(by omega);simpa using this
 have k5:¬o.code<5:=by omega
 have JF:¬17<o.code:=by omega
 have HA:=cf hA;have gk:=cf hB
 have hr:=fun u hu=>xL u gr bk al df nm ob cm om s o b hu hs dQ hb h5 dz h0
 have HR:=cf hr
 have al5:(o.a==o.b)=false:=by simpa using cH
 clear hA hB hr hs h0 cH hb
 clear h5 dz
 have mK:∀u,Calls Tryz.prog 147 #[G o.code] u (fun e w'=>e=.returned (.tuple #[.bool true,.bool true])∧w'=u):=fun u=>by
  have:=cV u o.code bB
  rw[ym,yl]at this
  exact this
 have JQ:=cf bB
 clear bB ym yl
 have aF:=cw.start o hS h
 clear h
 go_enter Tryz.func89,Tryz.ntmps89
 go_upto_region 1 with fail
 generalize(w.alloc (OC o)).alloc (.cells #[G 0,G 0,G 0,G 0,.int .u16 0,Zs] 67)=w2 at aF⊢
 have c0:=bf aF.b
 go_upto_region 4 with(first
  |(go_at_call 147;(with_reducible refine(mK _).mono ?_);rintro e w3 ⟨rfl,fE⟩;rw[fE];clear fE w3))
 clear c0
 have bF:=aF.low ((ak.refl _ _).drew)
 refine wp_region_noPanic ?_
 refine wp_region_held_drew (S:=fun w'=>w'.cell? ⟨gr,4,none⟩=some (.map (some nm))∧w'.cell? ⟨S,2,none⟩=some (G o.a)∧(Instr.lookup 126 (.map (some nm)) (G o.a) true).run Tryz.prog w'=.ok (.tuple #[.int .u16 0,.bool false]) w') (by kernel_rfl) ⟨Yc bF.g.g,Yc bF.b,fo bF.g.fD HA.out⟩ (fun af=>?_)
 have jA:=cf bF
 clear bF aF
 generalize w2.drew=w4 at af jA⊢
 refine tk 0 af ?_
 refine tk 1 af ?_
 refine tk 2 af ?_
 refine tk 3 af ?_
 refine tk 4 af ?_
 refine tk 5 af ?_
 refine tk 6 af ?_
 refine tk 7 af ?_
 refine tk 8 af ?_
 refine tk 9 af ?_
 refine tk 10 af ?_
 refine tk 11 af ?_
 clear af
 refine wpAnyH_done (by kernel_rfl) ?_ _
 refine NoPanic.normal ?_
 have aF:=jA.out
 clear jA
 go_upto_region 7 with fail
 have bF:=aF.low ((ak.refl _ _).drew)
 refine wp_region_noPanic ?_
 refine wp_region_held_drew (S:=fun w'=>w'.cell? ⟨gr,4,none⟩=some (.map (some nm))∧w'.cell? ⟨S,3,none⟩=some (G o.b)∧(Instr.lookup 126 (.map (some nm)) (G o.b) true).run Tryz.prog w'=.ok (.tuple #[.int .u16 b,.bool true]) w') (by kernel_rfl) ⟨Yc bF.g.g,Yc bF.b,dO bF.g.fD gk.out⟩ (fun af=>?_)
 have jA:=cf bF
 clear bF aF
 generalize w4.drew=w5 at af jA⊢
 refine tk 0 af ?_
 refine tk 1 af ?_
 refine tk 2 af ?_
 refine tk 3 af ?_
 refine tk 4 af ?_
 refine tk 5 af ?_
 refine tk 6 af ?_
 refine tk 7 af ?_
 refine tk 8 af ?_
 refine tk 9 af ?_
 refine tk 10 af ?_
 refine tk 11 af ?_
 clear af
 refine wpAnyH_done (by kernel_rfl) ?_ _
 refine NoPanic.normal ?_
 have aF:=jA.out
 clear jA
 clear k3 k4 k5 JF
 obtain⟨c0,c1,c2,c3,c4,c5⟩:=aC aF.b
 go_upto_region 25 with fail
 clear c0 c1 c2 c3 c4 c5
 obtain⟨c0,c1,c2,c3,c4,c5⟩:=aC aF.b
 have hp:=HR.out w5 aF.g
 have tb:=cf aF
 clear aF
 go_wp2_with(first
  |(go_at_call 153;(with_reducible refine hp.mono ?_);rintro e wr ⟨o2,v2,s2,rfl,Ab,c7,g7⟩;have bj:=tb.out.call c7 g7;have d0:wr.cell? ⟨S+1,0,none⟩=some (G 0):=Yc bj.r;have d1:wr.cell? ⟨S+1,1,none⟩=some (G 0):=Yc bj.r;have d2:wr.cell? ⟨S+1,2,none⟩=some (G 0):=Yc bj.r;have d3:wr.cell? ⟨S+1,3,none⟩=some (G 0):=Yc bj.r;have d4:wr.cell? ⟨S+1,4,none⟩=some (.int .u16 0):=Yc bj.r;have d5:wr.cell? ⟨S+1,5,none⟩=some Zs:=Yc bj.r;have f0:wr.frozen? ⟨S+1,0,none⟩=false:=au bj.r;have f1:wr.frozen? ⟨S+1,1,none⟩=false:=au bj.r;have f2:wr.frozen? ⟨S+1,2,none⟩=false:=au bj.r;have f3:wr.frozen? ⟨S+1,3,none⟩=false:=au bj.r;have f4:wr.frozen? ⟨S+1,4,none⟩=false:=au bj.r;have f5:wr.frozen? ⟨S+1,5,none⟩=false:=au bj.r;have HB:=cf bj;clear bj c7 g7))
 clear d0 d1 d2 d3 d4 d5 f0 f1 f2 f3 f4 f5
 have aH:=HB.out.fin o2 _ rfl
 generalize((((((wr.setCell ⟨S+1,0,none⟩ (G o2.code)).setCell ⟨S+1,1,none⟩ (G o2.res)).setCell ⟨S+1,2,none⟩ (G o2.a)).setCell ⟨S+1,3,none⟩ (G o2.b)).setCell ⟨S+1,4,none⟩ (.int .u16 o2.n)).setCell ⟨S+1,5,none⟩ Zs)=wF at aH⊢
 obtain⟨fz,fL,fG,_⟩:=aH
 have e0:=aC fz
 refine bodyPost_ret (v:=.tuple #[OV o2,G v2]) (by simp[results,Tryz.results89,go_sem,e0];done) rfl ?_
 exact⟨o2,v2,s2,rfl,Ab,fL,fG⟩
theorem IX (w:World) (gr bk al df nm ob cm om:Nat) (s:St) (o:aE) (h5:5≤o.code) (dz:o.code≤17) (a:Int) (hs:cB M s) (dQ:s.next≤1000000) (hA:aA s.nm o.a=some a) (hB:aA s.nm o.b=none) (dY:¬Comm o.code) (h:Gc w gr bk al df nm ob cm om s):Calls Tryz.prog 89 #[.pointer (ad gr),OV o] w (bP w gr bk al df nm ob cm om s (oC o a)):=by
 obtain⟨S,hS⟩:∃S,w.heap.size=S:=⟨_,rfl⟩
 have bB:aS o.code:=by unfold aS;simp only[List.mem_cons,List.not_mem_nil,or_false];omega
 have ym:aZ o.code=true:=by unfold aZ;simp[h5,dz]
 have yl:bc o.code=true:=by unfold bc;simp[h5,dz]
 have k3:(o.code !=3)=true:=by have:o.code≠3:=(by omega);simpa using this
 have k4:(o.code !=4)=true:=by have:o.code≠4:=(by omega);simpa using this
 have k5:¬o.code<5:=by omega
 have JF:¬17<o.code:=by omega
 have HA:=cf hA;have gk:=cf hB
 have hr:=fun u hu=>Ni u gr bk al df nm ob cm om s o a hu hs dQ
 have HR:=cf hr
 have sL:∀u,Calls Tryz.prog 110 #[G o.code] u (fun e w'=>e=.returned (.bool false)∧ak u.heap.size u w'):=fun u=>by
  have:=mh u o.code bB
  rw[decide_eq_false dY]at this
  exact this
 have HCC:=cf sL
 clear hA hB hr hs dY sL
 clear h5 dz
 have mK:∀u,Calls Tryz.prog 147 #[G o.code] u (fun e w'=>e=.returned (.tuple #[.bool true,.bool true])∧w'=u):=fun u=>by
  have:=cV u o.code bB
  rw[ym,yl]at this
  exact this
 have JQ:=cf bB
 clear bB ym yl
 have aF:=cw.start o hS h
 clear h
 go_enter Tryz.func89,Tryz.ntmps89
 go_upto_region 1 with fail
 generalize(w.alloc (OC o)).alloc (.cells #[G 0,G 0,G 0,G 0,.int .u16 0,Zs] 67)=w2 at aF⊢
 have c0:=bf aF.b
 go_upto_region 4 with(first
  |(go_at_call 147;(with_reducible refine(mK _).mono ?_);rintro e w3 ⟨rfl,fE⟩;rw[fE];clear fE w3))
 clear c0
 have bF:=aF.low ((ak.refl _ _).drew)
 refine wp_region_noPanic ?_
 refine wp_region_held_drew (S:=fun w'=>w'.cell? ⟨gr,4,none⟩=some (.map (some nm))∧w'.cell? ⟨S,2,none⟩=some (G o.a)∧(Instr.lookup 126 (.map (some nm)) (G o.a) true).run Tryz.prog w'=.ok (.tuple #[.int .u16 a,.bool true]) w') (by kernel_rfl) ⟨Yc bF.g.g,Yc bF.b,dO bF.g.fD HA.out⟩ (fun af=>?_)
 have jA:=cf bF
 clear bF aF
 generalize w2.drew=w4 at af jA⊢
 refine tk 0 af ?_
 refine tk 1 af ?_
 refine tk 2 af ?_
 refine tk 3 af ?_
 refine tk 4 af ?_
 refine tk 5 af ?_
 refine tk 6 af ?_
 refine tk 7 af ?_
 refine tk 8 af ?_
 refine tk 9 af ?_
 refine tk 10 af ?_
 refine tk 11 af ?_
 clear af
 refine wpAnyH_done (by kernel_rfl) ?_ _
 refine NoPanic.normal ?_
 have aF:=jA.out
 clear jA
 go_upto_region 7 with fail
 have bF:=aF.low ((ak.refl _ _).drew)
 refine wp_region_noPanic ?_
 refine wp_region_held_drew (S:=fun w'=>w'.cell? ⟨gr,4,none⟩=some (.map (some nm))∧w'.cell? ⟨S,3,none⟩=some (G o.b)∧(Instr.lookup 126 (.map (some nm)) (G o.b) true).run Tryz.prog w'=.ok (.tuple #[.int .u16 0,.bool false]) w') (by kernel_rfl) ⟨Yc bF.g.g,Yc bF.b,fo bF.g.fD gk.out⟩ (fun af=>?_)
 have jA:=cf bF
 clear bF aF
 generalize w4.drew=w5 at af jA⊢
 refine tk 0 af ?_
 refine tk 1 af ?_
 refine tk 2 af ?_
 refine tk 3 af ?_
 refine tk 4 af ?_
 refine tk 5 af ?_
 refine tk 6 af ?_
 refine tk 7 af ?_
 refine tk 8 af ?_
 refine tk 9 af ?_
 refine tk 10 af ?_
 refine tk 11 af ?_
 clear af
 refine wpAnyH_done (by kernel_rfl) ?_ _
 refine NoPanic.normal ?_
 have aF:=jA.out
 clear jA
 clear k3 k4 k5 JF
 have c0:=bf aF.b
 have PO:=cf aF
 clear aF
 go_upto_region 19 with(first
  |(go_at_call 110;(with_reducible refine(HCC.out _).mono ?_);rintro e w7 ⟨rfl,l7⟩;have aF:=PO.out.low l7))
 clear c0 PO l7
 obtain⟨c0,c1,c2,c3,c4,c5⟩:=aC aF.b
 have hp:=HR.out w7 aF.g
 have tb:=cf aF
 clear aF
 go_wp2_with(first
  |(go_at_call 151;(with_reducible refine hp.mono ?_);rintro e wr ⟨o2,v2,s2,rfl,Ab,c7,g7⟩;have bj:=tb.out.call c7 g7;have d0:wr.cell? ⟨S+1,0,none⟩=some (G 0):=Yc bj.r;have d1:wr.cell? ⟨S+1,1,none⟩=some (G 0):=Yc bj.r;have d2:wr.cell? ⟨S+1,2,none⟩=some (G 0):=Yc bj.r;have d3:wr.cell? ⟨S+1,3,none⟩=some (G 0):=Yc bj.r;have d4:wr.cell? ⟨S+1,4,none⟩=some (.int .u16 0):=Yc bj.r;have d5:wr.cell? ⟨S+1,5,none⟩=some Zs:=Yc bj.r;have f0:wr.frozen? ⟨S+1,0,none⟩=false:=au bj.r;have f1:wr.frozen? ⟨S+1,1,none⟩=false:=au bj.r;have f2:wr.frozen? ⟨S+1,2,none⟩=false:=au bj.r;have f3:wr.frozen? ⟨S+1,3,none⟩=false:=au bj.r;have f4:wr.frozen? ⟨S+1,4,none⟩=false:=au bj.r;have f5:wr.frozen? ⟨S+1,5,none⟩=false:=au bj.r;have HB:=cf bj;clear bj c7 g7))
 clear d0 d1 d2 d3 d4 d5 f0 f1 f2 f3 f4 f5
 have aH:=HB.out.fin o2 _ rfl
 generalize((((((wr.setCell ⟨S+1,0,none⟩ (G o2.code)).setCell ⟨S+1,1,none⟩ (G o2.res)).setCell ⟨S+1,2,none⟩ (G o2.a)).setCell ⟨S+1,3,none⟩ (G o2.b)).setCell ⟨S+1,4,none⟩ (.int .u16 o2.n)).setCell ⟨S+1,5,none⟩ Zs)=wF at aH⊢
 obtain⟨fz,fL,fG,_⟩:=aH
 have e0:=aC fz
 refine bodyPost_ret (v:=.tuple #[OV o2,G v2]) (by simp[results,Tryz.results89,go_sem,e0];done) rfl ?_
 exact⟨o2,v2,s2,rfl,Ab,fL,fG⟩
theorem IY (w:World) (gr bk al df nm ob cm om:Nat) (s:St) (o:aE) (h5:5≤o.code) (dz:o.code≤17) (a:Int) (hs:cB M s) (dQ:s.next≤1000000) (h0:o.b=0) (hA:aA s.nm o.a=some a) (hB:aA s.nm o.b=none) (ha:W a) (cH:o.b≠o.a) (dY:Comm o.code) (h:Gc w gr bk al df nm ob cm om s):Calls Tryz.prog 89 #[.pointer (ad gr),OV o] w (bP w gr bk al df nm ob cm om s (ei {o with a:=o.b,b:=o.a} a)):=by
 obtain⟨S,hS⟩:∃S,w.heap.size=S:=⟨_,rfl⟩
 have bB:aS o.code:=by unfold aS;simp only[List.mem_cons,List.not_mem_nil,or_false];omega
 have ym:aZ o.code=true:=by unfold aZ;simp[h5,dz]
 have yl:bc o.code=true:=by unfold bc;simp[h5,dz]
 have k3:(o.code !=3)=true:=by have:o.code≠3:=(by omega);simpa using this
 have k4:(o.code !=4)=true:=by have:o.code≠4:=(by omega);simpa using this
 have k5:¬o.code<5:=by omega
 have JF:¬17<o.code:=by omega
 have HA:=cf hA;have gk:=cf hB
 have hr:=fun u hu=>xL u gr bk al df nm ob cm om s {o with a:=o.b,b:=o.a} a hu hs dQ ha h5 dz h0
 have HR:=cf hr
 have al5:(o.b==o.a)=false:=by simpa using cH
 have sL:∀u,Calls Tryz.prog 110 #[G o.code] u (fun e w'=>e=.returned (.bool true)∧ak u.heap.size u w'):=fun u=>by
  have:=mh u o.code bB
  rw[decide_eq_true dY]at this
  exact this
 have HCC:=cf sL
 clear hA hB hr hs dY sL h0 cH ha
 clear h5 dz
 have mK:∀u,Calls Tryz.prog 147 #[G o.code] u (fun e w'=>e=.returned (.tuple #[.bool true,.bool true])∧w'=u):=fun u=>by
  have:=cV u o.code bB
  rw[ym,yl]at this
  exact this
 have JQ:=cf bB
 clear bB ym yl
 have aF:=cw.start o hS h
 clear h
 go_enter Tryz.func89,Tryz.ntmps89
 go_upto_region 1 with fail
 generalize(w.alloc (OC o)).alloc (.cells #[G 0,G 0,G 0,G 0,.int .u16 0,Zs] 67)=w2 at aF⊢
 have c0:=bf aF.b
 go_upto_region 4 with(first
  |(go_at_call 147;(with_reducible refine(mK _).mono ?_);rintro e w3 ⟨rfl,fE⟩;rw[fE];clear fE w3))
 clear c0
 have bF:=aF.low ((ak.refl _ _).drew)
 refine wp_region_noPanic ?_
 refine wp_region_held_drew (S:=fun w'=>w'.cell? ⟨gr,4,none⟩=some (.map (some nm))∧w'.cell? ⟨S,2,none⟩=some (G o.a)∧(Instr.lookup 126 (.map (some nm)) (G o.a) true).run Tryz.prog w'=.ok (.tuple #[.int .u16 a,.bool true]) w') (by kernel_rfl) ⟨Yc bF.g.g,Yc bF.b,dO bF.g.fD HA.out⟩ (fun af=>?_)
 have jA:=cf bF
 clear bF aF
 generalize w2.drew=w4 at af jA⊢
 refine tk 0 af ?_
 refine tk 1 af ?_
 refine tk 2 af ?_
 refine tk 3 af ?_
 refine tk 4 af ?_
 refine tk 5 af ?_
 refine tk 6 af ?_
 refine tk 7 af ?_
 refine tk 8 af ?_
 refine tk 9 af ?_
 refine tk 10 af ?_
 refine tk 11 af ?_
 clear af
 refine wpAnyH_done (by kernel_rfl) ?_ _
 refine NoPanic.normal ?_
 have aF:=jA.out
 clear jA
 go_upto_region 7 with fail
 have bF:=aF.low ((ak.refl _ _).drew)
 refine wp_region_noPanic ?_
 refine wp_region_held_drew (S:=fun w'=>w'.cell? ⟨gr,4,none⟩=some (.map (some nm))∧w'.cell? ⟨S,3,none⟩=some (G o.b)∧(Instr.lookup 126 (.map (some nm)) (G o.b) true).run Tryz.prog w'=.ok (.tuple #[.int .u16 0,.bool false]) w') (by kernel_rfl) ⟨Yc bF.g.g,Yc bF.b,fo bF.g.fD gk.out⟩ (fun af=>?_)
 have jA:=cf bF
 clear bF aF
 generalize w4.drew=w5 at af jA⊢
 refine tk 0 af ?_
 refine tk 1 af ?_
 refine tk 2 af ?_
 refine tk 3 af ?_
 refine tk 4 af ?_
 refine tk 5 af ?_
 refine tk 6 af ?_
 refine tk 7 af ?_
 refine tk 8 af ?_
 refine tk 9 af ?_
 refine tk 10 af ?_
 refine tk 11 af ?_
 clear af
 refine wpAnyH_done (by kernel_rfl) ?_ _
 refine NoPanic.normal ?_
 have aF:=jA.out
 clear jA
 clear k3 k4 k5 JF
 have c0:=bf aF.b
 have PO:=cf aF
 clear aF
 go_upto_region 16 with(first
  |(go_at_call 110;(with_reducible refine(HCC.out _).mono ?_);rintro e w7 ⟨rfl,l7⟩;have aF:=PO.out.low l7))
 clear c0 PO l7
 obtain⟨c0,c1,c2,c3,c4,c5⟩:=aC aF.b
 obtain⟨f0,f1,f2,f3,f4,f5⟩:=bG aF.b
 have Sd:=aF.swap o.b o.a
 clear aF
 go_upto_region 17 with fail
 clear c0 c1 c2 c3 c4 c5 f0 f1 f2 f3 f4 f5
 generalize(w7.setCell ⟨S,2,none⟩ (G o.b)).setCell ⟨S,3,none⟩ (G o.a)=w9 at Sd⊢
 have aF:=Sd
 clear Sd
 have c2:=rn aF.b
 have c3:=mM aF.b
 go_upto_region 25 with fail
 clear c2 c3
 obtain⟨c0,c1,c2,c3,c4,c5⟩:=aC aF.b
 have hp:=HR.out w9 aF.g
 have tb:=cf aF
 clear aF
 go_wp2_with(first
  |(go_at_call 153;(with_reducible refine hp.mono ?_);rintro e wr ⟨o2,v2,s2,rfl,Ab,c7,g7⟩;have bj:=tb.out.call c7 g7;have d0:wr.cell? ⟨S+1,0,none⟩=some (G 0):=Yc bj.r;have d1:wr.cell? ⟨S+1,1,none⟩=some (G 0):=Yc bj.r;have d2:wr.cell? ⟨S+1,2,none⟩=some (G 0):=Yc bj.r;have d3:wr.cell? ⟨S+1,3,none⟩=some (G 0):=Yc bj.r;have d4:wr.cell? ⟨S+1,4,none⟩=some (.int .u16 0):=Yc bj.r;have d5:wr.cell? ⟨S+1,5,none⟩=some Zs:=Yc bj.r;have f0:wr.frozen? ⟨S+1,0,none⟩=false:=au bj.r;have f1:wr.frozen? ⟨S+1,1,none⟩=false:=au bj.r;have f2:wr.frozen? ⟨S+1,2,none⟩=false:=au bj.r;have f3:wr.frozen? ⟨S+1,3,none⟩=false:=au bj.r;have f4:wr.frozen? ⟨S+1,4,none⟩=false:=au bj.r;have f5:wr.frozen? ⟨S+1,5,none⟩=false:=au bj.r;have HB:=cf bj;clear bj c7 g7))
 clear d0 d1 d2 d3 d4 d5 f0 f1 f2 f3 f4 f5
 have aH:=HB.out.fin o2 _ rfl
 generalize((((((wr.setCell ⟨S+1,0,none⟩ (G o2.code)).setCell ⟨S+1,1,none⟩ (G o2.res)).setCell ⟨S+1,2,none⟩ (G o2.a)).setCell ⟨S+1,3,none⟩ (G o2.b)).setCell ⟨S+1,4,none⟩ (.int .u16 o2.n)).setCell ⟨S+1,5,none⟩ Zs)=wF at aH⊢
 obtain⟨fz,fL,fG,_⟩:=aH
 have e0:=aC fz
 refine bodyPost_ret (v:=.tuple #[OV o2,G v2]) (by simp[results,Tryz.results89,go_sem,e0];done) rfl ?_
 exact⟨o2,v2,s2,rfl,Ab,fL,fG⟩
theorem Mr (w:World) (gr bk al df nm ob cm om:Nat) (s:St) (o:aE) (h:Gc w gr bk al df nm ob cm om s) (hs:cB M s) (dQ:s.next≤1000000) (hf:Form s o):
 Calls Tryz.prog 89 #[.pointer (ad gr),OV o] w (bP w gr bk al df nm ob cm om s (cE (aA s.nm) o)):=by
 have h00:aA s.nm 0=none:=hs.low (by decide)
 rcases hf with⟨⟨⟨hc,ha,hb⟩|⟨h5,dz,ha,hb,cH⟩,hn⟩,hr⟩|hO
 ·rw[ux hs hc ha]
  have hA:aA s.nm o.a=none:=by rw[ha];exact h00
  rcases hc with hc|hc
  ·exact Vz w gr bk al df nm ob cm om s o hc ha hA hs.df h
  ·exact Vy w gr bk al df nm ob cm om s o hc ha hA hs.df h
 ·by_cases tx:o.a=0
  ·have pq:o.b≠0:=fun e=>cH ⟨tx,e⟩
   rcases hb with hb|hb
   ·exact absurd hb pq
   obtain⟨b,hb⟩:=Option.isSome_iff_exists.1 hb
   rw[pQ hs h5 dz tx hb]
   exact EF w gr bk al df nm ob cm om s o h5 dz b hs dQ tx (by rw[tx];exact h00) hb (hs.kw _ _ hb).2.2 (by rw[tx];exact fun e=>pq e.symm) h
  ·rcases ha with ha|ha
   ·exact absurd ha tx
   obtain⟨a,ha⟩:=Option.isSome_iff_exists.1 ha
   have wa:=(hs.kw _ _ ha).2.2
   have eV:cE (aA s.nm) o=(match aA s.nm o.b with
    |some b=>if o.code=8∧b=0 then .aW o else .nF (arith o.code a b)
    |none=>if Comm o.code then ei {o with a:=o.b,b:=o.a} a else oC o a):=by
    unfold cE
    rw[if_neg (by omega),if_pos ⟨h5,dz⟩,ha]
    cases aA s.nm o.b<;>rfl
   rw[eV]
   rcases hb with hb|hb
   ·have hB:aA s.nm o.b=none:=by rw[hb];exact h00
    rw[hB]
    simp only
    split
    ·rename_i dY
     exact IY w gr bk al df nm ob cm om s o h5 dz a hs dQ hb ha hB wa (by rw[hb];exact fun e=>tx e.symm) dY h
    ·rename_i dY
     exact IX w gr bk al df nm ob cm om s o h5 dz a hs dQ ha hB dY h
   ·obtain⟨b,hb⟩:=Option.isSome_iff_exists.1 hb
    have wb:=(hs.kw _ _ hb).2.2
    rw[hb]
    simp only
    split
    ·rename_i h8
     exact IW w gr bk al df nm ob cm om s o h5 dz a b ha hb h8.1 h8.2 wa h
    ·rename_i h8
     exact EG w gr bk al df nm ob cm om s o h5 dz a b ha hb hs dQ h8 wa wb h
 ·have:cE (aA s.nm) o=.aW o:=by simpa using hO.Rb (aA s.nm) o.a
  rw[this]
  exact Mq w gr bk al df nm ob cm om s o hO.1 h
end Go.Proofs.YtjkahfmdcpfjjaaGreat
