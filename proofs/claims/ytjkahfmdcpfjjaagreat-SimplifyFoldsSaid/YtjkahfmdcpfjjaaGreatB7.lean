/- The rules: a constant as the second operand: sums, differences, shifts, comparisons with 0. -/
import Derived.Test.YtjkahfmdcpfjjaaGreatB6
set_option linter.unusedVariables false
namespace Go.Proofs.YtjkahfmdcpfjjaaGreat
open Go.RowKit
set_option maxRecDepth 100000
set_option maxHeartbeats 8000000
theorem cw.Vt {w wx:World} {S gr bk al df nm ob cm om:Nat} {s:St} {o:aE} (h:cw w wx S gr bk al df nm ob cm om s o) (v:Int):cw w (wx.setCell ⟨S,3,none⟩ (G v)) S gr bk al df nm ob cm om s {o with b:=v}:=by
 have hc:aY [S] wx (wx.setCell ⟨S,3,none⟩ (G v)):=aY.setCell _ (by simp) _
 have hm:∀{k},(∃es cl,wx.heap[k]?=some (.map es cl))→k∉[S]:=fun hk=>by simp only[List.mem_singleton];exact(bm h.b hk).symm
 have hg:=h.g
 exact⟨h.lo.trans' hc (fun b hb=> .inr (by have:=h.sz;simp only[List.mem_singleton]at hb;omega)),h.sz,by rw[aD h.b];rfl,(aj (by omega)).trans h.r,
  hc.obj hg.g (by simp only[List.mem_singleton];exact bT hg.g h.b (by decide)),hg.iv.cG hc (hm hg.iv.isMap),hg.iO.cG hc (hm hg.iO.isMap),hg.fD.cG hc (hm hg.fD.isMap),hg.lC.cG hc (hm hg.lC.isMap),hg.ig.cG hc (hm hg.ig.isMap),hg.lB.cG hc (hm hg.lB.isMap),hg.mL⟩
theorem Rf (w:World) (gr bk al df nm ob cm om:Nat) (s:St) (o:aE) (b:Int) (r:RR) (hc:o.code=5) (hp:∀u,Gc u gr bk al df nm ob cm om s→Calls Tryz.prog 207 #[.pointer (ad gr),OV o,.int .u16 b] u (bP u gr bk al df nm ob cm om s r)) (h:Gc w gr bk al df nm ob cm om s):Calls Tryz.prog 153 #[.pointer (ad gr),OV o,.int .u16 b] w (bP w gr bk al df nm ob cm om s r):=by
 obtain⟨S,hS⟩:∃S,w.heap.size=S:=⟨_,rfl⟩
 have HP:=cf hp
 clear hp
 have k5:=Za 5 hc
 have k6:=Za 6 hc
 have oI:=Za 12 hc
 have oH:=Za 13 hc
 have oG:=Za 14 hc
 have rj:=Za 16 hc
 have rk:=Za 11 hc
 have HC:=cf hc
 clear hc
 have aF:=cw.start o hS h
 clear h
 go_enter Tryz.func153,Tryz.ntmps153
 go_upto_region 1 with fail
 generalize(w.alloc (OC o)).alloc (.cells #[G 0,G 0,G 0,G 0,.int .u16 0,Zs] 67)=w2 at aF⊢
 have c0:=aC aF.b
 have hp:=HP.out w2 aF.g
 go_upto_region 3 with fail
 have tb:=cf aF
 clear aF
 go_wp2_with(first
  |(go_at_call 207;(with_reducible refine hp.mono ?_);rintro e w7 ⟨o2,v2,s2,rfl,Ab,c7,g7⟩;have bj:=tb.out.call c7 g7;have d0:w7.cell? ⟨S+1,0,none⟩=some (G 0):=Yc bj.r;have d1:w7.cell? ⟨S+1,1,none⟩=some (G 0):=Yc bj.r;have d2:w7.cell? ⟨S+1,2,none⟩=some (G 0):=Yc bj.r;have d3:w7.cell? ⟨S+1,3,none⟩=some (G 0):=Yc bj.r;have d4:w7.cell? ⟨S+1,4,none⟩=some (.int .u16 0):=Yc bj.r;have d5:w7.cell? ⟨S+1,5,none⟩=some Zs:=Yc bj.r;have f0:w7.frozen? ⟨S+1,0,none⟩=false:=au bj.r;have f1:w7.frozen? ⟨S+1,1,none⟩=false:=au bj.r;have f2:w7.frozen? ⟨S+1,2,none⟩=false:=au bj.r;have f3:w7.frozen? ⟨S+1,3,none⟩=false:=au bj.r;have f4:w7.frozen? ⟨S+1,4,none⟩=false:=au bj.r;have f5:w7.frozen? ⟨S+1,5,none⟩=false:=au bj.r;have HB:=cf bj;clear bj c7 g7))
 clear d0 d1 d2 d3 d4 d5 f0 f1 f2 f3 f4 f5
 have aH:=HB.out.fin o2 _ rfl
 generalize((((((w7.setCell ⟨S+1,0,none⟩ (G o2.code)).setCell ⟨S+1,1,none⟩ (G o2.res)).setCell ⟨S+1,2,none⟩ (G o2.a)).setCell ⟨S+1,3,none⟩ (G o2.b)).setCell ⟨S+1,4,none⟩ (.int .u16 o2.n)).setCell ⟨S+1,5,none⟩ Zs)=wF at aH⊢
 obtain⟨fz,fL,fG,_⟩:=aH
 have e0:=aC fz
 refine bodyPost_ret (v:=.tuple #[OV o2,G v2]) (by simp[results,Tryz.results153,go_sem,e0];done) rfl ?_
 exact⟨o2,v2,s2,rfl,Ab,fL,fG⟩
variable {M:Int→Int}
theorem Re (w:World) (gr bk al df nm ob cm om:Nat) (s:St) (o:aE) (b:Int) (hs:cB M s) (dQ:s.next≤1000000) (hc:o.code=6) (h:Gc w gr bk al df nm ob cm om s):Calls Tryz.prog 153 #[.pointer (ad gr),OV o,.int .u16 b] w (bP w gr bk al df nm ob cm om s (.Bb ⟨5,o.res,o.a,0,0⟩ (IntKind.u16.wrap (-b)))):=by
 obtain⟨S,hS⟩:∃S,w.heap.size=S:=⟨_,rfl⟩
 have HS:=cf hs
 clear hs
 have k5:=Za 5 hc
 have k6:=Za 6 hc
 have oI:=Za 12 hc
 have oH:=Za 13 hc
 have oG:=Za 14 hc
 have rj:=Za 16 hc
 have rk:=Za 11 hc
 have HC:=cf hc
 clear hc
 have aF:=cw.start o hS h
 clear h
 go_enter Tryz.func153,Tryz.ntmps153
 go_upto_region 1 with fail
 generalize(w.alloc (OC o)).alloc (.cells #[G 0,G 0,G 0,G 0,.int .u16 0,Zs] 67)=w2 at aF⊢
 have c0:=bf aF.b
 go_upto_region 5 with fail
 clear c0
 have bF:=aF.low ((ak.refl _ _).drew)
 refine wp_region_noPanic ?_
 refine wp_region_held_drew (S:=fun w'=>iF w' S o) (by kernel_rfl) ⟨Yc bF.b,Yc bF.b,Yc bF.b,Yc bF.b,Yc bF.b,Yc bF.b⟩ (fun af=>?_)
 have gk:=cf bF
 clear bF aF
 generalize w2.drew=wd at af gk⊢
 have ca:=bZ wd gr bk al df nm ob cm om s (IntKind.u16.wrap (-b)) gk.out.g HS.out dQ
 refine tk 0 af ?_
 refine tk 1 af ?_
 refine tk 2 af ?_
 refine tk 3 af ?_
 refine tk 4 af ?_
 refine tk 5 af ?_
 refine tk 6 af ?_
 refine aG 7 fun KK aI=>?_
 refine aR rfl 80 #[.pointer (ad gr),.int .u16 (IntKind.u16.wrap (-b))] (by go_simp) _ ca ?_
 rintro v7 w7 ⟨rfl,c7,g7⟩
 have bj:=gk.out.call c7 g7
 have qG:iF w7 S o:=⟨Yc bj.b,Yc bj.b,Yc bj.b,Yc bj.b,Yc bj.b,Yc bj.b⟩
 obtain⟨cv,fQ⟩:∃cv,cv=(aK s (IntKind.u16.wrap (-b))).1:=⟨_,rfl⟩
 rw[←fQ]
 have HB:=cf bj;have DN:=cf fQ
 clear bj c7 g7 ca gk fQ
 refine aI.out _ _ (by exact qG) (fun af=>?_)
 clear aI KK
 (try simp only[Act.put,bh])
 refine tk 8 af ?_
 have HF:=cf (HB.out.fin (⟨5,o.res,o.a,cv,0⟩:aE) _ rfl)
 have jq:iF ((((((w7.setCell ⟨S+1,0,none⟩ (G (⟨5,o.res,o.a,cv,0⟩:aE).code)).setCell ⟨S+1,1,none⟩ (G (⟨5,o.res,o.a,cv,0⟩:aE).res)).setCell ⟨S+1,2,none⟩ (G (⟨5,o.res,o.a,cv,0⟩:aE).a)).setCell ⟨S+1,3,none⟩ (G (⟨5,o.res,o.a,cv,0⟩:aE).b)).setCell ⟨S+1,4,none⟩ (.int .u16 (⟨5,o.res,o.a,cv,0⟩:aE).n)).setCell ⟨S+1,5,none⟩ Zs) S o:=by have hb:=HF.out.2.2.2;exact⟨Yc hb,Yc hb,Yc hb,Yc hb,Yc hb,Yc hb⟩
 have d0:=aC HB.out.r
 have f0:=bG HB.out.r
 refine aG 9 fun KK aI=>?_
 go_simp
 refine aI.out _ _ (by exact jq) (fun af=>?_)
 clear aI KK
 (try simp only[Act.put,bh])
 clear d0 f0
 refine tk 10 af ?_
 refine wpAnyH_done (by kernel_rfl) ?_ _
 refine NoPanic.normal ?_
 (try go_wp2_with fail)
 have aH:=HF.out
 generalize((((((w7.setCell ⟨S+1,0,none⟩ (G (⟨5,o.res,o.a,cv,0⟩:aE).code)).setCell ⟨S+1,1,none⟩ (G (⟨5,o.res,o.a,cv,0⟩:aE).res)).setCell ⟨S+1,2,none⟩ (G (⟨5,o.res,o.a,cv,0⟩:aE).a)).setCell ⟨S+1,3,none⟩ (G (⟨5,o.res,o.a,cv,0⟩:aE).b)).setCell ⟨S+1,4,none⟩ (.int .u16 (⟨5,o.res,o.a,cv,0⟩:aE).n)).setCell ⟨S+1,5,none⟩ Zs)=wF at aH⊢
 obtain⟨fz,fL,fG,_⟩:=aH
 have e0:=aC fz
 refine bodyPost_ret (v:=.tuple #[.agg #[G (⟨5,o.res,o.a,cv,0⟩:aE).code,G (⟨5,o.res,o.a,cv,0⟩:aE).res,G (⟨5,o.res,o.a,cv,0⟩:aE).a,G (⟨5,o.res,o.a,cv,0⟩:aE).b,.int .u16 (⟨5,o.res,o.a,cv,0⟩:aE).n,Zs],G (-1)]) (by simp[results,Tryz.results153,go_sem,e0];done) rfl ?_
 exact⟨(⟨5,o.res,o.a,cv,0⟩:aE),(-1),(aK s (IntKind.u16.wrap (-b))).2,rfl,⟨by rw[DN.out],rfl,rfl⟩,fL,fG⟩
theorem ay0 (w:World) (gr bk al df nm ob cm om:Nat) (s:St) (o:aE) (b:Int) (hc:o.code=12∨o.code=13∨o.code=14) (hb:b.tmod 16=0) (h:Gc w gr bk al df nm ob cm om s):Calls Tryz.prog 153 #[.pointer (ad gr),OV o,.int .u16 b] w (bP w gr bk al df nm ob cm om s (.val o.a)):=by
 rcases hc with hc|hc|hc
 all_goals
  obtain⟨S,hS⟩:∃S,w.heap.size=S:=⟨_,rfl⟩
  have dS:(b.tmod 16==0)=true:=by simpa using hb
  clear hb
  have k5:=Za 5 hc
  have k6:=Za 6 hc
  have oI:=Za 12 hc
  have oH:=Za 13 hc
  have oG:=Za 14 hc
  have rj:=Za 16 hc
  have rk:=Za 11 hc
  have HC:=cf hc
  clear hc
  have aF:=cw.start o hS h
  clear h
  go_enter Tryz.func153,Tryz.ntmps153
  go_upto_region 1 with fail
  generalize(w.alloc (OC o)).alloc (.cells #[G 0,G 0,G 0,G 0,.int .u16 0,Zs] 67)=w2 at aF⊢
  have c0:=bf aF.b
  go_upto_region 10 with fail
  clear c0
  refine wp_region_noPanic ?_
  refine wp_region_held_drew (S:=fun w'=>iF w' S o) (by kernel_rfl) ⟨Yc aF.b,Yc aF.b,Yc aF.b,Yc aF.b,Yc aF.b,Yc aF.b⟩ (fun af=>?_)
  have HB:=cf (aF.low ((ak.refl _ _).drew))
  clear aF
  generalize w2.drew=wd at af HB⊢
  have HF:=cf (HB.out.fin o _ rfl)
  have jq:iF ((((((wd.setCell ⟨S+1,0,none⟩ (G o.code)).setCell ⟨S+1,1,none⟩ (G o.res)).setCell ⟨S+1,2,none⟩ (G o.a)).setCell ⟨S+1,3,none⟩ (G o.b)).setCell ⟨S+1,4,none⟩ (.int .u16 o.n)).setCell ⟨S+1,5,none⟩ Zs) S o:=by have hb:=HF.out.2.2.2;exact⟨Yc hb,Yc hb,Yc hb,Yc hb,Yc hb,Yc hb⟩
  refine tk 0 af ?_
  refine tk 1 af ?_
  refine tk 2 af ?_
  have d0:=aC HB.out.r
  have f0:=bG HB.out.r
  refine aG 3 fun KK aI=>?_
  go_simp
  refine aI.out _ _ (by exact jq) (fun af=>?_)
  clear aI KK
  (try simp only[Act.put,bh])
  clear d0 f0
  refine tk 4 af ?_
  refine wpAnyH_done (by kernel_rfl) ?_ _
  refine NoPanic.normal ?_
  (try go_wp2_with fail)
  have aH:=HF.out
  generalize((((((wd.setCell ⟨S+1,0,none⟩ (G o.code)).setCell ⟨S+1,1,none⟩ (G o.res)).setCell ⟨S+1,2,none⟩ (G o.a)).setCell ⟨S+1,3,none⟩ (G o.b)).setCell ⟨S+1,4,none⟩ (.int .u16 o.n)).setCell ⟨S+1,5,none⟩ Zs)=wF at aH⊢
  obtain⟨fz,fL,fG,_⟩:=aH
  have e0:=aC fz
  refine bodyPost_ret (v:=.tuple #[OV o,G o.a]) (by simp[results,Tryz.results153,go_sem,e0];done) rfl ?_
  exact⟨o,o.a,s,rfl,⟨rfl,rfl⟩,fL,fG⟩
theorem ay2 (w:World) (gr bk al df nm ob cm om:Nat) (s:St) (o:aE) (b:Int) (hs:cB M s) (dQ:s.next≤1000000) (hc:o.code=12∨o.code=13∨o.code=14) (hb:b.tmod 16≠0) (h:Gc w gr bk al df nm ob cm om s):Calls Tryz.prog 153 #[.pointer (ad gr),OV o,.int .u16 b] w (bP w gr bk al df nm ob cm om s (.Bb o (b.tmod 16))):=by
 rcases hc with hc|hc|hc
 all_goals
  obtain⟨S,hS⟩:∃S,w.heap.size=S:=⟨_,rfl⟩
  have dS:(b.tmod 16==0)=false:=by simpa using hb
  have HS:=cf hs
  clear hb hs
  have k5:=Za 5 hc
  have k6:=Za 6 hc
  have oI:=Za 12 hc
  have oH:=Za 13 hc
  have oG:=Za 14 hc
  have rj:=Za 16 hc
  have rk:=Za 11 hc
  have HC:=cf hc
  clear hc
  have aF:=cw.start o hS h
  clear h
  go_enter Tryz.func153,Tryz.ntmps153
  go_upto_region 1 with fail
  generalize(w.alloc (OC o)).alloc (.cells #[G 0,G 0,G 0,G 0,.int .u16 0,Zs] 67)=w2 at aF⊢
  have c0:=bf aF.b
  have ca:=bZ w2 gr bk al df nm ob cm om s (b.tmod 16) aF.g HS.out dQ
  have tb:=cf aF
  clear aF
  obtain⟨cv,fQ⟩:∃cv,cv=(aK s (b.tmod 16)).1:=⟨_,rfl⟩
  obtain⟨s9,Hr⟩:∃s9,s9=(aK s (b.tmod 16)).2:=⟨_,rfl⟩
  rw[←fQ,←Hr]at ca
  have HR:=cf (And.intro fQ Hr)
  clear fQ Hr
  go_upto_region 18 with(first
   |(go_at_call 80;(with_reducible refine ca.mono ?_);rintro e w7 ⟨v7,rfl,rfl,c7,g7⟩;have bj:=tb.out.call c7 g7;have d3:w7.cell? ⟨S,3,none⟩=some (G o.b):=Yc bj.b;have f3:w7.frozen? ⟨S,3,none⟩=false:=au bj.b;have PQ:=cf bj;clear bj c7 g7))
  clear c0 dS d3 f3
  have aF:=PQ.out.Vt cv
  clear PQ tb
  generalize w7.setCell ⟨S,3,none⟩ (G cv)=w8 at aF⊢
  obtain⟨oo,pH⟩:∃oo:aE,oo={o with b:=cv}:=⟨_,rfl⟩
  rw[←pH]at aF
  have XT:=cf pH
  have QK:=cf ((congrArg aE.code pH).trans HC.out)
  clear pH
  obtain⟨X,hX⟩:∃X,w8.heap.size=X:=⟨_,rfl⟩
  have bQ:(Instr.makeMap 126 none).run Tryz.prog w8=.ok (.map (some X)) (w8.alloc (.map #[] 0)):=by rw[←hX];kernel_rfl
  obtain⟨a3,s3,u3⟩:=av (.map #[] 0) hX
  have gC:aQ .i64 (w8.alloc (.map #[] 0)) X []:=⟨_,_,a3,aN _,by simp⟩
  have l3:ak w8.heap.size w8 (w8.alloc (.map #[] 0)):=F0
  obtain⟨Bf,mD,gB,gI,cF⟩:=ay Tryz.underlying126 Tryz.underlying3 gC 7 (.int .u16 1)
  obtain⟨Be,mC,gA,gH,dd⟩:=ay Tryz.underlying126 Tryz.underlying3 gB 8 (.int .u16 1)
  obtain⟨Bd,mB,bh,gG,dW⟩:=ay Tryz.underlying126 Tryz.underlying3 gA 9 (.int .u16 65535)
  obtain⟨Bc,mA,gy,gF,gu⟩:=ay Tryz.underlying126 Tryz.underlying3 bh 10 (.int .u16 0)
  obtain⟨aT,mz,gx,gE,my⟩:=ay Tryz.underlying126 Tryz.underlying3 gy 11 (.int .u16 0)
  have lf:ak w8.heap.size w8 aT:=(((((l3).trans (gI.low (S:=w8.heap.size) (by simp only[List.mem_singleton];omega) (by simp only[s3];omega))).trans (gH.low (S:=w8.heap.size) (by simp only[List.mem_singleton];omega) (by simp only[cF,s3];omega))).trans (gG.low (S:=w8.heap.size) (by simp only[List.mem_singleton];omega) (by simp only[cF,dd,s3];omega))).trans (gF.low (S:=w8.heap.size) (by simp only[List.mem_singleton];omega) (by simp only[cF,dd,dW,s3];omega))).trans (gE.low (S:=w8.heap.size) (by simp only[List.mem_singleton];omega) (by simp only[cF,dd,dW,gu,s3];omega))
  have ef:(Instr.lookup 126 (.map (some X)) (G oo.code) true).run Tryz.prog aT=.ok (.tuple #[.int .u16 0,.bool false]) aT:=by
   rw[QK.out]
   exact aM (P:=Tryz.prog) (t:=126) Tryz.underlying126 Tryz.underlying3 gx (k:=_) (z:=.int .u16 0) (by kernel_rfl) true
  have aF:=aF.low lf
  clear lf l3 a3 s3 u3 gB gI cF gA gH dd bh gG dW gy gF gu gx gE my gC
  go_upto_region 19 with fail
  clear bQ hX mD mC mB mA mz
  have c0:=bf aF.b
  go_upto_region 22 with fail
  clear c0 ef
  obtain⟨X,hX⟩:∃X,aT.heap.size=X:=⟨_,rfl⟩
  have bQ:(Instr.makeMap 126 none).run Tryz.prog aT=.ok (.map (some X)) (aT.alloc (.map #[] 0)):=by rw[←hX];kernel_rfl
  obtain⟨a3,s3,u3⟩:=av (.map #[] 0) hX
  have kW:aQ .i64 (aT.alloc (.map #[] 0)) X []:=⟨_,_,a3,aN _,by simp⟩
  have l3:ak aT.heap.size aT (aT.alloc (.map #[] 0)):=F0
  obtain⟨KM,so,kV,kZ,gW⟩:=ay Tryz.underlying126 Tryz.underlying3 kW 7 (.int .u16 0)
  obtain⟨KL,sn,kU,kY,kS⟩:=ay Tryz.underlying126 Tryz.underlying3 kV 9 (.int .u16 0)
  obtain⟨eN,sm,kT,kX,sj⟩:=ay Tryz.underlying126 Tryz.underlying3 kU 10 (.int .u16 65535)
  have lf:ak aT.heap.size aT eN:=(((l3).trans (kZ.low (S:=aT.heap.size) (by simp only[List.mem_singleton];omega) (by simp only[s3];omega))).trans (kY.low (S:=aT.heap.size) (by simp only[List.mem_singleton];omega) (by simp only[gW,s3];omega))).trans (kX.low (S:=aT.heap.size) (by simp only[List.mem_singleton];omega) (by simp only[gW,kS,s3];omega))
  have ef:(Instr.lookup 126 (.map (some X)) (G oo.code) true).run Tryz.prog eN=.ok (.tuple #[.int .u16 0,.bool false]) eN:=by
   rw[QK.out]
   exact aM (P:=Tryz.prog) (t:=126) Tryz.underlying126 Tryz.underlying3 kT (k:=_) (z:=.int .u16 0) (by kernel_rfl) true
  have aF:=aF.low lf
  clear lf l3 a3 s3 u3 kV kZ gW kU kY kS kT kX sj kW
  go_upto_region 23 with fail
  clear bQ hX so sn sm
  have c0:=bf aF.b
  go_upto_region 26 with fail
  clear c0 ef
  obtain⟨c0,c1,c2,c3,c4,c5⟩:=aC aF.b
  obtain⟨d0,d1,d2,d3,d4,d5⟩:=aC aF.r
  obtain⟨f0,f1,f2,f3,f4,f5⟩:=bG aF.r
  have HB:=cf aF
  clear aF
  go_wp2_with fail
  clear c0 c1 c2 c3 c4 c5 d0 d1 d2 d3 d4 d5 f0 f1 f2 f3 f4 f5
  have aH:=HB.out.fin oo _ rfl
  generalize((((((eN.setCell ⟨S+1,0,none⟩ (G oo.code)).setCell ⟨S+1,1,none⟩ (G oo.res)).setCell ⟨S+1,2,none⟩ (G oo.a)).setCell ⟨S+1,3,none⟩ (G oo.b)).setCell ⟨S+1,4,none⟩ (.int .u16 oo.n)).setCell ⟨S+1,5,none⟩ Zs)=wF at aH⊢
  obtain⟨fz,fL,fG,_⟩:=aH
  have e0:=aC fz
  refine bodyPost_ret (v:=.tuple #[OV oo,G (-1)]) (by simp[results,Tryz.results153,go_sem,e0];done) rfl ?_
  exact⟨oo,(-1),s9,rfl,⟨by rw[XT.out,HR.out.1],rfl,HR.out.2⟩,fL,fG⟩
theorem zk (w:World) (gr bk al df nm ob cm om:Nat) (s:St) (o:aE) (hs:cB M s) (dQ:s.next≤1000000) (hc:o.code=16) (h:Gc w gr bk al df nm ob cm om s):Calls Tryz.prog 153 #[.pointer (ad gr),OV o,.int .u16 0] w (bP w gr bk al df nm ob cm om s (.nF 0)):=by
 obtain⟨S,hS⟩:∃S,w.heap.size=S:=⟨_,rfl⟩
 have HS:=cf hs
 clear hs
 have k5:=Za 5 hc
 have k6:=Za 6 hc
 have oI:=Za 12 hc
 have oH:=Za 13 hc
 have oG:=Za 14 hc
 have rj:=Za 16 hc
 have rk:=Za 11 hc
 have HC:=cf hc
 clear hc
 have aF:=cw.start o hS h
 clear h
 go_enter Tryz.func153,Tryz.ntmps153
 go_upto_region 1 with fail
 generalize(w.alloc (OC o)).alloc (.cells #[G 0,G 0,G 0,G 0,.int .u16 0,Zs] 67)=w2 at aF⊢
 have c0:=bf aF.b
 go_upto_region 14 with fail
 clear c0
 have bF:=aF.low ((ak.refl _ _).drew)
 refine wp_region_noPanic ?_
 refine wp_region_held_drew (S:=fun w'=>iF w' S o) (by kernel_rfl) ⟨Yc bF.b,Yc bF.b,Yc bF.b,Yc bF.b,Yc bF.b,Yc bF.b⟩ (fun af=>?_)
 have gk:=cf bF
 clear bF aF
 generalize w2.drew=wd at af gk⊢
 have ca:=bZ wd gr bk al df nm ob cm om s (0) gk.out.g HS.out dQ
 refine tk 0 af ?_
 refine tk 1 af ?_
 refine aG 2 fun KK aI=>?_
 refine aR rfl 80 #[.pointer (ad gr),.int .u16 (0)] (by go_simp) _ ca ?_
 rintro v7 w7 ⟨rfl,c7,g7⟩
 have bj:=gk.out.call c7 g7
 have qG:iF w7 S o:=⟨Yc bj.b,Yc bj.b,Yc bj.b,Yc bj.b,Yc bj.b,Yc bj.b⟩
 obtain⟨cv,fQ⟩:∃cv,cv=(aK s (0)).1:=⟨_,rfl⟩
 rw[←fQ]
 have HB:=cf bj;have DN:=cf fQ
 clear bj c7 g7 ca gk fQ
 refine aI.out _ _ (by exact qG) (fun af=>?_)
 clear aI KK
 (try simp only[Act.put,bh])
 have HF:=cf (HB.out.fin o _ rfl)
 have jq:iF ((((((w7.setCell ⟨S+1,0,none⟩ (G o.code)).setCell ⟨S+1,1,none⟩ (G o.res)).setCell ⟨S+1,2,none⟩ (G o.a)).setCell ⟨S+1,3,none⟩ (G o.b)).setCell ⟨S+1,4,none⟩ (.int .u16 o.n)).setCell ⟨S+1,5,none⟩ Zs) S o:=by have hb:=HF.out.2.2.2;exact⟨Yc hb,Yc hb,Yc hb,Yc hb,Yc hb,Yc hb⟩
 have d0:=aC HB.out.r
 have f0:=bG HB.out.r
 refine aG 3 fun KK aI=>?_
 go_simp
 refine aI.out _ _ (by exact jq) (fun af=>?_)
 clear aI KK
 (try simp only[Act.put,bh])
 clear d0 f0
 refine tk 4 af ?_
 refine wpAnyH_done (by kernel_rfl) ?_ _
 refine NoPanic.normal ?_
 (try go_wp2_with fail)
 have aH:=HF.out
 generalize((((((w7.setCell ⟨S+1,0,none⟩ (G o.code)).setCell ⟨S+1,1,none⟩ (G o.res)).setCell ⟨S+1,2,none⟩ (G o.a)).setCell ⟨S+1,3,none⟩ (G o.b)).setCell ⟨S+1,4,none⟩ (.int .u16 o.n)).setCell ⟨S+1,5,none⟩ Zs)=wF at aH⊢
 obtain⟨fz,fL,fG,_⟩:=aH
 have e0:=aC fz
 refine bodyPost_ret (v:=.tuple #[OV o,G cv]) (by simp[results,Tryz.results153,go_sem,e0];done) rfl ?_
 exact⟨o,cv,(aK s 0).2,rfl,⟨DN.out,rfl⟩,fL,fG⟩
theorem zp (w:World) (gr bk al df nm ob cm om:Nat) (s:St) (o:aE) (hc:o.code=11) (h:Gc w gr bk al df nm ob cm om s):Calls Tryz.prog 153 #[.pointer (ad gr),OV o,.int .u16 65535] w (bP w gr bk al df nm ob cm om s (.aW ⟨4,o.res,o.a,0,0⟩)):=by
 obtain⟨S,hS⟩:∃S,w.heap.size=S:=⟨_,rfl⟩
 have k5:=Za 5 hc
 have k6:=Za 6 hc
 have oI:=Za 12 hc
 have oH:=Za 13 hc
 have oG:=Za 14 hc
 have rj:=Za 16 hc
 have rk:=Za 11 hc
 have HC:=cf hc
 clear hc
 have aF:=cw.start o hS h
 clear h
 go_enter Tryz.func153,Tryz.ntmps153
 go_upto_region 1 with fail
 generalize(w.alloc (OC o)).alloc (.cells #[G 0,G 0,G 0,G 0,.int .u16 0,Zs] 67)=w2 at aF⊢
 have c0:=bf aF.b
 go_upto_region 17 with fail
 clear c0
 obtain⟨c0,c1,c2,c3,c4,c5⟩:=aC aF.b
 have d0:=aC aF.r
 have f0:=bG aF.r
 have HB:=cf aF
 clear aF
 go_wp2_with fail
 clear c0 c1 c2 c3 c4 c5 d0 f0
 have aH:=HB.out.fin (⟨4,o.res,o.a,0,0⟩:aE) _ rfl
 generalize((((((w2.setCell ⟨S+1,0,none⟩ (G (⟨4,o.res,o.a,0,0⟩:aE).code)).setCell ⟨S+1,1,none⟩ (G (⟨4,o.res,o.a,0,0⟩:aE).res)).setCell ⟨S+1,2,none⟩ (G (⟨4,o.res,o.a,0,0⟩:aE).a)).setCell ⟨S+1,3,none⟩ (G (⟨4,o.res,o.a,0,0⟩:aE).b)).setCell ⟨S+1,4,none⟩ (.int .u16 (⟨4,o.res,o.a,0,0⟩:aE).n)).setCell ⟨S+1,5,none⟩ Zs)=wF at aH⊢
 obtain⟨fz,fL,fG,_⟩:=aH
 have e0:=aC fz
 refine bodyPost_ret (v:=.tuple #[.agg #[G (⟨4,o.res,o.a,0,0⟩:aE).code,G (⟨4,o.res,o.a,0,0⟩:aE).res,G (⟨4,o.res,o.a,0,0⟩:aE).a,G (⟨4,o.res,o.a,0,0⟩:aE).b,.int .u16 (⟨4,o.res,o.a,0,0⟩:aE).n,Zs],G (-1)]) (by simp[results,Tryz.results153,go_sem,e0];done) rfl ?_
 exact⟨(⟨4,o.res,o.a,0,0⟩:aE),(-1),s,rfl,⟨rfl,rfl,rfl⟩,fL,fG⟩
end Go.Proofs.YtjkahfmdcpfjjaaGreat
