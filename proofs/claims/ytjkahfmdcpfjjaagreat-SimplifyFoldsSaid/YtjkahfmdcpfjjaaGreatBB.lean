/- The rules: left, right. -/
import Derived.Test.YtjkahfmdcpfjjaaGreatB7
set_option linter.unusedVariables false
namespace Go.Proofs.YtjkahfmdcpfjjaaGreat
open Go.RowKit
section
set_option maxRecDepth 100000
set_option maxHeartbeats 8000000
def nmL:List (Int×Value):=eU (eU (eU (eU (eU [] 7 (.int .u16 1)) 8 (.int .u16 1)) 9 (.int .u16 65535)) 10 (.int .u16 0)) 11 (.int .u16 0)
theorem ay4 (w:World):∃(X:Nat) (w1 w2 w3 w4 w5:World),(Instr.makeMap 126 none).run Tryz.prog w=.ok (.map (some X)) (w.alloc (.map #[] 0))∧(Instr.mapUpdate 126 (.map (some X)) (G 7) (.int .u16 1)).run Tryz.prog (w.alloc (.map #[] 0))=.ok () w1∧(Instr.mapUpdate 126 (.map (some X)) (G 8) (.int .u16 1)).run Tryz.prog w1=.ok () w2∧(Instr.mapUpdate 126 (.map (some X)) (G 9) (.int .u16 65535)).run Tryz.prog w2=.ok () w3∧(Instr.mapUpdate 126 (.map (some X)) (G 10) (.int .u16 0)).run Tryz.prog w3=.ok () w4∧(Instr.mapUpdate 126 (.map (some X)) (G 11) (.int .u16 0)).run Tryz.prog w4=.ok () w5∧aQ .i64 w5 X nmL∧ak w.heap.size w w5:=by
 obtain⟨X,hX⟩:∃X,w.heap.size=X:=⟨_,rfl⟩
 have bQ:(Instr.makeMap 126 none).run Tryz.prog w=.ok (.map (some X)) (w.alloc (.map #[] 0)):=by rw[←hX];kernel_rfl
 obtain⟨a3,s3,u3⟩:=av (.map #[] 0) hX
 have gC:aQ .i64 (w.alloc (.map #[] 0)) X []:=⟨_,_,a3,aN _,by simp⟩
 have lf:ak w.heap.size w (w.alloc (.map #[] 0)):=F0
 obtain⟨w1,mD,gB,gI,cF⟩:=ay Tryz.underlying126 Tryz.underlying3 gC 7 (.int .u16 1)
 have lf:=lf.trans (gI.low (S:=w.heap.size) (by simp only[List.mem_singleton];omega) (by simp only[s3];omega))
 obtain⟨w2,mC,gA,gH,dd⟩:=ay Tryz.underlying126 Tryz.underlying3 gB 8 (.int .u16 1)
 have lf:=lf.trans (gH.low (S:=w.heap.size) (by simp only[List.mem_singleton];omega) (by simp only[cF,s3];omega))
 obtain⟨w3,mB,bh,gG,dW⟩:=ay Tryz.underlying126 Tryz.underlying3 gA 9 (.int .u16 65535)
 have lf:=lf.trans (gG.low (S:=w.heap.size) (by simp only[List.mem_singleton];omega) (by simp only[cF,dd,s3];omega))
 obtain⟨w4,mA,gy,gF,gu⟩:=ay Tryz.underlying126 Tryz.underlying3 bh 10 (.int .u16 0)
 have lf:=lf.trans (gF.low (S:=w.heap.size) (by simp only[List.mem_singleton];omega) (by simp only[cF,dd,dW,s3];omega))
 obtain⟨w5,mz,gx,gE,my⟩:=ay Tryz.underlying126 Tryz.underlying3 gy 11 (.int .u16 0)
 have lf:=lf.trans (gE.low (S:=w.heap.size) (by simp only[List.mem_singleton];omega) (by simp only[cF,dd,dW,gu,s3];omega))
 exact⟨X,w1,w2,w3,w4,w5,bQ,mD,mC,mB,mA,mz,gx,lf⟩
def amL:List (Int×Value):=eU (eU (eU [] 7 (.int .u16 0)) 9 (.int .u16 0)) 10 (.int .u16 65535)
theorem ay6 (w:World):∃(X:Nat) (w1 w2 w3:World),(Instr.makeMap 126 none).run Tryz.prog w=.ok (.map (some X)) (w.alloc (.map #[] 0))∧(Instr.mapUpdate 126 (.map (some X)) (G 7) (.int .u16 0)).run Tryz.prog (w.alloc (.map #[] 0))=.ok () w1∧(Instr.mapUpdate 126 (.map (some X)) (G 9) (.int .u16 0)).run Tryz.prog w1=.ok () w2∧(Instr.mapUpdate 126 (.map (some X)) (G 10) (.int .u16 65535)).run Tryz.prog w2=.ok () w3∧aQ .i64 w3 X amL∧ak w.heap.size w w3:=by
 obtain⟨X,hX⟩:∃X,w.heap.size=X:=⟨_,rfl⟩
 have bQ:(Instr.makeMap 126 none).run Tryz.prog w=.ok (.map (some X)) (w.alloc (.map #[] 0)):=by rw[←hX];kernel_rfl
 obtain⟨a3,s3,u3⟩:=av (.map #[] 0) hX
 have gC:aQ .i64 (w.alloc (.map #[] 0)) X []:=⟨_,_,a3,aN _,by simp⟩
 have lf:ak w.heap.size w (w.alloc (.map #[] 0)):=F0
 obtain⟨w1,mD,gB,gI,cF⟩:=ay Tryz.underlying126 Tryz.underlying3 gC 7 (.int .u16 0)
 have lf:=lf.trans (gI.low (S:=w.heap.size) (by simp only[List.mem_singleton];omega) (by simp only[s3];omega))
 obtain⟨w2,mC,gA,gH,dd⟩:=ay Tryz.underlying126 Tryz.underlying3 gB 9 (.int .u16 0)
 have lf:=lf.trans (gH.low (S:=w.heap.size) (by simp only[List.mem_singleton];omega) (by simp only[cF,s3];omega))
 obtain⟨w3,mB,bh,gG,dW⟩:=ay Tryz.underlying126 Tryz.underlying3 gA 10 (.int .u16 65535)
 have lf:=lf.trans (gG.low (S:=w.heap.size) (by simp only[List.mem_singleton];omega) (by simp only[cF,dd,s3];omega))
 exact⟨X,w1,w2,w3,bQ,mD,mC,mB,bh,lf⟩
theorem ay1 (w:World) (gr bk al df nm ob cm om:Nat) (s:St) (o:aE) (b:Int) (x:Bool) (hk:(o.code==5)=false∧(o.code==6)=false∧(o.code==12)=false∧(o.code==13)=false∧(o.code==14)=false) (rj:(o.code==16)=false) (rk:(o.code==11)=x) (hx:x=true→(b==65535)=false) (hl:((fp nmL o.code).getD (.int .u16 0)=.int .u16 b∧(fp nmL o.code).isSome=true)) (h:Gc w gr bk al df nm ob cm om s):Calls Tryz.prog 153 #[.pointer (ad gr),OV o,.int .u16 b] w (bP w gr bk al df nm ob cm om s (.val o.a)):=by
 obtain⟨S,hS⟩:∃S,w.heap.size=S:=⟨_,rfl⟩
 have HL:=cf hl
 clear hl
 have aF:=cw.start o hS h
 clear h
 rcases Bool.eq_false_or_eq_true x with hex|hex
 all_goals
  (try have hx1:=hx hex)
  clear hx
  go_enter Tryz.func153,Tryz.ntmps153
  go_upto_region 1 with fail
  generalize(w.alloc (OC o)).alloc (.cells #[G 0,G 0,G 0,G 0,.int .u16 0,Zs] 67)=w2 at aF⊢
  have c0:=bf aF.b
  go_upto_region 18 with fail
  clear c0
  obtain⟨X,Bf,Be,Bd,Bc,aT,bQ,mD,mC,mB,mA,mz,gx,lf⟩:=ay4 w2
  have ef:(Instr.lookup 126 (.map (some X)) (G o.code) true).run Tryz.prog aT=.ok (.tuple #[.int .u16 b,.bool true]) aT:=by
   have h:=aM (P:=Tryz.prog) (t:=126) Tryz.underlying126 Tryz.underlying3 gx (k:=o.code) (z:=.int .u16 0) (by kernel_rfl) true
   rw[HL.out.1,HL.out.2]at h;exact h
  have aF:=aF.low lf
  clear lf gx
  go_upto_region 19 with fail
  clear bQ mD mC mB mA mz
  have c0:=bf aF.b
  go_upto_region 21 with fail
  clear c0 ef
  refine wp_region_noPanic ?_
  refine wp_region_held_drew (S:=fun w'=>iF w' S o) (by kernel_rfl) ⟨Yc aF.b,Yc aF.b,Yc aF.b,Yc aF.b,Yc aF.b,Yc aF.b⟩ (fun af=>?_)
  have HB:=cf (aF.low ((ak.refl _ _).drew))
  clear aF
  generalize aT.drew=wd at af HB⊢
  have HF:=cf (HB.out.fin o _ rfl)
  have jq:iF ((((((wd.setCell ⟨S+1,0,none⟩ (G o.code)).setCell ⟨S+1,1,none⟩ (G o.res)).setCell ⟨S+1,2,none⟩ (G o.a)).setCell ⟨S+1,3,none⟩ (G o.b)).setCell ⟨S+1,4,none⟩ (.int .u16 o.n)).setCell ⟨S+1,5,none⟩ Zs) S o:=by have hb:=HF.out.2.2.2;exact⟨Yc hb,Yc hb,Yc hb,Yc hb,Yc hb,Yc hb⟩
  refine tk 0 af ?_
  refine tk 1 af ?_
  refine tk 2 af ?_
  have d0:=aC HB.out.r
  have f0:=bG HB.out.r
  refine aG 3 fun KK aI=>?_
  go_simp
  refine aI.out _ _ (by exact jq) (fun af=>?_)
  clear aI KK
  (try simp only[Act.put,bh])
  clear d0 f0
  refine tk 4 af ?_
  refine wpAnyH_done (by kernel_rfl) ?_ _
  refine NoPanic.normal ?_
  (try go_wp2_with fail)
  have aH:=HF.out
  generalize((((((wd.setCell ⟨S+1,0,none⟩ (G o.code)).setCell ⟨S+1,1,none⟩ (G o.res)).setCell ⟨S+1,2,none⟩ (G o.a)).setCell ⟨S+1,3,none⟩ (G o.b)).setCell ⟨S+1,4,none⟩ (.int .u16 o.n)).setCell ⟨S+1,5,none⟩ Zs)=wF at aH⊢
  obtain⟨fz,fL,fG,_⟩:=aH
  have e0:=aC fz
  refine bodyPost_ret (v:=.tuple #[OV o,G o.a]) (by simp[results,Tryz.results153,go_sem,e0];done) rfl ?_
  exact⟨o,o.a,s,rfl,⟨rfl,rfl⟩,fL,fG⟩
theorem ay3 (w:World) (gr bk al df nm ob cm om:Nat) (s:St) (o:aE) (b:Int) {M:Int→Int} (hs:cB M s) (dQ:s.next≤1000000) (v:Int) (hk:(o.code==5)=false∧(o.code==6)=false∧(o.code==12)=false∧(o.code==13)=false∧(o.code==14)=false) (rj:(o.code==16)=false) (rk:(o.code==11)=false) (hl:((fp nmL o.code).getD (.int .u16 0)=.int .u16 v∧(fp nmL o.code).isSome=true)) (hm:((fp amL o.code).getD (.int .u16 0)=.int .u16 b∧(fp amL o.code).isSome=true)) (hv:(v==b)=false) (h:Gc w gr bk al df nm ob cm om s):Calls Tryz.prog 153 #[.pointer (ad gr),OV o,.int .u16 b] w (bP w gr bk al df nm ob cm om s (.nF b)):=by
 obtain⟨S,hS⟩:∃S,w.heap.size=S:=⟨_,rfl⟩
 have HS:=cf hs
 clear hs
 have HL:=cf hl
 have HM:=cf hm
 clear hl hm
 have aF:=cw.start o hS h
 clear h
 go_enter Tryz.func153,Tryz.ntmps153
 go_upto_region 1 with fail
 generalize(w.alloc (OC o)).alloc (.cells #[G 0,G 0,G 0,G 0,.int .u16 0,Zs] 67)=w2 at aF⊢
 have c0:=bf aF.b
 go_upto_region 18 with fail
 clear c0
 obtain⟨X,Bf,Be,Bd,Bc,aT,bQ,mD,mC,mB,mA,mz,gx,lf⟩:=ay4 w2
 have ef:(Instr.lookup 126 (.map (some X)) (G o.code) true).run Tryz.prog aT=.ok (.tuple #[.int .u16 v,.bool true]) aT:=by
  have h:=aM (P:=Tryz.prog) (t:=126) Tryz.underlying126 Tryz.underlying3 gx (k:=o.code) (z:=.int .u16 0) (by kernel_rfl) true
  rw[HL.out.1,HL.out.2]at h;exact h
 have aF:=aF.low lf
 clear lf gx
 go_upto_region 19 with fail
 clear bQ mD mC mB mA mz
 have c0:=bf aF.b
 go_upto_region 22 with fail
 clear c0 ef
 obtain⟨X,KM,KL,eN,bQ,so,sn,sm,kT,lf⟩:=ay6 aT
 have ef:(Instr.lookup 126 (.map (some X)) (G o.code) true).run Tryz.prog eN=.ok (.tuple #[.int .u16 b,.bool true]) eN:=by
  have h:=aM (P:=Tryz.prog) (t:=126) Tryz.underlying126 Tryz.underlying3 kT (k:=o.code) (z:=.int .u16 0) (by kernel_rfl) true
  rw[HM.out.1,HM.out.2]at h;exact h
 have aF:=aF.low lf
 clear lf kT
 go_upto_region 23 with fail
 clear bQ so sn sm
 have c0:=bf aF.b
 go_upto_region 25 with fail
 clear c0 ef
 have bF:=aF.low ((ak.refl _ _).drew)
 refine wp_region_noPanic ?_
 refine wp_region_held_drew (S:=fun w'=>iF w' S o) (by kernel_rfl) ⟨Yc bF.b,Yc bF.b,Yc bF.b,Yc bF.b,Yc bF.b,Yc bF.b⟩ (fun af=>?_)
 have gk:=cf bF
 clear bF aF
 generalize eN.drew=wd at af gk⊢
 have ca:=bZ wd gr bk al df nm ob cm om s b gk.out.g HS.out dQ
 refine tk 0 af ?_
 refine tk 1 af ?_
 refine tk 2 af ?_
 refine aG 3 fun KK aI=>?_
 refine aR rfl 80 #[.pointer (ad gr),.int .u16 b] (by go_simp) _ ca ?_
 rintro v7 w7 ⟨rfl,c7,g7⟩
 have bj:=gk.out.call c7 g7
 have qG:iF w7 S o:=⟨Yc bj.b,Yc bj.b,Yc bj.b,Yc bj.b,Yc bj.b,Yc bj.b⟩
 obtain⟨cv,fQ⟩:∃cv,cv=(aK s b).1:=⟨_,rfl⟩
 rw[←fQ]
 have HB:=cf bj;have DN:=cf fQ
 clear bj c7 g7 ca gk fQ
 refine aI.out _ _ (by exact qG) (fun af=>?_)
 clear aI KK
 (try simp only[Act.put,bh])
 have HF:=cf (HB.out.fin o _ rfl)
 have jq:iF ((((((w7.setCell ⟨S+1,0,none⟩ (G o.code)).setCell ⟨S+1,1,none⟩ (G o.res)).setCell ⟨S+1,2,none⟩ (G o.a)).setCell ⟨S+1,3,none⟩ (G o.b)).setCell ⟨S+1,4,none⟩ (.int .u16 o.n)).setCell ⟨S+1,5,none⟩ Zs) S o:=by have hb:=HF.out.2.2.2;exact⟨Yc hb,Yc hb,Yc hb,Yc hb,Yc hb,Yc hb⟩
 have d0:=aC HB.out.r
 have f0:=bG HB.out.r
 refine aG 4 fun KK aI=>?_
 go_simp
 refine aI.out _ _ (by exact jq) (fun af=>?_)
 clear aI KK
 (try simp only[Act.put,bh])
 clear d0 f0
 refine tk 5 af ?_
 refine wpAnyH_done (by kernel_rfl) ?_ _
 refine NoPanic.normal ?_
 (try go_wp2_with fail)
 have aH:=HF.out
 generalize((((((w7.setCell ⟨S+1,0,none⟩ (G o.code)).setCell ⟨S+1,1,none⟩ (G o.res)).setCell ⟨S+1,2,none⟩ (G o.a)).setCell ⟨S+1,3,none⟩ (G o.b)).setCell ⟨S+1,4,none⟩ (.int .u16 o.n)).setCell ⟨S+1,5,none⟩ Zs)=wF at aH⊢
 obtain⟨fz,fL,fG,_⟩:=aH
 have e0:=aC fz
 refine bodyPost_ret (v:=.tuple #[OV o,G cv]) (by simp[results,Tryz.results153,go_sem,e0];done) rfl ?_
 exact⟨o,cv,(aK s b).2,rfl,⟨DN.out,rfl⟩,fL,fG⟩
theorem ax9 (w:World) (gr bk al df nm ob cm om:Nat) (s:St) (o:aE) (b:Int) (v v2:Int) (f f2 x y:Bool) (hk:(o.code==5)=false∧(o.code==6)=false∧(o.code==12)=false∧(o.code==13)=false∧(o.code==14)=false) (rj:(o.code==16)=y) (rk:(o.code==11)=x) (hl:((fp nmL o.code).getD (.int .u16 0)=.int .u16 v∧(fp nmL o.code).isSome=f)) (hm:((fp amL o.code).getD (.int .u16 0)=.int .u16 v2∧(fp amL o.code).isSome=f2)) (hn:f=true→(v==b)=false) (ha:f2=true→(v2==b)=false) (hx:x=true→(b==65535)=false) (hy:y=true→(b==0)=false) (h:Gc w gr bk al df nm ob cm om s):Calls Tryz.prog 153 #[.pointer (ad gr),OV o,.int .u16 b] w (bP w gr bk al df nm ob cm om s (.aW o)):=by
 obtain⟨S,hS⟩:∃S,w.heap.size=S:=⟨_,rfl⟩
 have HL:=cf hl
 have HM:=cf hm
 clear hl hm
 have aF:=cw.start o hS h
 clear h
 rcases Bool.eq_false_or_eq_true f with hef|hef<;>rcases Bool.eq_false_or_eq_true f2 with heg|heg<;>rcases Bool.eq_false_or_eq_true x with hex|hex<;>rcases Bool.eq_false_or_eq_true y with hey|hey
 all_goals
  (try have Ft:=hn hef)
  (try have ha1:=ha heg)
  (try have hx1:=hx hex)
  (try have wH:=hy hey)
  clear hn ha hx hy
  go_enter Tryz.func153,Tryz.ntmps153
  go_upto_region 1 with fail
  generalize(w.alloc (OC o)).alloc (.cells #[G 0,G 0,G 0,G 0,.int .u16 0,Zs] 67)=w2 at aF⊢
  have c0:=bf aF.b
  go_upto_region 18 with fail
  clear c0
  obtain⟨X,Bf,Be,Bd,Bc,aT,bQ,mD,mC,mB,mA,mz,gx,lf⟩:=ay4 w2
  have ef:(Instr.lookup 126 (.map (some X)) (G o.code) true).run Tryz.prog aT=.ok (.tuple #[.int .u16 v,.bool f]) aT:=by
   have h:=aM (P:=Tryz.prog) (t:=126) Tryz.underlying126 Tryz.underlying3 gx (k:=o.code) (z:=.int .u16 0) (by kernel_rfl) true
   rw[HL.out.1,HL.out.2]at h;exact h
  have aF:=aF.low lf
  clear lf gx
  go_upto_region 19 with fail
  clear bQ mD mC mB mA mz
  have c0:=bf aF.b
  go_upto_region 22 with fail
  clear c0 ef
  obtain⟨X,KM,KL,eN,bQ,so,sn,sm,kT,lf⟩:=ay6 aT
  have ef:(Instr.lookup 126 (.map (some X)) (G o.code) true).run Tryz.prog eN=.ok (.tuple #[.int .u16 v2,.bool f2]) eN:=by
   have h:=aM (P:=Tryz.prog) (t:=126) Tryz.underlying126 Tryz.underlying3 kT (k:=o.code) (z:=.int .u16 0) (by kernel_rfl) true
   rw[HM.out.1,HM.out.2]at h;exact h
  have aF:=aF.low lf
  clear lf kT
  go_upto_region 23 with fail
  clear bQ so sn sm
  have c0:=bf aF.b
  go_upto_region 26 with fail
  clear c0 ef
  obtain⟨c0,c1,c2,c3,c4,c5⟩:=aC aF.b
  have d0:=aC aF.r
  obtain⟨f0,f1,f2,f3,f4,f5⟩:=bG aF.r
  have HB:=cf aF
  clear aF
  go_wp2_with fail
  clear c0 c1 c2 c3 c4 c5 d0 f0 f1 f2 f3 f4 f5
  have aH:=HB.out.fin o _ rfl
  generalize((((((eN.setCell ⟨S+1,0,none⟩ (G o.code)).setCell ⟨S+1,1,none⟩ (G o.res)).setCell ⟨S+1,2,none⟩ (G o.a)).setCell ⟨S+1,3,none⟩ (G o.b)).setCell ⟨S+1,4,none⟩ (.int .u16 o.n)).setCell ⟨S+1,5,none⟩ Zs)=wF at aH⊢
  obtain⟨fz,fL,fG,_⟩:=aH
  have e0:=aC fz
  refine bodyPost_ret (v:=.tuple #[OV o,G (-1)]) (by simp[results,Tryz.results153,go_sem,e0];done) rfl ?_
  exact⟨o,(-1),s,rfl,⟨rfl,rfl,rfl⟩,fL,fG⟩
end
section
section
variable {M : Int → Int} (w : World) (gr bk al df nm ob cm om : Nat) (s : St) (o : aE)
theorem MC (b:Int) (h:Gc w gr bk al df nm ob cm om s) (h0:o.a=0) (vb:∀p∈s.df,0<p.1):Calls Tryz.prog 207 #[.pointer (ad gr),.agg #[G o.code,G o.res,G o.a,G o.b,.int .u16 o.n,Zs],.int .u16 b] w (bP w gr bk al df nm ob cm om s (if b=0 then .val o.a else .aW o)):=by
 by_cases hb:b=0
 ·subst hb;rw[if_pos rfl];exact Ja w gr bk al df nm ob cm om s o h
 ·rw[if_neg hb];exact EO w gr bk al df nm ob cm om s o b h h0 vb hb
theorem xL (b:Int) (h:Gc w gr bk al df nm ob cm om s) (hs:cB M s) (dQ:s.next≤1000000) (hb:W b) (h5:5≤o.code) (dz:o.code≤17) (h0:o.a=0):
 Calls Tryz.prog 153 #[.pointer (ad gr),.agg #[G o.code,G o.res,G o.a,G o.b,.int .u16 o.n,Zs],.int .u16 b] w (bP w gr bk al df nm ob cm om s (ei o b)):=by
 have DR:b.tmod 16=b%16:=by unfold W at hb;rw[Int.tmod_eq_emod_of_nonneg hb.1]
 have eR:o.code=5∨o.code=6∨o.code=7∨o.code=8∨o.code=9∨o.code=10∨o.code=11∨o.code=12∨o.code=13∨o.code=14∨o.code=15∨o.code=16∨o.code=17:=by omega
 unfold ei
 rcases eR with hc|hc|hc|hc|hc|hc|hc|hc|hc|hc|hc|hc|hc<;>simp only[hc,↓reduceIte,Int.reduceEq,or_false,or_true,or_self]
 ·rw[←hc];exact Rf w gr bk al df nm ob cm om s o b _ hc (fun u hu=>MC u gr bk al df nm ob cm om s o b hu h0 hs.df) h
 ·have:=Re w gr bk al df nm ob cm om s o b hs dQ hc h
  rw[eh]at this
  rw[←hc];exact this
 ·split
  ·rename_i dS;rw[←hc];exact ay1 w gr bk al df nm ob cm om s o b false (by rw[hc];decide) (by rw[hc];decide) (by rw[hc];decide) (fun e=>by cases e) (by rw[hc,dS];exact⟨by kernel_rfl,by kernel_rfl⟩) h
  split
  ·rename_i dS;rw[←hc];have:=ay3 w gr bk al df nm ob cm om s o b hs dQ 1 (by rw[hc];decide) (by rw[hc];decide) (by rw[hc];decide) (by rw[hc];exact⟨by kernel_rfl,by kernel_rfl⟩) (by rw[hc,dS];exact⟨by kernel_rfl,by kernel_rfl⟩) (by rw[dS];decide) h;rw[dS]at this⊢;exact this
  ·rename_i h1 h2;rw[←hc];exact ax9 w gr bk al df nm ob cm om s o b 1 0 true true false false (by rw[hc];decide) (by rw[hc];decide) (by rw[hc];decide) (by rw[hc];exact⟨by kernel_rfl,by kernel_rfl⟩) (by rw[hc];exact⟨by kernel_rfl,by kernel_rfl⟩) (fun _=>by simpa using fun e:(1:Int)=b=>h1 e.symm) (fun _=>by simpa using fun e:(0:Int)=b=>h2 e.symm) (fun e=>by cases e) (fun e=>by cases e) h
 ·split
  ·rename_i dS;rw[←hc];exact ay1 w gr bk al df nm ob cm om s o b false (by rw[hc];decide) (by rw[hc];decide) (by rw[hc];decide) (fun e=>by cases e) (by rw[hc,dS];exact⟨by kernel_rfl,by kernel_rfl⟩) h
  ·rename_i h1;rw[←hc];exact ax9 w gr bk al df nm ob cm om s o b 1 0 true false false false (by rw[hc];decide) (by rw[hc];decide) (by rw[hc];decide) (by rw[hc];exact⟨by kernel_rfl,by kernel_rfl⟩) (by rw[hc];exact⟨by kernel_rfl,by kernel_rfl⟩) (fun _=>by simpa using fun e:(1:Int)=b=>h1 e.symm) (fun e=>by cases e) (fun e=>by cases e) (fun e=>by cases e) h
 ·split
  ·rename_i dS;rw[←hc];exact ay1 w gr bk al df nm ob cm om s o b false (by rw[hc];decide) (by rw[hc];decide) (by rw[hc];decide) (fun e=>by cases e) (by rw[hc,dS];exact⟨by kernel_rfl,by kernel_rfl⟩) h
  split
  ·rename_i dS;rw[←hc];have:=ay3 w gr bk al df nm ob cm om s o b hs dQ 65535 (by rw[hc];decide) (by rw[hc];decide) (by rw[hc];decide) (by rw[hc];exact⟨by kernel_rfl,by kernel_rfl⟩) (by rw[hc,dS];exact⟨by kernel_rfl,by kernel_rfl⟩) (by rw[dS];decide) h;rw[dS]at this⊢;exact this
  ·rename_i h1 h2;rw[←hc];exact ax9 w gr bk al df nm ob cm om s o b 65535 0 true true false false (by rw[hc];decide) (by rw[hc];decide) (by rw[hc];decide) (by rw[hc];exact⟨by kernel_rfl,by kernel_rfl⟩) (by rw[hc];exact⟨by kernel_rfl,by kernel_rfl⟩) (fun _=>by simpa using fun e:(65535:Int)=b=>h1 e.symm) (fun _=>by simpa using fun e:(0:Int)=b=>h2 e.symm) (fun e=>by cases e) (fun e=>by cases e) h
 ·split
  ·rename_i dS;rw[←hc];exact ay1 w gr bk al df nm ob cm om s o b false (by rw[hc];decide) (by rw[hc];decide) (by rw[hc];decide) (fun e=>by cases e) (by rw[hc,dS];exact⟨by kernel_rfl,by kernel_rfl⟩) h
  split
  ·rename_i dS;rw[←hc];have:=ay3 w gr bk al df nm ob cm om s o b hs dQ 0 (by rw[hc];decide) (by rw[hc];decide) (by rw[hc];decide) (by rw[hc];exact⟨by kernel_rfl,by kernel_rfl⟩) (by rw[hc,dS];exact⟨by kernel_rfl,by kernel_rfl⟩) (by rw[dS];decide) h;rw[dS]at this⊢;exact this
  ·rename_i h1 h2;rw[←hc];exact ax9 w gr bk al df nm ob cm om s o b 0 65535 true true false false (by rw[hc];decide) (by rw[hc];decide) (by rw[hc];decide) (by rw[hc];exact⟨by kernel_rfl,by kernel_rfl⟩) (by rw[hc];exact⟨by kernel_rfl,by kernel_rfl⟩) (fun _=>by simpa using fun e:(0:Int)=b=>h1 e.symm) (fun _=>by simpa using fun e:(65535:Int)=b=>h2 e.symm) (fun e=>by cases e) (fun e=>by cases e) h
 ·split
  ·rename_i dS;rw[←hc,dS];exact zp w gr bk al df nm ob cm om s o hc h
  split
  ·rename_i dS;rw[←hc];exact ay1 w gr bk al df nm ob cm om s o b true (by rw[hc];decide) (by rw[hc];decide) (by rw[hc];decide) (fun _=>by rw[dS];decide) (by rw[hc,dS];exact⟨by kernel_rfl,by kernel_rfl⟩) h
  ·rename_i h1 h2;rw[←hc];exact ax9 w gr bk al df nm ob cm om s o b 0 0 true false true false (by rw[hc];decide) (by rw[hc];decide) (by rw[hc];decide) (by rw[hc];exact⟨by kernel_rfl,by kernel_rfl⟩) (by rw[hc];exact⟨by kernel_rfl,by kernel_rfl⟩) (fun _=>by simpa using fun e:(0:Int)=b=>h2 e.symm) (fun e=>by cases e) (fun _=>by simpa using h1) (fun e=>by cases e) h
 ·split
  ·rename_i dS;rw[←hc];exact ay0 w gr bk al df nm ob cm om s o b (.inl hc) (DR.trans dS) h
  ·rename_i dS;rw[←hc,←DR];exact ay2 w gr bk al df nm ob cm om s o b hs dQ (.inl hc) (by rw[DR];exact dS) h
 ·split
  ·rename_i dS;rw[←hc];exact ay0 w gr bk al df nm ob cm om s o b (.inr (.inl hc)) (DR.trans dS) h
  ·rename_i dS;rw[←hc,←DR];exact ay2 w gr bk al df nm ob cm om s o b hs dQ (.inr (.inl hc)) (by rw[DR];exact dS) h
 ·split
  ·rename_i dS;rw[←hc];exact ay0 w gr bk al df nm ob cm om s o b (.inr (.inr hc)) (DR.trans dS) h
  ·rename_i dS;rw[←hc,←DR];exact ay2 w gr bk al df nm ob cm om s o b hs dQ (.inr (.inr hc)) (by rw[DR];exact dS) h
 ·rw[←hc];exact ax9 w gr bk al df nm ob cm om s o b 0 0 false false false false (by rw[hc];decide) (by rw[hc];decide) (by rw[hc];decide) (by rw[hc];exact⟨by kernel_rfl,by kernel_rfl⟩) (by rw[hc];exact⟨by kernel_rfl,by kernel_rfl⟩) (fun e=>by cases e) (fun e=>by cases e) (fun e=>by cases e) (fun e=>by cases e) h
 ·split
  ·rename_i dS;rw[←hc,dS];exact zk w gr bk al df nm ob cm om s o hs dQ hc h
  ·rename_i dS;rw[←hc];exact ax9 w gr bk al df nm ob cm om s o b 0 0 false false false true (by rw[hc];decide) (by rw[hc];decide) (by rw[hc];decide) (by rw[hc];exact⟨by kernel_rfl,by kernel_rfl⟩) (by rw[hc];exact⟨by kernel_rfl,by kernel_rfl⟩) (fun e=>by cases e) (fun e=>by cases e) (fun e=>by cases e) (fun _=>by simpa using dS) h
 ·rw[←hc];exact ax9 w gr bk al df nm ob cm om s o b 0 0 false false false false (by rw[hc];decide) (by rw[hc];decide) (by rw[hc];decide) (by rw[hc];exact⟨by kernel_rfl,by kernel_rfl⟩) (by rw[hc];exact⟨by kernel_rfl,by kernel_rfl⟩) (fun e=>by cases e) (fun e=>by cases e) (fun e=>by cases e) (fun e=>by cases e) h
theorem Ni (a:Int) (h:Gc w gr bk al df nm ob cm om s) (hs:cB M s) (dQ:s.next≤1000000):
 Calls Tryz.prog 151 #[.pointer (ad gr),.agg #[G o.code,G o.res,G o.a,G o.b,.int .u16 o.n,Zs],.int .u16 a] w (bP w gr bk al df nm ob cm om s (oC o a)):=by
 unfold oC
 split
 ·rename_i ha
  subst ha
  split
  ·rename_i h6;exact Nh w gr bk al df nm ob cm om s o h6 h
  split
  ·rename_i h6 ja
   exact ay7 w gr bk al df nm ob cm om s o ja hs dQ h
  ·rename_i h6 ja
   exact JC w gr bk al df nm ob cm om s o h6 (fun e=>ja (.inl e)) (fun e=>ja (.inr (.inl e))) (fun e=>ja (.inr (.inr e))) h
 ·rename_i ha;exact E9 w gr bk al df nm ob cm om s o a ha h
end
end
end Go.Proofs.YtjkahfmdcpfjjaaGreat
