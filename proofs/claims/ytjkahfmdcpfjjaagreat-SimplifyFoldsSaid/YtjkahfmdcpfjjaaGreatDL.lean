/- The reference: the law: constants are folded. -/
import Derived.Test.YtjkahfmdcpfjjaaGreatDJ
import Derived.Test.YtjkahfmdcpfjjaaGreatWG
set_option linter.unusedVariables false
namespace Go.Proofs.YtjkahfmdcpfjjaaGreat
open Go.RowKit
section
set_option maxRecDepth 100000
def ia (c v0 v1:Int):Array Value:= #[.int .i64 1,.int .i64 1,.int .i64 0,.int .i64 0,.int .u16 v0,.slice none 0 0,.int .i64 1,.int .i64 2,.int .i64 0,.int .i64 0,.int .u16 v1,.slice none 0 0,.int .i64 c,.int .i64 3,.int .i64 1,.int .i64 2,.int .u16 0,.slice none 0 0,.int .i64 c,.int .i64 4,.int .i64 0,.int .i64 2,.int .u16 0,.slice none 0 0,.int .i64 c,.int .i64 5,.int .i64 1,.int .i64 0,.int .u16 0,.slice none 0 0,.int .i64 25,.int .i64 (-1),.int .i64 4,.int .i64 0,.int .u16 1,.slice none 0 0,.int .i64 25,.int .i64 (-1),.int .i64 5,.int .i64 0,.int .u16 2,.slice none 0 0]
def EH (gp go gb:Nat):Go.Il.bL:=fun id ep=>if ep=0 then(if id=0 then some ⟨gp,0,1⟩else if id=1 then some ⟨go,0,42⟩else if id=2 then some ⟨gb,0,5⟩else none)else none
theorem oZ {gp go gb:Nat} {id ep:Nat} {p:Go.Il.Pl} (h:EH gp go gb id ep=some p):ep=0∧((id=0∧p=⟨gp,0,1⟩)∨(id=1∧p=⟨go,0,42⟩)∨(id=2∧p=⟨gb,0,5⟩)):=by
 unfold EH at h
 by_cases he:ep=0
 ·rw[if_pos he]at h
  refine⟨he,?_⟩
  by_cases h0:id=0
  ·rw[if_pos h0]at h;cases h;exact .inl ⟨h0,rfl⟩
  ·rw[if_neg h0]at h
   by_cases h1:id=1
   ·rw[if_pos h1]at h;cases h;exact .inr (.inl ⟨h1,rfl⟩)
   ·rw[if_neg h1]at h
    by_cases h2:id=2
    ·rw[if_pos h2]at h;cases h;exact .inr (.inr ⟨h2,rfl⟩)
    ·rw[if_neg h2]at h;cases h
 ·rw[if_neg he]at h;cases h
theorem tL (w:World) (c:Int) (h5:5≤c) (dz:c≤17) (v0 v1:Int) (gp go gb:Nat) (hp:w.heap[gp]?=some (.cells #[.int .i64 0] 3 (0,0))) (ho:w.heap[go]?=some (.cells (ia c v0 v1) 67 (0,0))) (hb:w.heap[gb]?=some (.cells #[.slice (some ⟨gp,0,none⟩) 1 1,.slice (some ⟨go,0,none⟩) 7 7,.int .i64 4,.int .i64 3,.slice none 0 0] 62 (0,0))):
 Calls Tryz.prog 31 #[.agg #[.slice (some ⟨gb,0,none⟩) 1 1]] w (fun e w'=>e=.returned (.bool true)∧ak w.heap.size w w'):=by
 letI:Go.Il.Sym:=⟨fun i=>if i=0 then v0 else v1⟩
 have hpo:gp≠go:=by rintro rfl;rw[ho]at hp;cases hp
 have hpb:gp≠gb:=by rintro rfl;rw[hb]at hp;cases hp
 have KY:go≠gb:=by rintro rfl;rw[hb]at ho;cases ho
 have Tu:Go.Il.aP (EH gp go gb) VG (#[.int .i64 0]:Array Value).toList:=(.cons _ _ _ _ (.int _ _) .nil)
 have Tt:Go.Il.aP (EH gp go gb) (opsV c) (ia c v0 v1).toList:=(.cons _ _ _ _ (.int _ _) (.cons _ _ _ _ (.int _ _) (.cons _ _ _ _ (.int _ _) (.cons _ _ _ _ (.int _ _) (.cons _ _ _ _ (.sym _ 0) (.cons _ _ _ _ .ec (.cons _ _ _ _ (.int _ _) (.cons _ _ _ _ (.int _ _) (.cons _ _ _ _ (.int _ _) (.cons _ _ _ _ (.int _ _) (.cons _ _ _ _ (.sym _ 1) (.cons _ _ _ _ .ec (.cons _ _ _ _ (.int _ _) (.cons _ _ _ _ (.int _ _) (.cons _ _ _ _ (.int _ _) (.cons _ _ _ _ (.int _ _) (.cons _ _ _ _ (.int _ _) (.cons _ _ _ _ .ec (.cons _ _ _ _ (.int _ _) (.cons _ _ _ _ (.int _ _) (.cons _ _ _ _ (.int _ _) (.cons _ _ _ _ (.int _ _) (.cons _ _ _ _ (.int _ _) (.cons _ _ _ _ .ec (.cons _ _ _ _ (.int _ _) (.cons _ _ _ _ (.int _ _) (.cons _ _ _ _ (.int _ _) (.cons _ _ _ _ (.int _ _) (.cons _ _ _ _ (.int _ _) (.cons _ _ _ _ .ec (.cons _ _ _ _ (.int _ _) (.cons _ _ _ _ (.int _ _) (.cons _ _ _ _ (.int _ _) (.cons _ _ _ _ (.int _ _) (.cons _ _ _ _ (.int _ _) (.cons _ _ _ _ .ec (.cons _ _ _ _ (.int _ _) (.cons _ _ _ _ (.int _ _) (.cons _ _ _ _ (.int _ _) (.cons _ _ _ _ (.int _ _) (.cons _ _ _ _ (.int _ _) (.cons _ _ _ _ .ec .nil))))))))))))))))))))))))))))))))))))))))))
 have Ts:Go.Il.aP (EH gp go gb) XC (#[.slice (some ⟨gp,0,none⟩) 1 1,.slice (some ⟨go,0,none⟩) 7 7,.int .i64 4,.int .i64 3,.slice none 0 0]:Array Value).toList:=
  .cons _ _ _ _ (.slice 0 0 0 1 1 true 1 1 0 ⟨gp,0,1⟩ rfl (Nat.le_refl _) (Nat.le_refl _) (fun _=>rfl) (Nat.le_refl _) (fun _=>rfl) (fun _=>Nat.le_refl _))
   (.cons _ _ _ _ (.slice 1 0 0 7 7 true 6 7 0 ⟨go,0,42⟩ rfl (Nat.le_refl _) (Nat.le_refl _) (fun _=>rfl) (Nat.le_refl _) (fun _=>rfl) (fun _=>Nat.le_refl _)) (.cons _ _ _ _ (.int _ _) (.cons _ _ _ _ (.int _ _) (.cons _ _ _ _ .ec .nil))))
 have hs:Go.Il.aV (fun b=>b<w.heap.size∧b≠gp∧b≠go∧b≠gb) (EH gp go gb) (oQ c) w:=by
  refine⟨fun id ep p h=>?_,fun id ep p Fh Ls p' h h' he=>?_,fun b h=>h.1⟩
  ·obtain⟨rfl,⟨rfl,rfl⟩|⟨rfl,rfl⟩|⟨rfl,rfl⟩⟩:=oZ h
   ·exact⟨fun x=>x.2.1 rfl,aB hp,by show 0<3;omega,_,by
     show((((Go.Il.Tr.lf.set 0 _).set 1 _).set 2 _).get 0)=_
     rw[Go.Il.Tr.bI _ _ (by decide),Go.Il.Tr.bI _ _ (by decide),Go.Il.Tr.bH],Go.Il.rF hp Tu⟩
   ·exact⟨fun x=>x.2.2.1 rfl,aB ho,by show 1<3;omega,_,by
     show((((Go.Il.Tr.lf.set 0 _).set 1 _).set 2 _).get 1)=_
     rw[Go.Il.Tr.bI _ _ (by decide),Go.Il.Tr.bH],Go.Il.rF ho Tt⟩
   ·exact⟨fun x=>x.2.2.2 rfl,aB hb,by show 2<3;omega,_,by
     show((((Go.Il.Tr.lf.set 0 _).set 1 _).set 2 _).get 2)=_
     rw[Go.Il.Tr.bH],Go.Il.rF hb Ts⟩
  ·obtain⟨rfl,⟨rfl,rfl⟩|⟨rfl,rfl⟩|⟨rfl,rfl⟩⟩:=oZ h<;>obtain⟨rfl,⟨rfl,rfl⟩|⟨rfl,rfl⟩|⟨rfl,rfl⟩⟩:=oZ h'<;>first|exact⟨rfl,rfl⟩|exact absurd he hpo|exact absurd he hpb|exact absurd he KY|exact absurd he.symm hpo|exact absurd he.symm hpb|exact absurd he.symm KY
 have ha:Go.Il.aP (EH gp go gb) [.agg [.slice 2 0 0 1 1 true 5]] (#[.agg #[.slice (some ⟨gb,0,none⟩) 1 1]]:Array Value).toList:=
  .cons _ _ _ _ (.agg _ _ (.cons _ _ _ _ (.slice 2 0 0 1 1 true 5 1 0 ⟨gb,0,5⟩ rfl (Nat.le_refl _) (Nat.le_refl _) (fun _=>rfl) (Nat.le_refl _) (fun _=>rfl) (fun _=>Nat.le_refl _)) .nil)) .nil
 refine(Go.Il.sx Db hs ha (Vk h5 dz)).mono ?_
 rintro e w' ⟨v,bt,ρ',v',rfl,k1,k2,k3,k4⟩
 unfold oR at k1
 simp only[Bool.and_eq_true]at k1
 obtain⟨⟨⟨j1,j2⟩,j3⟩,j4⟩:=k1
 have q1:=Go.Il.mj k4.le k3 j2 (cs:= #[.int .i64 0]) (blk:=gp) rfl Tu
 have q2:=Go.Il.mj k4.le k3 j3 (cs:=ia c v0 v1) (blk:=go) rfl Tt
 have q3:=Go.Il.mj k4.le k3 j4 (cs:= #[.slice (some ⟨gp,0,none⟩) 1 1,.slice (some ⟨go,0,none⟩) 7 7,.int .i64 4,.int .i64 3,.slice none 0 0]) (blk:=gb) rfl Ts
 refine⟨?_,k4.os,k4.out,k4.size,fun g hg=>?_⟩
 ·unfold Go.Il.isTrue at j1
  cases k2<;>first|(cases j1;done)|skip
  rename_i b
  cases b
  ·cases j1
  ·rfl
 ·by_cases e1:g=gp
  ·rw[e1,q1,hp]
  ·by_cases e2:g=go
   ·rw[e2,q2,ho]
   ·by_cases e3:g=gb
    ·rw[e3,q3,hb]
    ·exact k4.low g ⟨hg,e1,e2,e3⟩
end
section
set_option maxRecDepth 100000
set_option maxHeartbeats 4000000
theorem Zh (z:Int):∃r:Int,0≤r∧r<13∧(RowKit.wrap64 (z.tmod 13+13)).tmod 13=r:=by
 have h1:z.tmod 13<13:=Int.tmod_lt_of_pos z (by decide)
 have h2: -13<z.tmod 13:=Int.lt_tmod_of_pos z (by decide)
 generalize z.tmod 13=k at h1 h2
 have h3:RowKit.wrap64 (k+13)=k+13:=Go.IntWalk.wrap64_in _ ⟨by omega,by omega⟩
 rw[h3,Int.tmod_eq_emod_of_nonneg (by omega)]
 exact⟨(k+13)%13,by omega,by omega,rfl⟩
theorem RJ (w:World) (z:Int):Calls Tryz.prog 20 #[G z,G 13] w (fun e w'=>w'=w∧∃r:Int,0≤r∧r<13∧e=.returned (G r)):=by
 go_enter Tryz.func20,Tryz.ntmps20
 go_wp2_with fail
 go_ret
 refine⟨rfl,?_⟩
 obtain⟨r,h0,h1,h⟩:=Zh z
 exact⟨r,h0,h1,by rw[h];rfl⟩
theorem GZ {w:World} {gp go gb:Nat} {c v0 v1:Int} (hp:w.heap[gp]?=some (.cells #[G 0] 3 (0,0))) (ho:w.heap[go]?=some (.cells (ia c v0 v1) 67 (0,0))) (hb:w.heap[gb]?=some (.cells #[.slice (ad gp) 1 1,.slice (ad go) 7 7,G 4,G 3,Zs] 62 (0,0))):fe w gb (ad gp) 1 (ad go) 7 7 none 0 (bY c v0 v1) 3:=by
 refine⟨⟨_,hb,rfl,rfl,rfl,rfl,rfl⟩,⟨rfl,fun j o hj=>?_⟩,⟨gp,_,rfl,Nat.le_refl _,hp,rfl⟩⟩
 have bw:=(List.getElem?_eq_some_iff.1 hj).1
 have hl:(bY c v0 v1).length=7:=rfl
 have eR:j=0∨j=1∨j=2∨j=3∨j=4∨j=5∨j=6:=by omega
 rcases eR with rfl|rfl|rfl|rfl|rfl|rfl|rfl
 all_goals(
  have e:=Option.some.inj hj
  subst e
  exact⟨go,_,rfl,Nat.le_refl _,ho,rfl,rfl,rfl,rfl,rfl,rfl⟩)
end
section
structure Good (c v0 v1 x:Int) (K:List aE) (eS:Int) (M':Int→Int):Prop where
 len:K.length≤40
 ok:kC K eS
 can:pD K
 N3:ij K
 norm:∀o∈K,vQ K (K.flatMap bl++[eS]) o
 word:∀v,W (M' v)
 zero:M' 0=x
 fj:∀o∈K,jx M' o
 same:∀r kind xs r' yk GC,AS (di c v0 v1 x) (bY c v0 v1) 3 r kind xs→AS M' K eS r' yk GC→r=r'∧kind=yk∧xs=GC
variable {c x:Int} {l:List aE}
theorem SC {v0 v1:Int} {s:St} {H:List aE} {ret:Int} (h5:5≤c) (dz:c≤17) (hD:PU (di c v0 v1 x) (tP c v1 x) (xU c v0 v1 x) (Bn c v0 v1) 14 s l ret) (hH:DJ s l ret H):
 Good c v0 v1 x (De (H++l)) (bK (H++l) ret) (kh (H++l) (cj (aA s.nm) (di c v0 v1 x))):=by
 have hF:=Dj hD hH (by omega)
 have hp:=zx hD hH (by omega)
 refine⟨by rw[hF.len];exact hp.len,hF.ok,hF.can,hF.N3,hF.norm,hF.word,?_,hF.fj,fun r kind xs r' yk GC a b=>IU h5 dz hD hH a b⟩
 rw[hF.zero]
 unfold cj
 rw[hD.fr.ok.low (by omega)]
 rfl
theorem zT (w:World) {v0 v1:Int} (h5:5≤c) (dz:c≤17) (h0:W v0) (h1:W v1) (hx:W x) {gp go gb:Nat} (hp:w.heap[gp]?=some (.cells #[G 0] 3 (0,0))) (ho:w.heap[go]?=some (.cells (ia c v0 v1) 67 (0,0))) (hb:w.heap[gb]?=some (.cells #[.slice (ad gp) 1 1,.slice (ad go) 7 7,G 4,G 3,Zs] 62 (0,0))):
 Calls Tryz.prog 13 #[.agg #[.slice (ad gb) 1 1]] w (fun e w'=>ak w.heap.size w w'∧∃(g' cr:Nat) (cT:Option Addr) (cS:Nat) (A':Option Addr) (n' c':Nat) (K:List aE) (eS:Int) (M':Int→Int),e=.returned (.agg #[.slice (ad g') 1 cr])∧1≤cr∧n'≤40∧fe w' g' cT cS A' n' c' none 0 K eS∧Good c v0 v1 x K eS M'):=by
 obtain⟨a1,a2,hS⟩:=Vv (M:=di c v0 v1 x) (v0:=v0) (v1:=v1) (xp h5 h0 h1 hx) rfl rfl
 have Sg:=Bw (M:=di c v0 v1 x) (T0:=tP c v1 x) (outs:=xU c v0 v1 x) (rv:=Bn c v0 v1) (N:=14) w gb 1 (ad gp) 1 (ad go) 7 7 none 0 (bY c v0 v1) 3 (GZ hp ho hb) (by omega) (BZ h5 dz) (MH h5) (by decide) (by rw[B0];rfl) MJ BY.2.2.2.1 (fun q hq=>by
  rcases Rt (v0:=v0) (v1:=v1) h5 q hq with e|e|e
  ·rw[e];exact⟨hS.ok0,by show(6:Int)≤1000000;omega⟩
  ·rw[e];exact⟨hS.ok1,by have:=hS.x1;omega⟩
  ·rw[e];exact⟨hS.Yf,by have:=hS.x2;omega⟩) (by rw[rG h5];simp[MG]) (by rw[rG h5];exact Ru h5 dz hS) (by rw[rG h5];exact hS.cm) (by omega) (by simp[xU]) (fun u hl=>tL u c h5 dz v0 v1 gp go gb (hl.some hp) (hl.some ho) (hl.some hb))
 refine Sg.mono ?_
 rintro e w' ⟨hl,g',cr,cT,cS,A',c',s',l',eS,H,rfl,oh,hD,hH,hF⟩
 have hg:=SC h5 dz hD hH
 have hn:H.length+l'.length≤40:=by
  have:=(zx hD hH (by omega)).len
  rwa[List.length_append]at this
 exact⟨hl,g',cr,cT,cS,A',H.length+l'.length,c',_,_,_,rfl,oh,hn,hF,hg⟩
theorem Mp {M:Int→Int} {ret r kind:Int} {xs:List (Int×Int)} (h:AS M l ret r kind xs):xs.length≤l.length:=by
 have key:∀L:List aE,(dK M L).length≤L.length:=fun L=>List.length_filterMap_le _ _
 rcases h with⟨_,_,_,h⟩|⟨q,o,_,_,_,_,_,h⟩
 ·rw[h];exact key l
 ·rw[h]
  exact Nat.le_trans (key _) (List.length_take_le' q l)
end
section
set_option maxRecDepth 100000
set_option maxHeartbeats 8000000
theorem RI (w:World) (z:Int):Calls Tryz.prog 20 #[G z,G 13] w (fun e w'=>w'=w∧∃r:Int,IntKind.i64.wrap (5+r)=5+r∧(5≤5+r∧5+r≤17)∧e=.returned (G r)):=(RJ w z).mono (by
 rintro e w' ⟨h,r,h0,h1,h2⟩
 exact⟨h,r,Go.IntWalk.i64_in _ (by omega),by omega,h2⟩)
variable {w w':World}
theorem ak.frame (h:ak w.heap.size w w') (may:MemPlace→Prop):w.keptBut w' may:=by
 refine⟨h.os,h.out,fun i hi=>?_⟩
 rw[h.block i hi]
 split<;>simp_all
theorem Hn (hk:w.keptBut w' (fun _=>False)) {g j:Nat} {v:Value} (hc:w.cell? ⟨g,j,none⟩=some v):w'.cell? ⟨g,j,none⟩=some v:=(hk.cell (bq hc) (fun f=>f)).trans hc
variable {a b:Nat}
theorem QU (o1 o2:Obj) (h1:a=w.heap.size) (h2:b=a+1):∀w',w'=(w.alloc o1).alloc o2→ak w.heap.size w w'∧w'.heap[a]?=some o1∧w'.heap[b]?=some o2:=by
 rintro w' rfl
 obtain⟨a1,s1,u1⟩:=av o1 h1.symm
 obtain⟨a2,s2,u2⟩:=av o2 s1
 subst h2
 exact⟨((ak.refl _ w).alloc (Nat.le_refl _) _).alloc (by omega) _,u2 _ _ a1,a2⟩
theorem xw {c:Nat} (o1 o2 o3:Obj) (h1:a=w.heap.size) (h2:b=a+1) (h3:c=a+1+1):∀w',w'=((w.alloc o1).alloc o2).alloc o3→ak w.heap.size w w'∧w'.heap[a]?=some o1∧w'.heap[b]?=some o2∧w'.heap[c]?=some o3:=by
 rintro w' rfl
 obtain⟨a1,s1,u1⟩:=av o1 h1.symm
 obtain⟨a2,s2,u2⟩:=av o2 s1
 obtain⟨a3,s3,u3⟩:=av o3 s2
 subst h2 h3
 exact⟨(((ak.refl _ w).alloc (Nat.le_refl _) _).alloc (by omega) _).alloc (by omega) _,u3 _ _ (u2 _ _ a1),u3 _ _ a2,a3⟩
theorem RQ (w:World) (z v0 v1 x:Int) (h0:W v0) (h1:W v1) (hx:W x):
 Calls Tryz.prog 5 #[G z,.agg #[.int .u16 v0,.int .u16 v1],.int .u16 x] w (fun e w'=>e=.returned (.bool true)∧w.keptBut w' (fun _=>False)):=by
 have H0:=cf h0;have H1:=cf h1;have HX:=cf hx
 have l0:ak w.heap.size w (w.alloc (.cells #[.int .u16 v0,.int .u16 v1] 64)):=F0
 have a0:=ao w (.cells #[.int .u16 v0,.int .u16 v1] 64)
 obtain⟨b0,b1⟩:=gV a0
 have gk:=cf b0;have HB1:=cf b1;have HL0:=cf l0
 clear h0 h1 hx l0 a0 b0 b1
 go_enter Tryz.func5,Tryz.ntmps5
 go_upto_region 2 with(first
  |(go_at_call 10;(with_reducible refine(EB _).mono ?_);rintro e w1 ⟨rfl,Fz⟩))
 have HK1:=cf (World.keptBut_trans (HL0.out.frame (fun _=>False)) Fz.1)
 have x0:=Hn Fz.1 gk.out
 have x1:=Hn Fz.1 HB1.out
 clear Fz gk HB1 HL0
 generalize w.heap.size=t4 at x0 x1⊢
 go_upto_region 3 with(first
  |(go_at_call 20;(with_reducible refine(RI _ _).mono ?_);rintro e w9 ⟨he,r,hwr,ZY,rfl⟩;rw[he];clear he w9))
 obtain⟨c,hc⟩:∃c,c=5+r:=⟨_,rfl⟩
 have HC:Hid (5≤c∧c≤17):=cf (by rw[hc];exact ZY)
 rw[←hc]
 clear hc hwr ZY
 obtain⟨go,iN⟩:∃S,w1.heap.size=S:=⟨_,rfl⟩
 obtain⟨a1,s1,u1⟩:=av (.cells (ia c v0 v1) 67) iN
 obtain⟨a2,s2,u2⟩:=av (.cells #[G 0] 3) s1
 obtain⟨a3,s3,u3⟩:=av (.cells #[.slice (ad (go+1)) 1 1,.slice (ad go) 7 7,G 4,G 3,Zs] 62) s2
 obtain⟨a4,s4,u4⟩:=av (.cells #[.slice (ad (go+1+1)) 1 1] 40) s3
 have l4:ak w1.heap.size w1 ((((w1.alloc (.cells (ia c v0 v1) 67)).alloc (.cells #[G 0] 3)).alloc (.cells #[.slice (ad (go+1)) 1 1,.slice (ad go) 7 7,G 4,G 3,Zs] 62)).alloc (.cells #[.slice (ad (go+1+1)) 1 1] 40)):=((((ak.refl _ w1).alloc (Nat.le_refl _) _).alloc (by omega) _).alloc (by omega) _).alloc (by omega) _
 have ho:((((w1.alloc (.cells (ia c v0 v1) 67)).alloc (.cells #[G 0] 3)).alloc (.cells #[.slice (ad (go+1)) 1 1,.slice (ad go) 7 7,G 4,G 3,Zs] 62)).alloc (.cells #[.slice (ad (go+1+1)) 1 1] 40)).heap[go]?=some (.cells (ia c v0 v1) 67 (0,0)):=u4 _ _ (u3 _ _ (u2 _ _ a1))
 have hp:=u4 _ _ (u3 _ _ a2)
 have hb:=u4 _ _ a3
 have HO:=cf ho;have HP:=cf hp;have HB:=cf hb;have HT:=cf a4;have HL:=cf l4
 have HGO:Hid (w1.heap.size=go):=cf iN
 clear ho hp hb a4 l4 a1 a2 a3 u1 u2 u3 u4 s1 s2 s3 s4
 go_upto_region 5 with fail
 clear iN x0 x1
 obtain⟨gp,pJ⟩:∃t,t=go+1:=⟨_,rfl⟩
 obtain⟨gb,Ul⟩:∃t,t=go+1+1:=⟨_,rfl⟩
 obtain⟨t10,mF⟩:∃t,t=go+1+1+1:=⟨_,rfl⟩
 rw[←mF,←Ul,←pJ]
 rw[←mF]at HT
 rw[←Ul,←pJ]at HO HP HB HT HL
 clear pJ Ul mF
 generalize hW:World.alloc _ _=w4
 have e4:(((w1.alloc (.cells (ia c v0 v1) 67)).alloc (.cells #[G 0] 3)).alloc (.cells #[.slice (ad gp) 1 1,.slice (ad go) 7 7,G 4,G 3,Zs] 62)).alloc (.cells #[.slice (ad gb) 1 1] 40)=w4:=hW
 rw[e4]at HO HP HB HT HL
 clear e4 hW
 have y10:=bf HT.out
 have Sg:=zT w4 HC.out.1 HC.out.2 H0.out H1.out HX.out HP.out HO.out HB.out
 go_upto_region 6 with(first
  |(go_at_call 13;(with_reducible refine Sg.mono ?_);rintro e w5 ⟨l5,g',cr,cT,cS,A',n',c',K,eS,M',rfl,oh,CN,hF,hG⟩;have HF:=cf hF;have HG:=cf hG;have L5:=cf (HL.out.trans (l5.mono HL.out.size));have HP5:=cf (l5.some HP.out);have HO5:=cf (l5.some HO.out);have HB5:=cf (l5.some HB.out);have DK:=cf (l5.some HT.out);have HCR:=cf oh;have HN:=cf CN;clear l5 hF hG Sg y10 HP HO HB HT HL oh CN))
 have l6:ak w5.heap.size w5 (w5.alloc (.cells #[.slice (ad g') 1 cr] 40)):=F0
 have a6:=ao w5 (.cells #[.slice (ad g') 1 cr] 40)
 obtain⟨t11,iq⟩:∃t,t=w5.heap.size:=⟨_,rfl⟩
 rw[←iq]at a6⊢
 clear iq
 generalize w5.alloc (.cells #[.slice (ad g') 1 cr] 40)=w6 at l6 a6⊢
 have F6:=HF.out.low l6;have L6:=L5.out.trans (l6.mono L5.out.size);have P6:=l6.some HP5.out;have O6:=l6.some HO5.out;have B6:=l6.some HB5.out;have T6:=l6.some DK.out
 have To:=bf a6
 have KZ:=EZ w6 g' cr cT cS A' n' c' none 0 K eS F6 HN.out HG.out.ok HG.out.can HG.out.N3 HG.out.norm (fl K) HG.out.can.count HCR.out
 have HF6:=cf F6;have Ti:=cf L6;have HP6:=cf P6;have UY:=cf O6;have Lx:=cf B6;have HT6:=cf T6;have QL:=cf a6
 clear l6 a6 F6 L6 P6 O6 B6 T6 HF L5 HP5 HO5 HB5 DK
 go_upto_region 7 with(first
  |(go_at_call 19;(with_reducible refine KZ.mono ?_);rintro e w7 ⟨rfl,l7⟩;have Tj:=cf (HF6.out.low l7);have XY:=cf (Ti.out.trans (l7.mono Ti.out.size));have HP7:=cf (l7.some HP6.out);have HO7:=cf (l7.some UY.out);have PQ:=cf (l7.some Lx.out);have HT7:=cf (l7.some HT6.out);have HA7:=cf (l7.some QL.out);clear l7 KZ To HF6 Ti HP6 UY Lx HT6 QL))
 obtain⟨gm,Qt⟩:∃t,t=w7.heap.size:=⟨_,rfl⟩
 obtain⟨t13,Wa⟩:∃t,t=gm+1:=⟨_,rfl⟩
 go_upto_region 8 with fail
 rw[←Qt,←Wa]
 have hv:=QU (.cells #[Zs,Zs,G 5,G 0,Zs] 62) (.cells #[.slice (ad gm) 1 1] 40) Qt Wa _ rfl
 clear Qt Wa
 generalize(w7.alloc (.cells #[Zs,Zs,G 5,G 0,Zs] 62)).alloc (.cells #[.slice (ad gm) 1 1] 40)=w8 at hv⊢
 obtain⟨l8,m8,t8⟩:=hv
 have Vb:=cf (Tj.out.low l8);have HL8:=cf (XY.out.trans (l8.mono XY.out.size));have HP8:=cf (l8.some HP7.out);have HO8:=cf (l8.some HO7.out);have HB8:=cf (l8.some PQ.out);have HT8:=cf (l8.some HT7.out);have HA8:=cf (l8.some HA7.out)
 have HM8:Hid (oO w8 gm):=cf ⟨_,m8,rfl,rfl,rfl,rfl,rfl⟩
 have HK8:=cf t8
 have y13:=bf t8
 have y10:=bf HT8.out
 clear l8 m8 t8 Tj XY HP7 HO7 PQ HT7 HA7
 obtain⟨fb,JZ⟩:∃t,t=w8.heap.size:=⟨_,rfl⟩
 obtain⟨ab,Sz⟩:∃t,t=fb+1:=⟨_,rfl⟩
 obtain⟨t14,ph⟩:∃t,t=fb+1+1:=⟨_,rfl⟩
 go_upto_region 9 with fail
 rw[←JZ,←ph,←Sz]
 have hv:=xw (.cells #[.slice (ad gm) 1 1,.slice (ad gb) 1 1] 40) (.cells #[G 0,G 1] 3) (.cells #[.slice (ad fb) 2 2,.slice (ad ab) 2 2,G 0,G (-1),Zs,Zs] 34) JZ Sz ph _ rfl
 clear JZ Sz ph
 generalize((w8.alloc (.cells #[.slice (ad gm) 1 1,.slice (ad gb) 1 1] 40)).alloc (.cells #[G 0,G 1] 3)).alloc (.cells #[.slice (ad fb) 2 2,.slice (ad ab) 2 2,G 0,G (-1),Zs,Zs] 34)=w9 at hv⊢
 obtain⟨lv,Tu,Tt,Ts⟩:=hv
 have HF9:=cf (Vb.out.low lv);have yQ:=cf (HL8.out.trans (lv.mono HL8.out.size));have HP9:=cf (lv.some HP8.out);have HO9:=cf (lv.some HO8.out);have Tl:=cf (lv.some HB8.out);have YO:=cf (lv.some HA8.out);have HM9:=cf (HM8.out.low lv);have HK9:=cf (lv.some HK8.out)
 have HPR:Hid (lr w9 fb 2 ab 2 gm 1 gb 1):=cf ⟨_,_,Tu,rfl,rfl,Tt,rfl,rfl,by omega,by omega,by omega,by omega⟩
 have HV9:=cf Ts
 clear lv Tu Tt Ts y13 y10 Vb HL8 HP8 HO8 HB8 HT8 HA8 HM8 HK8
 have y13:=bf HK9.out
 have To:=bf YO.out
 obtain⟨Xd,WD⟩:∃t,t=w9.heap.size:=⟨_,rfl⟩
 obtain⟨ab2,W1⟩:∃t,t=Xd+1:=⟨_,rfl⟩
 obtain⟨t15,sQ⟩:∃t,t=Xd+1+1:=⟨_,rfl⟩
 go_upto_region 10 with fail
 rw[←WD,←sQ,←W1]
 have hv:=xw (.cells #[.slice (ad gm) 1 1,.slice (ad g') 1 cr] 40) (.cells #[G 0,G 1] 3) (.cells #[.slice (ad Xd) 2 2,.slice (ad ab2) 2 2,G 0,G (-1),Zs,Zs] 34) WD W1 sQ _ rfl
 clear WD W1 sQ
 generalize((w9.alloc (.cells #[.slice (ad gm) 1 1,.slice (ad g') 1 cr] 40)).alloc (.cells #[G 0,G 1] 3)).alloc (.cells #[.slice (ad Xd) 2 2,.slice (ad ab2) 2 2,G 0,G (-1),Zs,Zs] 34)=wa at hv⊢
 obtain⟨lv,Tu,Tt,Ts⟩:=hv
 have HFa:=cf (HF9.out.low lv);have HLa:=cf (yQ.out.trans (lv.mono yQ.out.size));have HPa:=cf (lv.some HP9.out);have HOa:=cf (lv.some HO9.out);have HBa:=cf (lv.some Tl.out);have HMa:=cf (HM9.out.low lv);have ag4:=cf (HPR.out.low lv);have HVa:=cf (lv.some HV9.out)
 have XS:Hid (lr wa Xd 2 ab2 2 gm 1 g' cr):=cf ⟨_,_,Tu,rfl,rfl,Tt,rfl,rfl,by omega,by omega,by omega,HCR.out⟩
 have HUa:=cf Ts
 clear lv Tu Tt Ts y13 To HF9 yQ HP9 HO9 Tl YO HM9 HK9 HPR HV9
 have z0:=aC HUa.out
 have ZJ:=rq wa Xd 2 ab2 2 gm 1 g' cr cT cS A' n' c' none 0 K eS XS.out HMa.out HFa.out HN.out HG.out.ok
 go_upto_region 12 with(first
  |(go_at_call 15;(with_reducible refine ZJ.mono ?_);rintro e wb ⟨rfl,lb⟩;have HFb:=cf (HFa.out.low lb);have HLb:=cf (HLa.out.trans (lb.mono HLa.out.size));have HPb:=cf (lb.some HPa.out);have HOb:=cf (lb.some HOa.out);have HBb:=cf (lb.some HBa.out);have HMb:=cf (HMa.out.low lb);have ag3:=cf (ag4.out.low lb);have HVb:=cf (lb.some HVa.out);have ag2:=cf (XS.out.low lb);have HUb:=cf (lb.some HUa.out);clear lb ZJ z0 HFa HLa HPa HOa HBa HMa ag4 HVa XS HUa))
 have z0:=aC HVb.out
 have lx:ak wb.heap.size wb (wb.alloc (.cells #[.int .u16 x] 27)):=F0
 have ax:=ao wb (.cells #[.int .u16 x] 27)
 have Le:=Dh (wb.alloc (.cells #[.int .u16 x] 27)) gm 1 fb 2 ab 2 gb 1 (ad gp) 1 (ad go) 7 7 none 0 (bY c v0 v1) 3 (ag3.out.low lx) (HMb.out.low lx) (GZ (lx.some HPb.out) (lx.some HOb.out) (lx.some HBb.out)) (by omega) (Rs HC.out.1 HC.out.2) (di c v0 v1 x) (xp HC.out.1 H0.out H1.out HX.out) (MI HC.out.1 HC.out.2) wb.heap.size 1 (Nat.le_refl _) ax
 have HFc:=cf (HFb.out.low lx);have HLc:=cf (HLb.out.trans (lx.mono HLb.out.size));have HMc:=cf (HMb.out.low lx);have ag1:=cf (ag2.out.low lx);have HUc:=cf (lx.some HUb.out)
 clear lx ax HFb HLb HPb HOb HBb HMb ag3 HVb ag2 HUb
 go_upto_region 13 with(first
  |(go_at_call 21;(with_reducible refine Le.mono ?_);rintro e wd ⟨r1,O1,n1,c1,k1,xs1,rfl,ld,CK,sR⟩;have HFd:=cf (HFc.out.low ld);have je:=cf (HLc.out.trans (ld.mono HLc.out.size));have HMd:=cf (HMc.out.low ld);have ag0:=cf (ag1.out.low ld);have HUd:=cf (ld.some HUc.out);have HO1:=cf CK;have HR1:=cf sR;clear ld CK sR Le z0 HFc HLc HMc ag1 HUc))
 have le:ak wd.heap.size wd (wd.alloc (.cells #[.int .u16 r1,.slice O1 n1 c1,G k1,.int .u16 0,.string gj,G 0,G 0] 49)):=F0
 have ae:=ao wd (.cells #[.int .u16 r1,.slice O1 n1 c1,G k1,.int .u16 0,.string gj,G 0,G 0] 49)
 obtain⟨S1,Bm⟩:∃S,S=(wb.alloc (.cells #[.int .u16 x] 27)).heap.size:=⟨_,rfl⟩
 rw[←Bm]at HO1
 clear Bm
 obtain⟨t16,Nu⟩:∃t,t=wd.heap.size:=⟨_,rfl⟩
 rw[←Nu]at ae⊢
 clear Nu
 generalize wd.alloc (.cells #[.int .u16 r1,.slice O1 n1 c1,G k1,.int .u16 0,.string gj,G 0,G 0] 49)=we at le ae⊢
 have HFe:=cf (HFd.out.low le);have U2:=cf (je.out.trans (le.mono je.out.size));have HMe:=cf (HMd.out.low le);have af9:=cf (ag0.out.low le);have HUe:=cf (le.some HUd.out);have YL:=cf (HO1.out.low le);have HAe:=cf ae
 clear le ae HFd je HMd ag0 HUd HO1
 have z0:=aC HUe.out
 have lx:ak we.heap.size we (we.alloc (.cells #[.int .u16 x] 27)):=F0
 have ax:(we.alloc (.cells #[.int .u16 x] 27)).heap[we.heap.size]?=some (.cells #[.int .u16 (M' 0)] 27 (0,0)):=by rw[HG.out.zero];exact ao we (.cells #[.int .u16 x] 27)
 have Le:=Dh (we.alloc (.cells #[.int .u16 x] 27)) gm 1 Xd 2 ab2 2 g' cr cT cS A' n' c' none 0 K eS (af9.out.low lx) (HMe.out.low lx) (HFe.out.low lx) HN.out HG.out.ok M' HG.out.word HG.out.fj we.heap.size 1 (Nat.le_refl _) ax
 have HLf:=cf (U2.out.trans (lx.mono U2.out.size));have HOf:=cf (YL.out.low lx);have HAf:=cf (lx.some HAe.out)
 clear lx ax HFe U2 HMe af9 HUe YL HAe
 go_upto_region 14 with(first
  |(go_at_call 21;(with_reducible refine Le.mono ?_);rintro e wg ⟨r2,O2,n2,c2,k2,xs2,rfl,lg,Ab,DT⟩;have HLg:=cf (HLf.out.trans (lg.mono HLf.out.size));have HOg:=cf (HOf.out.low lg);have HAg:=cf (lg.some HAf.out);have HO2:=cf Ab;have HR2:=cf DT;clear lg Ab DT Le z0 HLf HOf HAf))
 obtain⟨rfl,rfl,rfl⟩:=HG.out.same _ _ _ _ _ _ HR1.out HR2.out
 obtain rfl:n1=n2:=HOg.out.1.symm.trans HO2.out.1
 have Ft:n1≤7:=by rw[←HOg.out.1];exact Mp HR1.out
 have lh:ak wg.heap.size wg (wg.alloc (.cells #[.int .u16 r1,.slice O2 n1 c2,G k1,.int .u16 0,.string gj,G 0,G 0] 49)):=F0
 have ah:=ao wg (.cells #[.int .u16 r1,.slice O2 n1 c2,G k1,.int .u16 0,.string gj,G 0,G 0] 49)
 obtain⟨t17,Cv⟩:∃t,t=wg.heap.size:=⟨_,rfl⟩
 rw[←Cv]at ah⊢
 clear Cv
 have XU:=cf (HO2.out.low lh);have HOh:=cf (HOg.out.low lh);have HAh:=cf (lh.some HAg.out)
 have HLh:=cf (HLg.out.trans (lh.mono HLg.out.size))
 generalize wg.alloc (.cells #[.int .u16 r1,.slice O2 n1 c2,G k1,.int .u16 0,.string gj,G 0,G 0] 49)=wh at ah XU HOh HAh HLh⊢
 have ZX:=Mn wh _ _ O1 O2 n1 c1 c2 xs1 HOh.out XU.out (by omega) r1 k1 gj
 have p0:=vt HAh.out
 have q0:=vt ah
 clear lh ah HO2 HOg HAg HLg XU HOh HAh
 go_upto_region 15 with(first
  |(go_at_call 17;(with_reducible refine ZX.mono ?_);rintro e wi ⟨rfl,li⟩;have HLi:=cf (HLh.out.trans (li.mono HLh.out.size));clear li ZX))
 go_wp2_with fail
 go_ret
 exact⟨rfl,World.keptBut_trans HK1.out (HLi.out.frame (fun _=>False))⟩
end
end Go.Proofs.YtjkahfmdcpfjjaaGreat
