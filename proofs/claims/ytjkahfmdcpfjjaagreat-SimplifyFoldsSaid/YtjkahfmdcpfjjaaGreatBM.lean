/- needed: what stands at the loops' heads. -/
import Derived.Test.YtjkahfmdcpfjjaaGreatBI
set_option linter.unusedVariables false
namespace Go.Proofs.YtjkahfmdcpfjjaaGreat
open Go.RowKit
section
set_option maxRecDepth 100000
set_option maxHeartbeats 8000000
theorem xz {P:Program} {t e size bytes base:Nat} {w:World} (hE:Ap P t e size bytes) {ops:Array Oper} {o:Oper} {a:Act} {K:Act→World→Prop} {Q:Exit→Act→World→Prop} {E:Prop} (yw:o.guard=none) (s x:Operand) (ho:o.op=.call {callee:=.builtin .append,args:= #[s,x],argTypes:= #[t,t]})
 {v:Value} {n:Nat} {xs:List Value} (hs:a.eval s=v) (dy:Own w base e size v n xs) {g m c:Nat} {cs:Array Value} {e':TypeId} {fr:Nat×Nat} (hx:a.eval x=.slice (ad g) m c) (hg:w.heap[g]?=some (.cells cs e' fr)) (eR:cs.size=m*size) (h1:∀u∈cs,u.oneCell'=true) (hn:n+m≤1048576) (hm:0<m) (hb:base≤w.heap.size)
 (h:∀v' w',PV w w' base e size v v' n xs m cs.toList→K (a.put o.dst v') w'):if Region.wanted o (yielded ops a.tmps)=true then Oper.wp P o a w K Q else E:=by
 have hw:Region.wanted o (yielded ops a.tmps)=true:=by simp[Region.wanted,yw]
 rw[if_pos hw]
 obtain⟨v',w',cN,h2⟩:=eC (ty:=o.type) hE dy (c:=c) hg eR h1 hn hb
 have hp:=qW hE dy hg eR h1 hn hm cN
 unfold Oper.wp execOp
 simp only[ho,resolve,invoke,builtin,Sem.run_bind,Sem.run_pure,Result.andThen_ok,List.map_toArray,List.map_cons,List.map_nil,hs,hx,cN]
 exact h v' w' ⟨h2,hp⟩
def Vc (w w':World) (B fm:Nat) (m:List (Int×Value)) (r:Int) (row:Value) (xs:List Int) (v:Int) (zd:Value):Prop:=
 Mv (fun b=>b=fm∨row.ownBlock=some b) w w'∧aQ .i64 w' fm (eU m r zd)∧Own w' B 3 1 zd (xs++[v]).length ((xs++[v]).map cA)∧(∀b,zd.ownBlock=some b→row.ownBlock=some b∨w.heap.size≤b)
theorem Ke (w:World) (B z fm ob:Nat) (r v:Int) (m:List (Int×Value)) (row:Value) (xs:List Int) (hz:w.cell? ⟨z,0,none⟩=some (.map (some fm))) (Zp:z≠fm) (hm:aQ .i64 w fm m) (hr:(fp m r).getD Zs=row) (ho:w.cell? ⟨ob,1,none⟩=some (G r)) (wI:ob≠fm)
 (eJ:Own w B 3 1 row xs.length (xs.map cA)) (VX:∀b,row.ownBlock=some b→b≠z∧b≠ob∧b≠fm) (hB:B≤w.heap.size) (pI:xs.length≤1000):
 Calls Tryz.prog 164 #[G v,.pointer (ad z),.pointer (ad ob)] w (fun e w'=>e=.returned (G v)∧∃zd,Vc w w' B fm m r row xs v zd):=by
 obtain⟨wd,tt⟩:∃wd,wd=w.drew:=⟨_,rfl⟩
 have lD:ak w.heap.size w wd:=by rw[tt];exact(ak.refl _ w).drew
 have sD:wd.heap.size=w.heap.size:=by rw[tt];rfl
 have hmD:=hm.low lD
 have lA:ak wd.heap.size wd (wd.alloc (.cells #[G v] 3)):=(ak.refl _ wd).alloc (Nat.le_refl _) _
 have lk:∀u,aQ .i64 u fm m→(Instr.lookup 207 (.map (some fm)) (G r) false).run Tryz.prog u=.ok row u:=fun u hu=>by
  have:=aM (P:=Tryz.prog) (t:=207) Tryz.underlying207 Tryz.underlying3 hu (k:=r) (z:=Zs) (by kernel_rfl) false
  rw[this,←hr];rfl
 have cz:∀u:World,u.heap[z]?=w.heap[z]?→u.cell? ⟨z,0,none⟩=some (.map (some fm)):=fun u hu=>(World.cell?_of_block (a:=⟨z,0,none⟩) hu).trans hz
 have co:∀u:World,u.heap[ob]?=w.heap[ob]?→u.cell? ⟨ob,1,none⟩=some (G r):=fun u hu=>(World.cell?_of_block (a:=⟨ob,1,none⟩) hu).trans ho
 have Ll:wd.cell? ⟨z,0,none⟩=some (.map (some fm))∧wd.cell? ⟨ob,1,none⟩=some (G r):=⟨cz _ (lD.block _ (bq hz)),co _ (lD.block _ (bq ho))⟩
 have Uu:(wd.alloc (.cells #[G v] 3)).cell? ⟨z,0,none⟩=some (.map (some fm))∧(wd.alloc (.cells #[G v] 3)).cell? ⟨ob,1,none⟩=some (G r):=⟨cz _ ((lA.block _ (by rw[sD];exact bq hz)).trans (lD.block _ (bq hz))),co _ ((lA.block _ (by rw[sD];exact bq ho)).trans (lD.block _ (bq ho)))⟩
 have Si:=lk wd hmD
 have Hw:=lk _ (hmD.low lA)
 have Yp:Own (wd.alloc (.cells #[G v] 3)) B 3 1 row xs.length (xs.map cA):=(eJ.low lD).low lA
 have n9:∀v9 w9,PV (wd.alloc (.cells #[G v] 3)) w9 B 3 1 row v9 xs.length (xs.map cA) 1 [G v]→∃QR,(Instr.mapUpdate 207 (.map (some fm)) (G r) v9).run Tryz.prog w9=.ok () QR∧(w9.cell? ⟨z,0,none⟩=some (.map (some fm))∧w9.cell? ⟨ob,1,none⟩=some (G r))∧(QR.cell? ⟨z,0,none⟩=some (.map (some fm))∧QR.cell? ⟨ob,1,none⟩=some (G r))∧Vc w QR B fm m r row xs v v9:=fun v9 w9 kE=>by
  have zj:Mv (fun b=>row.ownBlock=some b) (wd.alloc (.cells #[G v] 3)) w9:=kE.mv (fun g hg=>hg)
  have JR:Mv (fun b=>row.ownBlock=some b) w w9:=(Mv.bD (lD.trans (by rw[←sD];exact lA))).trans zj
  have Lc:fm<w.heap.size:=by obtain⟨es,cl,hg,_⟩:=hm;exact aB hg
  have k9:aQ .i64 w9 fm m:=hm.aW (JR.block fm Lc (fun e=>(VX _ e).2.2 rfl))
  have b9z:=JR.block z (bq hz) (fun e=>(VX _ e).1 rfl)
  have b9o:=JR.block ob (bq ho) (fun e=>(VX _ e).2.1 rfl)
  obtain⟨QR,h1,h2,h3,h4⟩:=ay Tryz.underlying207 Tryz.underlying3 k9 r v9
  have h9z:=JR.size
  have aq1:=(h3.block z (Nat.lt_of_lt_of_le (bq hz) h9z) (by simpa using Zp)).trans b9z
  have aq2:=(h3.block ob (Nat.lt_of_lt_of_le (bq ho) h9z) (by simpa using wI)).trans b9o
  have CD:=kE.1.own
  have mr:∀b,v9.ownBlock=some b→row.ownBlock=some b∨w.heap.size≤b:=fun b hb=>by
   rcases kE.2 with e|e
   ·exact .inl (e.symm.trans hb)
   ·rw[e]at hb;injection hb with hb
    have h5:=lA.size
    exact .inr (by omega)
  refine⟨QR,h1,⟨cz _ b9z,co _ b9o⟩,⟨cz _ aq1,co _ aq2⟩,⟨h3.os.trans JR.os,h3.out.trans JR.out,Nat.le_trans JR.size h3.size,fun b hb hx=>?_⟩,h2,?_,mr⟩
  ·simp only[not_or]at hx
   exact(h3.block b (Nat.lt_of_lt_of_le hb h9z) (by simpa using hx.1)).trans (JR.block b hb hx.2)
  ·rw[List.length_append,List.map_append]
   refine CD.kept fun g hg=>h3.block g (CD.lt g hg).2 ?_
   simp only[List.mem_singleton]
   rcases mr g hg with e|e
   ·exact(VX g e).2.2
   ·omega
 have HOW:=cf Yp;have ag7:=cf n9;have HLN:=cf pI;have HBB:Hid (B≤wd.heap.size):=cf (by omega)
 clear hz hm hr ho eJ VX lD sD hmD lA lk cz co Yp n9 hB pI Zp wI
 go_enter Tryz.func164,Tryz.ntmps164
 go_upto_region 1 with fail
 refine wp_region_noPanic ?_
 refine wp_region_held_drew (S:=fun w'=>w'.cell? ⟨z,0,none⟩=some (.map (some fm))∧w'.cell? ⟨ob,1,none⟩=some (G r)) (by kernel_rfl) (by exact(by rw[←tt];exact Ll)) (fun af=>?_)
 rw[←tt]at af⊢
 clear tt
 refine tk 0 af ?_
 refine tk 1 af ?_
 refine tk 2 af ?_
 refine tk 3 af ?_
 refine tk 4 af ?_
 refine tk 5 af ?_
 refine tk 7 af ?_
 refine wpAnyH_ready (rs:=[6,8]) (by kernel_rfl) (by simp) ?_
 refine fT (i:=6) rfl (fun KK aI=>?_) (fT (i:=8) rfl (fun KK aI=>?_) AllReadyH.nil)
 ·go_simp
  refine aI.out _ _ (by exact Ll) (fun af=>?_)
  clear aI KK
  (try simp only[Act.put,bh])
  refine aG 8 fun KK aI=>?_
  go_simp
  refine aI.out _ _ (by exact Uu) (fun af=>?_)
  clear aI KK
  (try simp only[Act.put,bh])
  refine aG 9 fun KK aI=>?_
  refine xz (w:=wd.alloc (.cells #[G v] 3)) (P:=Tryz.prog) (base:=B) (n:=xs.length) (m:=1) (xs:=xs.map cA) SY rfl (.tmp 11) (.tmp 13) rfl rfl HOW.out rfl (ao wd _) rfl (by simp[Value.oneCell']) (by have:=HLN.out;omega) (by omega) (by have:=HBB.out;simp;omega) ?_
  intro v9 w9 kE
  have aH:=ag7.out v9 w9 kE
  clear kE
  obtain⟨QR,hu,J4,W5,iT⟩:=aH
  have XR:=cf iT
  clear iT
  refine aI.out _ _ (by exact J4) (fun af=>?_)
  clear aI KK
  (try simp only[Act.put,bh])
  refine aG 10 fun KK aI=>?_
  go_simp
  refine aI.out _ _ (by exact W5) (fun af=>?_)
  clear aI KK
  (try simp only[Act.put,bh])
  refine wpAnyH_done (by kernel_rfl) ?_ _
  refine NoPanic.normal ?_
  (try go_wp2_with fail)
  go_ret
  exact⟨rfl,v9,XR.out⟩
 ·go_simp
  refine aI.out _ _ (by exact Uu) (fun af=>?_)
  clear aI KK
  (try simp only[Act.put,bh])
  refine aG 6 fun KK aI=>?_
  go_simp
  refine aI.out _ _ (by exact Uu) (fun af=>?_)
  clear aI KK
  (try simp only[Act.put,bh])
  refine aG 9 fun KK aI=>?_
  refine xz (w:=wd.alloc (.cells #[G v] 3)) (P:=Tryz.prog) (base:=B) (n:=xs.length) (m:=1) (xs:=xs.map cA) SY rfl (.tmp 11) (.tmp 13) rfl rfl HOW.out rfl (ao wd _) rfl (by simp[Value.oneCell']) (by have:=HLN.out;omega) (by omega) (by have:=HBB.out;simp;omega) ?_
  intro v9 w9 kE
  have aH:=ag7.out v9 w9 kE
  clear kE
  obtain⟨QR,hu,J4,W5,iT⟩:=aH
  have XR:=cf iT
  clear iT
  refine aI.out _ _ (by exact J4) (fun af=>?_)
  clear aI KK
  (try simp only[Act.put,bh])
  refine aG 10 fun KK aI=>?_
  go_simp
  refine aI.out _ _ (by exact W5) (fun af=>?_)
  clear aI KK
  (try simp only[Act.put,bh])
  refine wpAnyH_done (by kernel_rfl) ?_ _
  refine NoPanic.normal ?_
  (try go_wp2_with fail)
  go_ret
  exact⟨rfl,v9,XR.out⟩
end
section
set_option maxRecDepth 100000
set_option maxHeartbeats 8000000
structure Kp (X:Nat→Prop) (w w':World):Prop where
 os:w'.os=w.os
 out:w'.output=w.output
 size:w.heap.size≤w'.heap.size
 block:∀b,b<w.heap.size→X b→w'.heap[b]?=w.heap[b]?
theorem Kp.refl (X:Nat→Prop) (w:World):Kp X w w:=⟨rfl,rfl,Nat.le_refl _,fun _ _ _=>rfl⟩
variable {X Y:Nat→Prop} {w w':World}
theorem Kp.trans {rh:World} (h:Kp X w w') (h':Kp X w' rh):Kp X w rh:=⟨h'.os.trans h.os,h'.out.trans h.out,Nat.le_trans h.size h'.size,fun b hb hx=>(h'.block b (Nat.lt_of_lt_of_le hb h.size) hx).trans (h.block b hb hx)⟩
theorem Kp.bD (h:ak w.heap.size w w'):Kp X w w':=⟨h.os,h.out,h.size,fun b hb _=>h.block b hb⟩
theorem Kp.EX {B:List Nat} (h:aY B w w') (hB:∀b∈B,¬X b):Kp X w w':=⟨h.os,h.out,h.size,fun b hb hx=>h.block b hb fun hm=>hB b hm hx⟩
theorem Kp.Zd (h:Mv Y w w') (hB:∀b,X b→¬Y b):Kp X w w':=⟨h.os,h.out,h.size,fun b hb hx=>h.block b hb (hB b hx)⟩
theorem Kp.sub (h:Kp X w w') (hB:∀b,Y b→X b):Kp Y w w':=⟨h.os,h.out,h.size,fun b hb hx=>h.block b hb (hB b hx)⟩
def nc (l:List Int):List (Int×Value):=l.map fun v=>(v,.bool true)
theorem CZ:∀(l:List Int) (k:Int),fp (nc l) k=if k∈l then some (.bool true)else none
 |[],k=>by simp[nc,fp]
 |x::l,k=>by
  have ih:=CZ l k
  unfold nc fp at ih⊢
  rw[List.map_cons,List.find?_cons]
  by_cases h:x=k
  ·subst h;simp
  ·have h1:(x==k)=false:=by simpa using h
   have h2:k≠x:=fun e=>h e.symm
   simp only[h1,List.mem_cons,h2,false_or]
   exact ih
variable {l:List Int}
theorem BR {k:Int} (h:k∉l):eU (nc l) k (.bool true)=nc (l++[k]):=by
 rw[uk]
 ·simp[nc]
 ·rw[List.any_eq_false]
  intro p hp
  obtain⟨x,hx,rfl⟩:=List.mem_map.1 hp
  have:x≠k:=by rintro rfl;exact h hx
  simpa using this
def eP (a:List Int×List Int) (v:Int):List Int×List Int:=if v∈a.1 then a else(a.1++[v],a.2++[v])
structure NS (S0 nb z5 z6:Nat) (a:List Int×List Int) (X:Nat→Prop) (w:World):Prop where
 c5:w.heap[z5]?=some (.cells #[.map (some nb)] 150 (0,0))
 mp:aQ .i64 w nb (nc a.1)
 row:∃v,w.heap[z6]?=some (.cells #[v] 22 (0,0))∧Own w S0 3 1 v a.2.length (a.2.map cA)∧∀g,v.ownBlock=some g→¬X g
 off:¬X nb∧¬X z5∧¬X z6
variable {S0 nb z5 z6:Nat} {a:List Int×List Int}
theorem NS.grow {X':Nat→Prop} (h:NS S0 nb z5 z6 a X w) (hx:∀b,X' b→X b∨w.heap.size≤b):NS S0 nb z5 z6 a X' w:=by
 obtain⟨o1,o2,o3⟩:=h.off
 obtain⟨v,r1,r2,r3⟩:=h.row
 have key:∀b,¬X b→b<w.heap.size→¬X' b:=fun b hb hl Bg=>by
  rcases hx b Bg with h|h
  ·exact hb h
  ·omega
 obtain⟨es,cl,hg,_⟩:=h.mp
 exact⟨h.c5,h.mp,⟨v,r1,r2,fun g hg=>key g (r3 g hg) (r2.lt g hg).2⟩,key _ o1 (aB hg),key _ o2 (aB h.c5),key _ o3 (aB r1)⟩
theorem NS.move (h:NS S0 nb z5 z6 a X w) (hm:Mv X w w'):NS S0 nb z5 z6 a X w':=by
 obtain⟨o1,o2,o3⟩:=h.off
 obtain⟨v,r1,r2,r3⟩:=h.row
 have h5:=h.c5
 have uT:=h.mp
 obtain⟨es,cl,hg,_⟩:=uT
 exact⟨(hm.block _ (aB h5) o2).trans h5,h.mp.aW (hm.block _ (aB hg) o1),⟨v,(hm.block _ (aB r1) o3).trans r1,r2.kept fun g hg=>hm.block g (r2.lt g hg).2 (r3 g hg),r3⟩,o1,o2,o3⟩
theorem ql {g:Nat} (h:aQ .i64 w g (nc l)) (k:Int):(Instr.lookup 150 (.map (some g)) (G k) false).run Tryz.prog w=.ok (.bool (decide (k∈l))) w:=by
 have:=aM (P:=Tryz.prog) (t:=150) Tryz.underlying150 Tryz.underlying3 h (k:=k) (z:=.bool false) (by kernel_rfl) false
 rw[this,CZ]
 by_cases hk:k∈l<;>simp[hk]
theorem rJ (S0 nb z5 z6:Nat) (a:List Int×List Int) (X:Nat→Prop) (w:World) (v:Int) (h:NS S0 nb z5 z6 a X w) (cH:nb≠z5∧nb≠z6∧z5≠z6) (hXb:∀b,X b→b<w.heap.size) (pI:a.2.length≤1000) (Ll:S0≤w.heap.size):Calls Tryz.prog 163 #[G v,.pointer (ad z5),.pointer (ad z6)] w (fun e w'=>e=.returned (G v)∧NS S0 nb z5 z6 (eP a v) X w'∧Kp X w w'):=by
 have c5:=bf h.c5
 obtain⟨n1,n2,n3⟩:=cH
 have hl:=ql h.mp v
 by_cases hv:v∈a.1
 ·have e:decide (v∈a.1)=true:=by simpa using hv
  rw[e]at hl
  have e1:eP a v=a:=by unfold eP;rw[if_pos hv]
  rw[e1]
  clear hv e e1
  go_enter Tryz.func163,Tryz.ntmps163
  go_wp2_with fail
  go_ret
  exact⟨rfl,h,Kp.refl _ _⟩
 ·have e:decide (v∈a.1)=false:=by simpa using hv
  rw[e]at hl
  have e1:eP a v=(a.1++[v],a.2++[v]):=by unfold eP;rw[if_neg hv]
  rw[e1]
  obtain⟨Mo,r1,r2,r3⟩:=h.row
  obtain⟨wA,hu,zj,oD,hsA⟩:=ay Tryz.underlying150 Tryz.underlying3 h.mp v (.bool true)
  rw[BR hv]at zj
  have Wm:=h.off
  have W8:=oD.obj r1 (by simpa using Ne.symm n2)
  have Qz:=oD.obj h.c5 (by simpa using Ne.symm n1)
  have NX:∀g,Mo.ownBlock=some g→g≠nb∧g≠z5∧g≠z6:=fun g hg=>by
   rcases r2.form with⟨e,_⟩|⟨g',c,cs,e,_,mw,_⟩
   ·rw[e]at hg;cases hg
   ·rw[e]at hg;cases hg
    obtain⟨es,cl,hm,_⟩:=h.mp
    have h5:=h.c5
    refine⟨?_,?_,?_⟩<;>rintro rfl
    ·rw[mw]at hm;cases hm
    ·rw[mw]at h5;cases h5
    ·rw[mw]at r1;cases r1
  have Yp:Own wA S0 3 1 Mo a.2.length (a.2.map cA):=r2.kept fun g hg=>oD.block g (r2.lt g hg).2 (by simpa using(NX g hg).1)
  have x6:=bf W8
  have hoB:=Yp.low ((ak.refl _ wA).alloc (Nat.le_refl _) (.cells #[G v] 3))
  have hkA:Kp X w wA:=Kp.EX oD (by simpa using Wm.1)
  have MA:=cf zj;have A6:=cf W8;have A5:=cf Qz;have KA:=cf hkA;have OB:=cf hoB;have GN:=cf NX;have R3:=cf r3;have OFF:=cf Wm;have Tb:=cf hsA;have HXB:=cf hXb;have HN:=cf (show nb≠z5∧nb≠z6∧z5≠z6 from⟨n1,n2,n3⟩)
  clear hsA zj W8 Qz hkA hoB NX r3 Wm Yp oD r1 r2 h hv e e1 n1 n2 n3
  go_enter Tryz.func163,Tryz.ntmps163
  go_upto_region 3 with fail
  clear hl hu c5
  go_upto_region 4 with(first
   |(at_builtin;refine ss (w:=wA.alloc (.cells #[G v] 3)) (P:=Tryz.prog) (base:=S0) (n:=a.2.length) (m:=1) (xs:=a.2.map cA) (cs:= #[G v]) SY rfl (.tmp 11) (.tmp 13) rfl rfl OB.out rfl (ao wA _) rfl (by simp[Value.oneCell']) (by omega) (by omega) (by have:=Tb.out;simp;omega) ?_;intro v9 w9 fP;obtain⟨g9,c9,cs9,rfl,Yw,hr9,Sx,Wn⟩:=fP.1.row (k:=a.2.length+1) rfl (by omega);clear Yw hr9 Sx Wn;have X2:=cf fP;have o9:w9.heap[z6]?=some (.cells #[Mo] 22 (0,0)):=(fP.1.block z6 (by have:=aB A6.out;simp;omega) (fun e=>(GN.out z6 e.symm).2.2 rfl)).trans (((ak.refl _ wA).alloc (Nat.le_refl _) _).some A6.out);have f9:w9.frozen? ⟨z6,0,none⟩=false:=au o9;have x9:w9.cell? ⟨z6,0,none⟩=some Mo:=Yc o9;have O9:=cf o9;clear fP o9))
  have aH:NS S0 nb z5 z6 (a.1++[v],a.2++[v]) X (w9.setCell ⟨z6,0,none⟩ (.slice (ad g9) (a.2.length+1) c9))∧Kp X w (w9.setCell ⟨z6,0,none⟩ (.slice (ad g9) (a.2.length+1) c9)):=by
   have kE:=X2.out
   obtain⟨o1,o2,o3⟩:=OFF.out
   obtain⟨n1,n2,n3⟩:=HN.out
   have hlA:ak wA.heap.size wA (wA.alloc (.cells #[G v] 3)):=(ak.refl _ wA).alloc (Nat.le_refl _) _
   have K8:Mv (fun b=>Mo.ownBlock=some b) wA w9:=(Mv.bD hlA).trans (kE.mv fun g hg=>hg)
   have NC:∀g,(Value.slice (ad g9) (a.2.length+1) c9).ownBlock=some g→Mo.ownBlock=some g∨wA.heap.size≤g:=fun g hg=>by
    rcases kE.2 with e|e
    ·exact .inl (e.symm.trans hg)
    ·rw[e]at hg;injection hg with hg
     have:=hlA.size
     exact .inr (by omega)
   have al4:∀g,(Value.slice (ad g9) (a.2.length+1) c9).ownBlock=some g→g≠z6:=fun g hg=>by
    rcases NC g hg with e|e
    ·exact(GN.out g e).2.2
    ·have:=aB A6.out;omega
   have vY:=MA.out
   obtain⟨es,cl,hmg,_⟩:=vY
   have hk9:Kp X wA w9:=Kp.Zd K8 (fun b hb e=>R3.out b e hb)
   have an8:Kp X w9 (w9.setCell ⟨z6,0,none⟩ (.slice (ad g9) (a.2.length+1) c9)):=Kp.EX (aY.setCell (B:=[z6]) _ (by simp) _) (by simpa using o3)
   refine⟨⟨?_,?_,⟨(.slice (ad g9) (a.2.length+1) c9),aD O9.out,?_,?_⟩,o1,o2,o3⟩,(KA.out.trans hk9).trans an8⟩
   ·exact(aj n3).trans ((K8.block z5 (aB A5.out) (fun e=>(GN.out _ e).2.1 rfl)).trans A5.out)
   ·exact MA.out.aW ((aj n2).trans (K8.block nb (aB hmg) (fun e=>(GN.out _ e).1 rfl)))
   ·have ho:=kE.1.own
    rw[show(a.2++[v]).length=a.2.length+1 by simp,List.map_append]
    exact ho.kept fun g hg=>aj (al4 g hg)
   ·intro g hg hx
    rcases NC g hg with e|e
    ·exact R3.out g e hx
    ·have h1:=HXB.out g hx
     have h2:=Tb.out
     omega
  have jz:=cf aH
  clear aH
  go_wp2_with fail
  go_ret
  exact⟨rfl,jz.out⟩
end
section
set_option maxRecDepth 100000
set_option maxHeartbeats 4000000
def vT (S:Nat) (I I':World→Prop) (k:FuncId) (fi fZ:Array Value) (v r:Int):Prop:=∀w1,I w1→S+2≤w1.heap.size→Calls Tryz.prog k (fi++ #[G v]++fZ) w1 (fun e w2=>e=.returned (G r)∧I' w2∧w1.heap.size≤w2.heap.size∧∀g,S≤g→g<S+2→w2.heap[g]?=w1.heap[g]?)
theorem zP (I:List Int→World→Prop) (w:World) (o:aE) (k:FuncId) (fi fZ:Array Value) (fa fb:Int) (hI:∀l,Inv2 w.heap.size (I l)) (hw:I [] w) (ho:aS o.code) (he:∀(args:Array Value) (w:World),(callFunc k args).run Tryz.prog w=.ok (.enter k args) w)
 (N1:aZ o.code=true→vT w.heap.size (I []) (I [o.a]) k fi fZ o.a fa) (JZ:bc o.code=true→vT w.heap.size (I (dv o)) (I (dv o++[o.b])) k fi fZ o.b fb):
 Calls Tryz.prog 85 #[OV o,.func (.func k) fi fZ] w (fun e w'=>e=.returned (tK o fa fb).val∧I (bl o) w'):=by
 obtain⟨xa,uQ⟩:∃x,x=aZ o.code:=⟨_,rfl⟩
 obtain⟨xb,Nq⟩:∃x,x=bc o.code:=⟨_,rfl⟩
 have mK:∀u,Calls Tryz.prog 147 #[G o.code] u (fun e w'=>e=.returned (.tuple #[.bool xa,.bool xb])∧w'=u):=fun u=>by rw[uQ,Nq];exact cV u _ ho
 have eA:dv o=if xa then[o.a]else[]:=by rw[uQ];rfl
 have eB:bl o=dv o++if xb then[o.b]else[]:=by rw[Nq];rfl
 have eW:tK o fa fb=⟨o.code,o.res,if xa then fa else o.a,if xb then fb else o.b,o.n⟩:=by rw[uQ,Nq];rfl
 rw[←uQ]at N1
 rw[←Nq]at JZ
 rw[eW,eB]
 obtain⟨ra,DS⟩:∃r:Int,r=if xa then fa else o.a:=⟨_,rfl⟩
 obtain⟨rb,KU⟩:∃r:Int,r=if xb then fb else o.b:=⟨_,rfl⟩
 rw[←DS,←KU]
 have Lw:=cf DS;have HRB:=cf KU
 clear DS KU
 obtain⟨lb,Qr⟩:∃l:List Int,l=if xb then[o.b]else[]:=⟨_,rfl⟩
 rw[←Qr]
 have Gx:=cf Qr
 generalize dv o=la at eA JZ⊢
 have HFA:=cf N1;have HFB:=cf JZ;have HO:=cf mK;have HI:=cf hI;have HEA:=cf eA
 have zl:=(hI []).alloc _ (OC o) hw
 have D0:=(hI []).alloc _ (.cells #[G 0,G 0,G 0,G 0,.int .u16 0,Zs] 67) zl
 have hb:=ir (.cells #[G 0,G 0,G 0,G 0,.int .u16 0,Zs] 67) (ao w (OC o))
 have hr:((w.alloc (OC o)).alloc (.cells #[G 0,G 0,G 0,G 0,.int .u16 0,Zs] 67)).heap[w.heap.size+1]?=some (.cells #[G 0,G 0,G 0,G 0,.int .u16 0,Zs] 67 (0,0)):=by
  have:=ao (w.alloc (OC o)) (.cells #[G 0,G 0,G 0,G 0,.int .u16 0,Zs] 67)
  have e:(w.alloc (OC o)).heap.size=w.heap.size+1:=by simp
  rw[e]at this;exact this
 clear N1 JZ ho mK hI hw zl uQ Nq eA eB eW Qr
 go_enter Tryz.func85,Tryz.ntmps85
 go_upto_region 1 with fail
 generalize(w.alloc (OC o)).alloc (.cells #[G 0,G 0,G 0,G 0,.int .u16 0,Zs] 67)=w2 at D0 hb hr⊢
 generalize w.heap.size=S at hb hr HFA HFB HI⊢
 have c0:=bf hb
 have DM:=cf D0;have HB:=cf hb;have HR:=cf hr
 clear D0 hb hr
 go_upto_if 13 with(first
  |(go_at_call 147;(with_reducible refine(HO.out _).mono ?_);rintro e w3 ⟨rfl,fE⟩;rw[fE];clear fE w3))
 clear c0
 go_cut[] (fun wx=>I la wx∧wx.heap[S]?=some (.cells #[G o.code,G o.res,G ra,G o.b,.int .u16 o.n,Zs] 67 (0,0))∧wx.heap[S+1]?=some (.cells #[G 0,G 0,G 0,G 0,.int .u16 0,Zs] 67 (0,0)))
 case first=>
  have b2:=rn HB.out
  cases xa
  ·go_wp2_with fail
   go_meet
   have e1:=HEA.out;have e2:=Lw.out
   simp only[Bool.false_eq_true,if_false]at e1 e2
   rw[e1,e2]
   exact⟨DM.out,HB.out,HR.out⟩
  ·go_wp2_with(first
    |(refine(HFA.out rfl _ DM.out (by have:=aB HR.out;omega)).mono ?_;rintro e w3 ⟨rfl,NP,TX,CP⟩;have Ae:=(CP _ (Nat.le_refl _) (by omega)).trans HB.out;have Bi:=(CP _ (Nat.le_succ _) (by omega)).trans HR.out;have g2:w3.frozen? ⟨S,2,none⟩=false:=au Ae;have b3:w3.cell? ⟨S,2,none⟩=some (G o.a):=Yc Ae;have XZ:=cf NP;have PR:=cf Ae;have Td:=cf Bi;clear NP CP Ae Bi))
   go_meet
   have e1:=HEA.out;have e2:=Lw.out
   simp only[if_true]at e1 e2
   rw[e1,e2]
   exact⟨(HI.out _).set _ _ _ _ (Nat.le_refl _) (by omega) XZ.out,by rw[aD PR.out];rfl,(aj (by omega)).trans Td.out⟩
 case rest=>
  obtain⟨hi,hb,hr⟩:=hcut
  have DM:=cf hi;have HB:=cf hb;have HR:=cf hr
  clear hi hb hr
  go_upto_if 19 with fail
  go_cut[] (fun wx=>I (la++lb) wx∧wx.heap[S]?=some (.cells #[G o.code,G o.res,G ra,G rb,.int .u16 o.n,Zs] 67 (0,0))∧wx.heap[S+1]?=some (.cells #[G 0,G 0,G 0,G 0,.int .u16 0,Zs] 67 (0,0)))
  case first=>
   have b2:=mM HB.out
   cases xb
   ·go_wp2_with fail
    go_meet
    have e2:=HRB.out;have e3:=Gx.out
    simp only[Bool.false_eq_true,if_false]at e2 e3
    rw[e2,e3,List.append_nil]
    exact⟨DM.out,HB.out,HR.out⟩
   ·go_wp2_with(first
     |(refine(HFB.out rfl _ DM.out (by have:=aB HR.out;omega)).mono ?_;rintro e w3 ⟨rfl,NP,TX,CP⟩;have Ae:=(CP _ (Nat.le_refl _) (by omega)).trans HB.out;have Bi:=(CP _ (Nat.le_succ _) (by omega)).trans HR.out;have g2:w3.frozen? ⟨S,3,none⟩=false:=au Ae;have b3:w3.cell? ⟨S,3,none⟩=some (G o.b):=Yc Ae;have XZ:=cf NP;have PR:=cf Ae;have Td:=cf Bi;clear NP CP Ae Bi))
    go_meet
    have e2:=HRB.out;have e3:=Gx.out
    simp only[if_true]at e2 e3
    rw[e2,e3]
    exact⟨(HI.out _).set _ _ _ _ (Nat.le_refl _) (by omega) XZ.out,by rw[aD PR.out];rfl,(aj (by omega)).trans Td.out⟩
  case rest=>
   obtain⟨hi,hb,hr⟩:=hcut
   have d5:=Lt hb
   have f5:wc.frozen? ⟨S,5,none⟩=false:=au hb
   have DM:=cf hi;have HB:=cf hb;have HR:=cf hr
   clear hi hb hr
   go_upto_region 7 with(first
    |(go_at_call 84;(with_reducible refine(all_nil _ _).mono ?_);rintro e w3 ⟨rfl,fE⟩;rw[fE];clear fE w3))
   have hi:=(HI.out _).set _ S 5 Zs (Nat.le_refl _) (by omega) DM.out
   have hb:=pY (i:=5) (v:=Zs) HB.out rfl
   have hr:=(aj (i:=5) (v:=Zs) (show S+1≠S by omega)).trans HR.out
   generalize World.setCell _ _ _=w4 at hi hb hr⊢
   obtain⟨e0,e1,e2,e3,e4,e5⟩:=aC hb
   obtain⟨g0,g1,g2,g3,g4,g5⟩:=bG hr
   have z0:=aC hr
   have HI4:=cf hi;have HB4:=cf hb;have HR4:=cf hr
   clear hi hb hr d5 f5
   go_wp2_with fail
   have wM:=xC (g:=S+1) (v0:=G o.code) (v1:=G o.res) (v2:=G ra) (v3:=G rb) (v4:=.int .u16 o.n) (v5:=Zs) (HI.out _) (Nat.le_succ S) (by omega) HI4.out
   have aH:=pW (v0:=G o.code) (v1:=G o.res) (v2:=G ra) (v3:=G rb) (v4:=.int .u16 o.n) (v5:=Zs) HR4.out _ rfl
   generalize World.setCell _ _ _=wF at aH wM⊢
   obtain⟨hz,_,_,_⟩:=aH
   have x0:=aC hz
   exact bodyPost_ret (v:=.agg #[G o.code,G o.res,G ra,G rb,.int .u16 o.n,Zs]) (by simp[results,Tryz.results85,go_sem,x0];done) rfl ⟨rfl,wM⟩
end
section
theorem yD:∀(m:List (Int×Value)) (r:Int) (v:Value),fp (eU m r v) r=some v
 |[],r,v=>by simp[eU,fp]
 |p::m,r,v=>by
  unfold eU
  split
  ·simp[fp]
  ·rename_i h
   have ih:=yD m r v
   unfold fp at ih⊢
   have h1:(p.1==r)=false:=by simpa using h
   rw[List.find?_cons,h1]
   exact ih
theorem xO:∀(m:List (Int×Value)) (r:Int) (v x:Value),eU (eU m r v) r x=eU m r x
 |[],r,v,x=>by simp[eU]
 |p::m,r,v,x=>by
  have ih:=xO m r v x
  cases h:(p.1==r)<;>simp[eU,h,ih]
variable {m:List (Int×Value)} {r v:Int}
theorem Kb (h:∀p∈m,p.1≠r):fp m r=none:=by
 unfold fp
 rw[List.find?_eq_none.2 (fun p hp=>by simpa using h p hp)]
 rfl
theorem xP {p:Int×Value} {v:Value} (h:p∈eU m r v):p∈m∨p=(r,v):=uo m h
def UL (l:List aE) (ret:Int):List Int:=l.flatMap bl++[ret]
theorem zN {l:List aE} {ret:Int} {o:aE} (ho:o∈l) (hv:v∈bl o):v∈UL l ret:=List.mem_append_left _ (List.mem_flatMap.2 ⟨o,ho,hv⟩)
theorem qi (o:aE):(bl o).length≤2:=by unfold bl dv il;split<;>split<;>simp
theorem PF {ret:Int}:∀(l:List aE),(UL l ret).length≤2*l.length+1
 |[]=>by simp[UL]
 |o::l=>by
  have:=PF (ret:=ret) l
  have h:=qi o
  unfold UL at this⊢
  rw[List.flatMap_cons]
  simp only[List.length_append,List.length_cons,List.length_nil]at this⊢
  omega
theorem yb:∀(l U:List Int),l.Nodup→(∀v∈l,v∈U)→l.length≤U.length
 |[],_,_,_=>by simp
 |x::l,U,hn,hs=>by
  have hx:=hs x (List.mem_cons_self ..)
  obtain⟨h1,h2⟩:=List.nodup_cons.1 hn
  have ih:=yb l (U.erase x) h2 (fun v hv=>(List.mem_erase_of_ne (by rintro rfl;exact h1 hv)).2 (hs v (List.mem_cons_of_mem _ hv)))
  rw[List.length_erase_of_mem hx]at ih
  have:=List.length_pos_of_mem hx
  simp only[List.length_cons]
  omega
structure NJ (U:List Int) (a:List Int×List Int):Prop where
 nd:a.1.Nodup
 sub:∀v∈a.1,v∈U
 Y2:∀v∈a.2,v∈U
 len:a.2.length≤a.1.length
theorem NJ.start (U:List Int):NJ U ([],[]):=⟨List.nodup_nil,by simp,by simp,by simp⟩
theorem NJ.Ng {U:List Int} {a:List Int×List Int} (h:NJ U a):a.1.length≤U.length:=yb _ _ h.nd h.sub
theorem NJ.note {U:List Int} {a:List Int×List Int} (h:NJ U a) (hv:v∈U):NJ U (eP a v):=by
 unfold eP
 split
 ·exact h
 ·rename_i hn
  refine⟨?_,?_,?_,by simp;exact h.len⟩
  ·rw[List.nodup_append]
   exact⟨h.nd,by simp,fun x hx y hy=>by rw[List.mem_singleton.1 hy];rintro rfl;exact hn hx⟩
  ·intro x hx
   rcases List.mem_append.1 hx with hx|hx
   ·exact h.sub x hx
   ·rw[List.mem_singleton.1 hx];exact hv
  ·intro x hx
   rcases List.mem_append.1 hx with hx|hx
   ·exact h.Y2 x hx
   ·rw[List.mem_singleton.1 hx];exact hv
theorem xZ (a:List Int×List Int) (v:Int):v∈(eP a v).1:=by
 unfold eP
 split
 ·assumption
 ·simp
theorem uC {a:List Int×List Int} {x:Int} (h:x∈a.1):x∈(eP a v).1:=by
 unfold eP
 split
 ·exact h
 ·exact List.mem_append_left _ h
theorem jk:∀(l:List Int) {a:List Int×List Int} {x:Int},x∈a.1→x∈(l.foldl eP a).1
 |[],_,_,h=>h
 |v::l,_,_,h=>jk l (uC h)
theorem xY:∀(l:List Int) {a:List Int×List Int} {x:Int},x∈l→x∈(l.foldl eP a).1
 |v::l,a,x,h=>by
  rcases List.mem_cons.1 h with rfl|h
  ·exact jk l (xZ a x)
  ·exact xY l h
theorem NJ.notes {U:List Int}:∀(l:List Int) {a:List Int×List Int},NJ U a→(∀v∈l,v∈U)→NJ U (l.foldl eP a)
 |[],_,h,_=>h
 |v::l,_,h,hl=>NJ.notes l (h.note (hl v (List.mem_cons_self ..))) (fun x hx=>hl x (List.mem_cons_of_mem _ hx))
theorem uA:∀(l:List Int) (a:List Int×List Int),∃d,(l.foldl eP a).1=a.1++d∧(l.foldl eP a).2=a.2++d
 |[],a=>⟨[],by simp,by simp⟩
 |v::l,a=>by
  obtain⟨d,h1,h2⟩:=uA l (eP a v)
  rw[List.foldl_cons,h1,h2]
  unfold eP
  split
  ·exact⟨d,rfl,rfl⟩
  ·exact⟨v::d,by simp,by simp⟩
def Yb (S0 fm z8:Nat) (Rw:Nat→Prop) (b:Nat):Prop:=b<S0∨Rw b∨b=fm∨b=z8
structure NQ (w0:World) (nb z5 z6 fm z8:Nat) (U:List Int) (K:Int→Prop) (a:List Int×List Int) (w:World) (Rw:Nat→Prop):Prop where
 lo:ak w0.heap.size w0 w
 ns:NS w0.heap.size nb z5 z6 a (Yb w0.heap.size fm z8 Rw) w
 bd:∀b,Yb w0.heap.size fm z8 Rw b→b<w.heap.size
 nj:NJ U a
 Mo:∀b,Rw b→w0.heap.size≤b∧b≠fm∧b≠z8
 fr:∃m,aQ .i64 w fm m∧(∀p∈m,K p.1)∧∀p∈m,∃xs:List Int,Own w w0.heap.size 3 1 p.2 xs.length (xs.map cA)∧xs.length≤2∧(∀x∈xs,x∈U)∧∀g,p.2.ownBlock=some g→Rw g
 c8:w.heap[z8]?=some (.cells #[.map (some fm)] 207 (0,0))
 df:nb≠z5∧nb≠z6∧z5≠z6∧fm≠z8∧w0.heap.size≤fm∧w0.heap.size≤z8
section
variable {w0 w w' : World} {nb z5 z6 fm z8 : Nat} {U : List Int} {K : Int → Prop} {a : List Int × List Int} {Rw : Nat → Prop}
theorem NQ.kp {a':List Int×List Int} (h:NQ w0 nb z5 z6 fm z8 U K a w Rw) (hn:NS w0.heap.size nb z5 z6 a' (Yb w0.heap.size fm z8 Rw) w') (hk:Kp (Yb w0.heap.size fm z8 Rw) w w') (hj:NJ U a'):NQ w0 nb z5 z6 fm z8 U K a' w' Rw:=by
 obtain⟨m,hm,h1,h2⟩:=h.fr
 have Lc:fm<w.heap.size:=h.bd fm (.inr (.inr (.inl rfl)))
 refine⟨⟨hk.os.trans h.lo.os,hk.out.trans h.lo.out,Nat.le_trans h.lo.size hk.size,fun g hg=>(hk.block g (Nat.lt_of_lt_of_le hg h.lo.size) (.inl hg)).trans (h.lo.block g hg)⟩,hn,fun b hb=>Nat.lt_of_lt_of_le (h.bd b hb) hk.size,hj,h.Mo,⟨m,hm.aW (hk.block fm Lc (.inr (.inr (.inl rfl)))),h1,fun p hp=>?_⟩,(hk.block z8 (aB h.c8) (.inr (.inr (.inr rfl)))).trans h.c8,h.df⟩
 obtain⟨xs,x1,x2,x3,x4⟩:=h2 p hp
 exact⟨xs,x1.kept fun g hg=>hk.block g (x1.lt g hg).2 (.inr (.inl (x4 g hg))),x2,x3,x4⟩
theorem NQ.low (h:NQ w0 nb z5 z6 fm z8 U K a w Rw) (hl:ak w.heap.size w w'):NQ w0 nb z5 z6 fm z8 U K a w' Rw:=
 h.kp (h.ns.move (Mv.bD hl)) (Kp.bD hl) h.nj
theorem NQ.keys {K':Int→Prop} (h:NQ w0 nb z5 z6 fm z8 U K a w Rw) (hK:∀k,K k→K' k):NQ w0 nb z5 z6 fm z8 U K' a w Rw:=by
 obtain⟨m,hm,h1,h2⟩:=h.fr
 exact⟨h.lo,h.ns,h.bd,h.nj,h.Mo,⟨m,hm,fun p hp=>hK _ (h1 p hp),h2⟩,h.c8,h.df⟩
end
end
end Go.Proofs.YtjkahfmdcpfjjaaGreat
