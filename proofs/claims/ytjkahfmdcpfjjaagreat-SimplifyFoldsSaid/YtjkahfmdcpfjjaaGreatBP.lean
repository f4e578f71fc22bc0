/- needed. -/
import Derived.Test.YtjkahfmdcpfjjaaGreatBM
set_option linter.unusedVariables false
namespace Go.Proofs.YtjkahfmdcpfjjaaGreat
open Go.RowKit
section
theorem yH:∀(args:Array Value) (w:World),(callFunc 163 args).run Tryz.prog w=.ok (.enter 163 args) w:=dM Tryz.func163 (by kernel_rfl) rfl
theorem Kr:∀(args:Array Value) (w:World),(callFunc 164 args).run Tryz.prog w=.ok (.enter 164 args) w:=dM Tryz.func164 (by kernel_rfl) rfl
def yR (wa:World) (fm:Nat) (m:List (Int×Value)) (r:Int) (ri:List Int) (wx:World):Prop:=
 aY [fm] wa wx∧∃row m',aQ .i64 wx fm m'∧(fp m' r).getD Zs=row∧(∀x,eU m' r x=eU m r x)∧Own wx (wa.heap.size+2) 3 1 row ri.length (ri.map cA)∧(ri=[]→m'=m)∧(ri≠[]→m'=eU m r row)
theorem Oy (wa:World) (fm:Nat) (m:List (Int×Value)) (r:Int) (hf:fm<wa.heap.size) (ri:List Int):Inv2 wa.heap.size (yR wa fm m r ri):=by
 refine⟨fun w o h=>?_,fun w g i v h1 h2 h=>?_⟩
 ·obtain⟨hc,row,m',hm,hr⟩:=h
  have hl:ak w.heap.size w (w.alloc o):=(ak.refl _ w).alloc (Nat.le_refl _) o
  exact⟨hc.tail (hl.mono hc.size),row,m',hm.low hl,hr.1,hr.2.1,hr.2.2.1.low hl,hr.2.2.2⟩
 ·obtain⟨hc,row,m',hm,hr⟩:=h
  have hl:ak wa.heap.size w (w.setCell ⟨g,i,none⟩ v):=(ak.refl _ w).setCell h1 v
  refine⟨hc.tail hl,row,m',hm.aW (aj (by omega)),hr.1,hr.2.1,hr.2.2.1.kept fun b hb=>aj ?_,hr.2.2.2⟩
  have:=(hr.2.2.1.lt b hb).1
  omega
theorem vh (wa:World) (z fm ob:Nat) (r v:Int) (m:List (Int×Value)) (ri:List Int) (hz:wa.cell? ⟨z,0,none⟩=some (.map (some fm))) (Zp:z≠fm) (ho:wa.cell? ⟨ob,1,none⟩=some (G r)) (wI:ob≠fm) (Lc:fm<wa.heap.size) (pI:ri.length≤1000):
 vT wa.heap.size (yR wa fm m r ri) (yR wa fm m r (ri++[v])) 164 #[] #[.pointer (ad z),.pointer (ad ob)] v v:=fun w1 h1 hs=>by
 obtain⟨hc,row,m',hm,hr,hp,dy,_⟩:=h1
 have iK:=(World.cell?_of_block (a:=⟨z,0,none⟩) (hc.block z (bq hz) (by simpa using Zp))).trans hz
 have CK:=(World.cell?_of_block (a:=⟨ob,1,none⟩) (hc.block ob (bq ho) (by simpa using wI))).trans ho
 have FL:∀b,row.ownBlock=some b→wa.heap.size+2≤b:=fun b hb=>(dy.lt b hb).1
 have Zo:=bq hz
 have hol:=bq ho
 refine(Ke w1 (wa.heap.size+2) z fm ob r v m' row ri iK Zp hm hr CK wI dy (fun b hb=>?_) hs pI).mono ?_
 ·have h:=FL b hb
  have av2:z<wa.heap.size:=Zo
  have av6:ob<wa.heap.size:=hol
  omega
 ·rintro e w2 ⟨rfl,zd,K8,hk,Ab,mr⟩
  refine⟨rfl,⟨⟨K8.os.trans hc.os,K8.out.trans hc.out,Nat.le_trans hc.size K8.size,fun g hg hn=>?_⟩,zd,eU m' r zd,hk,by rw[yD];rfl,fun x=>by rw[xO];exact hp x,Ab,fun h=>by simp at h,fun _=>hp zd⟩,K8.size,fun g hg mc=>?_⟩
  ·have hgf:g≠fm:=by simpa using hn
   refine(K8.block g (Nat.lt_of_lt_of_le hg hc.size) ?_).trans (hc.block g hg hn)
   rintro(h|h)
   ·exact hgf h
   ·have:=FL g h;omega
  ·refine K8.block g (by omega) ?_
   rintro(h|h)
   ·omega
   ·have:=FL g h;omega
def DI (w0 wa:World) (nb z5 z6 fm z8:Nat) (Rw:Nat→Prop) (a:List Int×List Int) (ri:List Int) (wx:World):Prop:=
 NS w0.heap.size nb z5 z6 (ri.foldl eP a) (fun b=>Yb w0.heap.size fm z8 Rw b∨b=wa.heap.size∨b=wa.heap.size+1) wx∧Kp (Yb w0.heap.size fm z8 Rw) wa wx
theorem MT (w0 wa:World) (nb z5 z6 fm z8:Nat) (Rw:Nat→Prop) (a:List Int×List Int) (hb:∀b,Yb w0.heap.size fm z8 Rw b→b<wa.heap.size) (ri:List Int):Inv2 wa.heap.size (DI w0 wa nb z5 z6 fm z8 Rw a ri):=by
 refine⟨fun w o h=>?_,fun w g i v h1 h2 h=>?_⟩
 ·have hl:ak w.heap.size w (w.alloc o):=(ak.refl _ w).alloc (Nat.le_refl _) o
  exact⟨h.1.move (Mv.bD hl),h.2.trans (Kp.bD hl)⟩
 ·refine⟨h.1.move ⟨rfl,rfl,by rw[cW];exact Nat.le_refl _,fun b _ hx=>aj ?_⟩,h.2.trans ⟨rfl,rfl,by rw[cW];exact Nat.le_refl _,fun b _ hx=>aj ?_⟩⟩
  ·rintro rfl
   exact hx (.inr (by omega))
  ·rintro rfl
   have:=hb _ hx
   omega
theorem uG (w0 wa:World) (nb z5 z6 fm z8:Nat) (Rw:Nat→Prop) (a:List Int×List Int) (U:List Int) (hb:∀b,Yb w0.heap.size fm z8 Rw b→b<wa.heap.size) (cH:nb≠z5∧nb≠z6∧z5≠z6) (h0:w0.heap.size≤wa.heap.size) (hj:NJ U a) (hU:U.length≤1000) (ri:List Int) (v:Int) (hl:∀x∈ri,x∈U):
 vT wa.heap.size (DI w0 wa nb z5 z6 fm z8 Rw a ri) (DI w0 wa nb z5 z6 fm z8 Rw a (ri++[v])) 163 #[] #[.pointer (ad z5),.pointer (ad z6)] v v:=fun w1 h1 hs=>by
 have Uk:=hj.notes ri hl
 have hle:=Uk.len
 have an3:=Uk.Ng
 have cC:=h1.2.size
 refine(rJ w0.heap.size nb z5 z6 _ _ w1 v h1.1 cH (fun b hx=>?_) (by omega) (by omega)).mono ?_
 ·rcases hx with hx|hx
  ·have:=hb b hx;omega
  ·omega
 ·rintro e w2 ⟨rfl,hn,hk⟩
  refine⟨rfl,⟨by rw[List.foldl_append];exact hn,h1.2.trans (hk.sub fun b hb=> .inl hb)⟩,hk.size,fun g hg mc=>hk.block g (by omega) (.inr (by omega))⟩
end
section
variable {w:World}
theorem Own.less {base UM e size n:Nat} {v:Value} {xs:List Value} (h:Own w base e size v n xs) (hb:UM≤base):Own w UM e size v n xs:=by
 obtain⟨h0,h1|⟨g',c',cur,h1,h2,h3⟩⟩:=h
 ·exact⟨h0,.inl h1⟩
 ·exact⟨h0,.inr ⟨g',c',cur,h1,Nat.le_trans hb h2,h3⟩⟩
variable {fm nb q z5 z6 z8:Nat} {a:List Int×List Int}
theorem NS.less {S0:Nat} {X X':Nat→Prop} (h:NS S0 nb z5 z6 a X w) (hx:∀b,X' b→X b):NS S0 nb z5 z6 a X' w:=
 h.grow fun b hb=> .inl (hx b hb)
def Kq (l:List aE) (q:Nat) (k:Int):Prop:=∃j o,j<q∧l[j]?=some o∧o.code≠25∧k=o.res
variable {l:List aE}
theorem Kq.more {k:Int} (h:Kq l q k):Kq l (q+1) k:=by
 obtain⟨j,o,h1,h2⟩:=h
 exact⟨j,o,by omega,h2⟩
def YQ (nm:Int→Option Int) (l:List aE) (q:Nat) (a:List Int×List Int):Prop:=∀j o,j<q→l[j]?=some o→fI nm o=false→∀v∈bl o,v∈a.1
variable {o:aE}
theorem BU {nm:Int→Option Int} (h:fI nm o=true):o.code≠25:=by
 intro e
 unfold fI oy at h
 rw[e]at h
 simp at h
def Tm (l:List aE):Prop:=∀(i j:Nat) (o o':aE),i<j→l[i]?=some o→l[j]?=some o'→o.code≠25→o'.code≠25→o.res≠o'.res
theorem NQ.from {w0 w':World} {ret:Int} {Rw:Nat→Prop} {m:List (Int×Value)} (h:NQ w0 nb z5 z6 fm z8 (UL l ret) (Kq l q) a w Rw)
 (hm:aQ .i64 w fm m) (hk:∀p∈m,Kq l q p.1) (hr:∀p∈m,∃xs:List Int,Own w w0.heap.size 3 1 p.2 xs.length (xs.map cA)∧xs.length≤2∧(∀x∈xs,x∈UL l ret)∧∀g,p.2.ownBlock=some g→Rw g) (ho:l[q]?=some o) (cO:o.code≠25) (hf:yR w fm m o.res (bl o) w'):∃XI,NQ w0 nb z5 z6 fm z8 (UL l ret) (Kq l (q+1)) a w' XI:=by
 obtain⟨hc,row,m',hm',_,_,dy,N7,Lf⟩:=hf
 have FL:∀b,row.ownBlock=some b→w.heap.size+2≤b∧b<w'.heap.size:=fun b hb=>dy.lt b hb
 have hY:∀b,Yb w0.heap.size fm z8 (fun b=>Rw b∨row.ownBlock=some b) b→Yb w0.heap.size fm z8 Rw b∨w.heap.size+2≤b:=fun b hb=>by
  rcases hb with hb|(hb|hb)|hb
  ·exact .inl (.inl hb)
  ·exact .inl (.inr (.inl hb))
  ·exact .inr (FL b hb).1
  ·exact .inl (.inr (.inr hb))
 have Ac:∀b,b≠fm→b<w.heap.size→w'.heap[b]?=w.heap[b]?:=fun b hb hl=>hc.block b hl (by simpa using hb)
 have h1:=(h.ns.grow (X':=Yb w0.heap.size fm z8 (fun b=>Rw b∨row.ownBlock=some b)) (fun b hb=>(hY b hb).imp_right (by omega))).move (w':=w') ⟨hc.os,hc.out,hc.size,fun b hb hx=>Ac b (by rintro rfl;exact hx (.inr (.inr (.inl rfl)))) hb⟩
 have hd:=h.df
 have Zq:=aB h.c8
 refine⟨fun b=>Rw b∨row.ownBlock=some b,⟨h.lo.os▸hc.os,h.lo.out▸hc.out,Nat.le_trans h.lo.size hc.size,fun g hg=>?_⟩,h1,fun b hb=>?_,h.nj,fun b hb=>?_,⟨m',hm',?_,?_⟩,?_,hd⟩
 ·have:=h.lo.size
  exact(Ac g (by omega) (by omega)).trans (h.lo.block g hg)
 ·rcases hb with hb|(hb|hb)|hb
  ·have:=h.lo.size;have:=hc.size;omega
  ·exact Nat.lt_of_lt_of_le (h.bd b (.inr (.inl hb))) hc.size
  ·exact(FL b hb).2
  ·exact Nat.lt_of_lt_of_le (h.bd b (.inr (.inr hb))) hc.size
 ·rcases hb with hb|hb
  ·exact h.Mo b hb
  ·have h2:=(FL b hb).1
   have h3:=h.lo.size
   have h4:=h.bd fm (.inr (.inr (.inl rfl)))
   omega
 ·intro p hp
  by_cases hl:bl o=[]
  ·rw[N7 hl]at hp;exact(hk p hp).more
  ·rw[Lf hl]at hp
   rcases xP hp with hp|rfl
   ·exact(hk p hp).more
   ·exact⟨q,o,by omega,ho,cO,rfl⟩
 ·have old:∀p∈m,∃xs:List Int,Own w' w0.heap.size 3 1 p.2 xs.length (xs.map cA)∧xs.length≤2∧(∀x∈xs,x∈UL l ret)∧∀g,p.2.ownBlock=some g→(Rw g∨row.ownBlock=some g):=fun p hp=>by
   obtain⟨xs,x1,x2,x3,x4⟩:=hr p hp
   exact⟨xs,x1.kept fun g hg=>Ac g (h.Mo g (x4 g hg)).2.1 (x1.lt g hg).2,x2,x3,fun g hg=> .inl (x4 g hg)⟩
  intro p hp
  by_cases hl:bl o=[]
  ·rw[N7 hl]at hp;exact old p hp
  ·rw[Lf hl]at hp
   rcases xP hp with hp|rfl
   ·exact old p hp
   ·exact⟨bl o,dy.less (by have:=h.lo.size;omega),qi o,fun x hx=>zN (List.mem_of_getElem? ho) hx,fun g hg=> .inr hg⟩
 ·exact(Ac z8 (Ne.symm hd.2.2.2.1) Zq).trans h.c8
theorem ap8 {U:List Int} {K:Int→Prop} (h0:nb=w.heap.size) (h1:z5=nb+1) (h2:z6=nb+1+1) (h3:fm=nb+1+1+1) (h4:z8=nb+1+1+1+1):
 ∀w5,w5=((((w.alloc (.map #[] 0)).alloc (.cells #[.map (some nb)] 150)).alloc (.cells #[Zs] 22)).alloc (.map #[] 0)).alloc (.cells #[.map (some fm)] 207)→
 NQ w nb z5 z6 fm z8 U K ([],[]) w5 (fun _=>False):=by
 rintro w5 rfl
 subst h1 h2 h3 h4
 obtain⟨a1,s1,u1⟩:=av (.map #[] 0) h0.symm
 obtain⟨a2,s2,u2⟩:=av (.cells #[.map (some nb)] 150) s1
 obtain⟨a3,s3,u3⟩:=av (.cells #[Zs] 22) s2
 obtain⟨a4,s4,u4⟩:=av (.map #[] 0) s3
 obtain⟨a5,s5,u5⟩:=av (.cells #[.map (some (nb+1+1+1))] 207) s4
 have hY:∀b,Yb w.heap.size (nb+1+1+1) (nb+1+1+1+1) (fun _=>False) b→b<nb∨b=nb+1+1+1∨b=nb+1+1+1+1:=fun b hb=>by
  rcases hb with hb|hb|hb
  ·exact .inl (by omega)
  ·exact hb.elim
  ·exact .inr hb
 refine⟨((((((ak.refl _ w).alloc (Nat.le_refl _) _).alloc (by omega) _).alloc (by omega) _).alloc (by omega) _).alloc (by omega) _),⟨u5 _ _ (u4 _ _ (u3 _ _ a2)),⟨#[],0,u5 _ _ (u4 _ _ (u3 _ _ (u2 _ _ a1))),aN _,by simp⟩,⟨Zs,u5 _ _ (u4 _ _ a3),Own.nil _ _ _ _,fun g hg=>by cases hg⟩,?_,?_,?_⟩,fun b hb=>?_,NJ.start _,fun b hb=>hb.elim,⟨[],⟨#[],0,u5 _ _ a4,aN _,by simp⟩,by simp,by simp⟩,a5,by omega⟩
 ·intro h;have:=hY _ h;omega
 ·intro h;have:=hY _ h;omega
 ·intro h;have:=hY _ h;omega
 ·have:=hY _ hb;omega
end
section
set_option maxRecDepth 100000
set_option maxHeartbeats 8000000
def Nd (w:World) (z:Nat):Nat:=
 match w.cell? ⟨z,0,none⟩with
 |some (.slice _ n _)=>n
 |_=>0
def E6 (w:World) (g:Nat):Nat:=
 match w.heap[g]? with
 |some (.map es _)=>es.size
 |_=>0
variable {w:World} {e g n:Nat}
theorem ye {l:List Int} (h:aQ .i64 w g (nc l)):E6 w g=l.length:=by
 obtain⟨es,cl,hg,he,_⟩:=h
 unfold E6
 rw[hg]
 have:=congrArg List.length he
 simpa[nc]using this
variable {v:Value}
theorem Own.shape {base size:Nat} {xs:List Value} (h:Own w base e size v n xs):∃A c,v=.slice A n c:=by
 rcases h.form with⟨rfl,rfl⟩|⟨g,c,cs,rfl,_⟩
 ·exact⟨_,_,rfl⟩
 ·exact⟨_,_,rfl⟩
theorem Ck {z e':Nat} {fr:Nat×Nat} {base size:Nat} {xs:List Value} (hg:w.heap[z]?=some (.cells #[v] e' fr)) (h:Own w base e size v n xs):Nd w z=n:=by
 obtain⟨A,c,rfl⟩:=h.shape
 unfold Nd
 rw[Yc hg]
 rfl
theorem Own.pop {base c k:Nat} {xs:List Value} {x:Value} (h:Own w base e 1 (.slice (ad g) (k+1) c) (k+1) (xs++[x])):Own w base e 1 (.slice (ad g) k c) k xs∧w.cell? ⟨g,k,none⟩=some x∧k+1≤c:=by
 have hl:=h.len
 have hc:w.cell? ⟨g,k,none⟩=some x:=h.cell (by rw[List.getElem?_append_right (by simp at hl;omega)];simp at hl;simp[hl])
 obtain⟨h0,⟨h1,_⟩|⟨g',c',cur,h1,h2,h3,h4,h5,h6,h7⟩⟩:=h
 ·cases h1
 ·cases h1
  refine⟨⟨by simp at h0;omega,.inr ⟨g,c,cur,rfl,h2,h3,by omega,h5,h6,?_⟩⟩,hc,h4⟩
  have e:(cur.toList.take ((k+1)*1)).take (k*1)=(xs++[x]).take (k*1):=by rw[h7]
  rw[List.take_take,show min (k*1) ((k+1)*1)=k*1 by omega]at e
  rw[e]
  simp at h0
  exact List.take_left' (by omega)
theorem FG (g n c k:Nat) (hk:k<n) (hc:n≤c) (dY:c≤maxLen):∀u,(Instr.slice 22 (.slice (ad g) n c) none (some (G k)) none).run Tryz.prog u=.ok (.slice (ad g) k c) u:=by
 have hu:=Tryz.underlying22
 have h3:∀u,(sizeOf 3).run Tryz.prog u=.ok 1 u:=fun u=>by kernel_rfl
 have h1:k≤c:=by omega
 intro u
 simp[Instr.slice,go_sem,run_underlying hu,h3,Addr.add,h1]
def XJ (S0 nb z5 z6:Nat) (Y:Nat→Prop) (wz:World) (a:List Int×List Int) (ri:List Int) (X:Nat→Prop) (wx:World):Prop:=
 NS S0 nb z5 z6 (ri.foldl eP a) (fun b=>X b∨Y b) wx∧Kp Y wz wx∧∀b,X b→¬Y b
theorem Rc (S0 nb z5 z6:Nat) (Y:Nat→Prop) (wz:World) (a:List Int×List Int) (hY:∀b,Y b→b<wz.heap.size):af4 (XJ S0 nb z5 z6 Y wz a):=by
 refine⟨fun l X X' w h hx=>?_,fun l X w w' h hm=>?_⟩
 ·refine⟨h.1.grow fun b hb=>?_,h.2.1,fun b hb hy=>?_⟩
  ·rcases hb with hb|hb
   ·exact(hx b hb).imp_left .inl
   ·exact .inl (.inr hb)
  ·rcases hx b hb with h1|h1
   ·exact h.2.2 b h1 hy
   ·have:=hY b hy;have:=h.2.1.size;omega
 ·refine⟨h.1.move ⟨hm.os,hm.out,hm.size,fun b hb hx=>hm.block b hb fun Bg=>hx (.inl Bg)⟩,h.2.1.trans ⟨hm.os,hm.out,hm.size,fun b hb hy=>hm.block b hb fun hx=>h.2.2 b hx hy⟩,h.2.2⟩
theorem IZ (S0 nb z5 z6:Nat) (Y:Nat→Prop) (wz:World) (a:List Int×List Int) (U:List Int) (hY:∀b,Y b→b<wz.heap.size) (cH:nb≠z5∧nb≠z6∧z5≠z6) (hS:S0≤wz.heap.size) (hj:NJ U a) (hU:U.length≤1000) (ri:List Int) (v:Int) (hl:∀x∈ri,x∈U):PT (XJ S0 nb z5 z6 Y wz a) 163 #[] #[.pointer (ad z5),.pointer (ad z6)] ri (ri++[v]) v v:=fun X w1 h1 hX=>by
 have Uk:=hj.notes ri hl
 have hle:=Uk.len
 have an3:=Uk.Ng
 have cC:=h1.2.1.size
 refine(rJ S0 nb z5 z6 _ _ w1 v h1.1 cH (fun b hx=>?_) (by omega) (by omega)).mono ?_
 ·rcases hx with hx|hx
  ·exact hX b hx
  ·have:=hY b hx;omega
 ·rintro e w2 ⟨rfl,hn,hk⟩
  exact⟨rfl,⟨by rw[List.foldl_append];exact hn,h1.2.1.trans (hk.sub fun b hb=> .inr hb),h1.2.2⟩,hk.size,fun b hb hl=>hk.block b hl (.inl hb)⟩
theorem E1 (w:World) (gr bk al df nm ob cm om:Nat) (Pp:Option Addr) (pc ga n c:Nat) (T:Option Addr) (tc:Nat) (s:St) (l:List aE) (ret:Int) (h:Gr w gr bk al df nm ob cm om Pp pc ga n c T tc s l ret) (bB:jy l) (nt:0≤ret) (CS:Tm l) (r cr:Nat) (hr:w.cell? ⟨r,0,none⟩=some (.pointer (ad bk))) (oh:1≤cr):
 Calls Tryz.prog 103 #[.pointer (ad gr),.slice (ad r) 1 cr] w (fun e w'=>ak w.heap.size w w'∧∃nb ND,e=.returned (.map (some nb))∧aQ .i64 w' nb (nc ND)∧(∀o∈l,fI (aA s.nm) o=false→∀v∈bl o,v∈ND)∧ret∈ND∧∀v∈ND,v∈UL l ret):=by
 have qE:∀(fn:Fn) (first cap:Array Value) (w:World),(Instr.makeFunc fn first cap).run Tryz.prog w=.ok (.func fn first cap) w:=fun _ _ _ _=>rfl
 have vY:∀u:World,(Instr.makeMap 150 none).run Tryz.prog u=.ok (.map (some u.heap.size)) (u.alloc (.map #[] 0)):=fun u=>by kernel_rfl
 have xd:∀u:World,(Instr.makeMap 207 none).run Tryz.prog u=.ok (.map (some u.heap.size)) (u.alloc (.map #[] 0)):=fun u=>by kernel_rfl
 have Qk:=PF (ret:=ret) l
 have po:n≤12:=h.small
 have pI:l.length=n:=h.ops.1
 have H:=cf h;have dA:=cf bB;have Te:=cf nt;have HD:=cf CS;have HUL:Hid ((UL l ret).length≤25):=cf (by omega);have HLN:=cf pI
 clear h bB nt CS Qk pI
 go_enter Tryz.func103,Tryz.ntmps103
 go_upto_region 5 with fail
 obtain⟨nb,uT⟩:∃nb,nb=w.heap.size:=⟨_,rfl⟩
 obtain⟨z5,hz5⟩:∃z5,z5=nb+1:=⟨_,rfl⟩
 obtain⟨z6,hz6⟩:∃z6,z6=nb+1+1:=⟨_,rfl⟩
 obtain⟨fm,Ac⟩:∃fm,fm=nb+1+1+1:=⟨_,rfl⟩
 obtain⟨z8,Zq⟩:∃z8,z8=nb+1+1+1+1:=⟨_,rfl⟩
 rw[←uT,←Zq,←Ac,←hz6,←hz5]
 have h5:=ap8 (U:=UL l ret) (K:=Kq l 0) uT hz5 hz6 Ac Zq _ rfl
 generalize((((w.alloc (.map #[] 0)).alloc (.cells #[.map (some nb)] 150)).alloc (.cells #[Zs] 22)).alloc (.map #[] 0)).alloc (.cells #[.map (some fm)] 207)=w5 at h5⊢
 have x5:w5.cell? ⟨r,0,none⟩=some (.pointer (ad bk)):=(World.cell?_of_block (a:=⟨r,0,none⟩) (h5.lo.block r (bq hr))).trans hr
 have b5:w5.cell? ⟨bk,1,none⟩=some (.slice (ad ga) n c):=Yc (H.out.low h5.lo).b
 have N5:=cf h5
 clear vY xd h5 uT hz5 hz6 Ac Zq hr
 go_wp2_with fail
 go_loopw[23] (fun i wr=>(i=G 0∧wr=w5)∨(i=G 1∧∃(a:List Int×List Int) (Rw:Nat→Prop),NQ w nb z5 z6 fm z8 (UL l ret) (Kq l n) a wr Rw∧YQ (aA s.nm) l n a∧ret∈a.1)) (fun i _=>1-(intOf i).toNat)
 case atStart=>exact .inl ⟨rfl,rfl⟩
 case round=>
  rcases hrel with⟨rfl,rfl⟩|⟨rfl,hN⟩
  ·have hng:n≤12:=po
   go_wp2_with fail
   obtain⟨w5,rfl⟩:∃u,u=wr:=⟨_,rfl⟩
   clear x5 b5
   go_loopw[32] (fun i wx=>∃(q:Nat) (a:List Int×List Int) (Rw:Nat→Prop),i=G q∧q≤n∧NQ w nb z5 z6 fm z8 (UL l ret) (Kq l q) a wx Rw∧YQ (aA s.nm) l q a) (fun i _=>n-(intOf i).toNat)
   case atStart=>exact⟨0,_,_,rfl,by omega,N5.out,fun j o hj=>by omega⟩
   case round=>
    obtain⟨wv,rfl⟩:∃u,u=wr:=⟨_,rfl⟩
    obtain⟨q,a,Rw,rfl,hq,hN,hC⟩:=hrel
    have gv:=H.out.low hN.lo
    by_cases bw:q<n
    ·have bN:(q:Int)<(n:Int):=by omega
     have nu:(0:Int)≤(q:Int):=by omega
     have mI:(q:Int)≤12:=by omega
     obtain⟨o,ho⟩:∃o,l[q]?=some o:=⟨_,List.getElem?_eq_getElem (by have:=gv.ops.1;omega)⟩
     have CH:=gv.ops
     obtain⟨Ft,yq,Sm,cs,hg,eR⟩:=CH
     obtain⟨k0,k1,k2,k3,k4,k5⟩:=eR q o ho
     obtain⟨c0,c1,c2,c3,c4,c5⟩:=iw hg k0 k1 k2 k3 k4 k5
     have Jl:=dA.out o (List.mem_of_getElem? ho)
     have l9:ak wv.heap.size wv (wv.alloc (OC o)):=F0
     have a9:=ao wv (OC o)
     have HO:=cf ho;have HC:=cf hC
     clear ho hC eR
     go_upto_region 11 with fail
     clear c0 c1 c2 c3 c4 c5 k0 k1 k2 k3 k4 k5 hg
     obtain⟨VM,KY⟩:∃VM,VM=wv.heap.size:=⟨_,rfl⟩
     have N9:=cf (hN.low l9)
     have g9:=gv.low l9
     have HOB:Hid (w.heap.size≤VM∧fm<VM):=cf (by rw[KY];exact⟨hN.lo.size,hN.bd fm (.inr (.inr (.inl rfl)))⟩)
     rw[←KY]at a9⊢
     generalize wv.alloc (OC o)=wa at a9 N9 g9⊢
     obtain⟨x0,x1,x2,x3,x4,x5⟩:=aC a9
     have hP:=BT wa gr nm s o (Yc g9.g) g9.fD Jl
     have G9:=cf g9;have A9:=cf a9
     obtain⟨pp,Fm⟩:∃pp,pp=fI (aA s.nm) o:=⟨_,rfl⟩
     rw[←Fm]at hP
     have UX:=cf Fm
     clear hN gv l9 a9 g9 KY Fm
     cases pp
     ·go_upto_region 13 with(first
       |(go_at_call 108;(with_reducible refine hP.mono ?_);rintro e w6 ⟨rfl,l6⟩))
      have a6:=l6.some A9.out
      have N6:=N9.out.low l6
      clear x0 x1 x2 x3 x4 x5 hP
      obtain⟨x0,x1,x2,x3,x4,x5⟩:=aC a6
      have cH:=N6.df
      have cC:=N6.lo.size
      have Qk:=HUL.out
      have jn:=zP (DI w w6 nb z5 z6 fm z8 Rw a) w6 o 163 #[] #[.pointer (ad z5),.pointer (ad z6)] o.a o.b (MT w w6 nb z5 z6 fm z8 Rw a N6.bd) ⟨N6.ns.grow (fun b hb=>by rcases hb with hb|hb;exact .inl hb;exact .inr (by omega)),Kp.refl _ _⟩ Jl yH
       (fun hu=>uG w w6 nb z5 z6 fm z8 Rw a (UL l ret) N6.bd ⟨cH.1,cH.2.1,cH.2.2.1⟩ cC N6.nj (by omega) [] o.a (by simp))
       (fun hu=>uG w w6 nb z5 z6 fm z8 Rw a (UL l ret) N6.bd ⟨cH.1,cH.2.1,cH.2.2.1⟩ cC N6.nj (by omega) (dv o) o.b (fun x hx=>zN (List.mem_of_getElem? HO.out) (List.mem_append_left _ hx)))
      unfold aE.val at jn
      have aH:Hid (∀w7,DI w w6 nb z5 z6 fm z8 Rw a (bl o) w7→NQ w nb z5 z6 fm z8 (UL l ret) (Kq l (q+1)) ((bl o).foldl eP a) w7 Rw∧YQ (aA s.nm) l (q+1) ((bl o).foldl eP a)):=cf (by
       rintro w7 ⟨h7,k7⟩
       refine⟨(N6.kp (h7.less fun b hb=> .inl hb) k7 (N6.nj.notes _ (fun x hx=>zN (List.mem_of_getElem? HO.out) hx))).keys (fun k hk=>hk.more),fun j o' hj cP ku v hv=>?_⟩
       by_cases hjq:j<q
       ·exact jk _ (HC.out j o' hjq cP ku v hv)
       ·obtain rfl:j=q:=by omega
        rw[HO.out]at cP
        cases cP
        exact xY _ hv)
      clear a6 N6 cH cC Qk
      go_wp2_with(first
       |(go_at_call 85;(with_reducible refine jn.mono ?_);rintro e w7 ⟨rfl,h7⟩))
      exact⟨⟨q+1,_,Rw,rfl,bw,(aH.out _ h7).1,(aH.out _ h7).2⟩,by show n-((q:Int)+1).toNat<n-((q:Int)).toNat;omega⟩
     ·go_upto_region 12 with(first
       |(go_at_call 108;(with_reducible refine hP.mono ?_);rintro e w6 ⟨rfl,l6⟩))
      have a6:=l6.some A9.out
      have N6:=N9.out.low l6
      clear x0 x1 x2 x3 x4 x5 hP
      obtain⟨x0,x1,x2,x3,x4,x5⟩:=aC a6
      obtain⟨m,hm,hk,eJ⟩:=N6.fr
      have Lc:fm<w6.heap.size:=N6.bd fm (.inr (.inr (.inl rfl)))
      have cO:o.code≠25:=BU UX.out.symm
      have hmn:fp m o.res=none:=Kb fun p hp e=>by
       obtain⟨j,o',hj,cP,rU,e'⟩:=hk p hp
       exact HD.out j q o' o hj cP HO.out rU cO (e'.symm.trans e)
      have c8:=bf N6.c8
      have cH:=N6.df
      have KY:=HOB.out
      have jn:=zP (yR w6 fm m o.res) w6 o 164 #[] #[.pointer (ad z8),.pointer (ad VM)] o.a o.b (Oy w6 fm m o.res Lc) ⟨aY.refl _ _,Zs,m,hm,by rw[hmn];rfl,fun _=>rfl,Own.nil _ _ _ _,fun _=>rfl,fun h=>absurd rfl h⟩ Jl Kr
       (fun hu=>vh w6 z8 fm VM o.res o.a m [] c8 (by omega) x1 (by omega) Lc (by simp))
       (fun hu=>vh w6 z8 fm VM o.res o.b m (dv o) c8 (by omega) x1 (by omega) Lc (by unfold dv;split<;>simp))
      unfold aE.val at jn
      have aH:Hid (∀w7,yR w6 fm m o.res (bl o) w7→∃XI,NQ w nb z5 z6 fm z8 (UL l ret) (Kq l (q+1)) a w7 XI∧YQ (aA s.nm) l (q+1) a):=cf (by
       intro w7 h7
       obtain⟨XI,hx⟩:=N6.from hm hk eJ HO.out cO h7
       refine⟨XI,hx,fun j o' hj cP ku v hv=>?_⟩
       by_cases hjq:j<q
       ·exact HC.out j o' hjq cP ku v hv
       ·obtain rfl:j=q:=by omega
        rw[HO.out]at cP
        cases cP
        rw[←UX.out]at ku
        cases ku)
      clear hm hk eJ a6 N6 cH hmn c8 Lc cO KY
      go_wp2_with(first
       |(go_at_call 85;(with_reducible refine jn.mono ?_);rintro e w7 ⟨rfl,h7⟩))
      have Tj:=aH.out _ h7
      obtain⟨XI,f1,f2⟩:=Tj
      exact⟨⟨q+1,_,XI,rfl,bw,f1,f2⟩,by show n-((q:Int)+1).toNat<n-((q:Int)).toNat;omega⟩
    ·have bN:¬(q:Int)<(n:Int):=by omega
     obtain rfl:q=n:=by omega
     have Qn:=gf wv bk ret Te.out (Yc gv.b) (Yc gv.b)
     have NV:=cf hN;have GV:=cf gv;have HC:=cf hC
     clear hN gv hC
     go_upto_region 16 with(first
      |(go_at_call 97;(with_reducible refine Qn.mono ?_);rintro e w6 ⟨rfl,l6⟩))
     have n6:=NV.out.low l6
     have G6:=cf (GV.out.low l6)
     have y3:=mM G6.out.b
     have Qk:=HUL.out
     have Lb:=n6.nj.len
     have gS:=n6.nj.Ng
     have CL:=rJ w.heap.size nb z5 z6 a _ w6 ret n6.ns ⟨n6.df.1,n6.df.2.1,n6.df.2.2.1⟩ n6.bd (by omega) n6.lo.size
     have N6:=cf n6
     clear l6 Qn n6
     go_upto_region 17 with(first
      |(go_at_call 163;(with_reducible refine CL.mono ?_);rintro e w7 ⟨rfl,h7,k7⟩))
     have n7:=N6.out.kp h7 k7 (N6.out.nj.note (List.mem_append_right _ (by simp)))
     have y6:w7.cell? ⟨bk,4,none⟩=some (.slice T 0 tc):=(World.cell?_of_block (a:=⟨bk,4,none⟩) (k7.block bk (aB G6.out.b) (.inl (aB H.out.b)))).trans (Yc G6.out.b)
     have jz:Hid (∃(a:List Int×List Int) (Rw:Nat→Prop),NQ w nb z5 z6 fm z8 (UL l ret) (Kq l q) a w7 Rw∧YQ (aA s.nm) l q a∧ret∈a.1):=cf ⟨_,_,n7,fun j o hj ho hp v hv=>uC (HC.out j o hj ho hp v hv),xZ _ _⟩
     clear h7 k7 n7 y3 CL Qk Lb gS
     go_wp2_with fail
     go_loopw[59] (fun i wr=>i=G 0∧wr=w7) (fun _ _=>0)
     case atStart=>exact⟨rfl,rfl⟩
     case round=>
      obtain⟨rfl,rfl⟩:=hrel
      go_wp2_with fail
      exact⟨.inr ⟨rfl,jz.out⟩,by decide⟩
  ·obtain⟨w6,rfl⟩:∃u,u=wr:=⟨_,rfl⟩
   have HN:=cf hN
   clear hN x5 b5 N5
   go_wp2_with fail
   go_loopw[] (fun wr=>∃(a:List Int×List Int) (Rw:Nat→Prop),NQ w nb z5 z6 fm z8 (UL l ret) (Kq l n) a wr Rw∧YQ (aA s.nm) l n a∧ret∈a.1) (fun wr=>2*((UL l ret).length-E6 wr nb)+Nd wr z6)
   case atStart=>exact HN.out
   case round=>
    obtain⟨wy,rfl⟩:∃u,u=wr:=⟨_,rfl⟩
    obtain⟨a,Rw,hQ,hC,Fl⟩:=hrel
    obtain⟨rv,r1,r2,r3⟩:=hQ.ns.row
    have CX:=Ck r1 r2
    have hM1:=ye hQ.ns.mp
    by_cases hz:a.2=[]
    ·obtain⟨A,c',rfl⟩:=r2.shape
     have e0:a.2.length=0:=by rw[hz];rfl
     rw[e0]at r1
     have y6:=bf r1
     have y5:=bf hQ.ns.c5
     have HQ:=cf hQ;have HC:=cf hC;have XQ:=cf Fl
     clear hQ hC Fl r1 r2 r3 CX hM1 hz e0
     go_wp2_with fail
     go_ret
     exact⟨HQ.out.lo,nb,a.1,rfl,HQ.out.ns.mp,fun o ho hp v hv=>by
      obtain⟨j,hj,e⟩:=List.getElem_of_mem ho
      exact HC.out j o (by have:=HLN.out;omega) (by rw[List.getElem?_eq_getElem hj,e]) hp v hv,XQ.out,HQ.out.nj.sub⟩
    ·obtain⟨x,hx⟩:∃x,a.2=a.2.dropLast++[x]:=⟨a.2.getLast hz,(List.dropLast_concat_getLast hz).symm⟩
     obtain⟨td,htd⟩:∃td,td=a.2.dropLast:=⟨_,rfl⟩
     rw[←htd]at hx
     obtain⟨k,hk⟩:∃k,k=td.length:=⟨_,rfl⟩
     have hlen:a.2.length=k+1:=by rw[hx];simp[hk]
     rcases r2.form with⟨_,e⟩|⟨g,c',cs,rfl,Ul,hg,uW⟩
     ·omega
     ·rw[hlen]at r1 r2 CX uW r3
      have r4:=r2
      rw[hx,List.map_append]at r4
      obtain⟨p1,p2,p3⟩:=Own.pop (x:=cA x) r4
      have dY:c'≤maxLen:=by
       obtain⟨_,⟨e,_⟩|⟨g',c'',cur,e,_,_,_,e5,_⟩⟩:=r2
       ·cases e
       ·cases e;exact e5
      obtain⟨n2,yq⟩:∃n2,n2=k+1:=⟨_,rfl⟩
      rw[←yq]at r1 r2 CX uW r3 p3
      have Ym:=FG g n2 c' k (by omega) uW dY
      have y6:=bf r1
      have f6:wy.frozen? ⟨z6,0,none⟩=false:=au r1
      have yg:wy.cell? ⟨g,k,none⟩=some (G x):=p2
      have WC:g≠z6:=by rintro rfl;rw[hg]at r1;cases r1
      have aa3:a.2.length≤a.1.length:=hQ.nj.len
      have ZP:td.length≤a.1.length:=by omega
      have hNS:NS w.heap.size nb z5 z6 (a.1,td) (Yb w.heap.size fm z8 Rw) (wy.setCell ⟨z6,0,none⟩ (.slice (ad g) k c')):=
       ⟨(aj hQ.df.2.2.1).trans hQ.ns.c5,hQ.ns.mp.aW (aj hQ.df.2.1),⟨_,aD r1,by rw[←hk];exact p1.kept fun b hb=>aj (by cases hb;exact WC),fun b hb=>r3 b (by cases hb;rfl)⟩,hQ.ns.off⟩
      have hKP:Kp (Yb w.heap.size fm z8 Rw) wy (wy.setCell ⟨z6,0,none⟩ (.slice (ad g) k c')):=Kp.EX (aY.setCell (B:=[z6]) _ (by simp) _) (by simpa using hQ.ns.off.2.2)
      have hQz:=hQ.kp hNS hKP ⟨hQ.nj.nd,hQ.nj.sub,fun v hv=>hQ.nj.Y2 v (by rw[hx];exact List.mem_append_left _ hv),ZP⟩
      have h0:(0:Int)<(n2:Int):=by omega
      have JV:(n2:Int)-1=(k:Int):=by omega
      have sS:(0:Int)≤(k:Int):=by omega
      have Qs:(k:Int)<(n2:Int):=by omega
      have Qk:=HUL.out
      have hll:=hQ.nj.Ng
      have an7:(k:Int)≤25:=by omega
      have al8:(n2:Int)≤26:=by omega
      clear Qk hll
      have HQ:=cf hQ;have HC:=cf hC;have XQ:=cf Fl;have PL:=cf hQz;have HL1:=cf CX;have HM1:=cf hM1;have HX:=cf hx;have HK:=cf hk;have XX:=cf hlen;have HN2:=cf yq
      clear hQ hC Fl hQz CX hM1 hx hk hlen yq r1 r2 r3 r4 p1 p2 p3 hNS hKP aa3 ZP WC hg uW Ul hz htd dY
      go_upto_region 30 with fail
      generalize wy.setCell ⟨z6,0,none⟩ (.slice (ad g) k c')=wz at PL⊢
      clear y6 f6 yg Ym h0 JV sS Qs an7 al8
      obtain⟨m,hm,wj,eJ⟩:=PL.out.fr
      have y8:=bf PL.out.c8
      have ef:∃(A:Option Addr) (c2:Nat) (xs:List Int),(Instr.lookup 207 (.map (some fm)) (G x) false).run Tryz.prog wz=.ok (.slice A xs.length c2) wz∧Own wz w.heap.size 3 1 (.slice A xs.length c2) xs.length (xs.map cA)∧xs.length≤2∧(∀v∈xs,v∈UL l ret)∧∀b,(Value.slice A xs.length c2).ownBlock=some b→Rw b:=by
       have hl:=aM (P:=Tryz.prog) (t:=207) Tryz.underlying207 Tryz.underlying3 hm (k:=x) (z:=Zs) (by kernel_rfl) false
       cases Sr:fp m x with
       |none=>
        rw[Sr]at hl
        exact⟨none,0,[],hl,Own.nil _ _ _ _,by simp,by simp,fun b hb=>by cases hb⟩
       |some rv=>
        rw[Sr]at hl
        obtain⟨p,hp,rfl⟩:=Da Sr
        obtain⟨xs,x1,x2,x3,x4⟩:=eJ p hp
        obtain⟨A,c2,e⟩:=x1.shape
        rw[e]at hl x1 x4
        exact⟨A,c2,xs,hl,x1,x2,x3,x4⟩
      obtain⟨A,c2,xs,aw5,Yk,hx2,hxu,sH⟩:=ef
      have cH:=PL.out.df
      have Qk:=HUL.out
      have kx:=ae5 (XJ w.heap.size nb z5 z6 (Yb w.heap.size fm z8 Rw) wz (a.1,td)) (Rc _ _ _ _ _ _ _ PL.out.bd) wz A c2 xs id 163 #[] #[.pointer (ad z5),.pointer (ad z6)] (fun _=>False) ⟨PL.out.ns.less (fun b hb=>by rcases hb with hb|hb;exact hb.elim;exact hb),Kp.refl _ _,fun b hb=>hb.elim⟩ (fun b hb=>hb.elim)
       (fun j v hj=>by
        rcases Yk.form with⟨_,e⟩|⟨g2,c3,At,e,_,mc,_⟩
        ·have:=(List.getElem?_eq_some_iff.1 hj).1;omega
        ·cases e
         refine⟨g2,rfl,fun ri X w1 h1=>?_⟩
         have hb:=h1.2.1.block g2 (aB mc) (.inr (.inl (sH g2 rfl)))
         exact(World.cell?_of_block (a:=⟨g2,j,none⟩) hb).trans (Yk.cell (by rw[List.getElem?_map,hj];rfl)))
       (by omega) yH
       (fun j v hj=>by
        have e:xs.take (j+1)=xs.take j++[v]:=by
         have hq:=(List.getElem?_eq_some_iff.1 hj).1
         have ho:=(List.getElem?_eq_some_iff.1 hj).2
         rw[List.take_succ_eq_append_getElem hq,ho]
        rw[e]
        exact IZ _ _ _ _ _ _ _ (UL l ret) PL.out.bd ⟨cH.1,cH.2.1,cH.2.2.1⟩ PL.out.lo.size PL.out.nj (by omega) _ _ (fun v hv=>hxu v (List.mem_of_mem_take hv)))
      have HXU:=cf hxu
      clear hm wj eJ Yk hx2 hxu sH cH Qk
      go_wp2_with(first
       |(go_at_call 84;(with_reducible refine kx.mono ?_);rintro e w7 ⟨rr,X',rfl,h7,_⟩))
      have n7:=PL.out.kp (h7.1.less fun b hb=> .inr hb) h7.2.1 (PL.out.nj.notes xs HXU.out)
      obtain⟨d,d1,d2⟩:=uA xs (a.1,td)
      have hM7:=ye n7.ns.mp
      obtain⟨v7,q1,q2,q3⟩:=n7.ns.row
      have hL7:=Ck q1 q2
      have DX:=n7.nj.Ng
      refine⟨⟨_,Rw,n7,fun j o hj ho hp v hv=>jk xs (HC.out j o hj ho hp v hv),jk xs XQ.out⟩,?_⟩
      rw[hM7,hL7,HM1.out,HL1.out]
      rw[d1]at DX⊢
      rw[d2]
      have e2:=HN2.out
      have e3:=HK.out
      simp only[List.length_append]at DX⊢
      omega
end
end Go.Proofs.YtjkahfmdcpfjjaaGreat
