/- The reference: the graph of a function of one block. -/
import Derived.Test.YtjkahfmdcpfjjaaGreatC2
set_option linter.unusedVariables false
namespace Go.Proofs.YtjkahfmdcpfjjaaGreat
open Go.RowKit
section
set_option maxRecDepth 100000
set_option maxHeartbeats 8000000
variable {w:World} {S S' c n:Nat}
theorem bW.Zf {xs:List Int} (h:bW w S none n c xs):n=0∧c=0:=by
 rcases h.2.form with⟨e,rfl⟩|⟨g,c',cs,e,h2,h3,h4⟩
 ·cases e;exact⟨rfl,rfl⟩
 ·cases e
variable {A:Option Addr}
theorem bW.Ty {xs:List Int} (h:bW w S A n c xs):A≠none∨n=0∧c=0:=by
 cases A with
 |none=>exact .inr h.Zf
 |some a=>exact .inl (by simp)
theorem Own.mono {e size:Nat} {v:Value} {xs:List Value} (h:Own w S e size v n xs) (hS:S'≤S):Own w S' e size v n xs:=by
 obtain⟨h0,h1|⟨g',c',cur,h1,h2,h3,h4,h5,h6,h7⟩⟩:=h
 ·exact⟨h0,.inl h1⟩
 ·exact⟨h0,.inr ⟨g',c',cur,h1,by omega,h3,h4,h5,h6,h7⟩⟩
theorem bW.mono {xs:List Int} (h:bW w S A n c xs) (hS:S'≤S):bW w S' A n c xs:=⟨h.1,h.2.mono hS⟩
theorem QS {c:Int} (h:aZ c=false):bc c=false:=by
 unfold aZ at h
 unfold bc
 simp only[Bool.or_eq_false_iff]at h
 exact h.1.2
theorem vL {xs:List Int} (h:bW w S A n c xs):(Builtin.append_ #[22,22] 22 #[.slice A n c,Zs]).run Tryz.prog w=.ok (.slice A n c) w:=by
 have h3:∀u,(sizeOf 3).run Tryz.prog u=.ok 1 u:=fun u=>by kernel_rfl
 rcases h.2.form with⟨e,rfl⟩|⟨g,c',cs,e,h2,h3',h4⟩
 ·cases e
  simp[Builtin.append_,Builtin.lenOf,Builtin.firstCells,run_underlying Tryz.underlying22,h3]
 ·cases e
  simp[Builtin.append_,Builtin.lenOf,Builtin.firstCells,run_underlying Tryz.underlying22,h3,h4,storeCells]
theorem Br (w:World) (o:aE) (h:aS o.code):
 Calls Tryz.prog 125 #[OV o] w (fun e w'=>ak w.heap.size w w'∧∃A n c,e=.returned (.slice A n c)∧bW w' w.heap.size A n c (bl o)):=by
 have l1:ak w.heap.size w (w.alloc (OC o)):=F0
 have a1:=ao w (OC o)
 have Cw:w.heap.size<(w.alloc (OC o)).heap.size:=by simp
 go_enter Tryz.func125,Tryz.ntmps125
 go_upto_region 1 with fail
 obtain⟨t1,eu⟩:∃t,t=w.heap.size:=⟨_,rfl⟩
 rw[←eu]at a1 Cw⊢
 clear eu
 generalize w.alloc (OC o)=w1 at l1 a1 Cw⊢
 have L1:=cf l1;have A1:=cf a1;have HS1:=cf Cw
 have x0:=bf a1
 clear a1 Cw l1
 have ja:=dC w1 o.code h
 go_upto_region 3 with(first
  |(go_at_call 65;refine ja.mono ?_;rintro e w2 ⟨rfl,l2⟩))
 have l3:ak w2.heap.size w2 (w2.alloc (.cells #[.bool true,.bool (bR o.code),.bool (aZ o.code),.bool (bc o.code),.bool (iB o.code)] 102)):=F0
 have f3:=ao w2 (.cells #[.bool true,.bool (bR o.code),.bool (aZ o.code),.bool (bc o.code),.bool (iB o.code)] 102)
 have Sc:w2.heap.size<(w2.alloc (.cells #[.bool true,.bool (bR o.code),.bool (aZ o.code),.bool (bc o.code),.bool (iB o.code)] 102)).heap.size:=by simp
 have aj9:t1<w2.heap.size:=Nat.lt_of_lt_of_le HS1.out l2.size
 have A3:=cf (l3.some (l2.some A1.out))
 have L3:=cf ((L1.out.trans (l2.mono L1.out.size)).trans (l3.mono (Nat.le_trans L1.out.size l2.size)))
 obtain⟨t3,ZT⟩:∃t,t=w2.heap.size:=⟨_,rfl⟩
 rw[←ZT]at f3 Sc⊢
 generalize w2.alloc (.cells #[.bool true,.bool (bR o.code),.bool (aZ o.code),.bool (bc o.code),.bool (iB o.code)] 102)=w3 at L3 A3 f3 Sc⊢
 have F3:=cf f3
 have lZ:t3<w3.heap.size:=Sc
 have eu:t1<w3.heap.size:=by omega
 clear l3 l2 x0 ja f3 Sc A1 L1 HS1 aj9 ZT
 have Yq:bW w3 w3.heap.size none 0 0 []:=bW.nil _ _
 have TX:w3.heap.size≤w3.heap.size:=Nat.le_refl _
 have Qb:ak w3.heap.size w3 w3:=ak.refl _ _
 have av0:=rn (Qb.obj eu A3.out)
 have au8:=mM (Qb.obj eu A3.out)
 have au6:=Lt (Qb.obj eu A3.out)
 have YU:=rn (Qb.obj lZ F3.out)
 have ai1:=mM (Qb.obj lZ F3.out)
 cases hA:aZ o.code
 ·have hB:bc o.code=false:=QS hA
  have mK:bl o=[]:=by simp[bl,dv,il,hA,hB]
  rw[hA]at YU;rw[hB]at ai1
  have Cz:=vL Yq
  have HL:=cf (L3.out.trans (Qb.mono L3.out.size))
  have HO:=cf (show bW w3 w.heap.size none 0 0 (bl o) by rw[mK];exact Yq.mono L3.out.size)
  go_wp2_with(first
   |(at_builtin;refine aO rfl (.tmp 22) (.tmp 24) rfl rfl rfl Cz ?_))
  go_ret
  exact⟨HL.out,_,_,_,rfl,HO.out⟩
 rw[hA]at YU
 cases hB:bc o.code
 ·have mK:bl o=[o.a]:=by simp[bl,dv,il,hA,hB]
  obtain⟨A4,c4,w4,iL,qB,vZ⟩:=j7 Yq o.a (by omega) TX
  have Hs:w3.heap.size≤w4.heap.size:=Nat.le_trans TX vZ.size
  have Jw:=Qb.trans vZ
  have ah9:=rn (Jw.obj eu A3.out)
  have ah8:=mM (Jw.obj eu A3.out)
  have ah7:=Lt (Jw.obj eu A3.out)
  have Ve:=mM (Jw.obj lZ F3.out)
  rw[hB]at Ve
  rw[List.nil_append]at qB
  rw[Nat.zero_add]at iL qB
  have Cz:=vL qB
  have HL:=cf (L3.out.trans (Jw.mono L3.out.size))
  have HO:=cf (show bW w4 w.heap.size A4 1 c4 (bl o) by rw[mK];exact qB.mono L3.out.size)
  clear mK Jw Qb qB Yq vZ
  go_wp2_with(first
   |(at_builtin;refine aO rfl (.tmp 22) (.tmp 24) rfl rfl rfl Cz ?_)
   |(at_builtin;refine aO rfl (.tmp 10) (.tmp 13) rfl rfl rfl iL ?_))
  go_ret
  exact⟨HL.out,_,_,_,rfl,HO.out⟩
 ·have mK:bl o=[o.a,o.b]:=by simp[bl,dv,il,hA,hB]
  obtain⟨A4,c4,w4,iL,qB,vZ⟩:=j7 Yq o.a (by omega) TX
  have Hs:w3.heap.size≤w4.heap.size:=Nat.le_trans TX vZ.size
  have Jw:=Qb.trans vZ
  have ah9:=rn (Jw.obj eu A3.out)
  have ah8:=mM (Jw.obj eu A3.out)
  have ah7:=Lt (Jw.obj eu A3.out)
  have Ve:=mM (Jw.obj lZ F3.out)
  rw[hB]at Ve
  rw[List.nil_append]at qB
  rw[Nat.zero_add]at iL qB
  obtain⟨A5,c5,w5,fW,ho5,hl5⟩:=j7 qB o.b (by omega) Hs
  have hs5:w3.heap.size≤w5.heap.size:=Nat.le_trans Hs hl5.size
  have Yh:=Jw.trans hl5
  have au9:=rn (Yh.obj eu A3.out)
  have au7:=mM (Yh.obj eu A3.out)
  have au5:=Lt (Yh.obj eu A3.out)
  have av1:=mM (Yh.obj lZ F3.out)
  have pn:(Builtin.append_ #[22,22] 22 #[.slice A4 1 c4,.slice (ad (w4.heap.size)) 1 1]).run Tryz.prog (w4.alloc (.cells #[G o.b] 3))=.ok (.slice A5 2 c5) w5:=fW
  have Cz:=vL ho5
  have HL:=cf (L3.out.trans (Yh.mono L3.out.size))
  have HO:=cf (show bW w5 w.heap.size A5 2 c5 (bl o) by rw[mK];exact ho5.mono L3.out.size)
  clear mK Yh Jw Qb qB Yq vZ hl5 ho5 fW
  go_wp2_with(first
   |(at_builtin;refine aO rfl (.tmp 22) (.tmp 24) rfl rfl rfl Cz ?_)
   |(at_builtin;refine aO rfl (.tmp 10) (.tmp 13) rfl rfl rfl iL ?_)
   |(at_builtin;refine aO rfl (.tmp 17) (.tmp 20) rfl rfl rfl pn ?_))
  go_ret
  exact⟨HL.out,_,_,_,rfl,HO.out⟩
end
section
set_option maxRecDepth 100000
set_option maxHeartbeats 8000000
theorem pT (w:World) (ret:Int) (T:Option Addr) (tc:Nat) (h:0≤ret):
 Calls Tryz.prog 126 #[.agg #[G 4,G ret,.slice T 0 tc]] w (fun e w'=>ak w.heap.size w w'∧∃A c,e=.returned (.slice A 1 c)∧bW w' w.heap.size A 1 c [ret]):=by
 have l1:ak w.heap.size w (w.alloc (.cells #[G 4,G ret,.slice T 0 tc] 60)):=F0
 have a1:=ao w (.cells #[G 4,G ret,.slice T 0 tc] 60)
 have Cw:w.heap.size<(w.alloc (.cells #[G 4,G ret,.slice T 0 tc] 60)).heap.size:=by simp
 have sR:ret≠-1:=by omega
 go_enter Tryz.func126,Tryz.ntmps126
 go_upto_region 2 with fail
 obtain⟨t1,eu⟩:∃t,t=w.heap.size:=⟨_,rfl⟩
 rw[←eu]at a1 Cw⊢
 clear eu
 generalize w.alloc (.cells #[G 4,G ret,.slice T 0 tc] 60)=w1 at l1 a1 Cw⊢
 have L1:=cf l1;have A1:=cf a1
 have x0:=gV a1
 obtain⟨A4,c4,w4,iL,qB,vZ⟩:=j7 (bW.nil w1 w1.heap.size) ret (by omega) (Nat.le_refl _)
 rw[List.nil_append]at qB
 rw[Nat.zero_add]at iL qB
 have x2:=rn (vZ.some a1)
 have L4:=cf (l1.trans (vZ.mono l1.size));have O4:=cf (qB.mono l1.size)
 clear a1 Cw l1 qB vZ
 go_upto_region 5 with(first
  |(at_builtin;refine aO rfl (.tmp 23) (.tmp 26) rfl rfl rfl iL ?_))
 go_loopw[3,4] (fun v i wr=>v=.slice A4 1 c4∧i=G 0∧wr=w4) (fun _ i _=>0)
 case atStart=>exact⟨rfl,rfl,rfl⟩
 case round=>
  obtain⟨rfl,rfl,rfl⟩:=hrel
  go_wp2_with fail
  go_ret
  exact⟨L4.out,A4,c4,rfl,O4.out⟩
end
section
set_option maxRecDepth 100000
set_option maxHeartbeats 8000000
def iE (w:World) (gb:Nat):Prop:=∃cs,w.heap[gb]?=some (.cells cs 22 (0,0))∧cs[0]?=some Zs
theorem CQ (g:Nat):∀u,(Instr.slice 22 (.slice (ad g) 1 1) none (some (G 0)) none).run Tryz.prog u=.ok (.slice (ad g) 0 1) u:=by
 have hu:=Tryz.underlying22
 have h3:∀u,(sizeOf 3).run Tryz.prog u=.ok 1 u:=fun u=>by kernel_rfl
 intro u
 simp[Instr.slice,go_sem,run_underlying hu,h3,Addr.add]
variable {w w':World}
theorem iE.low {gb:Nat} (h:iE w gb) (hl:ak w.heap.size w w'):iE w' gb:=by
 obtain⟨cs,h1,h2⟩:=h
 exact⟨cs,hl.some h1,h2⟩
theorem Ox (w:World) (gb gc:Nat) (h:iE w gb):
 Calls Tryz.prog 172 #[.agg #[.slice (ad gb) 1 gc],G 0,G 0] w (fun e w'=>ak w.heap.size w w'∧∃r,e=.returned (.slice (ad r) 1 1)∧w'.heap[r]?=some (.cells #[.bool false] 4 (0,0))):=by
 have NI:∀u:World,(Instr.makeSlice 105 (G 1) (G 1)).run Tryz.prog u=.ok (.slice (ad (u.heap.size)) 1 1) (u.alloc (.cells #[.bool false] 4)):=fun u=>by kernel_rfl
 have l1:ak w.heap.size w (w.alloc (.cells #[.slice (ad gb) 1 gc] 176)):=F0
 have a1:=ao w (.cells #[.slice (ad gb) 1 gc] 176)
 go_enter Tryz.func172,Tryz.ntmps172
 go_upto_region 1 with fail
 generalize w.alloc (.cells #[.slice (ad gb) 1 gc] 176)=w1 at l1 a1⊢
 obtain⟨t1,eu⟩:∃t,t=w.heap.size:=⟨_,rfl⟩
 rw[←eu]at a1⊢
 clear eu
 have x1:=bf a1
 have L1:=cf l1
 clear a1
 go_wp2_with fail
 go_ret
 exact⟨L1.out.trans ((ak.refl _ w1).alloc L1.out.size _),w1.heap.size,rfl,ao _ _⟩
theorem Oz (w:World) (gb gc:Nat) (h:iE w gb):
 Calls Tryz.prog 172 #[.agg #[.slice (ad gb) 1 gc],G 0,G (-1)] w (fun e w'=>ak w.heap.size w w'∧∃r,e=.returned (.slice (ad r) 1 1)∧w'.heap[r]?=some (.cells #[.bool true] 4 (0,0))):=by
 have NI:∀u:World,(Instr.makeSlice 105 (G 1) (G 1)).run Tryz.prog u=.ok (.slice (ad (u.heap.size)) 1 1) (u.alloc (.cells #[.bool false] 4)):=fun u=>by kernel_rfl
 have l1:ak w.heap.size w (w.alloc (.cells #[.slice (ad gb) 1 gc] 176)):=F0
 have a1:=ao w (.cells #[.slice (ad gb) 1 gc] 176)
 go_enter Tryz.func172,Tryz.ntmps172
 go_upto_region 1 with fail
 obtain⟨t1,eu⟩:∃t,t=w.heap.size:=⟨_,rfl⟩
 rw[←eu]at a1⊢
 clear eu
 generalize w.alloc (.cells #[.slice (ad gb) 1 gc] 176)=w1 at l1 a1⊢
 have x1:=bf a1
 have s1:=h.low l1
 obtain⟨r7,Yo⟩:∃r,r=w1.heap.size:=⟨_,rfl⟩
 have l2:ak w1.heap.size w1 (w1.alloc (.cells #[.bool false] 4)):=F0
 have a2:=ao w1 (.cells #[.bool false] 4)
 have l3:ak (w1.alloc (.cells #[.bool false] 4)).heap.size (w1.alloc (.cells #[.bool false] 4)) ((w1.alloc (.cells #[.bool false] 4)).alloc (.cells #[G 0] 3)):=F0
 have a3:=ao (w1.alloc (.cells #[.bool false] 4)) (.cells #[G 0] 3)
 have D2:=l3.some a2
 have L1:=cf l1
 clear l1
 go_upto_region 5 with fail
 have Nj:ak w1.heap.size w1 ((w1.alloc (.cells #[.bool false] 4)).alloc (.cells #[G 0] 3)):=l2.trans (l3.mono (by simp))
 have TZ:(w1.alloc (.cells #[.bool false] 4)).heap.size=r7+1:=by simp[Yo]
 rw[TZ]at a3
 rw[←Yo]at D2 Nj⊢
 have s3:=s1.low (Nj.mono (by omega))
 have x3:=bf (Nj.obj (by have:=bq x1;rw[Yo];exact this) a1)
 have L3:=cf (L1.out.trans (Nj.mono (by rw[Yo];exact L1.out.size)))
 have NT:w.heap.size≤r7:=by rw[Yo];exact L1.out.size
 clear NI l2 l3 a2 Yo TZ Nj s1 x1 a1
 generalize(w1.alloc (.cells #[.bool false] 4)).alloc (.cells #[G 0] 3)=w3 at L3 D2 a3 s3 x3⊢
 have f7:w3.frozen? ⟨r7,0,none⟩=false:=au D2
 have c7:=bf D2
 have Hs:(w3.setCell ⟨r7,0,none⟩ (.bool true)).heap[r7]?=some (.cells #[.bool true] 4 (0,0)):=by rw[aD D2];rfl
 have WU:(w3.setCell ⟨r7,0,none⟩ (.bool true)).heap[r7+1]?=some (.cells #[G 0] 3 (0,0)):=(aj (by omega)).trans a3
 have L4:=cf (L3.out.setCell NT (i:=0) (.bool true))
 obtain⟨cs,eR,h0⟩:=s3
 have cH:gb≠r7:=by rintro rfl;rw[D2]at eR;cases eR
 have Cv:t1≠r7:=by
  rintro rfl
  have:=Yc (j:=0) D2
  rw[x3]at this;cases this
 have x4:(w3.setCell ⟨r7,0,none⟩ (.bool true)).cell? ⟨t1,0,none⟩=some (.slice (ad gb) 1 gc):=(World.cell?_of_block (a:=⟨t1,0,none⟩) (aj Cv)).trans x3
 have z4:(w3.setCell ⟨r7,0,none⟩ (.bool true)).cell? ⟨gb,0,none⟩=some Zs:=(Yc ((aj cH).trans eR)).trans h0
 have Ym:=CQ (r7+1)
 have XO:=cf Hs
 clear eR h0 D2 a3 cH Cv x3 Hs L3
 go_upto_region 6 with fail
 clear f7 c7
 generalize w3.setCell ⟨r7,0,none⟩ (.bool true)=w4 at L4 XO WU x4 z4⊢
 have y4:=bf WU
 clear WU
 go_loopw[8] (fun s wr=>(s=.slice (ad (r7+1)) 1 1∨s=.slice (ad (r7+1)) 0 1)∧wr=w4) (fun s _=>match s with| .slice _ n _=>n|_=>0)
 case atStart=>exact⟨.inl rfl,rfl⟩
 case round=>
  obtain⟨rfl|rfl,rfl⟩:=hrel
  ·go_upto_region 10 with fail
   go_loopw[8,10] (fun s i wx=>s=.slice (ad (r7+1)) 0 1∧i=G 0∧wx=wr) (fun _ _ _=>0)
   case atStart=>exact⟨rfl,rfl,rfl⟩
   case round=>
    obtain⟨rfl,rfl,rfl⟩:=hrel
    go_wp2_with fail
    exact⟨⟨.inr rfl,trivial⟩,by show(0:Nat)<1;decide⟩
  ·go_wp2_with fail
   go_ret
   exact⟨L4.out,r7,rfl,XO.out⟩
def pC (w:World) (A:Option Addr):Prop:=∃g cs r jH,A=some ⟨g,0,none⟩∧w.heap[g]?=some (.cells cs 105 (0,0))∧cs[0]?=some (.slice (ad r) 1 1)∧w.heap[r]?=some (.cells jH 4 (0,0))∧jH[0]?=some (.bool true)
theorem pC.low {A:Option Addr} (h:pC w A) (hl:ak w.heap.size w w'):pC w' A:=by
 obtain⟨g,cs,r,jH,h1,h2,h3,h4,h5⟩:=h
 exact⟨g,cs,r,jH,h1,hl.some h2,h3,hl.some h4,h5⟩
theorem ae4:Ap Tryz.prog 172 105 1 24:=⟨Tryz.underlying172,by
 obtain⟨ti,nT,hz,hs,hb⟩:=dP (show(Tryz.prog.info? 105).map (fun i=>(i.zero,i.size,i.bytes))=some (some Zs,1,24) by kernel_rfl)
 exact⟨ti,_,nT,hz,hs,hb,rfl⟩,by decide,by decide⟩
theorem ae3:Ap Tryz.prog 174 22 1 24:=⟨Tryz.underlying174,by
 obtain⟨ti,nT,hz,hs,hb⟩:=dP (show(Tryz.prog.info? 22).map (fun i=>(i.zero,i.size,i.bytes))=some (some Zs,1,24) by kernel_rfl)
 exact⟨ti,_,nT,hz,hs,hb,rfl⟩,by decide,by decide⟩
theorem yN {P:Program} {t e bytes:Nat} (hE:Ap P t e 1 bytes) (w:World) (x:Value) (hx:x.oneCell'=true):∃g c w' cs,(Builtin.append_ #[t,t] t #[Zs,.slice (ad (w.heap.size)) 1 1]).run P (w.alloc (.cells #[x] e))=.ok (.slice (ad g) 1 c) w'∧ak w.heap.size w w'∧w.heap.size<g∧w'.heap[g]?=some (.cells cs e (0,0))∧cs[0]?=some x∧1≤c:=by
 have l1:ak w.heap.size w (w.alloc (.cells #[x] e)):=F0
 have hs:(w.alloc (.cells #[x] e)).heap.size=w.heap.size+1:=by simp
 obtain⟨v',w',cN,fP⟩:=eC (ty:=t) hE (Own.nil (w.alloc (.cells #[x] e)) (w.heap.size+1) e 1) (c:=1) (m:=1) (ao w (.cells #[x] e)) rfl (by simp[hx]) (by omega) (by omega)
 obtain⟨g,c,cs,rfl,h1,h2,h3,h4⟩:=fP.row (k:=1) rfl (by decide)
 refine⟨g,c,w',cs,cN,l1.trans (fP.low (Own.nil _ _ _ _) (by omega) (by omega)),by omega,h2,?_,h3⟩
 have:=h4.cell (j:=0) (u:=x) rfl
 rwa[Yc h2]at this
theorem Dl (w:World) (gb gc:Nat) (h:iE w gb):
 Calls Tryz.prog 122 #[.agg #[.slice (ad gb) 1 gc]] w (fun e w'=>ak w.heap.size w w'∧∃A c,e=.returned (.slice A 1 c)∧1≤c∧pC w' A):=by
 have NI:∀u:World,(Instr.makeSlice 105 (G 1) (G 1)).run Tryz.prog u=.ok (.slice (ad (u.heap.size)) 1 1) (u.alloc (.cells #[.bool false] 4)):=fun u=>by kernel_rfl
 have l1:ak w.heap.size w (w.alloc (.cells #[.slice (ad gb) 1 gc] 176)):=F0
 have a1:=ao w (.cells #[.slice (ad gb) 1 gc] 176)
 go_enter Tryz.func122,Tryz.ntmps122
 go_upto_region 1 with fail
 obtain⟨t1,eu⟩:∃t,t=w.heap.size:=⟨_,rfl⟩
 rw[←eu]at a1⊢
 clear eu
 generalize w.alloc (.cells #[.slice (ad gb) 1 gc] 176)=w1 at l1 a1⊢
 have x1:=bf a1
 have s1:=h.low l1
 have kx:=Oz w1 gb gc s1
 go_upto_region 4 with(first
  |(go_at_call 172;refine kx.mono ?_;rintro e w2 ⟨l2,r,rfl,hr⟩))
 have x2:=bf (l2.some a1)
 have s2:=s1.low l2
 have T2:=cf (l2.some a1);have L2:=cf (l1.trans (l2.mono l1.size));have R2:=cf hr;have S2:=cf s2
 clear l1 a1 x1 s1 kx l2 hr s2
 go_loopw[4,5] (fun o i wr=>(o=Zs∧i=G 0∧wr=w2)∨(i=G 1∧ak w2.heap.size w2 wr∧∃A c,o=.slice A 1 c∧1≤c∧pC wr A)) (fun _ i _=>1-(intOf i).toNat)
 case atStart=>exact .inl ⟨rfl,rfl,rfl⟩
 case round=>
  rcases hrel with⟨rfl,rfl,rfl⟩|⟨rfl,hl,A,c,rfl,hc,hD⟩
  ·obtain⟨w2,rfl⟩:∃u,u=wr:=⟨_,rfl⟩
   have CE:=Ox w2 gb gc S2.out
   go_upto_region 7 with(first
    |(go_at_call 172;refine CE.mono ?_;rintro e w3 ⟨l3,r3,rfl,Bi⟩))
   have x3:=bf (l3.some T2.out)
   have l4:ak w3.heap.size w3 (w3.alloc (.cells #[.bool false] 4)):=F0
   have a4:=ao w3 (.cells #[.bool false] 4)
   go_upto_region 9 with fail
   obtain⟨r4,Qo⟩:∃r,r=w3.heap.size:=⟨_,rfl⟩
   rw[←Qo]at a4⊢
   have L4:=cf (l3.trans (l4.mono l3.size));have T4:=cf (l4.some (l3.some T2.out));have R4:=cf (l4.some (l3.some R2.out));have H4:Hid (w2.heap.size≤r4):=cf (by rw[Qo];exact l3.size)
   have ZY:r≠r4:=by have:=aB (l3.some R2.out);omega
   have htt:t1≠r4:=by have:=aB (l3.some T2.out);omega
   clear x3 CE l3 l4 Bi Qo x2
   generalize w3.alloc (.cells #[.bool false] 4)=w4 at a4 L4 T4 R4⊢
   have A4:=cf a4
   clear a4
   go_loopw[8] (fun i wx=>(i=G 0∧wx=w4)∨(i=G 1∧wx=w4.setCell ⟨r4,0,none⟩ (.bool true))) (fun i _=>1-(intOf i).toNat)
   case atStart=>exact .inl ⟨rfl,rfl⟩
   case round=>
    rcases hrel with⟨rfl,rfl⟩|⟨rfl,rfl⟩
    ·have x4:wr.cell? ⟨t1,0,none⟩=some (.slice (ad gb) 1 gc):=Yc T4.out
     have y4:=bf R4.out
     have z4:=bf A4.out
     have f4:wr.frozen? ⟨r4,0,none⟩=false:=au A4.out
     go_wp2_with fail
     exact⟨.inr ⟨rfl,(by trivial)⟩,by decide⟩
    ·have x4:(w4.setCell ⟨r4,0,none⟩ (.bool true)).cell? ⟨t1,0,none⟩=some (.slice (ad gb) 1 gc):=Yc ((aj htt).trans T4.out)
     have a5:(w4.setCell ⟨r4,0,none⟩ (.bool true)).heap[r4]?=some (.cells #[.bool true] 4 (0,0)):=by rw[aD A4.out];rfl
     have l5:=L4.out.setCell H4.out (i:=0) (.bool true)
     generalize w4.setCell ⟨r4,0,none⟩ (.bool true)=w5 at x4 a5 l5⊢
     obtain⟨g6,c6,w6,Xh,qz,l6,h6,Ia,Jz,Up⟩:=yN ae4 w5 (.slice (ad r4) 1 1) rfl
     have HF:=cf (show ak w2.heap.size w2 w6∧pC w6 (ad g6)from⟨l5.trans (l6.mono l5.size),g6,Xh,r4,_,rfl,Ia,Jz,l6.some a5,rfl⟩)
     clear l5 l6 a5 Ia Jz h6
     go_wp2_with(first
      |(at_builtin;refine aO rfl (.tmp 57) (.tmp 59) rfl rfl rfl qz ?_))
     exact⟨.inr ⟨rfl,HF.out.1,_,_,rfl,Up,HF.out.2⟩,by decide⟩
  ·have x1:wr.cell? ⟨t1,0,none⟩=some (.slice (ad gb) 1 gc):=Yc (hl.some T2.out)
   have HL:=cf (L2.out.trans (hl.mono L2.out.size));have HD:=cf hD
   clear hl hD
   go_wp2_with fail
   go_ret
   exact⟨HL.out,A,c,rfl,hc,HD.out⟩
end
section
set_option maxRecDepth 100000
set_option maxHeartbeats 8000000
theorem CY (w:World) (g cg:Nat) (T:Option Addr) (tc:Nat) (h:∃cs,w.heap[g]?=some (.cells cs 62 (0,0))∧cs[4]?=some (.slice T 0 tc)):
 Calls Tryz.prog 123 #[.agg #[.slice (ad g) 1 cg]] w (fun e w'=>ak w.heap.size w w'∧∃gb gc,e=.returned (.agg #[.slice (ad gb) 1 gc])∧iE w' gb):=by
 have l1:ak w.heap.size w (((w.alloc (.cells #[.slice (ad g) 1 cg] 40)).alloc (.cells #[Zs] 176)).alloc (.cells #[Zs] 176)):=((F0).alloc (by simp) _).alloc (by simp;omega) _
 obtain⟨S,hS⟩:∃S,w.heap.size=S:=⟨_,rfl⟩
 obtain⟨a1,s1,u1⟩:=av (.cells #[.slice (ad g) 1 cg] 40) hS
 obtain⟨a2,s2,u2⟩:=av (.cells #[Zs] 176) s1
 obtain⟨a3,s3,u3⟩:=av (.cells #[Zs] 176) s2
 have b1:=u3 _ _ (u2 _ _ a1)
 have b2:=u3 _ _ a2
 have H:=cf h
 clear a1 a2 u1 u2 u3 s1 s2 h
 go_enter Tryz.func123,Tryz.ntmps123
 go_upto_region 3 with fail
 have h3:∃cs,(((w.alloc (.cells #[.slice (ad g) 1 cg] 40)).alloc (.cells #[Zs] 176)).alloc (.cells #[Zs] 176)).heap[g]?=some (.cells cs 62 (0,0))∧cs[4]?=some (.slice T 0 tc):=by
  obtain⟨cs,q1,q2⟩:=H.out
  exact⟨cs,l1.some q1,q2⟩
 rw[hS]at l1
 have iW:=cf hS
 clear hS
 obtain⟨t2,nU⟩:∃t,t=S+1:=⟨_,rfl⟩
 obtain⟨t3,lZ⟩:∃t,t=S+1+1:=⟨_,rfl⟩
 rw[←lZ]at a3 s3⊢
 rw[←nU]at b2⊢
 have HT:=cf (And.intro nU lZ)
 clear nU lZ
 generalize((w.alloc (.cells #[.slice (ad g) 1 cg] 40)).alloc (.cells #[Zs] 176)).alloc (.cells #[Zs] 176)=w3 at l1 a3 s3 b1 b2 h3⊢
 have L3:=cf l1;have A3:=cf a3;have B1:=cf b1;have B2:=cf b2;have H3:=cf h3;have HS3:=cf s3
 clear l1 a3 b1 b2 h3 s3 H
 go_loopw[4] (fun i wr=>(i=G 0∧wr=w3)∨(i=G 1∧ak S w wr∧∃gb gc,wr.heap[t3]?=some (.cells #[.slice (ad gb) 1 gc] 176 (0,0))∧iE wr gb∧wr.heap[S]?=some (.cells #[.slice (ad g) 1 cg] 40 (0,0))∧wr.heap[t2]?=some (.cells #[Zs] 176 (0,0)))) (fun i _=>1-(intOf i).toNat)
 case atStart=>exact .inl ⟨rfl,rfl⟩
 case round=>
  rcases hrel with⟨rfl,rfl⟩|⟨rfl,hl,gb,gc,y3,hs,y1,y2⟩
  ·obtain⟨w3,rfl⟩:∃u,u=wr:=⟨_,rfl⟩
   have x1:=bf B1.out
   obtain⟨kz,r0,r5⟩:=H3.out
   have p4:w3.cell? ⟨g,4,none⟩=some (.slice T 0 tc):=(Yc r0).trans r5
   go_upto_region 7 with fail
   go_loopw[5,6] (fun v i wx=>v=Zs∧i=G 0∧wx=w3) (fun _ _ _=>0)
   case atStart=>exact⟨rfl,rfl,rfl⟩
   case round=>
    obtain⟨rfl,rfl,rfl⟩:=hrel
    obtain⟨w3,rfl⟩:∃u,u=wr:=⟨_,rfl⟩
    have x3:=bf A3.out
    obtain⟨g6,c6,w6,Xh,qz,l6,h6,Ia,Jz,Up⟩:=yN ae3 w3 Zs rfl
    have z3:=l6.some A3.out
    have f3:w6.frozen? ⟨t3,0,none⟩=false:=au z3
    have y3:=bf z3
    have Uv:=HS3.out
    have hT:=HT.out
    have h36:t3<g6:=by have:=aB A3.out;omega
    have HF:=cf (show ak S w (w6.setCell ⟨t3,0,none⟩ (.slice (ad g6) 1 c6))∧∃gb gc,(w6.setCell ⟨t3,0,none⟩ (.slice (ad g6) 1 c6)).heap[t3]?=some (.cells #[.slice (ad gb) 1 gc] 176 (0,0))∧iE (w6.setCell ⟨t3,0,none⟩ (.slice (ad g6) 1 c6)) gb∧(w6.setCell ⟨t3,0,none⟩ (.slice (ad g6) 1 c6)).heap[S]?=some (.cells #[.slice (ad g) 1 cg] 40 (0,0))∧(w6.setCell ⟨t3,0,none⟩ (.slice (ad g6) 1 c6)).heap[t2]?=some (.cells #[Zs] 176 (0,0))from
     ⟨(L3.out.trans (l6.mono (by omega))).setCell (by have:=HT.out.2;omega) _,g6,c6,by rw[aD z3];rfl,⟨Xh,(aj (by omega)).trans Ia,Jz⟩,(aj (by have:=HT.out.2;omega)).trans (l6.some B1.out),(aj (by have:=HT.out;omega)).trans (l6.some B2.out)⟩)
    clear z3 l6 Ia Jz h6 h36 Uv hT
    go_wp2_with(first
     |(at_builtin;refine aO rfl (.tmp 41) (.tmp 43) rfl rfl rfl qz ?_))
    exact⟨.inr ⟨rfl,HF.out⟩,by decide⟩
  ·have x1:wr.cell? ⟨S,0,none⟩=some (.slice (ad g) 1 cg):=Yc y1
   have x3:=bf y3
   have x2:=bf y2
   have f2:wr.frozen? ⟨t2,0,none⟩=false:=au y2
   have jq:=HT.out.1
   have HF:=cf (show ak S w (wr.setCell ⟨t2,0,none⟩ (.slice (ad gb) 1 gc))∧iE (wr.setCell ⟨t2,0,none⟩ (.slice (ad gb) 1 gc)) gb from⟨hl.setCell (by omega) _,by
    obtain⟨cs,h1,h2⟩:=hs
    exact⟨cs,(aj (by rintro rfl;rw[y2]at h1;cases h1)).trans h1,h2⟩⟩)
   have y2b:(wr.setCell ⟨t2,0,none⟩ (.slice (ad gb) 1 gc)).heap[t2]?=some (.cells #[.slice (ad gb) 1 gc] 176 (0,0)):=by rw[aD y2];rfl
   have y2':=bf y2b
   clear y2b
   clear hl hs y1 y2 y3 jq
   go_wp2_with fail
   exact bodyPost_ret (v:=.agg #[.slice (ad gb) 1 gc]) (by simp[results,Tryz.results123,go_sem,y2'];done) rfl ⟨by rw[iW.out];exact HF.out.1,gb,gc,rfl,HF.out.2⟩
theorem J8 (w:World) (g cg:Nat) (Pp:Option Addr) (pc:Nat) (A:Option Addr) (n c:Nat) (T:Option Addr) (tc:Nat) (l:List aE) (ret:Int) (h:fe w g Pp pc A n c T tc l ret):
 Calls Tryz.prog 123 #[.agg #[.slice (ad g) 1 cg]] w (fun e w'=>ak w.heap.size w w'∧∃gb gc,e=.returned (.agg #[.slice (ad gb) 1 gc])∧iE w' gb):=by
 obtain⟨kz,r0,r1,r2,r3,r4,r5⟩:=h.row
 exact CY w g cg T tc ⟨kz,r0,r5⟩
end
end Go.Proofs.YtjkahfmdcpfjjaaGreat
