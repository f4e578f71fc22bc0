/- The reference: ordered. -/
import Derived.Test.YtjkahfmdcpfjjaaGreatDD
set_option linter.unusedVariables false
namespace Go.Proofs.YtjkahfmdcpfjjaaGreat
open Go.RowKit
set_option maxRecDepth 100000
set_option maxHeartbeats 8000000
structure eY (S:Nat) (w w':World):Prop where
 os:w'.os=w.os
 out:w'.output=w.output
 size:w.heap.size≤w'.heap.size
 low:∀b,b<S→w'.heap[b]?=w.heap[b]?
 Jb:∀b,b<w.heap.size→(∀cs,w.heap[b]?≠some (.cells cs 67 (0,0)))→w'.heap[b]?=w.heap[b]?
section
variable {S : Nat} {w w' rh : World}
theorem eY.refl (S:Nat) (w:World):eY S w w:=⟨rfl,rfl,Nat.le_refl _,fun _ _=>rfl,fun _ _ _=>rfl⟩
theorem eY.bD (h:ak w.heap.size w w') (hS:S≤w.heap.size):eY S w w':=⟨h.os,h.out,h.size,fun b hb=>h.block b (by omega),fun b hb _=>h.block b hb⟩
theorem eY.trans (h:eY S w w') (h':eY S w' rh):eY S w rh:=⟨h'.os.trans h.os,h'.out.trans h.out,Nat.le_trans h.size h'.size,fun b hb=>(h'.low b hb).trans (h.low b hb),fun b hb hn=>by
 have e:=h.Jb b hb hn
 exact(h'.Jb b (Nat.lt_of_lt_of_le hb h.size) (fun cs=>by rw[e];exact hn cs)).trans e⟩
theorem eY.Y0 (h:eY S w w'):ak S w w':=⟨h.os,h.out,h.size,h.low⟩
theorem eY.obj (h:eY S w w') {b:Nat} {o:Obj} (hb:w.heap[b]?=some o) (hn:∀cs,o≠.cells cs 67 (0,0)):w'.heap[b]?=some o:=(h.Jb b (aB hb) (fun cs=>by rw[hb];exact fun e=>hn cs (by cases e;rfl))).trans hb
theorem eY.drew (h:eY S w w'):eY S w w'.drew:=⟨h.os,h.out,h.size,h.low,h.Jb⟩
theorem eY.setCell {g i:Nat} {v:Value} {cs:Array Value} (hg:w.heap[g]?=some (.cells cs 67 (0,0))) (hS:S≤g):eY S w (w.setCell ⟨g,i,none⟩ v):=⟨rfl,rfl,by rw[cW];exact Nat.le_refl _,fun b hb=>aj (by omega),fun b _ hn=>aj (by rintro rfl;exact hn cs hg)⟩
end
theorem IH (l:List Int) (o:aE):bJ (l.foldl nI []) o=bJ l o:=by
 unfold bJ
 simp only[vN,List.not_mem_nil,false_or]
theorem BX (w:World) (g cg:Nat) (Pp:Option Addr) (pc:Nat) (A:Option Addr) (n c:Nat) (T:Option Addr) (tc:Nat) (l:List aE) (ret:Int) (h:fe w g Pp pc A n c T tc l ret) (hn:n≤40) (bB:jy l) (S0:Nat) (Ll:S0≤w.heap.size) (hA:∀a,A=some a→S0≤a.block):
 Calls Tryz.prog 41 #[.agg #[.slice (ad g) 1 cg]] w (fun e w'=>e=.returned (.agg #[.slice (ad g) 1 cg])∧ak S0 w w'∧fe w' g Pp pc A n c T tc (l.map (bJ (dt l))) ret):=by
 have qE:∀(fn:Fn) (first cap:Array Value) (w:World),(Instr.makeFunc fn first cap).run Tryz.prog w=.ok (.func fn first cap) w:=fun _ _ _ _=>rfl
 have vY:∀u:World,(Instr.makeMap 150 none).run Tryz.prog u=.ok (.map (some u.heap.size)) (u.alloc (.map #[] 0)):=fun u=>by kernel_rfl
 obtain⟨S,hS⟩:∃S,w.heap.size=S:=⟨_,rfl⟩
 obtain⟨a1,s1,u1⟩:=av (.cells #[.slice (ad g) 1 cg] 40) hS
 obtain⟨a2,s2,u2⟩:=av (.cells #[Zs] 40) s1
 obtain⟨a3,s3,u3⟩:=av (.map #[] 0) s2
 obtain⟨a4,s4,u4⟩:=av (.cells #[.map (some (S+1+1))] 150) s3
 have l4:ak w.heap.size w ((((w.alloc (.cells #[.slice (ad g) 1 cg] 40)).alloc (.cells #[Zs] 40)).alloc (.map #[] 0)).alloc (.cells #[.map (some (S+1+1))] 150)):=(((((ak.refl _ w).alloc (Nat.le_refl _) _).alloc (by omega) _).alloc (by omega) _).alloc (by omega) _)
 have b1:=u4 _ _ (u3 _ _ (u2 _ _ a1))
 have b2:=u4 _ _ (u3 _ _ a2)
 have b3:=u4 _ _ a3
 have H4:=cf (h.low l4)
 have L4:=cf (l4.mono Ll)
 have HS:=cf hS;have dA:=cf bB;have HA:=cf hA;have HS0:=cf Ll
 clear u1 u2 u3 u4 a1 a2 a3 s1 s2 s3 s4 l4 h bB hA Ll
 go_enter Tryz.func41,Tryz.ntmps41
 go_upto_region 2 with fail
 clear hS vY
 obtain⟨t2,nU⟩:∃t,t=S+1:=⟨_,rfl⟩
 obtain⟨t3,lZ⟩:∃t,t=S+1+1+1:=⟨_,rfl⟩
 have TO:S+1+1=t2+1:=by omega
 obtain⟨um,TO⟩:∃t,t=S+1+1:=⟨_,rfl⟩
 have HT2:=cf nU
 have XO:Hid (S0≤((((w.alloc (.cells #[.slice (ad g) 1 cg] 40)).alloc (.cells #[Zs] 40)).alloc (.map #[] 0)).alloc (.cells #[.map (some (S+1+1))] 150)).heap.size):=cf (Nat.le_trans HS0.out L4.out.size)
 have HUM:Hid (S0≤um∧S0≤t2):=cf (by have:=HS.out;have:=HS0.out;omega)
 rw[←lZ,←TO]at a4⊢
 rw[←TO]at b1 b2 b3 H4 L4 XO
 rw[←nU]at b2
 have b3':aQ .i64 ((((w.alloc (.cells #[.slice (ad g) 1 cg] 40)).alloc (.cells #[Zs] 40)).alloc (.map #[] 0)).alloc (.cells #[.map (some um)] 150)) um (nc []):=⟨_,_,b3,aN _,by simp⟩
 rw[←nU]
 clear nU lZ TO b3
 generalize(((w.alloc (.cells #[.slice (ad g) 1 cg] 40)).alloc (.cells #[Zs] 40)).alloc (.map #[] 0)).alloc (.cells #[.map (some um)] 150)=w4 at b1 b2 b3' a4 H4 L4 XO⊢
 obtain⟨kz,r0,r1,r2,r3,r4,r5⟩:=H4.out.row
 have p1:w4.cell? ⟨g,1,none⟩=some (.slice A n c):=(Yc r0).trans r2
 have y1:=bf b1
 have B1:=cf b1;have B2:=cf b2;have B3:=cf b3';have B4:=cf a4
 clear r0 r1 r2 r3 r4 r5 b1 b2 b3' a4
 go_upto_region 3 with fail
 go_loopw[18] (fun i wx=>∃q:Nat,i=G q∧q≤n∧aY [um] w4 wx∧aQ .i64 wx um (nc ((dt (l.take q)).foldl nI []))) (fun i _=>n-(intOf i).toNat)
 case atStart=>exact⟨0,rfl,by omega,aY.refl _ _,B3.out⟩
 case round=>
  obtain⟨wv,rfl⟩:∃u,u=wr:=⟨_,rfl⟩
  obtain⟨q,rfl,hq,hL,hM⟩:=hrel
  have rP:∀(b:Nat) (cs:Array Value) (e:TypeId),w4.heap[b]?=some (Obj.cells cs e (0,0))→b∉[um]:=by
   intro b cs e hb hm
   rw[List.mem_singleton]at hm
   obtain⟨es,cl,hg,_⟩:=B3.out
   rw[←hm,hb]at hg
   cases hg
  have hv:=H4.out.cG hL (fun b hb cs e he=>absurd hb (rP _ _ _ he))
  clear p1 y1
  by_cases bw:q<n
  ·skip
   have bN:(q:Int)<(n:Int):=by omega
   have nu:(0:Int)≤(q:Int):=by omega
   have mI:(q:Int)≤40:=by omega
   obtain⟨o,ho⟩:∃o,l[q]?=some o:=⟨_,List.getElem?_eq_getElem (by have:=hv.ops.1;omega)⟩
   obtain⟨ga,cs,rfl,qD,hg,k0,k1,k2,k3,k4,k5⟩:=hv.ops.2 q o ho
   have c0:=iw hg k0 k1 k2 k3 k4 k5
   have l9:ak wv.heap.size wv (wv.alloc (OC o)):=F0
   have a9:=ao wv (OC o)
   have a4:=l9.some (hL.obj B4.out (rP _ _ _ B4.out))
   have m9:=hM.low l9
   have C9:=cf (hL.tail (l9.mono hL.size))
   have QH:=cf (Gb ho)
   clear hv hg k0 k1 k2 k3 k4 k5 ho l9 hL hM rP
   go_upto_region 5 with fail
   clear c0
   generalize wv.heap.size=t5 at a9⊢
   generalize wv.alloc (OC o)=wa at a9 a4 m9 C9⊢
   have x0:=gV a9
   have x3:=bf a4
   by_cases h1:o.code=1
   ·obtain⟨w1,Qj,Ud,Lj,hs1⟩:=ay Tryz.underlying150 Tryz.underlying3 m9 o.res (.bool true)
    rw[xQ]at Ud
    have HF:=cf (show aY [um] w4 w1∧aQ .i64 w1 um (nc ((dt (l.take (q+1))).foldl nI []))from⟨C9.out.trans Lj,by rw[QH.out,if_pos h1,List.foldl_append];exact Ud⟩)
    clear a9 a4 m9 Ud Lj hs1
    go_wp2_with fail
    exact⟨⟨q+1,rfl,bw,HF.out⟩,by show n-((q:Int)+1).toNat<n-((q:Int)).toNat;omega⟩
   ·have HF:=cf (show aY [um] w4 wa∧aQ .i64 wa um (nc ((dt (l.take (q+1))).foldl nI []))from⟨C9.out,by rw[QH.out,if_neg h1];exact m9⟩)
    clear a9 a4 m9
    go_wp2_with fail
    exact⟨⟨q+1,rfl,bw,HF.out⟩,by show n-((q:Int)+1).toNat<n-((q:Int)).toNat;omega⟩
  ·have bN:¬(q:Int)<(n:Int):=by omega
   have hlen:=hv.ops.1
   rw[List.take_of_length_le (by omega)]at hM
   obtain⟨cs,eR⟩:∃cs,cs=(dt l).foldl nI []:=⟨_,rfl⟩
   rw[←eR]at hM
   have ac0:∀o,bJ cs o=bJ (dt l) o:=fun o=>by rw[eR];exact IH _ _
   have dS:=hL.obj B1.out (rP _ _ _ B1.out)
   have y1:=bf dS
   have V1:=cf dS;have V2:=cf (hL.obj B2.out (rP _ _ _ B2.out));have V3:=cf hM;have V4:=cf (hL.obj B4.out (rP _ _ _ B4.out));have HV:=cf hv;have QJ:=cf ac0
   have LV:=cf (L4.out.trans (hL.low (by simpa using HUM.out.1) XO.out))
   have HSV:Hid (S0≤wv.heap.size):=cf (Nat.le_trans XO.out hL.size)
   clear hL hv hM eR ac0 rP dS
   go_wp2_with fail
   go_loopw[32] (fun i wr=>(i=G 0∧wr=wv)∨(i=G 1∧eY S0 wv wr∧nK wr A n c (l.map (bJ (dt l))))) (fun i _=>1-(intOf i).toNat)
   case atStart=>exact .inl ⟨rfl,rfl⟩
   case round=>
    rcases hrel with⟨rfl,rfl⟩|⟨rfl,hK,hO⟩
    ·obtain⟨w5,rfl⟩:∃u,u=wr:=⟨_,rfl⟩
     obtain⟨kz,r0,r1,r2,r3,r4,r5⟩:=HV.out.row
     obtain⟨p0,p1,p2,p3,p4⟩:=mV r0 r1 r2 r3 r4 r5
     have l6:ak w5.heap.size w5 (w5.alloc (.cells #[.slice Pp 1 pc,.slice A n c,G 4,G ret,.slice T 0 tc] 62)):=F0
     have a6:=ao w5 (.cells #[.slice Pp 1 pc,.slice A n c,G 4,G ret,.slice T 0 tc] 62)
     have K6:=cf (eY.bD l6 HSV.out);have O6:=cf (HV.out.low l6).ops;have M6:=cf (V3.out.low l6);have T6:=cf (l6.some V4.out)
     have YJ:=cf (Nat.le_trans HSV.out l6.size)
     clear r0 r1 r2 r3 r4 r5 l6
     go_upto_region 11 with fail
     clear p0 p1 p2 p3 p4 y1
     generalize w5.heap.size=t7 at a6⊢
     generalize w5.alloc (.cells #[.slice Pp 1 pc,.slice A n c,G 4,G ret,.slice T 0 tc] 62)=w6 at a6 K6 O6 M6 T6 YJ⊢
     have z1:=jw a6
     have A6:=cf a6
     clear a6
     go_wp2_with fail
     go_loopw[39] (fun i wx=>∃q:Nat,i=G q∧q≤n∧eY S0 w6 wx∧nK wx A n c (pP (bJ cs) l q)) (fun i _=>n-(intOf i).toNat)
     case atStart=>exact⟨0,rfl,by omega,eY.refl _ _,O6.out⟩
     case round=>
      obtain⟨wu,rfl⟩:∃u,u=wr:=⟨_,rfl⟩
      obtain⟨q,rfl,hq,hL,hO⟩:=hrel
      clear z1
      by_cases bw:q<n
      ·have bN:(q:Int)<(n:Int):=by omega
       have nu:(0:Int)≤(q:Int):=by omega
       have mI:(q:Int)≤40:=by omega
       obtain⟨o,ho⟩:∃o,l[q]?=some o:=⟨_,List.getElem?_eq_getElem (by omega)⟩
       obtain⟨ga,gcs,rfl,qD,hg,k0,k1,k2,k3,k4,k5⟩:=hO.2 q o (pO _ ho)
       have c0:=iw hg k0 k1 k2 k3 k4 k5
       have Jl:=dA.out o (List.mem_of_getElem? ho)
       have l9:ak wu.heap.size wu (wu.alloc (OC o)):=F0
       have a9:=ao wu (OC o)
       have HJ:ga<wu.heap.size:=aB hg
       have HGS:Hid (S0≤ga):=cf (HA.out _ rfl)
       have K9:=cf (hL.trans (eY.bD l9 (Nat.le_trans YJ.out hL.size)))
       have O9:=cf (hO.low l9);have G9:=cf (l9.some hg)
       have T9:=cf (l9.some (hL.obj T6.out (by intro cs;simp)));have A7:=cf (l9.some (hL.obj A6.out (by intro cs;simp)))
       have M9:Hid (aQ .i64 (wu.alloc (OC o)) um (nc cs)):=cf (by
        obtain⟨es,cl,mc,_⟩:=M6.out
        have e:=hL.obj mc (by intro cs;simp)
        exact(M6.out.aW (e.trans mc.symm)).low l9)
       have HO:=cf ho
       clear k0 k1 k2 k3 k4 k5 ho hL hO l9 hg
       go_upto_region 15 with fail
       clear c0
       obtain⟨t9,Bh⟩:∃t,t=wu.heap.size:=⟨_,rfl⟩
       have W9:t9≠ga:=by omega
       rw[←Bh]at a9⊢
       clear Bh HJ
       generalize wu.alloc (OC o)=wa at a9 K9 O9 G9 T9 A7 M9⊢
       have A9:=cf a9
       have hSa:wa.cell? ⟨t9,0,none⟩=some (G o.code)∧wa.cell? ⟨t9,2,none⟩=some (G o.a)∧wa.cell? ⟨t9,3,none⟩=some (G o.b):=⟨Yc a9,Yc a9,Yc a9⟩
       have ly:Hid (∀w',ak wa.drew.heap.size wa.drew w'→w'.cell? ⟨t9,0,none⟩=some (G o.code)∧w'.cell? ⟨t9,2,none⟩=some (G o.a)∧w'.cell? ⟨t9,3,none⟩=some (G o.b)):=cf (fun w' hl=>⟨Yc (hl.some A9.out),Yc (hl.some A9.out),Yc (hl.some A9.out)⟩)
       obtain⟨ra,DS⟩:∃r,r=jS cs o.a:=⟨_,rfl⟩
       obtain⟨rb,KU⟩:∃r,r=jS cs o.b:=⟨_,rfl⟩
       obtain⟨z,hz⟩:∃z,z=TC (dJ ra rb) (dJ o.a o.b):=⟨_,rfl⟩
       have HZ:=cf hz
       have XP:Hid (∀u,ak wa.drew.heap.size wa.drew u→Calls Tryz.prog 109 #[G o.a,.pointer (ad t3)] u (fun e w'=>e=.returned (G ra)∧w'=u)∧Calls Tryz.prog 109 #[G o.b,.pointer (ad t3)] u (fun e w'=>e=.returned (G rb)∧w'=u)):=cf (fun u hl=>by
        have hm:aQ .i64 u um (nc cs):=(M9.out.low (ak.refl _ wa).drew).low hl
        have ht:=Yc (hl.some (w:=wa.drew) T9.out) (j:=0)
        rw[DS,KU]
        exact⟨BN u t3 um cs ht hm o.a,BN u t3 um cs ht hm o.b⟩)
       have A9D:Hid (wa.drew.heap[t9]?=some (OC o)):=cf A9.out
       have dY:=mh wa.drew o.code Jl
       clear a9 Jl
       by_cases sL:Comm o.code
       ·rw[decide_eq_true sL]at dY
        have Ea:=cf dY
        have Sd:=IG cs o sL
        rw[←DS,←KU,←hz]at Sd
        have HSW:=cf Sd
        have HWD:Hid (∀w',ak wa.drew.heap.size wa.drew w'→eY S0 w6 w'∧nK w' (ad ga) n c (pP (bJ cs) l q)∧w'.heap[ga]?=some (.cells gcs 67 (0,0))∧w'.heap[t7]?=some (.cells #[.slice Pp 1 pc,.slice (ad ga) n c,G 4,G ret,.slice T 0 tc] 62 (0,0))∧w'.heap[t9]?=some (OC o)):=cf (fun w' hl=>⟨K9.out.trans ((eY.bD (ak.refl _ wa).drew (Nat.le_trans YJ.out K9.out.size)).trans (eY.bD hl (Nat.le_trans YJ.out K9.out.size))),(O9.out.low (ak.refl _ wa).drew).low hl,hl.some G9.out,hl.some A7.out,hl.some A9.out⟩)
        clear dY Sd DS KU hz sL
        by_cases NT:0<z
        ·go_cut[66] (fun YX wx=>YX=.bool true∧ak wa.drew.heap.size wa.drew wx)
         case first=>
          refine wp_region_noPanic ?_
          refine wp_region_held_drew (S:=fun w'=>w'.cell? ⟨t9,0,none⟩=some (G o.code)∧w'.cell? ⟨t9,2,none⟩=some (G o.a)∧w'.cell? ⟨t9,3,none⟩=some (G o.b)) (by kernel_rfl) (by exact hSa) (fun af=>?_)
          obtain⟨wd,tt⟩:∃u,u=wa.drew:=⟨_,rfl⟩
          rw[←tt]at af A9D Ea ly XP⊢
          have HWE:=cf tt
          clear tt
          refine tk 0 af ?_
          refine tk 1 af ?_
          refine aG 2 fun KK aI=>?_
          refine aR rfl 110 #[G o.code] (by go_simp) (fun v w'=>v=.bool true∧ak wd.heap.size wd w') (Ea.out.mono (by rintro e w' ⟨rfl,he⟩;exact⟨_,rfl,rfl,he⟩)) ?_
          rintro v w7 ⟨rfl,l7⟩
          have L7:=cf l7
          clear l7
          refine aI.out _ _ (by exact(ly.out _ L7.out)) (fun af=>?_)
          clear aI KK
          (try simp only[Act.put,bh])
          refine tk 3 af ?_
          refine tk 4 af ?_
          refine tk 5 af ?_
          refine tk 6 af ?_
          refine tk 8 af ?_
          refine tk 9 af ?_
          refine tk 10 af ?_
          refine tk 13 af ?_
          refine tk 14 af ?_
          refine tk 15 af ?_
          refine tk 16 af ?_
          refine aG 7 fun KK aI=>?_
          refine cb (by kernel_rfl) 109 #[G o.a,.pointer (ad t3)] (by go_simp) (fun v w'=>v=G ra∧w'=w7) ((XP.out _ L7.out).1.mono (by rintro e w' ⟨rfl,he⟩;exact⟨_,rfl,rfl,he⟩)) ?_
          rintro v w8 ⟨rfl,he⟩
          rw[he]
          clear he w8
          refine aI.out _ _ (by exact af) (fun af=>?_)
          clear aI KK
          (try simp only[Act.put,bh])
          refine aG 11 fun KK aI=>?_
          refine cb (by kernel_rfl) 109 #[G o.b,.pointer (ad t3)] (by go_simp) (fun v w'=>v=G rb∧w'=w7) ((XP.out _ L7.out).2.mono (by rintro e w' ⟨rfl,he⟩;exact⟨_,rfl,rfl,he⟩)) ?_
          rintro v w8 ⟨rfl,he⟩
          rw[he]
          clear he w8
          refine aI.out _ _ (by exact af) (fun af=>?_)
          clear aI KK
          (try simp only[Act.put,bh])
          refine aG 12 fun KK aI=>?_
          refine cb (by kernel_rfl) 112 #[G ra,G rb] (by go_simp) (fun v w'=>v=G (dJ ra rb)∧w'=w7) ((qM w7 ra rb).mono (by rintro e w' ⟨rfl,he⟩;exact⟨_,rfl,rfl,he⟩)) ?_
          rintro v w8 ⟨rfl,he⟩
          rw[he]
          clear he w8
          refine aI.out _ _ (by exact af) (fun af=>?_)
          clear aI KK
          (try simp only[Act.put,bh])
          refine aG 17 fun KK aI=>?_
          refine cb (by kernel_rfl) 112 #[G o.a,G o.b] (by go_simp) (fun v w'=>v=G (dJ o.a o.b)∧w'=w7) ((qM w7 o.a o.b).mono (by rintro e w' ⟨rfl,he⟩;exact⟨_,rfl,rfl,he⟩)) ?_
          rintro v w8 ⟨rfl,he⟩
          rw[he]
          clear he w8
          refine aI.out _ _ (by exact af) (fun af=>?_)
          clear aI KK
          (try simp only[Act.put,bh])
          refine aG 18 fun KK aI=>?_
          go_simp
          have l8:ak w7.heap.size w7 (w7.alloc (.cells #[G (dJ ra rb),G (dJ o.a o.b)] 3)):=F0
          have a8:=ao w7 (.cells #[G (dJ ra rb),G (dJ o.a o.b)] 3)
          have Sj:=ME (w7.alloc (.cells #[G (dJ ra rb),G (dJ o.a o.b)] 3)) w7.heap.size (dJ ra rb) (dJ o.a o.b) (Yc a8) (Yc a8)
          rw[←HZ.out]at Sj
          have L8:=cf (L7.out.trans (l8.mono L7.out.size))
          clear l8 a8
          refine aI.out _ _ (by exact(ly.out _ L8.out)) (fun af=>?_)
          clear aI KK
          (try simp only[Act.put,bh])
          refine aG 19 fun KK aI=>?_
          refine cb (by kernel_rfl) 111 #[.slice (ad (w7.heap.size)) 2 2] (by go_simp) (fun v w'=>v=G z∧w'=w7.alloc (.cells #[G (dJ ra rb),G (dJ o.a o.b)] 3)) (Sj.mono (by rintro e w' ⟨rfl,he⟩;exact⟨_,rfl,rfl,he⟩)) ?_
          rintro v w9 ⟨rfl,he⟩
          rw[he]
          clear he w9 Sj
          refine aI.out _ _ (by exact(ly.out _ L8.out)) (fun af=>?_)
          clear aI KK
          (try simp only[Act.put,bh])
          refine tk 20 af ?_
          refine tk 21 af ?_
          refine wpAnyH_done (by kernel_rfl) ?_ _
          refine NoPanic.normal ?_
          (try go_wp2_with fail)
          go_meet
          exact⟨rfl,by have h:=L8.out;rw[HWE.out]at h;exact h⟩
         case rest=>
          obtain⟨rfl,DW⟩:=hcut
          obtain⟨w8,rfl⟩:∃u,u=wc:=⟨_,rfl⟩
          obtain⟨k1,k2,k3,k4,k5⟩:=HWD.out _ DW
          have hSp:w8.cell? ⟨t7,1,none⟩=some (.slice (ad ga) n c)∧w8.cell? ⟨t9,2,none⟩=some (G o.a)∧w8.cell? ⟨t9,3,none⟩=some (G o.b):=⟨Yc k4,Yc k5,Yc k5⟩
          have h7g:t7≠ga:=by rintro rfl;rw[k3]at k4;cases k4
          have k3':=aD (i:=q*6+2) (v:=G o.b) k3
          have hSq:(w8.setCell ⟨ga,q*6+2,none⟩ (G o.b)).cell? ⟨t7,1,none⟩=some (.slice (ad ga) n c)∧(w8.setCell ⟨ga,q*6+2,none⟩ (G o.b)).cell? ⟨t9,2,none⟩=some (G o.a)∧(w8.setCell ⟨ga,q*6+2,none⟩ (G o.b)).cell? ⟨t9,3,none⟩=some (G o.b):=⟨Yc ((aj h7g).trans k4),Yc ((aj W9).trans k5),Yc ((aj W9).trans k5)⟩
          have W3:((w8.setCell ⟨ga,q*6+2,none⟩ (G o.b)).setCell ⟨ga,q*6+3,none⟩ (G o.a)).cell? ⟨t7,1,none⟩=some (.slice (ad ga) n c)∧((w8.setCell ⟨ga,q*6+2,none⟩ (G o.b)).setCell ⟨ga,q*6+3,none⟩ (G o.a)).cell? ⟨t9,2,none⟩=some (G o.a)∧((w8.setCell ⟨ga,q*6+2,none⟩ (G o.b)).setCell ⟨ga,q*6+3,none⟩ (G o.a)).cell? ⟨t9,3,none⟩=some (G o.b):=⟨Yc ((aj h7g).trans ((aj h7g).trans k4)),Yc ((aj W9).trans ((aj W9).trans k5)),Yc ((aj W9).trans ((aj W9).trans k5))⟩
          obtain⟨g',jH,e',al7,mw,j0,j1,j2,j3,j4,j5⟩:=k2.2 q o (pO _ HO.out)
          cases e'
          have x2:w8.cell? ⟨ga,q*6+2,none⟩=some (G o.a):=(Yc mw).trans j2
          have f2:w8.frozen? ⟨ga,q*6+2,none⟩=false:=au mw
          have x3:(w8.setCell ⟨ga,q*6+2,none⟩ (G o.b)).cell? ⟨ga,q*6+3,none⟩=some (G o.b):=(Yc (aD (i:=q*6+2) (v:=G o.b) mw)).trans (by rw[Array.getElem?_setIfInBounds_ne (by omega)];exact j3)
          have f3:(w8.setCell ⟨ga,q*6+2,none⟩ (G o.b)).frozen? ⟨ga,q*6+3,none⟩=false:=au (aD mw)
          have HF:=cf (show eY S0 w6 ((w8.setCell ⟨ga,q*6+2,none⟩ (G o.b)).setCell ⟨ga,q*6+3,none⟩ (G o.a)).drew∧nK ((w8.setCell ⟨ga,q*6+2,none⟩ (G o.b)).setCell ⟨ga,q*6+3,none⟩ (G o.a)).drew (ad ga) n c (pP (bJ cs) l (q+1))from
           ⟨((k1.trans (eY.setCell k3 HGS.out)).trans (eY.setCell k3' HGS.out)).drew,by
            rw[xt _ HO.out,HSW.out.1 NT]
            exact(k2.swap (pO _ HO.out)).low ((ak.refl _ _).drew)⟩)
          clear k1 k2 k3 k4 k5 k3' mw j0 j1 j2 j3 j4 j5 h7g W9 NT
          go_upto_region 16 with fail
          refine wp_region_noPanic ?_
          refine wp_region_held_drew (S:=fun w'=>w'.cell? ⟨t7,1,none⟩=some (.slice (ad ga) n c)∧w'.cell? ⟨t9,2,none⟩=some (G o.a)∧w'.cell? ⟨t9,3,none⟩=some (G o.b)) (by kernel_rfl) (by exact hSp) (fun af=>?_)
          refine tk 0 af ?_
          refine tk 1 af ?_
          refine tk 2 af ?_
          refine tk 3 af ?_
          refine tk 4 af ?_
          refine tk 5 af ?_
          refine tk 6 af ?_
          refine tk 7 af ?_
          refine tk 8 af ?_
          refine tk 9 af ?_
          refine tk 10 af ?_
          refine tk 11 af ?_
          refine aG 12 fun KK aI=>?_
          go_simp
          refine aI.out _ _ (by exact hSq) (fun af=>?_)
          clear aI KK
          (try simp only[Act.put,bh])
          refine tk 13 af ?_
          refine tk 14 af ?_
          refine aG 15 fun KK aI=>?_
          go_simp
          refine aI.out _ _ (by exact W3) (fun af=>?_)
          clear aI KK
          (try simp only[Act.put,bh])
          refine wpAnyH_done (by kernel_rfl) ?_ _
          refine NoPanic.normal ?_
          (try go_wp2_with fail)
          exact⟨⟨q+1,rfl,bw,HF.out⟩,by show n-((q:Int)+1).toNat<n-((q:Int)).toNat;omega⟩
        ·go_cut[66] (fun YX wx=>YX=.bool false∧ak wa.drew.heap.size wa.drew wx)
         case first=>
          refine wp_region_noPanic ?_
          refine wp_region_held_drew (S:=fun w'=>w'.cell? ⟨t9,0,none⟩=some (G o.code)∧w'.cell? ⟨t9,2,none⟩=some (G o.a)∧w'.cell? ⟨t9,3,none⟩=some (G o.b)) (by kernel_rfl) (by exact hSa) (fun af=>?_)
          obtain⟨wd,tt⟩:∃u,u=wa.drew:=⟨_,rfl⟩
          rw[←tt]at af A9D Ea ly XP⊢
          have HWE:=cf tt
          clear tt
          refine tk 0 af ?_
          refine tk 1 af ?_
          refine aG 2 fun KK aI=>?_
          refine aR rfl 110 #[G o.code] (by go_simp) (fun v w'=>v=.bool true∧ak wd.heap.size wd w') (Ea.out.mono (by rintro e w' ⟨rfl,he⟩;exact⟨_,rfl,rfl,he⟩)) ?_
          rintro v w7 ⟨rfl,l7⟩
          have L7:=cf l7
          clear l7
          refine aI.out _ _ (by exact(ly.out _ L7.out)) (fun af=>?_)
          clear aI KK
          (try simp only[Act.put,bh])
          refine tk 3 af ?_
          refine tk 4 af ?_
          refine tk 5 af ?_
          refine tk 6 af ?_
          refine tk 8 af ?_
          refine tk 9 af ?_
          refine tk 10 af ?_
          refine tk 13 af ?_
          refine tk 14 af ?_
          refine tk 15 af ?_
          refine tk 16 af ?_
          refine aG 7 fun KK aI=>?_
          refine cb (by kernel_rfl) 109 #[G o.a,.pointer (ad t3)] (by go_simp) (fun v w'=>v=G ra∧w'=w7) ((XP.out _ L7.out).1.mono (by rintro e w' ⟨rfl,he⟩;exact⟨_,rfl,rfl,he⟩)) ?_
          rintro v w8 ⟨rfl,he⟩
          rw[he]
          clear he w8
          refine aI.out _ _ (by exact af) (fun af=>?_)
          clear aI KK
          (try simp only[Act.put,bh])
          refine aG 11 fun KK aI=>?_
          refine cb (by kernel_rfl) 109 #[G o.b,.pointer (ad t3)] (by go_simp) (fun v w'=>v=G rb∧w'=w7) ((XP.out _ L7.out).2.mono (by rintro e w' ⟨rfl,he⟩;exact⟨_,rfl,rfl,he⟩)) ?_
          rintro v w8 ⟨rfl,he⟩
          rw[he]
          clear he w8
          refine aI.out _ _ (by exact af) (fun af=>?_)
          clear aI KK
          (try simp only[Act.put,bh])
          refine aG 12 fun KK aI=>?_
          refine cb (by kernel_rfl) 112 #[G ra,G rb] (by go_simp) (fun v w'=>v=G (dJ ra rb)∧w'=w7) ((qM w7 ra rb).mono (by rintro e w' ⟨rfl,he⟩;exact⟨_,rfl,rfl,he⟩)) ?_
          rintro v w8 ⟨rfl,he⟩
          rw[he]
          clear he w8
          refine aI.out _ _ (by exact af) (fun af=>?_)
          clear aI KK
          (try simp only[Act.put,bh])
          refine aG 17 fun KK aI=>?_
          refine cb (by kernel_rfl) 112 #[G o.a,G o.b] (by go_simp) (fun v w'=>v=G (dJ o.a o.b)∧w'=w7) ((qM w7 o.a o.b).mono (by rintro e w' ⟨rfl,he⟩;exact⟨_,rfl,rfl,he⟩)) ?_
          rintro v w8 ⟨rfl,he⟩
          rw[he]
          clear he w8
          refine aI.out _ _ (by exact af) (fun af=>?_)
          clear aI KK
          (try simp only[Act.put,bh])
          refine aG 18 fun KK aI=>?_
          go_simp
          have l8:ak w7.heap.size w7 (w7.alloc (.cells #[G (dJ ra rb),G (dJ o.a o.b)] 3)):=F0
          have a8:=ao w7 (.cells #[G (dJ ra rb),G (dJ o.a o.b)] 3)
          have Sj:=ME (w7.alloc (.cells #[G (dJ ra rb),G (dJ o.a o.b)] 3)) w7.heap.size (dJ ra rb) (dJ o.a o.b) (Yc a8) (Yc a8)
          rw[←HZ.out]at Sj
          have L8:=cf (L7.out.trans (l8.mono L7.out.size))
          clear l8 a8
          refine aI.out _ _ (by exact(ly.out _ L8.out)) (fun af=>?_)
          clear aI KK
          (try simp only[Act.put,bh])
          refine aG 19 fun KK aI=>?_
          refine cb (by kernel_rfl) 111 #[.slice (ad (w7.heap.size)) 2 2] (by go_simp) (fun v w'=>v=G z∧w'=w7.alloc (.cells #[G (dJ ra rb),G (dJ o.a o.b)] 3)) (Sj.mono (by rintro e w' ⟨rfl,he⟩;exact⟨_,rfl,rfl,he⟩)) ?_
          rintro v w9 ⟨rfl,he⟩
          rw[he]
          clear he w9 Sj
          refine aI.out _ _ (by exact(ly.out _ L8.out)) (fun af=>?_)
          clear aI KK
          (try simp only[Act.put,bh])
          refine tk 20 af ?_
          refine tk 21 af ?_
          refine wpAnyH_done (by kernel_rfl) ?_ _
          refine NoPanic.normal ?_
          (try go_wp2_with fail)
          go_meet
          exact⟨rfl,by have h:=L8.out;rw[HWE.out]at h;exact h⟩
         case rest=>
          obtain⟨rfl,DW⟩:=hcut
          obtain⟨k1,k2,_⟩:=HWD.out _ DW
          have HF:=cf (show eY S0 w6 wc∧nK wc (ad ga) n c (pP (bJ cs) l (q+1))from⟨k1,by rw[xu _ HO.out (HSW.out.2 NT)];exact k2⟩)
          clear k1 k2 NT
          go_wp2_with fail
          exact⟨⟨q+1,rfl,bw,HF.out⟩,by show n-((q:Int)+1).toNat<n-((q:Int)).toNat;omega⟩
       ·rw[decide_eq_false sL]at dY
        have Ea:=cf dY
        have HWD:Hid (∀w',ak wa.drew.heap.size wa.drew w'→eY S0 w6 w'∧nK w' (ad ga) n c (pP (bJ cs) l (q+1))):=cf (fun w' hl=>⟨K9.out.trans ((eY.bD (ak.refl _ wa).drew (Nat.le_trans YJ.out K9.out.size)).trans (eY.bD hl (Nat.le_trans YJ.out K9.out.size))),by rw[xu _ HO.out (LW cs o sL)];exact(O9.out.low (ak.refl _ wa).drew).low hl⟩)
        clear dY DS KU hz sL
        go_cut[66] (fun YX wx=>YX=.bool false∧ak wa.drew.heap.size wa.drew wx)
        case first=>
         refine wp_region_noPanic ?_
         refine wp_region_held_drew (S:=fun w'=>w'.cell? ⟨t9,0,none⟩=some (G o.code)∧w'.cell? ⟨t9,2,none⟩=some (G o.a)∧w'.cell? ⟨t9,3,none⟩=some (G o.b)) (by kernel_rfl) (by exact hSa) (fun af=>?_)
         obtain⟨wd,tt⟩:∃u,u=wa.drew:=⟨_,rfl⟩
         rw[←tt]at af A9D Ea ly XP⊢
         have HWE:=cf tt
         clear tt
         refine tk 0 af ?_
         refine tk 1 af ?_
         refine aG 2 fun KK aI=>?_
         refine aR rfl 110 #[G o.code] (by go_simp) (fun v w'=>v=.bool false∧ak wd.heap.size wd w') (Ea.out.mono (by rintro e w' ⟨rfl,he⟩;exact⟨_,rfl,rfl,he⟩)) ?_
         rintro v w7 ⟨rfl,l7⟩
         have L7:=cf l7
         clear l7
         refine aI.out _ _ (by exact(ly.out _ L7.out)) (fun af=>?_)
         clear aI KK
         (try simp only[Act.put,bh])
         refine tk 3 af ?_
         refine dm (i:=4) rfl (by kernel_rfl) (by kernel_rfl) (by kernel_rfl) (fun _ _ _ h=>h) (by rfl) (by exact af) ?_
         (try simp only[Act.put,bh])
         refine dm (i:=5) rfl (by kernel_rfl) (by kernel_rfl) (by kernel_rfl) (fun _ _ _ h=>h) (by rfl) (by exact af) ?_
         (try simp only[Act.put,bh])
         refine dm (i:=6) rfl (by kernel_rfl) (by kernel_rfl) (by kernel_rfl) (fun _ _ _ h=>h) (by rfl) (by exact af) ?_
         (try simp only[Act.put,bh])
         refine dm (i:=7) rfl (by kernel_rfl) (by kernel_rfl) (by kernel_rfl) (fun _ _ _ h=>h) (by rfl) (by exact af) ?_
         (try simp only[Act.put,bh])
         refine dm (i:=8) rfl (by kernel_rfl) (by kernel_rfl) (by kernel_rfl) (fun _ _ _ h=>h) (by rfl) (by exact af) ?_
         (try simp only[Act.put,bh])
         refine dm (i:=9) rfl (by kernel_rfl) (by kernel_rfl) (by kernel_rfl) (fun _ _ _ h=>h) (by rfl) (by exact af) ?_
         (try simp only[Act.put,bh])
         refine dm (i:=10) rfl (by kernel_rfl) (by kernel_rfl) (by kernel_rfl) (fun _ _ _ h=>h) (by rfl) (by exact af) ?_
         (try simp only[Act.put,bh])
         refine dm (i:=11) rfl (by kernel_rfl) (by kernel_rfl) (by kernel_rfl) (fun _ _ _ h=>h) (by rfl) (by exact af) ?_
         (try simp only[Act.put,bh])
         refine dm (i:=12) rfl (by kernel_rfl) (by kernel_rfl) (by kernel_rfl) (fun _ _ _ h=>h) (by rfl) (by exact af) ?_
         (try simp only[Act.put,bh])
         refine dm (i:=13) rfl (by kernel_rfl) (by kernel_rfl) (by kernel_rfl) (fun _ _ _ h=>h) (by rfl) (by exact af) ?_
         (try simp only[Act.put,bh])
         refine dm (i:=14) rfl (by kernel_rfl) (by kernel_rfl) (by kernel_rfl) (fun _ _ _ h=>h) (by rfl) (by exact af) ?_
         (try simp only[Act.put,bh])
         refine dm (i:=15) rfl (by kernel_rfl) (by kernel_rfl) (by kernel_rfl) (fun _ _ _ h=>h) (by rfl) (by exact af) ?_
         (try simp only[Act.put,bh])
         refine dm (i:=16) rfl (by kernel_rfl) (by kernel_rfl) (by kernel_rfl) (fun _ _ _ h=>h) (by rfl) (by exact af) ?_
         (try simp only[Act.put,bh])
         refine dm (i:=17) rfl (by kernel_rfl) (by kernel_rfl) (by kernel_rfl) (fun _ _ _ h=>h) (by rfl) (by exact af) ?_
         (try simp only[Act.put,bh])
         refine dm (i:=18) rfl (by kernel_rfl) (by kernel_rfl) (by kernel_rfl) (fun _ _ _ h=>h) (by rfl) (by exact af) ?_
         (try simp only[Act.put,bh])
         refine dm (i:=19) rfl (by kernel_rfl) (by kernel_rfl) (by kernel_rfl) (fun _ _ _ h=>h) (by rfl) (by exact af) ?_
         (try simp only[Act.put,bh])
         refine dm (i:=20) rfl (by kernel_rfl) (by kernel_rfl) (by kernel_rfl) (fun _ _ _ h=>h) (by rfl) (by exact af) ?_
         (try simp only[Act.put,bh])
         refine tk 21 af ?_
         refine wpAnyH_done (by kernel_rfl) ?_ _
         refine NoPanic.normal ?_
         (try go_wp2_with fail)
         go_meet
         exact⟨rfl,by have h:=L7.out;rw[HWE.out]at h;exact h⟩
        case rest=>
         obtain⟨rfl,DW⟩:=hcut
         have HF:=cf (HWD.out _ DW)
         go_wp2_with fail
         exact⟨⟨q+1,rfl,bw,HF.out⟩,by show n-((q:Int)+1).toNat<n-((q:Int)).toNat;omega⟩
      ·have bN:¬(q:Int)<(n:Int):=by omega
       have XW:=cf (show eY S0 w5 wu∧nK wu A n c (l.map (bJ (dt l)))from⟨K6.out.trans hL,by
        rw[LK _ (by omega)]at hO
        rw[show l.map (bJ (dt l))=l.map (bJ cs)from List.map_congr_left (fun o _=>(QJ.out o).symm)]
        exact hO⟩)
       clear hL hO
       go_wp2_with fail
       exact⟨.inr ⟨rfl,XW.out⟩,by decide⟩
    ·obtain⟨w5,rfl⟩:∃u,u=wr:=⟨_,rfl⟩
     clear y1
     have y1:=bf (hK.obj V1.out (by intro cs;simp))
     have Bk:=hK.obj V2.out (by intro cs;simp)
     have y2:=bf Bk
     have f2:w5.frozen? ⟨t2,0,none⟩=false:=au Bk
     have cZ:aY [t2] w5 (w5.setCell ⟨t2,0,none⟩ (.slice (ad g) 1 cg)):=aY.setCell _ (List.mem_singleton.2 rfl) _
     have wm:fe w5 g Pp pc A n c T tc (l.map (bJ (dt l))) ret:=by
      obtain⟨YI,q0,q1⟩:=HV.out.row
      obtain⟨gp,cp,e,j1,j2,j3⟩:=HV.out.par
      exact⟨⟨YI,hK.obj q0 (by intro cs;simp),q1⟩,hO,⟨gp,cp,e,j1,hK.obj j2 (by intro cs;simp),j3⟩⟩
     have HF:=cf (show ak S0 w (w5.setCell ⟨t2,0,none⟩ (.slice (ad g) 1 cg))∧fe (w5.setCell ⟨t2,0,none⟩ (.slice (ad g) 1 cg)) g Pp pc A n c T tc (l.map (bJ (dt l))) ret from⟨(LV.out.trans hK.Y0).setCell HUM.out.2 _,wm.cG cZ (fun b hb cs e he=>by
      rw[List.mem_singleton]at hb
      subst hb
      rw[Bk]at he;cases he
      decide)⟩)
     have tb:=cf Bk
     clear hK hO Bk cZ wm
     go_wp2_with fail
     have QC:(w5.setCell ⟨t2,0,none⟩ (.slice (ad g) 1 cg)).cell? ⟨t2,0,none⟩=some (.slice (ad g) 1 cg):=Yc (aD tb.out)
     exact bodyPost_ret (v:=.agg #[.slice (ad g) 1 cg]) (by simp[results,Tryz.results41,go_sem,QC];done) rfl ⟨rfl,HF.out⟩
end Go.Proofs.YtjkahfmdcpfjjaaGreat
