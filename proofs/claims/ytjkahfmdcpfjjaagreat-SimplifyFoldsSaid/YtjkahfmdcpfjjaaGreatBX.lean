/- Insertion sort, plainly: an element is swapped with the one before it. -/
import Derived.Test.YtjkahfmdcpfjjaaGreatBR
set_option linter.unusedVariables false
namespace Go.Proofs.YtjkahfmdcpfjjaaGreat
open Go.RowKit
section
set_option maxRecDepth 100000
set_option maxHeartbeats 8000000
theorem BV {nm:Int→Option Int} {o:aE} (h:o.code=25):fI nm o=false:=by
 unfold fI oy
 rw[h]
 simp
theorem MS (bk:Nat) (u:World):(binOp .neq 130 (.pointer (ad bk)) (.pointer (ad bk))).run Tryz.prog u=.ok (.bool false) u:=by
 have h78:∀u,(sizeOf 136).run Tryz.prog u=.ok 5 u:=fun u=>by kernel_rfl
 have h:∀d:Nat,(Op.equalIn (d+1) 130 (.pointer (ad bk)) (.pointer (ad bk))).run Tryz.prog u=.ok true u:=fun d=>by
  simp[Op.equalIn,run_underlying Tryz.underlying130,h78,run_sameAddr_same]
 simp only[binOp]
 simp[Op.equal,Op.maxDepth,h 9999]
theorem IF (w:World) (gr bk al df nm ob cm om:Nat) (Pp:Option Addr) (pc ga n c:Nat) (T:Option Addr) (tc:Nat) (s:St) (l:List aE) (ret:Int) (h:Gr w gr bk al df nm ob cm om Pp pc ga n c T tc s l ret) (bB:jy l) (nt:0≤ret) (CS:Tm l) (hex:∃o∈l,o.code=25):
 Calls Tryz.prog 40 #[.pointer (ad gr)] w (fun e w'=>∃(ND:List Int) (eK n' c':Nat),e=.returned (.bool (decide (n'<n)))∧(∀o∈l,fI (aA s.nm) o=false→∀v∈bl o,v∈ND)∧ret∈ND∧(∀v∈ND,v∈UL l ret)∧w.heap.size≤eK∧aY [bk] w w'∧Gr w' gr bk al df nm ob cm om Pp pc eK n' c' T tc s (kept (bV (aA s.nm) ND) l) ret):=by
 have qE:∀(fn:Fn) (first cap:Array Value) (w:World),(Instr.makeFunc fn first cap).run Tryz.prog w=.ok (.func fn first cap) w:=fun _ _ _ _=>rfl
 have l1:ak w.heap.size w (w.alloc (.cells #[.pointer (ad gr)] 80)):=F0
 have a1:=ao w (.cells #[.pointer (ad gr)] 80)
 have G1:=h.low l1
 have po:n≤12:=h.small
 have hbw:=aB h.b
 have HX:Hid (jy l∧0≤ret∧Tm l∧∃o∈l,o.code=25):=cf ⟨bB,nt,CS,hex⟩
 clear h bB nt CS hex
 go_enter Tryz.func40,Tryz.ntmps40
 go_upto_region 1 with fail
 obtain⟨z1,iK⟩:∃z1,z1=w.heap.size:=⟨_,rfl⟩
 have HZ1:=cf iK
 rw[←iK]at a1⊢
 clear iK
 generalize w.alloc (.cells #[.pointer (ad gr)] 80)=w1 at l1 a1 G1⊢
 have tw:=ez w1 gr bk tc T (Yc G1.g) (Yc G1.b)
 have y1:=bf a1
 have GG1:=cf G1;have LL1:=cf l1;have A1:=cf a1
 clear G1 l1 a1
 go_upto_region 2 with(first
  |(go_at_call 88;refine tw.mono ?_;rintro e w2 ⟨l2,r,cr,rfl,x2,DT,oh⟩))
 have G2:=cf (GG1.out.low l2);have L2:=cf (LL1.out.trans (l2.mono LL1.out.size));have A2:=cf (l2.some A1.out)
 have rQ:=E1 w2 gr bk al df nm ob cm om Pp pc ga n c T tc s l ret G2.out HX.out.1 HX.out.2.1 HX.out.2.2.1 r cr x2 oh
 have y2:=bf A2.out
 have ak6:=bq x2
 clear l2 y1 tw GG1 LL1 A1
 go_upto_region 3 with(first
  |(go_at_call 103;(with_reducible refine rQ.mono ?_);rintro e w3 ⟨l3,nb,ND,rfl,m3,h0⟩))
 have l4:ak w3.heap.size w3 (w3.alloc (.cells #[.map (some nb)] 150)):=F0
 have yh:=l3.trans (l4.mono l3.size)
 have G4:=cf (G2.out.low yh);have L4:=cf (L2.out.trans (yh.mono L2.out.size));have A4:=cf (yh.some A2.out)
 have x4:(w3.alloc (.cells #[.map (some nb)] 150)).cell? ⟨r,0,none⟩=some (.pointer (ad bk)):=(World.cell?_of_block (a:=⟨r,0,none⟩) (yh.block r ak6)).trans x2
 have M4:=cf (m3.low l4);have H0:=cf h0
 have N4:=cf (ao w3 (.cells #[.map (some nb)] 150))
 clear l3 l4 yh m3 h0 x2 rQ y2
 generalize w3.heap.size=z4 at N4⊢
 generalize w3.alloc (.cells #[.map (some nb)] 150)=w4 at G4 L4 A4 x4 M4 N4⊢
 go_upto_region 4 with fail
 have l5:ak w4.heap.size w4 (w4.alloc (.cells #[.func (.func 104) #[] #[.pointer (ad z4)]] 153)):=F0
 have G5:=cf (G4.out.low l5);have L5:=cf (L4.out.trans (l5.mono L4.out.size));have A5:=cf (l5.some A4.out);have M5:=cf (M4.out.low l5);have N5:=cf (l5.some N4.out)
 have F5:=cf (ao w4 (.cells #[.func (.func 104) #[] #[.pointer (ad z4)]] 153))
 have x5:(w4.alloc (.cells #[.func (.func 104) #[] #[.pointer (ad z4)]] 153)).cell? ⟨r,0,none⟩=some (.pointer (ad bk)):=(World.cell?_of_block (a:=⟨r,0,none⟩) (l5.block r (bq x4))).trans x4
 clear l5 x4 G4 L4 A4 M4 N4
 generalize w4.heap.size=z5 at F5⊢
 generalize w4.alloc (.cells #[.func (.func 104) #[] #[.pointer (ad z4)]] 153)=w5 at G5 L5 A5 x5 M5 N5 F5⊢
 have b5:=vE G5.out.b
 go_wp2_with fail
 go_loopw[25] (fun i wr=>(i=G 0∨i=G 1)∧wr=w5) (fun i _=>1-(intOf i).toNat)
 case atStart=>exact⟨.inl rfl,rfl⟩
 case round=>
  obtain⟨rfl|rfl,rfl⟩:=hrel
  ·go_wp2_with fail
   obtain⟨w5,rfl⟩:∃u,u=wr:=⟨_,rfl⟩
   go_loopw[34] (fun i wr=>i=G 0∧wr=w5) (fun _ _=>0)
   case atStart=>exact⟨rfl,rfl⟩
   case round=>
    obtain⟨rfl,rfl⟩:=hrel
    go_wp2_with fail
    exact⟨by simp,by decide⟩
  ·obtain⟨w5,rfl⟩:∃u,u=wr:=⟨_,rfl⟩
   go_wp2_with fail
   go_loopw[59,6] (fun i ch wr=>(i=G 0∧ch=.bool false∧wr=w5)∨(i=G 1∧∃(eK n' c':Nat),ch=.bool (decide (n'<n))∧w.heap.size≤eK∧aY [bk] w wr∧Gr wr gr bk al df nm ob cm om Pp pc eK n' c' T tc s (kept (bV (aA s.nm) ND) l) ret)) (fun i _ _=>1-(intOf i).toNat)
   case atStart=>exact .inl ⟨rfl,rfl,rfl⟩
   case round=>
    rcases hrel with⟨rfl,rfl,rfl⟩|⟨rfl,eK,n',c',rfl,WC,hc,hG⟩
    ·obtain⟨w5,rfl⟩:∃u,u=wr:=⟨_,rfl⟩
     obtain⟨p5,q5⟩:=gV G5.out.b
     have e5:=bf G5.out.g
     have y5:=bf A5.out
     have hnq:=MS bk
     have rR:=KC w5 (ad ga) n c l G5.out.ops.LL po
     have wZ:n≤12:=po
     go_upto_region 22 with fail
     clear p5 e5 y5 b5
     go_upto_region 23 with(first
      |(go_at_call 77;(with_reducible refine rR.mono ?_);rintro e w6 ⟨l6,A',c',rfl,o6,W8⟩;have gR:re (bV (aA s.nm) ND) 107 w5.heap.size w6 #[.pointer (ad z1),.pointer (ad z5)] l:=(fun wx hx o ho=>Eo wx gr nm z1 z4 z5 nb s ND o ((l6.trans hx).some A5.out) ((l6.trans hx).some F5.out) ((l6.trans hx).some N5.out) (M5.out.low (l6.trans hx)) (Yc ((l6.trans hx).some G5.out.g)) (G5.out.fD.low (l6.trans hx)) ((show∀o∈l,aS o.code from HX.out.1) o ho));have hdl:=FY (bV (aA s.nm) ND) 107 Ku w5.heap.size w6 A' n c' l #[.pointer (ad z1),.pointer (ad z5)] o6 po gR l6.size W8;have L6:=cf l6;have QL:=cf W8;clear l6 o6 W8 gR)
      |(go_at_call 106;(with_reducible refine hdl.mono ?_);rintro e w7 ⟨l7,n',rfl,o7⟩;obtain⟨eK,HJ,o7'⟩:=o7.Vn (by obtain⟨o,ho,cO⟩:=HX.out.2.2.2;intro e;have hk:o∈kept (bV (aA s.nm) ND) l:=List.mem_filter.2 ⟨ho,by unfold bV;have:=BV (nm:=aA s.nm) cO;rw[this];rfl⟩;rw[e]at hk;cases hk);have HGA:Hid (w5.heap.size≤eK):=cf (by have:=QL.out _ HJ;exact this);subst HJ;have l57:=L6.out.trans l7;have G7:=cf (G5.out.low l57);have O7:=cf o7';have L7:=cf (aY.bD (B:=[bk]) (w:=w) (L5.out.trans (l57.mono L5.out.size)));have f7:w7.frozen? ⟨bk,1,none⟩=false:=au G7.out.b;have r7:w7.cell? ⟨bk,1,none⟩=some (.slice (ad ga) n c):=Yc G7.out.b;clear hdl l7 o7 o7' l57))
     have au2:=O7.out.1
     have CN:n'≤12:=by have h1:=List.length_filter_le (fun o=> !bV (aA s.nm) ND o) l;have h2:=G7.out.ops.1;have h3:(kept (bV (aA s.nm) ND) l).length=(l.filter (fun o=> !bV (aA s.nm) ND o)).length:=rfl;omega
     have G8:=G7.out.Mk O7.out CN
     have HGZ:Hid (w.heap.size≤eK):=cf (by have h1:=HGA.out;have h2:=L5.out.size;omega)
     have L8:=L7.out.trans (aY.setCell (B:=[bk]) (d:=bk) (i:=1) w7 (by simp) (.slice (ad eK) n' c'))
     generalize w7.setCell ⟨bk,1,none⟩ (.slice (ad eK) n' c')=w8 at G8 L8⊢
     have GG8:=cf G8;have LL8:=cf L8
     have r8:=jw G8.b
     clear G8 L8 G7 L7 O7 r7 f7 q5 L6
     have av9:n'≤12:=CN
     go_wp2_with fail
     go_loopw[127,6] (fun i ch wx=>∃q:Nat,i=G q∧q≤n'∧ch=.bool (decide (n'<n))∧ak w8.heap.size w8 wx) (fun i _ _=>n'-(intOf i).toNat)
     case atStart=>exact⟨0,rfl,by omega,by simp,ak.refl _ _⟩
     case round=>
      obtain⟨wv,rfl⟩:∃u,u=wr:=⟨_,rfl⟩
      obtain⟨q,rfl,hq,rfl,hL⟩:=hrel
      have gv:=GG8.out.low hL
      have HL:=cf hL
      clear hL r8
      by_cases bw:q<n'
      ·have bN:(q:Int)<(n':Int):=by omega
       have nu:(0:Int)≤(q:Int):=by omega
       have mI:(q:Int)≤12:=by omega
       obtain⟨o,ho⟩:∃o,(kept (bV (aA s.nm) ND) l)[q]?=some o:=⟨_,List.getElem?_eq_getElem (by have:=gv.ops.1;omega)⟩
       have CH:=gv.ops
       obtain⟨Ft,yq,Sm,cs,hg,eR⟩:=CH
       obtain⟨k0,k1,k2,k3,k4,k5⟩:=eR q o ho
       have c0:=iw hg k0 k1 k2 k3 k4 k5
       have h26:¬o.code=26:=by
        have h1:=(show∀o∈l,aS o.code from HX.out.1) o (List.mem_filter.1 (List.mem_of_getElem? ho)).1
        unfold aS at h1
        simp only[List.mem_cons,List.not_mem_nil,or_false]at h1
        omega
       have l9:ak wv.heap.size wv (wv.alloc (OC o)):=F0
       have a9:=ao wv (OC o)
       have XW:=cf (HL.out.trans (l9.mono HL.out.size))
       clear gv hg k0 k1 k2 k3 k4 k5 ho eR l9
       go_upto_region 27 with fail
       clear c0
       generalize wv.heap.size=t7 at a9⊢
       generalize wv.alloc (OC o)=wa at a9 XW⊢
       have x0:=gV a9
       clear a9
       go_wp2_with fail
       exact⟨⟨q+1,rfl,bw,rfl,XW.out⟩,by show n'-((q:Int)+1).toNat<n'-((q:Int)).toNat;omega⟩
      ·have bN:¬(q:Int)<(n':Int):=by omega
       obtain rfl:q=n':=by omega
       clear gv
       go_wp2_with fail
       exact⟨.inr ⟨rfl,eK,q,c',rfl,HGZ.out,LL8.out.tail (HL.out.mono LL8.out.size),GG8.out.low HL.out⟩,by decide⟩
    ·have HC:=cf hc;have HG:=cf hG
     clear hc hG
     go_wp2_with fail
     go_ret
     exact⟨ND,eK,n',c',rfl,H0.out.1,H0.out.2.1,H0.out.2.2,WC,HC.out,HG.out⟩
end
section
set_option maxRecDepth 100000
set_option maxHeartbeats 8000000
theorem qd:∀{l:List Int} {k:Int},k∈l→eU (nc l) k (.bool true)=nc l
 |x::l,k,h=>by
  show eU ((x,Value.bool true)::nc l) k (.bool true)=(x,Value.bool true)::nc l
  by_cases hx:x=k
  ·subst hx;simp[eU]
  ·have h1:(x==k)=false:=by simpa using hx
   have h2:k∈l:=by
    rcases List.mem_cons.1 h with h|h
    ·exact absurd h.symm hx
    ·exact h
   simp[eU,h1,qd h2]
def nI (l:List Int) (v:Int):List Int:=if v∈l then l else l++[v]
theorem xQ (l:List Int) (v:Int):eU (nc l) v (.bool true)=nc (nI l v):=by
 unfold nI
 by_cases h:v∈l
 ·rw[if_pos h,qd h]
 ·rw[if_neg h,BR h]
theorem PD (l:List Int) (v x:Int):x∈nI l v↔x∈l∨x=v:=by
 unfold nI
 by_cases h:v∈l
 ·rw[if_pos h]
  exact⟨.inl,fun hx=>by rcases hx with hx|rfl;exact hx;exact h⟩
 ·rw[if_neg h];simp
theorem vN:∀(vs l:List Int) (x:Int),x∈vs.foldl nI l↔x∈l∨x∈vs
 |[],l,x=>by simp
 |v::vs,l,x=>by
  rw[List.foldl_cons,vN vs,PD,List.mem_cons,or_assoc]
theorem Kt:∀(args:Array Value) (w:World),(callFunc 113 args).run Tryz.prog w=.ok (.enter 113 args) w:=dM Tryz.func113 (by kernel_rfl) rfl
theorem xr (w:World) (z um:Nat) (l:List Int) (hz:w.cell? ⟨z,0,none⟩=some (.map (some um))) (hu:aQ .i64 w um (nc l)) (v:Int):Calls Tryz.prog 113 #[G v,.pointer (ad z)] w (fun e w'=>e=.returned (G v)∧aY [um] w w'∧aQ .i64 w' um (nc (nI l v))∧w'.heap.size=w.heap.size):=by
 obtain⟨w1,h1,h2,h3,h4⟩:=ay Tryz.underlying150 Tryz.underlying3 hu v (.bool true)
 rw[xQ]at h2
 have HF:=cf (show aY [um] w w1∧aQ .i64 w1 um (nc (nI l v))∧w1.heap.size=w.heap.size from⟨h3,h2,h4⟩)
 clear h2 h3 h4 hu
 go_enter Tryz.func113,Tryz.ntmps113
 go_wp2_with fail
 go_ret
 exact⟨rfl,HF.out⟩
end
section
theorem nh (p:aE→Bool) (l:List aE):(kept p l).Sublist l:=List.filter_sublist
variable {p:aE→Bool} {o:aE}
theorem nf {l:List aE}:o∈kept p l↔o∈l∧p o=false:=by
 unfold kept
 rw[List.mem_filter]
 simp
theorem xS {f:aE→Option (Int×Int)}:∀(l:List aE),(∀o∈l,p o=true→f o=none)→(kept p l).filterMap f=l.filterMap f
 |[],_=>rfl
 |o::l,h=>by
  have ih:=xS l (fun x hx=>h x (List.mem_cons_of_mem _ hx))
  unfold kept at ih⊢
  cases hp:p o with
  |true=>simp[hp,ih,h o (List.mem_cons_self ..) hp]
  |false=>
   simp only[List.filter_cons,hp,Bool.not_false,if_true,List.filterMap_cons]
   rw[ih]
theorem QP (nm:Int→Option Int) {a b:List aE} (h:a.Sublist b):kG nm a≤kG nm b:=by
 induction h with
 |slnil=>exact Nat.le_refl _
 |cons x h ih=>
  have e:∀(x:aE) (l:List aE),kG nm (x::l)=wt nm x+kG nm l:=fun x l=>by simp[kG]
  rw[e];omega
 |cons_cons x h ih=>
  have e:∀(x:aE) (l:List aE),kG nm (x::l)=wt nm x+kG nm l:=fun x l=>by simp[kG]
  rw[e,e];omega
section
variable {M : Int → Int} {T : Prop} {outs : List (Int × Int)} {rv N : Int} {s : St} {ops : List aE} {ret : Int}
theorem EN (h:fI (aA s.nm) o=true):¬j8 (aA s.nm) M o:=by
 rintro⟨h8,hv⟩
 unfold fI oy at h
 rw[h8]at h
 unfold cj at hv
 cases e:aA s.nm o.b with
 |none=>rw[e]at h;simp[TH]at h
 |some n=>
  rw[e]at h hv
  simp[TH]at h
  exact h hv
theorem FR.ap9 (h:FR M T outs rv N s ops ret):Tm ops:=by
 intro i j o o' oK hi hj cO rU he
 obtain⟨BJ,hie⟩:=List.getElem?_eq_some_iff.1 hi
 obtain⟨hjl,BI⟩:=List.getElem?_eq_some_iff.1 hj
 have:=List.pairwise_iff_getElem.1 h.keys i j (by simpa using BJ) (by simpa using hjl) oK
 rw[List.getElem_map,List.getElem_map,hie,BI]at this
 unfold fV at this
 rw[if_neg cO,if_neg rU]at this
 have hf:=h.form o (List.mem_of_getElem? hi)
 rcases hf with hA|hO
 ·have:=hA.2;omega
 ·exact cO hO.1
theorem FR.Y1 (h:FR M T outs rv N s ops ret) {ND:List Int} (hc:∀o∈ops,fI (aA s.nm) o=false→∀v∈bl o,v∈ND) (hr:ret∈ND):FR M T outs rv N s (kept (bV (aA s.nm) ND) ops) ret:=by
 have iA:∀{o},o∈kept (bV (aA s.nm) ND) ops→o∈ops:=fun ho=>(nf.1 ho).1
 have NA:∀{o},bV (aA s.nm) ND o=true→fI (aA s.nm) o=true∧o.res∉ND:=fun ho=>by
  unfold bV at ho
  simpa using ho
 have hdv:∀v,v∈ND→Dv s ops v→Dv s (kept (bV (aA s.nm) ND) ops) v:=fun v hv hd=>by
  rcases hd with hd|⟨o,ho,cO,rfl⟩
  ·exact .inl hd
  ·refine .inr ⟨o,nf.2 ⟨ho,?_⟩,cO,rfl⟩
   cases e:bV (aA s.nm) ND o with
   |false=>rfl
   |true=>exact absurd hv (NA e).2
 refine⟨h.ok,fun o ho=>h.form o (iA ho),fun o ho=>h.res o (iA ho),fun o ho=>h.fj o (iA ho),?_,?_,h.keys.sublist ((nh _ _).map _),fun o ho cO=>hdv _ (hc o (iA ho) (BV cO) _ ?_) (h.use o (iA ho) cO),h.BM,h.Vw,h.ov,hdv _ hr h.Vx,?_,?_⟩
 ·rw[xS,h.out]
  intro o ho hs
  unfold fk
  rw[if_neg (BU (NA hs).1)]
 ·rw[←h.oT]
  constructor
  ·rintro⟨o,ho,ht⟩;exact⟨o,iA ho,ht⟩
  ·rintro⟨o,ho,ht⟩
   refine⟨o,nf.2 ⟨ho,?_⟩,ht⟩
   cases e:bV (aA s.nm) ND o with
   |false=>rfl
   |true=>exact absurd ht (EN (NA e).1)
 ·unfold bl dv
  rw[cO]
  simp[aZ]
 ·have h1:=QP (aA s.nm) (nh (bV (aA s.nm) ND) ops)
  have:=h.fl
  omega
 ·exact Nat.le_trans (nh _ _).length_le h.len
end
end
section
set_option maxRecDepth 100000
set_option maxHeartbeats 4000000
def gU (a b:Int):Int:=if a<b then-1 else if b<a then 1 else 0
theorem Hf (w:World) (a:Int):Calls Tryz.prog 168 #[G a] w (fun e w'=>e=.returned (.bool false)∧w'=w):=by
 go_enter Tryz.func168,Tryz.ntmps168
 go_wp2_with fail
 go_ret
 exact⟨by simp,rfl⟩
theorem MX (w:World) (a:Int):Calls Tryz.prog 171 #[.int .u16 a] w (fun e w'=>e=.returned (.bool false)∧w'=w):=by
 go_enter Tryz.func171,Tryz.ntmps171
 go_wp2_with fail
 go_ret
 exact⟨by simp,rfl⟩
theorem Pg (w:World) (a:Int):Calls Tryz.prog 112 #[G a,G a] w (fun e w'=>e=.returned (G 0)∧w'=w):=by
 have h1:¬a<a:=by omega
 go_enter Tryz.func112,Tryz.ntmps112
 go_wp2_with(first
  |(go_at_call 168;(with_reducible refine(Hf _ _).mono ?_);rintro e w' ⟨rfl,he⟩;rw[he];clear he w'))
 go_ret
 exact⟨rfl,rfl⟩
theorem Xi (w:World) (a b:Int):Calls Tryz.prog 117 #[.int .u16 a,.int .u16 b] w (fun e w'=>e=.returned (G (gU a b))∧w'=w):=by
 by_cases h1:a<b
 ·have e:gU a b= -1:=by unfold gU;rw[if_pos h1]
  rw[e]
  go_enter Tryz.func117,Tryz.ntmps117
  go_wp2_with(first
   |(go_at_call 171;(with_reducible refine(MX _ _).mono ?_);rintro e w' ⟨rfl,he⟩;rw[he];clear he w'))
  go_ret
  exact⟨rfl,rfl⟩
 ·by_cases h2:b<a
  ·have e:gU a b=1:=by unfold gU;rw[if_neg h1,if_pos h2]
   rw[e]
   go_enter Tryz.func117,Tryz.ntmps117
   go_wp2_with(first
    |(go_at_call 171;(with_reducible refine(MX _ _).mono ?_);rintro e w' ⟨rfl,he⟩;rw[he];clear he w'))
   go_ret
   exact⟨rfl,rfl⟩
  ·have e:gU a b=0:=by unfold gU;rw[if_neg h1,if_neg h2]
   rw[e]
   go_enter Tryz.func117,Tryz.ntmps117
   go_wp2_with(first
    |(go_at_call 171;(with_reducible refine(MX _ _).mono ?_);rintro e w' ⟨rfl,he⟩;rw[he];clear he w'))
   go_ret
   exact⟨rfl,rfl⟩
theorem VI (w:World) (g:Nat) (x:Int) (h0:w.cell? ⟨g,0,none⟩=some (G 0)) (h1:w.cell? ⟨g,1,none⟩=some (G 0)) (h2:w.cell? ⟨g,2,none⟩=some (G x)):Calls Tryz.prog 111 #[.slice (ad g) 3 3] w (fun e w'=>e=.returned (G x)∧w'=w):=by
 go_enter Tryz.func111,Tryz.ntmps111
 go_wp2_with fail
 go_loopw[8] (fun i wr=>(i=G 0∨i=G 1∨i=G 2∨(i=G 3∧x=0))∧wr=w) (fun i _=>3-(intOf i).toNat)
 case atStart=>exact⟨.inl rfl,rfl⟩
 case round=>
  obtain⟨rfl|rfl|rfl|⟨rfl,hx⟩,rfl⟩:=hrel
  ·go_wp2_with fail
   exact⟨by simp,by decide⟩
  ·go_wp2_with fail
   exact⟨by simp,by decide⟩
  ·by_cases hx:x=0
   ·subst hx
    go_wp2_with fail
    exact⟨by simp,by decide⟩
   ·go_wp2_with fail
    go_ret
    exact⟨rfl,rfl⟩
  ·subst hx
   go_wp2_with fail
   go_ret
   exact⟨rfl,rfl⟩
end
section
set_option maxRecDepth 100000
set_option maxHeartbeats 8000000
theorem CR (w:World) (x y:aE):Calls Tryz.prog 116 #[.agg #[G 1,G x.res,G 0,G x.b,.int .u16 x.n,Zs],.agg #[G 1,G y.res,G 0,G y.b,.int .u16 y.n,Zs]] w (fun e w'=>e=.returned (G (gU x.n y.n))∧ak w.heap.size w w'):=by
 obtain⟨S,hS⟩:∃S,w.heap.size=S:=⟨_,rfl⟩
 obtain⟨a1,s1,u1⟩:=av (.cells #[G 1,G x.res,G 0,G x.b,.int .u16 x.n,Zs] 67) hS
 obtain⟨a2,s2,u2⟩:=av (.cells #[G 1,G y.res,G 0,G y.b,.int .u16 y.n,Zs] 67) s1
 have b1:=u2 _ _ a1
 have l2:ak w.heap.size w ((w.alloc (.cells #[G 1,G x.res,G 0,G x.b,.int .u16 x.n,Zs] 67)).alloc (.cells #[G 1,G y.res,G 0,G y.b,.int .u16 y.n,Zs] 67)):=(F0).alloc (by simp) _
 clear a1 s1 u1 u2 s2
 go_enter Tryz.func116,Tryz.ntmps116
 go_upto_region 1 with fail
 obtain⟨wd,tt⟩:∃wd,wd=((w.alloc (.cells #[G 1,G x.res,G 0,G x.b,.int .u16 x.n,Zs] 67)).alloc (.cells #[G 1,G y.res,G 0,G y.b,.int .u16 y.n,Zs] 67)).drew:=⟨_,rfl⟩
 have lD:ak w.heap.size w wd:=by rw[tt];exact l2.drew
 have UN:wd.heap[S]?=some (.cells #[G 1,G x.res,G 0,G x.b,.int .u16 x.n,Zs] 67 (0,0)):=by rw[tt];exact b1
 have D2:wd.heap[S+1]?=some (.cells #[G 1,G y.res,G 0,G y.b,.int .u16 y.n,Zs] 67 (0,0)):=by rw[tt];exact a2
 have Ll:(wd.cell? ⟨S,0,none⟩=some (G 1)∧wd.cell? ⟨S,2,none⟩=some (G 0)∧wd.cell? ⟨S,4,none⟩=some (.int .u16 x.n))∧wd.cell? ⟨S+1,0,none⟩=some (G 1)∧wd.cell? ⟨S+1,2,none⟩=some (G 0)∧wd.cell? ⟨S+1,4,none⟩=some (.int .u16 y.n):=⟨⟨Yc UN,Yc UN,Yc UN⟩,Yc D2,Yc D2,Yc D2⟩
 have lR:ak wd.heap.size wd (wd.alloc (.cells #[G 0,G 0,G (gU x.n y.n)] 3)):=F0
 have hSR:((wd.alloc (.cells #[G 0,G 0,G (gU x.n y.n)] 3)).cell? ⟨S,0,none⟩=some (G 1)∧(wd.alloc (.cells #[G 0,G 0,G (gU x.n y.n)] 3)).cell? ⟨S,2,none⟩=some (G 0)∧(wd.alloc (.cells #[G 0,G 0,G (gU x.n y.n)] 3)).cell? ⟨S,4,none⟩=some (.int .u16 x.n))∧(wd.alloc (.cells #[G 0,G 0,G (gU x.n y.n)] 3)).cell? ⟨S+1,0,none⟩=some (G 1)∧(wd.alloc (.cells #[G 0,G 0,G (gU x.n y.n)] 3)).cell? ⟨S+1,2,none⟩=some (G 0)∧(wd.alloc (.cells #[G 0,G 0,G (gU x.n y.n)] 3)).cell? ⟨S+1,4,none⟩=some (.int .u16 y.n):=⟨⟨Yc (lR.some UN),Yc (lR.some UN),Yc (lR.some UN)⟩,Yc (lR.some D2),Yc (lR.some D2),Yc (lR.some D2)⟩
 have Sj:=VI (wd.alloc (.cells #[G 0,G 0,G (gU x.n y.n)] 3)) wd.heap.size (gU x.n y.n) (Yc (ao wd _)) (Yc (ao wd _)) (Yc (ao wd _))
 have HL:=cf (lD.trans (lR.mono lD.size))
 clear b1 a2 l2 lD UN D2 lR
 refine wp_region_noPanic ?_
 refine wp_region_held_drew (S:=fun w'=>(w'.cell? ⟨S,0,none⟩=some (G 1)∧w'.cell? ⟨S,2,none⟩=some (G 0)∧w'.cell? ⟨S,4,none⟩=some (.int .u16 x.n))∧w'.cell? ⟨S+1,0,none⟩=some (G 1)∧w'.cell? ⟨S+1,2,none⟩=some (G 0)∧w'.cell? ⟨S+1,4,none⟩=some (.int .u16 y.n)) (by kernel_rfl) (by exact(by rw[←tt];exact Ll)) (fun af=>?_)
 rw[←tt]at af⊢
 clear tt
 refine tk 0 af ?_
 refine tk 1 af ?_
 refine tk 2 af ?_
 refine tk 3 af ?_
 refine tk 5 af ?_
 refine tk 6 af ?_
 refine tk 7 af ?_
 refine tk 8 af ?_
 refine tk 10 af ?_
 refine tk 11 af ?_
 refine tk 12 af ?_
 refine tk 13 af ?_
 refine aG 4 fun KK aI=>?_
 refine aR rfl 112 #[G 1,G 1] (by go_simp) (fun v w'=>v=G (0)∧w'=wd) ((Pg wd 1).mono (by rintro e w' ⟨rfl,he⟩;exact⟨_,rfl,rfl,he⟩)) ?_
 rintro v w' ⟨rfl,he⟩
 rw[he]
 clear he w'
 refine aI.out _ _ (by exact Ll) (fun af=>?_)
 clear aI KK
 (try simp only[Act.put,bh])
 refine aG 9 fun KK aI=>?_
 refine aR rfl 112 #[G 0,G 0] (by go_simp) (fun v w'=>v=G (0)∧w'=wd) ((Pg wd 0).mono (by rintro e w' ⟨rfl,he⟩;exact⟨_,rfl,rfl,he⟩)) ?_
 rintro v w' ⟨rfl,he⟩
 rw[he]
 clear he w'
 refine aI.out _ _ (by exact Ll) (fun af=>?_)
 clear aI KK
 (try simp only[Act.put,bh])
 refine aG 14 fun KK aI=>?_
 refine aR rfl 117 #[.int .u16 x.n,.int .u16 y.n] (by go_simp) (fun v w'=>v=G (gU x.n y.n)∧w'=wd) ((Xi wd x.n y.n).mono (by rintro e w' ⟨rfl,he⟩;exact⟨_,rfl,rfl,he⟩)) ?_
 rintro v w' ⟨rfl,he⟩
 rw[he]
 clear he w'
 refine aI.out _ _ (by exact Ll) (fun af=>?_)
 clear aI KK
 (try simp only[Act.put,bh])
 refine aG 15 fun KK aI=>?_
 go_simp
 refine aI.out _ _ (by exact hSR) (fun af=>?_)
 clear aI KK
 (try simp only[Act.put,bh])
 refine aG 16 fun KK aI=>?_
 refine aR rfl 111 #[.slice (ad (wd.heap.size)) 3 3] (by go_simp) (fun v w'=>v=G (gU x.n y.n)∧w'=wd.alloc (.cells #[G 0,G 0,G (gU x.n y.n)] 3)) (Sj.mono (by rintro e w' ⟨rfl,he⟩;exact⟨_,rfl,rfl,he⟩)) ?_
 rintro v w' ⟨rfl,he⟩
 rw[he]
 clear he w'
 refine aI.out _ _ (by exact hSR) (fun af=>?_)
 clear aI KK
 (try simp only[Act.put,bh])
 refine aG 17 fun KK aI=>?_
 go_simp
 refine aI.out _ _ (by exact hSR) (fun af=>?_)
 clear aI KK
 (try simp only[Act.put,bh])
 refine wpAnyH_done (by kernel_rfl) ?_ _
 refine NoPanic.normal ?_
 (try go_wp2_with fail)
 go_ret
 exact⟨rfl,HL.out⟩
end
section
def QG (i j:Nat) (L:List aE):Prop:=
 (∀p q x y,L[p]?=some x→L[q]?=some y→p<q→q≤i→p≠j→q≠j→x.n≤y.n)∧(∀q x y,L[j]?=some x→L[q]?=some y→j<q→q≤i→x.n≤y.n)
def Ord (i:Nat) (L:List aE):Prop:=∀p q x y,L[p]?=some x→L[q]?=some y→p<q→q<i→x.n≤y.n
variable {i j:Nat} {L:List aE}
theorem QG.start (h:Ord i L):QG i i L:=
 ⟨fun p q x y hp hq h1 h2 h3 h4=>h p q x y hp hq h1 (by omega),fun q x y hp hq h1 h2=>by omega⟩
theorem QG.stop (h:QG i j L) (hj:∀x y,0<j→L[j-1]?=some x→L[j]?=some y→x.n≤y.n):Ord (i+1) L:=by
 intro p q x y hp hq h1 h2
 by_cases hqj:q=j
 ·subst hqj
  obtain⟨z,hz⟩:∃z,L[q-1]?=some z:=⟨_,List.getElem?_eq_getElem (by have:=(List.getElem?_eq_some_iff.1 hq).1;omega)⟩
  have h3:=hj z y (by omega) hz hq
  by_cases hpq:p=q-1
  ·subst hpq
   rw[hp]at hz
   cases hz
   exact h3
  ·have:=h.1 p (q-1) x z hp hz (by omega) (by omega) (by omega) (by omega)
   omega
 ·by_cases hpj:p=j
  ·subst hpj
   exact h.2 q x y hp hq h1 (by omega)
  ·exact h.1 p q x y hp hq h1 (by omega) hpj hqj
def Tx (L:List aE) (j:Nat) (x y:aE):List aE:=(L.set j x).set (j-1) y
variable {x y:aE}
theorem LO (hj:0<j) (hl:j<L.length) (k:Nat):(Tx L j x y)[k]?=if k=j then some x else if k=j-1 then some y else L[k]?:=by
 unfold Tx
 rw[List.getElem?_set,List.getElem?_set]
 by_cases h1:k=j
 ·subst h1
  rw[if_neg (by omega),if_pos rfl,if_pos rfl,if_pos (by omega)]
 ·rw[if_neg h1]
  by_cases h2:k=j-1
  ·subst h2
   rw[if_pos rfl,if_pos rfl,if_pos (by simp;omega)]
  ·rw[if_neg (by omega),if_neg (by omega),if_neg h2]
theorem QG.swap (h:QG i j L) (hj:0<j) (BH:j≤i) (hx:L[j-1]?=some x) (hy:L[j]?=some y) (bw:y.n<x.n):QG i (j-1) (Tx L j x y):=by
 have hl:j<L.length:=(List.getElem?_eq_some_iff.1 hy).1
 have key:=LO (x:=x) (y:=y) hj hl
 refine⟨fun p q a b hp hq h1 h2 h3 h4=>?_,fun q a b hp hq h1 h2=>?_⟩
 ·rw[key]at hp hq
  rw[if_neg h3]at hp
  rw[if_neg h4]at hq
  by_cases hpj:p=j
  ·rw[if_pos hpj]at hp
   cases hp
   by_cases hqj:q=j
   ·omega
   ·rw[if_neg hqj]at hq
    exact h.1 (j-1) q _ _ hx hq (by omega) h2 (by omega) hqj
  ·rw[if_neg hpj]at hp
   by_cases hqj:q=j
   ·rw[if_pos hqj]at hq
    cases hq
    exact h.1 p (j-1) _ _ hp hx (by omega) (by omega) hpj (by omega)
   ·rw[if_neg hqj]at hq
    exact h.1 p q _ _ hp hq h1 h2 hpj hqj
 ·rw[key,if_neg (by omega),if_pos rfl]at hp
  cases hp
  rw[key]at hq
  by_cases hqj:q=j
  ·rw[if_pos hqj]at hq
   cases hq
   omega
  ·rw[if_neg hqj,if_neg (by omega)]at hq
   exact h.2 q _ _ hy hq (by omega) h2
theorem LN (hj:0<j) (hx:L[j-1]?=some x) (hy:L[j]?=some y):(Tx L j x y).Perm L:=by
 have hl:j<L.length:=(List.getElem?_eq_some_iff.1 hy).1
 have e1:L=L.take (j-1)++x::y::L.drop (j+1):=by
  have h1:L.drop (j-1)=x::L.drop j:=by
   have:=List.drop_eq_getElem_cons (l:=L) (i:=j-1) (by omega)
   rw[this,(List.getElem?_eq_some_iff.1 hx).2,show j-1+1=j by omega]
  have h2:L.drop j=y::L.drop (j+1):=by
   rw[List.drop_eq_getElem_cons hl,(List.getElem?_eq_some_iff.1 hy).2]
  rw[←h2,←h1,List.take_append_drop]
 have e2:Tx L j x y=L.take (j-1)++y::x::L.drop (j+1):=by
  apply List.ext_getElem?
  intro k
  rw[LO hj hl]
  by_cases h1:k<j-1
  ·rw[if_neg (by omega),if_neg (by omega),List.getElem?_append_left (by simp;omega),List.getElem?_take_of_lt h1]
  ·rw[List.getElem?_append_right (by simp;omega)]
   have e:(L.take (j-1)).length=j-1:=by simp;omega
   rw[e]
   by_cases h2:k=j-1
   ·subst h2
    rw[if_neg (by omega),if_pos rfl]
    simp
   ·by_cases h3:k=j
    ·subst h3
     rw[if_pos rfl,show k-(k-1)=1 by omega]
     simp
    ·rw[if_neg h3,if_neg h2,show k-(j-1)=(k-(j+1))+2 by omega]
     simp only[List.getElem?_cons_succ]
     rw[List.getElem?_drop]
     congr 1
     omega
 rw[e2]
 conv=>rhs;rw[e1]
 exact List.Perm.append_left _ (List.Perm.swap _ _ _)
end
end Go.Proofs.YtjkahfmdcpfjjaaGreat
