/- The reference: Simplify, where wellFormed says yes. -/
import Derived.Test.YtjkahfmdcpfjjaaGreatD6
import Derived.Test.YtjkahfmdcpfjjaaGreatD9
import Derived.Test.YtjkahfmdcpfjjaaGreatDE
import Derived.Test.YtjkahfmdcpfjjaaGreatDH
set_option linter.unusedVariables false
namespace Go.Proofs.YtjkahfmdcpfjjaaGreat
open Go.RowKit
set_option maxRecDepth 100000
set_option maxHeartbeats 8000000
structure SI (w wx:World) (t2 rs gr bk al df nm ob cm om:Nat) (Pp:Option Addr) (pc ga n c:Nat) (T:Option Addr) (tc:Nat) (s:St) (l:List aE) (ret:Int):Prop where
 lo:ak w.heap.size w wx
 f2:wx.heap[t2]?=some (.cells #[Zs] 40 (0,0))
 fr:wx.heap[rs]?=some (.cells #[.func (.func 35) #[.pointer (ad gr)] #[],.func (.func 36) #[.pointer (ad gr)] #[],.func (.func 37) #[.pointer (ad gr)] #[],.func (.func 38) #[.pointer (ad gr)] #[],.func (.func 39) #[.pointer (ad gr)] #[],.func (.func 40) #[.pointer (ad gr)] #[]] 29 (0,0))
 par:dT wx Pp pc
 g:Gr wx gr bk al df nm ob cm om Pp pc ga n c T tc s l ret
 lb:∀b∈GB gr bk al df nm cm ga,w.heap.size≤b
section
variable {w wx wy : World} {t2 rs gr bk al df nm ob cm om : Nat} {Pp : Option Addr} {pc ga n c : Nat} {T : Option Addr} {tc : Nat} {s : St} {l : List aE} {ret : Int} {eK n' c' : Nat} {T' : Option Addr} {oU : Nat} {s' : St} {l' : List aE} {eS : Int}
theorem SI.no (h:SI w wx t2 rs gr bk al df nm ob cm om Pp pc ga n c T tc s l ret) {b:Nat} {cs:Array Value} {e:TypeId} (hq:wx.heap[b]?=some (.cells cs e (0,0))) (h1:e≠132) (h2:e≠136) (h3:e≠67):b∉GB gr bk al df nm cm ga:=by
 obtain⟨_,_,_,csO,BL,_⟩:=h.g.ops
 simp only[GB,List.mem_cons,List.not_mem_nil,or_false,not_or]
 exact⟨bT hq h.g.g h1,bT hq h.g.b h2,bm hq h.g.iv.isMap,bm hq h.g.iO.isMap,bm hq h.g.fD.isMap,bm hq h.g.ig.isMap,bT hq BL h3⟩
theorem SI.step (h:SI w wx t2 rs gr bk al df nm ob cm om Pp pc ga n c T tc s l ret) (hc:aY (GB gr bk al df nm cm ga) wx wy) (hg:Gr wy gr bk al df nm ob cm om Pp pc eK n' c' T' oU s' l' eS) (HJ:eK=ga∨wx.heap.size≤eK):SI w wy t2 rs gr bk al df nm ob cm om Pp pc eK n' c' T' oU s' l' eS:=by
 refine⟨h.lo.trans (hc.low h.lb h.lo.size),hc.obj h.f2 (h.no h.f2 (by decide) (by decide) (by decide)),hc.obj h.fr (h.no h.fr (by decide) (by decide) (by decide)),?_,hg,?_⟩
 ·obtain⟨g,cs,e,h1,h2,h3⟩:=h.par
  exact⟨g,cs,e,h1,hc.obj h2 (h.no h2 (by decide) (by decide) (by decide)),h3⟩
 ·intro b hb
  simp only[GB,List.mem_cons,List.not_mem_nil,or_false]at hb
  rcases hb with hb|hb|hb|hb|hb|hb|hb
  ·exact h.lb b (by simp[GB,hb])
  ·exact h.lb b (by simp[GB,hb])
  ·exact h.lb b (by simp[GB,hb])
  ·exact h.lb b (by simp[GB,hb])
  ·exact h.lb b (by simp[GB,hb])
  ·exact h.lb b (by simp[GB,hb])
  ·rcases HJ with HJ|HJ
   ·exact h.lb b (by simp[GB,hb,HJ])
   ·have:=h.lo.size;omega
theorem SI.low (h:SI w wx t2 rs gr bk al df nm ob cm om Pp pc ga n c T tc s l ret) (hl:ak wx.heap.size wx wy):SI w wy t2 rs gr bk al df nm ob cm om Pp pc ga n c T tc s l ret:=
 ⟨h.lo.trans (hl.mono h.lo.size),hl.some h.f2,hl.some h.fr,h.par.low hl,h.g.low hl,h.lb⟩
end
open Classical in
noncomputable def zt (s:St) (l:List aE):Nat:=if kG (aA s.nm) (l.map (bO s))=0 then 0 else 1
def WS (M:Int→Int) (T0:Prop) (outs:List (Int×Int)) (rv N:Int) (w:World) (t2 rs gr bk al df nm ob cm om:Nat) (Pp:Option Addr) (pc:Nat) (wx:World) (k:Nat):Prop:=
 ∃(ga n c:Nat) (T:Option Addr) (tc:Nat) (s:St) (l:List aE) (ret:Int),SI w wx t2 rs gr bk al df nm ob cm om Pp pc ga n c T tc s l ret∧FI M T0 outs rv N s l ret∧jF s∧2*l.length+zt s l=k
theorem eZ.Jl {o:aE} (h:eZ o):aS o.code:=h.1
theorem eE.Cb {l:List aE} {ret:Int} (h:eE l ret):jy l:=fun o ho=>(h.form o ho).1
theorem kC.Cb {l:List aE} {ret:Int} (h:kC l ret):jy l:=fun o ho=>(h.form o ho).1
theorem eE.zero {l:List aE} {ret:Int} (h:eE l ret):aA (fS l) 0=some 0:=by
 have h1:=(zH h.res l.length (Nat.le_refl _)).2.1
 rw[List.take_length]at h1
 exact h1
theorem eE.sum {l k:List aE} {ret:Int} {n:Nat} (h:eE (k++l) ret) (hn:l.length=n):k.length+n≤40:=by
 have h1:=h.len
 rw[List.length_append,hn]at h1
 exact h1
theorem Ly {nm:Int→Option Int} {l:List aE} (h:∀o∈l,wt nm o=0):kG nm l=0:=by
 unfold kG
 induction l with
 |nil=>rfl
 |cons o l ih=>
  rw[List.map_cons,List.sum_cons,h o (List.mem_cons_self ..),ih (fun x hx=>h x (List.mem_cons_of_mem _ hx))]
theorem Nk {p:aE→Bool} {l:List aE} (h:(kept p l).length=l.length):kept p l=l∧∀o∈l,p o=false:=by
 have h1:kept p l=l:=(nh p l).eq_of_length h
 exact⟨h1,fun o ho=>by
  rw[←h1]at ho
  exact(nf.1 ho).2⟩
variable {M:Int→Int} {N rv:Int}
theorem FR.WW {T:Prop} {outs:List (Int×Int)} {s:St} {l:List aE} {ret:Int} (h:FR M T outs rv N s l ret) (ho:outs≠[]):∃o∈l,o.code=25:=by
 by_cases hx:∃o∈l,o.code=25
 ·exact hx
 ·refine absurd ?_ ho
  rw[←h.out,List.filterMap_eq_nil_iff]
  intro o hm
  unfold fk
  rw[if_neg (fun cO=>hx ⟨o,hm,cO⟩)]
theorem Bw {T0:Prop} {outs:List (Int×Int)} (w:World) (g cg:Nat) (Pp:Option Addr) (pc:Nat) (A:Option Addr) (n c:Nat) (T:Option Addr) (tc:Nat) (l:List aE) (ret:Int) (h:fe w g Pp pc A n c T tc l ret) (po:n≤12) (bB:∀o∈l,Lv o) (yq:∀o∈l,o.code≠2) (nt:0≤ret) (Zr:aA (fS l) 0=some 0) (Nz:eT l=l) (rP:bK l ret=ret) (gR:∀q,q≤n→cB M (lq l q).1∧(lq l q).1.next≤1000000) (cH:(fU l).2≠[]) (CO:FI M T0 outs rv N (fU l).1 (fU l).2 ret) (dY:jF (fU l).1) (hN:N≤18) (CE:outs≠[])
 (hwf:∀u,ak w.heap.size w u→Calls Tryz.prog 31 #[.agg #[.slice (ad g) 1 cg]] u (fun e w'=>e=.returned (.bool true)∧ak u.heap.size u w')):
 Calls Tryz.prog 13 #[.agg #[.slice (ad g) 1 cg]] w (fun e w'=>ak w.heap.size w w'∧∃(g' cr:Nat) (cT:Option Addr) (cS:Nat) (A':Option Addr) (c':Nat) (s':St) (l':List aE) (eS:Int) (H:List aE),e=.returned (.agg #[.slice (ad g') 1 cr])∧1≤cr∧PU M T0 outs rv N s' l' eS∧DJ s' l' eS H∧fe w' g' cT cS A' (H.length+l'.length) c' none 0 (De (H++l')) (bK (H++l') eS)):=by
 have qE:∀(fn:Fn) (first cap:Array Value) (w:World),(Instr.makeFunc fn first cap).run Tryz.prog w=.ok (.func fn first cap) w:=fun _ _ _ _=>rfl
 have H:=cf h;have dA:=cf bB;have HN2:=cf yq;have Te:=cf nt;have HZ0:=cf Zr;have Tc:=cf Nz;have ar7:=cf rP;have HST:=cf gR;have U0:=cf cH;have HFI:=cf CO;have Ea:=cf dY;have HN:=cf hN;have Tf:=cf CE
 have HWF:=cf hwf
 clear h hwf bB yq nt Zr Nz rP gR cH CO dY hN CE
 obtain⟨S,hS⟩:∃S,w.heap.size=S:=⟨_,rfl⟩
 obtain⟨a1,s1,u1⟩:=av (.cells #[.slice (ad g) 1 cg] 40) hS
 obtain⟨a2,s2,u2⟩:=av (.cells #[Zs] 40) s1
 have l2:ak w.heap.size w ((w.alloc (.cells #[.slice (ad g) 1 cg] 40)).alloc (.cells #[Zs] 40)):=((ak.refl _ w).alloc (Nat.le_refl _) _).alloc (by omega) _
 have b1:=u2 _ _ a1
 have HS:=cf hS
 clear u1 u2 a1 s1 s2
 go_enter Tryz.func13,Tryz.ntmps13
 go_upto_region 1 with fail
 clear hS
 obtain⟨t2,nU⟩:∃t,t=S+1:=⟨_,rfl⟩
 have HT2:=cf nU
 rw[←nU]at a2⊢
 clear nU
 generalize(w.alloc (.cells #[.slice (ad g) 1 cg] 40)).alloc (.cells #[Zs] 40)=w1 at b1 a2 l2⊢
 have y1:=bf b1
 have hw:=HWF.out w1 l2
 have L1:=cf l2;have B1:=cf b1;have A1:=cf a2
 clear l2 b1 a2
 go_upto_region 3 with(first
  |(go_at_call 31;with_reducible refine hw.mono ?_;rintro e w2 ⟨rfl,l2⟩;have L2:=cf (L1.out.trans (l2.mono L1.out.size));have B2:=cf (l2.some B1.out);have A2:=cf (l2.some A1.out);clear l2))
 have y2:=bf B2.out
 have jL:=yK w2 g cg Pp pc A n c T tc l ret (H.out.low L2.out) (by omega) (fun o ho=>(dA.out o ho).1) Te.out HZ0.out
 rw[Tc.out,ar7.out]at jL
 clear y1 hw L1 B1 A1 HWF
 go_upto_region 4 with(first
  |(go_at_call 34;with_reducible refine jL.mono ?_;rintro e w3 ⟨l3,g1,cr1,DH,BW,A1,c1,rfl,ax3,zm,ap5⟩;have hld:=Nc w3 g1 cr1 DH BW A1 n c1 none 0 l ret zm po dA.out HST.out U0.out HN2.out;have L3:=cf (L2.out.trans (l3.mono L2.out.size));have A3:=cf (l3.some A2.out);have PAR:=cf zm.par;clear l3 zm ap5 y2 B2)
  |(go_at_call 33;with_reducible refine hld.mono ?_;rintro e w4 ⟨l4,gr,bk,al,df,nm,ob,cm,om,ga2,n2,c2,rfl,Qr,wk⟩;have L4:=cf (L3.out.trans (l4.mono L3.out.size));have A4:=cf (l4.some A3.out);have HGR:=cf wk;have ag5:=cf (PAR.out.low l4);have Gx:Hid (∀b∈GB gr bk al df nm cm ga2,w.heap.size≤b):=cf (fun b hb=>Nat.le_trans L3.out.size (Qr b (by unfold GB at hb;exact hb)));clear l4 hld Qr wk))
 have l5:ak w4.heap.size w4 (w4.alloc (.cells #[.func (.func 35) #[.pointer (ad gr)] #[],.func (.func 36) #[.pointer (ad gr)] #[],.func (.func 37) #[.pointer (ad gr)] #[],.func (.func 38) #[.pointer (ad gr)] #[],.func (.func 39) #[.pointer (ad gr)] #[],.func (.func 40) #[.pointer (ad gr)] #[]] 29)):=F0
 have a5:=ao w4 (.cells #[.func (.func 35) #[.pointer (ad gr)] #[],.func (.func 36) #[.pointer (ad gr)] #[],.func (.func 37) #[.pointer (ad gr)] #[],.func (.func 38) #[.pointer (ad gr)] #[],.func (.func 39) #[.pointer (ad gr)] #[],.func (.func 40) #[.pointer (ad gr)] #[]] 29)
 obtain⟨rs,Nx⟩:∃t,t=w4.heap.size:=⟨_,rfl⟩
 rw[←Nx]at a5
 have SI5:Hid (SI w (w4.alloc (.cells #[.func (.func 35) #[.pointer (ad gr)] #[],.func (.func 36) #[.pointer (ad gr)] #[],.func (.func 37) #[.pointer (ad gr)] #[],.func (.func 38) #[.pointer (ad gr)] #[],.func (.func 39) #[.pointer (ad gr)] #[],.func (.func 40) #[.pointer (ad gr)] #[]] 29)) t2 rs gr bk al df nm ob cm om DH BW ga2 n2 c2 none 0 (fU l).1 (fU l).2 ret):=cf ⟨L4.out.trans (l5.mono L4.out.size),l5.some A4.out,a5,ag5.out.low l5,HGR.out.low l5,Gx.out⟩
 clear l5 a5
 go_upto_region 5 with fail
 rw[←Nx]
 clear Nx
 generalize w4.alloc (.cells #[.func (.func 35) #[.pointer (ad gr)] #[],.func (.func 36) #[.pointer (ad gr)] #[],.func (.func 37) #[.pointer (ad gr)] #[],.func (.func 38) #[.pointer (ad gr)] #[],.func (.func 39) #[.pointer (ad gr)] #[],.func (.func 40) #[.pointer (ad gr)] #[]] 29)=w5 at SI5⊢
 have ax8:Hid (w.heap.size≤bk):=cf (Gx.out bk (by simp[GB]))
 clear HGR ag5 Gx L4 A4 PAR L3 A3 L2 A2 jL
 go_wp2_with fail
 go_loopw[5] (fun b wr=>(b=.bool true∧∃k,WS M T0 outs rv N w t2 rs gr bk al df nm ob cm om DH BW wr k)∨(b=.bool false∧∃(ga n c:Nat) (T:Option Addr) (tc:Nat) (s:St) (l:List aE) (ret:Int),SI w wr t2 rs gr bk al df nm ob cm om DH BW ga n c T tc s l ret∧PU M T0 outs rv N s l ret)) (fun b wr=>oz (WS M T0 outs rv N w t2 rs gr bk al df nm ob cm om DH BW) b wr)
 case atStart=>exact .inl ⟨rfl,_,_,_,_,_,_,_,_,_,SI5.out,HFI.out,Ea.out,rfl⟩
 case round=>
  obtain⟨wr,rfl⟩:∃u,u=wr:=⟨_,rfl⟩
  rcases hrel with⟨rfl,k,hk⟩|⟨rfl,n9⟩
  ·obtain⟨NK,_⟩:=jW hk
   obtain⟨k0,sS⟩:∃k,k=lY (WS M T0 outs rv N w t2 rs gr bk al df nm ob cm om DH BW wr):=⟨_,rfl⟩
   have Hz:Hid (oz (WS M T0 outs rv N w t2 rs gr bk al df nm ob cm om DH BW) (.bool true) wr=1+k0):=cf (by rw[sS];rfl)
   rw[←sS]at NK
   have ar9:=cf NK
   clear hk sS NK
   go_wp2_with fail
   go_loopw[32,5] (fun i b wx=>∃(q ga n c:Nat) (T:Option Addr) (tc:Nat) (s:St) (l:List aE) (ret:Int),i=G ((q:Nat):Int)∧q≤6∧SI w wx t2 rs gr bk al df nm ob cm om DH BW ga n c T tc s l ret∧jF s∧((q=0∧b=.bool false∧FI M T0 outs rv N s l ret∧2*l.length+zt s l=k0)∨(1≤q∧q≤5∧∃ch:Bool,b=.bool ch∧FR M T0 outs rv N s l ret∧(∀o∈l,wt (aA s.nm) o=0)∧2*l.length+(if ch=true then 1 else 0)≤k0)∨(q=6∧∃ch:Bool,b=.bool ch∧FR M T0 outs rv N s l ret∧(∀o∈l,wt (aA s.nm) o=0)∧(ch=true→2*l.length<k0)∧(ch=false→∀o∈l,fI (aA s.nm) o=true→o.res∈UL l ret)))) (fun i _ _=>6-(intOf i).toNat)
   case atStart=>
    obtain⟨ga,n,c,T,tc,s,l,ret,h1,h2,h3,h4⟩:=ar9.out
    exact⟨0,ga,n,c,T,tc,s,l,ret,rfl,by omega,h1,h3,.inl ⟨rfl,rfl,h2,h4⟩⟩
   case round=>
    obtain⟨wx,rfl⟩:∃u,u=wr:=⟨_,rfl⟩
    obtain⟨q,ga,n,c,T,tc,s,l,ret,rfl,hq,tu,eR,gR⟩:=hrel
    have kN:=tu.fr
    have H2:=cf tu;have QJ:=cf eR
    rcases gR with⟨rfl,rfl,CO,wj⟩|⟨Si,hq5,ch,rfl,hF,Sa,wj⟩|⟨rfl,ch,rfl,hF,Sa,JV,Uj⟩
    ·have yf:wx.cell? ⟨rs,0,none⟩=some (.func (.func 35) #[.pointer (ad gr)] #[]):=Yc kN
     have rR:=OH wx gr bk al df nm ob cm om DH BW ga n c T tc s l ret tu.g CO (by have:=HN.out;omega) Tf.out eR
     have U5:=cf wj
     clear tu kN eR CO wj
     go_upto_if 37 with(first
      |(go_at_call 35;with_reducible refine rR.mono ?_;rintro e w7 ⟨ch,rfl,hc,hz,Xb,n3,c3,T3,X8,s3,l3,VB,sU,hF3,R1,Fy,NM,WM⟩)
      |(with_reducible refine rR.mono ?_;rintro e w7 ⟨ch,rfl,hc,hz,Xb,n3,c3,T3,X8,s3,l3,VB,sU,hF3,R1,Fy,NM,WM⟩))
     have HS7:=cf (H2.out.step hc sU Fy)
     have HK7:Hid (2*l3.length+(if ch=true then 1 else 0)≤k0):=cf (by
      have h1:=U5.out
      unfold zt at h1
      cases ch with
      |false=>simp;omega
      |true=>
       have:¬kG (aA s.nm) (l.map (bO s))=0:=fun e=>by have:=hz e;cases this
       rw[if_neg this]at h1
       simp
       omega)
     have HF3:=cf hF3;have HW3:=cf R1;have ag8:=cf WM
     clear hc hz sU hF3 R1 Fy NM WM
     cases ch with
     |false=>
      go_wp2_with fail
      exact⟨⟨1,Xb,n3,c3,T3,X8,s3,l3,VB,rfl,by omega,HS7.out,ag8.out,.inr (.inl ⟨by omega,by omega,false,rfl,HF3.out,HW3.out,HK7.out⟩)⟩,by decide⟩
     |true=>
      go_wp2_with fail
      exact⟨⟨1,Xb,n3,c3,T3,X8,s3,l3,VB,rfl,by omega,HS7.out,ag8.out,.inr (.inl ⟨by omega,by omega,true,rfl,HF3.out,HW3.out,HK7.out⟩)⟩,by decide⟩
    ·have WO:q=1∨q=2∨q=3∨q=4∨q=5:=by omega
     have uS:jy l:=fun o ho=>(hF.form o ho).uy
     have Hu:=hF.ov.1
     have HF:=cf hF;have HW:=cf Sa;have U5:=cf wj
     rcases WO with rfl|rfl|rfl|rfl|rfl
     ·have yf:wx.cell? ⟨rs,1,none⟩=some (.func (.func 36) #[.pointer (ad gr)] #[]):=Yc kN
      have rR:=Jq wx gr bk al df nm ob cm om DH BW ga n c T tc s l ret tu.g uS hF.ok.flat Hu hF.qm hF.BM
      clear tu kN eR hF Sa wj uS Hu
      go_wp2_with(first
       |(go_at_call 36;with_reducible refine rR.mono ?_;rintro e w7 ⟨rfl,hc,T3,X8,sU⟩)
       |(with_reducible refine rR.mono ?_;rintro e w7 ⟨rfl,hc,T3,X8,sU⟩))
      exact⟨⟨2,ga,n,c,T3,X8,s,l,ret,rfl,by omega,H2.out.step (hc.more (by simp[GB])) sU (.inl rfl),QJ.out,.inr (.inl ⟨by omega,by omega,ch,rfl,HF.out,HW.out,U5.out⟩)⟩,by decide⟩
     ·have yf:wx.cell? ⟨rs,2,none⟩=some (.func (.func 37) #[.pointer (ad gr)] #[]):=Yc kN
      have rR:=FZ wx gr bk al df nm ob cm om DH BW ga n c T tc s l ret tu.g
      clear tu kN eR hF Sa wj uS Hu
      go_wp2_with(first
       |(go_at_call 37;with_reducible refine rR.mono ?_;rintro e w7 ⟨rfl,DX⟩)
       |(with_reducible refine rR.mono ?_;rintro e w7 ⟨rfl,DX⟩))
      exact⟨⟨3,ga,n,c,T,tc,s,l,ret,rfl,by omega,H2.out.low DX,QJ.out,.inr (.inl ⟨by omega,by omega,ch,rfl,HF.out,HW.out,U5.out⟩)⟩,by decide⟩
     ·have yf:wx.cell? ⟨rs,3,none⟩=some (.func (.func 38) #[.pointer (ad gr)] #[]):=Yc kN
      have rR:=El wx gr bk al df nm ob cm om DH BW ga n c T tc s l ret tu.g uS Hu
      clear tu kN eR hF Sa wj uS Hu
      go_wp2_with(first
       |(go_at_call 38;with_reducible refine rR.mono ?_;rintro e w7 ⟨rfl,DX⟩)
       |(with_reducible refine rR.mono ?_;rintro e w7 ⟨rfl,DX⟩))
      exact⟨⟨4,ga,n,c,T,tc,s,l,ret,rfl,by omega,H2.out.low DX,QJ.out,.inr (.inl ⟨by omega,by omega,ch,rfl,HF.out,HW.out,U5.out⟩)⟩,by decide⟩
     ·have yf:wx.cell? ⟨rs,4,none⟩=some (.func (.func 39) #[.pointer (ad gr)] #[]):=Yc kN
      have rR:=Nm wx gr bk al df nm ob cm om DH BW ga n c T tc s l ret tu.g
      clear tu kN eR hF Sa wj uS Hu
      go_wp2_with(first
       |(go_at_call 39;with_reducible refine rR.mono ?_;rintro e w7 ⟨rfl,DX⟩)
       |(with_reducible refine rR.mono ?_;rintro e w7 ⟨rfl,DX⟩))
      exact⟨⟨5,ga,n,c,T,tc,s,l,ret,rfl,by omega,H2.out.low DX,QJ.out,.inr (.inl ⟨by omega,by omega,ch,rfl,HF.out,HW.out,U5.out⟩)⟩,by decide⟩
     ·have yf:wx.cell? ⟨rs,5,none⟩=some (.func (.func 40) #[.pointer (ad gr)] #[]):=Yc kN
      have rR:=IF wx gr bk al df nm ob cm om DH BW ga n c T tc s l ret tu.g uS Hu hF.ap9 (hF.WW Tf.out)
      have Fs:=tu.g.ops.1
      have Th:=cf Fs
      clear tu kN eR hF Sa wj uS Hu Fs
      go_upto_if 37 with(first
       |(go_at_call 40;with_reducible refine rR.mono ?_;rintro e w7 ⟨ND,Xb,n3,c3,rfl,Ws,Wr,Wq,Fy,hc,sU⟩)
       |(with_reducible refine rR.mono ?_;rintro e w7 ⟨ND,Xb,n3,c3,rfl,Ws,Wr,Wq,Fy,hc,sU⟩))
      have Sm:=sU.ops.1
      have HS7:=cf (H2.out.step (hc.more (by simp[GB])) sU (.inr Fy))
      have Tj:=cf (HF.out.Y1 Ws Wr)
      have HW7:Hid (∀o∈kept (bV (aA s.nm) ND) l,wt (aA s.nm) o=0):=cf (fun o ho=>HW.out o (nf.1 ho).1)
      have YM:=cf Sm
      have HLE:Hid (n3≤n):=cf (by
       have:=(nh (bV (aA s.nm) ND) l).length_le
       have:=Th.out
       omega)
      have HU7:Hid (n3=n→∀o∈kept (bV (aA s.nm) ND) l,fI (aA s.nm) o=true→o.res∈UL (kept (bV (aA s.nm) ND) l) ret):=cf (fun e=>by
       obtain⟨e1,e2⟩:=Nk (p:=bV (aA s.nm) ND) (l:=l) (by have:=Th.out;omega)
       rw[e1]
       intro o ho hp
       have:=e2 o ho
       unfold bV at this
       rw[hp]at this
       exact Wq _ (by simpa using this))
      clear hc sU Ws Wr Wq Fy Sm rR
      by_cases bw:n3<n
      ·have hd:decide (n3<n)=true:=by simp[bw]
       have XY:=cf bw
       rw[hd]
       clear hd bw
       go_wp2_with fail
       exact⟨⟨6,Xb,n3,c3,T,tc,s,_,ret,rfl,by omega,HS7.out,QJ.out,.inr (.inr ⟨rfl,true,rfl,Tj.out,HW7.out,fun _=>by
        have h1:=U5.out;have h2:=Th.out;have h3:=YM.out;have h4:=XY.out
        omega,fun e=>by cases e⟩)⟩,by decide⟩
      ·have hd:decide (n3<n)=false:=by simp[bw]
       have XY:=cf bw
       rw[hd]
       clear hd bw
       go_wp2_with fail
       exact⟨⟨6,Xb,n3,c3,T,tc,s,_,ret,rfl,by omega,HS7.out,QJ.out,.inr (.inr ⟨rfl,ch,rfl,Tj.out,HW7.out,fun e=>by
        have h1:=U5.out;have h2:=Th.out;have h3:=YM.out;have h4:=HLE.out
        rw[if_pos e]at h1
        omega,fun _=>HU7.out (by have:=XY.out;have:=HLE.out;omega)⟩)⟩,by decide⟩
    ·have HF:=cf hF;have HW:=cf Sa;have HK1:=cf JV;have HK2:=cf Uj
     clear tu kN eR hF Sa JV Uj
     cases ch with
     |true=>
      go_wp2_with fail
      have hz:zt s l=0:=by
       unfold zt
       rw[HF.out.qm,if_pos (Ly HW.out)]
      have hws:WS M T0 outs rv N w t2 rs gr bk al df nm ob cm om DH BW wx (2*l.length+zt s l):=⟨ga,n,c,T,tc,s,l,ret,H2.out,HF.out.aj0,QJ.out,rfl⟩
      refine⟨.inl ⟨rfl,_,hws⟩,?_⟩
      show oz _ (.bool true) wx<oz _ (.bool true) _
      rw[Hz.out]
      have h1:=(jW hws).2
      have h2:=HK1.out rfl
      show 1+lY _<1+k0
      omega
     |false=>
      go_wp2_with fail
      refine⟨.inr ⟨rfl,ga,n,c,T,tc,s,l,ret,H2.out,HF.out,QJ.out,HW.out,HK2.out rfl⟩,?_⟩
      show oz _ (.bool false) wx<oz _ (.bool true) _
      rw[Hz.out]
      show 0<1+k0
      omega
  ·obtain⟨ga,n,c,T,tc,s,l,ret,tu,hD⟩:=n9
   have uS:jy l:=fun o ho=>(hD.fr.form o ho).uy
   have Fs:=tu.g.ops.1
   have ac1:s.cm.length≤12:=by
    have h1:=hD.cm.2
    have h2:=hD.fr.fl
    have h3:=HN.out
    omega
   have wm:=Ak wr gr bk al df nm ob cm om DH BW ga n c T tc s l ret tu.g tu.par uS hD.fr.ok.flat hD.fr.ov.1 hD.fr.qm hD.fr.BM ac1
   have H2:=cf tu;have HD:=cf hD;have Th:=cf Fs
   have H2B:Hid (t2∉[bk,ga]):=cf (by
    have:=tu.no tu.f2 (by decide) (by decide) (by decide)
    simp only[GB,List.mem_cons,List.not_mem_nil,or_false,not_or]at this⊢
    exact⟨this.2.1,this.2.2.2.2.2.2⟩)
   have ar8:Hid (N≤20):=cf (by have:=HN.out;omega)
   clear tu hD uS Fs ac1
   go_wp2_with(first
    |(go_at_call 42;with_reducible refine wm.mono ?_;rintro e w7 ⟨hc7,HH,g7,cr7,A7,c7,rfl,ax2,CA,CG,hF7⟩;have Fx:DJ s l ret HH:=⟨CA,CG⟩;have eV:=zx HD.out Fx ar8.out;have hn7:HH.length+n≤40:=eV.sum Th.out;have Uo:=yK w7 g7 cr7 DH BW A7 (HH.length+n) c7 none 0 (HH++l) ret hF7 hn7 eV.Cb HD.out.fr.ov.1 eV.zero;have HC7:=cf hc7;have HHD:=cf Fx;have ar5:=cf eV;have HN7:=cf hn7;clear hc7 hF7 CA CG Fx eV hn7)
    |(go_at_call 34;with_reducible refine Uo.mono ?_;rintro e w8 ⟨l8,g8,cr8,Pp8,pc8,A8,c8,rfl,ap0,hF8,ad1⟩;have CG:=BX w8 g8 cr8 Pp8 pc8 A8 (HH.length+n) c8 none 0 (eT (HH++l)) (bK (HH++l) ret) hF8 HN7.out ar5.out.ren.Cb w7.heap.size l8.size ad1;have L8:=cf l8;clear l8 hF8 ad1 Uo)
    |(go_at_call 41;with_reducible refine CG.mono ?_;rintro e w9 ⟨rfl,l9,hF9⟩;have C9:=cf (HC7.out.tail ((L8.out.trans l9).mono HC7.out.size));have F9:=cf hF9;have Bk:=C9.out.obj H2.out.f2 H2B.out;have y2:w9.cell? ⟨t2,0,none⟩=some Zs:=Yc Bk;have f2:w9.frozen? ⟨t2,0,none⟩=false:=au Bk;have tb:=cf Bk;clear l9 Bk CG hF9))
   have QC:(w9.setCell ⟨t2,0,none⟩ (.slice (ad g8) 1 cr8)).cell? ⟨t2,0,none⟩=some (.slice (ad g8) 1 cr8):=Yc (aD tb.out)
   refine bodyPost_ret (v:=.agg #[.slice (ad g8) 1 cr8]) (by simp[results,Tryz.results13,go_sem,QC];done) rfl ?_
   have hL9:ak w.heap.size w w9:=H2.out.lo.trans (C9.out.low (by
    intro b hb
    simp only[List.mem_cons,List.not_mem_nil,or_false]at hb
    rcases hb with hb|hb
    ·exact H2.out.lb b (by simp[GB,hb])
    ·exact H2.out.lb b (by simp[GB,hb])) H2.out.lo.size)
   have cZ:aY [t2] w9 (w9.setCell ⟨t2,0,none⟩ (.slice (ad g8) 1 cr8)):=aY.setCell _ (List.mem_singleton.2 rfl) _
   refine⟨hL9.setCell (by have:=HT2.out;have:=HS.out;omega) _,g8,cr8,Pp8,pc8,A8,c8,s,l,ret,HH,rfl,ap0,HD.out,HHD.out,?_⟩
   have aH:=F9.out.cG cZ (fun b hb cs e he=>by
    rw[List.mem_singleton]at hb
    subst hb
    rw[tb.out]at he;cases he
    decide)
   rw[Th.out]
   exact aH
end Go.Proofs.YtjkahfmdcpfjjaaGreat
