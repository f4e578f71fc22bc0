/- The reference: load of a function of one block. -/
import Derived.Test.YtjkahfmdcpfjjaaGreatD3
import Derived.Test.YtjkahfmdcpfjjaaGreatD8
set_option linter.unusedVariables false
namespace Go.Proofs.YtjkahfmdcpfjjaaGreat
open Go.RowKit
set_option maxRecDepth 100000
set_option maxHeartbeats 8000000
def im (acc:St×List aE) (o:aE):St×List aE:=if o.code=1 then((aK acc.1 o.n).2.alias o.res (aK acc.1 o.n).1,acc.2)else(acc.1,acc.2++[o])
def lq (l:List aE) (q:Nat):St×List aE:=(l.take q).foldl im (⟨de l,[],[],[],[]⟩,[])
def fU (l:List aE):St×List aE:=l.foldl im (⟨de l,[],[],[],[]⟩,[])
variable {l:List aE} {S q:Nat}
theorem VS (h:l.length≤q):lq l q=fU l:=by
 unfold lq fU
 rw[List.take_of_length_le h]
theorem Hh {o:aE} (h:l[q]?=some o):lq l (q+1)=im (lq l q) o:=by
 unfold lq
 rw[List.take_add_one,h,List.foldl_append]
 rfl
theorem VR (l:List aE) (q:Nat):(lq l q).2.length≤q:=by
 have key:∀(L:List aE) (acc:St×List aE),(L.foldl im acc).2.length≤acc.2.length+L.length:=by
  intro L
  induction L with
  |nil=>intro acc;exact Nat.le_refl _
  |cons o L ih=>
   intro acc
   have:=ih (im acc o)
   have h2:(im acc o).2.length≤acc.2.length+1:=by
    unfold im
    split<;>simp
   rw[List.foldl_cons,List.length_cons]
   omega
 have:=key (l.take q) (⟨de l,[],[],[],[]⟩,[])
 have h2:=List.length_take_le q l
 unfold lq
 simp only[List.length_nil]at this
 omega
structure LG (w wx:World) (t1 g cg gr al df nm ob cm om:Nat) (s:St) (r bk:Nat) (blk:Array Value):Prop where
 lo:ak w.heap.size w wx
 lb:∀b∈[gr,bk,al,df,nm,cm],w.heap.size≤b
 f1:wx.heap[t1]?=some (.cells #[.slice (ad g) 1 cg] 40 (0,0))
 gc:Ge wx (.pointer none) gr al df nm ob cm om s
 fr:wx.heap[r]?=some (.cells #[.pointer (ad bk)] 130 (0,0))
 fb:wx.heap[bk]?=some (.cells blk 136 (0,0))
theorem Ge.cG {w w':World} {ev:Value} {gr al df nm ob cm om:Nat} {s:St} {B:List Nat} (h:Ge w ev gr al df nm ob cm om s) (hc:aY B w w') (hB:∀b∈B,∃cs e,w.heap[b]?=some (.cells cs e (0,0))∧e≠132):Ge w' ev gr al df nm ob cm om s:=by
 have hm:∀{k},(∃es cl,w.heap[k]?=some (.map es cl))→k∉B:=fun{k} ⟨es,cl,hk⟩ hm=>by
  obtain⟨cs,e,hb,_⟩:=hB k hm
  rw[hb]at hk;cases hk
 have hg:gr∉B:=fun hm=>by
  obtain⟨cs,e,hb,he⟩:=hB gr hm
  rw[h.g]at hb;cases hb
  exact he rfl
 exact⟨hc.obj h.g hg,h.iv.cG hc (hm h.iv.isMap),h.iO.cG hc (hm h.iO.isMap),h.fD.cG hc (hm h.fD.isMap),h.lC.cG hc (hm h.lC.isMap),h.ig.cG hc (hm h.ig.isMap),h.lB.cG hc (hm h.lB.isMap),h.mL⟩
section
variable {w wx wy : World} {t1 g cg gr al df nm ob cm om : Nat} {s s' : St} {r bk : Nat} {blk ad9 : Array Value}
theorem LG.low (h:LG w wx t1 g cg gr al df nm ob cm om s r bk blk) (hl:ak wx.heap.size wx wy):LG w wy t1 g cg gr al df nm ob cm om s r bk blk:=⟨h.lo.trans (hl.mono h.lo.size),h.lb,hl.some h.f1,h.gc.low hl,hl.some h.fr,hl.some h.fb⟩
theorem LG.Tz (h:LG w wx t1 g cg gr al df nm ob cm om s r bk blk) (hc:aY [bk] wx wy) (hb:wy.heap[bk]?=some (.cells ad9 136 (0,0))):LG w wy t1 g cg gr al df nm ob cm om s r bk ad9:=by
 have lG:∀{b:Nat} {cs:Array Value} {e:TypeId} {fr:Nat×Nat},wx.heap[b]?=some (.cells cs e fr)→e≠136→b∉[bk]:=fun{b cs e fr} hq he hm=>by
  rw[List.mem_singleton]at hm
  subst hm
  have h1:=h.fb
  rw[hq]at h1
  cases h1
  exact he rfl
 exact⟨h.lo.trans (hc.low (by simpa using h.lb bk (by simp)) h.lo.size),h.lb,hc.obj h.f1 (lG h.f1 (by decide)),h.gc.cG hc (fun b hb=>by
  rw[List.mem_singleton]at hb
  subst hb
  exact⟨_,_,h.fb,by decide⟩),hc.obj h.fr (lG h.fr (by decide)),hb⟩
theorem LG.graph (h:LG w wx t1 g cg gr al df nm ob cm om s r bk blk) (hc:aY [gr,al,nm,cm] wx wy) (hg:Ge wy (.pointer none) gr al df nm ob cm om s'):LG w wy t1 g cg gr al df nm ob cm om s' r bk blk:=by
 have lG:∀{b:Nat} {cs:Array Value} {e:TypeId},wx.heap[b]?=some (.cells cs e (0,0))→e≠132→b∉[gr,al,nm,cm]:=fun{b cs e} hq he=>by
  simp only[List.mem_cons,List.not_mem_nil,or_false,not_or]
  exact⟨bT hq h.gc.g he,bm hq h.gc.iv.isMap,bm hq h.gc.fD.isMap,bm hq h.gc.ig.isMap⟩
 exact⟨h.lo.trans (hc.low (fun b hb=>h.lb b (by
  simp only[List.mem_cons,List.not_mem_nil,or_false]at hb⊢
  rcases hb with hb|hb|hb|hb<;>simp[hb])) h.lo.size),h.lb,hc.obj h.f1 (lG h.f1 (by decide)),hg,hc.obj h.fr (lG h.fr (by decide)),hc.obj h.fb (lG h.fb (by decide))⟩
end
theorem SX {w:World} {A:Option Addr} {n c:Nat} (h:cJ w S A n c l) (o:aE) (hn:n≤1000) (hS:S≤w.heap.size):
 ∃A' c' w',(Builtin.append_ #[57,57] 57 #[.slice A n c,.slice (ad (w.heap.size)) 1 1]).run Tryz.prog (w.alloc (OC o))=.ok (.slice A' (n+1) c') w'∧cJ w' S A' (n+1) c' (l++[o])∧ak S w w'∧(∀b,b<w.heap.size→(∀a,A=some a→a.block≠b)→w'.heap[b]?=w.heap[b]?):=by
 have l1:ak w.heap.size w (w.alloc (OC o)):=F0
 have dy:=h.2.low l1
 obtain⟨v',w',cN,fP⟩:=eC (ty:=57) DF dy (c:=1) (m:=1) (ao w (OC o)) rfl (by simp[Value.oneCell']) (by omega) (by simp;omega)
 obtain⟨A',c',rfl⟩:=fP.own.slice
 refine⟨A',c',w',cN,⟨by simp[h.1],by rw[lN];exact fP.own⟩,(l1.mono hS).trans (fP.low dy (Nat.le_refl _) (by simp;omega)),fun b hb cH=>?_⟩
 refine(fP.block b (by simp;omega) fun e=>?_).trans (l1.block b hb)
 rcases h.2.form with⟨h1,_⟩|⟨g',c2,cs,h1,h2,h3,_⟩
 ·rw[h1]at e;cases e
 ·cases h1
  simp[Value.ownBlock]at e
  exact cH _ rfl e.symm
section
variable {w wx wy : World} {t1 g cg gr al df nm ob cm om : Nat} {s : St} {r bk SB : Nat} {blk : Array Value}
theorem LG.sub (h:LG w wx t1 g cg gr al df nm ob cm om s r bk blk) (hl:ak SB wx wy) (bw:∀b∈[t1,gr,al,df,nm,ob,cm,om,r,bk],b<SB) (hS:w.heap.size≤SB):LG w wy t1 g cg gr al df nm ob cm om s r bk blk:=by
 have k:∀{b},b∈[t1,gr,al,df,nm,ob,cm,om,r,bk]→wy.heap[b]?=wx.heap[b]?:=fun hb=>hl.block _ (bw _ hb)
 have ke:∀{b},b∈[t1,gr,al,df,nm,ob,cm,om,r,bk]→Empty wx b→Empty wy b:=fun hb ⟨cl,hg⟩=>⟨cl,(k hb).trans hg⟩
 exact⟨h.lo.trans (hl.mono hS),h.lb,(k (by simp)).trans h.f1,⟨(k (by simp)).trans h.gc.g,h.gc.iv.aW (k (by simp)),h.gc.iO.aW (k (by simp)),h.gc.fD.aW (k (by simp)),ke (by simp) h.gc.lC,h.gc.ig.aW (k (by simp)),ke (by simp) h.gc.lB,h.gc.mL⟩,(k (by simp)).trans h.fr,(k (by simp)).trans h.fb⟩
end
theorem Jv {w:World} {df nm ob cm om gr:Nat} (next:Int) (hS:w.heap.size=S) (h1:df=S+1) (h2:nm=S+1+1) (h3:ob=S+1+1+1) (h4:cm=S+1+1+1+1) (h5:om=S+1+1+1+1+1) (h6:gr=S+1+1+1+1+1+1):∀w1,w1=((((((w.alloc (.map #[] 0)).alloc (.map #[] 0)).alloc (.map #[] 0)).alloc (.map #[] 0)).alloc (.map #[] 0)).alloc (.map #[] 0)).alloc (.cells #[.pointer none,G next,.map (some S),.map (some df),.map (some nm),.map (some ob),.map (some cm),.map (some om)] 132)→
 ak S w w1∧Ge w1 (.pointer none) gr S df nm ob cm om ⟨next,[],[],[],[]⟩:=by
 rintro w1 rfl
 obtain⟨a1,s1,u1⟩:=av (.map #[] 0) hS
 obtain⟨a2,s2,u2⟩:=av (.map #[] 0) s1
 obtain⟨a3,s3,u3⟩:=av (.map #[] 0) s2
 obtain⟨a4,s4,u4⟩:=av (.map #[] 0) s3
 obtain⟨a5,s5,u5⟩:=av (.map #[] 0) s4
 obtain⟨a6,s6,u6⟩:=av (.map #[] 0) s5
 obtain⟨a7,s7,u7⟩:=av (.cells #[.pointer none,G next,.map (some S),.map (some df),.map (some nm),.map (some ob),.map (some cm),.map (some om)] 132) s6
 subst h1 h2 h3 h4 h5 h6
 exact⟨((((((((ak.refl S w).alloc (by omega) _).alloc (by omega) _).alloc (by omega) _).alloc (by omega) _).alloc (by omega) _).alloc (by omega) _).alloc (by omega) _),a7,⟨#[],0,u7 _ _ (u6 _ _ (u5 _ _ (u4 _ _ (u3 _ _ (u2 _ _ a1))))),aN _,by simp⟩,⟨#[],0,u7 _ _ (u6 _ _ (u5 _ _ (u4 _ _ (u3 _ _ a2)))),aN _,by simp⟩,⟨#[],0,u7 _ _ (u6 _ _ (u5 _ _ (u4 _ _ a3))),aN _,by simp⟩,⟨0,u7 _ _ (u6 _ _ (u5 _ _ a4))⟩,⟨#[],0,u7 _ _ (u6 _ _ a5),aN _,by simp⟩,⟨0,u7 _ _ a6⟩,by simp;omega⟩
theorem Nc {M:Int→Int} (w:World) (g cg:Nat) (Pp:Option Addr) (pc:Nat) (A:Option Addr) (n c:Nat) (T:Option Addr) (tc:Nat) (l:List aE) (ret:Int) (h:fe w g Pp pc A n c T tc l ret) (hn:n≤12) (bB:∀o∈l,Lv o) (gR:∀q,q≤n→cB M (lq l q).1∧(lq l q).1.next≤1000000) (cH:(fU l).2≠[]) (yq:∀o∈l,o.code≠2):
 Calls Tryz.prog 33 #[.agg #[.slice (ad g) 1 cg]] w (fun e w'=>ak w.heap.size w w'∧∃gr bk al df nm ob cm om eK n' c',e=.returned (.pointer (ad gr))∧(∀b∈[gr,bk,al,df,nm,cm,eK],w.heap.size≤b)∧Gr w' gr bk al df nm ob cm om Pp pc eK n' c' none 0 (fU l).1 (fU l).2 ret):=by
 have am9:∀u:World,(Instr.makeMap 121 none).run Tryz.prog u=.ok (.map (some u.heap.size)) (u.alloc (.map #[] 0)):=fun u=>by kernel_rfl
 have am7:∀u:World,(Instr.makeMap 125 none).run Tryz.prog u=.ok (.map (some u.heap.size)) (u.alloc (.map #[] 0)):=fun u=>by kernel_rfl
 have am6:∀u:World,(Instr.makeMap 126 none).run Tryz.prog u=.ok (.map (some u.heap.size)) (u.alloc (.map #[] 0)):=fun u=>by kernel_rfl
 have am5:∀u:World,(Instr.makeMap 127 none).run Tryz.prog u=.ok (.map (some u.heap.size)) (u.alloc (.map #[] 0)):=fun u=>by kernel_rfl
 have am4:∀u:World,(Instr.makeMap 128 none).run Tryz.prog u=.ok (.map (some u.heap.size)) (u.alloc (.map #[] 0)):=fun u=>by kernel_rfl
 have al9:∀u:World,(Instr.makeMap 129 none).run Tryz.prog u=.ok (.map (some u.heap.size)) (u.alloc (.map #[] 0)):=fun u=>by kernel_rfl
 have NI:∀u:World,(Instr.makeSlice 133 (G 1) (G 1)).run Tryz.prog u=.ok (.slice (ad (u.heap.size)) 1 1) (u.alloc (.cells #[.pointer none] 130)):=fun u=>by kernel_rfl
 have l1:ak w.heap.size w (w.alloc (.cells #[.slice (ad g) 1 cg] 40)):=F0
 have a1:=ao w (.cells #[.slice (ad g) 1 cg] 40)
 have H:=cf h;have dA:=cf bB;have ar3:=cf gR;have U0:=cf cH;have HN2:=cf yq
 clear h bB gR cH yq
 go_enter Tryz.func33,Tryz.ntmps33
 go_upto_region 1 with fail
 obtain⟨t1,eu⟩:∃t,t=w.heap.size:=⟨_,rfl⟩
 rw[←eu]at a1⊢
 clear eu
 generalize w.alloc (.cells #[.slice (ad g) 1 cg] 40)=w1 at a1 l1⊢
 have y1:w1.cell? ⟨t1,0,none⟩=some (.slice (ad g) 1 cg):=Yc a1
 have FH:=Kz w1 g cg Pp pc A n c T tc l ret (H.out.low l1) (by omega) dA.out
 obtain⟨next,nv⟩:∃z,z=de l:=⟨_,rfl⟩
 rw[←nv]at FH
 have UZ:=cf nv
 have L1:=cf l1;have A1:=cf a1
 clear a1 l1 nv
 go_upto_region 2 with(first
  |(go_at_call 79;with_reducible refine FH.mono ?_;rintro e w2 ⟨rfl,l2⟩;obtain⟨S,hS⟩:∃S,w2.heap.size=S:=⟨_,rfl⟩;have L2:=cf (L1.out.trans (l2.mono L1.out.size));have A2:=cf (l2.some A1.out);clear l2))
 obtain⟨df,vb⟩:∃t,t=S+1:=⟨_,rfl⟩
 obtain⟨nm,hnm⟩:∃t,t=S+1+1:=⟨_,rfl⟩
 obtain⟨ob,KY⟩:∃t,t=S+1+1+1:=⟨_,rfl⟩
 obtain⟨cm,dY⟩:∃t,t=S+1+1+1+1:=⟨_,rfl⟩
 obtain⟨om,KW⟩:∃t,t=S+1+1+1+1+1:=⟨_,rfl⟩
 obtain⟨gr,wk⟩:∃t,t=S+1+1+1+1+1+1:=⟨_,rfl⟩
 have h3:=Jv next hS vb hnm KY dY KW wk _ rfl
 rw[←wk,←KW,←dY,←KY,←hnm,←vb]
 have rT:w.heap.size≤S:=by have:=L2.out.size;omega
 have Gx:Hid (∀b∈[gr,S,df,nm,cm],w.heap.size≤b):=cf (by
  intro b hb
  simp only[List.mem_cons,List.not_mem_nil,or_false]at hb
  omega)
 have ZU:t1<S:=by rw[←hS];exact aB A2.out
 clear wk KW dY KY hnm vb
 obtain⟨al,rfl⟩:∃t,t=S:=⟨_,rfl⟩
 generalize((((((w2.alloc (.map #[] 0)).alloc (.map #[] 0)).alloc (.map #[] 0)).alloc (.map #[] 0)).alloc (.map #[] 0)).alloc (.map #[] 0)).alloc (.cells #[.pointer none,G next,.map (some al),.map (some df),.map (some nm),.map (some ob),.map (some cm),.map (some om)] 132)=w3 at h3⊢
 obtain⟨l3,g3⟩:=h3
 have Hm:=L2.out.trans (l3.mono rT)
 have f3:=l3.obj ZU A2.out
 clear l3 hS y1 FH L1 A1 L2 A2 am9 am7 am6 am5 am4 al9 rT ZU
 have y3:w3.cell? ⟨t1,0,none⟩=some (.slice (ad g) 1 cg):=Yc f3
 obtain⟨r,hr⟩:∃t,t=w3.heap.size:=⟨_,rfl⟩
 have rr:=ao w3 (.cells #[.pointer none] 130)
 have l4:ak w3.heap.size w3 (w3.alloc (.cells #[.pointer none] 130)):=F0
 have l24:=Hm.trans (l4.mono Hm.size)
 have g4:=g3.low l4;have f4:=l4.some f3
 have Wg:=Hm.size
 go_upto_region 4 with fail
 rw[←hr]at rr Wg⊢
 clear hr l4 Hm g3 f3 y3 NI
 generalize w3.alloc (.cells #[.pointer none] 130)=w4 at rr l24 g4 f4⊢
 have G4:=cf g4;have F4:=cf f4;have L24:=cf l24;have RR:=cf rr;have af8:=cf Wg
 clear g4 f4 l24 rr Wg
 go_loopw[29] (fun i wr=>(i=G 0∧wr=w4)∨(i=G 1∧∃bk,LG w wr t1 g cg gr al df nm ob cm om ⟨next,[],[],[],[]⟩ r bk #[Zs,Zs,G 0,G 0,Zs])) (fun i _=>1-(intOf i).toNat)
 case atStart=>exact .inl ⟨rfl,rfl⟩
 case round=>
  rcases hrel with⟨rfl,rfl⟩|⟨rfl,bk,hG⟩
  ·obtain⟨w4,rfl⟩:∃u,u=wr:=⟨_,rfl⟩
   have l5:ak w4.heap.size w4 (w4.alloc (.cells #[Zs,Zs,G 0,G 0,Zs] 136)):=F0
   have a5:=ao w4 (.cells #[Zs,Zs,G 0,G 0,Zs] 136)
   have rr5:=l5.some RR.out
   have y5:(w4.alloc (.cells #[Zs,Zs,G 0,G 0,Zs] 136)).cell? ⟨r,0,none⟩=some (.pointer none):=Yc rr5
   have f5:(w4.alloc (.cells #[Zs,Zs,G 0,G 0,Zs] 136)).frozen? ⟨r,0,none⟩=false:=au rr5
   have hrw:r<w4.heap.size:=aB RR.out
   have HF:Hid (LG w ((w4.setCell ⟨r,0,none⟩ (.pointer (ad (w4.heap.size)))).alloc (.cells #[Zs,Zs,G 0,G 0,Zs] 136)) t1 g cg gr al df nm ob cm om ⟨next,[],[],[],[]⟩ r w4.heap.size #[Zs,Zs,G 0,G 0,Zs]):=cf (by
    have cZ:aY [r] w4 (w4.setCell ⟨r,0,none⟩ (.pointer (ad (w4.heap.size)))):=aY.setCell _ (List.mem_singleton.2 rfl) _
    have lG:∀{b:Nat} {cs:Array Value} {e:TypeId} {fr:Nat×Nat},w4.heap[b]?=some (.cells cs e fr)→e≠130→b∉[r]:=fun{b cs e fr} hq he hm=>by
     rw[List.mem_singleton]at hm
     subst hm
     have h1:=RR.out
     rw[hq]at h1
     cases h1
     exact he rfl
    have rz:=aD (i:=0) (v:=.pointer (ad (w4.heap.size))) RR.out
    have cC:(w4.setCell ⟨r,0,none⟩ (.pointer (ad (w4.heap.size)))).heap.size=w4.heap.size:=cW _ _ _
    have lz:ak w.heap.size w (w4.setCell ⟨r,0,none⟩ (.pointer (ad (w4.heap.size)))):=L24.out.setCell af8.out _
    have fz:=cZ.obj F4.out (lG F4.out (by decide))
    have gz:=G4.out.cG cZ (fun b hb=>by
     rw[List.mem_singleton]at hb
     subst hb
     exact⟨_,_,RR.out,by decide⟩)
    generalize w4.setCell ⟨r,0,none⟩ (.pointer (ad (w4.heap.size)))=wz at rz cC lz fz gz⊢
    have lq:ak wz.heap.size wz (wz.alloc (.cells #[Zs,Zs,G 0,G 0,Zs] 136)):=F0
    have aq:=ao wz (.cells #[Zs,Zs,G 0,G 0,Zs] 136)
    rw[cC]at aq
    exact⟨lz.trans (lq.mono lz.size),fun b hb=>by
     simp only[List.mem_cons,List.not_mem_nil,or_false]at hb
     rcases hb with hb|hb|hb|hb|hb|hb
     ·exact Gx.out b (by simp[hb])
     ·rw[hb];exact L24.out.size
     ·exact Gx.out b (by simp[hb])
     ·exact Gx.out b (by simp[hb])
     ·exact Gx.out b (by simp[hb])
     ·exact Gx.out b (by simp[hb]),lq.some fz,gz.low lq,lq.some rz,aq⟩)
   clear l5 a5 rr5
   go_wp2_with fail
   exact⟨.inr ⟨rfl,_,HF.out⟩,by decide⟩
  ·obtain⟨w5,rfl⟩:∃u,u=wr:=⟨_,rfl⟩
   clear G4 F4 L24 RR af8
   have y1:w5.cell? ⟨t1,0,none⟩=some (.slice (ad g) 1 cg):=Yc hG.f1
   have HG:=cf hG
   clear hG
   go_wp2_with fail
   go_loopw[41] (fun i wr=>(i=G 0∧wr=w5)∨(i=G 1∧∃A' n' c',LG w wr t1 g cg gr al df nm ob cm om (fU l).1 r bk #[.slice Pp 1 pc,.slice A' n' c',G 4,G ret,Zs]∧n'≤12∧dk wr A' n' c' (fU l).2∧∀a,A'=some a→w.heap.size≤a.block)) (fun i _=>1-(intOf i).toNat)
   case atStart=>exact .inl ⟨rfl,rfl⟩
   case round=>
    rcases hrel with⟨rfl,rfl⟩|⟨rfl,A',n',c',hG,CN,hO,hA'⟩
    ·obtain⟨w5,rfl⟩:∃u,u=wr:=⟨_,rfl⟩
     have YD:=H.out.low HG.out.lo
     obtain⟨kz,r0,r1,r2,r3,r4,r5⟩:=YD.row
     have p0:w5.cell? ⟨g,0,none⟩=some (.slice Pp 1 pc):=(Yc r0).trans r1
     have p1:w5.cell? ⟨g,1,none⟩=some (.slice A n c):=(Yc r0).trans r2
     have p2:w5.cell? ⟨g,2,none⟩=some (G 4):=(Yc r0).trans r3
     have p3:w5.cell? ⟨g,3,none⟩=some (G ret):=(Yc r0).trans r4
     have p4:w5.cell? ⟨g,4,none⟩=some (.slice T 0 tc):=(Yc r0).trans r5
     have l6:ak w5.heap.size w5 (w5.alloc (.cells #[.slice Pp 1 pc,.slice A n c,G 4,G ret,.slice T 0 tc] 62)):=F0
     have a6:=ao w5 (.cells #[.slice Pp 1 pc,.slice A n c,G 4,G ret,.slice T 0 tc] 62)
     have G6:=HG.out.low l6
     have yr:(w5.alloc (.cells #[.slice Pp 1 pc,.slice A n c,G 4,G ret,.slice T 0 tc] 62)).cell? ⟨r,0,none⟩=some (.pointer (ad bk)):=Yc G6.fr
     have hbs:=aB HG.out.fb
     clear r0 r1 r2 r3 r4 r5 l6 YD
     go_upto_region 12 with fail
     clear p0 p1 p2 p3 p4 yr
     obtain⟨t7,oJ⟩:∃t,t=w5.heap.size:=⟨_,rfl⟩
     have FK:t7≠bk:=by omega
     rw[←oJ]at a6⊢
     clear oJ hbs
     generalize w5.alloc (.cells #[.slice Pp 1 pc,.slice A n c,G 4,G ret,.slice T 0 tc] 62)=w6 at a6 G6⊢
     have DZ:w6.cell? ⟨t7,0,none⟩=some (.slice Pp 1 pc)∧w6.cell? ⟨t7,2,none⟩=some (G 4)∧w6.cell? ⟨t7,3,none⟩=some (G ret):=⟨Yc a6,Yc a6,Yc a6⟩
     have A6:=cf a6;have GG:=cf G6
     have b0:w6.cell? ⟨bk,0,none⟩=some Zs:=Yc G6.fb
     have b2:w6.cell? ⟨bk,2,none⟩=some (G 0):=Yc G6.fb
     have b3:w6.cell? ⟨bk,3,none⟩=some (G 0):=Yc G6.fb
     have f0:w6.frozen? ⟨bk,0,none⟩=false:=au G6.fb
     have f2:w6.frozen? ⟨bk,2,none⟩=false:=au G6.fb
     have f3:w6.frozen? ⟨bk,3,none⟩=false:=au G6.fb
     have NN:∀k1 v1,(fun w':World=>w'.cell? ⟨t7,0,none⟩=some (.slice Pp 1 pc)∧w'.cell? ⟨t7,2,none⟩=some (G 4)∧w'.cell? ⟨t7,3,none⟩=some (G ret)) (w6.setCell ⟨bk,k1,none⟩ v1):=fun k1 v1=>⟨(World.cell?_of_block (a:=⟨t7,0,none⟩) (aj FK)).trans DZ.1,(World.cell?_of_block (a:=⟨t7,2,none⟩) (aj FK)).trans DZ.2.1,(World.cell?_of_block (a:=⟨t7,3,none⟩) (aj FK)).trans DZ.2.2⟩
     have Ol:∀k1 v1 k2 v2,(fun w':World=>w'.cell? ⟨t7,0,none⟩=some (.slice Pp 1 pc)∧w'.cell? ⟨t7,2,none⟩=some (G 4)∧w'.cell? ⟨t7,3,none⟩=some (G ret)) ((w6.setCell ⟨bk,k1,none⟩ v1).setCell ⟨bk,k2,none⟩ v2):=fun k1 v1 k2 v2=>⟨(World.cell?_of_block (a:=⟨t7,0,none⟩) (aj FK)).trans (NN k1 v1).1,(World.cell?_of_block (a:=⟨t7,2,none⟩) (aj FK)).trans (NN k1 v1).2.1,(World.cell?_of_block (a:=⟨t7,3,none⟩) (aj FK)).trans (NN k1 v1).2.2⟩
     have ac8:∀k1 v1 k2 v2 k3 v3,(fun w':World=>w'.cell? ⟨t7,0,none⟩=some (.slice Pp 1 pc)∧w'.cell? ⟨t7,2,none⟩=some (G 4)∧w'.cell? ⟨t7,3,none⟩=some (G ret)) (((w6.setCell ⟨bk,k1,none⟩ v1).setCell ⟨bk,k2,none⟩ v2).setCell ⟨bk,k3,none⟩ v3):=fun k1 v1 k2 v2 k3 v3=>⟨(World.cell?_of_block (a:=⟨t7,0,none⟩) (aj FK)).trans (Ol k1 v1 k2 v2).1,(World.cell?_of_block (a:=⟨t7,2,none⟩) (aj FK)).trans (Ol k1 v1 k2 v2).2.1,(World.cell?_of_block (a:=⟨t7,3,none⟩) (aj FK)).trans (Ol k1 v1 k2 v2).2.2⟩
     clear a6 G6
     refine wp_region_noPanic ?_
     refine wp_region_held_drew (S:=fun w'=>w'.cell? ⟨t7,0,none⟩=some (.slice Pp 1 pc)∧w'.cell? ⟨t7,2,none⟩=some (G 4)∧w'.cell? ⟨t7,3,none⟩=some (G ret)) (by kernel_rfl) (by exact DZ) (fun af=>?_)
     refine tk 0 af ?_
     refine tk 1 af ?_
     refine tk 2 af ?_
     refine tk 3 af ?_
     refine tk 4 af ?_
     refine tk 5 af ?_
     refine tk 6 af ?_
     refine tk 7 af ?_
     refine tk 8 af ?_
     refine tk 9 af ?_
     refine tk 10 af ?_
     refine tk 11 af ?_
     refine tk 12 af ?_
     refine aG 13 fun KK aI=>?_
     go_simp
     refine aI.out _ _ (by exact(NN _ _)) (fun af=>?_)
     clear aI KK
     (try simp only[Act.put,bh])
     refine tk 14 af ?_
     refine tk 15 af ?_
     refine aG 16 fun KK aI=>?_
     go_simp
     refine aI.out _ _ (by exact(Ol _ _ _ _)) (fun af=>?_)
     clear aI KK
     (try simp only[Act.put,bh])
     refine tk 17 af ?_
     refine tk 18 af ?_
     refine aG 19 fun KK aI=>?_
     go_simp
     refine aI.out _ _ (by exact(ac8 _ _ _ _ _ _)) (fun af=>?_)
     clear aI KK
     (try simp only[Act.put,bh])
     refine wpAnyH_done (by kernel_rfl) ?_ _
     refine NoPanic.normal ?_
     obtain⟨w7,R0⟩:∃w7,w7=(((w6.setCell ⟨bk,0,none⟩ (.slice Pp 1 pc)).setCell ⟨bk,2,none⟩ (G 4)).setCell ⟨bk,3,none⟩ (G ret)).drew:=⟨_,rfl⟩
     have c7:aY [bk] w6 w7:=by
      rw[R0]
      exact(((aY.setCell w6 (List.mem_singleton.2 rfl) _).trans (aY.setCell _ (List.mem_singleton.2 rfl) _)).trans (aY.setCell _ (List.mem_singleton.2 rfl) _)).drew
     have bj:w7.heap[bk]?=some (.cells #[.slice Pp 1 pc,Zs,G 4,G ret,Zs] 136 (0,0)):=by
      rw[R0]
      exact aD (aD (aD GG.out.fb))
     have G7:=GG.out.Tz c7 bj
     have a7:=c7.obj A6.out (by rw[List.mem_singleton];exact FK)
     rw[←R0]
     clear R0 NN Ol ac8 DZ b0 b2 b3 f0 f2 f3 c7 af A6 GG HG
     have y1':w7.cell? ⟨t7,1,none⟩=some (.slice A n c):=Yc a7
     have G7':Hid (LG w w7 t1 g cg gr al df nm ob cm om (lq l 0).1 r bk #[.slice Pp 1 pc,Zs,G 4,G ret,Zs]):=cf (by have e:=UZ.out;subst e;exact G7)
     have A7:=cf a7
     have HWS:Hid (w.heap.size≤w7.heap.size):=cf G7.lo.size
     clear G7 a7 bj
     obtain⟨SB,hSB⟩:∃S,S=w7.heap.size:=⟨_,rfl⟩
     have UW:=cf hSB
     have Lw:Hid (∀b∈[t1,gr,al,df,nm,ob,cm,om,r,bk],b<SB):=cf (by
      rw[hSB]
      have h1:=G7'.out.gc
      intro b hb
      simp only[List.mem_cons,List.not_mem_nil,or_false]at hb
      rcases hb with rfl|rfl|rfl|rfl|rfl|rfl|rfl|rfl|rfl|rfl
      ·exact aB G7'.out.f1
      ·exact aB h1.g
      ·obtain⟨_,_,hg⟩:=h1.iv.isMap;exact aB hg
      ·obtain⟨_,_,hg⟩:=h1.iO.isMap;exact aB hg
      ·obtain⟨_,_,hg⟩:=h1.fD.isMap;exact aB hg
      ·obtain⟨_,hg⟩:=h1.lC;exact aB hg
      ·obtain⟨_,_,hg⟩:=h1.ig.isMap;exact aB hg
      ·obtain⟨_,hg⟩:=h1.lB;exact aB hg
      ·exact aB G7'.out.fr
      ·exact aB G7'.out.fb)
     have HRG:Hid (bk<SB∧gr<SB∧al<SB∧nm<SB∧cm<SB∧t7<SB):=cf ⟨Lw.out _ (by simp),Lw.out _ (by simp),Lw.out _ (by simp),Lw.out _ (by simp),Lw.out _ (by simp),by rw[hSB];exact aB A7.out⟩
     clear hSB
     go_wp2_with fail
     go_loopw[70] (fun i wx=>∃(q:Nat) (A':Option Addr) (n' c':Nat),i=G ((q:Nat):Int)∧q≤n∧LG w wx t1 g cg gr al df nm ob cm om (lq l q).1 r bk #[.slice Pp 1 pc,.slice A' n' c',G 4,G ret,Zs]∧wx.heap[t7]?=some (.cells #[.slice Pp 1 pc,.slice A n c,G 4,G ret,.slice T 0 tc] 62 (0,0))∧cJ wx SB A' n' c' (lq l q).2∧SB≤wx.heap.size) (fun i _=>n-(intOf i).toNat)
     case atStart=>exact⟨0,none,0,0,rfl,by omega,G7'.out,A7.out,cJ.nil _ _,Nat.le_of_eq UW.out⟩
     case round=>
      obtain⟨wv,rfl⟩:∃u,u=wr:=⟨_,rfl⟩
      obtain⟨q,A',n',c',rfl,hq,hG,h7,hO,cC⟩:=hrel
      have hv:=H.out.low hG.lo
      have po:n'≤12:=by have h1:=hO.1;have:=VR l q;omega
      clear y1'
      by_cases bw:q<n
      ·skip
       have bN:(q:Int)<(n:Int):=by omega
       have nu:(0:Int)≤(q:Int):=by omega
       have mI:(q:Int)≤40:=by omega
       obtain⟨o,ho⟩:∃o,l[q]?=some o:=⟨_,List.getElem?_eq_getElem (by have:=hv.ops.1;omega)⟩
       obtain⟨ga,cs,rfl,qD,hg,k0,k1,k2,k3,k4,k5⟩:=hv.ops.2 q o ho
       have c0:wv.cell? ⟨ga,q*6,none⟩=some (G o.code):=(Yc hg).trans k0
       have c1:wv.cell? ⟨ga,q*6+1,none⟩=some (G o.res):=(Yc hg).trans k1
       have c2:wv.cell? ⟨ga,q*6+2,none⟩=some (G o.a):=(Yc hg).trans k2
       have c3:wv.cell? ⟨ga,q*6+3,none⟩=some (G o.b):=(Yc hg).trans k3
       have c4:wv.cell? ⟨ga,q*6+4,none⟩=some (.int .u16 o.n):=(Yc hg).trans k4
       have c5:wv.cell? ⟨ga,q*6+5,none⟩=some Zs:=(Yc hg).trans k5
       have l9:ak wv.heap.size wv (wv.alloc (OC o)):=F0
       have a9:=ao wv (OC o)
       have HST:=cf (ar3.out q hq)
       have QH:=cf (Hh ho)
       have yq:=HN2.out o (List.mem_of_getElem? ho)
       have GA:=cf (hG.low l9);have H7A:=cf (l9.some h7);have PH:=cf (hO.low l9)
       have nZ:=cf (Nat.le_trans cC l9.size)
       have af7:Hid (SB≤wv.heap.size):=cf cC
       have HNB:Hid (∀a,A'=some a→a.block≠wv.heap.size):=cf (fun a ha he=>by
        obtain⟨cs,hg,_⟩:=hO.size a ha
        have:=aB hg
        omega)
       clear hv hg k0 k1 k2 k3 k4 k5 ho l9 hG h7 hO cC
       go_upto_region 16 with fail
       clear c0 c1 c2 c3 c4 c5
       obtain⟨t10,mF⟩:∃t,t=wv.heap.size:=⟨_,rfl⟩
       rw[←mF]at a9 af7 HNB⊢
       clear mF
       generalize wv.alloc (OC o)=wa at a9 GA H7A PH nZ⊢
       have x0:wa.cell? ⟨t10,0,none⟩=some (G o.code):=Yc a9
       have A9:=cf a9
       clear a9
       by_cases h1:o.code=1
       ·have e:lq l (q+1)=((aK (lq l q).1 o.n).2.alias o.res (aK (lq l q).1 o.n).1,(lq l q).2):=by
         rw[QH.out]
         unfold im
         rw[if_pos h1]
        have HE:=cf e
        clear e
        go_upto_region 19 with fail
        clear x0 h1 yq
        have GD:Hid (Ge wa.drew (.pointer none) gr al df nm ob cm om (lq l q).1):=cf (GA.out.gc.low (ak.refl _ _).drew)
        have AD:Hid (wa.drew.heap[t10]?=some (OC o)):=cf A9.out
        have ap4:wa.cell? ⟨gr,2,none⟩=some (.map (some al))∧wa.cell? ⟨t10,1,none⟩=some (G o.res)∧wa.cell? ⟨t10,4,none⟩=some (.int .u16 o.n):=⟨Yc GA.out.gc.g,Yc A9.out,Yc A9.out⟩
        have LD:Hid (LG w wa.drew t1 g cg gr al df nm ob cm om (lq l q).1 r bk #[.slice Pp 1 pc,.slice A' n' c',G 4,G ret,Zs]∧wa.drew.heap[t7]?=some (.cells #[.slice Pp 1 pc,.slice (ad ga) n c,G 4,G ret,.slice T 0 tc] 62 (0,0))∧cJ wa.drew SB A' n' c' (lq l q).2∧SB≤wa.drew.heap.size):=cf ⟨GA.out.low (ak.refl _ _).drew,H7A.out,PH.out.low (ak.refl _ _).drew,nZ.out⟩
        clear A9 GA H7A PH nZ
        refine wp_region_noPanic ?_
        refine wp_region_held_drew (S:=fun w'=>w'.cell? ⟨gr,2,none⟩=some (.map (some al))∧w'.cell? ⟨t10,1,none⟩=some (G o.res)∧w'.cell? ⟨t10,4,none⟩=some (.int .u16 o.n)) (by kernel_rfl) (by exact ap4) (fun af=>?_)
        generalize wa.drew=wd at af GD AD LD⊢
        refine tk 0 af ?_
        refine tk 1 af ?_
        refine tk 2 af ?_
        refine tk 3 af ?_
        refine tk 4 af ?_
        refine tk 5 af ?_
        refine tk 6 af ?_
        refine tk 7 af ?_
        refine tk 8 af ?_
        refine aG 9 fun KK aI=>?_
        refine aR rfl 80 #[.pointer (ad gr),.int .u16 o.n] (by go_simp) _ (xl wd (.pointer none) gr al df nm ob cm om _ o.n GD.out HST.out.1 HST.out.2) ?_
        rintro v w5 ⟨rfl,c5,g5⟩
        have a5:=c5.obj AD.out (by simp only[List.mem_cons,List.not_mem_nil,or_false,not_or];exact⟨bT AD.out GD.out.g (by decide),bm AD.out GD.out.fD.isMap,bm AD.out GD.out.ig.isMap⟩)
        have CW:w5.cell? ⟨gr,2,none⟩=some (.map (some al))∧w5.cell? ⟨t10,1,none⟩=some (G o.res)∧w5.cell? ⟨t10,4,none⟩=some (.int .u16 o.n):=⟨Yc g5.g,Yc a5,Yc a5⟩
        obtain⟨cI,tC,Qj,Lg,wo⟩:=tO (P:=Tryz.prog) (t:=121) Tryz.underlying121 Tryz.underlying3 g5.iv (k:=o.res) (cA (aK (lq l q).1 o.n).1)
        rw[qe]at Lg
        obtain⟨vc,ZL⟩:∃v,v=(aK (lq l q).1 o.n).1:=⟨_,rfl⟩
        have aj7:(Instr.mapUpdate 121 (.map (some al)) (G o.res) (G vc)).run Tryz.prog w5=.ok () (Go.ChangeMaps.setBlock w5 al (.map cI tC)):=by rw[ZL];exact Qj
        rw[←ZL]
        have WK:=g5.mL
        have xc:al≠df∧al≠nm∧al≠ob∧al≠cm∧al≠om:=by
         simp only[List.nodup_cons,List.mem_cons,List.not_mem_nil,or_false,not_or]at WK
         exact WK.1
        have ab7:gr≠al:=bm g5.g g5.iv.isMap
        have Jb:∀b,b≠al→(Go.ChangeMaps.setBlock w5 al (.map cI tC)).heap[b]?=w5.heap[b]?:=fun b hb=>bM _ hb
        have g6:Ge (Go.ChangeMaps.setBlock w5 al (.map cI tC)) (.pointer none) gr al df nm ob cm om ((aK (lq l q).1 o.n).2.alias o.res vc):=⟨(Jb _ ab7).trans g5.g,⟨cI,tC,jP _ (by obtain⟨_,_,hg,_⟩:=g5.iv;exact aB hg),by rw[ZL];exact Lg,wo⟩,g5.iO.aW (Jb _ xc.1.symm),g5.fD.aW (Jb _ xc.2.1.symm),(by obtain⟨cl,hg⟩:=g5.lC;exact⟨cl,(Jb _ xc.2.2.1.symm).trans hg⟩),g5.ig.aW (Jb _ xc.2.2.2.1.symm),(by obtain⟨cl,hg⟩:=g5.lB;exact⟨cl,(Jb _ xc.2.2.2.2.symm).trans hg⟩),g5.mL⟩
        have c6:aY [gr,al,nm,cm] wd (Go.ChangeMaps.setBlock w5 al (.map cI tC)):=(c5.more (by simp only[List.mem_cons,List.not_mem_nil,or_false];rintro b (h|h|h)<;>simp[h])).trans (aY.setBlock _ (by simp) _)
        have a6:=(Jb t10 (bm a5 g5.iv.isMap)).trans a5
        have DZ:(Go.ChangeMaps.setBlock w5 al (.map cI tC)).cell? ⟨gr,2,none⟩=some (.map (some al))∧(Go.ChangeMaps.setBlock w5 al (.map cI tC)).cell? ⟨t10,1,none⟩=some (G o.res)∧(Go.ChangeMaps.setBlock w5 al (.map cI tC)).cell? ⟨t10,4,none⟩=some (.int .u16 o.n):=⟨Yc g6.g,Yc a6,Yc a6⟩
        have G6:=cf g6;have C6:=cf c6;have HVC:=cf ZL
        clear c5 g5 a5 Qj Lg wo WK xc ab7 Jb g6 c6 a6 ZL
        refine aI.out _ _ (by exact CW) (fun af=>?_)
        clear aI KK
        (try simp only[Act.put,bh])
        refine aG 10 fun KK aI=>?_
        go_simp
        refine aI.out _ _ (by exact DZ) (fun af=>?_)
        clear aI KK
        (try simp only[Act.put,bh])
        refine wpAnyH_done (by kernel_rfl) ?_ _
        refine NoPanic.normal ?_
        have HF:=cf (show∃(q':Nat) (A':Option Addr) (n' c':Nat),Value.int .i64 ((q:Int)+1)=G ((q':Nat):Int)∧q'≤n∧LG w (Go.ChangeMaps.setBlock w5 al (.map cI tC)) t1 g cg gr al df nm ob cm om (lq l q').1 r bk #[.slice Pp 1 pc,.slice A' n' c',G 4,G ret,Zs]∧(Go.ChangeMaps.setBlock w5 al (.map cI tC)).heap[t7]?=some (.cells #[.slice Pp 1 pc,.slice (ad ga) n c,G 4,G ret,.slice T 0 tc] 62 (0,0))∧cJ (Go.ChangeMaps.setBlock w5 al (.map cI tC)) SB A' n' c' (lq l q').2∧SB≤(Go.ChangeMaps.setBlock w5 al (.map cI tC)).heap.size from by
         obtain⟨k1,k2,k3,k4⟩:=LD.out
         have hr:=HRG.out
         have uV:∀b,SB≤b→b∉[gr,al,nm,cm]:=fun b hb=>by
          simp only[List.mem_cons,List.not_mem_nil,or_false,not_or]
          omega
         refine⟨q+1,A',n',c',rfl,bw,k1.graph C6.out ?_,C6.out.obj k2 ?_,?_,Nat.le_trans k4 C6.out.size⟩
         ·rw[HE.out]
          have:=G6.out
          rw[HVC.out]at this
          exact this
         ·simp only[List.mem_cons,List.not_mem_nil,or_false,not_or]
          exact⟨bT k2 k1.gc.g (by decide),bm k2 k1.gc.iv.isMap,bm k2 k1.gc.fD.isMap,bm k2 k1.gc.ig.isMap⟩
         ·rw[HE.out]
          exact k3.other (fun b hb hc=>C6.out.block b (by obtain⟨cs,hc⟩:=hc;exact aB hc) (uV b hb)))
        clear af CW DZ
        (try go_wp2_with fail)
        exact⟨HF.out,by show n-((q:Int)+1).toNat<n-((q:Int)).toNat;omega⟩
       ·have e:lq l (q+1)=((lq l q).1,(lq l q).2++[o]):=by
         rw[QH.out]
         unfold im
         rw[if_neg h1]
        have HE:=cf e
        clear e
        go_upto_region 17 with fail
        clear x0 h1 yq
        have ad0:iF wa t10 o:=⟨Yc A9.out,Yc A9.out,Yc A9.out,Yc A9.out,Yc A9.out,Yc A9.out⟩
        have va:wa.drew.cell? ⟨bk,1,none⟩=some (.slice A' n' c'):=Yc GA.out.fb
        have lz:ak wa.heap.size wa (wa.drew.alloc (OC o)):=((ak.refl _ wa).drew).alloc (Nat.le_refl _) _
        have vz:(wa.alloc (OC o)).drew.cell? ⟨bk,1,none⟩=some (.slice A' n' c'):=Yc (lz.some GA.out.fb)
        have Ok:iF (wa.drew.alloc (OC o)) t10 o:=⟨Yc (lz.some A9.out),Yc (lz.some A9.out),Yc (lz.some A9.out),Yc (lz.some A9.out),Yc (lz.some A9.out),Yc (lz.some A9.out)⟩
        obtain⟨A5,c5,w9,fW,o5,l5,iM⟩:=SX (PH.out.low ((ak.refl _ wa).drew)) o (by omega) (show SB≤wa.drew.heap.size from nZ.out)
        have yn:(Builtin.append_ #[57,57] 57 #[.slice A' n' c',.slice (ad (wa.drew.heap.size)) 1 1]).run Tryz.prog (wa.drew.alloc (OC o))=.ok (.slice A5 (n'+1) c5) w9:=fW
        have Sh:=HRG.out
        have Ur:w9.heap[t10]?=some (OC o):=(iM t10 (aB A9.out) HNB.out).trans A9.out
        have Yw:w9.heap[bk]?=some (.cells #[.slice Pp 1 pc,.slice A' n' c',G 4,G ret,Zs] 136 (0,0)):=(l5.block bk Sh.1).trans GA.out.fb
        have Oq:t10≠bk:=by have:=af7.out;omega
        have J4:iF w9 t10 o:=⟨Yc Ur,Yc Ur,Yc Ur,Yc Ur,Yc Ur,Yc Ur⟩
        have W2:=(aj (i:=1) (v:=.slice A5 (n'+1) c5) Oq).trans Ur
        have hSF:iF (w9.setCell ⟨bk,1,none⟩ (.slice A5 (n'+1) c5)) t10 o:=⟨Yc W2,Yc W2,Yc W2,Yc W2,Yc W2,Yc W2⟩
        have Tl:=cf Yw
        have HF:=cf (show∃(q':Nat) (A6:Option Addr) (n6 c6:Nat),Value.int .i64 ((q:Int)+1)=G ((q':Nat):Int)∧q'≤n∧LG w (w9.setCell ⟨bk,1,none⟩ (.slice A5 (n'+1) c5)) t1 g cg gr al df nm ob cm om (lq l q').1 r bk #[.slice Pp 1 pc,.slice A6 n6 c6,G 4,G ret,Zs]∧(w9.setCell ⟨bk,1,none⟩ (.slice A5 (n'+1) c5)).heap[t7]?=some (.cells #[.slice Pp 1 pc,.slice (ad ga) n c,G 4,G ret,.slice T 0 tc] 62 (0,0))∧cJ (w9.setCell ⟨bk,1,none⟩ (.slice A5 (n'+1) c5)) SB A6 n6 c6 (lq l q').2∧SB≤(w9.setCell ⟨bk,1,none⟩ (.slice A5 (n'+1) c5)).heap.size from by
         have hlg:=(GA.out.low ((ak.refl _ wa).drew)).sub l5 Lw.out (by have:=HWS.out;have:=UW.out;omega)
         refine⟨q+1,A5,n'+1,c5,rfl,bw,?_,(aj FK).trans ((l5.block t7 Sh.2.2.2.2.2).trans H7A.out),?_,?_⟩
         ·rw[HE.out]
          exact hlg.Tz (aY.setCell _ (List.mem_singleton.2 rfl) _) (aD Tl.out)
         ·rw[HE.out]
          exact o5.other (fun b _ hb=>aj (by rintro rfl;obtain⟨cs,hb⟩:=hb;rw[Tl.out]at hb;cases hb))
         ·rw[cW]
          have h1:=l5.size
          have h2:=nZ.out
          have h3:wa.drew.heap.size=wa.heap.size:=rfl
          omega)
        clear lz Ur Yw W2 o5 l5 iM fW Sh Oq A9 GA H7A PH
        refine wp_region_noPanic ?_
        refine wp_region_held_drew (S:=fun w'=>iF w' t10 o) (by kernel_rfl) (by exact ad0) (fun af=>?_)
        refine tk 0 af ?_
        refine tk 1 af ?_
        refine tk 2 af ?_
        refine tk 3 af ?_
        refine tk 5 af ?_
        refine wpAnyH_ready (rs:=[4,6]) (by kernel_rfl) (by simp) ?_
        refine fT (i:=4) rfl (fun KK aI=>?_) (fT (i:=6) rfl (fun KK aI=>?_) AllReadyH.nil)
        ·go_simp
         refine aI.out _ _ (by exact ad0) (fun af=>?_)
         clear aI KK
         (try simp only[Act.put,bh])
         refine aG 6 fun KK aI=>?_
         go_simp
         refine aI.out _ _ (by exact Ok) (fun af=>?_)
         clear aI KK
         (try simp only[Act.put,bh])
         refine aG 7 fun KK aI=>?_
         refine oW rfl (.tmp 80) (.tmp 82) rfl rfl rfl yn ?_
         have x9:w9.cell? ⟨bk,1,none⟩=some (.slice A' n' c'):=Yc Tl.out
         have f9:w9.frozen? ⟨bk,1,none⟩=false:=au Tl.out
         refine aI.out _ _ (by exact J4) (fun af=>?_)
         clear aI KK
         (try simp only[Act.put,bh])
         refine tk 8 af ?_
         refine tk 9 af ?_
         refine aG 10 fun KK aI=>?_
         go_simp
         refine aI.out _ _ (by exact hSF) (fun af=>?_)
         clear aI KK
         (try simp only[Act.put,bh])
         refine wpAnyH_done (by kernel_rfl) ?_ _
         refine NoPanic.normal ?_
         clear x9 f9 af
         (try go_wp2_with fail)
         exact⟨HF.out,by show n-((q:Int)+1).toNat<n-((q:Int)).toNat;omega⟩
        ·go_simp
         refine aI.out _ _ (by exact Ok) (fun af=>?_)
         clear aI KK
         (try simp only[Act.put,bh])
         refine aG 4 fun KK aI=>?_
         go_simp
         refine aI.out _ _ (by exact Ok) (fun af=>?_)
         clear aI KK
         (try simp only[Act.put,bh])
         refine aG 7 fun KK aI=>?_
         refine oW rfl (.tmp 80) (.tmp 82) rfl rfl rfl yn ?_
         have x9:w9.cell? ⟨bk,1,none⟩=some (.slice A' n' c'):=Yc Tl.out
         have f9:w9.frozen? ⟨bk,1,none⟩=false:=au Tl.out
         refine aI.out _ _ (by exact J4) (fun af=>?_)
         clear aI KK
         (try simp only[Act.put,bh])
         refine tk 8 af ?_
         refine tk 9 af ?_
         refine aG 10 fun KK aI=>?_
         go_simp
         refine aI.out _ _ (by exact hSF) (fun af=>?_)
         clear aI KK
         (try simp only[Act.put,bh])
         refine wpAnyH_done (by kernel_rfl) ?_ _
         refine NoPanic.normal ?_
         clear x9 f9 af
         (try go_wp2_with fail)
         exact⟨HF.out,by show n-((q:Int)+1).toNat<n-((q:Int)).toNat;omega⟩
      ·have bN:¬(q:Int)<(n:Int):=by omega
       obtain rfl:q=n:=by omega
       have hlen:=hv.ops.1
       have y4:wv.cell? ⟨t7,4,none⟩=some (.slice T 0 tc):=Yc h7
       have HFX:=cf (show LG w wv t1 g cg gr al df nm ob cm om (fU l).1 r bk #[.slice Pp 1 pc,.slice A' n' c',G 4,G ret,Zs]∧n'≤12∧dk wv A' n' c' (fU l).2∧∀a,A'=some a→w.heap.size≤a.block from by
        rw[←VS (l:=l) (q:=q) (by omega)]
        refine⟨hG,po,hO.LL,?_⟩
        rintro a rfl
        obtain⟨_,⟨h1,_⟩|⟨g2,c2,cur,h1,h2,_⟩⟩:=hO.2
        ·cases h1
        ·cases h1
         have:=HWS.out
         have:=UW.out
         show w.heap.size≤g2
         omega)
       clear hv hG h7 hO
       go_wp2_with fail
       go_loopw[118] (fun i wr=>i=G 0∧wr=wv) (fun _ _=>0)
       case atStart=>exact⟨rfl,rfl⟩
       case round=>
        obtain⟨rfl,rfl⟩:=hrel
        go_wp2_with fail
        exact⟨.inr ⟨rfl,A',n',c',HFX.out⟩,by decide⟩
    ·obtain⟨wz,rfl⟩:∃u,u=wr:=⟨_,rfl⟩
     have yr:wz.cell? ⟨r,0,none⟩=some (.pointer (ad bk)):=Yc hG.fr
     have yg:wz.cell? ⟨gr,0,none⟩=some (.pointer none):=Yc hG.gc.g
     have fg:wz.frozen? ⟨gr,0,none⟩=false:=au hG.gc.g
     have cZ:aY [gr] wz (wz.setCell ⟨gr,0,none⟩ (.pointer (ad bk))):=aY.setCell _ (List.mem_singleton.2 rfl) _
     have lG:∀{b:Nat} {cs:Array Value} {e:TypeId} {fr:Nat×Nat},wz.heap[b]?=some (.cells cs e fr)→e≠132→b∉[gr]:=fun{b cs e fr} hq he hm=>by
      rw[List.mem_singleton]at hm
      subst hm
      have h1:=hG.gc.g
      rw[hq]at h1
      cases h1
      exact he rfl
     have hm:∀{k},(∃es cl,wz.heap[k]?=some (.map es cl))→k∉[gr]:=fun hk=>by simp only[List.mem_singleton];exact(bm hG.gc.g hk).symm
     obtain⟨eK,rfl,YB⟩:=hO.Vn U0.out
     have YA:=YB
     obtain⟨_,_,_,csO,BL,_⟩:=YA
     have HF:=cf (show ak w.heap.size w (wz.setCell ⟨gr,0,none⟩ (.pointer (ad bk)))∧(∀b∈[gr,bk,al,df,nm,cm,eK],w.heap.size≤b)∧Gr (wz.setCell ⟨gr,0,none⟩ (.pointer (ad bk))) gr bk al df nm ob cm om Pp pc eK n' c' none 0 (fU l).1 (fU l).2 ret from
      ⟨hG.lo.setCell (hG.lb gr (by simp)) _,fun b hb=>by
       simp only[List.mem_cons,List.not_mem_nil,or_false]at hb
       rcases hb with hb|hb|hb|hb|hb|hb|hb
       ·exact hG.lb b (by simp[hb])
       ·exact hG.lb b (by simp[hb])
       ·exact hG.lb b (by simp[hb])
       ·exact hG.lb b (by simp[hb])
       ·exact hG.lb b (by simp[hb])
       ·exact hG.lb b (by simp[hb])
       ·rw[hb];exact hA' _ rfl,⟨aD hG.gc.g,cZ.obj hG.fb (lG hG.fb (by decide)),hG.gc.iv.cG cZ (hm hG.gc.iv.isMap),hG.gc.iO.cG cZ (hm hG.gc.iO.isMap),hG.gc.fD.cG cZ (hm hG.gc.fD.isMap),hG.gc.lC.cG cZ (hm hG.gc.lC.isMap),hG.gc.ig.cG cZ (hm hG.gc.ig.isMap),hG.gc.lB.cG cZ (hm hG.gc.lB.isMap),YB.aW (cZ.block eK (aB BL) (lG BL (by decide))),CN,hG.gc.mL⟩⟩)
     clear cZ lG hm hO YB BL hG HG
     go_wp2_with fail
     go_ret
     exact⟨HF.out.1,gr,bk,al,df,nm,ob,cm,om,eK,n',c',rfl,HF.out.2.1,HF.out.2.2⟩
end Go.Proofs.YtjkahfmdcpfjjaaGreat
