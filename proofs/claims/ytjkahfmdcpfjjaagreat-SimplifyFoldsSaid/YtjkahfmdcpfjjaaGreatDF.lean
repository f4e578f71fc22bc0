/- fold: the number of operations does not grow. -/
import Derived.Test.YtjkahfmdcpfjjaaGreatBF
set_option linter.unusedVariables false
namespace Go.Proofs.YtjkahfmdcpfjjaaGreat
open Go.RowKit
set_option maxRecDepth 100000
set_option maxHeartbeats 16000000
def jF (s:St):Prop:=(s.cm.map (·.1)).Nodup∧(s.cm.length:Int)≤s.next-6
theorem Ov {β:Type} {l:List (Int×β)} {k:Int} (h:aA l k=none):k∉l.map (·.1):=by
 intro hm
 obtain⟨p,hp,rfl⟩:=List.mem_map.1 hm
 unfold aA at h
 cases e:l.find? (fun q=>q.1==p.1)with
 |none=>have:=List.find?_eq_none.1 e p hp;simp at this
 |some q=>rw[e]at h;cases h
variable {s:St}
theorem nX (h:jF s) (n:Int):jF (aK s n).2:=by
 unfold aK
 cases e:aA s.cm n with
 |some v=>exact h
 |none=>
  refine⟨?_,?_⟩
  ·show((dj s.cm n s.next).map (·.1)).Nodup
   rw[ji e,List.map_append]
   have:=Ov e
   rw[List.nodup_append]
   refine⟨h.1,by simp,?_⟩
   intro a ha b hb
   simp at hb
   rintro rfl
   rw[hb]at ha
   exact this ha
  ·show((dj s.cm n s.next).length:Int)≤s.next+1-6
   rw[ji e,List.length_append]
   have:=h.2
   simp
   omega
theorem qZ (h:jF s) (r v:Int):jF (s.alias r v):=h
theorem Iq (h:jF s) (o:aE):jF (s.defs o):=by
 unfold St.defs
 split<;>exact h
theorem Mf {acc:St×List aE×Bool} (h:jF acc.1) (o:aE):jF (dR acc o).1:=by
 unfold dR
 cases cE (aA acc.1.nm) (bO acc.1 o)with
 |aW n=>exact Iq h n
 |val v=>exact qZ h _ _
 |nF k=>exact qZ (nX h k) _ _
 |Bb o' k=>exact Iq (nX h k) _
theorem S4 (h:jF s) (l:List aE) (q:Nat):jF (ml s l q).1:=by
 unfold ml
 have key:∀(L:List aE) (acc:St×List aE×Bool),jF acc.1→jF (L.foldl dR acc).1:=by
  intro L
  induction L with
  |nil=>intro acc h;exact h
  |cons o L ih=>intro acc h;exact ih _ (Mf h o)
 exact key _ _ h
def QE (L0:Nat) (M:Int→Int) (T:Prop) (outs:List (Int×Int)) (rv N:Int) (gr bk al df nm ob cm om:Nat) (Pp:Option Addr) (pc:Nat) (base:Nat) (ga0:Nat) (w:World) (k:Nat):Prop:=
 ∃(ga n c:Nat) (T':Option Addr) (tc:Nat) (s:St) (l:List aE) (ret:Int),Gr w gr bk al df nm ob cm om Pp pc ga n c T' tc s l ret∧FI M T outs rv N s l ret∧(ga=ga0∨base≤ga)∧kG (aA s.nm) (l.map (bO s))=k∧l.length≤L0∧jF s
theorem OH {M:Int→Int} {T0:Prop} {outs:List (Int×Int)} {rv N:Int} (w:World) (gr bk al df nm ob cm om:Nat) (Pp:Option Addr) (pc ga n c:Nat) (T:Option Addr) (tc:Nat) (s:St) (l:List aE) (ret:Int) (h:Gr w gr bk al df nm ob cm om Pp pc ga n c T tc s l ret) (CO:FI M T0 outs rv N s l ret) (hN:N≤1000000) (CE:outs≠[]) (dY:jF s):
 Calls Tryz.prog 35 #[.pointer (ad gr)] w (fun e w'=>∃ch:Bool,e=.returned (.bool ch)∧aY (GB gr bk al df nm cm ga) w w'∧(kG (aA s.nm) (l.map (bO s))=0→ch=false)∧∃(eK n' c':Nat) (T':Option Addr) (oU:Nat) (s':St) (l':List aE) (eS:Int),Gr w' gr bk al df nm ob cm om Pp pc eK n' c' T' oU s' l' eS∧FR M T0 outs rv N s' l' eS∧(∀o∈l',wt (aA s'.nm) o=0)∧(eK=ga∨w.heap.size≤eK)∧l'.length≤l.length∧jF s'):=by
 obtain⟨L0,hL0⟩:∃L0,L0=l.length:=⟨_,rfl⟩
 have CX:l.length≤L0:=Nat.le_of_eq hL0.symm
 rw[←hL0]
 clear hL0
 have qE:∀(fn:Fn) (first cap:Array Value) (w:World),(Instr.makeFunc fn first cap).run Tryz.prog w=.ok (.func fn first cap) w:=fun _ _ _ _=>rfl
 obtain⟨NR,hNR⟩:∃p:Prop,p=(kG (aA s.nm) (l.map (bO s))=0):=⟨_,rfl⟩
 rw[←hNR]
 have H0:Hid (QE L0 M T0 outs rv N gr bk al df nm ob cm om Pp pc w.heap.size ga w (kG (aA s.nm) (l.map (bO s)))):=cf ⟨ga,n,c,T,tc,s,l,ret,h,CO,.inl rfl,rfl,CX,dY⟩
 have HNR:=cf hNR;have HN:=cf hN;have Tf:=cf CE
 clear h CO hNR hN CE CX dY
 go_enter Tryz.func35,Tryz.ntmps35
 go_wp2_with fail
 go_loopw[3,4] (fun a b wr=>∃x y:Bool,a=.bool x∧b=.bool y∧aY (GB gr bk al df nm cm ga) w wr∧(NR→x=false)∧((y=true∧∃k,QE L0 M T0 outs rv N gr bk al df nm ob cm om Pp pc w.heap.size ga wr k∧(NR→k=0))∨(y=false∧∃(eK n' c':Nat) (T':Option Addr) (oU:Nat) (s':St) (l':List aE) (eS:Int),Gr wr gr bk al df nm ob cm om Pp pc eK n' c' T' oU s' l' eS∧FR M T0 outs rv N s' l' eS∧(∀o∈l',wt (aA s'.nm) o=0)∧(eK=ga∨w.heap.size≤eK)∧l'.length≤L0∧jF s'))) (fun a b wr=>oz (QE L0 M T0 outs rv N gr bk al df nm ob cm om Pp pc w.heap.size ga) b wr)
 case atStart=>exact⟨false,true,rfl,rfl,aY.refl _ _,fun _=>rfl,.inl ⟨rfl,_,H0.out,fun hn=>HNR.out▸hn⟩⟩
 case round=>
  obtain⟨wz,rfl⟩:∃u,u=wr:=⟨_,rfl⟩
  obtain⟨x,y,rfl,rfl,WN,hx,⟨rfl,k,hk,sS⟩|⟨rfl,n9⟩⟩:=hrel
  ·obtain⟨NK,hle⟩:=jW hk
   have hmz:Hid (NR→lY (QE L0 M T0 outs rv N gr bk al df nm ob cm om Pp pc w.heap.size ga wz)=0):=cf (fun hn=>by have:=sS hn;omega)
   obtain⟨gb,n,c,T,tc,s,l,ret,hG,Uy,Ul,Yr,hLn,hCm⟩:=NK
   clear hk sS hle
   have iT:=mW wz gr bk al df nm ob cm om Pp pc gb n c T tc s l ret hG Uy.Cb Uy.ok.flat Uy.aj2
   have Va:Hid (FR M T0 outs rv N s (l.map (bO s)) (bu s ret)):=cf Uy
   obtain⟨mu,Wv⟩:∃mu,mu=lY (QE L0 M T0 outs rv N gr bk al df nm ob cm om Pp pc w.heap.size ga wz):=⟨_,rfl⟩
   have Hz:Hid (oz (QE L0 M T0 outs rv N gr bk al df nm ob cm om Pp pc w.heap.size ga) (.bool true) wz=1+mu):=cf (by rw[Wv];rfl)
   rw[←Wv]at hmz Yr
   clear Wv
   have po:n≤12:=hG.small
   have HLn:Hid (n≤L0):=cf (by rw[←hG.ops.1];exact hLn)
   have HCm:=cf hCm
   clear hLn hCm
   have Fs:(l.map (bO s)).length=n:=by rw[List.length_map];exact hG.ops.1
   generalize l.map (bO s)=l1 at iT Va Yr Fs
   generalize bu s ret=ret1 at iT Va
   have HCH:=cf WN;have HX:=cf hx;have HGB:=cf Ul;have HMU:=cf Yr;have HG0:=cf hG
   clear WN hx Ul Yr hG Uy
   go_upto_region 7 with(first
    |(go_at_call 87;refine iT.mono ?_;rintro e w0 ⟨rfl,ch0,T',oU,g0⟩;have tw:=ez w0 gr bk oU T' (Yc g0.g) (Yc g0.b);have G0:=cf g0;have C0:=cf ch0;clear g0 ch0)
    |(go_at_call 88;refine tw.mono ?_;rintro e w1 ⟨l1',r,cr,rfl,x1,sR⟩;have G1:=cf (G0.out.low l1');have C1:=cf (C0.out.trans (aY.bD l1'));clear l1'))
   have x1':=x1
   clear iT tw
   obtain⟨acc,Ah⟩:∃acc,acc=ml s l1 n:=⟨_,rfl⟩
   have NF:PI M (Us s l1) s l1 acc.1 acc.2.1 acc.2.2:=by
    have h:=GX Va.out n
    rw[List.take_of_length_le (by omega)]at h
    rw[Ah];unfold ml;rw[List.take_of_length_le (by omega)];exact h
   have hpf:=Rp Va.out NF
   have cH:acc.2.1≠[]:=fun e=>by
    have h:=NF.outs
    rw[e,Va.out.out]at h
    exact Tf.out h.symm
   have Uf:acc.2.1.length≤12:=by
    have h1:=NF.keys.length_le
    rw[List.length_map,List.length_map]at h1
    omega
   have Th:=cf Fs
   have XW:Hid (acc.2.1.length≤L0):=cf (by
    have h1:=NF.keys.length_le
    rw[List.length_map,List.length_map]at h1
    have:=HLn.out
    omega)
   have HCA:Hid (jF acc.1):=cf (by rw[Ah];exact S4 HCm.out _ _)
   have as0:=cf Ah;have HPF:=cf hpf;have U0:=cf cH;have HLA:=cf Uf
   clear Ah NF hpf cH Uf
   go_loopw[18,4] (fun i b wr=>(i=G 0∧b=.bool false∧wr=w1)∨(i=G 1∧b=.bool acc.2.2∧aY (GB gr bk al df nm cm gb) wz wr∧∃(eK n' c':Nat) (T':Option Addr) (oU:Nat),Gr wr gr bk al df nm ob cm om Pp pc eK n' c' T' oU acc.1 acc.2.1 ret1∧(eK=gb∨wz.heap.size≤eK))) (fun i b _=>1-(intOf i).toNat)
   case atStart=>exact .inl ⟨rfl,rfl,rfl⟩
   case round=>
    rcases hrel with⟨rfl,rfl,rfl⟩|⟨rfl,rfl,ac3,hG2⟩
    ·have b1:wr.cell? ⟨bk,1,none⟩=some (.slice (ad gb) n c):=Yc G1.out.b
     go_wp2_with fail
     obtain⟨w1,rfl⟩:∃u,u=wr:=⟨_,rfl⟩
     obtain⟨S1,Bm⟩:∃S1,w1.heap.size=S1:=⟨_,rfl⟩
     go_loopw[27,7,4] (fun i v b wx=>∃q:Nat,i=G q∧q≤n∧b=.bool (ml s l1 q).2.2∧PW w1 wx S1 gr bk al df nm ob cm om s l1 q v) (fun i _ _ _=>n-(intOf i).toNat)
     case atStart=>exact⟨0,rfl,by omega,rfl,aY.refl _ _,G1.out.core,Own.nil _ _ _ _⟩
     case round=>
      obtain⟨wv,rfl⟩:∃u,u=wr:=⟨_,rfl⟩
      obtain⟨q,rfl,hq,rfl,hP⟩:=hrel
      have gv:=G1.out.VE hP.c hP.g
      by_cases bw:q<n
      ·have bN:(q:Int)<(n:Int):=by omega
       have nu:(0:Int)≤(q:Int):=by omega
       have mI:(q:Int)≤12:=by omega
       obtain⟨o,ho⟩:∃o,l1[q]?=some o:=⟨_,List.getElem?_eq_getElem (by omega)⟩
       have iA:=List.mem_of_getElem? ho
       have NF:=GX Va.out q
       have hF:=(Va.out.form o iA).ext NF.ext
       have nv:=KO (s:=s) ho
       have dQ:(ml s l1 q).1.next≤1000000:=by
        have h1:=NF.fl
        have h2:=Va.out.fl
        have h3:=HN.out
        have h4:kG (aA s.nm) (l1.take q)≤kG (aA s.nm) l1:=by
         have e:=Ee (aA s.nm) (l1.take q) (l1.drop q)
         rw[List.take_append_drop]at e
         omega
        show((l1.take q).foldl dR (s,[],false)).1.next≤1000000
        omega
       have bB:cB M (ml s l1 q).1:=NF.ok
       have hF':Form (ml s l1 q).1 o:=hF
       have Wz:(ml s l1 q).2.1.length≤12:=by
        have h1:=NF.keys.length_le
        rw[List.length_map,List.length_map,List.length_take]at h1
        show((l1.take q).foldl dR (s,[],false)).2.1.length≤12
        omega
       clear NF hF
       obtain⟨ac,oV⟩:∃ac,ac=ml s l1 q:=⟨_,rfl⟩
       rw[←oV]at dQ bB hF' nv gv⊢
       have hP2:aY [gr,al,df,nm,cm] w1 wv∧Gc wv gr bk al df nm ob cm om ac.1∧Own wv S1 67 6 u7 ac.2.1.length (rowOf ac.2.1):=by rw[oV];exact⟨hP.c,hP.g,hP.o⟩
       have CH:=gv.ops
       obtain⟨Ft,yq,Sm,cs,hg,eR⟩:=CH
       obtain⟨k0,k1,k2,k3,k4,k5⟩:=eR q o ho
       obtain⟨c0,c1,c2,c3,c4,c5⟩:=iw hg k0 k1 k2 k3 k4 k5
       obtain⟨S2,jq⟩:∃S2,wv.heap.size=S2:=⟨_,rfl⟩
       obtain⟨a9,s9,u9⟩:=av (OC o) jq
       have l9:ak wv.heap.size wv (wv.alloc (OC o)):=F0
       have HGV:=cf gv;have dA:=cf bB;have HF':=cf hF';have yP:=cf nv;have HP2:=cf hP2;have HO:=cf ho;have UZ:=cf dQ;have HAC:=cf oV;have XX:Hid (ac.2.1.length≤12):=cf (by rw[oV];exact Wz);have HB1:Hid (gr<S1∧al<S1∧df<S1∧nm<S1∧ob<S1∧cm<S1∧om<S1):=cf (by rw[←Bm];exact G1.out.core.bounds)
       clear gv bB hF' nv hP2 ho dQ oV eR iA hP k0 k1 k2 k3 k4 k5 u9 hg
       go_upto_region 13 with fail
       clear c0 c1 c2 c3 c4 c5 b1 x1 x1' bN nu
       generalize wv.alloc (OC o)=wa at a9 s9 l9⊢
       obtain⟨x0,x1,x2,x3,x4,x5⟩:=aC a9
       have ga1:=HGV.out.core.low l9
       obtain⟨o1,CK⟩:∃o1,o1=bO ac.1 o:=⟨_,rfl⟩
       have jn:=sE wa gr al ac.1 o (Yc ga1.g) ga1.iv dA.out.flat HF'.out.uy
       rw[←CK]at jn
       unfold aE.val at jn
       have oL:Form ac.1 o1:=by rw[CK];exact Ch dA.out HF'.out
       have nr:=fun wx (lx:ak wa.heap.size wa wx)=>Mr wx gr bk al df nm ob cm om ac.1 o1 (ga1.low lx) dA.out UZ.out oL
       have YP:=cf ga1;have A9:=cf a9;have L9:=cf l9;have HO1:=cf CK
       clear ga1 a9 l9 CK oL
       go_upto_region 14 with(first
        |(go_at_call 85;(with_reducible refine jn.mono ?_);rintro e w4 ⟨v4,rfl,rfl,l4⟩;have Qo:=nr w4 l4)
        |(go_at_call 89;(with_reducible refine Qo.mono ?_);rintro e w5 ⟨o',v,s',rfl,Ny,c5',g5⟩;have C5:=cf ((aY.bD l4).trans c5');have G5:=cf g5;have HRO:=cf Ny;clear c5' g5 Ny l4 Qo;have YS:=ao w5 (.cells #[G o'.code,G o'.res,G o'.a,G o'.b,.int .u16 o'.n,Zs] 67)))
       have JM:S2∉[gr,nm,cm]:=by
        simp only[List.mem_cons,List.not_mem_nil,or_false,not_or]
        exact⟨bT A9.out YP.out.g (by decide),bm A9.out YP.out.fD.isMap,bm A9.out YP.out.ig.isMap⟩
       have y9:=ir (.cells #[G o'.code,G o'.res,G o'.a,G o'.b,.int .u16 o'.n,Zs] 67) (C5.out.obj A9.out JM)
       have c6:aY [gr,al,df,nm,cm] w1 (w5.alloc (.cells #[G o'.code,G o'.res,G o'.a,G o'.b,.int .u16 o'.n,Zs] 67)):=((HP2.out.1.trans (aY.bD L9.out)).trans (C5.out.more (by simp))).trans (aY.alloc _ _)
       have g6:=G5.out.low ((ak.refl _ w5).alloc (Nat.le_refl _) (.cells #[G o'.code,G o'.res,G o'.a,G o'.b,.int .u16 o'.n,Zs] 67))
       have o6:Own (w5.alloc (.cells #[G o'.code,G o'.res,G o'.a,G o'.b,.int .u16 o'.n,Zs] 67)) S1 67 6 u7 ac.2.1.length (rowOf ac.2.1):=((HP2.out.2.2.low L9.out).cG C5.out (fun g cs hg=>by
        simp only[List.mem_cons,List.not_mem_nil,or_false,not_or]
        exact⟨bT hg YP.out.g (by decide),bm hg YP.out.fD.isMap,bm hg YP.out.ig.isMap⟩)).low ((ak.refl _ w5).alloc (Nat.le_refl _) _)
       have Fu:S2<w5.heap.size:=Nat.lt_of_lt_of_le (aB A9.out) C5.out.size
       have jX:=Q7 (o:=o) (acc:=ac) dA.out (Ch dA.out HF'.out) (by rw[←HO1.out];exact HRO.out)
       clear x0 x1 x2 x3 x4 x5 jn nr JM
       generalize w5.heap.size=S3 at YS Fu⊢
       generalize w5.alloc (.cells #[G o'.code,G o'.res,G o'.a,G o'.b,.int .u16 o'.n,Zs] 67)=w6 at y9 YS c6 g6 o6⊢
       obtain⟨x0,x1,x2,x3,x4,x5⟩:=aC y9
       have y0:=aC YS
       have Y9:=cf y9;have Z10:=cf YS;have C6:=cf c6;have G6:=cf g6;have O6:=cf o6
       clear y9 YS c6 g6 o6 Fu
       rcases jX with⟨hv,gR⟩|⟨mq,gR⟩
       ·have vS:=cf gR
        clear gR
        go_upto_region 15 with fail
        clear hv y0
        have gd:=G6.out.low (ak.refl w6.heap.size w6).drew
        obtain⟨w8,Ns,c8,g8⟩:=gd.Mz o.res v
        have bj:w6.drew.heap[S2]?=some (OC o):=Y9.out
        have yz:=c8.obj bj (by simp only[List.mem_singleton];exact bm bj gd.iv.isMap)
        have jz:Hid (PW w1 w8 S1 gr bk al df nm ob cm om s l1 (q+1) u7):=cf (by
         have e:ml s l1 (q+1)=(s'.alias o.res v,ac.2.1,true):=yP.out.trans vS.out
         refine⟨(C6.out.drew).trans (c8.more (by simp)),by rw[e];exact g8,?_⟩
         rw[e]
         exact(O6.out.low (ak.refl w6.heap.size w6).drew).cG c8 (fun g cs hg=>by simp only[List.mem_singleton];exact bm hg gd.iv.isMap))
        have rT:w6.drew.cell? ⟨gr,2,none⟩=some (.map (some al))∧w6.drew.cell? ⟨S2,1,none⟩=some (G o.res):=⟨Yc gd.g,Yc bj⟩
        have Ai:w8.cell? ⟨gr,2,none⟩=some (.map (some al))∧w8.cell? ⟨S2,1,none⟩=some (G o.res):=⟨Yc g8.g,Yc yz⟩
        clear gd c8 g8 bj yz x0 x1 x2 x3 x4 x5
        refine wp_region_noPanic ?_
        refine wp_region_held_drew (S:=fun w'=>w'.cell? ⟨gr,2,none⟩=some (.map (some al))∧w'.cell? ⟨S2,1,none⟩=some (G o.res)) (by kernel_rfl) (by exact rT) (fun af=>?_)
        clear rT
        generalize w6.drew=wd at af Ns⊢
        refine tk 0 af ?_
        refine tk 1 af ?_
        refine tk 2 af ?_
        refine tk 3 af ?_
        refine tk 4 af ?_
        refine tk 5 af ?_
        refine tk 6 af ?_
        refine aG 7 fun KK aI=>?_
        go_simp
        refine aI.out _ _ (by exact Ai) (fun af=>?_)
        clear aI KK
        (try simp only[Act.put,bh])
        clear Ai af Ns
        refine wpAnyH_done (by kernel_rfl) ?_ _
        refine NoPanic.normal ?_
        (try go_wp2_with fail)
        exact⟨⟨q+1,rfl,bw,by rw[yP.out,vS.out],jz.out⟩,by show n-((q:Int)+1).toNat<n-((q:Int)).toNat;omega⟩
       ·subst mq
        have vS:=cf gR
        clear gR
        have qy:=ED w6 o' o
        by_cases Se:o'=o
        ·have hd:decide (o'=o)=true:=by rw[Se];simp
         rw[hd]at qy
         have HSO:=cf Se
         clear Se hd
         go_upto_region 19 with(first
          |(go_at_call 91;(with_reducible refine qy.mono ?_);rintro e w7 ⟨rfl,l7⟩;have z7:=l7.some Z10.out;have C7:=cf (C6.out.trans (aY.bD l7));have G7:=cf (G6.out.low l7);have O7:=cf (O6.out.low l7);clear l7 x0 x1 x2 x3 x4 x5 y0))
         have y0:=aC z7
         go_upto_if 57 with fail
         have Z7:=cf z7
         clear z7 qy
         go_cut[] (fun w8=>w8.heap[S3]?=some (.cells #[G o'.code,G o'.res,G o'.a,G o'.b,.int .u16 o'.n,Zs] 67 (0,0))∧aY [gr,al,df,nm,cm] w1 w8∧Gc w8 gr bk al df nm ob cm om (s'.defs o')∧Own w8 S1 67 6 u7 ac.2.1.length (rowOf ac.2.1))
         case first=>
          by_cases fX:0≤o'.res
          ·have NB:(0:Int)≤o'.res:=fX
           have qF:s'.defs o'={s' with df:=dj s'.df o'.res o'}:=by unfold St.defs;rw[if_pos fX]
           have Gy:=cf qF
           clear qF
           have gd:=G7.out.low (ak.refl w7.heap.size w7).drew
           obtain⟨w8,Ns,c8,g8⟩:=gd.My o'
           have bj:w7.drew.heap[S3]?=some (.cells #[G o'.code,G o'.res,G o'.a,G o'.b,.int .u16 o'.n,Zs] 67 (0,0)):=Z7.out
           have yz:=c8.obj bj (by simp only[List.mem_singleton];exact bm bj gd.iO.isMap)
           have Vb:Hid (w8.heap[S3]?=some (.cells #[G o'.code,G o'.res,G o'.a,G o'.b,.int .u16 o'.n,Zs] 67 (0,0))∧aY [gr,al,df,nm,cm] w1 w8∧Gc w8 gr bk al df nm ob cm om (s'.defs o')∧Own w8 S1 67 6 u7 ac.2.1.length (rowOf ac.2.1)):=cf ⟨yz,(C7.out.drew).trans (c8.more (by simp)),by rw[Gy.out];exact g8,(O7.out.low (ak.refl w7.heap.size w7).drew).cG c8 (fun g cs hg=>by simp only[List.mem_singleton];exact bm hg gd.iO.isMap)⟩
           have rT:w7.drew.cell? ⟨gr,3,none⟩=some (.map (some df))∧w7.drew.cell? ⟨S3,0,none⟩=some (G o'.code)∧w7.drew.cell? ⟨S3,1,none⟩=some (G o'.res)∧w7.drew.cell? ⟨S3,2,none⟩=some (G o'.a)∧w7.drew.cell? ⟨S3,3,none⟩=some (G o'.b)∧w7.drew.cell? ⟨S3,4,none⟩=some (.int .u16 o'.n)∧w7.drew.cell? ⟨S3,5,none⟩=some Zs:=⟨Yc gd.g,Yc bj,Yc bj,Yc bj,Yc bj,Yc bj,Yc bj⟩
           have Ai:w8.cell? ⟨gr,3,none⟩=some (.map (some df))∧w8.cell? ⟨S3,0,none⟩=some (G o'.code)∧w8.cell? ⟨S3,1,none⟩=some (G o'.res)∧w8.cell? ⟨S3,2,none⟩=some (G o'.a)∧w8.cell? ⟨S3,3,none⟩=some (G o'.b)∧w8.cell? ⟨S3,4,none⟩=some (.int .u16 o'.n)∧w8.cell? ⟨S3,5,none⟩=some Zs:=⟨Yc (Vb.out.2.2.1).g,Yc yz,Yc yz,Yc yz,Yc yz,Yc yz,Yc yz⟩
           clear gd c8 g8 bj yz y0
           go_upto_region 20 with fail
           clear fX NB
           refine wp_region_noPanic ?_
           refine wp_region_held_drew (S:=fun w'=>w'.cell? ⟨gr,3,none⟩=some (.map (some df))∧w'.cell? ⟨S3,0,none⟩=some (G o'.code)∧w'.cell? ⟨S3,1,none⟩=some (G o'.res)∧w'.cell? ⟨S3,2,none⟩=some (G o'.a)∧w'.cell? ⟨S3,3,none⟩=some (G o'.b)∧w'.cell? ⟨S3,4,none⟩=some (.int .u16 o'.n)∧w'.cell? ⟨S3,5,none⟩=some Zs) (by kernel_rfl) (by exact rT) (fun af=>?_)
           clear rT
           generalize w7.drew=wd at af Ns⊢
           refine tk 0 af ?_
           refine tk 1 af ?_
           refine tk 2 af ?_
           refine tk 3 af ?_
           refine tk 4 af ?_
           refine tk 5 af ?_
           refine tk 6 af ?_
           refine aG 7 fun KK aI=>?_
           go_simp
           refine aI.out _ _ (by exact Ai) (fun af=>?_)
           clear aI KK
           (try simp only[Act.put,bh])
           clear Ai af Ns
           refine wpAnyH_done (by kernel_rfl) ?_ _
           refine NoPanic.normal ?_
           (try go_wp2_with fail)
           go_meet
           exact Vb.out
          ·have aa0:¬(0:Int)≤o'.res:=fX
           have qF:s'.defs o'=s':=by unfold St.defs;rw[if_neg fX]
           have Gy:=cf qF
           clear qF fX
           go_wp2_with fail
           go_meet
           exact⟨Z7.out,C7.out,by rw[Gy.out];exact G7.out,O7.out⟩
         case rest=>
          obtain⟨z8,Oe,aJ,wN⟩:=hcut
          obtain⟨w8,rfl⟩:∃u,u=wc:=⟨_,rfl⟩
          have y0:=aC z8
          have CB:=wN.low ((ak.refl _ w8).alloc (Nat.le_refl _) (.cells #[G o'.code,G o'.res,G o'.a,G o'.b,.int .u16 o'.n,Zs] 67))
          have W4:S1≤w8.heap.size:=by have h1:=Oe.size;omega
          have HC8:=cf Oe;have HG8:=cf aJ;have HOA:=cf CB
          have hlen:ac.2.1.length≤12:=by have h:=XX.out;omega
          clear Oe aJ wN CB z8
          go_upto_region 22 with(first
           |(at_builtin;refine mN (w:=w8.alloc (.cells #[G o'.code,G o'.res,G o'.a,G o'.b,.int .u16 o'.n,Zs] 67)) (P:=Tryz.prog) (base:=S1) (n:=ac.2.1.length) (m:=1) (xs:=rowOf ac.2.1) DF rfl (.tmp 65) (.tmp 67) rfl rfl HOA.out rfl (ao w8 _) rfl (by simp[Value.oneCell']) (by omega) (by simp;omega) ?_;intro v9 w9 kE;have X2:=cf kE;clear kE))
          have kE:=X2.out
          have JT:ak S1 w8 w9:=((ak.refl S1 w8).alloc W4 _).trans (kE.low HOA.out (Nat.le_refl _) (by simp;omega))
          have NU:=HG8.out
          have aH:PW w1 w9 S1 gr bk al df nm ob cm om s l1 (q+1) v9:=by
           have e:ml s l1 (q+1)=(s'.defs o',ac.2.1++[o'],ac.2.2||decide (o'≠o)):=yP.out.trans vS.out
           refine⟨HC8.out.tail (by rw[Bm];exact JT),?_,?_⟩
           ·rw[e]
            have hk:=HC8.out
            have uU:∀b,b<S1→w9.heap[b]?=w8.heap[b]?:=fun b hb=>JT.block b hb
            exact NU.below uU (HB1.out)
           ·rw[e]
            have h1:=kE.own
            show Own w9 S1 67 6 v9 (ac.2.1++[o']).length (rowOf (ac.2.1++[o']))
            rw[lN,List.length_append,List.length_singleton]
            exact h1
          have jz:=cf aH
          clear kE JT NU aH
          go_wp2_with fail
          exact⟨⟨q+1,rfl,bw,by rw[yP.out,vS.out];simp[HSO.out,HAC.out],jz.out⟩,by show n-((q:Int)+1).toNat<n-((q:Int)).toNat;omega⟩
        ·have hd:decide (o'=o)=false:=by simp[Se]
         rw[hd]at qy
         have HSO:=cf Se
         clear Se hd
         go_upto_region 19 with(first
          |(go_at_call 91;(with_reducible refine qy.mono ?_);rintro e w7 ⟨rfl,l7⟩;have z7:=l7.some Z10.out;have C7:=cf (C6.out.trans (aY.bD l7));have G7:=cf (G6.out.low l7);have O7:=cf (O6.out.low l7);clear l7 x0 x1 x2 x3 x4 x5 y0))
         have y0:=aC z7
         go_upto_if 57 with fail
         have Z7:=cf z7
         clear z7 qy
         go_cut[] (fun w8=>w8.heap[S3]?=some (.cells #[G o'.code,G o'.res,G o'.a,G o'.b,.int .u16 o'.n,Zs] 67 (0,0))∧aY [gr,al,df,nm,cm] w1 w8∧Gc w8 gr bk al df nm ob cm om (s'.defs o')∧Own w8 S1 67 6 u7 ac.2.1.length (rowOf ac.2.1))
         case first=>
          by_cases fX:0≤o'.res
          ·have NB:(0:Int)≤o'.res:=fX
           have qF:s'.defs o'={s' with df:=dj s'.df o'.res o'}:=by unfold St.defs;rw[if_pos fX]
           have Gy:=cf qF
           clear qF
           have gd:=G7.out.low (ak.refl w7.heap.size w7).drew
           obtain⟨w8,Ns,c8,g8⟩:=gd.My o'
           have bj:w7.drew.heap[S3]?=some (.cells #[G o'.code,G o'.res,G o'.a,G o'.b,.int .u16 o'.n,Zs] 67 (0,0)):=Z7.out
           have yz:=c8.obj bj (by simp only[List.mem_singleton];exact bm bj gd.iO.isMap)
           have Vb:Hid (w8.heap[S3]?=some (.cells #[G o'.code,G o'.res,G o'.a,G o'.b,.int .u16 o'.n,Zs] 67 (0,0))∧aY [gr,al,df,nm,cm] w1 w8∧Gc w8 gr bk al df nm ob cm om (s'.defs o')∧Own w8 S1 67 6 u7 ac.2.1.length (rowOf ac.2.1)):=cf ⟨yz,(C7.out.drew).trans (c8.more (by simp)),by rw[Gy.out];exact g8,(O7.out.low (ak.refl w7.heap.size w7).drew).cG c8 (fun g cs hg=>by simp only[List.mem_singleton];exact bm hg gd.iO.isMap)⟩
           have rT:w7.drew.cell? ⟨gr,3,none⟩=some (.map (some df))∧w7.drew.cell? ⟨S3,0,none⟩=some (G o'.code)∧w7.drew.cell? ⟨S3,1,none⟩=some (G o'.res)∧w7.drew.cell? ⟨S3,2,none⟩=some (G o'.a)∧w7.drew.cell? ⟨S3,3,none⟩=some (G o'.b)∧w7.drew.cell? ⟨S3,4,none⟩=some (.int .u16 o'.n)∧w7.drew.cell? ⟨S3,5,none⟩=some Zs:=⟨Yc gd.g,Yc bj,Yc bj,Yc bj,Yc bj,Yc bj,Yc bj⟩
           have Ai:w8.cell? ⟨gr,3,none⟩=some (.map (some df))∧w8.cell? ⟨S3,0,none⟩=some (G o'.code)∧w8.cell? ⟨S3,1,none⟩=some (G o'.res)∧w8.cell? ⟨S3,2,none⟩=some (G o'.a)∧w8.cell? ⟨S3,3,none⟩=some (G o'.b)∧w8.cell? ⟨S3,4,none⟩=some (.int .u16 o'.n)∧w8.cell? ⟨S3,5,none⟩=some Zs:=⟨Yc (Vb.out.2.2.1).g,Yc yz,Yc yz,Yc yz,Yc yz,Yc yz,Yc yz⟩
           clear gd c8 g8 bj yz y0
           go_upto_region 20 with fail
           clear fX NB
           refine wp_region_noPanic ?_
           refine wp_region_held_drew (S:=fun w'=>w'.cell? ⟨gr,3,none⟩=some (.map (some df))∧w'.cell? ⟨S3,0,none⟩=some (G o'.code)∧w'.cell? ⟨S3,1,none⟩=some (G o'.res)∧w'.cell? ⟨S3,2,none⟩=some (G o'.a)∧w'.cell? ⟨S3,3,none⟩=some (G o'.b)∧w'.cell? ⟨S3,4,none⟩=some (.int .u16 o'.n)∧w'.cell? ⟨S3,5,none⟩=some Zs) (by kernel_rfl) (by exact rT) (fun af=>?_)
           clear rT
           generalize w7.drew=wd at af Ns⊢
           refine tk 0 af ?_
           refine tk 1 af ?_
           refine tk 2 af ?_
           refine tk 3 af ?_
           refine tk 4 af ?_
           refine tk 5 af ?_
           refine tk 6 af ?_
           refine aG 7 fun KK aI=>?_
           go_simp
           refine aI.out _ _ (by exact Ai) (fun af=>?_)
           clear aI KK
           (try simp only[Act.put,bh])
           clear Ai af Ns
           refine wpAnyH_done (by kernel_rfl) ?_ _
           refine NoPanic.normal ?_
           (try go_wp2_with fail)
           go_meet
           exact Vb.out
          ·have aa0:¬(0:Int)≤o'.res:=fX
           have qF:s'.defs o'=s':=by unfold St.defs;rw[if_neg fX]
           have Gy:=cf qF
           clear qF fX
           go_wp2_with fail
           go_meet
           exact⟨Z7.out,C7.out,by rw[Gy.out];exact G7.out,O7.out⟩
         case rest=>
          obtain⟨z8,Oe,aJ,wN⟩:=hcut
          obtain⟨w8,rfl⟩:∃u,u=wc:=⟨_,rfl⟩
          have y0:=aC z8
          have CB:=wN.low ((ak.refl _ w8).alloc (Nat.le_refl _) (.cells #[G o'.code,G o'.res,G o'.a,G o'.b,.int .u16 o'.n,Zs] 67))
          have W4:S1≤w8.heap.size:=by have h1:=Oe.size;omega
          have HC8:=cf Oe;have HG8:=cf aJ;have HOA:=cf CB
          have hlen:ac.2.1.length≤12:=by have h:=XX.out;omega
          clear Oe aJ wN CB z8
          go_upto_region 22 with(first
           |(at_builtin;refine mN (w:=w8.alloc (.cells #[G o'.code,G o'.res,G o'.a,G o'.b,.int .u16 o'.n,Zs] 67)) (P:=Tryz.prog) (base:=S1) (n:=ac.2.1.length) (m:=1) (xs:=rowOf ac.2.1) DF rfl (.tmp 65) (.tmp 67) rfl rfl HOA.out rfl (ao w8 _) rfl (by simp[Value.oneCell']) (by omega) (by simp;omega) ?_;intro v9 w9 kE;have X2:=cf kE;clear kE))
          have kE:=X2.out
          have JT:ak S1 w8 w9:=((ak.refl S1 w8).alloc W4 _).trans (kE.low HOA.out (Nat.le_refl _) (by simp;omega))
          have NU:=HG8.out
          have aH:PW w1 w9 S1 gr bk al df nm ob cm om s l1 (q+1) v9:=by
           have e:ml s l1 (q+1)=(s'.defs o',ac.2.1++[o'],ac.2.2||decide (o'≠o)):=yP.out.trans vS.out
           refine⟨HC8.out.tail (by rw[Bm];exact JT),?_,?_⟩
           ·rw[e]
            have hk:=HC8.out
            have uU:∀b,b<S1→w9.heap[b]?=w8.heap[b]?:=fun b hb=>JT.block b hb
            exact NU.below uU (HB1.out)
           ·rw[e]
            have h1:=kE.own
            show Own w9 S1 67 6 v9 (ac.2.1++[o']).length (rowOf (ac.2.1++[o']))
            rw[lN,List.length_append,List.length_singleton]
            exact h1
          have jz:=cf aH
          clear kE JT NU aH
          go_wp2_with fail
          exact⟨⟨q+1,rfl,bw,by rw[yP.out,vS.out];simp[HSO.out],jz.out⟩,by show n-((q:Int)+1).toNat<n-((q:Int)).toNat;omega⟩
      ·have bN:¬(q:Int)<(n:Int):=by omega
       have mI:q=n:=by omega
       subst mI
       have Ah:=as0.out
       have hO:Own wv S1 67 6 u7 acc.2.1.length (rowOf acc.2.1):=by rw[Ah];exact hP.o
       rw[←Ah]at gv
       obtain⟨g2,c2,rfl,Bk,CH⟩:=dU.uz hO U0.out
       have b7:=jw gv.b
       have f7:wv.frozen? ⟨bk,1,none⟩=false:=au gv.b
       have aH:=gv.Mk CH HLA.out
       have Qw:aY (GB gr bk al df nm cm gb) wz (wv.setCell ⟨bk,1,none⟩ (.slice (ad g2) acc.2.1.length c2)):=((C1.out.more (by simp[GB])).trans (hP.c.more (by simp[GB]))).trans (aY.setCell _ (by simp[GB]) _)
       have cC:wz.heap.size≤g2:=by have h1:=C1.out.size;omega
       have HF:=cf aH;have HC:=cf Qw;have HS:=cf cC;have HA:=cf Ah
       clear aH Qw hO gv CH b1 x1 x1' hP Bk cC Ah
       go_wp2_with fail
       exact⟨.inr ⟨rfl,by rw[HA.out],HC.out,_,_,_,_,_,HF.out,.inr HS.out⟩,by decide⟩
    ·obtain⟨eK,n',c',T',oU,wk,HJ⟩:=hG2
     have hpf:=HPF.out
     obtain⟨CO,bw,ZX⟩:=hpf
     have hcw:aY (GB gr bk al df nm cm ga) w wr:=HCH.out.fresh ac3 HGB.out
     have hgw:eK=ga∨w.heap.size≤eK:=by
      have h1:=HCH.out.size
      rcases HJ with rfl|h2
      ·exact HGB.out
      ·exact .inr (by omega)
     have Yr:=HMU.out
     have FA:NR→acc.2.2=false:=fun hn=>by
      have h0:=hmz.out hn
      cases e:acc.2.2 with
      |false=>rfl
      |true=>have:=bw e;omega
     have Hv:(acc.2.2=true∧∃k,QE L0 M T0 outs rv N gr bk al df nm ob cm om Pp pc w.heap.size ga wr k∧(NR→k=0))∨(acc.2.2=false∧∃(eK n' c':Nat) (T':Option Addr) (oU:Nat) (s':St) (l':List aE) (eS:Int),Gr wr gr bk al df nm ob cm om Pp pc eK n' c' T' oU s' l' eS∧FR M T0 outs rv N s' l' eS∧(∀o∈l',wt (aA s'.nm) o=0)∧(eK=ga∨w.heap.size≤eK)∧l'.length≤L0∧jF s'):=by
      cases e:acc.2.2 with
      |true=>exact .inl ⟨rfl,_,⟨_,_,_,_,_,_,_,_,wk,CO,hgw,rfl,XW.out,HCA.out⟩,fun hn=>by rw[FA hn]at e;cases e⟩
      |false=>
       obtain⟨e1,e2,e3⟩:=ZX e
       rw[e1]at wk
       exact .inr ⟨rfl,_,_,_,_,_,_,_,_,wk,e2,e3,hgw,by rw[Th.out];exact HLn.out,HCA.out⟩
     have Ue:oz (QE L0 M T0 outs rv N gr bk al df nm ob cm om Pp pc w.heap.size ga) (.bool acc.2.2) wr<oz (QE L0 M T0 outs rv N gr bk al df nm ob cm om Pp pc w.heap.size ga) (.bool true) wz:=by
      rw[Hz.out]
      cases e:acc.2.2 with
      |false=>show 0<1+mu;omega
      |true=>
       have h1:=bw e
       have hw:QE L0 M T0 outs rv N gr bk al df nm ob cm om Pp pc w.heap.size ga wr (kG (aA acc.1.nm) (acc.2.1.map (bO acc.1))):=⟨_,_,_,_,_,_,_,_,wk,CO,hgw,rfl,XW.out,HCA.out⟩
       have h2:=(jW hw).2
       show 1+lY _<1+mu
       omega
     have HLS:=cf Ue;have HR2:=cf Hv;have HF2:=cf FA;have HCW:=cf hcw
     clear Ue Hv FA hcw hgw bw ZX CO wk HJ Yr ac3
     go_wp2_with fail
     ·exact⟨⟨true,acc.2.2,rfl,rfl,HCW.out,fun hn=>by
       have h:=HX.out hn
       revert h
       first
        |exact id
        |simp[*],HR2.out⟩,HLS.out⟩
     ·exact⟨⟨acc.2.2,acc.2.2,rfl,rfl,HCW.out,HF2.out,HR2.out⟩,HLS.out⟩
  ·go_wp2_with fail
   go_ret
   obtain⟨eK,n',c',T',oU,s',l',eS,h1,h2,h3,h4,h5⟩:=n9
   exact⟨x,rfl,WN,hx,eK,n',c',T',oU,s',l',eS,h1,h2,h3,h4,h5⟩
end Go.Proofs.YtjkahfmdcpfjjaaGreat
