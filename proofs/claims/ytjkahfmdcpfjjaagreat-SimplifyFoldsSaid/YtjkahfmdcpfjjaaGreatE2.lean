/- A verified interpreter for calls on fixed data, part 2 of 5. -/
import Derived.Test.YtjkahfmdcpfjjaaGreatE1
set_option linter.unusedVariables false
set_option linter.unusedSectionVars false
namespace Go.Il
variable [Sym]
variable {l z:List AV} {v x:AV}
theorem aP.set {ρ:bL} {l':List Value} (h:aP ρ l l') (i:Nat) {v':Value} (hv:aL ρ v v'):aP ρ (l.set i v) (l'.set i v'):=by
 induction l generalizing l' i with
 |nil=>cases h;exact .nil
 |cons a l ih=>
  cases h with
  |cons _ _ _ _ hx hl=>cases i with
   |zero=>exact .cons _ _ _ _ hv hl
   |succ i=>exact .cons _ _ _ _ hx (ih hl i)
theorem BB {ρ:bL} (off:Nat):∀(vs:List AV) (ka:List Value) (k:Nat) (l:List AV) (arr:Array Value),aP ρ l arr.toList→aP ρ vs ka→
 aP ρ (lM l (off+k) vs) ((ka.zipIdx k).foldl (fun cs (p:Value×Nat)=>cs.setIfInBounds (off+p.2) p.1) arr).toList:=by
 intro vs
 induction vs with
 |nil=>intro ka k l arr hl hv;cases hv;exact hl
 |cons v vs ih=>
  intro ka k l arr hl hv
  cases hv with
  |cons _ v' _ ka hx gS=>
   simp only[lM,List.zipIdx_cons,List.foldl_cons]
   have:=ih ka (k+1) (l.set (off+k) v) (arr.setIfInBounds (off+k) v') (by rw[Array.toList_setIfInBounds];exact hl.set _ hx) gS
   rw[←Nat.add_assoc]at this
   exact this
theorem ud:∀(vs l:List AV) (k:Nat),(lM l k vs).length=l.length:=by
 intro vs
 induction vs with
 |nil=>intro l k;rfl
 |cons v vs ih=>intro l k;simp only[lM,ih,List.length_set]
inductive yO (ρ:bL):List (Nat×AV)→List (Nat×Value)→Prop where
 |nil:yO ρ [] []
 |cons (i:Nat) (v:AV) (v':Value) (l l') (h:aL ρ v v') (hl:yO ρ l l'):yO ρ ((i,v)::l) ((i,v')::l')
theorem vj {ρ:bL} {pA:Nat→Option (Nat×Nat)} {pR:Nat→Option (Nat×Nat)} (hp:∀i r,pA i=some r→pR i=some r):∀(ps:List (Nat×AV)) (ps':List (Nat×Value)) (l:List AV) (arr:Array Value) (l2:List AV),yO ρ ps ps'→aP ρ l arr.toList→oN pA l ps=some l2→
 ∃vF,Instr.fill pR arr ps'=some vF∧aP ρ l2 vF.toList:=by
 intro ps
 induction ps with
 |nil=>intro ps' l arr l2 h hl hf;cases h;cases hf;exact⟨arr,rfl,hl⟩
 |cons p ps ih=>
  intro ps' l arr l2 h hl hf
  cases h with
  |cons i v v' _ ps' hv T1=>
   simp only[oN]at hf
   split at hf
   ·rename_i off sz mr
    split at hf
    ·rename_i q1 q2
     have q1:=Nat.eq_of_beq_eq_true q1
     have q2:=Nat.le_of_ble_eq_true q2
     have hc:=hv.cells
     have hlen:=hc.length
     have aa9:=hl.length
     have ak5:=BB off v.cells v'.cells.toList 0 l arr hl hc
     obtain⟨vF,h1,h2⟩:=ih ps' (lM l off v.cells) (v'.cells.zipIdx.foldl (fun cs (c,j)=>cs.setIfInBounds (off+j) c) arr) l2 T1 (by
      have e:v'.cells.zipIdx.foldl (fun cs (p:Value×Nat)=>cs.setIfInBounds (off+p.2) p.1) arr=(v'.cells.toList.zipIdx 0).foldl (fun cs (p:Value×Nat)=>cs.setIfInBounds (off+p.2) p.1) arr:=by
       rw[←Array.foldl_toList,Array.toList_zipIdx]
      show aP ρ _ (v'.cells.zipIdx.foldl (fun cs (p:Value×Nat)=>cs.setIfInBounds (off+p.2) p.1) arr).toList
      rw[e]
      simpa using ak5) hf
     refine⟨vF,?_,h2⟩
     simp only[Instr.fill,hp _ _ mr]
     rw[if_neg]
     ·exact h1
     ·have e1:v'.cells.size=v.cells.length:=by rw[←Array.length_toList];exact hlen
      have e2:arr.size=l.length:=by rw[←Array.length_toList];exact aa9
      simp only[e1,e2,Bool.or_eq_true,decide_eq_true_eq,not_or]
      omega
    ·cases hf
   ·cases hf
theorem wX {P:Program} {w:World}:∀(fs:List Field),(fs.all fun f=>(dZ P f.type).isSome)=true→(fs.mapM fun f=>(do pure (f.offset,←sizeOf f.type):Sem (Nat×Nat))).run P w=.ok (fs.map fun f=>(f.offset,(dZ P f.type).getD 0)) w:=by
 intro fs
 induction fs with
 |nil=>intro _;rfl
 |cons f fs ih=>
  intro h
  simp only[List.all_cons,Bool.and_eq_true]at h
  obtain⟨n,hn⟩:=Option.isSome_iff_exists.1 h.1
  simp only[List.mapM_cons,Sem.run_bind,bC hn,Result.andThen_ok,Sem.run_pure,ih h.2,List.map_cons,hn,Option.getD_some]
section
variable {B : Nat → Prop} {ρ : bL} {st : St} {w : World} {P : Program} {e : Env} {a : Act}
theorem Io (ht:iD ρ e a.tmps):∀(xs:List (Nat×Operand)) (vs:List (Nat×AV)),QB e xs=some vs→yO ρ vs (xs.map fun(i,x)=>(i,a.eval x)):=by
 intro xs
 induction xs with
 |nil=>intro vs h;cases h;exact .nil
 |cons x xs ih=>
  obtain⟨i,x⟩:=x
  intro vs h
  rw[OR]at h
  split at h
  ·rename_i v1 v2 h1 h2;cases h;exact .cons _ _ _ _ _ (bo ht h1) (ih _ h2)
  ·cases h
theorem Am (ht:iD ρ e a.tmps) {x:Option Operand} {v:Option AV} (h:Xe e x=some v):AT ρ v (x.map a.eval):=by
 unfold Xe Dg at h
 cases x with
 |none=>cases h;exact .none
 |some x=>
  simp only[]at h
  rw[bp]at h
  split at h
  ·rename_i u hu;cases h;exact .some _ _ (bo ht hu)
  ·cases h
theorem Gg {t:TypeId} {ps:List (Nat×AV)} {ps':Array (Nat×Value)} (hp:yO ρ ps ps'.toList) (h:AF P t ps=some v):∃v',aL ρ v v'∧(Instr.build t ps').run P w=.ok v' w:=by
 unfold AF at h
 split at h
 ·rename_i z hz
  obtain⟨z',iK,mE⟩:=gL hz
  split at h
  ·rename_i fs hu
   split at h
   ·rename_i kx
    cases hf:oN (vk P fs) z.cells ps with
    |none=>simp[hf]at h
    |some l2=>
     simp[hf]at h;subst h
     have hm:(fs.mapM fun f=>(do pure (f.offset,←sizeOf f.type):Sem (Nat×Nat))).run P w=.ok (fs.map fun f=>(f.offset,(dZ P f.type).getD 0)) w:=by
      rw[Array.mapM_eq_mapM_toList]
      simp only[Sem.run_map,wX fs.toList kx,Result.andThen_ok]
      congr 1
      apply Array.ext'
      simp
     obtain⟨vF,h1,h2⟩:=vj (pR:=fun i=>(fs.map fun f=>(f.offset,(dZ P f.type).getD 0))[i]?) (fun i r hr=>by
      unfold vk at hr
      rw[Array.getElem?_map]
      cases CO:fs[i]? with
      |none=>rw[CO]at hr;cases hr
      |some f=>
       rw[CO]at hr
       simp only[Option.map_some]at hr⊢
       cases cC:dZ P f.type with
       |none=>simp[cC]at hr
       |some n=>simp[cC]at hr;simp[hr]) ps ps'.toList z.cells z'.cells l2 hp (iK ρ).cells hf
     refine⟨.agg vF,.agg _ _ h2,?_⟩
     simp only[Instr.build,Sem.run_bind,mE,Result.andThen_ok,run_underlying hu,hm,h1,Sem.run_pure]
   ·cases h
  ·rename_i n el hu
   split at h
   ·rename_i sz cC
    cases hf:oN (fun i=>some (i*sz,sz)) z.cells ps with
    |none=>simp[hf]at h
    |some l2=>
     simp[hf]at h;subst h
     obtain⟨vF,h1,h2⟩:=vj (pR:=fun i=>some (i*sz,sz)) (fun i r hr=>hr) ps ps'.toList z.cells z'.cells l2 hp (iK ρ).cells hf
     refine⟨.agg vF,.agg _ _ h2,?_⟩
     simp only[Instr.build,Sem.run_bind,mE,Result.andThen_ok,run_underlying hu,bC cC,h1,Sem.run_pure]
   ·cases h
  ·cases h
 ·cases h
theorem Cf {mx:Bool}:∀(l:List AV) (l':List Value) (x v:AV) (x':Value),aP ρ l l'→aL ρ x x'→jV mx x l=some v→
 ∃v',aL ρ v v'∧(l'.foldlM (if mx then Builtin.max2 else Builtin.min2) x').run P w=.ok v' w:=by
 intro l
 induction l with
 |nil=>
  intro l' x v x' hl hx h
  cases hl
  simp only[jV]at h
  cases h
  exact⟨x',hx,rfl⟩
 |cons y l ih=>
  intro l' x v x' hl hx h
  cases hl with
  |cons _ y' _ l' hy hl=>
   simp only[jV]at h
   split at h
   ·cases hx;cases hy
    rename_i k m k2 n
    obtain⟨v',h1,h2⟩:=ih l' _ v _ hl (.int k (uw mx m n)) h
    refine⟨v',h1,?_⟩
    simp only[List.foldlM_cons,Sem.run_bind]
    have:((if mx then Builtin.max2 else Builtin.min2) (.int k m) (.int k2 n)).run P w=.ok (.int k (uw mx m n)) w:=by
     cases mx
     ·show(pure (Value.int k (if n<m then n else m)):Sem Value).run P w=_
      simp only[Sem.run_pure,uw]
      by_cases hc:n<m<;>simp[hc]
     ·show(pure (Value.int k (if n>m then n else m)):Sem Value).run P w=_
      simp only[Sem.run_pure,uw]
      by_cases hc:n>m<;>simp[hc]
    rw[this]
    exact h2
   ·cases h
variable {o:Oper}
theorem Ha (hs:aV B ρ st w) (ht:iD ρ e a.tmps) (h:MK P st e o=some v):∃v',aL ρ v v'∧(execOp a.eval o).run P w=.ok (.value v') w:=by
 obtain⟨dst,op,type,pos,after,guard⟩:=o
 unfold MK km at h
 have fin:∀(s:Sem Value),(∃v',aL ρ v v'∧s.run P w=.ok v' w)→∃v',aL ρ v v'∧(do pure (.value (←s)):Sem Next).run P w=.ok (.value v') w:=by
  rintro s ⟨v',h1,h2⟩
  exact⟨v',h1,by simp only[Sem.run_bind,h2,Result.andThen_ok,Sem.run_pure]⟩
 cases op<;>simp only[]at h<;>(try(cases h;done))
 case move x=>exact⟨_,bo ht h,rfl⟩
 case assign x=>exact⟨_,bo ht h,rfl⟩
 case pick c x y=>
  rw[bp]at h
  split at h
  ·rename_i c0 hc
   have oh:=bo ht hc
   split at h
   ·cases fQ:a.eval c<;>rw[fQ]at oh<;>cases oh
    exact⟨_,bo ht h,by simp only[execOp,fQ,Sem.run_bind,asBool,Sem.run_pure,Result.andThen_ok,if_true]⟩
   ·cases fQ:a.eval c<;>rw[fQ]at oh<;>cases oh
    exact⟨_,bo ht h,by simp only[execOp,fQ,Sem.run_bind,asBool,Sem.run_pure,Result.andThen_ok,Bool.false_eq_true,if_false]⟩
   ·cases h
  ·cases h
 case build t parts=>
  rw[ie]at h
  split at h
  ·rename_i ps T1
   rw[tG]at h
   split at h
   ·rename_i r hr
    cases h
    have hp:=Io ht _ _ T1
    exact fin _ (Gg (ps':=parts.map fun(i,x)=>(i,a.eval x)) (by rw[Array.toList_map];exact hp) hr)
   ·cases h
  ·cases h
 case load t x=>
  rw[bp]at h
  split at h
  ·rename_i x0 hx
   have sH:=bo ht hx
   split at h
   ·rename_i id ep off
    rw[uJ]at h
    split at h
    ·rename_i r hr
     cases h
     cases qx:a.eval x<;>rw[qx]at sH<;>cases sH
     rename_i p hp hb
     obtain⟨v',h1,h2⟩:=hs.load (P:=P) hp hb hr
     exact fin _ ⟨v',h1,by simp only[Instr.loadAt,qx,Instr.sureAddr,Sem.run_bind,Sem.run_pure,Result.andThen_ok,h2]⟩
    ·cases h
   ·cases h
  ·cases h
 case nilCheck x=>
  rw[bp]at h
  split at h
  ·rename_i x0 hx
   have sH:=bo ht hx
   split at h<;>(try(cases h;done))<;>cases h
   all_goals
    cases qx:a.eval x<;>rw[qx]at sH<;>cases sH
    refine⟨_,by first|exact .ptr _ _ _ _ ‹_› ‹_›|exact .fn _ _ _ _ _ ‹_› ‹_›|exact .iface _ _ _ ‹_›|exact .map _ _ ‹_›|exact .slice _ _ _ _ _ _ _ _ _ _ ‹_› ‹_› ‹_› ‹_› ‹_› ‹_› ‹_›,by simp only[execOp,qx,Sem.run_pure]⟩
  ·cases h
 case binOp op t x y yt=>
  rw[bp]at h
  split at h
  ·rename_i x0 hx
   rw[bp]at h
   split at h
   ·rename_i y0 hy
    rw[iR]at h
    split at h
    ·rename_i r hr
     cases h
     exact fin _ (Pv hs (bo ht hx) (bo ht hy) hr)
    ·cases h
   ·cases h
  ·cases h
 case unOp op t x=>
  rw[bp]at h
  split at h
  ·rename_i x0 hx
   rw[iR]at h
   split at h
   ·rename_i r hr;cases h;exact fin _ (QT (bo ht hx) hr)
   ·cases h
  ·cases h
 case convert s t x=>
  rw[bp]at h
  split at h
  ·rename_i x0 hx
   rw[iR]at h
   split at h
   ·rename_i r hr;cases h;exact fin _ (KB (bo ht hx) hr)
   ·cases h
  ·cases h
 case makeInterface t x=>
  rw[bp]at h
  split at h
  ·rename_i x0 hx
   split at h
   ·cases h
   ·rename_i d hni hd
    cases h
    refine fin _ ⟨_,.iface _ _ _ (bo ht hx),?_⟩
    simp only[Instr.makeInterface,Sem.run_bind,run_underlying hd,Result.andThen_ok]
    cases d<;>first|rfl|(exact(hni _ rfl).elim)
   ·cases h
  ·cases h
 case makeFunc fn first captured=>
  cases fn<;>simp only[]at h<;>(try(cases h;done))
  rw[fw]at h
  split at h
  ·rename_i l1 h1
   rw[fw]at h
   split at h
   ·rename_i l2 h2
    cases h
    exact fin _ ⟨_,.fn _ _ _ _ _ (kP ht _ _ h1) (kP ht _ _ h2),rfl⟩
   ·cases h
  ·cases h
 case slice t x lo hi mx=>
  rw[bp]at h
  split at h
  ·rename_i x0 hx
   rw[qK]at h
   split at h
   ·rename_i lo0 JS
    rw[qK]at h
    split at h
    ·rename_i hi0 JW
     rw[qK]at h
     split at h
     ·rename_i mx0 K7
      rw[iR]at h
      split at h
      ·rename_i r hr;cases h;exact fin _ (Ev hs (bo ht hx) (Am ht JS) (Am ht JW) (Am ht K7) hr)
      ·cases h
     ·cases h
    ·cases h
   ·cases h
  ·cases h
 case fieldAddr t x f=>
  rw[bp]at h
  split at h
  ·rename_i x0 hx
   have sH:=bo ht hx
   split at h
   ·split at h
    ·rename_i fd Ld
     split at h
     ·rename_i n hn
      rw[bE]at h
      cases h
      cases qx:a.eval x<;>rw[qx]at sH<;>cases sH
      rename_i p hp hb
      refine fin _ ⟨_,.ptr _ _ _ p hp (by omega),?_⟩
      unfold Dc at Ld
      split at Ld
      ·rename_i fs hu
       simp only[Instr.fieldAt,qx,Instr.sureAddr,Sem.run_bind,run_underlying hu,Result.andThen_ok,Ld,Sem.run_pure,fieldPlace,bC hn]
       rw[if_neg (by omega)]
       simp only[Sem.run_pure,Result.andThen_ok,eD p _ _ hb]
      ·cases Ld
     ·cases h
    ·cases h
   ·cases h
  ·cases h
 case field t x f=>
  rw[bp]at h
  split at h
  ·rename_i x0 hx
   have sH:=bo ht hx
   split at h
   ·split at h
    ·rename_i fd Ld
     rw[tG]at h
     split at h
     ·rename_i r hr
      cases h
      cases qx:a.eval x<;>rw[qx]at sH<;>cases sH
      rename_i hl
      obtain⟨v',h1,h2⟩:=kJ hl hr
      refine fin _ ⟨v',h1,?_⟩
      unfold Dc at Ld
      split at Ld
      ·rename_i fs hu
       simp only[Instr.field,qx,asAgg,Sem.run_bind,run_underlying hu,Result.andThen_ok,Ld,Sem.run_pure,h2]
      ·cases Ld
     ·cases h
    ·cases h
   ·cases h
  ·cases h
 case indexAddr t x i=>
  rw[bp]at h
  split at h
  ·rename_i x0 hx
   have sH:=bo ht hx
   rw[bp]at h
   split at h
   ·rename_i i0 hi
    have WB:=bo ht hi
    split at h
    ·cases hiv:a.eval i<;>rw[hiv]at WB<;>cases WB
     split at h
     ·rename_i len el id ep off hu
      split at h
      ·rename_i j sz hj cC
       rw[bE]at h
       cases h
       obtain⟨rfl,bw⟩:=nS hj
       cases qx:a.eval x<;>rw[qx]at sH<;>cases sH
       rename_i p hp hb
       refine fin _ ⟨_,.ptr _ _ _ p hp (by omega),?_⟩
       simp only[Instr.indexAt,qx,hiv,asIntOf,Instr.sureAddr,Sem.run_bind,run_underlying hu,Result.andThen_ok,Sem.run_pure]
       rw[if_pos ⟨by omega,by omega⟩]
       simp only[Sem.run_bind,bC cC,Result.andThen_ok,Sem.run_pure,Int.toNat_natCast,eD p _ _ hb]
      ·cases h
     ·rename_i el id ep off len cap ex sz0 hu
      split at h
      ·rename_i j sz hj cC
       split at h
       ·rename_i hz
        have hz:=Nat.eq_of_beq_eq_true hz
        subst hz
        rw[bE]at h
        cases h
        obtain⟨rfl,bw⟩:=nS hj
        obtain⟨cY,o,p,qx,hp,hb,hc,he,hl,ho,Cy⟩:=sH.iX
        refine fin _ ⟨_,.ptr _ _ _ p hp (by omega),?_⟩
        have pH:=ho (by omega)
        subst pH
        simp only[Instr.indexAt,qx,hiv,asIntOf,Sem.run_bind,run_underlying hu,Result.andThen_ok,Sem.run_pure]
        rw[if_pos ⟨by omega,by omega⟩]
        simp only[Sem.run_bind,bC cC,Result.andThen_ok,Sem.run_pure,Int.toNat_natCast,eD p _ _ hb]
       ·cases h
      ·cases h
     ·cases h
    ·cases h
   ·cases h
  ·cases h
 case index t x i=>
  rw[bp]at h
  split at h
  ·rename_i x0 hx
   have sH:=bo ht hx
   rw[bp]at h
   split at h
   ·rename_i i0 hi
    have WB:=bo ht hi
    split at h
    ·cases hiv:a.eval i<;>rw[hiv]at WB<;>cases WB
     split at h
     ·rename_i len el l hu
      split at h
      ·rename_i j sz hj cC
       rw[tG]at h
       split at h
       ·rename_i r hr
        cases h
        obtain⟨rfl,bw⟩:=nS hj
        cases qx:a.eval x<;>rw[qx]at sH<;>cases sH
        rename_i hl
        obtain⟨v',h1,h2⟩:=kJ hl hr
        refine fin _ ⟨v',h1,?_⟩
        simp only[Instr.index,qx,hiv,asIntOf,Sem.run_bind,run_underlying hu,Result.andThen_ok,Sem.run_pure]
        rw[if_pos ⟨by omega,by omega⟩]
        simp only[Sem.run_bind,bC cC,Result.andThen_ok,Int.toNat_natCast,h2]
       ·cases h
      ·cases h
     ·rename_i s hu
      split at h
      ·rename_i j hj
       split at h
       ·rename_i b hb
        rw[iR]at h
        cases h
        obtain⟨rfl,bw⟩:=nS hj
        cases qx:a.eval x<;>rw[qx]at sH<;>cases sH
        rename_i s' Cy
        have cC:s'.size=s.length:=by rw[←Cy,List.length_map,Array.length_toList];rfl
        refine fin _ ⟨_,.int _ _,?_⟩
        simp only[Instr.index,qx,hiv,asIntOf,Sem.run_bind,run_underlying hu,Result.andThen_ok,Sem.run_pure]
        rw[if_pos (by omega)]
        have wo:s'[j]?=some (UInt8.ofNat b)∧(UInt8.ofNat b).toNat=b:=by
         rw[←Cy,List.getElem?_map]at hb
         cases yw:s'.data.toList[j]? with
         |none=>rw[yw]at hb;cases hb
         |some u=>
          rw[yw]at hb
          simp only[Option.map_some,Option.some.injEq]at hb
          subst hb
          refine⟨?_,by simp⟩
          have Fu:j<s'.size:=by omega
          have e1:s'[j]?=some s'[j]:=getElem?_pos s' j Fu
          have e2:s'.data.toList[j]?=some s'[j]:=by
           rw[Array.getElem?_toList]
           exact Array.getElem?_eq_getElem (xs:=s'.data) Fu
          rw[e2]at yw
          rw[e1,yw];simp
        simp only[Int.toNat_natCast,wo.1,Sem.run_pure,wo.2]
        rfl
       ·cases h
      ·cases h
     ·cases h
    ·cases h
   ·cases h
  ·cases h
 case lookup t x i ok=>
  rw[bp]at h
  split at h
  ·rename_i x0 hx
   rw[bp]at h
   split at h
   ·rename_i i0 hi
    split at h
    ·rename_i r hr
     cases h
     exact fin _ (Ju hs (bo ht hx) (bo ht hi) hr)
    ·cases h
   ·cases h
  ·cases h
 case extract x i=>
  rw[bp]at h
  split at h
  ·rename_i x0 hx
   have sH:=bo ht hx
   split at h
   ·split at h
    ·rename_i r hr
     cases h
     cases qx:a.eval x<;>rw[qx]at sH<;>cases sH
     rename_i hl
     obtain⟨v',h1,h2⟩:=hl.get hr
     refine fin _ ⟨v',h2,?_⟩
     rename_i arr
     have:arr[i]?=some v':=by simpa using h1
     simp only[Instr.extract,qx,this,Sem.run_pure]
    ·cases h
   ·cases h
  ·cases h
 case call c=>
  obtain⟨cl,args,oS⟩:=c
  cases cl<;>simp only[]at h<;>(try(cases h;done))
  rename_i b
  cases b<;>simp only[]at h<;>(try(cases h;done))
  ·split at h
   ·rename_i x t Ie htys
    rw[bp]at h
    split at h
    ·rename_i x0 hx
     split at h
     ·rename_i n hn
      rw[bE]at h
      cases h
      refine⟨_,.int _ _,?_⟩
      have WY:args= #[x]:=by apply Array.ext';simpa using Ie
      subst WY
      have:=Nf (ty:=type) hs (bo ht hx) htys hn
      simp only[execOp,resolve,Sem.run_bind,Sem.run_pure,Result.andThen_ok,invoke,builtin]
      have e:(#[x]:Array Operand).map a.eval= #[a.eval x]:=by simp
      rw[e,this];rfl
     ·cases h
    ·cases h
   ·cases h
  all_goals
   rw[fw]at h
   split at h
   ·rename_i l hl
    split at h
    ·rename_i x0 l0
     rw[iR]at h
     split at h
     ·rename_i r hr
      cases h
      have hrel:=kP ht _ _ hl
      cases DS:(args.map a.eval).toList with
      |nil=>rw[DS]at hrel;cases hrel
      |cons y ys=>
       rw[DS]at hrel
       cases hrel with
       |cons _ _ _ _ hy Zt=>
        obtain⟨v',h1,h2⟩:=Cf (P:=P) (w:=w) _ _ _ _ _ Zt hy hr
        refine⟨v',h1,?_⟩
        simp only[if_true,Bool.false_eq_true,if_false]at h2
        simp only[execOp,resolve,Sem.run_bind,Sem.run_pure,Result.andThen_ok,invoke,builtin,Builtin.max_,Builtin.min_,DS,h2]
     ·cases h
    ·cases h
   ·cases h
end
end Go.Il
namespace Go.Il
variable [Sym]
noncomputable def tQ:List AV→Nat→Tr db→Tr db
 |[],_,t=>t
 |v::vs,i,t=>tQ vs (i+1) (t.set i ⟨v,0⟩)
noncomputable def ot {β:Type}:List AV→Nat→Tr db→(Tr db→β)→β
 |[],_,t,k=>k t
 |v::vs,i,t,k=>t.mU i ⟨v,0⟩ fun t=>dI (i+1) fun i=>ot vs i t k
theorem jg {β:Type}:∀(vs:List AV) (i:Nat) (t:Tr db) (k:Tr db→β),ot vs i t k=k (tQ vs i t):=by
 intro vs
 induction vs with
 |nil=>intro i t k;rfl
 |cons v vs ih=>intro i t k;simp only[ot,tQ,Tr.eG,bE,ih]
theorem mP:∀(vs:List AV) (i:Nat) (t:Tr db) (j:Nat) (v:AV) (tag:Nat),(tQ vs i t).get j=some ⟨v,tag⟩→(i≤j∧vs[j-i]?=some v∧tag=0)∨t.get j=some ⟨v,tag⟩:=by
 intro vs
 induction vs with
 |nil=>intro i t j v tag h;exact .inr h
 |cons u vs ih=>
  intro i t j v tag h
  rcases ih (i+1) _ j v tag h with⟨h1,h2,h3⟩|h4
  ·refine .inl ⟨by omega,?_,h3⟩
   have:j-i=(j-(i+1))+1:=by omega
   rw[this];simpa using h2
  ·rw[Tr.ib]at h4
   split at h4
   ·rename_i oK
    cases h4
    subst oK
    exact .inl ⟨Nat.le_refl _,by simp,rfl⟩
   ·exact .inr h4
noncomputable def ry:Nat→List AV→List AV
 |0,_=>[]
 |n+1,l=>l++ry n l
theorem mQ (n:Nat) (l:List AV):(ry n l).length=n*l.length:=by
 induction n with
 |zero=>simp[ry]
 |succ n ih=>simp[ry,ih,Nat.add_mul];omega
theorem tR (n:Nat) (l:List AV) (i:Nat) (v:AV) (h:(ry n l)[i]?=some v):i<n*l.length∧l[i%l.length]?=some v:=by
 induction n generalizing i with
 |zero=>simp[ry]at h
 |succ n ih=>
  simp only[ry]at h
  rw[List.getElem?_append]at h
  split at h
  ·rename_i hi
   refine⟨?_,by rw[Nat.mod_eq_of_lt hi];exact h⟩
   rw[Nat.add_mul];omega
  ·rename_i hi
   obtain⟨h1,h2⟩:=ih _ h
   refine⟨by rw[Nat.add_mul];omega,?_⟩
   rw[←h2,Nat.mod_eq_sub_mod (by omega)]
theorem aP.EW {ρ:bL}:∀(l:List AV) (l':List Value),l'.length=l.length→(∀(i:Nat) (v:AV),l[i]?=some v→∃v',l'[i]?=some v'∧aL ρ v v')→aP ρ l l':=by
 intro l
 induction l with
 |nil=>intro l' h _;cases l' with|nil=>exact .nil|cons _ _=>simp at h
 |cons a l ih=>
  intro l' h hg
  cases l' with
  |nil=>simp at h
  |cons b l'=>
   obtain⟨v',h1,h2⟩:=hg 0 a (by simp)
   simp at h1;subst h1
   exact .cons _ _ _ _ h2 (ih l' (by simpa using h) fun i v hi=>by simpa using hg (i+1) v (by simpa using hi))
variable {l z:List AV} {jJ zc:Array Value} {a0 blk ep i n kq sz:Nat} {v x:AV}
theorem tI {ρ:bL} (hz:aP ρ z zc.toList) (hi:i<n) (h:z[i%z.length]?=some v):∃v',((Array.range n).map (zc[·%zc.size]!))[i]?=some v'∧aL ρ v v':=by
 obtain⟨v',h1,h2⟩:=hz.get h
 have hlen:zc.size=z.length:=by rw[←Array.length_toList];exact hz.length
 refine⟨v',?_,h2⟩
 have h1':zc[i%zc.size]?=some v':=by rw[hlen];simpa using h1
 have h3:zc[i%zc.size]! =v':=by rw[getElem!_def,h1']
 simp[hi,h3]
inductive KQ where
 |ptr
 |map
 |slice (len cap sz:Nat)
def KQ.mk (r:KQ) (id:Nat):AV:=
 match r with
 | .ptr=> .ptr id 0 0
 | .map=> .map id
 | .slice len cap sz=> .slice id 0 0 len cap true sz
section
variable {β : Type}
noncomputable def Eb (z:List AV) (c:Nat) (k:Tr db→β):β:=
 match z with
 |[v]=>Tr.full ⟨v,0⟩ (Nat.log2 (c+1)+2) k
 |z=>mo (ry c z) fun l=>ot l 0 .lf k
noncomputable def iG (z:List AV) (c:Nat):Tr db:=
 match z with
 |[v]=>Tr.Ii ⟨v,0⟩ (Nat.log2 (c+1)+2)
 |z=>tQ (ry c z) 0 .lf
theorem rp (z:List AV) (c:Nat) (k:Tr db→β):Eb z c k=k (iG z c):=by
 unfold Eb iG
 split
 ·exact Tr.SD _ _ _
 ·rw[eo,jg]
theorem xn {c:Nat} {tag:Nat} (hz:z≠[]) (h:(iG z c).get i=some ⟨v,tag⟩):tag=0∧z[i%z.length]?=some v:=by
 unfold iG at h
 split at h
 ·have:=Tr.Ka h
  cases this
  exact⟨rfl,by simp[Nat.mod_one]⟩
 ·rcases mP _ _ _ _ _ _ h with⟨h1,h2,h3⟩|h4
  ·exact⟨h3,(tR _ _ _ _ h2).2⟩
  ·rw[Tr.ny]at h4;cases h4
def He (v:AV):Option Nat:=
 match v with
 | .int _ (.ofNat n)=>some n
 |_=>none
noncomputable def wU (P:Program) (e:Env) (o:Oper) (d:β) (k:Rec→KQ→β):β:=
 match o.op with
 | .alloc t=>match jM P t with
  |some z=>mo z.cells fun l=>ot l 0 .lf fun c=>dI l.length fun n=>k (.cells t c n 0 false) .ptr
  |none=>d
 | .box t x=>fR e x d fun v=>mo v.cells fun l=>ot l 0 .lf fun c=>dI l.length fun n=>k (.cells t c n 0 false) .ptr
 | .makeMap t r=>match r with
  |none=>k (.map [] 0) .map
  |some r=>fR e r d fun r=>match r,P.underlying t with| .int _ _,some (.map _ _)=>k (.map [] 0) .map|_,_=>d
 | .makeSlice t l c=>fR e l d fun l=>fR e c d fun c=>match He l,He c,P.underlying t with
  |some l,some c,some (.slice el)=>match dZ P el,bytesOf P el,jM P el with
   |some (sz+1),some by_,some z=>match Nat.ble l c,Nat.ble (by_*c) 281474976710656,Nat.ble c 4611686018427387904,Nat.beq z.cells.length (sz+1)with
    |true,true,true,true=>Eb z.cells c fun t=>dI (c*(sz+1)) fun top=>k (.cells el t top 0 false) (.slice l c (sz+1))
    |_,_,_,_=>d
   |_,_,_=>d
  |_,_,_=>d
 | .buildSlice t len parts=>match P.underlying t with
  |some (.slice el)=>match dZ P el,jM P el with
   |some (sz+1),some z=>match Nat.ble (len*(sz+1)) 16777216,Nat.beq z.cells.length (sz+1)with
    |true,true=>sY e parts.toList d fun ps=>match oN (fun i=>some (i*(sz+1),sz+1)) (ry len z.cells) ps with
     |some l=>mo l fun l=>ot l 0 .lf fun c=>dI (len*(sz+1)) fun top=>k (.cells el c top 0 false) (.slice len len (sz+1))
     |none=>d
    |_,_=>d
   |_,_=>d
  |_=>d
 |_=>d
noncomputable def Qa (P:Program) (e:Env) (o:Oper):Option (Rec×KQ):=wU P e o none fun r s=>some (r,s)
theorem tp (P:Program) (e:Env) (o:Oper) (d:β) (k:Rec→KQ→β):wU P e o d k=match Qa P e o with|some (r,s)=>k r s|none=>d:=by
 unfold Qa wU
 obtain⟨dst,op,type,pos,after,guard⟩:=o
 cases op<;>simp only[bp,ie,eo,jg,bE,rp]<;>(try rfl)
 all_goals(repeat' (first|rfl|split))
 all_goals(try(simp_all;done))
end
theorem vr {ρ:bL} {elem:TypeId} {cs:Array Value} (h:aP ρ l cs.toList) (blk:Nat):∀ρ',ρ.le ρ'→gg ρ' 0 ⟨blk,0,cs.size⟩ (.cells elem (tQ l 0 .lf) l.length 0 false) (some (.cells cs elem (0,0))):=by
 intro ρ' hle
 have hlen:=h.length
 have cC:cs.size=l.length:=by rw[←Array.length_toList];exact hlen
 refine⟨cs,0,0,rfl,fun _=>⟨rfl,rfl⟩,fun i h1 h2=>by omega,rfl,⟨Nat.le_refl _,fun i x hx=>by
  obtain⟨u,tag⟩:=x
  rcases mP _ _ _ _ _ _ hx with⟨_,_,h3⟩|h4
  ·simp only[];omega
  ·rw[Tr.ny]at h4;cases h4⟩,?_,fun _ i _ hi=>by simp only[cC];omega⟩
 intro i v tag hi hg ht hb
 rcases mP _ _ _ _ _ _ hg with⟨_,h2,_⟩|h4
 ·obtain⟨v',h5,h6⟩:=(h.mono hle).get h2
  exact⟨v',by simpa using h5,h6⟩
 ·rw[Tr.ny]at h4;cases h4
section
variable {B : Nat → Prop} {ρ : bL} {st : St} {w : World} {P : Program} {e : Env} {a : Act}
variable {o:Oper} {r:Rec} {s:KQ}
theorem xW {P:Program} {e:Env} (h:Qa P e o=some (r,s)):r.plain=true:=by
 obtain⟨dst,op,type,pos,after,guard⟩:=o
 unfold Qa wU at h
 cases op<;>simp only[bp,ie,eo,jg,bE,rp]at h<;>(try(cases h;done))
 all_goals(repeat' (first|(cases h;rfl)|(cases h;done)|split at h))
theorem Hb (hs:aV B ρ st w) (ht:iD ρ e a.tmps) (h:Qa P e o=some (r,s)):
 ∃obj n v',(execOp a.eval o).run P w=.ok (.value v') {w with heap:=w.heap.push obj}∧(∀ρ',ρ.le ρ'→gg ρ' 0 ⟨w.heap.size,0,n⟩ r (some obj))∧(∀ρ' id,ρ' id 0=some ⟨w.heap.size,0,n⟩→aL ρ' (s.mk id) v'):=by
 obtain⟨dst,op,type,pos,after,guard⟩:=o
 unfold Qa wU at h
 cases op<;>simp only[bp,ie,eo,jg,bE,rp]at h<;>(try(cases h;done))
 case alloc t=>
  split at h
  ·rename_i z hz
   cases h
   obtain⟨z',iK,mE⟩:=gL hz
   refine⟨_,_,_,?_,vr (iK ρ).cells w.heap.size,fun ρ' id hid=> .ptr id 0 0 _ hid (Nat.zero_le _)⟩
   simp only[execOp,Instr.alloc,Sem.run_bind,mE,Result.andThen_ok,newVar,newRow,run_newObj,Sem.run_pure]
  ·cases h
 case box t x=>
  split at h
  ·rename_i v hv
   cases h
   refine⟨_,_,_,?_,vr (bo ht hv).cells w.heap.size,fun ρ' id hid=> .ptr id 0 0 _ hid (Nat.zero_le _)⟩
   simp only[execOp,Instr.box,Sem.run_bind,Result.andThen_ok,newVar,newRow,run_newObj,Sem.run_pure]
  ·cases h
 case makeMap t r=>
  have key:∀ρ',ρ.le ρ'→gg ρ' 0 ⟨w.heap.size,0,0⟩ (.map [] 0) (some (.map #[] 0)):=fun ρ' _=>⟨rfl,#[],rfl,.nil⟩
  cases r with
  |none=>
   cases h
   refine⟨_,0,_,?_,key,fun ρ' id hid=> .map id _ hid⟩
   simp only[execOp,Instr.makeMap,Option.map,Sem.run_bind,Result.andThen_ok,run_newObj,Sem.run_pure]
  |some x=>
   simp only[]at h
   split at h
   ·rename_i v hv
    split at h
    ·rename_i k n d1 d2 hu
     cases h
     have hr:=bo ht hv
     cases qx:a.eval x<;>rw[qx]at hr<;>cases hr
     refine⟨_,0,_,?_,key,fun ρ' id hid=> .map id _ hid⟩
     simp only[execOp,Instr.makeMap,Option.map,qx,Sem.run_bind,run_underlying hu,asInt,asIntOf,Result.andThen_ok,run_newObj,Sem.run_pure]
    ·cases h
   ·cases h
 case makeSlice t l c=>
  split at h
  ·rename_i l0 hl
   split at h
   ·rename_i c0 hc
    split at h
    ·rename_i ln cn el pI FH hu
     split at h
     ·rename_i sz by_ z cC Bj hz
      split at h
      ·rename_i q1 q2 q3 q4
       have q1:=Nat.le_of_ble_eq_true q1
       have q2:=Nat.le_of_ble_eq_true q2
       have q3:=Nat.le_of_ble_eq_true q3
       have q4:=Nat.eq_of_beq_eq_true q4
       cases h
       have Qq:=bo ht hl
       have oh:=bo ht hc
       obtain⟨kl,e1⟩:∃k,l0=.int k (.ofNat ln):=by
        unfold He at pI;split at pI
        ·cases pI;exact⟨_,rfl⟩
        ·cases pI
       obtain⟨kc,e2⟩:∃k,c0=.int k (.ofNat cn):=by
        unfold He at FH;split at FH
        ·cases FH;exact⟨_,rfl⟩
        ·cases FH
       subst e1 e2
       cases hlv:a.eval l<;>rw[hlv]at Qq<;>cases Qq
       cases fQ:a.eval c<;>rw[fQ]at oh<;>cases oh
       obtain⟨z',iK,mE⟩:=gL hz
       obtain⟨ti,nT,FK⟩:∃ti,P.info? el=some ti∧ti.bytes=by_:=by
        unfold bytesOf at Bj
        cases hi:P.info? el with
        |none=>simp[hi]at Bj
        |some ti=>simp[hi]at Bj;exact⟨ti,rfl,Bj⟩
       have Qc:=(iK ρ).cells
       have hwl:IntKind.i64.wrap (Int.ofNat ln)=(ln:Int):=IntWalk.i64_in _ (by have:(Int.ofNat ln)=(ln:Int):=rfl;omega)
       have TL:IntKind.i64.wrap (Int.ofNat cn)=(cn:Int):=IntWalk.i64_in _ (by have:(Int.ofNat cn)=(cn:Int):=rfl;omega)
       obtain⟨zz,Hp⟩:∃zz:Array Value,zz=if cn*(sz+1)=0 then #[]else z'.cells:=⟨_,rfl⟩
       refine⟨.cells ((Array.range (cn*(sz+1))).map (zz[·%zz.size]!)) el,cn*(sz+1),.slice (some ⟨w.heap.size,0,none⟩) ln cn,?_,?_,?_⟩
       ·have al0:¬((decide ((cn:Int)<0)||decide ((ti.bytes:Int)*(cn:Int)>2^48)||decide ((ln:Int)<0)||decide ((ln:Int)>(cn:Int)))=true):=by
         have hm:((ti.bytes:Int)*(cn:Int))=((by_*cn:Nat):Int):=by rw[FK];simp
         simp only[hm,Bool.or_eq_true,decide_eq_true_eq,not_or]
         omega
        simp only[execOp,Instr.makeSlice,hlv,fQ,Sem.run_bind,run_underlying hu,asInt,asIntOf,Result.andThen_ok,Sem.run_pure,typeInfo,run_program,nT,hwl,TL]
        rw[if_neg al0]
        simp only[Sem.run_bind,run_askRoom,Result.andThen_ok,bC cC,Int.toNat_natCast]
        simp only[Nat.succ_eq_add_one]
        by_cases h0:cn*(sz+1)=0
        ·rw[if_pos h0]at Hp⊢
         subst Hp
         simp only[Result.andThen_ok,newRow,Sem.run_bind,run_newObj,Sem.run_pure]
        ·rw[if_neg h0]at Hp⊢
         subst Hp
         simp only[Result.andThen_ok,mE,newRow,Sem.run_bind,run_newObj,Sem.run_pure]
       ·intro ρ' hle
        have cH:z.cells≠[]:=fun e=>by rw[e]at q4;simp at q4
        refine⟨_,0,0,rfl,fun _=>⟨rfl,rfl⟩,fun i h1 h2=>by omega,by simp,⟨Nat.le_refl _,fun i x hx=>by
         obtain⟨u,tag⟩:=x
         have:=(xn cH hx).1
         simp only[];omega⟩,?_,fun _ i _ hi=>hi⟩
        intro i v tag hi hg _ _
        obtain⟨_,h5⟩:=xn cH hg
        have e3:zz=z'.cells:=by rw[Hp,if_neg (by omega)]
        subst e3
        obtain⟨v',h6,h7⟩:=tI Qc hi h5
        exact⟨v',by simpa using h6,h7.mono hle⟩
       ·intro ρ' id hid
        exact .slice id 0 0 ln cn true (sz+1) cn 0 _ hid (Nat.zero_le _) (Nat.le_refl _) (fun _=>rfl) q1 (fun _=>by simp) (fun _=>by simp)
      ·cases h
     ·cases h
    ·cases h
   ·cases h
  ·cases h
 case buildSlice t len parts=>
  split at h
  ·rename_i el hu
   split at h
   ·rename_i sz z cC hz
    split at h
    ·rename_i q1 q2
     have q1:=Nat.le_of_ble_eq_true q1
     have q2:=Nat.eq_of_beq_eq_true q2
     split at h
     ·rename_i ps T1
      split at h
      ·rename_i l hl
       cases h
       have hp:=Io ht _ _ T1
       obtain⟨z',iK,mE⟩:=gL hz
       have Qc:=(iK ρ).cells
       obtain⟨zz,Hp⟩:∃zz:Array Value,zz=if len*(sz+1)=0 then #[]else z'.cells:=⟨_,rfl⟩
       have ZQ:aP ρ (ry len z.cells) ((Array.range (len*(sz+1))).map (zz[·%zz.size]!)).toList:=by
        refine aP.EW _ _ (by simp[mQ,q2]) fun i v hi=>?_
        obtain⟨h5,h6⟩:=tR _ _ _ _ hi
        rw[q2]at h5
        have e3:zz=z'.cells:=by rw[Hp,if_neg (by omega)]
        subst e3
        obtain⟨v',h7,h8⟩:=tI (n:=len*(sz+1)) Qc h5 h6
        exact⟨v',by rw[Array.getElem?_toList];exact h7,h8⟩
       obtain⟨vF,h1,h2⟩:=vj (pR:=fun i=>some (i*(sz+1),sz+1)) (fun i r hr=>hr) ps (parts.map fun(i,x)=>(i,a.eval x)).toList _ _ l (by rw[Array.toList_map];exact hp) ZQ hl
       have hlen:l.length=len*(sz+1):=by
        have:∀(qs:List (Nat×AV)) (u l2:List AV),oN (fun i=>some (i*(sz+1),sz+1)) u qs=some l2→l2.length=u.length:=by
         intro qs
         induction qs with
         |nil=>intro u l2 hq;cases hq;rfl
         |cons q qs ih=>
          intro u l2 hq
          obtain⟨i,v⟩:=q
          simp only[oN]at hq
          split at hq
          ·rw[ih _ _ hq,ud]
          ·cases hq
        rw[this _ _ _ hl,mQ,q2]
       have ak4:vF.size=len*(sz+1):=by rw[←Array.length_toList,h2.length,hlen]
       refine⟨.cells vF el,len*(sz+1),.slice (some ⟨w.heap.size,0,none⟩) len len,?_,?_,?_⟩
       ·simp only[execOp,Instr.buildSlice,Sem.run_bind,run_underlying hu,Result.andThen_ok,bC cC]
        rw[if_neg (by simp only[Nat.succ_eq_add_one];omega)]
        simp only[Nat.succ_eq_add_one]
        by_cases h0:len*(sz+1)=0
        ·rw[if_pos h0]at Hp⊢
         subst Hp
         simp only[Sem.run_bind,Sem.run_pure,Result.andThen_ok,h1,newRow,run_newObj]
        ·rw[if_neg h0]at Hp⊢
         subst Hp
         simp only[Sem.run_bind,Sem.run_pure,mE,Result.andThen_ok,h1,newRow,run_newObj]
       ·intro ρ' hle
        have:=vr (elem:=el) h2 w.heap.size ρ' hle
        rw[hlen,ak4]at this
        exact this
       ·intro ρ' id hid
        exact .slice id 0 0 len len true (sz+1) len 0 _ hid (Nat.zero_le _) (Nat.le_refl _) (fun _=>rfl) (Nat.le_refl _) (fun _=>by simp) (fun _=>by simp)
      ·cases h
     ·cases h
    ·cases h
   ·cases h
  ·cases h
end
end Go.Il
namespace Go.Il
variable [Sym]
def tX (s:List Nat):List AV:=s.map fun b=> .int .u8 (.ofNat b)
def bX:AV:=.n8 []
def rL (x:AV):Option Nat:=
 match x with
 | .ec=>some 0
 | .slice _ _ _ n _ _ _=>some n
 | .str s=>some s.length
 |_=>none
noncomputable def nA {β:Type} (st:St) (sz n:Nat) (x:AV) (d:β) (k:List AV→β):β:=
 match x with
 | .ec=>k []
 | .slice id ep off _ _ _ _=>kA st id ep (n*sz) off d k
 | .str s=>mo (tX (s.take n)) k
 |_=>d
noncomputable def first(st:St) (sz n:Nat) (x:AV):Option (List AV):=nA st sz n x none some
theorem rX {β:Type} (st:St) (sz n:Nat) (x:AV) (d:β) (k:List AV→β):nA st sz n x d k=match first st sz n x with|some l=>k l|none=>d:=by
 unfold first nA
 cases x<;>first|rfl|skip
 ·simp only[eo]
 ·simp only[];rw[fN,fN (d:=none)];cases cellsOf st _ _ _ _<;>rfl
def uD (P:Program) (t:Option TypeId):Bool:=
 match t with
 |some t=>match P.underlying t with
  |some (.slice _)=>true
  |some .string=>true
  |_=>false
 |none=>false
noncomputable def eF (tag:Nat):List AV→Nat→Tr db→Tr db
 |[],_,t=>t
 |v::vs,i,t=>eF tag vs (i+1) (t.set i ⟨v,tag⟩)
noncomputable def pZ {β:Type} (tag:Nat):List AV→Nat→Tr db→(Tr db→β)→β
 |[],_,t,k=>k t
 |v::vs,i,t,k=>t.mU i ⟨v,tag⟩ fun t=>dI (i+1) fun i=>pZ tag vs i t k
theorem BA {β:Type} (tag:Nat):∀(vs:List AV) (i:Nat) (t:Tr db) (k:Tr db→β),pZ tag vs i t k=k (eF tag vs i t):=by
 intro vs
 induction vs with
 |nil=>intro i t k;rfl
 |cons v vs ih=>intro i t k;simp only[pZ,eF,Tr.eG,bE,ih]
theorem Bz (tag:Nat):∀(vs:List AV) (i:Nat) (t:Tr db) (j:Nat),(eF tag vs i t).get j=if i≤j∧j<i+vs.length then(vs[j-i]?).map fun v=>⟨v,tag⟩else t.get j:=by
 intro vs
 induction vs with
 |nil=>intro i t j;rw[if_neg (by simp only[List.length_nil];omega)];rfl
 |cons v vs ih=>
  intro i t j
  simp only[eF,ih,List.length_cons]
  by_cases h1:i+1≤j∧j<i+1+vs.length
  ·rw[if_pos h1,if_pos (by omega)]
   have:j-i=(j-(i+1))+1:=by omega
   rw[this,List.getElem?_cons_succ]
  ·rw[if_neg h1]
   by_cases h2:i=j
   ·subst h2
    rw[Tr.bH,if_pos (by omega)]
    simp only[Nat.sub_self,List.getElem?_cons_zero,Option.map_some]
   ·rw[Tr.bI _ _ h2,if_neg (by omega)]
noncomputable def Rd (st:St) (el:TypeId) (l:List AV) (k:Nat→St→Bool):Bool:=
 ot l 0 .lf fun c=>dI l.length fun n=>st.heap.mU st.next (.cells el c n 0 false) fun h=>dI (st.next+1) fun nx=>k st.next ⟨h,nx⟩
theorem GQ (st:St) (el:TypeId) (l:List AV) (k:Nat→St→Bool):Rd st el l k=k st.next ⟨st.heap.set st.next (.cells el (tQ l 0 .lf) l.length 0 false),st.next+1⟩:=by
 unfold Rd;rw[jg,bE,Tr.eG,bE]
noncomputable def tE (P:Program) (st:St) (oS:Array TypeId) (s x:AV) (k:AV→St→Bool):Bool:=
 match oS[0]? with
 |some sT=>match P.underlying sT,uD P oS[1]? with
  |some (.slice el),true=>match dZ P el,bytesOf P el,rL x,jM P el with
   |some (sz+1),some (by_+1),some n,some z=>
    nA st (sz+1) n x false fun new=>match Nat.beq new.length (n*(sz+1)),Nat.beq z.cells.length (sz+1)with
    |false,_=>false
    |_,false=>false
    |true,true=>match s with
     | .ec=>match Nat.beq n 0 with
      |true=>k .ec st
      |false=>match Nat.ble (2*n*(by_+1)) 281474976710656 with
       |true=>Rd st el new fun id st=>k (.slice id 0 0 n n false (sz+1)) st
       |false=>false
     | .slice id ep off len cap ex sz'=>match Nat.beq sz' (sz+1)with
      |false=>false
      |true=>dI (len+n) fun kq=>match Nat.ble kq cap with
       |true=>jT st id ep (off+len*(sz+1)) new false fun st=>k (.slice id ep off kq cap ex sz') st
       |false=>match Nat.ble (2*kq*(by_+1)) 281474976710656 with
        |false=>false
        |true=>match ex with
         |true=>nA st (sz+1) len s false fun old=>match Nat.beq old.length (len*(sz+1))with
          |true=>Rd st el (old++new) fun id st=>k (.slice id 0 0 kq kq false (sz+1)) st
          |false=>false
         |false=>match st.heap.get id with
          |some (.cells el' c top lat sh)=>match Nat.beq ep lat,Nat.ble (off+len*(sz+1)) top,new.all AV.one,Nat.beq el' el with
           |true,true,true,true=>dI (lat+1) fun lat=>pZ lat new (off+len*(sz+1)) c fun c=>dI (off+kq*(sz+1)) fun top=>
            st.heap.mU id (.cells el' c top lat sh) fun h=>k (.slice id lat off kq kq false sz') ⟨h,st.next⟩
           |_,_,_,_=>false
          |_=>false
     |_=>false
   |_,_,_,_=>false
  |_,_=>false
 |none=>false
end Go.Il
namespace Go.Il
variable [Sym]
section
variable {B : Nat → Prop} {ρ : bL} {st : St} {w : World} {P : Program}
variable {v x:AV} {x':Value} {a0 blk ep i n kq sz:Nat}
theorem uK (hx:aL ρ x x') (h:rL x=some n):(Builtin.lenOf x').run P w=.ok n w:=by
 unfold rL at h
 split at h
 ·cases hx;cases h;rfl
 ·obtain⟨cY,o,p,rfl,_⟩:=hx.iX;cases h;rfl
 ·cases hx with
  |str _ s hs=>
   cases h
   have:s.size=(s.data.toList.map UInt8.toNat).length:=by rw[List.length_map,Array.length_toList];rfl
   rw[←hs,←this];rfl
 ·cases h
variable {l z:List AV}
theorem nV (hs:aV B ρ st w) {m:Nat} (hx:aL ρ x x') (hm:rL x=some m) (hn:n≤m) (h:first st sz n x=some l):∃l':Array Value,aP ρ l l'.toList∧(Builtin.firstCells sz n x').run P w=.ok l' w:=by
 unfold first nA at h
 split at h
 ·cases hx;cases h;exact⟨#[],.nil,rfl⟩
 ·rename_i id ep off len cap ex OS
  obtain⟨cY,o,p,rfl,hp,hb,hc,he,hl,ho,cC⟩:=hx.iX
  cases hm
  rw[fN]at h
  split at h
  ·rename_i vs Qh
   cases h
   by_cases h0:n*sz=0
   ·rw[h0]at Qh
    cases Qh
    exact⟨#[],.nil,by simp only[Builtin.firstCells,h0];rfl⟩
   ·have Ib:0<cY:=by
     have:0<n:=Nat.pos_of_ne_zero fun e=>h0 (by rw[e];simp)
     omega
    have pH:=ho Ib
    subst pH
    obtain⟨ka,hv,hr⟩:=hs.loadCells (P:=P) hp off hb (n*sz) 0 l #[] Qh
    exact⟨ka.toArray,by simpa using hv,by simp only[Builtin.firstCells,Go.loadCells,hr];simp⟩
  ·cases h
 ·cases hx with
  |str _ s Cy=>
   simp only[eo]at h
   cases h
   refine⟨(s.extract 0 n).data.map fun b=> .int .u8 b.toNat,?_,rfl⟩
   rw[←Cy]
   refine aP.EW _ _ (by simp[tX,List.length_take]) fun i v hi=>?_
   simp only[tX,List.getElem?_map,Option.map_eq_some_iff]at hi
   obtain⟨b,hb,rfl⟩:=hi
   rw[List.getElem?_take]at hb
   split at hb
   ·rename_i uV
    rw[List.getElem?_map,Option.map_eq_some_iff]at hb
    obtain⟨u,hu,rfl⟩:=hb
    refine⟨.int .u8 u.toNat,?_,.int _ _⟩
    simp only[Array.toList_map,List.getElem?_map,Option.map_eq_some_iff]
    refine⟨u,?_,rfl⟩
    rw[ByteArray.data_extract,Array.toList_extract]
    simp only[List.extract_eq_take_drop,List.drop_zero,Nat.sub_zero]
    rw[List.getElem?_take,if_pos uV];exact hu
   ·cases hb
 ·cases h
theorem J7 (uF:Nat):∀(r c:Nat),256≤c→c<uF→Builtin.growBy uF r c≤2*uF:=by
 intro r
 induction r with
 |zero=>intro c h1 h2;simp only[Builtin.growBy];omega
 |succ r ih=>
  intro c h1 h2
  simp only[Builtin.growBy]
  split
  ·omega
  ·by_cases h3:c+(c+768)/4<uF
   ·exact ih _ (by omega) h3
   ·have h4:∀r,Builtin.growBy uF r (c+(c+768)/4)=c+(c+768)/4:=by
     intro r
     cases r with
     |zero=>rfl
     |succ r=>simp only[Builtin.growBy];rw[if_pos (by omega)]
    rw[h4];omega
theorem E0 {cap:Nat} (h:cap<kq):Builtin.nextslicecap kq cap≤2*kq:=by
 unfold Builtin.nextslicecap
 split
 ·omega
 ·split
  ·omega
  ·exact J7 _ _ _ (by omega) h
theorem sC {t:Option TypeId} (h:uD P t=true):∃xT,t=some xT∧((∃q,P.underlying xT=some (.slice q))∨P.underlying xT=some .string):=by
 unfold uD at h
 split at h
 ·rename_i xT
  split at h
  ·rename_i q hq;exact⟨xT,rfl,.inl ⟨q,hq⟩⟩
  ·rename_i hq;exact⟨xT,rfl,.inr hq⟩
  ·cases h
 ·cases h
variable {oS:Array TypeId} {sT:TypeId}
theorem vf {ty el:TypeId} {by_ len cap:Nat} {base:Option Addr} {z':Value} {old new:Array Value} {ti:TypeInfo} (h0:oS[0]?=some sT) (hu:P.underlying sT=some (.slice el)) (hi:uD P oS[1]?=true)
 (cC:ti.size=sz) (nT:P.info? el=some ti) (FK:ti.bytes=by_) (hz:ti.zero=some z') (ap3:1≤by_) (hn:(Builtin.lenOf x').run P w=.ok n w) (xe:cap<len+n) (jm:2*(len+n)*by_≤281474976710656)
 (hold:(Builtin.firstCells sz len (.slice base len cap)).run P w.drew=.ok old w.drew) (nw:(Builtin.firstCells sz n x').run P w.drew=.ok new w.drew):
 ∃dN,len+n≤dN∧(Builtin.append_ oS ty #[.slice base len cap,x']).run P w=.ok (.slice (some ⟨w.heap.size,0,none⟩) (len+n) dN) (w.drew.alloc (.cells (old++new++Builtin.zeroCells z'.cells (dN-(len+n))) el)):=by
 obtain⟨xT,h1,hd⟩:=sC hi
 have Fk:len+n≤281474976710656:=by
  have:1*(2*(len+n))≤by_*(2*(len+n)):=Nat.mul_le_mul_right _ ap3
  have e:by_*(2*(len+n))=2*(len+n)*by_:=Nat.mul_comm _ _
  omega
 have qD:¬(281474976710656<Builtin.nextslicecap (len+n) cap*ti.bytes):=by
  have:=Nat.mul_le_mul_right by_ (E0 xe)
  rw[FK];omega
 have h63:¬(9223372036854775807<((len:Int)+(n:Int))):=by omega
 have uZ:¬(len+n≤cap):=by omega
 refine⟨Question.cut (.appendCap (len+n) cap el) (w.tape w.drawn (.appendCap (len+n) cap el)),by simp only[Question.cut];omega,?_⟩
 subst cC
 rcases hd with⟨q,hd⟩|hd
 ·simp[Builtin.append_,h0,h1,run_underlying hu,run_underlying hd,sizeOf,typeInfo,zeroValue,nT,hz,hn,uZ,h63,qD,Question.forced,hold,nw,newRow]
 ·simp[Builtin.append_,h0,h1,run_underlying hu,run_underlying hd,sizeOf,typeInfo,zeroValue,nT,hz,hn,uZ,h63,qD,Question.forced,hold,nw,newRow]
theorem p8 {ty el:TypeId} {len cap:Nat} {base:Option Addr} {new:Array Value} {w':World} (h0:oS[0]?=some sT) (hu:P.underlying sT=some (.slice el)) (hi:uD P oS[1]?=true)
 (cC:dZ P el=some sz) (hn:(Builtin.lenOf x').run P w=.ok n w) (xe:len+n≤cap) (nw:(Builtin.firstCells sz n x').run P w=.ok new w)
 (gR:(match base with|some a=>storeCells (a.add (len*sz)) new.toList|none=>pure ():Sem Unit).run P w=.ok () w'):
 (Builtin.append_ oS ty #[.slice base len cap,x']).run P w=.ok (.slice base (len+n) cap) w':=by
 obtain⟨xT,h1,hd⟩:=sC hi
 rcases hd with⟨q,hd⟩|hd
 all_goals
  cases base with
  |none=>
   simp only[Sem.run_pure]at gR
   cases gR
   simp[Builtin.append_,h0,h1,run_underlying hu,run_underlying hd,bC cC,hn,xe,nw]
  |some b=>
   simp only[]at gR
   simp[Builtin.append_,h0,h1,run_underlying hu,run_underlying hd,bC cC,hn,xe,nw,gR]
theorem dP {el:TypeId} {a b:Nat} {z:AV} (h1:dZ P el=some a) (h2:bytesOf P el=some b) (h3:jM P el=some z):∃ti z',P.info? el=some ti∧ti.size=a∧ti.bytes=b∧ti.zero=some z'∧∀ρ,aL ρ z z':=by
 unfold dZ at h1
 unfold bytesOf at h2
 unfold jM at h3
 cases hi:P.info? el with
 |none=>simp[hi]at h1
 |some ti=>
  simp[hi]at h1 h2 h3
  cases hz:ti.zero with
  |none=>simp[hz]at h3
  |some z'=>simp[hz]at h3;exact⟨ti,z',rfl,h1,h2,hz,fun ρ=>zE ρ _ _ _ h3⟩
theorem VA {elem:TypeId} {pre rest:Array Value} (h:aP ρ l pre.toList) (blk:Nat):∀ρ',ρ.le ρ'→gg ρ' 0 ⟨blk,0,(pre++rest).size⟩ (.cells elem (tQ l 0 .lf) l.length 0 false) (some (.cells (pre++rest) elem (0,0))):=by
 intro ρ' hle
 have cC:pre.size=l.length:=by rw[←Array.length_toList];exact h.length
 refine⟨pre++rest,0,0,rfl,fun _=>⟨rfl,rfl⟩,fun i h1 h2=>by omega,rfl,⟨Nat.le_refl _,fun i x hx=>by
  obtain⟨u,tag⟩:=x
  rcases mP _ _ _ _ _ _ hx with⟨_,_,h3⟩|h4
  ·simp only[];omega
  ·(rw[Tr.ny]at h4;cases h4)⟩,?_,fun _ i _ hi=>by simp only[Array.size_append,cC];omega⟩
 intro i v tag hi hg ht hb
 rcases mP _ _ _ _ _ _ hg with⟨_,h2,_⟩|h4
 ·obtain⟨v',h5,h6⟩:=(h.mono hle).get h2
  refine⟨v',?_,h6⟩
  have h7:pre[i]?=some v':=by simpa using h5
  show(pre++rest)[i-0]?=some v'
  rw[Nat.sub_zero,Array.getElem?_append_left (Array.getElem?_eq_some_iff.1 h7).1]
  exact h7
 ·(rw[Tr.ny]at h4;cases h4)
theorem GO (hs:aV B ρ st w) {el:TypeId} {pre rest:Array Value} (h:aP ρ l pre.toList):
 ∃ρ',aV B ρ' ⟨st.heap.set st.next (.cells el (tQ l 0 .lf) l.length 0 false),st.next+1⟩ (w.drew.alloc (.cells (pre++rest) el))∧
  gX B ρ st w ρ' ⟨st.heap.set st.next (.cells el (tQ l 0 .lf) l.length 0 false),st.next+1⟩ (w.drew.alloc (.cells (pre++rest) el))∧ρ' st.next 0=some ⟨w.heap.size,0,(pre++rest).size⟩:=by
 obtain⟨ρ',h1,h2,h3⟩:=(hs.drew (w.drawn+1)).alloc (r:=.cells el (tQ l 0 .lf) l.length 0 false) (o:=.cells (pre++rest) el) (n:=(pre++rest).size) (fun ρ' hle _=>VA h _ ρ' hle)
 exact⟨ρ',h1,(gX.drew (w.drawn+1)).trans h2,h3⟩
theorem yT {z:Array Value}:(Builtin.zeroCells z n).size=n*z.size:=by simp[Builtin.zeroCells]
variable {fr:Nat×Nat}
theorem RN {w:World} {cs:Array Value} {elem:TypeId} (h:w.heap[blk]?=some (.cells cs elem fr)) (o:Nat):∀(n i:Nat) (acc:Array Value),o+i+n≤cs.size→(loadCellsFrom ⟨blk,o,none⟩ i n acc).run P w=.ok (acc++cs.extract (o+i) (o+i+n)) w:=by
 intro n
 induction n with
 |zero=>intro i acc _;simp[loadCellsFrom];exact Nat.min_le_left _ _
 |succ n ih=>
  intro i acc hle
  have ha:(⟨blk,o,none⟩:Addr).add i=⟨blk,o+i,none⟩:=eD ⟨blk,0,0⟩ o i (Nat.zero_le _)
  have hc:w.cell? ⟨blk,o+i,none⟩=some cs[o+i]:=by simp[World.cell?,h]
  simp only[loadCellsFrom,Sem.run_bind,run_load,ha,hc,Result.andThen_ok]
  rw[ih (i+1) _ (by omega)]
  congr 1
  apply Array.ext'
  simp only[Array.toList_append,Array.toList_push,Array.toList_extract,List.extract_eq_take_drop,List.append_assoc]
  congr 1
  have e1:o+i+(n+1)-(o+i)=n+1:=by omega
  have e2:o+(i+1)+n-(o+(i+1))=n:=by omega
  rw[e1,e2]
  have hd:cs.toList.drop (o+i)=cs[o+i]::cs.toList.drop (o+(i+1)):=by
   rw[List.drop_eq_getElem_cons (by simpa using(by omega:o+i<cs.size))]
   simp[Nat.add_assoc]
  rw[hd]
  simp
theorem Ma {o:Nat} {elem:TypeId} {lo hi:Nat}:∀(vs:List Value) (i:Nat) (w:World) (cs:Array Value),w.heap[blk]?=some (.cells cs elem (lo,hi))→(∀j,lo≤j→j<hi→cs.size≤j)→(∀v∈vs,v.oneCell'=true)→o+i+vs.length≤cs.size→
 ∃w' jH,(storeCells ⟨blk,o,none⟩ vs i).run P w=.ok () w'∧w'.heap[blk]?=some (.cells jH elem (lo,hi))∧jH.size=cs.size∧(∀j:Nat,jH[j]?=if o+i≤j∧j<o+i+vs.length then vs[j-(o+i)]? else cs[j]?)∧
  (∀b,b≠blk→w'.heap[b]?=w.heap[b]?)∧w'.heap.size=w.heap.size∧w'.os=w.os∧w'.output=w.output:=by
 intro vs
 induction vs with
 |nil=>
  intro i w cs h _ _ _
  exact⟨w,cs,rfl,h,rfl,fun j=>by rw[if_neg (by simp only[List.length_nil];omega)],fun _ _=>rfl,rfl,rfl,rfl⟩
 |cons v vs ih=>
  intro i w cs h kN CJ hle
  simp only[List.length_cons]at hle
  have ha:(⟨blk,o,none⟩:Addr).add i=⟨blk,o+i,none⟩:=eD ⟨blk,0,0⟩ o i (Nat.zero_le _)
  have uV:o+i<cs.size:=by omega
  have hc:w.cell? ⟨blk,o+i,none⟩=some cs[o+i]:=by simp[World.cell?,h,uV]
  have hf:w.frozen? ⟨blk,o+i,none⟩=false:=by
   simp only[World.frozen?,h]
   cases hd:decide (lo≤o+i)&&decide (o+i<hi)with
   |false=>rfl
   |true=>
    simp only[Bool.and_eq_true,decide_eq_true_eq]at hd
    have:=kN _ hd.1 hd.2
    omega
  obtain⟨w',jH,e1,e2,e3,e4,e5,e6,e7,e8⟩:=ih (i+1) (w.setCell ⟨blk,o+i,none⟩ v) (cs.setIfInBounds (o+i) v) (sw h) (fun j a b=>by rw[Array.size_setIfInBounds];exact kN j a b) (fun u hu=>CJ u (List.mem_cons_of_mem _ hu)) (by rw[Array.size_setIfInBounds];omega)
  refine⟨w',jH,?_,e2,by rw[e3,Array.size_setIfInBounds],fun j=>?_,fun b hb=>(e5 b hb).trans (gY hb),by rw[e6,iQ],e7,e8⟩
  ·simp only[storeCells,Sem.run_bind,run_store _ _ _ _ _ (CJ v (List.mem_cons_self ..)),ha,hc,hf,Bool.false_eq_true,if_false,Result.andThen_ok]
   exact e1
  ·rw[e4]
   by_cases hj:o+(i+1)≤j∧j<o+(i+1)+vs.length
   ·rw[if_pos hj,if_pos (by simp only[List.length_cons];omega)]
    have:j-(o+i)=(j-(o+(i+1)))+1:=by omega
    rw[this,List.getElem?_cons_succ]
   ·rw[if_neg hj,Array.getElem?_setIfInBounds]
    by_cases BH:o+i=j
    ·subst BH
     rw[if_pos rfl,if_pos uV,if_pos (by simp only[List.length_cons];omega)]
     simp
    ·rw[if_neg BH,if_neg (by simp only[List.length_cons];omega)]
variable {jJ zc:Array Value}
theorem sM {ρ':bL} {id dN:Nat} {pre:Array Value} {z z':AV} (h:ρ' id 0=some ⟨blk,0,(pre++Builtin.zeroCells zc (dN-kq)).size⟩) (eV:pre.size=kq*sz) (hz:zc.size=sz) (hle:kq≤dN):
 aL ρ' (.slice id 0 0 kq kq false sz) (.slice (some ⟨blk,0,none⟩) kq dN):=by
 refine .slice _ _ _ _ _ _ _ dN 0 _ h (Nat.zero_le _) hle (fun e=>by cases e) (Nat.le_refl _) (fun _=>rfl) (fun _=>?_)
 simp only[Array.size_append,yT,eV,hz,Nat.sub_zero,Nat.zero_add]
 have:kq*sz+(dN-kq)*sz=dN*sz:=by rw[←Nat.add_mul];congr 1;omega
 omega
theorem aP.Y8:∀{l:List AV} {l':List Value},aP ρ l l'→l.all AV.one=true→∀v∈l',v.oneCell'=true
 |_,_,.nil,_,v,hv=>by cases hv
 |_,_,.cons a a' l l' h hl,ha,v,hv=>by
  simp only[List.all_cons,Bool.and_eq_true]at ha
  cases hv with
  |head=>exact h.one ha.1
  |tail _ hv=>exact aP.Y8 hl ha.2 v hv
variable {c:Tr db}
theorem dV {tag:Nat} {new:List AV} {x:db} (h:(eF tag new a0 c).get i=some x):(a0≤i∧i<a0+new.length∧x.tag=tag∧new[i-a0]?=some x.v)∨(¬(a0≤i∧i<a0+new.length)∧c.get i=some x):=by
 rw[Bz]at h
 split at h
 ·rename_i hc
  simp only[Option.map_eq_some_iff]at h
  obtain⟨v,hv,rfl⟩:=h
  exact .inl ⟨hc.1,hc.2,rfl,hv⟩
 ·rename_i hc;exact .inr ⟨hc,h⟩
variable {sh:Bool} {p:Pl}
theorem aV.inPlace (hs:aV B ρ st w) {id top len cY off o:Nat} {el':TypeId} {new:List AV} (hp:ρ id ep=some p) (hg:st.heap.get id=some (.cells el' c top ep sh))
 (hb:p.base≤off) (ho:0<cY→o=off-p.base) (cC:0<cY→off-p.base+cY*sz≤p.size) (uZ:len+n≤cY) (fX:0<cY) (hlen:new.length=n*sz) (tx:a0=off+len*sz) (V7:a0≤top) (CJ:new.all AV.one=true) (nw:aP ρ new jJ.toList):
 ∃w',(storeCells ((⟨p.blk,o,none⟩:Addr).add (len*sz)) jJ.toList).run P w=.ok () w'∧aV B (ρ.add id (ep+1) p) ⟨st.heap.set id (.cells el' (eF (ep+1) new a0 c) (a0+new.length) (ep+1) sh),st.next⟩ w'∧
  gX B ρ st w (ρ.add id (ep+1) p) ⟨st.heap.set id (.cells el' (eF (ep+1) new a0 c) (a0+new.length) (ep+1) sh),st.next⟩ w':=by
 obtain⟨hB,WR,dQ,r,hr,hrel⟩:=hs.mapped _ _ _ hp
 rw[hg]at hr;cases hr
 obtain⟨cs,lo,hi,g1,g2,g3,g4,g5,g6,g7⟩:=hrel
 have pH:=ho fX
 subst pH
 have hss:=cC fX
 have Fi:ρ id (ep+1)=none:=by
  cases hx:ρ id (ep+1)with
  |none=>rfl
  |some q=>
   obtain⟨_,_,_,r,hr,hrel⟩:=hs.mapped _ _ _ hx
   rw[hg]at hr;cases hr
   obtain⟨_,_,_,_,_,_,_,h5,_⟩:=hrel
   have:=h5.1;omega
 have hle:=bL.px (p:=p) Fi
 have Ud:(len+n)*sz≤cY*sz:=Nat.mul_le_mul_right _ uZ
 have Wx:(len+n)*sz=len*sz+n*sz:=Nat.add_mul _ _ _
 have Fs:jJ.toList.length=new.length:=nw.length
 obtain⟨w',jH,e1,e2,e3,e4,e5,e6,e7,e8⟩:=Ma (P:=P) (o:=off-p.base+len*sz) jJ.toList 0 w cs g1 g3 (nw.Y8 CJ) (by rw[Fs,hlen,g4];omega)
 have ac7:(⟨p.blk,off-p.base,none⟩:Addr).add (len*sz)=⟨p.blk,off-p.base+len*sz,none⟩:=eD ⟨p.blk,0,0⟩ (off-p.base) _ (Nat.zero_le _)
 have aW:∀i,p.base≤i→i<a0→jH[i-p.base]?=cs[i-p.base]?:=fun i h1 h2=>by rw[e4,if_neg (by omega)]
 have tags:∀i x,(eF (ep+1) new a0 c).get i=some x→x.tag≤ep+1:=fun i x hx=>by
  rcases dV hx with⟨_,_,h3,_⟩|⟨_,h4⟩
  ·omega
  ·have:=g5.2 i x h4;omega
 refine⟨w',by rw[ac7];exact e1,⟨?_,?_,by rw[e6];exact hs.low⟩,⟨hle,Nat.le_refl _,fun i hi hn=>⟨fun e=>?_,?_⟩,fun b wo=>e5 b (by rintro rfl;exact hB wo),by rw[e6];exact Nat.le_refl _,e7,e8,fun a=>by
  unfold World.frozen?
  by_cases ha:a.block=p.blk
  ·rw[ha,e2,g1]
  ·rw[e5 _ ha]⟩⟩
 ·intro Fh Ls p' ku
  unfold bL.add at ku
  split at ku
  ·rename_i hc
   obtain⟨rfl,rfl⟩:=hc
   cases ku
   refine⟨hB,by rw[e6];exact WR,dQ,_,Tr.bH _ _ _,jH,lo,hi,e2,g2,fun i a b=>by rw[e3];exact g3 i a b,by rw[e3];exact g4,⟨Nat.le_refl _,tags⟩,?_,?_⟩
   ·intro i v tag DY kv pg jo
    rcases dV kv with⟨h1,h2,_,h4⟩|⟨h1,h2⟩
    ·obtain⟨v',h5,h6⟩:=nw.get h4
     refine⟨v',?_,h6.mono hle⟩
     rw[e4,if_pos ⟨by omega,by rw[Fs];omega⟩]
     rw[←h5];congr 1;omega
    ·have hia:i<a0:=by omega
     obtain⟨v',h5,h6⟩:=g6 i v tag (by omega) h2 (g5.2 i _ h2) jo
     exact⟨v',by rw[aW i jo hia];exact h5,h6.mono hle⟩
   ·intro _ i DY Sq
    rw[hlen]at Sq
    omega
  ·obtain⟨a1,a2,a3,r',a4,a5⟩:=hs.mapped _ _ _ ku
   refine⟨a1,by rw[e6];exact a2,a3,?_⟩
   by_cases hid:id=Fh
   ·subst hid
    rw[hg]at a4;cases a4
    refine⟨_,Tr.bH _ _ _,?_⟩
    obtain⟨At,lo2,Sq,k1,k2,k3,k4,k5,k6,k7⟩:=a5
    have Fk:∀i v tag,i<a0+new.length→(eF (ep+1) new a0 c).get i=some ⟨v,tag⟩→tag≤Ls→i<a0∧c.get i=some ⟨v,tag⟩:=by
     intro i v tag DY kv pg
     rcases dV kv with⟨_,_,h3,_⟩|⟨h1,h2⟩
     ·have:=k5.1;simp only[]at h3;omega
     ·exact⟨by omega,h2⟩
    by_cases xh:p'.blk=p.blk
    ·obtain⟨_,Z2⟩:=hs.inj _ _ _ _ _ _ ku hp xh
     subst Z2
     rw[g1]at k1;cases k1
     refine⟨jH,lo,hi,e2,g2,fun i a b=>by rw[e3];exact g3 i a b,by rw[e3];exact g4,⟨Nat.le_succ_of_le k5.1,tags⟩,?_,fun e=>by have:=k5.1;omega⟩
     intro i v tag DY kv pg jo
     obtain⟨h1,h2⟩:=Fk i v tag DY kv pg
     obtain⟨v',h5,h6⟩:=k6 i v tag (by omega) h2 pg jo
     exact⟨v',by rw[aW i jo h1];exact h5,h6.mono hle⟩
    ·refine⟨At,lo2,Sq,by rw[e5 _ xh];exact k1,k2,k3,k4,⟨Nat.le_succ_of_le k5.1,tags⟩,?_,fun e=>by have:=k5.1;omega⟩
     intro i v tag DY kv pg jo
     obtain⟨h1,h2⟩:=Fk i v tag DY kv pg
     obtain⟨v',h5,h6⟩:=k6 i v tag (by omega) h2 pg jo
     exact⟨v',h5,h6.mono hle⟩
   ·refine⟨r',by rw[Tr.bI _ _ hid];exact a4,?_⟩
    have xh:p'.blk≠p.blk:=fun e=>hid (hs.inj _ _ _ _ _ _ hp ku e.symm).1
    rw[e5 _ xh];exact a5.mono hle
 ·intro id1 ep1 p1 id2 ep2 p2 h1 h2 he
  unfold bL.add at h1 h2
  split at h1<;>split at h2
  ·rename_i c1 c2;cases h1;cases h2;exact⟨c1.1.trans c2.1.symm,rfl⟩
  ·rename_i c1 _;cases h1;obtain⟨x,y⟩:=hs.inj _ _ _ _ _ _ hp h2 he;exact⟨c1.1.trans x,y⟩
  ·rename_i _ c2;cases h2;obtain⟨x,y⟩:=hs.inj _ _ _ _ _ _ h1 hp he;exact⟨x.trans c2.1.symm,y⟩
  ·exact hs.inj _ _ _ _ _ _ h1 h2 he
 ·unfold bL.add
  split
  ·rename_i hc;rw[hc.1]at hn;rw[hn]at hp;cases hp
  ·exact hn e
 ·exact Tr.bI _ _ (fun e=>by subst e;rw[hn]at hp;cases hp)
theorem aV.VD (hs:aV B ρ st w) {id top len off:Nat} {el:TypeId} {new:List AV} {mY rest cs:Array Value} (hp:ρ id ep=some p) (hg:st.heap.get id=some (.cells el c top ep sh))
 (hb:p.base≤off) (eR:w.heap[p.blk]?=some (.cells cs el fr)) (hold:∀j,j<len*sz→mY[j]?=cs[off-p.base+j]?) (holds:mY.size=len*sz) (tx:a0=off+len*sz) (V7:a0≤top) (nw:aP ρ new jJ.toList):
 aV B (ρ.add id (ep+1) ⟨w.heap.size,off,(mY++jJ++rest).size⟩) ⟨st.heap.set id (.cells el (eF (ep+1) new a0 c) (a0+new.length) (ep+1) sh),st.next⟩ (w.drew.alloc (.cells (mY++jJ++rest) el))∧
  gX B ρ st w (ρ.add id (ep+1) ⟨w.heap.size,off,(mY++jJ++rest).size⟩) ⟨st.heap.set id (.cells el (eF (ep+1) new a0 c) (a0+new.length) (ep+1) sh),st.next⟩ (w.drew.alloc (.cells (mY++jJ++rest) el)):=by
 obtain⟨hB,WR,dQ,r,hr,hrel⟩:=hs.mapped _ _ _ hp
 rw[hg]at hr;cases hr
 obtain⟨kz,lo,hi,g1,g2,g3,g4,g5,g6,g7⟩:=hrel
 rw[eR]at g1;cases g1
 have Fi:ρ id (ep+1)=none:=by
  cases hx:ρ id (ep+1)with
  |none=>rfl
  |some q=>
   obtain⟨_,_,_,r,hr,hrel⟩:=hs.mapped _ _ _ hx
   rw[hg]at hr;cases hr
   obtain⟨_,_,_,_,_,_,_,h5,_⟩:=hrel
   have:=h5.1;omega
 have hle:=bL.px (p:=⟨w.heap.size,off,(mY++jJ++rest).size⟩) Fi
 have Fs:jJ.size=new.length:=by rw[←Array.length_toList];exact nw.length
 have tags:∀i x,(eF (ep+1) new a0 c).get i=some x→x.tag≤ep+1:=fun i x hx=>by
  rcases dV hx with⟨_,_,h3,_⟩|⟨_,h4⟩
  ·omega
  ·have:=g5.2 i x h4;omega
 have sJ:(w.drew.alloc (.cells (mY++jJ++rest) el)).heap=w.heap.push (.cells (mY++jJ++rest) el):=rfl
 refine⟨⟨?_,?_,fun b hb=>by rw[sJ];simp;have:=hs.low b hb;omega⟩,⟨hle,Nat.le_refl _,fun i hi hn=>⟨fun e=>?_,?_⟩,fun b wo=>?_,by rw[sJ];simp,rfl,rfl,nz (w:=w.drew) (fun _ _ _ _ he=>by cases he;rfl)⟩⟩
 ·intro Fh Ls p' ku
  unfold bL.add at ku
  split at ku
  ·rename_i hc
   obtain⟨rfl,rfl⟩:=hc
   cases ku
   refine⟨fun hb=>absurd (hs.low _ hb) (Nat.lt_irrefl _),by rw[sJ];simp,dQ,_,Tr.bH _ _ _,_,0,0,by rw[sJ];simp,fun _=>⟨rfl,rfl⟩,fun i h1 h2=>by omega,rfl,⟨Nat.le_refl _,tags⟩,?_,?_⟩
   ·intro i v tag DY kv pg jo
    simp only[]at jo
    rcases dV kv with⟨h1,h2,_,h4⟩|⟨h1,h2⟩
    ·obtain⟨v',h5,h6⟩:=nw.get h4
     refine⟨v',?_,h6.mono hle⟩
     have h7:jJ[i-a0]?=some v':=by simpa using h5
     show(mY++jJ++rest)[i-off]?=some v'
     rw[Array.append_assoc,Array.getElem?_append_right (by omega),Array.getElem?_append_left (by omega)]
     rw[←h7];congr 1;omega
    ·have hia:i<a0:=by omega
     obtain⟨v',h5,h6⟩:=g6 i v tag (by omega) h2 (g5.2 i _ h2) (by omega)
     refine⟨v',?_,h6.mono hle⟩
     show(mY++jJ++rest)[i-off]?=some v'
     rw[Array.append_assoc,Array.getElem?_append_left (by omega),hold _ (by omega),←h5]
     congr 1;omega
   ·intro _ i DY Sq
    simp only[Array.size_append]at*
    omega
  ·obtain⟨a1,a2,a3,r',a4,a5⟩:=hs.mapped _ _ _ ku
   have Ua:(w.heap.push (.cells (mY++jJ++rest) el))[p'.blk]?=w.heap[p'.blk]?:=by rw[Array.getElem?_push,if_neg (by omega)]
   refine⟨a1,by rw[sJ];simp;omega,a3,?_⟩
   by_cases hid:id=Fh
   ·subst hid
    rw[hg]at a4;cases a4
    refine⟨_,Tr.bH _ _ _,?_⟩
    obtain⟨At,lo2,Sq,k1,k2,k3,k4,k5,k6,k7⟩:=a5
    refine⟨At,lo2,Sq,by rw[sJ,Ua];exact k1,k2,k3,k4,⟨Nat.le_succ_of_le k5.1,tags⟩,?_,fun e=>by have:=k5.1;omega⟩
    intro i v tag DY kv pg jo
    rcases dV kv with⟨_,_,h3,_⟩|⟨h1,h2⟩
    ·have:=k5.1;simp only[]at h3;omega
    ·obtain⟨v',h5,h6⟩:=k6 i v tag (by omega) h2 pg jo
     exact⟨v',h5,h6.mono hle⟩
   ·exact⟨r',by rw[Tr.bI _ _ hid];exact a4,by rw[sJ,Ua];exact a5.mono hle⟩
 ·intro id1 ep1 p1 id2 ep2 p2 h1 h2 he
  unfold bL.add at h1 h2
  split at h1<;>split at h2
  ·rename_i c1 c2;cases h1;cases h2;exact⟨c1.1.trans c2.1.symm,rfl⟩
  ·cases h1;have:=(hs.mapped _ _ _ h2).2.1;simp only[]at he;omega
  ·cases h2;have:=(hs.mapped _ _ _ h1).2.1;simp only[]at he;omega
  ·exact hs.inj _ _ _ _ _ _ h1 h2 he
 ·unfold bL.add
  split
  ·rename_i hc;rw[hc.1]at hn;rw[hn]at hp;cases hp
  ·exact hn e
 ·exact Tr.bI _ _ (fun e=>by subst e;rw[hn]at hp;cases hp)
 ·rw[sJ];have:=hs.low b wo;rw[Array.getElem?_push,if_neg (by omega)]
theorem DC (hs:aV B ρ st w) {ty:TypeId} {s:AV} {s':Value} {k:AV→St→Bool} (hS:aL ρ s s') (hX:aL ρ x x') (h:tE P st oS s x k=true):
 ∃v bt ρ' v' w',k v bt=true∧(Builtin.append_ oS ty #[s',x']).run P w=.ok v' w'∧aL ρ' v v'∧aV B ρ' bt w'∧gX B ρ st w ρ' bt w':=by
 unfold tE at h
 split at h<;>(try(cases h;done))
 rename_i sT h0
 split at h<;>(try(cases h;done))
 rename_i el hu hi
 split at h<;>(try(cases h;done))
 rename_i sz by_ n z cC Bj hn hz
 obtain⟨ti,z',nT,V6,V8,htz,VX⟩:=dP cC Bj hz
 rw[rX]at h
 split at h<;>(try(cases h;done))
 rename_i new nw
 split at h<;>(try(cases h;done))
 rename_i q1 q2
 have q1:=Nat.eq_of_beq_eq_true q1
 have q2:=Nat.eq_of_beq_eq_true q2
 obtain⟨jJ,KZ,Hy⟩:=nV (P:=P) hs hX hn (Nat.le_refl n) nw
 obtain⟨VO,Sk,Fp⟩:=nV (P:=P) (hs.drew (w.drawn+1)) hX hn (Nat.le_refl n) nw
 have Qc:z'.cells.size=sz+1:=by
  have:=(VX ρ).cells.length
  rw[←Array.length_toList,this,q2]
 have pI:=uK (P:=P) (w:=w) hX hn
 have Wp:VO.size=n*(sz+1):=by rw[←Array.length_toList,Sk.length,q1]
 split at h
 ·
  cases hS
  split at h
  ·rename_i wZ
   have wZ:=Nat.eq_of_beq_eq_true wZ
   subst wZ
   exact⟨.ec,st,ρ,_,w,h,p8 h0 hu hi cC pI (Nat.le_refl _) Hy rfl,.ec,hs,.refl _ _ _ _⟩
  ·rename_i wZ
   split at h<;>(try(cases h;done))
   rename_i jm
   have jm:=Nat.le_of_ble_eq_true jm
   rw[GQ]at h
   have fX:0<n:=Nat.pos_of_ne_zero fun e=>by subst e;simp at wZ
   obtain⟨dN,xe,cN⟩:=vf (ty:=ty) (len:=0) (cap:=0) (base:=none) (old:= #[]) h0 hu hi V6 nT V8 htz (by omega) pI (by omega) (by simpa using jm) rfl Fp
   obtain⟨ρ',r1,r2,r3⟩:=GO (el:=el) hs (pre:= #[]++VO) (rest:=Builtin.zeroCells z'.cells (dN-(0+n))) (by simpa using Sk)
   refine⟨_,_,ρ',_,_,h,cN,?_,r1,r2⟩
   simp only[Nat.zero_add]at r3⊢
   exact sM (z:=z) (z':=z) r3 (by simpa using Wp) Qc (by omega)
 ·rename_i id ep off len cap ex sz'
  obtain⟨cY,o,p,rfl,hp,hb,hc,he,hl,ho,KT⟩:=hS.iX
  split at h<;>(try(cases h;done))
  rename_i hz'
  have hz':=Nat.eq_of_beq_eq_true hz'
  subst hz'
  rw[bE]at h
  split at h
  ·
   rename_i jm
   have jm:=Nat.le_of_ble_eq_true jm
   rw[qc]at h
   split at h<;>(try(cases h;done))
   rename_i bt hputs
   by_cases h00:cY=0
   ·have wZ:n=0:=by omega
    have hl0:len=0:=by omega
    subst wZ
    have:new=[]:=by cases new with|nil=>rfl|cons _ _=>simp at q1
    subst this
    cases hputs
    have cH:jJ= #[]:=by apply Array.ext';cases hnr':jJ.toList with|nil=>rfl|cons _ _=>rw[hnr']at KZ;cases KZ
    subst cH
    exact⟨_,st,ρ,_,w,h,p8 h0 hu hi cC pI (by omega) Hy rfl,.slice _ _ _ _ _ _ _ cY o p hp hb hc he jm ho KT,hs,.refl _ _ _ _⟩
   ·have pH:=ho (by omega)
    subst pH
    obtain⟨w',g1,g2,g3⟩:=aV.wQ (B:=B) hp (P:=P) (off+len*(sz+1)) (by omega) new jJ.toList 0 st w hs KZ hputs
    refine⟨_,bt,ρ,_,w',h,p8 h0 hu hi cC pI (by omega) Hy ?_,.slice _ _ _ _ _ _ _ cY _ p hp hb hc he jm ho KT,g2,g3⟩
    simp only[eD p _ _ hb]
    exact g1
  ·rename_i jm
   split at h<;>(try(cases h;done))
   rename_i uZ
   have uZ:=Nat.le_of_ble_eq_true uZ
   have uT:cap<len+n:=by
    rcases Nat.lt_or_ge cap (len+n)with h1|h1
    ·exact h1
    ·rw[Nat.ble_eq_true_of_le h1]at jm;cases jm
   split at h
   ·
    have hex:=he rfl
    subst hex
    rw[rX]at h
    split at h<;>(try(cases h;done))
    rename_i old hold
    split at h<;>(try(cases h;done))
    rename_i q3
    have q3:=Nat.eq_of_beq_eq_true q3
    rw[GQ]at h
    obtain⟨Zb,Z5,Wl⟩:=nV (P:=P) (hs.drew (w.drawn+1)) hS (m:=len) rfl (Nat.le_refl len) hold
    have ak8:Zb.size=len*(sz+1):=by rw[←Array.length_toList,Z5.length,q3]
    obtain⟨dN,xe,cN⟩:=vf (ty:=ty) h0 hu hi V6 nT V8 htz (by omega) pI uT uZ Wl Fp
    obtain⟨ρ',r1,r2,r3⟩:=GO (el:=el) hs (pre:=Zb++VO) (rest:=Builtin.zeroCells z'.cells (dN-(len+n))) (l:=old++new) (by rw[Array.toList_append];exact Z5.append Sk)
    exact⟨_,_,ρ',_,_,h,cN,sM (z:=z) (z':=z) r3 (by rw[Array.size_append,ak8,Wp,←Nat.add_mul]) Qc xe,r1,r2⟩
   ·split at h<;>(try(cases h;done))
    rename_i el' c top lat sh hg
    split at h<;>(try(cases h;done))
    rename_i q4 q5 q6 q7
    have q4:=Nat.eq_of_beq_eq_true q4
    have q5:=Nat.le_of_ble_eq_true q5
    have q7:=Nat.eq_of_beq_eq_true q7
    subst q4 q7
    rw[bE,BA,bE,Tr.eG]at h
    have V7:off+(len+n)*(sz+1)=off+len*(sz+1)+new.length:=by rw[q1,Nat.add_mul];omega
    rw[V7]at h
    by_cases uV:len+n≤cY
    ·obtain⟨w',g1,g2,g3⟩:=hs.inPlace (P:=P) hp hg hb ho KT uV (by omega) q1 rfl q5 q6 KZ
     refine⟨_,_,_,_,w',h,p8 h0 hu hi cC pI uV Hy ?_,?_,g2,g3⟩
     ·exact g1
     ·exact .slice _ _ _ _ _ _ _ cY o p (bL.add_same _ _ _ _) hb uV (fun e=>by cases e) (Nat.le_refl _) ho KT
    ·obtain⟨hB,WR,dQ,r,hr,hrel⟩:=hs.mapped _ _ _ hp
     rw[hg]at hr;cases hr
     obtain⟨cs,lo,Fw,g1,g2,g3,g4,g5,g6,g7⟩:=hrel
     have gS:len*(sz+1)≤cY*(sz+1):=Nat.mul_le_mul_right _ (by omega)
     have hold:∃mY:Array Value,(Builtin.firstCells (sz+1) len (.slice (some ⟨p.blk,o,none⟩) len cY)).run P w.drew=.ok mY w.drew∧mY.size=len*(sz+1)∧∀j,j<len*(sz+1)→mY[j]?=cs[off-p.base+j]?:=by
      by_cases hl0:len=0
      ·subst hl0
       exact⟨#[],by simp only[Builtin.firstCells,Nat.zero_mul];rfl,by simp,fun j hj=>by omega⟩
      ·have pH:=ho (by omega)
       subst pH
       have hss:=KT (by omega)
       have hd:w.drew.heap[p.blk]?=some (.cells cs el' (lo,Fw)):=g1
       refine⟨cs.extract (off-p.base) (off-p.base+len*(sz+1)),?_,by rw[Array.size_extract];omega,fun j hj=>?_⟩
       ·have:=RN (P:=P) hd (off-p.base) (len*(sz+1)) 0 #[] (by omega)
        simp only[Builtin.firstCells,Go.loadCells,this]
        simp
       ·rw[Array.getElem?_extract,if_pos (by omega)]
     obtain⟨mY,k1,k2,k3⟩:=hold
     obtain⟨dN,xe,cN⟩:=vf (ty:=ty) h0 hu hi V6 nT V8 htz (by omega) pI (by omega) uZ k1 Fp
     obtain⟨r1,r2⟩:=hs.VD (rest:=Builtin.zeroCells z'.cells (dN-(len+n))) hp hg hb g1 k3 k2 rfl q5 Sk
     refine⟨_,_,_,_,_,h,cN,?_,r1,r2⟩
     refine .slice _ _ _ _ _ _ _ dN 0 _ (bL.add_same _ _ _ _) (Nat.le_refl _) xe (fun e=>by cases e) (Nat.le_refl _) (fun _=>by simp) (fun _=>?_)
     simp only[Array.size_append,yT,k2,Wp,Qc,Nat.sub_self,Nat.zero_add]
     have e1:len*(sz+1)+n*(sz+1)+(dN-(len+n))*(sz+1)=dN*(sz+1):=by rw[←Nat.add_mul,←Nat.add_mul];congr 1;omega
     omega
 ·cases h
end
end Go.Il
