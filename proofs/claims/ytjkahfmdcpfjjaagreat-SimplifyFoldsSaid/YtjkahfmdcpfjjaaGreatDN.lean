/- Constants are folded: for every operation, all words and all arguments, the statement's call returns true, and its arguments read as before. No condition. -/
import Derived.Test.YtjkahfmdcpfjjaaGreatDL
import Derived.Deep.Frames
import Derived.ProofKit
import Derived.WideKeyArr2
set_option linter.unusedVariables false
namespace Go.Proofs.YtjkahfmdcpfjjaaGreat
set_option maxRecDepth 100000
set_option maxHeartbeats 1600000
open Go.ChangeShapes Go.WideShapes Go.ChangeAt Go.RowKit Go.WideMaps
theorem Tryz.own:ownKnob Tryz.prog.godebug=none:=by kernel_rfl
theorem Tryz.laidOut:laidOutB Tryz.prog=true:=by kernel_rfl
theorem Tryz.Iv:Tryz.prog.cellsOf 27=1:=by kernel_rfl
theorem Tryz.Iu:Tryz.prog.cellsOf 64=2:=by kernel_rfl
theorem yV {n:Int} (h:(Lit.int .u16 n).wf=true):W n:=by
 simp only[Lit.wf,Bool.and_eq_true,decide_eq_true_eq]at h
 have h1:IntKind.u16.min=0:=by decide
 have h2:IntKind.u16.max=65535:=by decide
 rw[h1,h2]at h
 exact⟨h.1,by omega⟩
section
variable {H : Type} {enc : TypeId × Value → H} {V : World}
variable {v:Value} {d:DataW H} {p:List MemPlace}
theorem KF (h:DataW.Trod enc Tryz.prog V 0 (fun _=>true) true 27 v d p) (hv:∃n,v=.int .u16 n):∃n,v=.int .u16 n∧W n∧p=[]:=by
 obtain⟨n,rfl⟩:=hv
 obtain⟨fu,hf⟩:=h
 obtain⟨m,e,hx,hw⟩:=DataW.trod_int Tryz.underlying27 hf
 simp[Value.cells]at e
 subst e
 simp only[Prod.mk.injEq]at hx
 exact⟨n,rfl,yV hw,hx.2⟩
theorem Pq (h:DataW.Trod enc Tryz.prog V 0 (fun _=>true) true 3 v d p) (hv:∃n,v=G n):p=[]:=by
 obtain⟨n,rfl⟩:=hv
 obtain⟨fu,hf⟩:=h
 obtain⟨m,e,hx,hw⟩:=DataW.trod_int Tryz.underlying3 hf
 simp only[Prod.mk.injEq]at hx
 exact hx.2
theorem KG (h:DataW.Trod enc Tryz.prog V 0 (fun _=>true) true 64 v d p) (hv:∃xs:Array Value,v=.agg xs∧xs.size=2):∃a b,v=.agg #[.int .u16 a,.int .u16 b]∧W a∧W b∧p=[]:=by
 obtain⟨xs,rfl,hs⟩:=hv
 obtain⟨x,y,rfl⟩:∃x y,xs= #[x,y]:=by
  obtain⟨l⟩:=xs
  match l,hs with
  |[x,y],_=>exact⟨x,y,rfl⟩
 obtain⟨fuel,hf⟩:=h
 cases fuel with
 |zero=>simp[DataW.trod]at hf
 |succ m=>
  rw[DataW.trod_step]at hf
  unfold DataW.trodStep at hf
  simp only[Tryz.underlying64,Value.cells]at hf
  rw[if_pos (by rw[Tryz.Iu];rfl)]at hf
  simp only[Option.map_eq_some_iff]at hf
  obtain⟨ys,hy,e1⟩:=hf
  rw[Tryz.Iv]at hy
  have hr:List.range 2=[0,1]:=rfl
  rw[hr,List.mapM_cons,List.mapM_cons,List.mapM_nil]at hy
  simp only[bind,Option.bind_eq_some_iff,pure,Option.some.injEq]at hy
  obtain⟨y0,h0,ys1,⟨y1,h1,ys2,rfl,rfl⟩,rfl⟩:=hy
  obtain⟨a,ea,rfl,wa⟩:=DataW.trod_int Tryz.underlying27 h0
  obtain⟨b,eb,rfl,wb⟩:=DataW.trod_int Tryz.underlying27 h1
  simp at ea eb
  subst ea eb
  simp only[Prod.mk.injEq]at e1
  exact⟨a,b,rfl,yV wa,yV wb,by rw[←e1.2];simp⟩
end
theorem Fb (os:Os) (started:os.Started) (H:Type) (enc:TypeId×Value→H):
 ReturnsInHanded {} Tryz.checked os 5 .any (Rows.simplifyFoldsSpec.pre6 enc Tryz.prog Tryz.f5 Rows.simplifyFoldsRow.domain false) (Rows.simplifyFoldsSpec.post enc Tryz.prog Tryz.f5 false true false false):=by
 refine returnsInHanded_of_change (C:=Tryz.checked) Tryz.own started (by kernel_rfl) Tryz.func5
  (ChangeSpec.witness6 (enc:=enc) (C:=Tryz.checked) false ⟨#[],#[G 0,.agg #[.int .u16 0,.int .u16 0],.int .u16 0],[]⟩ 8 (by kernel_rfl) (by kernel_rfl) (by kernel_rfl) (by kernel_rfl)) ?_
 intro V base args ds gs before TN hW ax4 _
 have kM:∀(j:Nat) t v,Tryz.f5.params[j]?=some t→args[j]?=some v→Value.okWide Tryz.prog V .any base t v:=TN
 have hW':=hW
 obtain⟨p,q,YE,hV,rfl,hfz,rQ⟩:=hW
 have hA:DataW.TrodAll enc Tryz.prog V 0 (fun _=>true) true Tryz.f5.params.toList args.toList ds p:=YE
 rw[Tryz.params5]at hA kM
 obtain⟨v0,v1,v2,d0,d1,d2,p0,p1,p2,rfl,rfl,rfl,h0,h1,h2⟩:=trodAll_three hA
 obtain⟨rfl,rfl⟩:=trodVars_none hV
 have hi0:=okWide_int Tryz.underlying3 (kM 0 3 v0 rfl rfl)
 have Sq:=okWide_int Tryz.underlying27 (kM 2 27 v2 rfl rfl)
 have DY:=okWide_arr (⟨Tryz.underlying64,by kernel_rfl,Tryz.Iv,Tryz.Iu⟩:ArrKey Tryz.prog 64 27 2) (kM 1 64 v1 rfl rfl)
 obtain rfl:=Pq h0 hi0
 obtain⟨a,b,rfl,wa,wb,rfl⟩:=KG h1 DY
 obtain⟨x,rfl,wx,rfl⟩:=KF h2 Sq
 obtain⟨z,rfl⟩:=hi0
 clear YE TN
 simp only[List.append_nil]at hW'
 refine(RQ V z a b x wa wb wx).mono fun e V' ⟨he,hk⟩=>?_
 subst he
 refine⟨_,rfl,?_⟩
 have A0:DataW.Trod enc Tryz.prog V' 0 (fun x=>decide (x<V.heap.size)) true 3 (G z) d0 []:=
  WideElems.Trod_stays Tryz.laidOut (by kernel_rfl) (of_decide_eq_true (by kernel_rfl)) h0 (fun x hx=>by cases hx) (fun x hx=>by cases hx)
 have A1:DataW.Trod enc Tryz.prog V' 0 (fun x=>decide (x<V.heap.size)) true 64 (.agg #[.int .u16 a,.int .u16 b]) d1 []:=
  WideElems.Trod_stays Tryz.laidOut (by kernel_rfl) (of_decide_eq_true (by kernel_rfl)) h1 (fun x hx=>by cases hx) (fun x hx=>by cases hx)
 have A2:DataW.Trod enc Tryz.prog V' 0 (fun x=>decide (x<V.heap.size)) true 27 (.int .u16 x) d2 []:=
  WideElems.Trod_stays Tryz.laidOut (by kernel_rfl) (of_decide_eq_true (by kernel_rfl)) h2 (fun x hx=>by cases hx) (fun x hx=>by cases hx)
 have RES:DataW.Trod enc Tryz.prog V' V.heap.size (fun _=>false) false 4 (.bool true) (.lit (.bool true)) []:=⟨1,by simp[DataW.trod,Value.cells,Tryz.underlying4]⟩
 exact⟨_,_,_,[],[],[],hW',trodAll_mk1 RES,trodAll_mk3 A0 A1 A2,rfl,World.keptBut_mono (fun _ f=>f.elim) hk,fun h=>by cases h⟩
theorem simplifyFolds_holds:Rows.SimplifyFoldsSaid:=
 OpenClaim.holds_of_wide 5 Tryz.f5 rfl rfl rfl rfl rfl rfl rfl ⟨rfl,rfl,rfl,rfl,rfl⟩ rfl rfl rfl rfl rfl (by kernel_rfl) Tryz.func5 (by kernel_rfl)
  (of_decide_eq_true (by kernel_rfl)) (by unfold Func.isWrapper;first|(rw[if_pos (by decide+kernel)];kernel_rfl)|(rw[if_neg (by decide+kernel)];exact⟨rfl,rfl⟩))
  (fun os started H enc _=>Fb os started H enc)
#print axioms simplifyFolds_holds
end Go.Proofs.YtjkahfmdcpfjjaaGreat
