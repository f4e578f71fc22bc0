/- function: pieces. -/
import Derived.Test.YtjkahfmdcpfjjaaGreatCY
import Derived.Maps.RangeRun
set_option linter.unusedVariables false
namespace Go.Proofs.YtjkahfmdcpfjjaaGreat
open Go.RowKit
section
set_option maxRecDepth 100000
set_option maxHeartbeats 8000000
theorem Dh (w:World) (gm cm:Nat) (fb fc ab ac:Nat) (g cg:Nat) (Pp:Option Addr) (pc:Nat) (A:Option Addr) (n c:Nat) (T:Option Addr) (tc:Nat) (l:List aE) (ret:Int) (hp:lr w fb fc ab ac gm cm g cg) (hh:oO w gm) (h:fe w g Pp pc A n c T tc l ret) (hn:n≤40) (bB:kC l ret) (M:Int→Int) (hW:∀v,W (M v)) (hs:∀o∈l,jx M o) (AB aw:Nat) (haw:1≤aw) (Ln:w.heap[AB]?=some (.cells #[.int .u16 (M 0)] 27 (0,0))):
 Calls Tryz.prog 21 #[.agg #[.slice (ad fb) 2 fc,.slice (ad ab) 2 ac,G 0,G (-1),Zs,Zs],G 1,.slice (ad AB) 1 aw,.string ⟨#[]⟩,.agg #[Zs,Zs],G 100] w (fun e w'=>∃r O no co kind xs,e=.returned (.agg #[.int .u16 r,.slice O no co,G kind,.int .u16 0,.string gj,G 0,G 0])∧ak w.heap.size w w'∧cR w' w.heap.size O no co xs∧AS M l ret r kind xs):=by
 obtain⟨S,hS⟩:∃S,w.heap.size=S:=⟨_,rfl⟩
 obtain⟨a1,s1,u1⟩:=av (.cells #[.slice (ad fb) 2 fc,.slice (ad ab) 2 ac,G 0,G (-1),Zs,Zs] 34) hS
 obtain⟨a2,s2,u2⟩:=av (.cells #[Zs,Zs] 26) s1
 obtain⟨a3,s3,u3⟩:=av (.cells #[.int .u16 0,Zs,G 0,.int .u16 0,.string ⟨#[]⟩,G 0,G 0] 49) s2
 have b1:=u3 _ _ (u2 _ _ a1)
 have b2:=u3 _ _ a2
 have l3:ak w.heap.size w (((w.alloc (.cells #[.slice (ad fb) 2 fc,.slice (ad ab) 2 ac,G 0,G (-1),Zs,Zs] 34)).alloc (.cells #[Zs,Zs] 26)).alloc (.cells #[.int .u16 0,Zs,G 0,.int .u16 0,.string ⟨#[]⟩,G 0,G 0] 49)):=((F0).alloc (by simp) _).alloc (by simp;omega) _
 have HP:=cf (hp.low l3);have HHL:=cf (hh.low l3);have H:=cf (h.low l3);have dA:=cf bB;have HS:=cf hs;have HW:=cf hW;have HA:=cf (l3.some Ln)
 clear hp hh h bB hW hs Ln u1 u2 u3 a1 a2 s1 s2
 go_enter Tryz.func21,Tryz.ntmps21
 go_upto_region 1 with fail
 have iW:=cf hS
 rw[hS]at l3
 obtain⟨t10,mF⟩:∃t,t=S+1:=⟨_,rfl⟩
 rw[←mF]at a3 b2 s3⊢
 obtain⟨t12,jK⟩:∃t,t=t10+1:=⟨_,rfl⟩
 rw[←jK]at a3 s3⊢
 have HTT:=cf (And.intro mF jK)
 clear hS mF jK
 generalize(((w.alloc (.cells #[.slice (ad fb) 2 fc,.slice (ad ab) 2 ac,G 0,G (-1),Zs,Zs] 34)).alloc (.cells #[Zs,Zs] 26)).alloc (.cells #[.int .u16 0,Zs,G 0,.int .u16 0,.string ⟨#[]⟩,G 0,G 0] 49))=w1 at a3 b1 b2 s3 l3 HP HHL H HA⊢
 have L3:=cf l3;have A3:=cf a3;have B1:=cf b1;have B2:=cf b2
 have nZ:Hid (w1.heap.size=t12+1):=cf s3
 have y0:=aC b1
 have hv:=rq w1 fb fc ab ac gm cm g cg Pp pc A n c T tc l ret HP.out HHL.out H.out hn dA.out
 have kE:2≤ac:=by obtain⟨Lq,Lu,f1,f2,f3,f4,f5,f6,f7,f8,_⟩:=HP.out;exact f8
 clear l3 a3 b1 b2 s3
 go_upto_region 3 with(first
  |(go_at_call 15;(with_reducible refine hv.mono ?_);rintro e w2 ⟨rfl,l2⟩;have AW:=cf l2;have yb0:w2.cell? ⟨S,0,none⟩=some (.slice (ad fb) 2 fc):=Yc (l2.some B1.out);have yb1:w2.cell? ⟨S,1,none⟩=some (.slice (ad ab) 2 ac):=Yc (l2.some B1.out);have ya:w2.cell? ⟨ab,1,none⟩=some (G 1):=(by obtain⟨Lq,Lu,f1,f2,f3,f4,f5,f6,_⟩:=HP.out;exact(Yc (l2.some f4)).trans f6)))
 have hq:=I8 w2 gm cm fb fc ab ac g cg Pp pc A n c T tc l ret (HP.out.low AW.out) (H.out.low AW.out) hn dA.out M HW.out HS.out AB aw haw (AW.out.some HA.out)
 have yb2:w2.cell? ⟨S,2,none⟩=some (G 0):=Yc (AW.out.some B1.out)
 have yb3:w2.cell? ⟨S,3,none⟩=some (G (-1)):=Yc (AW.out.some B1.out)
 have yb4:w2.cell? ⟨S,4,none⟩=some Zs:=Yc (AW.out.some B1.out)
 have yb5:w2.cell? ⟨S,5,none⟩=some Zs:=Yc (AW.out.some B1.out)
 have yt0:=gV (AW.out.some B2.out)
 clear y0 ya kE hv l2
 go_wp2_with(first
  |(go_at_call 16;(with_reducible refine hq.mono ?_);rintro e w3 ⟨r,O,no,co,kind,xs,rfl,l3,hO,hR⟩;have tv:=l3.some (AW.out.some A3.out);have ZP:=aB tv;have z0:w3.cell? ⟨t12,0,none⟩=some (.int .u16 0):=Yc tv;have f0:w3.frozen? ⟨t12,0,none⟩=false:=au tv;have z1:w3.cell? ⟨t12,1,none⟩=some Zs:=Yc tv;have f1:w3.frozen? ⟨t12,1,none⟩=false:=au tv;have z2:w3.cell? ⟨t12,2,none⟩=some (G 0):=Yc tv;have f2:w3.frozen? ⟨t12,2,none⟩=false:=au tv;have z3:w3.cell? ⟨t12,3,none⟩=some (.int .u16 0):=Yc tv;have f3:w3.frozen? ⟨t12,3,none⟩=false:=au tv;have z4:w3.cell? ⟨t12,4,none⟩=some (.string ⟨#[]⟩):=Yc tv;have f4:w3.frozen? ⟨t12,4,none⟩=false:=au tv;have z5:w3.cell? ⟨t12,5,none⟩=some (G 0):=Yc tv;have f5:w3.frozen? ⟨t12,5,none⟩=false:=au tv;have z6:w3.cell? ⟨t12,6,none⟩=some (G 0):=Yc tv;have f6:w3.frozen? ⟨t12,6,none⟩=false:=au tv;have HL3:=cf l3;have HO3:=cf hO;have Td:=cf hR;have TV:=cf tv;clear l3 hO hR tv))
 have q0:(w3.setCell ⟨t12,0,none⟩ (.int .u16 r)).heap[t12]?=some (.cells #[.int .u16 r,Zs,G 0,.int .u16 0,.string ⟨#[]⟩,G 0,G 0] 49 (0,0)):=by rw[aD TV.out];rfl
 have q1:((w3.setCell ⟨t12,0,none⟩ (.int .u16 r)).setCell ⟨t12,1,none⟩ (.slice O no co)).heap[t12]?=some (.cells #[.int .u16 r,.slice O no co,G 0,.int .u16 0,.string ⟨#[]⟩,G 0,G 0] 49 (0,0)):=by rw[aD q0];rfl
 have q2:(((w3.setCell ⟨t12,0,none⟩ (.int .u16 r)).setCell ⟨t12,1,none⟩ (.slice O no co)).setCell ⟨t12,2,none⟩ (G kind)).heap[t12]?=some (.cells #[.int .u16 r,.slice O no co,G kind,.int .u16 0,.string ⟨#[]⟩,G 0,G 0] 49 (0,0)):=by rw[aD q1];rfl
 have q3:((((w3.setCell ⟨t12,0,none⟩ (.int .u16 r)).setCell ⟨t12,1,none⟩ (.slice O no co)).setCell ⟨t12,2,none⟩ (G kind)).setCell ⟨t12,3,none⟩ (.int .u16 0)).heap[t12]?=some (.cells #[.int .u16 r,.slice O no co,G kind,.int .u16 0,.string ⟨#[]⟩,G 0,G 0] 49 (0,0)):=by rw[aD q2];rfl
 have q4:(((((w3.setCell ⟨t12,0,none⟩ (.int .u16 r)).setCell ⟨t12,1,none⟩ (.slice O no co)).setCell ⟨t12,2,none⟩ (G kind)).setCell ⟨t12,3,none⟩ (.int .u16 0)).setCell ⟨t12,4,none⟩ (.string gj)).heap[t12]?=some (.cells #[.int .u16 r,.slice O no co,G kind,.int .u16 0,.string gj,G 0,G 0] 49 (0,0)):=by rw[aD q3];rfl
 have q5:((((((w3.setCell ⟨t12,0,none⟩ (.int .u16 r)).setCell ⟨t12,1,none⟩ (.slice O no co)).setCell ⟨t12,2,none⟩ (G kind)).setCell ⟨t12,3,none⟩ (.int .u16 0)).setCell ⟨t12,4,none⟩ (.string gj)).setCell ⟨t12,5,none⟩ (G 0)).heap[t12]?=some (.cells #[.int .u16 r,.slice O no co,G kind,.int .u16 0,.string gj,G 0,G 0] 49 (0,0)):=by rw[aD q4];rfl
 have q6:(((((((w3.setCell ⟨t12,0,none⟩ (.int .u16 r)).setCell ⟨t12,1,none⟩ (.slice O no co)).setCell ⟨t12,2,none⟩ (G kind)).setCell ⟨t12,3,none⟩ (.int .u16 0)).setCell ⟨t12,4,none⟩ (.string gj)).setCell ⟨t12,5,none⟩ (G 0)).setCell ⟨t12,6,none⟩ (G 0)).heap[t12]?=some (.cells #[.int .u16 r,.slice O no co,G kind,.int .u16 0,.string gj,G 0,G 0] 49 (0,0)):=by rw[aD q5];rfl
 have wq:Hid (S≤t12):=cf (by have:=HTT.out;omega)
 have LV:=cf (L3.out.trans ((AW.out.trans (HL3.out.mono AW.out.size)).mono (by have:=HTT.out;have:=nZ.out;omega)))
 have LQ:ak S w (((((((w3.setCell ⟨t12,0,none⟩ (.int .u16 r)).setCell ⟨t12,1,none⟩ (.slice O no co)).setCell ⟨t12,2,none⟩ (G kind)).setCell ⟨t12,3,none⟩ (.int .u16 0)).setCell ⟨t12,4,none⟩ (.string gj)).setCell ⟨t12,5,none⟩ (G 0)).setCell ⟨t12,6,none⟩ (G 0)):=(((((((LV.out.setCell (g:=t12) (i:=0) wq.out (.int .u16 r)).setCell (g:=t12) (i:=1) wq.out (.slice O no co)).setCell (g:=t12) (i:=2) wq.out (G kind)).setCell (g:=t12) (i:=3) wq.out (.int .u16 0)).setCell (g:=t12) (i:=4) wq.out (.string gj)).setCell (g:=t12) (i:=5) wq.out (G 0)).setCell (g:=t12) (i:=6) wq.out (G 0))
 have OQ:cR (((((((w3.setCell ⟨t12,0,none⟩ (.int .u16 r)).setCell ⟨t12,1,none⟩ (.slice O no co)).setCell ⟨t12,2,none⟩ (G kind)).setCell ⟨t12,3,none⟩ (.int .u16 0)).setCell ⟨t12,4,none⟩ (.string gj)).setCell ⟨t12,5,none⟩ (G 0)).setCell ⟨t12,6,none⟩ (G 0)) w2.heap.size O no co xs:=(((((((HO3.out.kept fun g cs hg _=>aj (by have:=nZ.out;have:=AW.out.size;omega)).kept fun g cs hg _=>aj (by have:=nZ.out;have:=AW.out.size;omega)).kept fun g cs hg _=>aj (by have:=nZ.out;have:=AW.out.size;omega)).kept fun g cs hg _=>aj (by have:=nZ.out;have:=AW.out.size;omega)).kept fun g cs hg _=>aj (by have:=nZ.out;have:=AW.out.size;omega)).kept fun g cs hg _=>aj (by have:=nZ.out;have:=AW.out.size;omega)).kept fun g cs hg _=>aj (by have:=nZ.out;have:=AW.out.size;omega))
 clear q0 q1 q2 q3 q4 q5 z0 z1 z2 z3 z4 z5 z6 f0 f1 f2 f3 f4 f5 f6
 generalize(((((((w3.setCell ⟨t12,0,none⟩ (.int .u16 r)).setCell ⟨t12,1,none⟩ (.slice O no co)).setCell ⟨t12,2,none⟩ (G kind)).setCell ⟨t12,3,none⟩ (.int .u16 0)).setCell ⟨t12,4,none⟩ (.string gj)).setCell ⟨t12,5,none⟩ (G 0)).setCell ⟨t12,6,none⟩ (G 0))=uf at q6 LQ OQ⊢
 obtain⟨z0,z1,z2,z3,z4,z5,z6⟩:=vt q6
 exact bodyPost_ret (v:=.agg #[.int .u16 r,.slice O no co,G kind,.int .u16 0,.string gj,G 0,G 0]) (by simp[results,Tryz.results21,go_sem,z0,z1,z2,z3,z4,z5,z6];done) rfl ⟨r,O,no,co,kind,xs,rfl,by rw[iW.out];exact LQ,OQ.base (by have:=HTT.out;have:=nZ.out;have:=iW.out;have:=AW.out.size;omega),Td.out⟩
end
section
open Go.ChangeMaps (setBlock)
def Fe:Value→Int
 | .int _ k=>k
 |_=>0
def VU (e:MapEntry):Int×Value:=(Fe e.key,e.val)
theorem SK {kd:IntKind} {l:List (Int×Value)} {es:Array MapEntry} (h:vU kd l es):es.toList.map VU=l:=by
 have:=congrArg (List.map (fun p:Value×Value=>(Fe p.1,p.2))) h
 rw[List.map_map,List.map_map]at this
 have e:((fun p:Value×Value=>(Fe p.1,p.2))∘fun p:Int×Value=>(Value.int kd p.1,p.2))=id:=by funext p;rfl
 rw[e,List.map_id]at this
 exact this
theorem OT {kd:IntKind} {l:List (Int×Value)} {es:Array MapEntry} (h:vU kd l es) {e:MapEntry} (he:e∈es.toList):e.key=.int kd (Fe e.key):=by
 have:(e.key,e.val)∈l.map (fun p=>(Value.int kd p.1,p.2)):=by rw[←h];exact List.mem_map.2 ⟨e,he,rfl⟩
 obtain⟨p,_,hp⟩:=List.mem_map.1 this
 have:e.key=.int kd p.1:=(congrArg Prod.fst hp).symm
 rw[this];rfl
theorem filter_one (p:MapEntry→Bool) (e:MapEntry):∀{L:List MapEntry},(L.map (·.born)).Nodup→e∈L→p e=true→(L.filter p).Perm (e::L.filter (fun x=>p x&& !(x.born==e.born)))
 |[],_,h,_=>by cases h
 |x::L,hn,h,hp=>by
  rw[List.map_cons,List.nodup_cons]at hn
  rcases List.mem_cons.1 h with rfl|h
  ·have h1:L.filter (fun x=>p x&& !(x.born==e.born))=L.filter p:=List.filter_congr fun y hy=>by
    have:y.born≠e.born:=fun he=>hn.1 (List.mem_map.2 ⟨y,hy,he⟩)
    simp[this]
   simp[hp,h1]
  ·have cH:x.born≠e.born:=fun he=>hn.1 (List.mem_map.2 ⟨e,h,he.symm⟩)
   have ih:=filter_one p e hn.2 h hp
   by_cases hx:p x=true
   ·have e1:(x::L).filter p=x::L.filter p:=by simp[hx]
    have e2:(x::L).filter (fun x=>p x&& !(x.born==e.born))=x::L.filter (fun x=>p x&& !(x.born==e.born)):=by simp[hx,cH]
    rw[e1,e2]
    exact(List.Perm.cons x ih).trans (List.Perm.swap _ _ _)
   ·have e1:(x::L).filter p=L.filter p:=by simp[hx]
    have e2:(x::L).filter (fun x=>p x&& !(x.born==e.born))=L.filter (fun x=>p x&& !(x.born==e.born)):=by simp[hx]
    rw[e1,e2]
    exact ih
def eX (kd:IntKind) (w:World) (it g:Nat) (l V:List (Int×Value)):Prop:=∃es clock since seen c0,w.heap[g]?=some (.map es clock)∧vU kd l es∧(es.toList.map (·.born)).Nodup∧w.heap[it]?=some (.mapIter (some g) since seen c0)∧
 (∀x∈es.toList,x.born<since)∧since≤c0∧since≤clock∧(V++(leftOf es seen).toList.map VU).Perm l
variable {w':World}
theorem eX.low {kd:IntKind} {w:World} {it g:Nat} {l V:List (Int×Value)} (h:eX kd w it g l V) (hl:ak w.heap.size w w'):eX kd w' it g l V:=by
 obtain⟨es,clock,since,seen,c0,h1,h2,h3,h4,h5,h6,h7,h8⟩:=h
 exact⟨es,clock,since,seen,c0,hl.some h1,h2,h3,hl.some h4,h5,h6,h7,h8⟩
theorem eX.aW {kd:IntKind} {w:World} {it g:Nat} {l V:List (Int×Value)} (h:eX kd w it g l V) (hg:w'.heap[g]?=w.heap[g]?) (hi:w'.heap[it]?=w.heap[it]?):eX kd w' it g l V:=by
 obtain⟨es,clock,since,seen,c0,h1,h2,h3,h4,h5,h6,h7,h8⟩:=h
 exact⟨es,clock,since,seen,c0,hg.trans h1,h2,h3,hi.trans h4,h5,h6,h7,h8⟩
section
variable {P : Program} {kd : IntKind} {w : World} {it g : Nat} {l V : List (Int × Value)}
theorem BO {t k e:TypeId} (ht:P.underlying t=some (.map k e)) (h:aQ kd w g l):∃o,(Instr.range t (.map (some g))).run P w=.ok (.pointer (ad (w.heap.size))) (w.alloc o)∧eX kd (w.alloc o) w.heap.size g l []:=by
 obtain⟨es,cl,hg,he,hb,hn⟩:=h
 refine⟨.mapIter (some g) cl #[] cl,run_range_map w t k e g es cl ht hg,es,cl,cl,#[],cl,ir _ hg,he,hn,ao _ _,hb,Nat.le_refl _,Nat.le_refl _,?_⟩
 have:leftOf es #[]=es:=by unfold leftOf;rw[Array.filter_eq_self];intro x _;simp
 rw[this,List.nil_append,SK he]
theorem EK (h:eX kd w it g l V):
 ((∀ty,(Instr.next (.pointer (ad it)) false ty).run P w=.ok (.tuple #[.bool false]) w)∧V.Perm l)∨
 ∃k v w',(∀ty,(Instr.next (.pointer (ad it)) false ty).run P w=.ok (.tuple #[.bool true,.int kd k,v]) w')∧eX kd w' it g l (V++[(k,v)])∧(Instr.entry (.pointer (ad it))).run P w'=.ok (.tuple #[.int kd k,v]) w'∧aY [it] w w'∧w'.heap.size=w.heap.size∧V.length<l.length:=by
 obtain⟨es,clock,since,seen,c0,h1,h2,h3,h4,h5,h6,h7,h8⟩:=h
 have hgi:g≠it:=by rintro rfl;rw[h1]at h4;cases h4
 have WA:it<w.heap.size:=aB h4
 have key:=fun ty=>run_next_at (P:=P) w ty it g since c0 seen es clock h4 h1 h5 h6
 have ab5:∀ty ty',(Instr.next (.pointer (ad it)) false ty).run P w=(Instr.next (.pointer (ad it)) false ty').run P w:=fun ty ty'=>by
  simp only[Instr.next,getObj,Sem.run_bind,Sem.run,h4,h1,Result.andThen,next_test_false seen es since c0 h5 h6,Bool.false_eq_true,if_false]
 rcases key 0 with⟨h0,hr⟩|⟨e,he,w1,Qg,hr⟩
 ·refine .inl ⟨fun ty=>(ab5 ty 0).trans hr,?_⟩
  have:leftOf es seen= #[]:=Array.eq_empty_of_size_eq_zero h0
  rw[this]at h8
  simpa using h8
 ·obtain⟨hem,hes⟩:=mem_left he
  have hk:=OT h2 hem
  have hkv:VU e=(Fe e.key,e.val):=rfl
  obtain⟨k0,sS⟩:∃k,Fe e.key=k:=⟨_,rfl⟩
  rw[sS]at hk hkv
  rw[hk]at hr
  have R6:w1.heap=w.heap:=by rcases Qg with rfl|rfl<;>rfl
  have ZH:w1.os=w.os∧w1.output=w.output:=by rcases Qg with rfl|rfl<;>exact⟨rfl,rfl⟩
  have WV:(setBlock w1 it (.mapIter (some g) since (seen.push e.born) clock)).heap[it]?=some (.mapIter (some g) since (seen.push e.born) clock):=by
   simp[setBlock,R6,WA]
  have iz:∀b,b≠it→(setBlock w1 it (.mapIter (some g) since (seen.push e.born) clock)).heap[b]?=w.heap[b]?:=fun b hb=>by
   rw[bM _ hb,R6]
  have mw:=(iz g hgi).trans h1
  have hp:((leftOf es seen).toList.map VU).Perm (VU e::(leftOf es (seen.push e.born)).toList.map VU):=by
   have e1:(leftOf es seen).toList=es.toList.filter (fun x=> !seen.contains x.born):=by simp[leftOf]
   have e2:(leftOf es (seen.push e.born)).toList=es.toList.filter (fun x=>(!seen.contains x.born)&& !(x.born==e.born)):=by
    simp only[leftOf,Array.toList_filter]
    apply List.filter_congr
    intro x _
    rw[contains_push]
    simp
   rw[e1,e2]
   exact(filter_one (fun x=> !seen.contains x.born) e h3 hem (by show(!seen.contains e.born)=true;rw[hes];rfl)).map VU
  refine .inr ⟨k0,e.val,_,fun ty=>(ab5 ty 0).trans hr,?_,?_,⟨ZH.1,ZH.2,by simp[setBlock,R6],fun b _ hb=>iz b (by simpa using hb)⟩,by simp[setBlock,R6],?_⟩
  ·refine⟨es,clock,since,seen.push e.born,clock,mw,h2,h3,WV,h5,h7,h7,?_⟩
   rw[List.append_assoc]
   rw[hkv]at hp
   exact(List.Perm.append_left V hp.symm).trans h8
  ·rw[run_entry_at _ it g since seen es clock e WV mw hem h3,hk]
  ·have:=h8.length_eq
   have h9:=hp.length_eq
   rw[List.length_append,h9]at this
   simp at this
   omega
end
end
section
set_option maxRecDepth 100000
set_option maxHeartbeats 8000000
theorem cR.at_ {w:World} {S:Nat} {O:Option Addr} {n c:Nat} {xs:List (Int×Int)} (h:cR w S O n c xs) {j:Nat} {p:Int×Int} (hj:xs[j]?=some p):∃g cs,O=some ⟨g,0,none⟩∧n≤c∧w.heap[g]?=some (.cells cs 90 (0,0))∧cs[j*2]?=some (.int .u16 p.1)∧cs[j*2+1]?=some (.int .u16 p.2):=by
 obtain⟨hn,hO⟩:=h
 rcases hO.form with⟨e,rfl⟩|⟨g,c',cs,e,h2,h3,h4⟩
 ·have:=List.length_eq_zero_iff.1 hn
  subst this
  simp at hj
 ·cases e
  have key:∀(xs:List (Int×Int)) (j:Nat),xs[j]?=some p→(vn xs)[j*2]?=some (.int .u16 p.1)∧(vn xs)[j*2+1]?=some (.int .u16 p.2):=by
   intro xs
   induction xs with
   |nil=>intro j hj;simp at hj
   |cons y ys ih=>
    intro j hj
    cases j with
    |zero=>simp at hj;subst hj;exact⟨rfl,rfl⟩
    |succ j=>
     have e1:(j+1)*2=j*2+1+1:=by omega
     rw[e1]
     exact ih j (by simpa using hj)
  obtain⟨k1,k2⟩:=key xs j hj
  exact⟨g,cs,rfl,h4,h3,(Yc h3).symm.trans (hO.cell k1),(Yc h3).symm.trans (hO.cell k2)⟩
theorem Mn (w:World) (S1 S2:Nat) (O1 O2:Option Addr) (n c1 c2:Nat) (xs:List (Int×Int)) (h1:cR w S1 O1 n c1 xs) (h2:cR w S2 O2 n c2 xs) (hn:n≤1000) (r kind:Int) (s:ByteArray):
 Calls Tryz.prog 17 #[.agg #[.int .u16 r,.slice O1 n c1,G kind,.int .u16 0,.string s,G 0,G 0],.agg #[.int .u16 r,.slice O2 n c2,G kind,.int .u16 0,.string s,G 0,G 0]] w (fun e w'=>e=.returned (.bool true)∧ak w.heap.size w w'):=by
 obtain⟨S,hS⟩:∃S,w.heap.size=S:=⟨_,rfl⟩
 obtain⟨a1,s1,u1⟩:=av (.cells #[.int .u16 r,.slice O1 n c1,G kind,.int .u16 0,.string s,G 0,G 0] 49) hS
 obtain⟨a2,s2,u2⟩:=av (.cells #[.int .u16 r,.slice O2 n c2,G kind,.int .u16 0,.string s,G 0,G 0] 49) s1
 have b1:=u2 _ _ a1
 have l2:ak w.heap.size w ((w.alloc (.cells #[.int .u16 r,.slice O1 n c1,G kind,.int .u16 0,.string s,G 0,G 0] 49)).alloc (.cells #[.int .u16 r,.slice O2 n c2,G kind,.int .u16 0,.string s,G 0,G 0] 49)):=(F0).alloc (by simp) _
 have H1:=cf (h1.low l2);have H2:=cf (h2.low l2)
 clear h1 h2 u1 u2 a1 s1
 go_enter Tryz.func17,Tryz.ntmps17
 go_upto_region 1 with fail
 have iW:=cf hS
 rw[hS]at l2
 obtain⟨t3,lZ⟩:∃t,t=S+1:=⟨_,rfl⟩
 rw[←lZ]at a2 s2⊢
 clear hS lZ s2
 generalize(w.alloc (.cells #[.int .u16 r,.slice O1 n c1,G kind,.int .u16 0,.string s,G 0,G 0] 49)).alloc (.cells #[.int .u16 r,.slice O2 n c2,G kind,.int .u16 0,.string s,G 0,G 0] 49)=w1 at a2 b1 l2 H1 H2⊢
 have y0:=bf b1
 have z0:=bf a2
 have y1:=jw b1
 have z1:=jw a2
 have y2:=rn b1
 have z2:=rn a2
 have y3:=mM b1
 have z3:=mM a2
 have y4:=vE b1
 have z4:=vE a2
 have y5:=Lt b1
 have z5:=Lt a2
 have y6:=Pw b1
 have z6:=Pw a2
 have L2:=cf l2;have A2:=cf a2;have B1:=cf b1
 clear l2 a2 b1
 go_upto_region 4 with fail
 clear y0 y1 y2 y3 y4 y5 y6 z0 z1 z2 z3 z4 z5 z6
 go_loopw[5] (fun i wr=>∃q:Nat,i=G q∧q≤n∧ak w1.heap.size w1 wr) (fun i _=>n-(intOf i).toNat)
 case atStart=>exact⟨0,rfl,by omega,ak.refl _ _⟩
 case round=>
  obtain⟨q,rfl,hq,hL⟩:=hrel
  obtain⟨wv,rfl⟩:∃u,u=wr:=⟨_,rfl⟩
  have y1:=jw (hL.some B1.out)
  have z1:=jw (hL.some A2.out)
  have hlen:xs.length=n:=H1.out.1
  by_cases bw:q<n
  ·have bN:(q:Int)<(n:Int):=by omega
   have nu:(0:Int)≤(q:Int):=by omega
   have mI:(q:Int)≤1000:=by omega
   obtain⟨p,hp⟩:∃p,xs[q]?=some p:=⟨_,List.getElem?_eq_getElem (by omega)⟩
   obtain⟨g1,YI,rfl,Lj,Fz,k0,k1⟩:=H1.out.at_ hp
   obtain⟨g2,At,rfl,Qx,mc,m0,m1⟩:=H2.out.at_ hp
   obtain⟨p1,p2⟩:=p
   have d0:wv.cell? ⟨g1,q*2,none⟩=some (.int .u16 p1):=(Yc (hL.some Fz)).trans k0
   have d1:wv.cell? ⟨g1,q*2+1,none⟩=some (.int .u16 p2):=(Yc (hL.some Fz)).trans k1
   have e0:wv.cell? ⟨g2,q*2,none⟩=some (.int .u16 p1):=(Yc (hL.some mc)).trans m0
   have e1:wv.cell? ⟨g2,q*2+1,none⟩=some (.int .u16 p2):=(Yc (hL.some mc)).trans m1
   have HL:=cf hL
   clear Fz mc k0 k1 m0 m1 hp hL
   go_upto_region 6 with fail
   go_quiet(fail)
   clear d0 d1 e0 e1 y1 z1
   go_wp2_with fail
   exact⟨⟨q+1,by simp,bw,HL.out.drewN _⟩,by show n-((q:Int)+1).toNat<n-((q:Int)).toNat;omega⟩
  ·have bN:¬(q:Int)<(n:Int):=by omega
   have HL:=cf hL
   clear hL
   go_wp2_with fail
   go_ret
   exact⟨rfl,by rw[iW.out];exact L2.out.trans (HL.out.mono (by have:=L2.out.size;have:=iW.out;omega))⟩
end
section
set_option maxRecDepth 100000
set_option maxHeartbeats 8000000
variable {w:World} {S c g n:Nat} {l:List aE}
theorem cJ.of {cs:Array Value} (h:dk w (ad g) n c l) (hg:w.heap[g]?=some (.cells cs 67 (0,0))) (hS:S≤g) (hc:cs.size=c*6) (hn:n≤c) (hm:c≤maxLen):cJ w S (ad g) n c l:=by
 refine⟨h.1,by rw[dp,h.1],.inr ⟨g,c,cs,rfl,hS,hg,hn,hm,hc,?_⟩⟩
 apply List.ext_getElem?
 intro j
 by_cases hj:j<n*6
 ·have Uk:j<(rowOf l).length:=by rw[dp,h.1];exact hj
  have hr:=h.row j _ (List.getElem?_eq_getElem Uk)
  have ve:(⟨g,0,none⟩:Addr).add j=⟨g,j,none⟩:=by
   by_cases h0:j=0
   ·subst h0;simp[Addr.add]
   ·simp[Addr.add,h0]
  rw[ve,Yc hg]at hr
  rw[List.getElem?_take,if_pos hj,List.getElem?_eq_getElem Uk,←hr]
  simp
 ·rw[List.getElem?_eq_none (by rw[List.length_take];omega),List.getElem?_eq_none (by rw[dp,h.1];omega)]
theorem cJ.max (h:cJ w S (ad g) n c l):S≤g∧n≤c∧c≤maxLen∧∃cs,w.heap[g]?=some (.cells cs 67 (0,0))∧cs.size=c*6:=by
 obtain⟨h0,⟨h1,_⟩|⟨g',c',cur,h1,h2,h3,h4,h5,h6,h7⟩⟩:=h.2
 ·cases h1
 ·cases h1
  exact⟨h2,h4,h5,cur,h3,h6⟩
theorem SW {A:Option Addr} (h:cJ w S A n c l) {ga m d:Nat} {l2:List aE} (h2:dU w ga m d l2) (hn:n+m≤1000) (hS:S≤w.heap.size):
 ∃A' c' w',(Builtin.append_ #[57,57] 57 #[.slice A n c,.slice (ad ga) m d]).run Tryz.prog w=.ok (.slice A' (n+m) c') w'∧cJ w' S A' (n+m) c' (l++l2)∧ak S w w'∧(∀b,b<w.heap.size→(∀cs,w.heap[b]?≠some (.cells cs 67 (0,0)))→w'.heap[b]?=w.heap[b]?):=by
 obtain⟨ti,z,hi,hz,np,Bj,RZ⟩:=DF.info
 have CJ:∀u∈rowOf l2,u.oneCell'=true:=by
  intro u hu
  obtain⟨o,_,ho⟩:=List.mem_flatMap.1 hu
  simp[aE.cells]at ho
  rcases ho with rfl|rfl|rfl|rfl|rfl|rfl<;>rfl
 obtain⟨v',w',cN,h3,h4,_⟩:=run_append_own (P:=Tryz.prog) w S 57 57 67 ti z 6 64 DF.ht hi hz np Bj RZ DF.pos (.slice A n c) n (rowOf l) h.2 ⟨ga,0,none⟩ m d (rowOf l2) (by rw[dp,h2.1]) h2.LL.row CJ (by have:maxLen=9223372036854775807:=rfl;omega) (by omega) hS
 have h3':Own w' S 67 6 v' (n+m) (rowOf l++rowOf l2):=h3
 obtain⟨A',c',rfl⟩:=h3'.slice
 have cH:∀b,b<w.heap.size→some b≠(Value.slice A n c).ownBlock→w'.heap[b]?=w.heap[b]?:=fun b hb he=>h4.block b hb he
 refine⟨A',c',w',cN,⟨by simp[h.1,h2.1],by rw[show rowOf (l++l2)=rowOf l++rowOf l2 by simp[rowOf]];exact h3'⟩,⟨h4.os,h4.output,h4.size,fun g hg=>cH g (by omega) fun he=>?_⟩,fun b hb hc=>cH b hb fun he=>?_⟩
 ·rcases h.2.form with⟨h1,_⟩|⟨g',c,cs,h1,h2,h3,_⟩
  ·rw[h1]at he;cases he
  ·rw[h1]at he;simp[Value.ownBlock]at he;omega
 ·rcases h.2.form with⟨h1,_⟩|⟨g',c,cs,h1,h2,h3,_⟩
  ·rw[h1]at he;cases he
  ·rw[h1]at he
   simp[Value.ownBlock]at he
   subst he
   exact hc _ h3
theorem Ks:∀(args:Array Value) (w:World),(callFunc 114 args).run Tryz.prog w=.ok (.enter 114 args) w:=dM Tryz.func114 (by kernel_rfl) rfl
theorem Ej (w:World) (z um:Nat) (us:List Int) (hz:w.cell? ⟨z,0,none⟩=some (.map (some um))) (hu:aQ .i64 w um (nc us)) (o:aE):
 Calls Tryz.prog 114 #[OV o,.pointer (ad z)] w (fun e w'=>e=.returned (.bool (!decide (o.res∈us)))∧ak w.heap.size w w'):=by
 have l1:ak w.heap.size w (w.alloc (OC o)):=F0
 have a1:=ao w (OC o)
 have z1:=(World.cell?_alloc_lt w (OC o) _ (bq hz)).trans hz
 have hl:=ql (hu.low l1) o.res
 generalize decide (o.res∈us)=b at hl⊢
 clear hz hu
 go_enter Tryz.func114,Tryz.ntmps114
 go_upto_region 1 with fail
 obtain⟨t2,nU⟩:∃t,t=w.heap.size:=⟨_,rfl⟩
 rw[←nU]at a1⊢
 clear nU
 generalize w.alloc (OC o)=w1 at l1 a1 z1 hl⊢
 have x1:=jw a1
 have L1:=cf l1
 clear l1 a1
 cases b<;>(go_wp2_with fail;go_ret;exact⟨rfl,L1.out⟩)
def vO (w0:World) (z um:Nat) (U:List Int) (vs:List Int) (w:World):Prop:=aY [um] w0 w∧aQ .i64 w um (nc (vs.foldl nI U))∧w.heap[z]?=some (.cells #[.map (some um)] 150 (0,0))
theorem LJ (w0:World) (z um:Nat) (U:List Int) (hz:z<w0.heap.size) (hu:um<w0.heap.size) (vs:List Int):Inv2 w0.heap.size (vO w0 z um U vs):=⟨fun w o h=>⟨h.1.tail ((ak.refl _ _).alloc h.1.size _),h.2.1.low (F0),ir _ h.2.2⟩,fun w g i v hg _ h=>⟨h.1.tail ((ak.refl _ _).setCell hg _),h.2.1.aW (aj (by omega)),(aj (by omega)).trans h.2.2⟩⟩
theorem tN (w0:World) (z um:Nat) (U vs:List Int) (v:Int) (hz:z<w0.heap.size) (hu:um<w0.heap.size):vT w0.heap.size (vO w0 z um U vs) (vO w0 z um U (vs++[v])) 113 #[] #[.pointer (ad z)] v v:=by
 intro w1 h hs
 refine(xr w1 z um (vs.foldl nI U) (Yc h.2.2) h.2.1 v).mono ?_
 rintro e w2 ⟨rfl,hc,hm,cC⟩
 have hzu:z∉[um]:=by
  rw[List.mem_singleton]
  rintro rfl
  obtain⟨es,cl,hg,_⟩:=h.2.1
  have h3:=h.2.2
  rw[hg]at h3;cases h3
 exact⟨rfl,⟨h.1.trans hc,by rw[List.foldl_append];exact hm,hc.obj h.2.2 hzu⟩,by omega,fun g hg _=>by
  by_cases bw:g<w1.heap.size
  ·exact hc.block g bw (by rw[List.mem_singleton];omega)
  ·rw[Array.getElem?_eq_none (by omega),Array.getElem?_eq_none (by omega)]⟩
end
end Go.Proofs.YtjkahfmdcpfjjaaGreat
