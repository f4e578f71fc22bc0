/- The reference: Quick. -/
import Derived.Test.YtjkahfmdcpfjjaaGreatCX
set_option linter.unusedVariables false
namespace Go.Proofs.YtjkahfmdcpfjjaaGreat
open Go.RowKit
set_option maxRecDepth 100000
set_option maxHeartbeats 8000000
def gj:ByteArray:=(List.replicate 8192 (0:Int)).foldl (fun r n=>r.push (UInt8.ofNat n.toNat)) ByteArray.empty
theorem uj (u:World) (R:Nat) (h:u.heap[R]?=some (.cells iG 5 (0,0))):(convert 24 9 (.slice (ad R) 8192 8192)).run Tryz.prog u=.ok (.string gj) u:=by
 rw[run_convert_bytes_string u 24 9 5 _ _ _ Tryz.underlying24 Tryz.underlying5 Tryz.underlying9]
 have hz:iG.toList=(List.replicate 8192 (0:Int)).map (Value.int .u8):=by
  unfold iG
  rw[toList_madeCells_one,List.map_replicate]
 have hl:=run_loadCells_list (P:=Tryz.prog) u ⟨R,0,none⟩ iG.toList (fun j v hj=>by
  have ve:(⟨R,0,none⟩:Addr).add j=⟨R,j,none⟩:=by
   by_cases h0:j=0
   ·subst h0;simp[Addr.add]
   ·simp[Addr.add,h0]
  rw[ve,Yc h]
  simpa using hj)
 have hn:iG.toList.length=8192:=by rw[hz,List.length_map,List.length_replicate]
 rw[hn]at hl
 rw[hz]at hl
 exact run_bytesToString u ⟨R,0,none⟩ 8192 8192 _ hl
def AS (M:Int→Int) (l:List aE) (ret:Int) (r:Int) (kind:Int) (xs:List (Int×Int)):Prop:=
 ((∀(q:Nat) (o:aE),l[q]?=some o→¬cU M o)∧r=M ret∧kind=6∧xs=dK M l)∨
 (∃(q:Nat) (o:aE),l[q]?=some o∧cU M o∧(∀(j:Nat) (o':aE),j<q→l[j]?=some o'→¬cU M o')∧r=0∧kind=4∧xs=dK M (l.take q))
theorem I8 (w:World) (gm cm:Nat) (fb fc ab ac:Nat) (g cg:Nat) (Pp:Option Addr) (pc:Nat) (A:Option Addr) (n c:Nat) (T:Option Addr) (tc:Nat) (l:List aE) (ret:Int) (hp:lr w fb fc ab ac gm cm g cg) (h:fe w g Pp pc A n c T tc l ret) (hn:n≤40) (bB:kC l ret) (M:Int→Int) (hW:∀v,W (M v)) (hs:∀o∈l,jx M o) (AB aw:Nat) (haw:1≤aw) (Ln:w.heap[AB]?=some (.cells #[.int .u16 (M 0)] 27 (0,0))):
 Calls Tryz.prog 16 #[.agg #[.slice (ad fb) 2 fc,.slice (ad ab) 2 ac,G 0,G (-1),Zs,Zs],G 1,.slice (ad AB) 1 aw,.string ⟨#[]⟩,.agg #[Zs,Zs],G 100] w (fun e w'=>∃r O no co kind xs,e=.returned (.agg #[.int .u16 r,.slice O no co,G kind,.int .u16 0,.string gj,G 0,G 0])∧ak w.heap.size w w'∧cR w' w.heap.size O no co xs∧AS M l ret r kind xs):=by
 obtain⟨S,hS⟩:∃S,w.heap.size=S:=⟨_,rfl⟩
 obtain⟨a1,s1,u1⟩:=av (.cells #[.slice (ad fb) 2 fc,.slice (ad ab) 2 ac,G 0,G (-1),Zs,Zs] 34) hS
 obtain⟨a2,s2,u2⟩:=av (.cells #[Zs,Zs] 26) s1
 obtain⟨a3,s3,u3⟩:=av (.cells #[.int .u16 0,Zs,G 0,.int .u16 0,.string ⟨#[]⟩,G 0,G 0] 49) s2
 have b1:=u3 _ _ (u2 _ _ a1)
 have b2:=u3 _ _ a2
 have l3:ak w.heap.size w (((w.alloc (.cells #[.slice (ad fb) 2 fc,.slice (ad ab) 2 ac,G 0,G (-1),Zs,Zs] 34)).alloc (.cells #[Zs,Zs] 26)).alloc (.cells #[.int .u16 0,Zs,G 0,.int .u16 0,.string ⟨#[]⟩,G 0,G 0] 49)):=((F0).alloc (by simp) _).alloc (by simp;omega) _
 have HP:=cf (hp.low l3);have H:=cf (h.low l3);have dA:=cf bB;have HS:=cf hs;have HW:=cf hW;have HA:=cf (l3.some Ln)
 clear hp h bB hW hs Ln u1 u2 u3 a1 a2 s1 s2
 go_enter Tryz.func16,Tryz.ntmps16
 go_upto_region 1 with fail
 have iW:=cf hS
 rw[hS]at l3
 obtain⟨t10,mF⟩:∃t,t=S+1:=⟨_,rfl⟩
 rw[←mF]at a3 b2 s3⊢
 obtain⟨t12,jK⟩:∃t,t=t10+1:=⟨_,rfl⟩
 rw[←jK]at a3 s3⊢
 have HTT:=cf (And.intro mF jK)
 clear hS mF jK
 generalize(((w.alloc (.cells #[.slice (ad fb) 2 fc,.slice (ad ab) 2 ac,G 0,G (-1),Zs,Zs] 34)).alloc (.cells #[Zs,Zs] 26)).alloc (.cells #[.int .u16 0,Zs,G 0,.int .u16 0,.string ⟨#[]⟩,G 0,G 0] 49))=w1 at a3 b1 b2 s3 l3 HP H HA⊢
 have ld:ak w1.heap.size w1 w1.drew:=(ak.refl _ _).drew
 have lH:(w1.drew.cell? ⟨S,0,none⟩=some (.slice (ad fb) 2 fc)∧w1.drew.cell? ⟨S,1,none⟩=some (.slice (ad ab) 2 ac)∧w1.drew.cell? ⟨S,2,none⟩=some (G 0)∧w1.drew.cell? ⟨S,3,none⟩=some (G (-1))∧w1.drew.cell? ⟨S,4,none⟩=some Zs∧w1.drew.cell? ⟨S,5,none⟩=some Zs)∧w1.drew.cell? ⟨t10,0,none⟩=some Zs∧w1.drew.cell? ⟨t10,1,none⟩=some Zs:=⟨⟨Yc (ld.some b1),Yc (ld.some b1),Yc (ld.some b1),Yc (ld.some b1),Yc (ld.some b1),Yc (ld.some b1)⟩,Yc (ld.some b2),Yc (ld.some b2)⟩
 have ly:Hid (∀w',ak w1.drew.heap.size w1.drew w'→(w'.cell? ⟨S,0,none⟩=some (.slice (ad fb) 2 fc)∧w'.cell? ⟨S,1,none⟩=some (.slice (ad ab) 2 ac)∧w'.cell? ⟨S,2,none⟩=some (G 0)∧w'.cell? ⟨S,3,none⟩=some (G (-1))∧w'.cell? ⟨S,4,none⟩=some Zs∧w'.cell? ⟨S,5,none⟩=some Zs)∧w'.cell? ⟨t10,0,none⟩=some Zs∧w'.cell? ⟨t10,1,none⟩=some Zs):=cf fun w' hl=>by
  have gS:=ld.trans (hl.mono ld.size)
  exact⟨⟨Yc (gS.some b1),Yc (gS.some b1),Yc (gS.some b1),Yc (gS.some b1),Yc (gS.some b1),Yc (gS.some b1)⟩,Yc (gS.some b2),Yc (gS.some b2)⟩
 have je:=cf ld
 have L3:=cf l3;have A3:=cf a3
 have nZ:Hid (t12<w1.heap.size∧w1.heap.size=t12+1):=cf ⟨by omega,s3⟩
 clear ld l3 a3 b1 b2 s3
 refine wp_region_noPanic ?_
 refine wp_region_held_drew (S:=fun w'=>(w'.cell? ⟨S,0,none⟩=some (.slice (ad fb) 2 fc)∧w'.cell? ⟨S,1,none⟩=some (.slice (ad ab) 2 ac)∧w'.cell? ⟨S,2,none⟩=some (G 0)∧w'.cell? ⟨S,3,none⟩=some (G (-1))∧w'.cell? ⟨S,4,none⟩=some Zs∧w'.cell? ⟨S,5,none⟩=some Zs)∧w'.cell? ⟨t10,0,none⟩=some Zs∧w'.cell? ⟨t10,1,none⟩=some Zs) (by kernel_rfl) (by exact(by exact lH)) (fun af=>?_)
 generalize w1.drew=wd at af lH ly je⊢
 refine tk 0 af ?_
 refine tk 1 af ?_
 refine tk 3 af ?_
 refine tk 4 af ?_
 refine aG 2 fun KK aI=>?_
 refine aR rfl 45 #[.string ⟨#[]⟩] (by go_simp) (fun v w'=>ak wd.heap.size wd w'∧∃R,v=.slice (ad R) 8192 8192∧wd.heap.size≤R∧w'.heap[R]?=some (.cells iG 5 (0,0))) ((Rl wd).mono (by rintro e w' ⟨hl,R,rfl,h1,h2⟩;exact⟨_,rfl,hl,R,rfl,h1,h2⟩)) ?_
 rintro v w2 ⟨l2,R,rfl,hR1,hR2⟩
 have L2:=cf l2;have HR:=cf hR2
 clear l2 hR1 hR2
 refine aI.out _ _ (by exact(ly.out _ L2.out)) (fun af=>?_)
 clear aI KK
 (try simp only[Act.put,bh])
 refine tk 5 af ?_
 refine aG 6 fun KK aI=>?_
 go_simp
 have l4:ak w2.heap.size w2 (w2.alloc (.cells #[.slice (ad fb) 2 fc,.slice (ad ab) 2 ac,G 0,G (-1),Zs,Zs,.slice (ad R) 8192 8192,Zs,Zs,G 100,.bool false,G 0,.int .u16 0,Zs,G 0,.int .u16 0,.string ⟨#[]⟩,G 0,G 0] 87)):=F0
 have a4:=ao w2 (.cells #[.slice (ad fb) 2 fc,.slice (ad ab) 2 ac,G 0,G (-1),Zs,Zs,.slice (ad R) 8192 8192,Zs,Zs,G 100,.bool false,G 0,.int .u16 0,Zs,G 0,.int .u16 0,.string ⟨#[]⟩,G 0,G 0] 87)
 have Bl:=ly.out _ (L2.out.trans (l4.mono L2.out.size))
 have zo:Hid (w2.heap.size=w2.heap.size):=cf rfl
 obtain⟨m,hm⟩:∃D,D=w2.heap.size:=⟨_,rfl⟩
 rw[←hm]at a4⊢
 have D7:Hid (w1.heap.size≤m):=cf (by rw[hm];exact Nat.le_trans je.out.size L2.out.size)
 have RT:=(je.out.trans (L2.out.mono je.out.size)).trans (l4.mono (Nat.le_trans je.out.size L2.out.size))
 have R4:=cf (l4.some HR.out)
 have HRM:Hid (R≠m):=cf (by rw[hm];have:=aB HR.out;omega)
 have XV:Hid (m<(w2.alloc (.cells #[.slice (ad fb) 2 fc,.slice (ad ab) 2 ac,G 0,G (-1),Zs,Zs,.slice (ad R) 8192 8192,Zs,Zs,G 100,.bool false,G 0,.int .u16 0,Zs,G 0,.int .u16 0,.string ⟨#[]⟩,G 0,G 0] 87)).heap.size):=cf (by rw[hm];simp)
 clear hm l4 zo
 generalize w2.alloc (.cells #[.slice (ad fb) 2 fc,.slice (ad ab) 2 ac,G 0,G (-1),Zs,Zs,.slice (ad R) 8192 8192,Zs,Zs,G 100,.bool false,G 0,.int .u16 0,Zs,G 0,.int .u16 0,.string ⟨#[]⟩,G 0,G 0] 87)=w4 at a4 Bl RT R4 XV⊢
 refine aI.out _ _ (by exact Bl) (fun af=>?_)
 clear aI KK
 (try simp only[Act.put,bh])
 refine tk 7 af ?_
 refine wpAnyH_done (by kernel_rfl) ?_ _
 refine NoPanic.normal ?_
 have ca:=Pr w4 m R gm cm fb fc ab ac g cg Pp pc A n c T tc l ret (HP.out.low RT) (H.out.low RT) hn dA.out M HW.out HS.out 100 rfl a4 AB aw haw (RT.some HA.out)
 have L14:=cf RT;have T4:=cf (RT.some A3.out)
 clear RT a4 af lH Bl
 go_upto_region 3 with(first
  |(go_at_call 46;(with_reducible refine ca.mono ?_);rintro e w5 ⟨r,F',zA,kind,O,no,co,xs,rfl,hL5,hM5,hO5,hE⟩))
 clear ca
 have HTM:Hid (t12≠m):=cf (by have:=nZ.out;have:=D7.out;omega)
 have QI:Hid (S≤m):=cf (by have:=L3.out.size;have:=D7.out;have:=iW.out;omega)
 have wq:Hid (S≤t12):=cf (by have:=HTT.out;omega)
 have T5:=cf (hL5.obj (aB T4.out) (by simp;exact HTM.out) T4.out)
 have R5:=cf (hL5.obj (aB R4.out) (by simp;exact HRM.out) R4.out)
 have XN:S≤w4.heap.size:=by have:=QI.out;have:=XV.out;omega
 have L5:=cf ((L3.out.trans (L14.out.mono (by have:=L3.out.size;have:=iW.out;omega))).trans (hL5.low (S':=S) (by simp only[List.mem_singleton];rintro b rfl;exact QI.out) XN))
 have DL:=XV
 have M5:=cf hM5;have O5:=cf hO5
 have Sn:=aB hM5
 clear hL5 hM5 hO5
 rcases hE with⟨e1,rfl,rfl,rfl,rfl⟩|⟨q0',o0,e1,e2,e3,rfl,rfl,rfl,rfl⟩
 ·have HE1:=cf e1
  clear e1
  have UK:w5.cell? ⟨m,10,none⟩=some (.bool false):=Yc M5.out
  have c12:w5.cell? ⟨m,12,none⟩=some (.int .u16 0):=Yc M5.out
  have c14:w5.cell? ⟨m,14,none⟩=some (G 0):=Yc M5.out
  have c15:w5.cell? ⟨m,15,none⟩=some (.int .u16 0):=Yc M5.out
  have fr:=fun i:Nat=>au (j:=i) M5.out
  go_upto_region 6 with fail
  obtain⟨u,hu⟩:∃u,u=((w5.setCell ⟨m,14,none⟩ (G 6)).setCell ⟨m,15,none⟩ (.int .u16 0)).setCell ⟨m,12,none⟩ (.int .u16 (M ret)):=⟨_,rfl⟩
  have ma:(w5.setCell ⟨m,14,none⟩ (G 6)).heap[m]?=some (.cells #[.slice (ad fb) 2 fc,.slice (ad ab) 2 ac,G 0,G (-1),Zs,Zs,.slice (ad R) 8192 8192,Zs,Zs,G F',.bool false,G 1,.int .u16 0,.slice O no co,G 6,.int .u16 0,.string ⟨#[]⟩,G 0,G 0] 87 (0,0)):=by rw[aD M5.out];rfl
  have mb:((w5.setCell ⟨m,14,none⟩ (G 6)).setCell ⟨m,15,none⟩ (.int .u16 0)).heap[m]?=some (.cells #[.slice (ad fb) 2 fc,.slice (ad ab) 2 ac,G 0,G (-1),Zs,Zs,.slice (ad R) 8192 8192,Zs,Zs,G F',.bool false,G 1,.int .u16 0,.slice O no co,G 6,.int .u16 0,.string ⟨#[]⟩,G 0,G 0] 87 (0,0)):=by rw[aD ma];rfl
  have MU:=cf (show u.heap[m]?=some (.cells #[.slice (ad fb) 2 fc,.slice (ad ab) 2 ac,G 0,G (-1),Zs,Zs,.slice (ad R) 8192 8192,Zs,Zs,G F',.bool false,G 1,.int .u16 (M ret),.slice O no co,G 6,.int .u16 0,.string ⟨#[]⟩,G 0,G 0] 87 (0,0))from by rw[hu,aD mb];rfl)
  have CF:∀b,b≠m→u.heap[b]?=w5.heap[b]?:=fun b hb=>by rw[hu,aj hb,aj hb,aj hb]
  have RU:=cf ((CF R HRM.out).trans R5.out);have TU:=cf ((CF t12 HTM.out).trans T5.out)
  have LU:Hid (ak S w u):=cf (by rw[hu];exact((L5.out.setCell QI.out _).setCell QI.out _).setCell QI.out _)
  have OU:=cf (O5.out.kept (w':=u) (fun g cs hg _=>CF g (by have:=DL.out;omega)))
  have Qk:m<u.heap.size:=aB MU.out
  rw[←hu]
  clear hu ma mb CF UK c12 c14 c15 fr M5 R5 T5 L5 O5 Sn
  have Vi:u.cell? ⟨m,12,none⟩=some (.int .u16 (M ret)):=Yc MU.out
  have PZ:u.cell? ⟨m,13,none⟩=some (.slice O no co):=Yc MU.out
  have Tq:u.cell? ⟨m,14,none⟩=some (G 6):=Yc MU.out
  have Tp:u.cell? ⟨m,15,none⟩=some (.int .u16 0):=Yc MU.out
  have Vh:u.cell? ⟨m,16,none⟩=some (.string ⟨#[]⟩):=Yc MU.out
  have Vg:u.cell? ⟨m,17,none⟩=some (G 0):=Yc MU.out
  have Vf:u.cell? ⟨m,18,none⟩=some (G 0):=Yc MU.out
  have x6:u.cell? ⟨m,6,none⟩=some (.slice (ad R) 8192 8192):=Yc MU.out
  have f16:u.frozen? ⟨m,16,none⟩=false:=au MU.out
  have fQ:=uj u R RU.out
  go_upto_region 7 with fail
  have mv:(u.setCell ⟨m,16,none⟩ (.string gj)).heap[m]?=some (.cells #[.slice (ad fb) 2 fc,.slice (ad ab) 2 ac,G 0,G (-1),Zs,Zs,.slice (ad R) 8192 8192,Zs,Zs,G F',.bool false,G 1,.int .u16 (M ret),.slice O no co,G 6,.int .u16 0,.string gj,G 0,G 0] 87 (0,0)):=by rw[aD MU.out];rfl
  have tv:(u.setCell ⟨m,16,none⟩ (.string gj)).heap[t12]?=some (.cells #[.int .u16 0,Zs,G 0,.int .u16 0,.string ⟨#[]⟩,G 0,G 0] 49 (0,0)):=(aj HTM.out).trans TU.out
  have LV:=cf (LU.out.setCell (g:=m) (i:=16) QI.out (.string gj))
  have OV:=cf (OU.out.kept (w':=u.setCell ⟨m,16,none⟩ (.string gj)) (fun g cs hg _=>aj (by have:=DL.out;omega)))
  clear x6 Vi PZ Tq Tp Vh Vg Vf f16 fQ
  generalize u.setCell ⟨m,16,none⟩ (.string gj)=uv at mv tv LV OV⊢
  have Vi:uv.cell? ⟨m,12,none⟩=some (.int .u16 (M ret)):=Yc mv
  have PZ:uv.cell? ⟨m,13,none⟩=some (.slice O no co):=Yc mv
  have Tq:uv.cell? ⟨m,14,none⟩=some (G 6):=Yc mv
  have Tp:uv.cell? ⟨m,15,none⟩=some (.int .u16 0):=Yc mv
  have Vh:uv.cell? ⟨m,16,none⟩=some (.string gj):=Yc mv
  have Vg:uv.cell? ⟨m,17,none⟩=some (G 0):=Yc mv
  have Vf:uv.cell? ⟨m,18,none⟩=some (G 0):=Yc mv
  have z0:=bf tv
  have f0:uv.frozen? ⟨t12,0,none⟩=false:=au tv
  have z1:=jw tv
  have f1:uv.frozen? ⟨t12,1,none⟩=false:=au tv
  have z2:=rn tv
  have f2:uv.frozen? ⟨t12,2,none⟩=false:=au tv
  have z3:=mM tv
  have f3:uv.frozen? ⟨t12,3,none⟩=false:=au tv
  have z4:=vE tv
  have f4:uv.frozen? ⟨t12,4,none⟩=false:=au tv
  have z5:=Lt tv
  have f5:uv.frozen? ⟨t12,5,none⟩=false:=au tv
  have z6:=Pw tv
  have f6:uv.frozen? ⟨t12,6,none⟩=false:=au tv
  have ZP:=aB tv
  have TV:=cf tv
  clear mv tv
  go_wp2_with fail
  have q0:(uv.setCell ⟨t12,0,none⟩ (.int .u16 (M ret))).heap[t12]?=some (.cells #[.int .u16 (M ret),Zs,G 0,.int .u16 0,.string ⟨#[]⟩,G 0,G 0] 49 (0,0)):=by rw[aD TV.out];rfl
  have q1:((uv.setCell ⟨t12,0,none⟩ (.int .u16 (M ret))).setCell ⟨t12,1,none⟩ (.slice O no co)).heap[t12]?=some (.cells #[.int .u16 (M ret),.slice O no co,G 0,.int .u16 0,.string ⟨#[]⟩,G 0,G 0] 49 (0,0)):=by rw[aD q0];rfl
  have q2:(((uv.setCell ⟨t12,0,none⟩ (.int .u16 (M ret))).setCell ⟨t12,1,none⟩ (.slice O no co)).setCell ⟨t12,2,none⟩ (G 6)).heap[t12]?=some (.cells #[.int .u16 (M ret),.slice O no co,G 6,.int .u16 0,.string ⟨#[]⟩,G 0,G 0] 49 (0,0)):=by rw[aD q1];rfl
  have q3:((((uv.setCell ⟨t12,0,none⟩ (.int .u16 (M ret))).setCell ⟨t12,1,none⟩ (.slice O no co)).setCell ⟨t12,2,none⟩ (G 6)).setCell ⟨t12,3,none⟩ (.int .u16 0)).heap[t12]?=some (.cells #[.int .u16 (M ret),.slice O no co,G 6,.int .u16 0,.string ⟨#[]⟩,G 0,G 0] 49 (0,0)):=by rw[aD q2];rfl
  have q4:(((((uv.setCell ⟨t12,0,none⟩ (.int .u16 (M ret))).setCell ⟨t12,1,none⟩ (.slice O no co)).setCell ⟨t12,2,none⟩ (G 6)).setCell ⟨t12,3,none⟩ (.int .u16 0)).setCell ⟨t12,4,none⟩ (.string gj)).heap[t12]?=some (.cells #[.int .u16 (M ret),.slice O no co,G 6,.int .u16 0,.string gj,G 0,G 0] 49 (0,0)):=by rw[aD q3];rfl
  have q5:((((((uv.setCell ⟨t12,0,none⟩ (.int .u16 (M ret))).setCell ⟨t12,1,none⟩ (.slice O no co)).setCell ⟨t12,2,none⟩ (G 6)).setCell ⟨t12,3,none⟩ (.int .u16 0)).setCell ⟨t12,4,none⟩ (.string gj)).setCell ⟨t12,5,none⟩ (G 0)).heap[t12]?=some (.cells #[.int .u16 (M ret),.slice O no co,G 6,.int .u16 0,.string gj,G 0,G 0] 49 (0,0)):=by rw[aD q4];rfl
  have q6:(((((((uv.setCell ⟨t12,0,none⟩ (.int .u16 (M ret))).setCell ⟨t12,1,none⟩ (.slice O no co)).setCell ⟨t12,2,none⟩ (G 6)).setCell ⟨t12,3,none⟩ (.int .u16 0)).setCell ⟨t12,4,none⟩ (.string gj)).setCell ⟨t12,5,none⟩ (G 0)).setCell ⟨t12,6,none⟩ (G 0)).heap[t12]?=some (.cells #[.int .u16 (M ret),.slice O no co,G 6,.int .u16 0,.string gj,G 0,G 0] 49 (0,0)):=by rw[aD q5];rfl
  have LQ:ak S w (((((((uv.setCell ⟨t12,0,none⟩ (.int .u16 (M ret))).setCell ⟨t12,1,none⟩ (.slice O no co)).setCell ⟨t12,2,none⟩ (G 6)).setCell ⟨t12,3,none⟩ (.int .u16 0)).setCell ⟨t12,4,none⟩ (.string gj)).setCell ⟨t12,5,none⟩ (G 0)).setCell ⟨t12,6,none⟩ (G 0)):=(((((((LV.out.setCell (g:=t12) (i:=0) wq.out (.int .u16 (M ret))).setCell (g:=t12) (i:=1) wq.out (.slice O no co)).setCell (g:=t12) (i:=2) wq.out (G 6)).setCell (g:=t12) (i:=3) wq.out (.int .u16 0)).setCell (g:=t12) (i:=4) wq.out (.string gj)).setCell (g:=t12) (i:=5) wq.out (G 0)).setCell (g:=t12) (i:=6) wq.out (G 0))
  have OQ:cR (((((((uv.setCell ⟨t12,0,none⟩ (.int .u16 (M ret))).setCell ⟨t12,1,none⟩ (.slice O no co)).setCell ⟨t12,2,none⟩ (G 6)).setCell ⟨t12,3,none⟩ (.int .u16 0)).setCell ⟨t12,4,none⟩ (.string gj)).setCell ⟨t12,5,none⟩ (G 0)).setCell ⟨t12,6,none⟩ (G 0)) w4.heap.size O no co (dK M l):=(((((((OV.out.kept fun g cs hg _=>aj (by have:=DL.out;have:=nZ.out;have:=D7.out;omega)).kept fun g cs hg _=>aj (by have:=DL.out;have:=nZ.out;have:=D7.out;omega)).kept fun g cs hg _=>aj (by have:=DL.out;have:=nZ.out;have:=D7.out;omega)).kept fun g cs hg _=>aj (by have:=DL.out;have:=nZ.out;have:=D7.out;omega)).kept fun g cs hg _=>aj (by have:=DL.out;have:=nZ.out;have:=D7.out;omega)).kept fun g cs hg _=>aj (by have:=DL.out;have:=nZ.out;have:=D7.out;omega)).kept fun g cs hg _=>aj (by have:=DL.out;have:=nZ.out;have:=D7.out;omega))
  clear q0 q1 q2 q3 q4 q5 Vi PZ Tq Tp Vh Vg Vf z0 z1 z2 z3 z4 z5 z6 f0 f1 f2 f3 f4 f5 f6
  generalize(((((((uv.setCell ⟨t12,0,none⟩ (.int .u16 (M ret))).setCell ⟨t12,1,none⟩ (.slice O no co)).setCell ⟨t12,2,none⟩ (G 6)).setCell ⟨t12,3,none⟩ (.int .u16 0)).setCell ⟨t12,4,none⟩ (.string gj)).setCell ⟨t12,5,none⟩ (G 0)).setCell ⟨t12,6,none⟩ (G 0))=uf at q6 LQ OQ⊢
  obtain⟨z0,z1,z2,z3,z4,z5,z6⟩:=vt q6
  exact bodyPost_ret (v:=.agg #[.int .u16 (M ret),.slice O no co,G 6,.int .u16 0,.string gj,G 0,G 0]) (by simp[results,Tryz.results16,go_sem,z0,z1,z2,z3,z4,z5,z6];done) rfl ⟨(M ret),O,no,co,6,(dK M l),rfl,by rw[iW.out];exact LQ,OQ.base (by rw[iW.out];exact XN),.inl ⟨HE1.out,rfl,rfl,rfl⟩⟩
 ·have HE1:=cf e1;have HE2:=cf e2;have HE3:=cf e3
  clear e1 e2 e3
  have UK:w5.cell? ⟨m,10,none⟩=some (.bool true):=Yc M5.out
  go_upto_region 6 with fail
  clear UK
  have MU:=M5;have RU:=R5;have TU:=T5;have LU:=L5;have OU:=O5
  clear M5 R5 T5 L5 O5
  obtain⟨u,rfl⟩:∃u,u=w5:=⟨_,rfl⟩
  have Vi:u.cell? ⟨m,12,none⟩=some (.int .u16 0):=Yc MU.out
  have PZ:u.cell? ⟨m,13,none⟩=some (.slice O no co):=Yc MU.out
  have Tq:u.cell? ⟨m,14,none⟩=some (G 4):=Yc MU.out
  have Tp:u.cell? ⟨m,15,none⟩=some (.int .u16 0):=Yc MU.out
  have Vh:u.cell? ⟨m,16,none⟩=some (.string ⟨#[]⟩):=Yc MU.out
  have Vg:u.cell? ⟨m,17,none⟩=some (G 0):=Yc MU.out
  have Vf:u.cell? ⟨m,18,none⟩=some (G 0):=Yc MU.out
  have x6:u.cell? ⟨m,6,none⟩=some (.slice (ad R) 8192 8192):=Yc MU.out
  have f16:u.frozen? ⟨m,16,none⟩=false:=au MU.out
  have fQ:=uj u R RU.out
  go_upto_region 7 with fail
  have mv:(u.setCell ⟨m,16,none⟩ (.string gj)).heap[m]?=some (.cells #[.slice (ad fb) 2 fc,.slice (ad ab) 2 ac,G 0,G (-1),Zs,Zs,.slice (ad R) 8192 8192,Zs,Zs,G F',.bool true,G 1,.int .u16 0,.slice O no co,G 4,.int .u16 0,.string gj,G 0,G 0] 87 (0,0)):=by rw[aD MU.out];rfl
  have tv:(u.setCell ⟨m,16,none⟩ (.string gj)).heap[t12]?=some (.cells #[.int .u16 0,Zs,G 0,.int .u16 0,.string ⟨#[]⟩,G 0,G 0] 49 (0,0)):=(aj HTM.out).trans TU.out
  have LV:=cf (LU.out.setCell (g:=m) (i:=16) QI.out (.string gj))
  have OV:=cf (OU.out.kept (w':=u.setCell ⟨m,16,none⟩ (.string gj)) (fun g cs hg _=>aj (by have:=DL.out;omega)))
  clear x6 Vi PZ Tq Tp Vh Vg Vf f16 fQ
  generalize u.setCell ⟨m,16,none⟩ (.string gj)=uv at mv tv LV OV⊢
  have Vi:uv.cell? ⟨m,12,none⟩=some (.int .u16 0):=Yc mv
  have PZ:uv.cell? ⟨m,13,none⟩=some (.slice O no co):=Yc mv
  have Tq:uv.cell? ⟨m,14,none⟩=some (G 4):=Yc mv
  have Tp:uv.cell? ⟨m,15,none⟩=some (.int .u16 0):=Yc mv
  have Vh:uv.cell? ⟨m,16,none⟩=some (.string gj):=Yc mv
  have Vg:uv.cell? ⟨m,17,none⟩=some (G 0):=Yc mv
  have Vf:uv.cell? ⟨m,18,none⟩=some (G 0):=Yc mv
  have z0:=bf tv
  have f0:uv.frozen? ⟨t12,0,none⟩=false:=au tv
  have z1:=jw tv
  have f1:uv.frozen? ⟨t12,1,none⟩=false:=au tv
  have z2:=rn tv
  have f2:uv.frozen? ⟨t12,2,none⟩=false:=au tv
  have z3:=mM tv
  have f3:uv.frozen? ⟨t12,3,none⟩=false:=au tv
  have z4:=vE tv
  have f4:uv.frozen? ⟨t12,4,none⟩=false:=au tv
  have z5:=Lt tv
  have f5:uv.frozen? ⟨t12,5,none⟩=false:=au tv
  have z6:=Pw tv
  have f6:uv.frozen? ⟨t12,6,none⟩=false:=au tv
  have ZP:=aB tv
  have TV:=cf tv
  clear mv tv
  go_wp2_with fail
  have q0:(uv.setCell ⟨t12,0,none⟩ (.int .u16 0)).heap[t12]?=some (.cells #[.int .u16 0,Zs,G 0,.int .u16 0,.string ⟨#[]⟩,G 0,G 0] 49 (0,0)):=by rw[aD TV.out];rfl
  have q1:((uv.setCell ⟨t12,0,none⟩ (.int .u16 0)).setCell ⟨t12,1,none⟩ (.slice O no co)).heap[t12]?=some (.cells #[.int .u16 0,.slice O no co,G 0,.int .u16 0,.string ⟨#[]⟩,G 0,G 0] 49 (0,0)):=by rw[aD q0];rfl
  have q2:(((uv.setCell ⟨t12,0,none⟩ (.int .u16 0)).setCell ⟨t12,1,none⟩ (.slice O no co)).setCell ⟨t12,2,none⟩ (G 4)).heap[t12]?=some (.cells #[.int .u16 0,.slice O no co,G 4,.int .u16 0,.string ⟨#[]⟩,G 0,G 0] 49 (0,0)):=by rw[aD q1];rfl
  have q3:((((uv.setCell ⟨t12,0,none⟩ (.int .u16 0)).setCell ⟨t12,1,none⟩ (.slice O no co)).setCell ⟨t12,2,none⟩ (G 4)).setCell ⟨t12,3,none⟩ (.int .u16 0)).heap[t12]?=some (.cells #[.int .u16 0,.slice O no co,G 4,.int .u16 0,.string ⟨#[]⟩,G 0,G 0] 49 (0,0)):=by rw[aD q2];rfl
  have q4:(((((uv.setCell ⟨t12,0,none⟩ (.int .u16 0)).setCell ⟨t12,1,none⟩ (.slice O no co)).setCell ⟨t12,2,none⟩ (G 4)).setCell ⟨t12,3,none⟩ (.int .u16 0)).setCell ⟨t12,4,none⟩ (.string gj)).heap[t12]?=some (.cells #[.int .u16 0,.slice O no co,G 4,.int .u16 0,.string gj,G 0,G 0] 49 (0,0)):=by rw[aD q3];rfl
  have q5:((((((uv.setCell ⟨t12,0,none⟩ (.int .u16 0)).setCell ⟨t12,1,none⟩ (.slice O no co)).setCell ⟨t12,2,none⟩ (G 4)).setCell ⟨t12,3,none⟩ (.int .u16 0)).setCell ⟨t12,4,none⟩ (.string gj)).setCell ⟨t12,5,none⟩ (G 0)).heap[t12]?=some (.cells #[.int .u16 0,.slice O no co,G 4,.int .u16 0,.string gj,G 0,G 0] 49 (0,0)):=by rw[aD q4];rfl
  have q6:(((((((uv.setCell ⟨t12,0,none⟩ (.int .u16 0)).setCell ⟨t12,1,none⟩ (.slice O no co)).setCell ⟨t12,2,none⟩ (G 4)).setCell ⟨t12,3,none⟩ (.int .u16 0)).setCell ⟨t12,4,none⟩ (.string gj)).setCell ⟨t12,5,none⟩ (G 0)).setCell ⟨t12,6,none⟩ (G 0)).heap[t12]?=some (.cells #[.int .u16 0,.slice O no co,G 4,.int .u16 0,.string gj,G 0,G 0] 49 (0,0)):=by rw[aD q5];rfl
  have LQ:ak S w (((((((uv.setCell ⟨t12,0,none⟩ (.int .u16 0)).setCell ⟨t12,1,none⟩ (.slice O no co)).setCell ⟨t12,2,none⟩ (G 4)).setCell ⟨t12,3,none⟩ (.int .u16 0)).setCell ⟨t12,4,none⟩ (.string gj)).setCell ⟨t12,5,none⟩ (G 0)).setCell ⟨t12,6,none⟩ (G 0)):=(((((((LV.out.setCell (g:=t12) (i:=0) wq.out (.int .u16 0)).setCell (g:=t12) (i:=1) wq.out (.slice O no co)).setCell (g:=t12) (i:=2) wq.out (G 4)).setCell (g:=t12) (i:=3) wq.out (.int .u16 0)).setCell (g:=t12) (i:=4) wq.out (.string gj)).setCell (g:=t12) (i:=5) wq.out (G 0)).setCell (g:=t12) (i:=6) wq.out (G 0))
  have OQ:cR (((((((uv.setCell ⟨t12,0,none⟩ (.int .u16 0)).setCell ⟨t12,1,none⟩ (.slice O no co)).setCell ⟨t12,2,none⟩ (G 4)).setCell ⟨t12,3,none⟩ (.int .u16 0)).setCell ⟨t12,4,none⟩ (.string gj)).setCell ⟨t12,5,none⟩ (G 0)).setCell ⟨t12,6,none⟩ (G 0)) w4.heap.size O no co (dK M (l.take q0')):=(((((((OV.out.kept fun g cs hg _=>aj (by have:=DL.out;have:=nZ.out;have:=D7.out;omega)).kept fun g cs hg _=>aj (by have:=DL.out;have:=nZ.out;have:=D7.out;omega)).kept fun g cs hg _=>aj (by have:=DL.out;have:=nZ.out;have:=D7.out;omega)).kept fun g cs hg _=>aj (by have:=DL.out;have:=nZ.out;have:=D7.out;omega)).kept fun g cs hg _=>aj (by have:=DL.out;have:=nZ.out;have:=D7.out;omega)).kept fun g cs hg _=>aj (by have:=DL.out;have:=nZ.out;have:=D7.out;omega)).kept fun g cs hg _=>aj (by have:=DL.out;have:=nZ.out;have:=D7.out;omega))
  clear q0 q1 q2 q3 q4 q5 Vi PZ Tq Tp Vh Vg Vf z0 z1 z2 z3 z4 z5 z6 f0 f1 f2 f3 f4 f5 f6
  generalize(((((((uv.setCell ⟨t12,0,none⟩ (.int .u16 0)).setCell ⟨t12,1,none⟩ (.slice O no co)).setCell ⟨t12,2,none⟩ (G 4)).setCell ⟨t12,3,none⟩ (.int .u16 0)).setCell ⟨t12,4,none⟩ (.string gj)).setCell ⟨t12,5,none⟩ (G 0)).setCell ⟨t12,6,none⟩ (G 0))=uf at q6 LQ OQ⊢
  obtain⟨z0,z1,z2,z3,z4,z5,z6⟩:=vt q6
  exact bodyPost_ret (v:=.agg #[.int .u16 0,.slice O no co,G 4,.int .u16 0,.string gj,G 0,G 0]) (by simp[results,Tryz.results16,go_sem,z0,z1,z2,z3,z4,z5,z6];done) rfl ⟨0,O,no,co,4,(dK M (l.take q0')),rfl,by rw[iW.out];exact LQ,OQ.base (by rw[iW.out];exact XN),.inr ⟨q0',o0,HE1.out,HE2.out,HE3.out,rfl,rfl,rfl⟩⟩
end Go.Proofs.YtjkahfmdcpfjjaaGreat
