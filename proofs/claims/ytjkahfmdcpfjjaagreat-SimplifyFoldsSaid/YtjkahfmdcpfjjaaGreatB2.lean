/- The rules: compute. -/
import Derived.Test.YtjkahfmdcpfjjaaGreatB3
set_option linter.unusedVariables false
namespace Go.Proofs.YtjkahfmdcpfjjaaGreat
open Go.RowKit
set_option maxRecDepth 100000
set_option maxHeartbeats 8000000
def fn1 (k p:Nat):Value:=.func (.func k) #[] #[.pointer (ad p)]
def jt (c a b:Int):Value:=if c=8∧b=0 then .tuple #[.int .u16 0,.bool false]else .tuple #[.int .u16 (fj c a b),.bool true]
theorem sN (w:World) (c a b:Int) (h3:3≤c) (dz:c≤17) (ha:W a) (hb:W b):Calls Tryz.prog 149 #[G c,.int .u16 a,.int .u16 b] w (fun e w'=>∃v,e=.returned v∧(v=jt c a b∧ak w.heap.size w w')):=by
 have qE:∀(fn:Fn) (first cap:Array Value) (w:World),(Instr.makeFunc fn first cap).run Tryz.prog w=.ok (.func fn first cap) w:=fun _ _ _ _=>rfl
 have vY:∀u:World,(Instr.makeMap 230 none).run Tryz.prog u=.ok (.map (some u.heap.size)) (u.alloc (.map #[] 0)):=fun u=>by kernel_rfl
 obtain⟨S,hS⟩:∃S,w.heap.size=S:=⟨_,rfl⟩
 obtain⟨a1,s1,u1⟩:=av (.cells #[.int .u16 a] 27) hS
 obtain⟨a2,s2,u2⟩:=av (.cells #[.int .u16 b] 27) s1
 have l2:ak w.heap.size w ((w.alloc (.cells #[.int .u16 a] 27)).alloc (.cells #[.int .u16 b] 27)):=((ak.refl _ w).alloc (Nat.le_refl _) _).alloc (by simp) _
 have b1:=u2 _ _ a1
 clear u1 u2 a1 s1
 go_enter Tryz.func149,Tryz.ntmps149
 go_upto_region 1 with fail
 generalize(w.alloc (.cells #[.int .u16 a] 27)).alloc (.cells #[.int .u16 b] 27)=w2 at a2 s2 b1 l2⊢
 obtain⟨a3,s3,u3⟩:=av (.map #[] 0) s2
 have m3:aQ .i64 (w2.alloc (.map #[] 0)) (S+1+1) []:=⟨_,_,a3,aN _,by simp⟩
 have c1:=u3 _ _ b1
 have c2:=u3 _ _ a2
 have l3:=l2.trans (((ak.refl w2.heap.size w2).alloc (Nat.le_refl _) (.map #[] 0)).mono l2.size)
 obtain⟨w4,h4,m4,k4,s4⟩:=ay Tryz.underlying230 Tryz.underlying3 m3 3 (fn1 191 S)
 obtain⟨w5,h5,m5,k5,s5⟩:=ay Tryz.underlying230 Tryz.underlying3 m4 4 (fn1 192 S)
 obtain⟨w6,h6,m6,k6,s6⟩:=ay Tryz.underlying230 Tryz.underlying3 m5 5 (fns 193 S (S+1))
 obtain⟨w7,h7,m7,k7,s7⟩:=ay Tryz.underlying230 Tryz.underlying3 m6 6 (fns 194 S (S+1))
 obtain⟨w8,h8,m8,k8,s8⟩:=ay Tryz.underlying230 Tryz.underlying3 m7 7 (fns 195 S (S+1))
 obtain⟨w9,h9,m9,k9,s9⟩:=ay Tryz.underlying230 Tryz.underlying3 m8 9 (fns 196 S (S+1))
 obtain⟨QR,Oq,m10,k10,s10⟩:=ay Tryz.underlying230 Tryz.underlying3 m9 10 (fns 197 S (S+1))
 obtain⟨QQ,h11,m11,rk,s11⟩:=ay Tryz.underlying230 Tryz.underlying3 m10 11 (fns 198 S (S+1))
 obtain⟨w12,QA,m12,oI,s12⟩:=ay Tryz.underlying230 Tryz.underlying3 m11 12 (fns 199 S (S+1))
 obtain⟨w13,UA,m13,oH,s13⟩:=ay Tryz.underlying230 Tryz.underlying3 m12 13 (fns 201 S (S+1))
 obtain⟨w14,Lp,m14,oG,s14⟩:=ay Tryz.underlying230 Tryz.underlying3 m13 14 (fns 202 S (S+1))
 obtain⟨w15,Lo,m15,k15,s15⟩:=ay Tryz.underlying230 Tryz.underlying3 m14 15 (fns 203 S (S+1))
 obtain⟨w16,h16,m16,rj,s16⟩:=ay Tryz.underlying230 Tryz.underlying3 m15 16 (fns 205 S (S+1))
 obtain⟨jG,dz,m17,JF,s17⟩:=ay Tryz.underlying230 Tryz.underlying3 m16 17 (fns 206 S (S+1))
 have bQ:=vY w2
 rw[s2]at bQ
 have kk:aY [S+1+1] (w2.alloc (.map #[] 0)) jG:=((((((((((((k4.trans k5).trans k6).trans k7).trans k8).trans k9).trans k10).trans rk).trans oI).trans oH).trans oG).trans k15).trans rj).trans JF
 have d1:=kk.obj c1 (by simp only[List.mem_singleton];omega)
 have d2:=kk.obj c2 (by simp only[List.mem_singleton];omega)
 have l6:ak w.heap.size w jG:=l3.trans (kk.low (S:=w.heap.size) (by simp;omega) l3.size)
 have ef:=fun k:Int=>aM (P:=Tryz.prog) (t:=230) Tryz.underlying230 Tryz.underlying3 m17 (k:=k) (z:=.nilFunc) (by kernel_rfl) true
 clear vY m3 m4 m5 m6 m7 m8 m9 m10 m11 m12 m13 m14 m15 m16 m17 k4 k5 k6 k7 k8 k9 k10 rk oI oH oG k15 rj JF s4 s5 s6 s7 s8 s9 s10 s11 s12 s13 s14 s15 s16 s17 kk a3 s3 u3 c1 c2 l2 l3 b1 a2
 simp only[fns,fn1]at h4 h5 h6 h7 h8 h9 Oq h11 QA UA Lp Lo h16 dz
 go_upto_region 2 with fail
 clear h4 h5 h6 h7 h8 h9 Oq h11 QA UA Lp Lo h16 dz bQ s2
 have HL:=cf l6
 have x1:=bf d1
 have x2:=bf d2
 have pB:=cf ef
 clear d1 d2 l6 ef
 have eR:c=8∨c=3∨c=4∨c=5∨c=6∨c=7∨c=9∨c=10∨c=11∨c=12∨c=13∨c=14∨c=15∨c=16∨c=17:=by omega
 clear h3 dz
 rcases eR with rfl|rfl|rfl|rfl|rfl|rfl|rfl|rfl|rfl|rfl|rfl|rfl|rfl|rfl|rfl
 ·by_cases pq:b=0
  ·subst pq
   have hl:(Instr.lookup 230 (.map (some (S+1+1))) (G 8) true).run Tryz.prog jG=.ok (.tuple #[.nilFunc,.bool false]) jG:=pB.out 8
   clear pB x1
   go_wp2_with fail
   exact bodyPost_ret (v:=.tuple #[.int .u16 0,.bool false]) (by simp[results,Tryz.results149,go_sem];done) rfl ⟨_,rfl,rfl,HL.out⟩
  ·clear pB
   have hq:IntKind.u16.wrap (a.tdiv b)=a/b:=by
    have hdw:W (a/b):=qL ha (by unfold W at hb;omega)
    rw[eh,Int.tdiv_eq_ediv_of_nonneg ha.1]
    unfold W at hdw
    omega
   have cH:(b !=0)=true:=by simpa using pq
   go_wp2_with fail
   have Ib:jt 8 a b=.tuple #[.int .u16 (a/b),.bool true]:=by unfold jt;rw[if_neg (fun h=>pq h.2)];rfl
   exact bodyPost_ret (v:=.tuple #[.int .u16 (a/b),.bool true]) (by simp[results,Tryz.results149,go_sem];done) rfl ⟨_,rfl,Ib.symm,HL.out⟩
 ·have hl:(Instr.lookup 230 (.map (some (S+1+1))) (G 3) true).run Tryz.prog jG=.ok (.tuple #[.func (.func 191) #[] #[.pointer (ad S)],.bool true]) jG:=pB.out 3
  have hc:=XB jG S a ha x1
  clear pB x1 x2
  go_wp2_with(first
   |(go_at_call 191;(with_reducible refine hc.mono ?_);rintro e w7 ⟨rfl,l7⟩)
   |((with_reducible refine hc.mono ?_);rintro e w7 ⟨rfl,l7⟩))
  exact bodyPost_ret (v:=.tuple #[.int .u16 (fj 3 a b),.bool true]) (by simp[results,Tryz.results149,go_sem,fj];done) rfl ⟨_,rfl,rfl,HL.out.trans (l7.mono HL.out.size)⟩
 ·have hl:(Instr.lookup 230 (.map (some (S+1+1))) (G 4) true).run Tryz.prog jG=.ok (.tuple #[.func (.func 192) #[] #[.pointer (ad S)],.bool true]) jG:=pB.out 4
  have hc:=XA jG S a ha x1
  clear pB x1 x2
  go_wp2_with(first
   |(go_at_call 192;(with_reducible refine hc.mono ?_);rintro e w7 ⟨rfl,l7⟩)
   |((with_reducible refine hc.mono ?_);rintro e w7 ⟨rfl,l7⟩))
  exact bodyPost_ret (v:=.tuple #[.int .u16 (fj 4 a b),.bool true]) (by simp[results,Tryz.results149,go_sem,fj];done) rfl ⟨_,rfl,rfl,HL.out.trans (l7.mono HL.out.size)⟩
 ·have hl:(Instr.lookup 230 (.map (some (S+1+1))) (G 5) true).run Tryz.prog jG=.ok (.tuple #[.func (.func 193) #[] #[.pointer (ad S),.pointer (ad (S+1))],.bool true]) jG:=pB.out 5
  have hc:=Xz jG S (S+1) a b ha hb trivial x1 x2
  clear pB x1 x2
  go_wp2_with(first
   |(go_at_call 193;(with_reducible refine hc.mono ?_);rintro e w7 ⟨rfl,l7⟩)
   |((with_reducible refine hc.mono ?_);rintro e w7 ⟨rfl,l7⟩))
  exact bodyPost_ret (v:=.tuple #[.int .u16 (fj 5 a b),.bool true]) (by simp[results,Tryz.results149,go_sem,fj];done) rfl ⟨_,rfl,rfl,HL.out.trans (l7.mono HL.out.size)⟩
 ·have hl:(Instr.lookup 230 (.map (some (S+1+1))) (G 6) true).run Tryz.prog jG=.ok (.tuple #[.func (.func 194) #[] #[.pointer (ad S),.pointer (ad (S+1))],.bool true]) jG:=pB.out 6
  have hc:=Xy jG S (S+1) a b ha hb trivial x1 x2
  clear pB x1 x2
  go_wp2_with(first
   |(go_at_call 194;(with_reducible refine hc.mono ?_);rintro e w7 ⟨rfl,l7⟩)
   |((with_reducible refine hc.mono ?_);rintro e w7 ⟨rfl,l7⟩))
  exact bodyPost_ret (v:=.tuple #[.int .u16 (fj 6 a b),.bool true]) (by simp[results,Tryz.results149,go_sem,fj];done) rfl ⟨_,rfl,rfl,HL.out.trans (l7.mono HL.out.size)⟩
 ·have hl:(Instr.lookup 230 (.map (some (S+1+1))) (G 7) true).run Tryz.prog jG=.ok (.tuple #[.func (.func 195) #[] #[.pointer (ad S),.pointer (ad (S+1))],.bool true]) jG:=pB.out 7
  have hc:=Xx jG S (S+1) a b ha hb trivial x1 x2
  clear pB x1 x2
  go_wp2_with(first
   |(go_at_call 195;(with_reducible refine hc.mono ?_);rintro e w7 ⟨rfl,l7⟩)
   |((with_reducible refine hc.mono ?_);rintro e w7 ⟨rfl,l7⟩))
  exact bodyPost_ret (v:=.tuple #[.int .u16 (fj 7 a b),.bool true]) (by simp[results,Tryz.results149,go_sem,fj];done) rfl ⟨_,rfl,rfl,HL.out.trans (l7.mono HL.out.size)⟩
 ·have hl:(Instr.lookup 230 (.map (some (S+1+1))) (G 9) true).run Tryz.prog jG=.ok (.tuple #[.func (.func 196) #[] #[.pointer (ad S),.pointer (ad (S+1))],.bool true]) jG:=pB.out 9
  have hc:=Xw jG S (S+1) a b ha hb trivial x1 x2
  clear pB x1 x2
  go_wp2_with(first
   |(go_at_call 196;(with_reducible refine hc.mono ?_);rintro e w7 ⟨rfl,l7⟩)
   |((with_reducible refine hc.mono ?_);rintro e w7 ⟨rfl,l7⟩))
  exact bodyPost_ret (v:=.tuple #[.int .u16 (fj 9 a b),.bool true]) (by simp[results,Tryz.results149,go_sem,fj];done) rfl ⟨_,rfl,rfl,HL.out.trans (l7.mono HL.out.size)⟩
 ·have hl:(Instr.lookup 230 (.map (some (S+1+1))) (G 10) true).run Tryz.prog jG=.ok (.tuple #[.func (.func 197) #[] #[.pointer (ad S),.pointer (ad (S+1))],.bool true]) jG:=pB.out 10
  have hc:=Xv jG S (S+1) a b ha hb trivial x1 x2
  clear pB x1 x2
  go_wp2_with(first
   |(go_at_call 197;(with_reducible refine hc.mono ?_);rintro e w7 ⟨rfl,l7⟩)
   |((with_reducible refine hc.mono ?_);rintro e w7 ⟨rfl,l7⟩))
  exact bodyPost_ret (v:=.tuple #[.int .u16 (fj 10 a b),.bool true]) (by simp[results,Tryz.results149,go_sem,fj];done) rfl ⟨_,rfl,rfl,HL.out.trans (l7.mono HL.out.size)⟩
 ·have hl:(Instr.lookup 230 (.map (some (S+1+1))) (G 11) true).run Tryz.prog jG=.ok (.tuple #[.func (.func 198) #[] #[.pointer (ad S),.pointer (ad (S+1))],.bool true]) jG:=pB.out 11
  have hc:=Xu jG S (S+1) a b ha hb trivial x1 x2
  clear pB x1 x2
  go_wp2_with(first
   |(go_at_call 198;(with_reducible refine hc.mono ?_);rintro e w7 ⟨rfl,l7⟩)
   |((with_reducible refine hc.mono ?_);rintro e w7 ⟨rfl,l7⟩))
  exact bodyPost_ret (v:=.tuple #[.int .u16 (fj 11 a b),.bool true]) (by simp[results,Tryz.results149,go_sem,fj];done) rfl ⟨_,rfl,rfl,HL.out.trans (l7.mono HL.out.size)⟩
 ·have hl:(Instr.lookup 230 (.map (some (S+1+1))) (G 12) true).run Tryz.prog jG=.ok (.tuple #[.func (.func 199) #[] #[.pointer (ad S),.pointer (ad (S+1))],.bool true]) jG:=pB.out 12
  have hc:=Xt jG S (S+1) a b ha hb trivial x1 x2
  clear pB x1 x2
  go_wp2_with(first
   |(go_at_call 199;(with_reducible refine hc.mono ?_);rintro e w7 ⟨rfl,l7⟩)
   |((with_reducible refine hc.mono ?_);rintro e w7 ⟨rfl,l7⟩))
  exact bodyPost_ret (v:=.tuple #[.int .u16 (fj 12 a b),.bool true]) (by simp[results,Tryz.results149,go_sem,fj];done) rfl ⟨_,rfl,rfl,HL.out.trans (l7.mono HL.out.size)⟩
 ·have hl:(Instr.lookup 230 (.map (some (S+1+1))) (G 13) true).run Tryz.prog jG=.ok (.tuple #[.func (.func 201) #[] #[.pointer (ad S),.pointer (ad (S+1))],.bool true]) jG:=pB.out 13
  have hc:=Xs jG S (S+1) a b ha hb trivial x1 x2
  clear pB x1 x2
  go_wp2_with(first
   |(go_at_call 201;(with_reducible refine hc.mono ?_);rintro e w7 ⟨rfl,l7⟩)
   |((with_reducible refine hc.mono ?_);rintro e w7 ⟨rfl,l7⟩))
  exact bodyPost_ret (v:=.tuple #[.int .u16 (fj 13 a b),.bool true]) (by simp[results,Tryz.results149,go_sem,fj];done) rfl ⟨_,rfl,rfl,HL.out.trans (l7.mono HL.out.size)⟩
 ·have hl:(Instr.lookup 230 (.map (some (S+1+1))) (G 14) true).run Tryz.prog jG=.ok (.tuple #[.func (.func 202) #[] #[.pointer (ad S),.pointer (ad (S+1))],.bool true]) jG:=pB.out 14
  have hc:=Xr jG S (S+1) a b ha hb trivial x1 x2
  clear pB x1 x2
  go_wp2_with(first
   |(go_at_call 202;(with_reducible refine hc.mono ?_);rintro e w7 ⟨rfl,l7⟩)
   |((with_reducible refine hc.mono ?_);rintro e w7 ⟨rfl,l7⟩))
  exact bodyPost_ret (v:=.tuple #[.int .u16 (fj 14 a b),.bool true]) (by simp[results,Tryz.results149,go_sem,fj];done) rfl ⟨_,rfl,rfl,HL.out.trans (l7.mono HL.out.size)⟩
 ·have hl:(Instr.lookup 230 (.map (some (S+1+1))) (G 15) true).run Tryz.prog jG=.ok (.tuple #[.func (.func 203) #[] #[.pointer (ad S),.pointer (ad (S+1))],.bool true]) jG:=pB.out 15
  have hc:=Xq jG S (S+1) a b ha hb trivial x1 x2
  clear pB x1 x2
  go_wp2_with(first
   |(go_at_call 203;(with_reducible refine hc.mono ?_);rintro e w7 ⟨rfl,l7⟩)
   |((with_reducible refine hc.mono ?_);rintro e w7 ⟨rfl,l7⟩))
  exact bodyPost_ret (v:=.tuple #[.int .u16 (fj 15 a b),.bool true]) (by simp[results,Tryz.results149,go_sem,fj];done) rfl ⟨_,rfl,rfl,HL.out.trans (l7.mono HL.out.size)⟩
 ·have hl:(Instr.lookup 230 (.map (some (S+1+1))) (G 16) true).run Tryz.prog jG=.ok (.tuple #[.func (.func 205) #[] #[.pointer (ad S),.pointer (ad (S+1))],.bool true]) jG:=pB.out 16
  have hc:=Xp jG S (S+1) a b ha hb trivial x1 x2
  clear pB x1 x2
  go_wp2_with(first
   |(go_at_call 205;(with_reducible refine hc.mono ?_);rintro e w7 ⟨rfl,l7⟩)
   |((with_reducible refine hc.mono ?_);rintro e w7 ⟨rfl,l7⟩))
  exact bodyPost_ret (v:=.tuple #[.int .u16 (fj 16 a b),.bool true]) (by simp[results,Tryz.results149,go_sem,fj];done) rfl ⟨_,rfl,rfl,HL.out.trans (l7.mono HL.out.size)⟩
 ·have hl:(Instr.lookup 230 (.map (some (S+1+1))) (G 17) true).run Tryz.prog jG=.ok (.tuple #[.func (.func 206) #[] #[.pointer (ad S),.pointer (ad (S+1))],.bool true]) jG:=pB.out 17
  have hc:=Xo jG S (S+1) a b ha hb trivial x1 x2
  clear pB x1 x2
  go_wp2_with(first
   |(go_at_call 206;(with_reducible refine hc.mono ?_);rintro e w7 ⟨rfl,l7⟩)
   |((with_reducible refine hc.mono ?_);rintro e w7 ⟨rfl,l7⟩))
  exact bodyPost_ret (v:=.tuple #[.int .u16 (fj 17 a b),.bool true]) (by simp[results,Tryz.results149,go_sem,fj];done) rfl ⟨_,rfl,rfl,HL.out.trans (l7.mono HL.out.size)⟩
end Go.Proofs.YtjkahfmdcpfjjaaGreat
