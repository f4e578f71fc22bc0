/- A verified interpreter for calls on fixed data, part 1 of 5. -/
import Derived.AtR
import Derived.IntWalk
import Derived.LaidEql
import Derived.Laws.Pointers
import Derived.Laws.StructEq
import Derived.Laws.World
import Derived.MapKept
set_option linter.unusedVariables false
set_option linter.unusedSectionVars false
namespace Go.Il
noncomputable def dI {β:Type} (n:Nat) (k:Nat→β):β:=Nat.rec (k 0) (fun m _=>k (Nat.succ m)) n
theorem bE {β:Type} (n:Nat) (k:Nat→β):dI n k=k n:=by cases n<;>rfl
noncomputable def Zn {β:Type} (n:Int) (k:Int→β):β:=Int.rec (fun m=>dI m fun m=>k (.ofNat m)) (fun m=>dI m fun m=>k (.negSucc m)) n
theorem RX {β:Type} (n:Int) (k:Int→β):Zn n k=k n:=by
 cases n with
 |ofNat m=>exact bE m fun m=>k (.ofNat m)
 |negSucc m=>exact bE m fun m=>k (.negSucc m)
structure NW (β:Type) where
 a0:β
 a1:β
 a2:β
 a3:β
noncomputable def gi {γ:Sort _} (i:Nat) (x0 x1 x2 x3:γ):γ:=Nat.rec (motive:=fun _=>γ) x0 (fun i _=>Nat.rec (motive:=fun _=>γ) x1 (fun i _=>Nat.rec (motive:=fun _=>γ) x2 (fun _ _=>x3) i) i) i
namespace NW
variable {β γ : Type}
noncomputable def pj (i:Nat) (t:NW β):β:=gi i t.a0 t.a1 t.a2 t.a3
noncomputable def up (i:Nat) (t:NW β) (x:β):NW β:=gi i ⟨x,t.a1,t.a2,t.a3⟩ ⟨t.a0,x,t.a2,t.a3⟩ ⟨t.a0,t.a1,x,t.a3⟩ ⟨t.a0,t.a1,t.a2,x⟩
variable {blk d ep h i j m n p9:Nat}
theorem MD (hi:i<4) (hj:j<4) (t:NW β) (x:β):pj j (up i t x)=if i=j then x else pj j t:=by
 match i,j,hi,hj with
 |0,0,_,_|0,1,_,_|0,2,_,_|0,3,_,_|1,0,_,_|1,1,_,_|1,2,_,_|1,3,_,_|2,0,_,_|2,1,_,_|2,2,_,_|2,3,_,_|3,0,_,_|3,1,_,_|3,2,_,_|3,3,_,_=>rfl
end NW
noncomputable def TT (α:Type) (d:Nat):Type:=Nat.rec (motive:=fun _=>Type) (NW (NW (Option α))) (fun _ t=>NW t) d
def Tv {α:Type} {d:Nat} (t:TT α (d+1)):NW (TT α d):=t
def Rz {α:Type} {d:Nat} (t:NW (TT α d)):TT α (d+1):=t
def X7 {α:Type} (t:TT α 0):NW (NW (Option α)):=t
def VK {α:Type} (t:NW (NW (Option α))):TT α 0:=t
variable {blk d ep h i j m n p9:Nat}
theorem pS {α:Type} (t:NW (TT α d)):Tv (Rz t)=t:=rfl
theorem QW {α:Type} (t:NW (NW (Option α))):X7 (VK t)=t:=rfl
noncomputable def pp {β:Type} (i:Nat) (t:NW (NW β)):β:=(t.pj (i/4)).pj (i%4)
noncomputable def uu {β:Type} (i:Nat) (t:NW (NW β)) (x:β):NW (NW β):=t.up (i/4) ((t.pj (i/4)).up (i%4) x)
theorem Y5 {β:Type} (hi:i<16) (hj:j<16) (t:NW (NW β)) (x:β):pp j (uu i t x)=if i=j then x else pp j t:=by
 unfold pp uu
 rw[NW.MD (by omega) (by omega)]
 by_cases h:i/4=j/4
 ·rw[if_pos h,NW.MD (by omega) (by omega)]
  by_cases h2:i%4=j%4
  ·rw[if_pos h2,if_pos (by omega)]
  ·rw[if_neg h2,if_neg (by omega),h]
 ·rw[if_neg h,if_neg (by omega)]
structure UR (α:Type) (d:Nat) where
 run:TT α d→Option α
noncomputable def rdG (α:Type) (d:Nat):Nat→UR α d:=
 Nat.rec (motive:=fun d=>Nat→UR α d) (fun n=>gi (Nat.div n 4) (gi (Nat.mod n 4) ⟨fun(t:NW (NW (Option α)))=>t.a0.a0⟩ ⟨fun(t:NW (NW (Option α)))=>t.a0.a1⟩ ⟨fun(t:NW (NW (Option α)))=>t.a0.a2⟩ ⟨fun(t:NW (NW (Option α)))=>t.a0.a3⟩)
  (gi (Nat.mod n 4) ⟨fun(t:NW (NW (Option α)))=>t.a1.a0⟩ ⟨fun(t:NW (NW (Option α)))=>t.a1.a1⟩ ⟨fun(t:NW (NW (Option α)))=>t.a1.a2⟩ ⟨fun(t:NW (NW (Option α)))=>t.a1.a3⟩)
  (gi (Nat.mod n 4) ⟨fun(t:NW (NW (Option α)))=>t.a2.a0⟩ ⟨fun(t:NW (NW (Option α)))=>t.a2.a1⟩ ⟨fun(t:NW (NW (Option α)))=>t.a2.a2⟩ ⟨fun(t:NW (NW (Option α)))=>t.a2.a3⟩)
  (gi (Nat.mod n 4) ⟨fun(t:NW (NW (Option α)))=>t.a3.a0⟩ ⟨fun(t:NW (NW (Option α)))=>t.a3.a1⟩ ⟨fun(t:NW (NW (Option α)))=>t.a3.a2⟩ ⟨fun(t:NW (NW (Option α)))=>t.a3.a3⟩))
  (fun d ih n=>gi (Nat.div n (Nat.mul 16 (Nat.pow 4 d))) ⟨fun(t:NW (TT α d))=>(ih (Nat.mod n (Nat.mul 16 (Nat.pow 4 d)))).run t.a0⟩ ⟨fun(t:NW (TT α d))=>(ih (Nat.mod n (Nat.mul 16 (Nat.pow 4 d)))).run t.a1⟩ ⟨fun(t:NW (TT α d))=>(ih (Nat.mod n (Nat.mul 16 (Nat.pow 4 d)))).run t.a2⟩ ⟨fun(t:NW (TT α d))=>(ih (Nat.mod n (Nat.mul 16 (Nat.pow 4 d)))).run t.a3⟩) d
noncomputable def Yd (α:Type) (d n:Nat):UR α d:=Bool.rec (motive:=fun _=>UR α d) ⟨fun _=>none⟩ (rdG α d n) (Nat.blt n (Nat.mul 16 (Nat.pow 4 d)))
structure XH (α β:Type) (d:Nat) where
 run:TT α d→α→(TT α d→β)→β
noncomputable def wrF (α β:Type) (d:Nat):Nat→XH α β d:=
 Nat.rec (motive:=fun d=>Nat→XH α β d) (fun n=>gi (Nat.div n 4) (gi (Nat.mod n 4)
  ⟨fun(t:NW (NW (Option α))) v k=>NW.rec (motive:=fun _=>β) (fun a b c e=>NW.rec (motive:=fun _=>β) (fun a' b' c' e'=>k (NW.mk (NW.mk (some v) b' c' e') b c e)) a) t⟩
  ⟨fun(t:NW (NW (Option α))) v k=>NW.rec (motive:=fun _=>β) (fun a b c e=>NW.rec (motive:=fun _=>β) (fun a' b' c' e'=>k (NW.mk (NW.mk a' (some v) c' e') b c e)) a) t⟩
  ⟨fun(t:NW (NW (Option α))) v k=>NW.rec (motive:=fun _=>β) (fun a b c e=>NW.rec (motive:=fun _=>β) (fun a' b' c' e'=>k (NW.mk (NW.mk a' b' (some v) e') b c e)) a) t⟩
  ⟨fun(t:NW (NW (Option α))) v k=>NW.rec (motive:=fun _=>β) (fun a b c e=>NW.rec (motive:=fun _=>β) (fun a' b' c' e'=>k (NW.mk (NW.mk a' b' c' (some v)) b c e)) a) t⟩)
  (gi (Nat.mod n 4)
  ⟨fun(t:NW (NW (Option α))) v k=>NW.rec (motive:=fun _=>β) (fun a b c e=>NW.rec (motive:=fun _=>β) (fun a' b' c' e'=>k (NW.mk a (NW.mk (some v) b' c' e') c e)) b) t⟩
  ⟨fun(t:NW (NW (Option α))) v k=>NW.rec (motive:=fun _=>β) (fun a b c e=>NW.rec (motive:=fun _=>β) (fun a' b' c' e'=>k (NW.mk a (NW.mk a' (some v) c' e') c e)) b) t⟩
  ⟨fun(t:NW (NW (Option α))) v k=>NW.rec (motive:=fun _=>β) (fun a b c e=>NW.rec (motive:=fun _=>β) (fun a' b' c' e'=>k (NW.mk a (NW.mk a' b' (some v) e') c e)) b) t⟩
  ⟨fun(t:NW (NW (Option α))) v k=>NW.rec (motive:=fun _=>β) (fun a b c e=>NW.rec (motive:=fun _=>β) (fun a' b' c' e'=>k (NW.mk a (NW.mk a' b' c' (some v)) c e)) b) t⟩)
  (gi (Nat.mod n 4)
  ⟨fun(t:NW (NW (Option α))) v k=>NW.rec (motive:=fun _=>β) (fun a b c e=>NW.rec (motive:=fun _=>β) (fun a' b' c' e'=>k (NW.mk a b (NW.mk (some v) b' c' e') e)) c) t⟩
  ⟨fun(t:NW (NW (Option α))) v k=>NW.rec (motive:=fun _=>β) (fun a b c e=>NW.rec (motive:=fun _=>β) (fun a' b' c' e'=>k (NW.mk a b (NW.mk a' (some v) c' e') e)) c) t⟩
  ⟨fun(t:NW (NW (Option α))) v k=>NW.rec (motive:=fun _=>β) (fun a b c e=>NW.rec (motive:=fun _=>β) (fun a' b' c' e'=>k (NW.mk a b (NW.mk a' b' (some v) e') e)) c) t⟩
  ⟨fun(t:NW (NW (Option α))) v k=>NW.rec (motive:=fun _=>β) (fun a b c e=>NW.rec (motive:=fun _=>β) (fun a' b' c' e'=>k (NW.mk a b (NW.mk a' b' c' (some v)) e)) c) t⟩)
  (gi (Nat.mod n 4)
  ⟨fun(t:NW (NW (Option α))) v k=>NW.rec (motive:=fun _=>β) (fun a b c e=>NW.rec (motive:=fun _=>β) (fun a' b' c' e'=>k (NW.mk a b c (NW.mk (some v) b' c' e'))) e) t⟩
  ⟨fun(t:NW (NW (Option α))) v k=>NW.rec (motive:=fun _=>β) (fun a b c e=>NW.rec (motive:=fun _=>β) (fun a' b' c' e'=>k (NW.mk a b c (NW.mk a' (some v) c' e'))) e) t⟩
  ⟨fun(t:NW (NW (Option α))) v k=>NW.rec (motive:=fun _=>β) (fun a b c e=>NW.rec (motive:=fun _=>β) (fun a' b' c' e'=>k (NW.mk a b c (NW.mk a' b' (some v) e'))) e) t⟩
  ⟨fun(t:NW (NW (Option α))) v k=>NW.rec (motive:=fun _=>β) (fun a b c e=>NW.rec (motive:=fun _=>β) (fun a' b' c' e'=>k (NW.mk a b c (NW.mk a' b' c' (some v)))) e) t⟩))
  (fun d ih n=>gi (Nat.div n (Nat.mul 16 (Nat.pow 4 d)))
   ⟨fun(t:NW (TT α d)) v k=>NW.rec (motive:=fun _=>β) (fun a b c e=>(ih (Nat.mod n (Nat.mul 16 (Nat.pow 4 d)))).run a v fun x=>k (NW.mk x b c e)) t⟩
   ⟨fun(t:NW (TT α d)) v k=>NW.rec (motive:=fun _=>β) (fun a b c e=>(ih (Nat.mod n (Nat.mul 16 (Nat.pow 4 d)))).run b v fun x=>k (NW.mk a x c e)) t⟩
   ⟨fun(t:NW (TT α d)) v k=>NW.rec (motive:=fun _=>β) (fun a b c e=>(ih (Nat.mod n (Nat.mul 16 (Nat.pow 4 d)))).run c v fun x=>k (NW.mk a b x e)) t⟩
   ⟨fun(t:NW (TT α d)) v k=>NW.rec (motive:=fun _=>β) (fun a b c e=>(ih (Nat.mod n (Nat.mul 16 (Nat.pow 4 d)))).run e v fun x=>k (NW.mk a b c x)) t⟩) d
noncomputable def rd {α:Type} (d n:Nat) (t:TT α d):Option α:=(rdG α d n).run t
noncomputable def wr {α:Type} (d:Nat):Nat→TT α d→α→TT α d:=
 Nat.rec (motive:=fun d=>Nat→TT α d→α→TT α d) (fun n t v=>VK (uu n (X7 t) (some v))) (fun d ih n t v=>Rz (NW.up (n/(16*4^d)) (Tv t) (ih (n%(16*4^d)) ((Tv t).pj (n/(16*4^d))) v))) d
theorem th {α:Type} (n:Nat) (t:TT α 0):rd 0 n t=pp n (X7 t):=by
 show(UR.run (d:=0) (gi (n/4) (gi (n%4) _ _ _ _) (gi (n%4) _ _ _ _) (gi (n%4) _ _ _ _) (gi (n%4) _ _ _ _)) t:Option α)=gi (n%4) _ _ _ _
 simp only[X7,NW.pj]
 generalize n/4=q
 generalize n%4=r
 match q,r with
 |0,0|0,1|0,2|0,r+3|1,0|1,1|1,2|1,r+3|2,0|2,1|2,2|2,r+3|q+3,0|q+3,1|q+3,2|q+3,r+3=>rfl
theorem nN {α:Type} (d n:Nat) (t:TT α (d+1)):rd (d+1) n t=rd d (n%(16*4^d)) ((Tv t).pj (n/(16*4^d))):=by
 show(UR.run (d:=d+1) (gi (n/(16*4^d)) _ _ _ _) t:Option α)=rd d (n%(16*4^d)) (gi (n/(16*4^d)) _ _ _ _)
 simp only[Tv]
 generalize n/(16*4^d)=q
 match q with
 |0|1|2|q+3=>rfl
theorem GH {α:Type} (n:Nat) (t:TT α 0) (v:α):wr 0 n t v=VK (uu n (X7 t) (some v)):=rfl
theorem GI {α:Type} (d n:Nat) (t:TT α (d+1)) (v:α):wr (d+1) n t v=Rz (NW.up (n/(16*4^d)) (Tv t) (wr d (n%(16*4^d)) ((Tv t).pj (n/(16*4^d))) v)):=rfl
theorem Eg {α β:Type} (d n:Nat) (t:TT α d) (v:α) (k:TT α d→β):(wrF α β d n).run t v k=k (wr d n t v):=by
 induction d generalizing n with
 |zero=>
  rw[GH]
  show(XH.run (d:=0) (gi (n/4) (gi (n%4) _ _ _ _) (gi (n%4) _ _ _ _) (gi (n%4) _ _ _ _) (gi (n%4) _ _ _ _)) t v k:β)=_
  simp only[uu,X7,NW.pj,NW.up]
  generalize n/4=q
  generalize n%4=r
  match q,r with
  |0,0|0,1|0,2|0,r+3|1,0|1,1|1,2|1,r+3|2,0|2,1|2,2|2,r+3|q+3,0|q+3,1|q+3,2|q+3,r+3=>rfl
 |succ d ih=>
  rw[GI]
  show(XH.run (d:=d+1) (gi (n/(16*4^d)) _ _ _ _) t v k:β)=_
  simp only[Tv,NW.pj,NW.up]
  generalize n/(16*4^d)=q
  match q with
  |0|1|2|q+3=>exact ih _ _ _
theorem Y4 {α:Type} (d n m:Nat) (hn:n<16*4^d) (hm:m<16*4^d) (t:TT α d) (v:α):rd d m (wr d n t v)=if n=m then some v else rd d m t:=by
 induction d generalizing n m with
 |zero=>rw[GH,th,th,QW,Y5 (by simpa using hn) (by simpa using hm)]
 |succ d ih=>
  have hp:0<16*4^d:=Nat.mul_pos (by omega) (Nat.pow_pos (by omega))
  have e1:=Nat.div_add_mod n (16*4^d)
  have e2:=Nat.div_add_mod m (16*4^d)
  have CN:n/(16*4^d)<4:=Nat.div_lt_of_lt_mul (by rw[Nat.pow_succ]at hn;omega)
  have hm':m/(16*4^d)<4:=Nat.div_lt_of_lt_mul (by rw[Nat.pow_succ]at hm;omega)
  rw[GI,nN,pS,NW.MD CN hm',nN d m t]
  by_cases h:n/(16*4^d)=m/(16*4^d)
  ·rw[if_pos h,ih _ _ (Nat.mod_lt _ hp) (Nat.mod_lt _ hp)]
   by_cases h2:n%(16*4^d)=m%(16*4^d)
   ·rw[if_pos h2,if_pos (by rw[←e1,←e2,h,h2])]
   ·rw[if_neg h2,if_neg (fun e=>h2 (by rw[e])),h]
  ·rw[if_neg h,if_neg (fun e=>h (by rw[e]))]
def four {β:Type} (t:β):NW β:=⟨t,t,t,t⟩
theorem tm {β:Type} (i:Nat) (t:β):NW.pj i (four t)=t:=by
 match i with
 |0|1|2|q+3=>rfl
theorem GW {β:Type} (i:Nat) (t:β):pp i (four (four t))=t:=by unfold pp;rw[tm,tm]
noncomputable def emp (α:Type) (d:Nat):TT α d:=Nat.rec (motive:=fun d=>TT α d) (VK (four (four none))) (fun d t=>Rz (four t)) d
noncomputable def Ij {α:Type} (a:α) (d:Nat):TT α d:=Nat.rec (motive:=fun d=>TT α d) (VK (four (four (some a)))) (fun d t=>Rz (four t)) d
theorem Mx (α:Type) (d n:Nat):rd d n (emp α d)=none:=by
 induction d generalizing n with
 |zero=>rw[th];exact GW _ _
 |succ d ih=>
  show rd (d+1) n (Rz (four (emp α d)))=_
  rw[nN,pS,tm,ih]
theorem Mw {α:Type} (a:α) (d n:Nat):rd d n (Ij a d)=some a:=by
 induction d generalizing n with
 |zero=>rw[th];exact GW _ _
 |succ d ih=>
  show rd (d+1) n (Rz (four (Ij a d)))=_
  rw[nN,pS,tm,ih]
structure Tr (α:Type) where
 d:Nat
 t:TT α d
namespace Tr
variable {α β : Type}
noncomputable def lf:Tr α:=⟨0,VK (NW.mk (NW.mk none none none none) (NW.mk none none none none) (NW.mk none none none none) (NW.mk none none none none))⟩
noncomputable def get (t:Tr α) (n:Nat):Option α:=Tr.rec (motive:=fun _=>Option α) (fun d t=>(Yd α d n).run t) t
noncomputable def Ou (t:Tr α) (n:Nat) (b:β) (k:α→β):β:=Tr.rec (motive:=fun _=>β) (fun d t=>Option.rec (motive:=fun _=>β) b k ((Yd α d n).run t)) t
theorem tz (t:Tr α) (n:Nat) (b:β) (k:α→β):t.Ou n b k=match t.get n with|some v=>k v|none=>b:=by
 obtain⟨d,t⟩:=t
 show Option.rec (motive:=fun _=>β) b k ((Yd α d n).run t)=match(Yd α d n).run t with|some v=>k v|none=>b
 cases(Yd α d n).run t<;>rfl
structure QF (α β:Type) (d:Nat) where
 run:TT α d→α→(Tr α→β)→β
noncomputable def Ya (α β:Type) (n:Nat) (fuel:Nat):(d:Nat)→QF α β d:=
 Nat.rec (motive:=fun _=>(d:Nat)→QF α β d) (fun d=>⟨fun t v k=>k ⟨d,t⟩⟩)
  (fun _ ih d=>Bool.rec (motive:=fun _=>QF α β d) ⟨fun t v k=>(ih (Nat.succ d)).run (NW.mk t (emp α d) (emp α d) (emp α d):NW (TT α d)) v k⟩
   ⟨fun t v k=>(wrF α β d n).run t v fun t=>k ⟨d,t⟩⟩ (Nat.blt n (Nat.mul 16 (Nat.pow 4 d)))) fuel
noncomputable def mU (t:Tr α) (n:Nat) (v:α) (k:Tr α→β):β:=Tr.rec (motive:=fun _=>β) (fun d t=>(Ya α β n (n+1) d).run t v k) t
noncomputable def set (t:Tr α) (n:Nat) (v:α):Tr α:=t.mU n v id
theorem Vq (n fuel d:Nat) (t:TT α d) (v:α) (k:Tr α→β):(Ya α β n fuel d).run t v k=k ((Ya α (Tr α) n fuel d).run t v id):=by
 induction fuel generalizing d with
 |zero=>rfl
 |succ f ih=>
  show QF.run (Bool.rec (motive:=fun _=>QF α β d) _ _ (Nat.blt n (16*4^d))) t v k=k (QF.run (Bool.rec (motive:=fun _=>QF α (Tr α) d) _ _ (Nat.blt n (16*4^d))) t v id)
  cases Nat.blt n (16*4^d)with
  |false=>exact ih (d+1) _
  |true=>
   show XH.run _ t v _=k (XH.run _ t v _)
   rw[Eg,Eg];rfl
theorem eG (t:Tr α) (n:Nat) (v:α) (k:Tr α→β):t.mU n v k=k (t.set n v):=Vq n (n+1) t.d t.t v k
theorem rW (d:Nat) (t:TT α d) (n:Nat):(Tr.mk d t).get n=if n<16*4^d then rd d n t else none:=by
 show(UR.run (Bool.rec (motive:=fun _=>UR α d) _ _ (Nat.blt n (16*4^d))) t)=_
 by_cases h:n<16*4^d
 ·rw[if_pos h,show Nat.blt n (16*4^d)=true from by simpa[Nat.blt_eq]using h];rfl
 ·have:Nat.blt n (16*4^d)=false:=by
   cases hb:Nat.blt n (16*4^d)with
   |false=>rfl
   |true=>exact absurd (by simpa[Nat.blt_eq]using hb) h
  rw[if_neg h,this]
theorem Ot (d:Nat) (t:TT α d) (m:Nat):(Tr.mk (d+1) (Rz (NW.mk t (emp α d) (emp α d) (emp α d)))).get m=(Tr.mk d t).get m:=by
 rw[rW,rW]
 have hp:0<16*4^d:=Nat.mul_pos (by omega) (Nat.pow_pos (by omega))
 by_cases h:m<16*4^d
 ·rw[if_pos h,if_pos (by rw[Nat.pow_succ];omega),nN,pS,Nat.mod_eq_of_lt h,Nat.div_eq_of_lt h];rfl
 ·rw[if_neg h]
  split
  ·rename_i h4
   rw[nN,pS]
   have hq:m/(16*4^d)<4:=Nat.div_lt_of_lt_mul (by rw[Nat.pow_succ]at h4;omega)
   have qA:0<m/(16*4^d):=Nat.div_pos (by omega) hp
   have kx:∀q:Nat,q<4→0<q→NW.pj q (NW.mk t (emp α d) (emp α d) (emp α d))=emp α d:=by
    intro q h1 h2
    have:q=1∨q=2∨q=3:=by omega
    rcases this with h|h|h<;>subst h<;>rfl
   rw[kx _ hq qA]
   exact Mx _ _ _
  ·rfl
theorem Xa (n fuel:Nat):∀(d:Nat) (t:TT α d) (v:α) (m:Nat),n<16*4^(d+fuel-1)→0<fuel→((Ya α (Tr α) n fuel d).run t v id).get m=if n=m then some v else(Tr.mk d t).get m:=by
 induction fuel with
 |zero=>intro d t v m _ h;omega
 |succ f ih=>
  intro d t v m h _
  show Tr.get (QF.run (Bool.rec (motive:=fun _=>QF α (Tr α) d) _ _ (Nat.blt n (16*4^d))) t v id) m=_
  by_cases hb:n<16*4^d
  ·rw[show Nat.blt n (16*4^d)=true from by simpa[Nat.blt_eq]using hb]
   show Tr.get (XH.run (wrF α (Tr α) d n) t v _) m=_
   rw[Eg]
   show Tr.get (Tr.mk d (wr d n t v)) m=_
   rw[rW,rW]
   by_cases hm:m<16*4^d
   ·rw[if_pos hm,if_pos hm,Y4 _ _ _ hb hm]
   ·rw[if_neg hm,if_neg hm,if_neg (by omega)]
  ·have:Nat.blt n (16*4^d)=false:=by
    cases wo:Nat.blt n (16*4^d)with
    |false=>rfl
    |true=>exact absurd (by simpa[Nat.blt_eq]using wo) hb
   rw[this]
   show Tr.get (QF.run (Ya α (Tr α) n f (d+1)) (Rz (NW.mk t (emp α d) (emp α d) (emp α d))) v id) m=_
   cases f with
   |zero=>exact absurd h hb
   |succ f=>
    rw[ih (d+1) _ v m (by rw[show d+1+(f+1)-1=d+(f+1+1)-1 from by omega];exact h) (by omega),Ot]
theorem ny (n:Nat):(lf:Tr α).get n=none:=by
 show(Tr.mk 0 (emp α 0)).get n=none
 rw[rW];split
 ·exact Mx _ _ _
 ·rfl
theorem Na (n:Nat):n<16*4^n:=Nat.lt_of_lt_of_le (Nat.lt_pow_self (a:=4) (by omega)) (Nat.le_mul_of_pos_left _ (by omega))
theorem ib (t:Tr α) (n m:Nat) (a:α):(t.set n a).get m=if n=m then some a else t.get m:=by
 obtain⟨d,t⟩:=t
 have h1:n<16*4^(d+n):=Nat.lt_of_lt_of_le (Na n) (Nat.mul_le_mul_left _ (Nat.pow_le_pow_right (by omega) (by omega)))
 exact Xa n (n+1) d t a m h1 (by omega)
theorem bH (t:Tr α) (n:Nat) (a:α):(t.set n a).get n=some a:=by rw[ib,if_pos rfl]
theorem bI (t:Tr α) (a:α) (h:n≠m):(t.set n a).get m=t.get m:=by rw[ib,if_neg h]
noncomputable def full (a:α) (d:Nat) (k:Tr α→β):β:=dI (Nat.div d 2) fun d=>k ⟨d,Ij a d⟩
noncomputable def Ii (a:α) (d:Nat):Tr α:=⟨Nat.div d 2,Ij a (Nat.div d 2)⟩
theorem SD (a:α) (d:Nat) (k:Tr α→β):full a d k=k (Ii a d):=bE _ _
theorem Ka {a:α} {b:α} (h:(Ii a d).get n=some b):b=a:=by
 unfold Ii at h
 rw[rW]at h
 split at h
 ·rw[Mw]at h;exact(Option.some.inj h).symm
 ·cases h
end Tr
end Go.Il
namespace Go.Il
class Sym where
 val:Nat→Int
inductive AV where
 |bool (b:Bool)
 |int (k:IntKind) (n:Int)
 |sym (k:IntKind) (i:Nat)
 |str (s:List Nat)
 |rI
 |ptr (id ep off:Nat)
 |ec
 |slice (id ep off len cap:Nat) (ex:Bool) (OS:Nat)
 |mZ
 |map (id:Nat)
 |fn (f:FuncId) (first captured:List AV)
 |yield (id:Nat)
 |sP
 |iface (t:TypeId) (v:AV)
 |wW
 |agg (l:List AV)
 |n8 (l:List AV)
structure db where
 v:AV
 tag:Nat
structure ee where
 key:AV
 val:AV
 born:Nat
inductive Rec where
 |cells (elem:TypeId) (c:Tr db) (top lat:Nat) (sh:Bool)
 |map (es:List ee) (clock:Nat)
 |iJ (m:Option Nat) (since:Nat) (seen:List Nat) (stepped:Nat)
 |Bv (s:List Nat) (pos:Nat)
 |loop (state:LoopState) (pending:Option Code) (fn:FuncId) (env:Tr AV) (n:Nat) (params:List Tmp) (assign body:Code) (defers:Nat)
 |deferred (open_:Bool)
structure St where
 heap:Tr Rec
 next:Nat
abbrev Env:=Tr AV
def vX:Nat→Value→Option AV
 |0,_=>none
 |d+1,v=>
  match v with
  | .bool b=>some (.bool b)
  | .int k n=>some (.int k n)
  | .string s=>some (.str (s.data.toList.map UInt8.toNat))
  | .pointer none=>some .rI
  | .slice none 0 0=>some .ec
  | .map none=>some .mZ
  | .nilFunc=>some .sP
  | .nilIface=>some .wW
  | .iface t v=>(vX d v).map (.iface t)
  | .agg cs=>(cs.toList.mapM (vX d)).map .agg
  | .tuple cs=>(cs.toList.mapM (vX d)).map .n8
  |_=>none
def vu:Nat:=8
section
variable {β : Type}
noncomputable def fR (e:Env) (o:Operand) (d:β) (k:AV→β):β:=
 match o with
 | .tmp t=>match e.get t with
  |some v=>k v
  |none=>d
 | .const v=>match vX vu v with
  |some v=>k v
  |none=>d
 | .global _=>d
 | .func f=>k (.fn f [] [])
noncomputable def ev (e:Env) (o:Operand):Option AV:=fR e o none some
theorem bp (e:Env) (o:Operand) (d:β) (k:AV→β):fR e o d k=match ev e o with|some v=>k v|none=>d:=by
 unfold ev fR
 cases o with
 |tmp t=>simp only[];cases e.get t<;>rfl
 |const v=>simp only[];cases vX vu v<;>rfl
 |global g=>rfl
 |func f=>rfl
noncomputable def mf (e:Env):List Operand→β→(List AV→β)→β
 |[],_,k=>k []
 |o::os,d,k=>fR e o d fun v=>mf e os d fun vs=>k (v::vs)
noncomputable def vn (e:Env) (os:List Operand):Option (List AV):=mf e os none some
theorem fw (e:Env) (os:List Operand) (d:β) (k:List AV→β):mf e os d k=match vn e os with|some v=>k v|none=>d:=by
 unfold vn
 induction os generalizing β d k with
 |nil=>rfl
 |cons o os ih=>
  simp only[mf]
  rw[bp,bp]
  cases ev e o with
  |none=>rfl
  |some v=>
   simp only[]
   rw[ih,ih (k:=fun vs=>some (v::vs))]
   cases mf e os none some<;>rfl
theorem OP (e:Env) (o:Operand) (os:List Operand):vn e (o::os)=match ev e o,vn e os with|some v,some vs=>some (v::vs)|_,_=>none:=by
 show mf e (o::os) none some=_
 simp only[mf]
 rw[bp]
 cases ev e o with
 |none=>rfl
 |some v=>simp only[];rw[fw];cases vn e os<;>rfl
end
def ni (P:Program) (t:TypeId):Option Bool:=
 match P.underlying t with
 |some (.struct _)|some (.array _ _)=>some true
 |some _=>some false
 |none=>none
def dZ (P:Program) (t:TypeId):Option Nat:=(P.info? t).map (·.size)
def bytesOf (P:Program) (t:TypeId):Option Nat:=(P.info? t).map (·.bytes)
def jM (P:Program) (t:TypeId):Option AV:=((P.info? t).bind (·.zero)).bind (vX vu)
def AV.cells:AV→List AV
 | .agg l=>l
 |v=>[v]
def AV.one:AV→Bool
 | .agg _| .n8 _=>false
 |_=>true
section
variable {β : Type}
noncomputable def sO (st:St) (id ep off:Nat) (d:β) (k:AV→β):β:=
 match st.heap.get id with
 |some (.cells _ c top _ _)=>
  match Nat.blt off top with
  |true=>match c.get off with
   |some ⟨v,tag⟩=>match Nat.ble tag ep with
    |true=>k v
    |false=>d
   |none=>d
  |false=>d
 |_=>d
noncomputable def cell (st:St) (id ep off:Nat):Option AV:=sO st id ep off none some
theorem qQ (st:St) (id ep off:Nat) (d:β) (k:AV→β):sO st id ep off d k=match cell st id ep off with|some v=>k v|none=>d:=by
 unfold cell sO
 cases st.heap.get id with
 |none=>rfl
 |some r=>
  cases r<;>first|rfl|skip
  rename_i c top _ _
  simp only[]
  cases Nat.blt off top with
  |false=>rfl
  |true=>
   simp only[]
   cases c.get off with
   |none=>rfl
   |some x=>obtain⟨v,tag⟩:=x;simp only[];cases Nat.ble tag ep<;>rfl
noncomputable def kA (st:St) (id ep:Nat):Nat→Nat→β→(List AV→β)→β
 |0,off,d,k=>k []
 |n+1,off,d,k=>sO st id ep off d fun v=>dI (off+1) fun off=>kA st id ep n off d fun vs=>k (v::vs)
noncomputable def cellsOf (st:St) (id ep n off:Nat):Option (List AV):=kA st id ep n off none some
theorem fN (st:St) (id ep n off:Nat) (d:β) (k:List AV→β):kA st id ep n off d k=match cellsOf st id ep n off with|some v=>k v|none=>d:=by
 unfold cellsOf
 induction n generalizing β off d k with
 |zero=>rfl
 |succ n ih=>
  simp only[kA,bE]
  rw[qQ,qQ]
  cases cell st id ep off with
  |none=>rfl
  |some v=>
   simp only[]
   rw[ih,ih (k:=fun vs=>some (v::vs))]
   cases kA st id ep n (off+1) none some<;>rfl
theorem Az (st:St) (id ep n off:Nat):cellsOf st id ep (n+1) off=match cell st id ep off,cellsOf st id ep n (off+1)with|some v,some vs=>some (v::vs)|_,_=>none:=by
 show kA st id ep (n+1) off none some=_
 simp only[kA,bE]
 rw[qQ]
 cases cell st id ep off with
 |none=>rfl
 |some v=>simp only[];rw[fN];cases cellsOf st id ep n (off+1)<;>rfl
noncomputable def sF (P:Program) (st:St) (t:TypeId) (id ep off:Nat) (d:β) (k:AV→β):β:=
 match ni P t with
 |some true=>match dZ P t with
  |some n=>kA st id ep n off d fun l=>k (.agg l)
  |none=>d
 |some false=>sO st id ep off d k
 |none=>d
noncomputable def Hl (P:Program) (st:St) (t:TypeId) (id ep off:Nat):Option AV:=sF P st t id ep off none some
theorem uJ (P:Program) (st:St) (t:TypeId) (id ep off:Nat) (d:β) (k:AV→β):sF P st t id ep off d k=match Hl P st t id ep off with|some v=>k v|none=>d:=by
 unfold Hl sF
 cases ni P t with
 |none=>rfl
 |some b=>
  cases b with
  |false=>simp only[];rw[qQ];rfl
  |true=>
   simp only[]
   cases dZ P t with
   |none=>rfl
   |some n=>simp only[];rw[fN,fN (d:=none)];cases cellsOf st id ep n off<;>rfl
end
mutual
def AV.beq:AV→AV→Bool
 | .bool a,.bool b=>a==b
 | .int k a,.int k' b=>decide (k=k')&&decide (a=b)
 | .str a,.str b=>decide (a=b)
 | .rI,.rI=>true
 | .ptr a b c,.ptr a' b' c'=>Nat.beq a a'&&Nat.beq b b'&&Nat.beq c c'
 | .ec,.ec=>true
 | .slice a b c l p e z,.slice a1 b1 c1 l1 p1 e1 z1=>Nat.beq a a1&&Nat.beq b b1&&Nat.beq c c1&&Nat.beq l l1&&Nat.beq p p1&&(e==e1)&&Nat.beq z z1
 | .mZ,.mZ=>true
 | .map a,.map b=>Nat.beq a b
 | .fn f a b,.fn f' a' b'=>Nat.beq f f'&&AV.Gh a a'&&AV.Gh b b'
 | .yield a,.yield b=>Nat.beq a b
 | .sP,.sP=>true
 | .iface t v,.iface t' v'=>Nat.beq t t'&&AV.beq v v'
 | .wW,.wW=>true
 | .agg a,.agg b=>AV.Gh a b
 | .n8 a,.n8 b=>AV.Gh a b
 |_,_=>false
def AV.Gh:List AV→List AV→Bool
 |[],[]=>true
 |a::l,b::m=>AV.beq a b&&AV.Gh l m
 |_,_=>false
end
mutual
theorem AV.eq_of_beq:∀(a b:AV),AV.beq a b=true→a=b:=by
 intro a b h
 cases a<;>cases b<;>simp only[AV.beq,Bool.and_eq_true,decide_eq_true_eq,beq_iff_eq,Nat.beq_eq,Bool.false_eq_true]at h<;>first|rfl|skip
 ·rw[h]
 ·rw[h.1,h.2]
 ·rw[h]
 ·rw[h.1.1,h.1.2,h.2]
 ·rw[h.1.1.1.1.1.1,h.1.1.1.1.1.2,h.1.1.1.1.2,h.1.1.1.2,h.1.1.2,h.1.2,h.2]
 ·rw[h]
 ·rw[h.1.1,AV.jr _ _ h.1.2,AV.jr _ _ h.2]
 ·rw[h]
 ·rw[h.1,AV.eq_of_beq _ _ h.2]
 ·rw[AV.jr _ _ h]
 ·rw[AV.jr _ _ h]
theorem AV.jr:∀(a b:List AV),AV.Gh a b=true→a=b:=by
 intro a b h
 cases a<;>cases b<;>simp only[AV.Gh,Bool.and_eq_true,Bool.false_eq_true]at h
 ·rfl
 ·rw[AV.eq_of_beq _ _ h.1,AV.jr _ _ h.2]
end
end Go.Il
namespace Go.Il
structure Pl where
 blk:Nat
 base:Nat
 size:Nat
abbrev bL:=Nat→Nat→Option Pl
variable [Sym]
mutual
inductive aL (ρ:bL):AV→Value→Prop where
 |bool (b:Bool):aL ρ (.bool b) (.bool b)
 |int (k:IntKind) (n:Int):aL ρ (.int k n) (.int k n)
 |sym (k:IntKind) (i:Nat):aL ρ (.sym k i) (.int k (Sym.val i))
 |str (l:List Nat) (s:ByteArray) (h:s.data.toList.map UInt8.toNat=l):aL ρ (.str l) (.string s)
 |rI:aL ρ .rI (.pointer none)
 |ptr (id ep off:Nat) (p:Pl) (h:ρ id ep=some p) (hb:p.base≤off):aL ρ (.ptr id ep off) (.pointer (some ⟨p.blk,off-p.base,none⟩))
 |ec:aL ρ .ec (.slice none 0 0)
 |slice (id ep off len cap:Nat) (ex:Bool) (OS cY o:Nat) (p:Pl) (h:ρ id ep=some p) (hb:p.base≤off) (hc:cap≤cY) (he:ex=true→cY=cap) (hl:len≤cap)
  (ho:0<cY→o=off-p.base) (hs:0<cY→off-p.base+cY*OS≤p.size):aL ρ (.slice id ep off len cap ex OS) (.slice (some ⟨p.blk,o,none⟩) len cY)
 |mZ:aL ρ .mZ (.map none)
 |map (id:Nat) (p:Pl) (h:ρ id 0=some p):aL ρ (.map id) (.map (some p.blk))
 |fn (f:FuncId) (a b:List AV) (a' b':Array Value) (ha:aP ρ a a'.toList) (hb:aP ρ b b'.toList):aL ρ (.fn f a b) (.func (.func f) a' b')
 |yield (id:Nat) (p:Pl) (h:ρ id 0=some p):aL ρ (.yield id) (.func (.yield p.blk) #[] #[])
 |sP:aL ρ .sP .nilFunc
 |iface (t:TypeId) (v:AV) (v':Value) (h:aL ρ v v'):aL ρ (.iface t v) (.iface t v')
 |wW:aL ρ .wW .nilIface
 |agg (l:List AV) (l':Array Value) (h:aP ρ l l'.toList):aL ρ (.agg l) (.agg l')
 |n8 (l:List AV) (l':Array Value) (h:aP ρ l l'.toList):aL ρ (.n8 l) (.tuple l')
inductive aP (ρ:bL):List AV→List Value→Prop where
 |nil:aP ρ [] []
 |cons (v:AV) (v':Value) (l:List AV) (l':List Value) (h:aL ρ v v') (hl:aP ρ l l'):aP ρ (v::l) (v'::l')
end
def bL.le (ρ ρ':bL):Prop:=∀id ep p,ρ id ep=some p→ρ' id ep=some p
theorem bL.le_refl (ρ:bL):ρ.le ρ:=fun _ _ _ h=>h
theorem bL.le_trans {a b c:bL} (h:a.le b) (h':b.le c):a.le c:=fun i e p x=>h' i e p (h i e p x)
mutual
theorem aL.mono {ρ ρ':bL} (h:ρ.le ρ'):∀{v:AV} {v':Value},aL ρ v v'→aL ρ' v v'
 |_,_,.bool b=> .bool b
 |_,_,.int k n=> .int k n
 |_,_,.sym k n=> .sym k n
 |_,_,.str l s e=> .str l s e
 |_,_,.rI=> .rI
 |_,_,.ptr id ep off p e hb=> .ptr id ep off p (h _ _ _ e) hb
 |_,_,.ec=> .ec
 |_,_,.slice id ep off len cap ex OS cY o p e hb hc he hl ho hs=> .slice id ep off len cap ex OS cY o p (h _ _ _ e) hb hc he hl ho hs
 |_,_,.mZ=> .mZ
 |_,_,.map id p e=> .map id p (h _ _ _ e)
 |_,_,.fn f a b a' b' ha hb=> .fn f a b a' b' (aP.mono h ha) (aP.mono h hb)
 |_,_,.yield id p e=> .yield id p (h _ _ _ e)
 |_,_,.sP=> .sP
 |_,_,.iface t v v' e=> .iface t v v' (aL.mono h e)
 |_,_,.wW=> .wW
 |_,_,.agg l l' e=> .agg l l' (aP.mono h e)
 |_,_,.n8 l l' e=> .n8 l l' (aP.mono h e)
theorem aP.mono {ρ ρ':bL} (h:ρ.le ρ'):∀{v:List AV} {v':List Value},aP ρ v v'→aP ρ' v v'
 |_,_,.nil=> .nil
 |_,_,.cons v v' l l' e el=> .cons v v' l l' (aL.mono h e) (aP.mono h el)
end
variable {l:List AV} {l':List Value}
theorem aP.length {ρ:bL} (h:aP ρ l l'):l'.length=l.length:=by
 induction l generalizing l' with
 |nil=>cases h;rfl
 |cons a l ih=>cases h with|cons _ _ _ _ _ hl=>simp[ih hl]
theorem aP.append {ρ:bL} {a b:List AV} {a' b':List Value} (h:aP ρ a a') (h':aP ρ b b'):aP ρ (a++b) (a'++b'):=by
 induction a generalizing a' with
 |nil=>cases h;exact h'
 |cons x a ih=>cases h with|cons _ _ _ _ hx hl=>exact .cons _ _ _ _ hx (ih hl)
variable {blk d ep h i j m n p9:Nat} {k u v:AV}
theorem aP.get {ρ:bL} (h:aP ρ l l') (hi:l[i]?=some v):∃v',l'[i]?=some v'∧aL ρ v v':=by
 induction l generalizing l' i with
 |nil=>simp at hi
 |cons a l ih=>
  cases h with
  |cons _ _ _ _ hx hl=>
   cases i with
   |zero=>simp at hi;subst hi;exact⟨_,by simp,hx⟩
   |succ i=>simp at hi;obtain⟨v',h1,h2⟩:=ih hl hi;exact⟨v',by simpa using h1,h2⟩
theorem aP.drop {ρ:bL} (h:aP ρ l l') (n:Nat):aP ρ (l.drop n) (l'.drop n):=by
 induction n generalizing l l' with
 |zero=>simpa using h
 |succ n ih=>cases h with
  |nil=>simpa using aP.nil
  |cons _ _ _ _ _ hl=>simpa using ih hl
theorem aP.take {ρ:bL} (h:aP ρ l l') (n:Nat):aP ρ (l.take n) (l'.take n):=by
 induction n generalizing l l' with
 |zero=>simpa using aP.nil
 |succ n ih=>cases h with
  |nil=>simpa using aP.nil
  |cons _ _ _ _ hx hl=>simpa using .cons _ _ _ _ hx (ih hl)
variable {k' u' v' x':Value}
theorem aL.cells {ρ:bL} (h:aL ρ v v'):aP ρ v.cells v'.cells.toList:=by
 cases h with
 |agg l l' h=>exact h
 |_=>exact .cons _ _ _ _ (by constructor<;>assumption) .nil
theorem aL.one {ρ:bL} (h:aL ρ v v') (ho:v.one=true):v'.oneCell'=true:=by
 cases h<;>first|rfl|(simp[AV.one]at ho)
theorem aL.iX {ρ:bL} {id off len cap OS:Nat} {ex:Bool} (h:aL ρ (.slice id ep off len cap ex OS) v'):
 ∃(cY o:Nat) (p:Pl),v'=.slice (some ⟨p.blk,o,none⟩) len cY∧ρ id ep=some p∧p.base≤off∧cap≤cY∧(ex=true→cY=cap)∧len≤cap∧(0<cY→o=off-p.base)∧(0<cY→off-p.base+cY*OS≤p.size):=by
 cases h with
 |slice _ _ _ _ _ _ _ cY o p hp hb hc he hl ho hs=>exact⟨cY,o,p,rfl,hp,hb,hc,he,hl,ho,hs⟩
theorem aL.tl {ρ:bL} {id off:Nat} (h:aL ρ (.ptr id ep off) v'):∃p:Pl,v'=.pointer (some ⟨p.blk,off-p.base,none⟩)∧ρ id ep=some p∧p.base≤off:=by
 cases h with
 |ptr _ _ _ p hp hb=>exact⟨p,rfl,hp,hb⟩
end Go.Il
namespace Go.Il
variable [Sym]
inductive bz (ρ:bL):List ee→List MapEntry→Prop where
 |nil:bz ρ [] []
 |cons (e:ee) (e':MapEntry) (l l') (hk:aL ρ e.key e'.key) (hv:aL ρ e.val e'.val) (hb:e'.born=e.born) (hl:bz ρ l l'):bz ρ (e::l) (e'::l')
variable {ρ':bL}
theorem bz.mono {ρ:bL} (h:ρ.le ρ') {l:List ee} {l':List MapEntry} (hl:bz ρ l l'):bz ρ' l l':=by
 induction l generalizing l' with
 |nil=>cases hl;exact .nil
 |cons e l ih=>cases hl with|cons _ _ _ _ hk hv hb hl=>exact .cons _ _ _ _ (hk.mono h) (hv.mono h) hb (ih hl)
def iD (ρ:bL) (e:Env) (tmps:Array Value):Prop:=∀t v,e.get t=some v→∃v',tmps[t]?=some v'∧aL ρ v v'
theorem iD.mono {ρ:bL} (h:ρ.le ρ') {e:Env} {t:Array Value} (ht:iD ρ e t):iD ρ' e t:=fun i v hi=>by
 obtain⟨v',h1,h2⟩:=ht i v hi;exact⟨v',h1,h2.mono h⟩
def AU (ρ:bL) (r:Rec) (l:Loop):Prop:=
 match r with
 | .loop state pending fn env n params assign body defers=>l.state=state∧l.pending=pending∧l.fn=fn∧l.tmps.size=n∧iD ρ env l.tmps∧l.params.toList=params∧l.assign=assign∧l.body=body∧
  ∃p,ρ defers 0=some p∧p.blk=l.defers
 |_=>False
def gg (ρ:bL) (ep:Nat) (p:Pl) (r:Rec) (o:Option Obj):Prop:=
 match r with
 | .cells elem c top lat sh=>∃cs lo hi,o=some (.cells cs elem (lo,hi))∧(sh=false→lo=0∧hi=0)∧(∀i,lo≤i→i<hi→cs.size≤i)∧cs.size=p.size∧(ep≤lat∧∀i x,c.get i=some x→x.tag≤lat)∧
  (∀i v tag,i<top→c.get i=some ⟨v,tag⟩→tag≤ep→p.base≤i→∃v',cs[i-p.base]?=some v'∧aL ρ v v')∧
  (ep=lat→∀i,p.base≤i→i<top→i-p.base<p.size)
 | .map es clock=>ep=0∧∃cI,o=some (.map cI clock)∧bz ρ es cI.toList
 | .iJ m since seen stepped=>ep=0∧∃m' iH,o=some (.mapIter m' since iH stepped)∧iH.toList=seen∧(match m with|none=>m'=none|some id=>∃p,ρ id 0=some p∧m'=some p.blk)
 | .Bv s pos=>ep=0∧∃s',o=some (.stringIter s' pos)∧s'.data.toList.map UInt8.toNat=s
 | .loop ..=>ep=0∧∃l,o=some (.loop l)∧AU ρ r l
 | .deferred b=>ep=0∧o=some (.deferred (if b then some []else none))
variable {blk d ep h i j m n p9:Nat} {p:Pl} {r:Rec}
theorem gg.mono {ρ:bL} (h:ρ.le ρ') {o:Option Obj} (hr:gg ρ ep p r o):gg ρ' ep p r o:=by
 cases r with
 |cells elem c top lat sh=>
  obtain⟨cs,lo,hi,h1,h2,h3,h4,h5,h6,h7⟩:=hr
  exact⟨cs,lo,hi,h1,h2,h3,h4,h5,fun i v tag a b c' d=>by obtain⟨v',x,y⟩:=h6 i v tag a b c' d;exact⟨v',x,y.mono h⟩,h7⟩
 |map es clock=>obtain⟨h0,cI,h1,h2⟩:=hr;exact⟨h0,cI,h1,h2.mono h⟩
 |iJ m since seen stepped=>
  obtain⟨h0,m',s',h1,h2,h3⟩:=hr
  refine⟨h0,m',s',h1,h2,?_⟩
  cases m with
  |none=>exact h3
  |some id=>obtain⟨p,a,b⟩:=h3;exact⟨p,h _ _ _ a,b⟩
 |Bv s pos=>exact hr
 |loop a b c d e f g i j=>
  obtain⟨h0,l,h1,x1,x2,x3,x4,x5,x6,x7,x8,q,x9,QO⟩:=hr
  exact⟨h0,l,h1,x1,x2,x3,x4,x5.mono h,x6,x7,x8,q,h _ _ _ x9,QO⟩
 |deferred b=>exact hr
structure aV (B:Nat→Prop) (ρ:bL) (st:St) (w:World):Prop where
 mapped:∀id ep p,ρ id ep=some p→¬B p.blk∧p.blk<w.heap.size∧id<st.next∧∃r,st.heap.get id=some r∧gg ρ ep p r w.heap[p.blk]?
 inj:∀id ep p Fh Ls p',ρ id ep=some p→ρ Fh Ls=some p'→p.blk=p'.blk→id=Fh∧p=p'
 low:∀b,B b→b<w.heap.size
structure gX (B:Nat→Prop) (ρ:bL) (st:St) (w:World) (ρ':bL) (bt:St) (w':World):Prop where
 le:ρ.le ρ'
 next:st.next≤bt.next
 un:∀id,id<st.next→(∀ep,ρ id ep=none)→(∀ep,ρ' id ep=none)∧bt.heap.get id=st.heap.get id
 low:∀b,B b→w'.heap[b]?=w.heap[b]?
 size:w.heap.size≤w'.heap.size
 os:w'.os=w.os
 out:w'.output=w.output
 YG:∀a,w'.frozen? a=w.frozen? a
theorem gX.refl (B:Nat→Prop) (ρ:bL) (st:St) (w:World):gX B ρ st w ρ st w:=⟨bL.le_refl _,Nat.le_refl _,fun _ _ h=>⟨h,rfl⟩,fun _ _=>rfl,Nat.le_refl _,rfl,rfl,fun _=>rfl⟩
theorem gX.trans {B:Nat→Prop} {ρ ρ₁ ρ₂:bL} {st st₁ st₂:St} {w w₁ w₂:World} (a:gX B ρ st w ρ₁ st₁ w₁) (b:gX B ρ₁ st₁ w₁ ρ₂ st₂ w₂):gX B ρ st w ρ₂ st₂ w₂ where
 le:=bL.le_trans a.le b.le
 next:=Nat.le_trans a.next b.next
 un id h1 h2:=by
  obtain⟨x,y⟩:=a.un id h1 h2
  obtain⟨z,u⟩:=b.un id (Nat.lt_of_lt_of_le h1 a.next) x
  exact⟨z,u.trans y⟩
 low b' hb:=(b.low b' hb).trans (a.low b' hb)
 size:=Nat.le_trans a.size b.size
 os:=b.os.trans a.os
 out:=b.out.trans a.out
 YG x:=(b.YG x).trans (a.YG x)
theorem gX.drew {B:Nat→Prop} {ρ:bL} {st:St} {w:World} (n:Nat):gX B ρ st w ρ st {w with drawn:=n}:=⟨bL.le_refl _,Nat.le_refl _,fun _ _ h=>⟨h,rfl⟩,fun _ _=>rfl,Nat.le_refl _,rfl,rfl,fun _=>rfl⟩
def Rec.plain (r:Rec):Bool:=match r with| .cells _ _ _ _ sh=> !sh|_=>true
variable {o:Obj}
theorem gg.Vo {ρ:bL} (h:gg ρ ep p r (some o)) (hp:r.plain=true):∀cs t lo hi,o=.cells cs t (lo,hi)→hi=0:=by
 rintro cs t lo hi rfl
 cases r with
 |cells elem c top lat sh=>
  obtain⟨jH,RO,Fw,h1,h2,_⟩:=h
  cases h1
  exact(h2 (by simpa[Rec.plain]using hp)).2
 |map es clock=>obtain⟨_,_,h1,_⟩:=h;cases h1
 |iJ=>obtain⟨_,_,_,h1,_⟩:=h;cases h1
 |Bv=>obtain⟨_,_,h1,_⟩:=h;cases h1
 |loop=>obtain⟨_,_,h1,_⟩:=h;cases h1
 |deferred=>obtain⟨_,h1⟩:=h;cases h1
theorem nz {w:World} (h:∀cs t lo hi,o=.cells cs t (lo,hi)→hi=0) (a:Addr):({w with heap:=w.heap.push o}:World).frozen? a=w.frozen? a:=by
 unfold World.frozen?
 by_cases hb:a.block=w.heap.size
 ·have h1:w.heap[a.block]?=none:=by simp[hb]
  have h2:(w.heap.push o)[a.block]?=some o:=by rw[hb];simp
  simp only[h1,h2]
  cases o<;>first|rfl|skip
  rename_i cs t fr
  obtain⟨lo,hi⟩:=fr
  have:=h cs t lo hi rfl
  subst this
  simp
 ·have h2:(w.heap.push o)[a.block]?=w.heap[a.block]?:=by rw[Array.getElem?_push,if_neg hb]
  simp only[h2]
theorem aV.drew {B:Nat→Prop} {ρ:bL} {st:St} {w:World} (h:aV B ρ st w) (n:Nat):aV B ρ st {w with drawn:=n}:=⟨h.mapped,h.inj,h.low⟩
section
variable {B : Nat → Prop} {ρ : bL} {st : St} {w : World}
theorem eD (p:Pl) (off n:Nat) (h:p.base≤off):(⟨p.blk,off-p.base,none⟩:Addr).add n=⟨p.blk,off+n-p.base,none⟩:=by
 unfold Addr.add
 split
 ·subst_vars;rfl
 ·congr 1;simp;omega
variable {k u v:AV}
theorem aV.cell (h:aV B ρ st w) {id off:Nat} (hp:ρ id ep=some p) (hb:p.base≤off) (hc:cell st id ep off=some v):
 ∃v',w.cell? ⟨p.blk,off-p.base,none⟩=some v'∧aL ρ v v':=by
 obtain⟨_,_,_,r,hr,hrel⟩:=h.mapped _ _ _ hp
 unfold Il.cell sO at hc
 rw[hr]at hc
 cases r with
 |cells elem c top lat sh=>
  obtain⟨cs,lo,hi,h1,h2,h3,h4,h5,h6,h7⟩:=hrel
  simp only[]at hc
  split at hc
  ·rename_i ht
   split at hc
   ·rename_i v0 tag hg
    split at hc
    ·rename_i hle
     cases hc
     have bw:off<top:=by simpa[Nat.blt_eq]using ht
     obtain⟨v',x,y⟩:=h6 off _ tag bw hg (Nat.le_of_ble_eq_true hle) hb
     refine⟨v',?_,y⟩
     simp only[World.cell?,h1,Option.isSome,Bool.false_eq_true,if_false]
     exact x
    ·cases hc
   ·cases hc
  ·cases hc
 |_=>cases hc
theorem aV.loadCells (h:aV B ρ st w) {P:Program} {id:Nat} (hp:ρ id ep=some p) (wV:Nat) (hb:p.base≤wV):∀(n i:Nat) (vs:List AV) (acc:Array Value),cellsOf st id ep n (wV+i)=some vs→
 ∃ka,aP ρ vs ka∧(loadCellsFrom ⟨p.blk,wV-p.base,none⟩ i n acc).run P w=.ok (acc++ka.toArray) w:=by
 intro n
 induction n with
 |zero=>
  intro i vs acc hc
  cases hc
  exact⟨[],.nil,by simp[loadCellsFrom]⟩
 |succ n ih=>
  intro i vs acc hc
  rw[Az]at hc
  split at hc
  ·rename_i v vs1 e1 e2
   cases hc
   obtain⟨v',x,y⟩:=h.cell hp (by omega) e1
   obtain⟨ka,hv,hr⟩:=ih (i+1) vs1 (acc.push v') (by rw[←Nat.add_assoc];exact e2)
   refine⟨v'::ka,.cons _ _ _ _ y hv,?_⟩
   have ha:=eD p wV i hb
   simp only[loadCellsFrom,Sem.run_bind,run_load,ha,x,Result.andThen_ok,hr]
   congr 1
   simp
  ·cases hc
variable {kt t:TypeId} {b isS:Bool}
theorem nR {P:Program} (h:ni P t=some b) (w:World):(isAgg t).run P w=.ok b w:=by
 unfold ni at h
 simp only[isAgg,underlying,Sem.run_bind,run_program,Result.andThen_ok]
 cases hu:P.underlying t with
 |none=>rw[hu]at h;cases h
 |some d=>
  rw[hu]at h
  cases d<;>simp_all
theorem bC {P:Program} (h:dZ P t=some n) (w:World):(sizeOf t).run P w=.ok n w:=by
 unfold dZ at h
 simp only[sizeOf,typeInfo,Sem.run_bind,run_program,Result.andThen_ok]
 cases hu:P.info? t with
 |none=>rw[hu]at h;cases h
 |some d=>rw[hu]at h;simp at h;simp[h]
theorem aV.load (h:aV B ρ st w) {P:Program} {id off:Nat} (hp:ρ id ep=some p) (hb:p.base≤off) (hl:Hl P st t id ep off=some v):
 ∃v',aL ρ v v'∧(loadVar t ⟨p.blk,off-p.base,none⟩).run P w=.ok v' w:=by
 unfold Hl sF at hl
 split at hl
 ·rename_i ha
  split at hl
  ·rename_i n hn
   rw[fN]at hl
   split at hl
   ·rename_i vs Qh
    cases hl
    obtain⟨ka,hv,hr⟩:=h.loadCells (P:=P) hp off hb n 0 vs #[] Qh
    refine⟨.agg ka.toArray,.agg _ _ (by simpa using hv),?_⟩
    simp only[loadVar,Sem.run_bind,nR ha,Result.andThen_ok,if_true,bC hn,Go.loadCells,hr]
    simp
   ·cases hl
  ·cases hl
 ·rename_i ha
  obtain⟨v',x,y⟩:=h.cell hp hb hl
  refine⟨v',y,?_⟩
  simp only[loadVar,Sem.run_bind,nR ha,Result.andThen_ok,Bool.false_eq_true,if_false,run_load,x]
 ·cases hl
end
end Go.Il
namespace Go.Il
variable [Sym]
section
variable {β : Type}
noncomputable def EM (st:St) (id ep off:Nat) (v:AV) (d:β) (k:St→β):β:=
 match v.one with
 |false=>d
 |true=>match st.heap.get id with
  |some (.cells elem c top lat sh)=>
   match Nat.beq ep lat,Nat.blt off top with
   |true,true=>c.mU off ⟨v,lat⟩ fun c=>st.heap.mU id (.cells elem c top lat sh) fun h=>k ⟨h,st.next⟩
   |_,_=>d
  |_=>d
noncomputable def put (st:St) (id ep off:Nat) (v:AV):Option St:=EM st id ep off v none some
theorem zw (st:St) (id ep off:Nat) (v:AV) (d:β) (k:St→β):EM st id ep off v d k=match put st id ep off v with|some s=>k s|none=>d:=by
 unfold put EM
 cases v.one with
 |false=>rfl
 |true=>
  simp only[]
  cases st.heap.get id with
  |none=>rfl
  |some r=>
   cases r<;>first|rfl|skip
   simp only[Tr.eG]
   split<;>rfl
variable {blk d ep h i j m n p9:Nat} {k u v:AV}
theorem BP {st bt:St} {id off:Nat} (h:put st id ep off v=some bt):
 v.one=true∧∃elem c top sh,st.heap.get id=some (.cells elem c top ep sh)∧off<top∧bt=⟨st.heap.set id (.cells elem (c.set off ⟨v,ep⟩) top ep sh),st.next⟩:=by
 unfold put EM at h
 split at h
 ·cases h
 ·rename_i ho
  split at h
  ·rename_i elem c top lat sh hg
   split at h
   ·rename_i h1 h2
    simp only[Tr.eG]at h
    cases h
    have e:ep=lat:=Nat.eq_of_beq_eq_true h1
    subst e
    exact⟨ho,elem,c,top,sh,hg,by simpa[Nat.blt_eq]using h2,rfl⟩
   ·cases h
  ·cases h
noncomputable def jT (st:St) (id ep off:Nat):List AV→β→(St→β)→β
 |[],d,k=>k st
 |v::vs,d,k=>EM st id ep off v d fun st=>dI (off+1) fun off=>jT st id ep off vs d k
noncomputable def wQ (st:St) (id ep off:Nat) (vs:List AV):Option St:=jT st id ep off vs none some
theorem qc (st:St) (id ep off:Nat) (vs:List AV) (d:β) (k:St→β):jT st id ep off vs d k=match wQ st id ep off vs with|some s=>k s|none=>d:=by
 unfold wQ
 induction vs generalizing st off with
 |nil=>rfl
 |cons v vs ih=>
  simp only[jT,bE]
  rw[zw,zw]
  cases put st id ep off v with
  |none=>rfl
  |some s=>exact ih s (off+1)
theorem I9 (st:St) (id ep off:Nat) (v:AV) (vs:List AV):wQ st id ep off (v::vs)=(put st id ep off v).bind fun s=>wQ s id ep (off+1) vs:=by
 show jT st id ep off (v::vs) none some=_
 simp only[jT,bE]
 rw[zw]
 cases put st id ep off v<;>rfl
end
section
variable {B : Nat → Prop} {ρ : bL} {st bt : St} {w : World}
variable {blk d ep h i j m n p9:Nat}
theorem sw {w:World} {off:Nat} {v:Value} {cs:Array Value} {elem:TypeId} {fr:Nat×Nat} (h:w.heap[blk]?=some (.cells cs elem fr)):
 (w.setCell ⟨blk,off,none⟩ v).heap[blk]?=some (.cells (cs.setIfInBounds off v) elem fr):=by
 obtain⟨bw,he⟩:=Array.getElem?_eq_some_iff.1 h
 simp only[World.setCell,Option.isSome,Bool.false_eq_true,if_false]
 rw[Array.getElem?_eq_getElem (by rw[Array.size_modify];exact bw),Array.getElem_modify_self,he]
theorem gY {w:World} {off b:Nat} {v:Value} (h:b≠blk):(w.setCell ⟨blk,off,none⟩ v).heap[b]?=w.heap[b]?:=by
 simp only[World.setCell]
 rw[Array.getElem?_modify,if_neg (Ne.symm h)]
theorem iQ (w:World) (a:Addr) (v:Value):(w.setCell a v).heap.size=w.heap.size:=by simp[World.setCell]
variable {p:Pl} {k u v:AV} {k' u' v' x':Value}
theorem aV.put (h:aV B ρ st w) {id off:Nat} (hp:ρ id ep=some p) (hb:p.base≤off) (hv:aL ρ v v') (mJ:Il.put st id ep off v=some bt):
 (∃x,w.cell? ⟨p.blk,off-p.base,none⟩=some x)∧w.frozen? ⟨p.blk,off-p.base,none⟩=false∧aV B ρ bt (w.setCell ⟨p.blk,off-p.base,none⟩ v')∧gX B ρ st w ρ bt (w.setCell ⟨p.blk,off-p.base,none⟩ v'):=by
 obtain⟨ho,elem,c,top,sh,hg,bw,rfl⟩:=BP mJ
 obtain⟨hB,cC,dQ,r,hr,hrel⟩:=h.mapped _ _ _ hp
 rw[hg]at hr;cases hr
 obtain⟨cs,lo,hi,h1,h2,h3,h4,h5,h6,h7⟩:=hrel
 have uV:off-p.base<cs.size:=by rw[h4];exact h7 rfl off hb bw
 refine⟨⟨cs[off-p.base],by simp[World.cell?,h1,uV]⟩,?_,?_,?_⟩
 ·simp only[World.frozen?,h1]
  cases hd:decide (lo≤off-p.base)&&decide (off-p.base<hi)with
  |false=>rfl
  |true=>
   simp only[Bool.and_eq_true,decide_eq_true_eq]at hd
   have:=h3 _ hd.1 hd.2
   omega
 ·refine⟨fun Fh Ls p' ku=>?_,h.inj,by rw[iQ];exact h.low⟩
  obtain⟨hB',JK,ak9,r',mH,TY⟩:=h.mapped _ _ _ ku
  refine⟨hB',by rw[iQ];exact JK,ak9,?_⟩
  by_cases hid:id=Fh
  ·subst hid
   rw[hg]at mH;cases mH
   refine⟨_,Tr.bH _ _ _,?_⟩
   obtain⟨jH,RO,Fw,g1,g2,g3,g4,g5,g6,g7⟩:=TY
   have tg:∀i x,(c.set off ⟨v,ep⟩).get i=some x→x.tag≤ep:=fun i x hx=>by
    rw[Tr.ib]at hx
    split at hx
    ·cases hx;exact Nat.le_refl _
    ·exact g5.2 i x hx
   by_cases xh:p'.blk=p.blk
   ·obtain⟨_,Z2⟩:=h.inj _ _ _ _ _ _ ku hp xh
    subst Z2
    rw[h1]at g1;cases g1
    refine⟨_,lo,hi,sw h1,h2,fun i a b=>by rw[Array.size_setIfInBounds];exact h3 i a b,by rw[Array.size_setIfInBounds];exact h4,⟨g5.1,tg⟩,?_,g7⟩
    intro i u tag DY kv pg jo
    rw[Tr.ib]at kv
    split at kv
    ·rename_i heq
     cases kv
     subst heq
     exact⟨v',by rw[Array.getElem?_setIfInBounds,if_pos rfl,if_pos uV],hv⟩
    ·rename_i cH
     obtain⟨u',x,y⟩:=g6 i u tag DY kv pg jo
     exact⟨u',by rw[Array.getElem?_setIfInBounds_ne (by omega)];exact x,y⟩
   ·refine⟨jH,RO,Fw,by rw[gY xh];exact g1,g2,g3,g4,⟨g5.1,tg⟩,?_,g7⟩
    intro i u tag DY kv pg jo
    rw[Tr.ib]at kv
    split at kv
    ·rename_i heq
     cases kv
     have hep:Ls=ep:=Nat.le_antisymm g5.1 pg
     subst hep
     rw[hp]at ku;cases ku
     exact absurd rfl xh
    ·exact g6 i u tag DY kv pg jo
  ·refine⟨r',by rw[Tr.bI _ _ hid];exact mH,?_⟩
   have xh:p'.blk≠p.blk:=fun e=>hid (h.inj _ _ _ _ _ _ hp ku e.symm).1
   rw[gY xh];exact TY
 ·refine⟨bL.le_refl _,Nat.le_refl _,fun i hi hn=>⟨hn,?_⟩,fun b wo=>gY (by rintro rfl;exact hB wo),by rw[iQ];exact Nat.le_refl _,rfl,rfl,fun _=>World.frozen?_setCell _ _ _ _⟩
  exact Tr.bI _ _ (fun e=>by subst e;rw[hn]at hp;cases hp)
theorem aV.wQ {id:Nat} (hp:ρ id ep=some p) {P:Program} (wV:Nat) (hb:p.base≤wV):∀(vs:List AV) (ka:List Value) (i:Nat) (st:St) (w:World),aV B ρ st w→aP ρ vs ka→Il.wQ st id ep (wV+i) vs=some bt→
 ∃w',(storeCells ⟨p.blk,wV-p.base,none⟩ ka i).run P w=.ok () w'∧aV B ρ bt w'∧gX B ρ st w ρ bt w':=by
 intro vs
 induction vs with
 |nil=>
  intro ka i st w h hv hs
  cases hv;cases hs
  exact⟨w,by simp[storeCells],h,.refl _ _ _ _⟩
 |cons v vs ih=>
  intro ka i st w h hv hs
  cases hv with
  |cons _ v' _ ka hx hl=>
   rw[I9]at hs
   cases mJ:Il.put st id ep (wV+i) v with
   |none=>rw[mJ]at hs;cases hs
   |some s1=>
    rw[mJ]at hs
    obtain⟨⟨x,hc⟩,hf,hsr,ha⟩:=h.put hp (by omega) hx mJ
    obtain⟨w',h1,h2,h3⟩:=ih ka (i+1) s1 _ hsr hl (by rw[←Nat.add_assoc];exact hs)
    refine⟨w',?_,h2,ha.trans h3⟩
    have CJ:=hx.one (BP mJ).1
    simp only[storeCells,Sem.run_bind,run_store _ _ _ _ _ CJ,eD p wV i hb,hc,hf,Bool.false_eq_true,if_false,Result.andThen_ok]
    exact h1
def bL.add (ρ:bL) (id ep:Nat) (p:Pl):bL:=fun i e=>if i=id∧e=ep then some p else ρ i e
theorem bL.add_same (ρ:bL) (id ep:Nat) (p:Pl):ρ.add id ep p id ep=some p:=by simp[bL.add]
theorem bL.px {ρ:bL} {id:Nat} (h:ρ id ep=none):ρ.le (ρ.add id ep p):=fun i e q hq=>by
 unfold bL.add
 split
 ·rename_i hc;rw[hc.1,hc.2,h]at hq;cases hq
 ·exact hq
variable {r:Rec} {o:Obj}
theorem aV.SU (h:aV B ρ st w) {id:Nat} (hid:id<st.next) (Fi:∀ep,ρ id ep=none) (hg:st.heap.get id=some r)
 (hr:∀ρ',ρ.le ρ'→ρ' id 0=some ⟨w.heap.size,0,n⟩→gg ρ' 0 ⟨w.heap.size,0,n⟩ r (some o)):
 aV B (ρ.add id 0 ⟨w.heap.size,0,n⟩) st {w with heap:=w.heap.push o}:=by
 have hle:=bL.px (p:=⟨w.heap.size,0,n⟩) (Fi 0)
 refine⟨fun Fh Ls p' ku=>?_,?_,fun b hb=>by have:=h.low b hb;simp;omega⟩
 ·unfold bL.add at ku
  split at ku
  ·rename_i hc
   obtain⟨rfl,rfl⟩:=hc
   cases ku
   refine⟨fun hb=>by have:=h.low _ hb;exact absurd this (Nat.lt_irrefl _),by simp,hid,r,hg,?_⟩
   have:=hr _ hle (bL.add_same _ _ _ _)
   simpa using this
  ·obtain⟨a,b,c,r',d,e⟩:=h.mapped _ _ _ ku
   refine⟨a,by simp;omega,c,r',d,?_⟩
   have:(w.heap.push o)[p'.blk]?=w.heap[p'.blk]?:=by rw[Array.getElem?_push,if_neg (by omega)]
   rw[this];exact e.mono hle
 ·intro id1 ep1 p1 id2 ep2 p2 h1 h2 he
  unfold bL.add at h1 h2
  split at h1<;>split at h2
  ·rename_i c1 c2;cases h1;cases h2;exact⟨c1.1.trans c2.1.symm,rfl⟩
  ·cases h1;have:=(h.mapped _ _ _ h2).2.1;simp at he;omega
  ·cases h2;have:=(h.mapped _ _ _ h1).2.1;simp at he;omega
  ·exact h.inj _ _ _ _ _ _ h1 h2 he
def St.grow (st:St) (h:Tr Rec):St:=⟨h,st.next+1⟩
theorem aV.GS (h:aV B ρ st w) (r:Rec):aV B ρ ⟨st.heap.set st.next r,st.next+1⟩ w:=
 ⟨fun id ep p hp=>by
  obtain⟨a,b,c,r',d,e⟩:=h.mapped _ _ _ hp
  exact⟨a,b,by simp;omega,r',by rw[Tr.bI _ _ (by omega)];exact d,e⟩,h.inj,h.low⟩
theorem aV.lT (h:aV B ρ st w) {id:Nat} (hid:st.next≤id) (ep:Nat):ρ id ep=none:=by
 cases he:ρ id ep with
 |none=>rfl
 |some p=>have:=(h.mapped _ _ _ he).2.2.1;omega
theorem gX.SU {id:Nat} (h:aV B ρ st w) (Fi:∀ep,ρ id ep=none) (hid:st.next≤id) (r:Rec) (gR:bt=⟨st.heap.set id r,st.next+1⟩) (hi:id=st.next) (kN:∀cs t lo hi,o=.cells cs t (lo,hi)→hi=0):
 gX B ρ st w (ρ.add id 0 ⟨w.heap.size,0,n⟩) bt {w with heap:=w.heap.push o}:=by
 subst gR
 refine⟨bL.px (Fi 0),by simp,fun i bw hn=>⟨fun ep=>?_,Tr.bI _ _ (by omega)⟩,fun b hb=>?_,by simp,rfl,rfl,nz kN⟩
 ·unfold bL.add;rw[if_neg (by omega)];exact hn ep
 ·have:=h.low b hb
  rw[Array.getElem?_push,if_neg (by omega)]
theorem aV.alloc (h:aV B ρ st w)
 (hr:∀ρ',ρ.le ρ'→ρ' st.next 0=some ⟨w.heap.size,0,n⟩→gg ρ' 0 ⟨w.heap.size,0,n⟩ r (some o)) (mr:r.plain=true:=by first|rfl|assumption):
 ∃ρ',aV B ρ' ⟨st.heap.set st.next r,st.next+1⟩ {w with heap:=w.heap.push o}∧gX B ρ st w ρ' ⟨st.heap.set st.next r,st.next+1⟩ {w with heap:=w.heap.push o}∧ρ' st.next 0=some ⟨w.heap.size,0,n⟩:=
 ⟨_,(h.GS r).SU (id:=st.next) (by simp) (fun ep=>h.lT (Nat.le_refl _) ep) (Tr.bH _ _ _) hr,
  gX.SU h (fun ep=>h.lT (Nat.le_refl _) ep) (Nat.le_refl _) r rfl rfl ((hr _ (bL.px (h.lT (Nat.le_refl _) 0)) (bL.add_same _ _ _ _)).Vo mr),bL.add_same _ _ _ _⟩
end
end Go.Il
namespace Go.Il
variable [Sym]
section
variable {β : Type}
noncomputable def QZ:List Nat→(List Nat→β)→β
 |[],k=>k []
 |a::l,k=>dI a fun a=>QZ l fun l=>k (a::l)
noncomputable def FT (v:AV) (k:AV→β):β:=
 match v with
 | .bool b=>match b with|true=>k (.bool true)|false=>k (.bool false)
 | .int kd n=>Zn n fun n=>k (.int kd n)
 | .ptr a b c=>dI c fun c=>k (.ptr a b c)
 | .slice a b c l p e z=>dI c fun c=>dI l fun l=>dI p fun p=>match e with|true=>k (.slice a b c l p true z)|false=>k (.slice a b c l p false z)
 | .str s=>QZ s fun s=>k (.str s)
 |v=>k v
theorem QY (l:List Nat) (k:List Nat→β):QZ l k=k l:=by
 induction l generalizing k with
 |nil=>rfl
 |cons a l ih=>simp only[QZ,bE,ih]
theorem Kh (v:AV) (k:AV→β):FT v k=k v:=by
 cases v<;>simp only[FT,RX,bE,QY]
 ·split<;>rfl
 ·split<;>rfl
noncomputable def mo:List AV→(List AV→β)→β
 |[],k=>k []
 |a::l,k=>mo l fun l=>k (a::l)
theorem eo (l:List AV) (k:List AV→β):mo l k=k l:=by
 induction l generalizing k with
 |nil=>rfl
 |cons a l ih=>simp only[mo,ih]
end
def half:IntKind→Nat
 | .i8=>128| .i16=>32768| .i32=>2147483648| .i64=>9223372036854775808
 | .u8=>256| .u16=>65536| .u32=>4294967296| .u64=>18446744073709551616
def jN (k:IntKind) (n:Int):Int:=
 match n with
 | .ofNat m=>match Nat.blt m (half k)with|true=> .ofNat m|false=>k.wrap (.ofNat m)
 | .negSucc m=>match k.signed,Nat.blt m (half k)with|true,true=> .negSucc m|_,_=>k.wrap (.negSucc m)
theorem pM (k:IntKind) (n:Int):jN k n=k.wrap n:=by
 cases n with
 |ofNat m=>
  simp only[jN]
  cases hb:Nat.blt m (half k)with
  |false=>rfl
  |true=>
   have h:m<half k:=by simpa[Nat.blt_eq]using hb
   have e:Int.ofNat m=(m:Int):=rfl
   simp only[e]
   cases k<;>simp only[half]at h
   ·rw[IntWalk.i8_in _ (by omega)]
   ·rw[IntWalk.i16_in _ (by omega)]
   ·rw[IntWalk.i32_in _ (by omega)]
   ·rw[IntWalk.i64_in _ (by omega)]
   ·rw[IntWalk.u8_in _ (by omega)]
   ·rw[IntWalk.u16_in _ (by omega)]
   ·rw[IntWalk.u32_in _ (by omega)]
   ·rw[IntWalk.u64_in _ (by omega)]
 |negSucc m=>
  simp only[jN]
  cases hb:Nat.blt m (half k)with
  |false=>cases k<;>rfl
  |true=>
   have h:m<half k:=by simpa[Nat.blt_eq]using hb
   have e:Int.negSucc m= -(m:Int)-1:=by omega
   cases k with
   |u8=>rfl
   |u16=>rfl
   |u32=>rfl
   |u64=>rfl
   |i8=>simp only[half]at h;simp only[IntKind.signed];rw[e,IntWalk.i8_in _ (by omega)]
   |i16=>simp only[half]at h;simp only[IntKind.signed];rw[e,IntWalk.i16_in _ (by omega)]
   |i32=>simp only[half]at h;simp only[IntKind.signed];rw[e,IntWalk.i32_in _ (by omega)]
   |i64=>simp only[half]at h;simp only[IntKind.signed];rw[e,IntWalk.i64_in _ (by omega)]
def RY (op:BinOp) (k:IntKind) (x y:Int):Option AV:=
 match op with
 | .add=>some (.int k (jN k (x+y)))
 | .sub=>some (.int k (jN k (x-y)))
 | .mul=>some (.int k (jN k (x*y)))
 | .quo=>match decide (y=0)with|true=>none|false=>some (.int k (jN k (x.tdiv y)))
 | .rem=>match decide (y=0)with|true=>none|false=>some (.int k (x.tmod y))
 | .and=>some (.int k (k.wrap ((BitVec.ofInt k.bits x&&&BitVec.ofInt k.bits y).toNat)))
 | .or=>some (.int k (k.wrap ((BitVec.ofInt k.bits x|||BitVec.ofInt k.bits y).toNat)))
 | .xor=>some (.int k (k.wrap ((BitVec.ofInt k.bits x^^^BitVec.ofInt k.bits y).toNat)))
 | .andNot=>some (.int k (k.wrap ((BitVec.ofInt k.bits x&&& ~~~(BitVec.ofInt k.bits y)).toNat)))
 | .eql=>some (.bool (decide (x=y)))
 | .neq=>some (.bool (!decide (x=y)))
 | .lss=>some (.bool (decide (x<y)))
 | .leq=>some (.bool (decide (x≤y)))
 | .gtr=>some (.bool (decide (x>y)))
 | .geq=>some (.bool (decide (x≥y)))
 |_=>none
def za (op:BinOp) (k:IntKind) (x y:Int):Option AV:=
 match decide (y<0)with
 |true=>none
 |false=>match op with
  | .shl=>some (.int k (jN k (x*2^(min y.toNat k.bits))))
  | .shr=>some (.int k (x.fdiv (2^(min y.toNat k.bits))))
  |_=>none
variable {k u v:AV}
theorem Np {P:Program} {w:World} {op:BinOp} {k:IntKind} {x y:Int} (h:RY op k x y=some v):∃v',(∀ρ,aL ρ v v')∧∀t,(binOp op t (.int k x) (.int k y)).run P w=.ok v' w:=by
 unfold RY at h
 cases op<;>simp only[]at h<;>(try(cases h;done))
 all_goals(try(split at h<;>(try(cases h;done))))
 all_goals cases h
 all_goals refine⟨_,fun ρ=>(by first|exact .int _ _|exact .bool _),fun t=>?_⟩
 all_goals simp only[binOp,Op.intArith,Op.intDiv,Op.intBits,Op.intCmp,ne_eq,not_true,if_false,Sem.run_pure,pM]
 all_goals(try(rename_i hy;have hy:=of_decide_eq_false hy;rw[if_neg hy];rfl))
 all_goals(try rfl)
 all_goals(congr 2;rw[Bool.eq_iff_iff];simp)
theorem tZ {P:Program} {w:World} {op:BinOp} {k k2:IntKind} {x y:Int} (h:za op k x y=some v):∃v',(∀ρ,aL ρ v v')∧∀t,(binOp op t (.int k x) (.int k2 y)).run P w=.ok v' w:=by
 unfold za at h
 split at h
 ·cases h
 ·rename_i hy
  have hy:=of_decide_eq_false hy
  cases op<;>simp only[]at h<;>cases h
  all_goals refine⟨_,fun ρ=> .int _ _,fun t=>?_⟩
  all_goals simp only[binOp,Op.shift,if_neg hy,Sem.run_pure,pM]
end Go.Il
namespace Go.Il
variable [Sym]
def qh (P:Program) (t:TypeId) (l:List AV) (off:Nat):Option AV:=
 match ni P t with
 |some true=>match dZ P t with
  |some n=>some (.agg ((l.drop off).take n))
  |none=>none
 |some false=>l[off]?
 |none=>none
variable {kt t:TypeId} {l:List AV} {k u v:AV}
theorem kJ {P:Program} {ρ:bL} {l':Array Value} {off:Nat} (hl:aP ρ l l'.toList) (h:qh P t l off=some v):∃v',aL ρ v v'∧∀w,(part t l' off).run P w=.ok v' w:=by
 unfold qh at h
 split at h
 ·rename_i ha
  split at h
  ·rename_i n hn
   cases h
   refine⟨.agg (l'.extract off (off+n)),.agg _ _ ?_,fun w=>?_⟩
   ·have:=(hl.drop off).take n
    rw[Array.toList_extract]
    simpa[List.extract_eq_take_drop]using this
   ·simp only[part,Sem.run_bind,nR ha,Result.andThen_ok,if_true,bC hn,Sem.run_pure]
  ·cases h
 ·rename_i ha
  obtain⟨v',h1,h2⟩:=hl.get h
  refine⟨v',h2,fun w=>?_⟩
  have:l'[off]?=some v':=by simpa using h1
  simp only[part,Sem.run_bind,nR ha,Result.andThen_ok,Bool.false_eq_true,if_false,this,Sem.run_pure]
 ·cases h
noncomputable def qg (st:St) (id:Nat):Bool:=
 match st.heap.get id with
 |some (.cells _ _ _ _ sh)=> !sh
 |_=>false
def fK (P:Program) (eq:TypeId→AV→AV→Option Bool) (xs ys:List AV):List Field→Option Bool
 |[]=>some true
 |f::fs=>
  match decide (f.name ≠ "_") with
  |true=>match qh P f.type xs f.offset,qh P f.type ys f.offset with
   |some a,some b=>match eq f.type a b with
    |some true=>fK P eq xs ys fs
    |some false=>some false
    |none=>none
   |_,_=>none
  |false=>fK P eq xs ys fs
noncomputable def Lr (P:Program) (st:St):Nat→TypeId→AV→AV→Option Bool
 |0,_,_,_=>none
 |d+1,t,x,y=>
  match P.underlying t,x,y with
  |some .bool,.bool a,.bool b=>some (a==b)
  |some (.int _),.int k a,.int k' b=>match decide (k=k')with|true=>some (decide (a=b))|false=>none
  |some .string,.str a,.str b=>some (decide (a=b))
  |some (.pointer _),.rI,.rI=>some true
  |some (.pointer _),.rI,.ptr ..=>some false
  |some (.pointer _),.ptr ..,.rI=>some false
  |some (.pointer e),.ptr i p o,.ptr i' p' o'=>
   match dZ P e with
   |some (n+1)=>match Nat.beq i i' with
    |true=>match Nat.beq p p' with|true=>some (Nat.beq o o')|false=>none
    |false=>match qg st i,qg st i' with|true,true=>some false|_,_=>none
   |_=>none
  |some (.struct fs),.agg xs,.agg ys=>match P.stoodInHeld t with
   |true=>none
   |false=>fK P (Lr P st d) xs ys fs.toList
  |some (.slice _),.ec,.ec=>some true
  |some (.slice _),.ec,.slice ..=>some false
  |some (.slice _),.slice ..,.ec=>some false
  |some (.map _ _),.mZ,.mZ=>some true
  |some (.map _ _),.mZ,.map _=>some false
  |some (.map _ _),.map _,.mZ=>some false
  |some (.func _ _ _),.sP,.sP=>some true
  |some (.func _ _ _),.sP,.fn ..=>some false
  |some (.func _ _ _),.fn ..,.sP=>some false
  |_,_,_=>none
variable {s s':ByteArray}
theorem xy {a b:List Nat} (h:s.data.toList.map UInt8.toNat=a) (h':s'.data.toList.map UInt8.toNat=b):(s.toList==s'.toList)=decide (a=b):=by
 rw[ByteArray.toList_eq,ByteArray.toList_eq]
 subst h h'
 rw[Bool.eq_iff_iff]
 simp only[beq_iff_eq,decide_eq_true_eq]
 constructor
 ·intro e;rw[e]
 ·intro e
  exact(List.map_inj_right (fun x y=>by intro Zv;exact UInt8.toNat_inj.1 Zv)).1 e
section
variable {B : Nat → Prop} {ρ : bL} {st : St} {w : World} {P : Program}
variable {blk d ep h i j m n p9:Nat} {p:Pl}
theorem ur (h:aV B ρ st w) {id:Nat} (hp:ρ id ep=some p) (hb:qg st id=true):∃cs e,w.heap[p.blk]?=some (.cells cs e (0,0)):=by
 obtain⟨_,_,_,r,hr,hrel⟩:=h.mapped _ _ _ hp
 unfold qg at hb
 rw[hr]at hb
 cases r<;>simp only[]at hb<;>(try(cases hb;done))
 obtain⟨cs,lo,hi,h1,h2,_⟩:=hrel
 obtain⟨rfl,rfl⟩:=h2 (by simpa using hb)
 exact⟨cs,_,h1⟩
theorem tB (h:aV B ρ st w):∀(d:Nat),
 (∀(t:TypeId) (x y:AV) (x' y':Value) (b:Bool),aL ρ x x'→aL ρ y y'→Lr P st d t x y=some b→(Op.equalIn d t x' y').run P w=.ok b w)∧
 (∀(fs:List Field) (xs ys:List AV) (GC Vd:Array Value) (b:Bool),aP ρ xs GC.toList→aP ρ ys Vd.toList→fK P (Lr P st d) xs ys fs=some b→(Op.eqFields d GC Vd fs).run P w=.ok b w):=by
 intro d
 induction d with
 |zero=>
  refine⟨fun t x y x' y' b _ _ he=>by simp[Lr]at he,?_⟩
  intro fs
  induction fs with
  |nil=>intro xs ys GC Vd b _ _ he;simp only[fK]at he;cases he;rfl
  |cons f fs ih=>
   intro xs ys GC Vd b hx hy he
   simp only[fK]at he
   split at he
   ·split at he
    ·rename_i a1 b1 _ _
     simp only[Lr]at he
     cases he
    ·cases he
   ·rename_i hn
    simp only[Op.eqFields,if_neg (of_decide_eq_false hn)]
    exact ih _ _ _ _ _ hx hy he
 |succ d ihd=>
  have hA:∀(t:TypeId) (x y:AV) (x' y':Value) (b:Bool),aL ρ x x'→aL ρ y y'→Lr P st (d+1) t x y=some b→(Op.equalIn (d+1) t x' y').run P w=.ok b w:=by
   intro t x y x' y' b hx hy he
   unfold Lr at he
   split at he<;>(try(cases he;done))
   ·rename_i hu;cases hx;cases hy;cases he;exact run_equalIn_bool w d t _ _ hu
   ·rename_i hu;cases hx;cases hy
    split at he
    ·rename_i hk;have hk:=of_decide_eq_true hk;subst hk;cases he;exact run_equalIn_int w d t _ _ _ _ hu
    ·cases he
   ·rename_i hu;cases hx with
    |str _ s h1=>cases hy with
     |str _ s' h2=>cases he;rw[run_equalIn_string w d t _ _ hu,xy h1 h2]
   ·rename_i hu;cases hx;cases hy;cases he;simp[Op.equalIn,run_underlying hu]
   ·rename_i hu;cases hx;cases hy;cases he;simp[Op.equalIn,run_underlying hu]
   ·rename_i hu;cases hx;cases hy;cases he;simp[Op.equalIn,run_underlying hu]
   ·rename_i hu
    cases hx with
    |ptr _ _ _ p hp hb=>
     cases hy with
     |ptr _ _ _ p' ku wo=>
      split at he
      ·rename_i n hn
       have hs:=bC hn w
       split at he
       ·rename_i hi
        have hi:=Nat.eq_of_beq_eq_true hi
        subst hi
        split at he
        ·rename_i Fm
         have Fm:=Nat.eq_of_beq_eq_true Fm
         subst Fm
         rw[hp]at ku;cases ku
         cases he
         simp only[Op.equalIn,Sem.run_bind,run_underlying hu,Result.andThen_ok,hs]
         simp only[ne_eq,Nat.add_one_ne_zero,not_false_eq_true,if_true,sameAddr,beq_self_eq_true,Sem.run_pure]
         congr 1
         rw[Bool.eq_iff_iff]
         simp only[beq_iff_eq,Addr.mk.injEq,true_and,and_true,Nat.beq_eq]
         omega
        ·cases he
       ·rename_i hi
        split at he
        ·rename_i q1 q2
         cases he
         have cH:p.blk≠p'.blk:=fun e=>by
          have:=(h.inj _ _ _ _ _ _ hp ku e).1
          subst this
          simp at hi
         obtain⟨c1,e1,g1⟩:=ur h hp q1
         obtain⟨c2,e2,g2⟩:=ur h ku q2
         simp only[Op.equalIn,Sem.run_bind,run_underlying hu,Result.andThen_ok,hs]
         simp only[ne_eq,Nat.add_one_ne_zero,not_false_eq_true,if_true]
         have al6:∀a b:Nat,(⟨p.blk,a,none⟩:Addr)≠⟨p'.blk,b,none⟩:=fun a b e=>cH (congrArg Addr.block e)
         exact run_sameAddr_other _ (al6 _ _) g1 g2
        ·cases he
      ·cases he
   ·rename_i fs _ _ hu
    cases hx with
    |agg _ GC hxs=>cases hy with
     |agg _ Vd Zt=>
      split at he
      ·cases he
      ·rename_i gR
       have hf:P.fieldsOf t=fs:=by unfold Program.fieldsOf;rw[hu]
       rw[run_equalIn_struct w d t _ _ (by rw[hf];exact hu) gR,hf]
       exact ihd.2 _ _ _ _ _ _ hxs Zt he
   all_goals(rename_i hu;cases hx;cases hy;cases he;simp[Op.equalIn,run_underlying hu])
  refine⟨hA,?_⟩
  intro fs
  induction fs with
  |nil=>intro xs ys GC Vd b _ _ he;simp only[fK]at he;cases he;rfl
  |cons f fs ih=>
   intro xs ys GC Vd b hx hy he
   simp only[fK]at he
   split at he
   ·rename_i hn
    split at he
    ·rename_i a1 b1 e1 e2
     obtain⟨a1',r1,r2⟩:=kJ hx e1
     obtain⟨UN,s1,s2⟩:=kJ hy e2
     simp only[Op.eqFields,if_pos (of_decide_eq_true hn),Sem.run_bind,r2,s2,Result.andThen_ok]
     split at he
     ·rename_i eq
      rw[hA _ _ _ _ _ _ r1 s1 eq]
      simp only[Result.andThen_ok,Bool.not_true,Bool.false_eq_true,if_false]
      exact ih _ _ _ _ _ hx hy he
     ·rename_i eq
      cases he
      rw[hA _ _ _ _ _ _ r1 s1 eq]
      simp
     ·cases he
    ·cases he
   ·rename_i hn
    simp only[Op.eqFields,if_neg (of_decide_eq_false hn)]
    exact ih _ _ _ _ _ hx hy he
end
end Go.Il
namespace Go.Il
variable [Sym]
theorem Ci {ρ:bL} (f:Value→Option AV) (hf:∀v a,f v=some a→aL ρ a v):∀(l:List Value) (as:List AV),l.mapM f=some as→aP ρ as l:=by
 intro l
 induction l with
 |nil=>intro as h;simp at h;subst h;exact .nil
 |cons v l ih=>
  intro as h
  simp only[List.mapM_cons]at h
  cases hv:f v with
  |none=>simp[hv]at h
  |some a=>
   cases hl:l.mapM f with
   |none=>simp[hv,hl]at h
   |some as'=>simp[hv,hl]at h;subst h;exact .cons _ _ _ _ (hf _ _ hv) (ih _ hl)
theorem zE (ρ:bL):∀(d:Nat) (v:Value) (a:AV),vX d v=some a→aL ρ a v:=by
 intro d
 induction d with
 |zero=>intro v a h;simp[vX]at h
 |succ d ih=>
  intro v a h
  unfold vX at h
  split at h<;>(try(cases h;done))
  ·cases h;exact .bool _
  ·cases h;exact .int _ _
  ·cases h;exact .str _ _ rfl
  ·cases h;exact .rI
  ·cases h;exact .ec
  ·cases h;exact .mZ
  ·cases h;exact .sP
  ·cases h;exact .wW
  ·rename_i t v
   cases hv:vX d v with
   |none=>simp[hv]at h
   |some b=>simp[hv]at h;subst h;exact .iface _ _ _ (ih _ _ hv)
  ·rename_i cs
   cases hv:cs.toList.mapM (vX d)with
   |none=>simp[hv]at h
   |some b=>simp[hv]at h;subst h;exact .agg _ _ (Ci _ ih _ _ hv)
  ·rename_i cs
   cases hv:cs.toList.mapM (vX d)with
   |none=>simp[hv]at h
   |some b=>simp[hv]at h;subst h;exact .n8 _ _ (Ci _ ih _ _ hv)
variable {kt t:TypeId}
theorem gL {P:Program} {z:AV} (h:jM P t=some z):∃z',(∀ρ,aL ρ z z')∧∀w,(zeroValue t).run P w=.ok z' w:=by
 unfold jM at h
 cases hi:P.info? t with
 |none=>simp[hi]at h
 |some i=>
  cases hz:i.zero with
  |none=>simp[hi,hz]at h
  |some z'=>
   simp[hi,hz]at h
   refine⟨z',fun ρ=>zE ρ _ _ _ h,fun w=>?_⟩
   simp only[zeroValue,typeInfo,Sem.run_bind,run_program,hi,Sem.run_pure,Result.andThen_ok,hz]
def jd (P:Program) (ck:TypeId→AV→Bool) (l:List AV):List Field→Bool
 |[]=>true
 |f::fs=>
  match decide (f.name ≠ "_") with
  |true=>match qh P f.type l f.offset with
   |some a=>ck f.type a&&jd P ck l fs
   |none=>false
  |false=>jd P ck l fs
def It (P:Program):Nat→TypeId→AV→Bool
 |0,_,_=>false
 |d+1,t,v=>
  match P.underlying t with
  |some (.interface _)|some (.array _ _)=>false
  |some (.struct fs)=>match v with
   | .agg l=>jd P (It P d) l fs.toList
   |_=>false
  |some _=>true
  |none=>false
theorem Ay {P:Program} {ρ:bL} (em:Bool) (m:Nat) (w:World):∀(d:Nat),
 (∀(t:TypeId) (v:AV) (v':Value),aL ρ v v'→It P d t v=true→(Instr.checkKey em (d+m) t v').run P w=.ok () w)∧
 (∀(fs:List Field) (l:List AV) (l':Array Value) (g:Field→PUnit→Sem (ForInStep PUnit)),
  (∀ f, f.name ≠ "_" → ∀ w, (g f PUnit.unit).run P w = ((part f.type l' f.offset).run P w).andThen fun a w' => ((Instr.checkKey em (d + m) f.type a).run P w').andThen fun _ rh => .ok (.yield PUnit.unit) rh) →
  (∀ f, ¬ f.name ≠ "_" → ∀ w, (g f PUnit.unit).run P w = .ok (.yield PUnit.unit) w) → aP ρ l l'.toList → jd P (It P d) l fs = true →
  (forIn fs PUnit.unit g).run P w=.ok PUnit.unit w):=by
 intro d
 induction d with
 |zero=>
  refine⟨fun t v v' _ h=>by simp[It]at h,?_⟩
  intro fs
  induction fs with
  |nil=>intro l l' g g1 g2 _ _;rfl
  |cons f fs ih=>
   intro l l' g g1 g2 hl h
   simp only[jd]at h
   split at h
   ·split at h
    ·simp[It]at h
    ·cases h
   ·rename_i hn
    simp only[List.forIn_cons,Sem.run_bind,g2 f (of_decide_eq_false hn),Result.andThen_ok]
    exact ih l l' g g1 g2 hl h
 |succ d ihd=>
  have hA:∀(t:TypeId) (v:AV) (v':Value),aL ρ v v'→It P (d+1) t v=true→(Instr.checkKey em (d+1+m) t v').run P w=.ok () w:=by
   intro t v v' hv h
   have e:d+1+m=(d+m)+1:=by omega
   rw[e]
   unfold It at h
   split at h
   ·cases h
   ·cases h
   ·rename_i fs hu
    split at h
    ·cases hv with
     |agg _ l' hl=>
      simp only[Instr.checkKey,Sem.run_bind,run_underlying hu,Result.andThen_ok]
      rw[←Array.forIn_toList]
      have:=ihd.2 fs.toList _ l' (fun f r=>do
       if f.name ≠ "_" then
        let a ←part f.type l' f.offset
        Instr.checkKey em (d+m) f.type a
        pure (ForInStep.yield PUnit.unit)
       else pure (ForInStep.yield PUnit.unit)) (fun f hf w=>by simp only[if_pos hf,Sem.run_bind,Sem.run_pure]) (fun f hf w=>by simp only[if_neg hf,Sem.run_pure]) hl h
      rw[this];rfl
    ·cases h
   ·rename_i u h1 h2 h3 hu
    simp only[Instr.checkKey,Sem.run_bind,run_underlying hu,Result.andThen_ok]
    cases u<;>first|rfl|(exact(h1 _ rfl).elim)|(exact(h2 _ _ rfl).elim)|(exact(h3 _ rfl).elim)
   ·cases h
  refine⟨hA,?_⟩
  intro fs
  induction fs with
  |nil=>intro l l' g g1 g2 _ _;rfl
  |cons f fs ih=>
   intro l l' g g1 g2 hl h
   simp only[jd]at h
   split at h
   ·rename_i hn
    split at h
    ·rename_i a ea
     obtain⟨a',r1,r2⟩:=kJ hl ea
     simp only[Bool.and_eq_true]at h
     simp only[List.forIn_cons,Sem.run_bind,g1 f (of_decide_eq_true hn),r2,Result.andThen_ok,hA _ _ _ r1 h.1]
     exact ih l l' g g1 g2 hl h.2
    ·cases h
   ·rename_i hn
    simp only[List.forIn_cons,Sem.run_bind,g2 f (of_decide_eq_false hn),Result.andThen_ok]
    exact ih l l' g g1 g2 hl h
end Go.Il
namespace Go.Il
variable [Sym]
noncomputable def nC (P:Program) (st:St) (kt:TypeId) (k:AV):List ee→Nat→Option (Option (Nat×AV))
 |[],_=>some none
 |e::es,i=>match Lr P st 10000 kt k e.key with
  |some true=>some (some (i,e.val))
  |some false=>nC P st kt k es (i+1)
  |none=>none
variable {kt t:TypeId} {b isS:Bool}
theorem ou {P:Program} {w:World} {desc:TypeDesc} {x y:Value} (hu:P.underlying kt=some desc) (h:Instr.sameNow desc x y=some b):(Op.equal kt x y).run P w=.ok b w:=by
 unfold Instr.sameNow at h
 unfold Op.equal Op.maxDepth
 split at h
 ·split at h
  ·rename_i hk;subst hk;cases h;exact run_equalIn_int w 9999 kt _ _ _ _ hu
  ·cases h
 ·cases h;rw[run_equalIn_string w 9999 kt _ _ hu,←beq_toListBytes]
 ·cases h;exact run_equalIn_bool w 9999 kt _ _ hu
 ·cases h
def AY (ρ:bL) (r:Option (Nat×AV)) (r':Option (Nat×Value)):Prop:=
 match r with
 |none=>r'=none
 |some (j,v)=>∃v',r'=some (j,v')∧aL ρ v v'
section
variable {B : Nat → Prop} {ρ : bL} {st : St} {w : World} {P : Program}
variable {k u v:AV} {k' u' v' x':Value}
theorem Kk (h:aV B ρ st w) {desc:TypeDesc} (hu:P.underlying kt=some desc) (hk:aL ρ k k'):∀(es:List ee) (cI:List MapEntry) (i:Nat) (r:Option (Nat×AV)),bz ρ es cI→nC P st kt k es i=some r→
 ∃r',AY ρ r r'∧(Instr.findAsking kt k' cI i).run P w=.ok r' w∧∀r2,Instr.findNow desc k' cI i=some r2→r2=r':=by
 intro es
 induction es with
 |nil=>
  intro cI i r he hf
  cases he;cases hf
  exact⟨none,rfl,rfl,fun r2 h2=>by simp[Instr.findNow]at h2;exact h2.symm⟩
 |cons e es ih=>
  intro cI i r he hf
  cases he with
  |cons _ e' _ cI hek Le hb hl=>
   simp only[nC]at hf
   split at hf
   ·rename_i heq
    cases hf
    have hr:=(tB h 10000).1 _ _ _ _ _ _ hk hek heq
    refine⟨some (i,e'.val),⟨_,rfl,Le⟩,?_,fun r2 h2=>?_⟩
    ·simp only[Instr.findAsking,Sem.run_bind]
     have mH:(Op.equal kt k' e'.key).run P w=.ok true w:=hr
     rw[mH];simp
    ·simp only[Instr.findNow]at h2
     split at h2
     ·cases h2;rfl
     ·rename_i hs
      have:=ou (w:=w) hu hs
      have mH:(Op.equal kt k' e'.key).run P w=.ok true w:=hr
      rw[mH]at this;cases this
     ·cases h2
   ·rename_i heq
    have hr:=(tB h 10000).1 _ _ _ _ _ _ hk hek heq
    have mH:(Op.equal kt k' e'.key).run P w=.ok false w:=hr
    obtain⟨r',a,b,c⟩:=ih cI (i+1) r hl hf
    refine⟨r',a,?_,fun r2 h2=>?_⟩
    ·simp only[Instr.findAsking,Sem.run_bind,mH,Result.andThen_ok]
     simpa using b
    ·simp only[Instr.findNow]at h2
     split at h2
     ·rename_i hs
      have:=ou (w:=w) hu hs
      rw[mH]at this;cases this
     ·exact c r2 h2
     ·cases h2
   ·cases hf
theorem iu (h:aV B ρ st w) {desc:TypeDesc} (hu:P.underlying kt=some desc) (hk:aL ρ k k') {es:List ee} {cI:List MapEntry} {r:Option (Nat×AV)} (he:bz ρ es cI) (hf:nC P st kt k es 0=some r):
 ∃r',AY ρ r r'∧(Instr.findKey kt k' cI).run P w=.ok r' w:=by
 obtain⟨r',a,b,c⟩:=Kk h hu hk es cI 0 r he hf
 refine⟨r',a,?_⟩
 simp only[Instr.findKey,Sem.run_bind,run_underlying hu,Result.andThen_ok]
 split
 ·rename_i r2 h2;rw[c _ h2];rfl
 ·exact b
end
def Yi:Nat→AV→Bool
 |0,_=>false
 |_+1,.bool _=>true
 |_+1,.int _ _=>true
 |_+1,.str _=>true
 |_+1,.rI=>true
 |_+1,.ptr ..=>true
 |d+1,.agg l=>l.all (Yi d)
 |_,_=>false
variable {s s':ByteArray}
theorem bytes_inj (h:s.data.toList.map UInt8.toNat=s'.data.toList.map UInt8.toNat):s=s':=by
 have:=(List.map_inj_right (fun x y=>by intro Zv;exact UInt8.toNat_inj.1 Zv)).1 h
 obtain⟨⟨a⟩⟩:=s
 obtain⟨⟨b⟩⟩:=s'
 simp at this
 rw[this]
theorem Nl {ρ:bL} (m:Nat):∀(d:Nat) (v:AV) (a b:Value),Yi d v=true→aL ρ v a→aL ρ v b→Instr.sameBits (d+m) a b=true:=by
 intro d
 induction d with
 |zero=>intro v a b h _ _;simp[Yi]at h
 |succ d ih=>
  intro v a b h ha hb
  have e:d+1+m=(d+m)+1:=by omega
  rw[e]
  cases ha<;>simp only[Yi]at h<;>(try(cases h;done))
  ·cases hb;simp[Instr.sameBits]
  ·cases hb;simp[Instr.sameBits]
  ·rename_i l s hs
   cases hb with
   |str _ s' Cy=>
    obtain rfl:=bytes_inj (hs.trans Cy.symm)
    simp only[Instr.sameBits,beq_toListBytes,beq_self_eq_true]
  ·cases hb;simp[Instr.sameBits]
  ·rename_i hp _
   cases hb with
   |ptr _ _ _ p' ku _=>rw[hp]at ku;cases ku;simp[Instr.sameBits]
  ·rename_i l l' hl
   cases hb with
   |agg _ l2 gS=>
    have h1:=hl.length
    have h2:=gS.length
    simp only[Instr.sameBits,Bool.and_eq_true,beq_iff_eq]
    refine⟨by rw[←Array.length_toList,←Array.length_toList,h1,h2],?_⟩
    rw[List.all_eq_true]
    rintro⟨x,y⟩ Zv
    obtain⟨i,hi⟩:=List.getElem?_of_mem Zv
    rw[List.getElem?_zip_eq_some]at hi
    simp only at hi⊢
    have BJ:i<l.length:=by
     have:=(List.getElem?_eq_some_iff.1 hi.1).1
     omega
    obtain⟨x',hx1,hx2⟩:=hl.get (List.getElem?_eq_getElem BJ)
    obtain⟨y',wH,hy2⟩:=gS.get (List.getElem?_eq_getElem BJ)
    rw[hi.1]at hx1;cases hx1
    rw[hi.2]at wH;cases wH
    exact ih _ _ _ (List.all_eq_true.1 h _ (List.getElem_mem BJ)) hx2 hy2
variable {k u v:AV}
theorem qu {P:Program} {ρ:bL} {a b:Value} (h:Yi 8 v=true) (ha:aL ρ v a) (hb:aL ρ v b) (w:World):(Instr.keyThatStays a b).run P w=.ok b w:=by
 have:=Nl 9992 8 v a b h ha hb
 unfold Instr.keyThatStays
 rw[if_pos this]
 rfl
def eL:List ee→Nat→AV→AV→List ee
 |[],_,_,_=>[]
 |e::es,0,k,v=>⟨k,v,e.born⟩::es
 |e::es,i+1,k,v=>e::eL es i k v
variable {k' u' v' x':Value}
theorem nD {ρ:bL} (hk:aL ρ k k') (hv:aL ρ v v'):∀(es:List ee) (cI:List MapEntry) (i:Nat),bz ρ es cI→bz ρ (eL es i k v) (cI.modify i fun e=>{e with key:=k',val:=v'}):=by
 intro es
 induction es with
 |nil=>intro cI i h;cases h;simpa[eL]using bz.nil
 |cons e es ih=>
  intro cI i h
  cases h with
  |cons _ e' _ cI h1 h2 h3 hl=>
   cases i with
   |zero=>simp only[eL,List.modify_zero_cons];exact .cons _ _ _ _ hk hv h3 hl
   |succ i=>simp only[eL,List.modify_succ_cons];exact .cons _ _ _ _ h1 h2 h3 (ih _ _ hl)
theorem bz.append {ρ:bL} {a b:List ee} {a' b':List MapEntry} (h:bz ρ a a') (h':bz ρ b b'):bz ρ (a++b) (a'++b'):=by
 induction a generalizing a' with
 |nil=>cases h;exact h'
 |cons x a ih=>cases h with|cons _ _ _ _ h1 h2 h3 hl=>exact .cons _ _ _ _ h1 h2 h3 (ih hl)
variable {blk d ep h i j m n p9:Nat}
theorem bz.get {ρ:bL} {l:List ee} {l':List MapEntry} (h:bz ρ l l') {e:ee} (hi:l[i]?=some e):∃e',l'[i]?=some e'∧aL ρ e.key e'.key∧aL ρ e.val e'.val∧e'.born=e.born:=by
 induction l generalizing l' i with
 |nil=>simp at hi
 |cons a l ih=>
  cases h with
  |cons _ _ _ _ h1 h2 h3 hl=>
   cases i with
   |zero=>simp at hi;subst hi;exact⟨_,by simp,h1,h2,h3⟩
   |succ i=>simp at hi;simpa using ih hl hi
theorem bz.length {ρ:bL} {l:List ee} {l':List MapEntry} (h:bz ρ l l'):l'.length=l.length:=by
 induction l generalizing l' with
 |nil=>cases h;rfl
 |cons a l ih=>cases h with|cons _ _ _ _ _ _ _ hl=>simp[ih hl]
section
variable {B : Nat → Prop} {ρ : bL} {st : St} {w : World}
def Rec.zV:Rec→Bool
 | .cells ..=>true
 |_=>false
variable {p:Pl} {r:Rec}
theorem aV.setObj (h:aV B ρ st w) {id:Nat} {r':Rec} {o':Obj} (hp:ρ id 0=some p) (hg:st.heap.get id=some r) (hc:r.zV=false) (hr:gg ρ 0 p r' (some o')) (mr:r'.plain=true:=by first|rfl|assumption):
 aV B ρ ⟨st.heap.set id r',st.next⟩ {w with heap:=w.heap.setIfInBounds p.blk o'}∧gX B ρ st w ρ ⟨st.heap.set id r',st.next⟩ {w with heap:=w.heap.setIfInBounds p.blk o'}:=by
 obtain⟨hB,cC,dQ,r0,nt,hrel⟩:=h.mapped _ _ _ hp
 refine⟨⟨fun Fh Ls p' ku=>?_,h.inj,by simp;exact h.low⟩,⟨bL.le_refl _,Nat.le_refl _,fun i hi hn=>⟨hn,?_⟩,fun b hb=>?_,by simp,rfl,rfl,fun a=>?_⟩⟩
 ·obtain⟨a,b,c,r1,d,e⟩:=h.mapped _ _ _ ku
  refine⟨a,by simpa using b,c,?_⟩
  by_cases hid:id=Fh
  ·subst hid
   rw[hg]at d;cases d
   have hep:Ls=0:=by cases r<;>first|(simp[Rec.zV]at hc;done)|exact e.1
   subst hep
   rw[hp]at ku;cases ku
   refine⟨r',Tr.bH _ _ _,?_⟩
   simpa[cC]using hr
  ·refine⟨r1,by rw[Tr.bI _ _ hid];exact d,?_⟩
   have cH:p.blk≠p'.blk:=fun e=>hid (h.inj _ _ _ _ _ _ hp ku e).1
   simp only[Array.getElem?_setIfInBounds_ne cH];exact e
 ·exact Tr.bI _ _ (fun e=>by subst e;rw[hn]at hp;cases hp)
 ·simp only[];rw[Array.getElem?_setIfInBounds_ne (by rintro rfl;exact hB hb)]
 ·unfold World.frozen?
  by_cases ha:a.block=p.blk
  ·have h2:(w.heap.setIfInBounds p.blk o')[a.block]?=some o':=by rw[ha,Array.getElem?_setIfInBounds,if_pos rfl,if_pos cC]
   have hth:=hr.Vo mr
   have hold:∀cs t fr,w.heap[a.block]?≠some (.cells cs t fr):=by
    intro cs t fr hh
    rw[ha]at hh
    rw[hg]at nt;cases nt
    rw[hh]at hrel
    cases r with
    |cells=>simp[Rec.zV]at hc
    |map es clock=>obtain⟨_,_,h1,_⟩:=hrel;cases h1
    |iJ=>obtain⟨_,_,_,h1,_⟩:=hrel;cases h1
    |Bv=>obtain⟨_,_,h1,_⟩:=hrel;cases h1
    |loop=>obtain⟨_,_,h1,_⟩:=hrel;cases h1
    |deferred=>obtain⟨_,h1⟩:=hrel;cases h1
   simp only[h2]
   have h3:(match w.heap[a.block]? with|some (.cells _ _ (lo,hi))=>decide (lo≤a.off)&&decide (a.off<hi)|_=>false)=false:=by
    split
    ·rename_i hh;exact absurd hh (hold _ _ _)
    ·rfl
   refine Eq.trans ?_ h3.symm
   cases o'<;>first|rfl|skip
   rename_i cs t fr
   obtain⟨lo,hi⟩:=fr
   have:=hth cs t lo hi rfl
   subst this
   simp
  ·have h2:(w.heap.setIfInBounds p.blk o')[a.block]?=w.heap[a.block]?:=Array.getElem?_setIfInBounds_ne (Ne.symm ha)
   simp only[h2]
end
end Go.Il
namespace Go.Il
variable [Sym]
def uL:Operand→Bool
 | .const _=>true
 |_=>false
def rV (P:Program) (t:TypeId) (x y:Operand) (a b:AV):Bool:=
 match a,b with
 | .wW,.wW=>uL x||uL y
 | .agg _,.agg _=> !(P.eqGuardType P.depth t)
 | .sym _ _,_=>false
 |_,.sym _ _=>false
 |_,_=>true
def TJ:List Nat→List Nat→Bool
 |_,[]=>false
 |[],_::_=>true
 |a::x,b::y=>Nat.blt a b||(Nat.beq a b&&TJ x y)
def Vp (op:BinOp) (x y:List Nat):Option AV:=
 match op with
 | .add=>match Nat.ble (x.length+y.length) 4611686018427387904 with|true=>some (.str (x++y))|false=>none
 | .eql=>some (.bool (decide (x=y)))
 | .neq=>some (.bool (!decide (x=y)))
 | .lss=>some (.bool (TJ x y))
 | .leq=>some (.bool (TJ x y||decide (x=y)))
 | .gtr=>some (.bool (!(TJ x y||decide (x=y))))
 | .geq=>some (.bool (!TJ x y))
 |_=>none
noncomputable def Dq (P:Program) (st:St) (op:BinOp) (t:TypeId) (x y:Operand) (a b:AV):Option AV:=
 match a,b with
 | .int k m,.int k' n=>match op with
  | .shl=>za .shl k m n
  | .shr=>za .shr k m n
  |op=>match decide (k=k')with|true=>RY op k m n|false=>none
 | .str m,.str n=>Vp op m n
 |a,b=>match op,rV P t x y a b with
  | .eql,true=>(Lr P st 10000 t a b).map .bool
  | .neq,true=>(Lr P st 10000 t a b).map fun r=> .bool (!r)
  |_,_=>none
def unA (op:UnOp) (a:AV):Option AV:=
 match op,a with
 | .neg,.int k n=>some (.int k (jN k (0-n)))
 | .xor,.int k n=>some (.int k (k.wrap ((BitVec.ofInt k.bits (if k.signed then-1 else k.max)^^^BitVec.ofInt k.bits n).toNat)))
 | .not,.bool b=>some (.bool (!b))
 |_,_=>none
def vp (P:Program) (s t:TypeId) (a:AV):Option AV:=
 match P.underlying s,P.underlying t,a with
 |some _,some (.int k),.int _ n=>some (.int k (jN k n))
 |some _,some .string,.str x=>some (.str x)
 |_,_,_=>none
def Dc (P:Program) (t:TypeId) (f:Nat):Option Field:=
 match P.underlying t with
 |some (.struct fs)=>fs[f]?
 |_=>none
def Ct (i:Int) (len:Nat):Option Nat:=
 match i with
 | .ofNat m=>match Nat.blt m len with|true=>some m|false=>none
 | .negSucc _=>none
def kB (v:AV) (y:Nat):Option Nat:=
 match v with
 | .int _ (.ofNat m)=>match Nat.ble m y with|true=>some m|false=>none
 |_=>none
def jI (v:Option AV) (y d:Nat):Option Nat:=
 match v with
 |some v=>kB v y
 |none=>some d
noncomputable def Ew (P:Program) (st:St) (t:TypeId) (x:AV) (lo hi mx:Option AV):Option AV:=
 match P.underlying t,x with
 |some (.array n el),.ptr id ep off=>
  match dZ P el,st.heap.get id with
  |some (sz'+1),some (.cells _ _ top lat _)=>
   let sz:=sz'+1
   match Nat.beq ep lat,Nat.ble (off+n*sz) top with
   |true,true=>match mx with
    |none=>(jI hi n n).bind fun h=>(jI lo h 0).bind fun l=>some (.slice id ep (off+l*sz) (h-l) (n-l) true sz)
    |some _=>none
   |_,_=>none
  |_,_=>none
 |some (.slice el),.slice id ep off len cap ex sz=>
  match dZ P el with
  |some sz'=>match Nat.beq sz sz' with
   |true=>match mx with
    |some mx=>(kB mx cap).bind fun m=>(jI hi m len).bind fun h=>(jI lo h 0).bind fun l=>match hi with|some _=>some (.slice id ep (off+l*sz) (h-l) (m-l) true sz)|none=>none
    |none=>(jI hi cap len).bind fun h=>(jI lo h 0).bind fun l=>some (.slice id ep (off+l*sz) (h-l) (cap-l) ex sz)
   |false=>none
  |none=>none
 |some (.slice el),.ec=>
  match dZ P el with
  |some _=>match mx with
   |some _=>none
   |none=>(jI hi 0 0).bind fun h=>(jI lo h 0).bind fun l=>some .ec
  |none=>none
 |some .string,.str s=>
  match mx with
  |some _=>none
  |none=>(jI hi s.length s.length).bind fun h=>(jI lo h 0).bind fun l=>some (.str ((s.drop l).take (h-l)))
 |_,_=>none
def Jy (P:Program) (st:St) (t:TypeId) (x:AV) (hp:Nat→Option Rec):Option Nat:=
 match P.underlying t,x with
 |some .string,.str s=>some s.length
 |some (.array n _),_=>some n
 |some (.pointer a),_=>match P.underlying a with|some (.array n _)=>some n|_=>none
 |some (.slice _),.slice _ _ _ l _ _ _=>some l
 |some (.slice _),.ec=>some 0
 |some (.map _ _),.mZ=>some 0
 |some (.map _ _),.map id=>match hp id with|some (.map es _)=>some es.length|_=>none
 |_,_=>none
def okA (ok:Bool) (v:AV) (b:Bool):AV:=
 match ok with
 |true=> .n8 [v,.bool b]
 |false=>v
def Cj (P:Program) (et:TypeId) (ok:Bool) (r:Option (Option (Nat×AV))):Option AV:=
 match r with
 |some (some (_,v))=>some (okA ok v true)
 |some none=>match jM P et with
  |some z=>some (okA ok z false)
  |none=>none
 |none=>none
noncomputable def Hk (P:Program) (st:St) (t:TypeId) (x k:AV) (ok:Bool):Option AV:=
 match P.underlying t with
 |some (.map kt et)=>match It P 8 kt k with
  |true=>match x with
   | .mZ=>Cj P et ok (some none)
   | .map id=>match st.heap.get id with
    |some (.map es _)=>Cj P et ok (nC P st kt k es 0)
    |_=>none
   |_=>none
  |false=>none
 |_=>none
def lM:List AV→Nat→List AV→List AV
 |l,_,[]=>l
 |l,off,v::vs=>lM (l.set off v) (off+1) vs
def oN (place:Nat→Option (Nat×Nat)):List AV→List (Nat×AV)→Option (List AV)
 |l,[]=>some l
 |l,(i,v)::rest=>match place i with
  |some (off,sz)=>match Nat.beq v.cells.length sz,Nat.ble (off+v.cells.length) l.length with
   |true,true=>oN place (lM l off v.cells) rest
   |_,_=>none
  |none=>none
def vk (P:Program) (fs:Array Field) (i:Nat):Option (Nat×Nat):=
 match fs[i]? with
 |some f=>(dZ P f.type).map fun n=>(f.offset,n)
 |none=>none
def ae6 (P:Program) (fs:Array Field):Bool:=fs.toList.all fun f=>(dZ P f.type).isSome
def AF (P:Program) (t:TypeId) (parts:List (Nat×AV)):Option AV:=
 match jM P t with
 |some z=>match P.underlying t with
  |some (.struct fs)=>match ae6 P fs with
   |true=>(oN (vk P fs) z.cells parts).map .agg
   |false=>none
  |some (.array _ e)=>match dZ P e with
   |some n=>(oN (fun i=>some (i*n,n)) z.cells parts).map .agg
   |none=>none
  |_=>none
 |none=>none
def uw (mx:Bool) (x y:Int):Int:=
 match mx with
 |true=>match decide (y>x)with|true=>y|false=>x
 |false=>match decide (y<x)with|true=>y|false=>x
def jV (mx:Bool):AV→List AV→Option AV
 |a,[]=>some a
 |a,b::rest=>match a,b with
  | .int k x,.int _ y=>jV mx (.int k (uw mx x y)) rest
  |_,_=>none
section
variable {β : Type}
noncomputable def sY (e:Env):List (Nat×Operand)→β→(List (Nat×AV)→β)→β
 |[],_,k=>k []
 |(i,o)::os,d,k=>fR e o d fun v=>sY e os d fun vs=>k ((i,v)::vs)
noncomputable def QB (e:Env) (os:List (Nat×Operand)):Option (List (Nat×AV)):=sY e os none some
theorem ie (e:Env) (os:List (Nat×Operand)) (d:β) (k:List (Nat×AV)→β):sY e os d k=match QB e os with|some v=>k v|none=>d:=by
 unfold QB
 induction os generalizing β d k with
 |nil=>rfl
 |cons o os ih=>
  obtain⟨i,o⟩:=o
  simp only[sY]
  rw[bp,bp]
  cases ev e o with
  |none=>rfl
  |some v=>
   simp only[]
   rw[ih,ih (k:=fun vs=>some ((i,v)::vs))]
   cases sY e os none some<;>rfl
theorem OR (e:Env) (i:Nat) (o:Operand) (os:List (Nat×Operand)):QB e ((i,o)::os)=match ev e o,QB e os with|some v,some vs=>some ((i,v)::vs)|_,_=>none:=by
 show sY e ((i,o)::os) none some=_
 simp only[sY]
 rw[bp]
 cases ev e o with
 |none=>rfl
 |some v=>simp only[];rw[ie];cases QB e os<;>rfl
noncomputable def Dg (e:Env) (o:Option Operand) (d:β) (k:Option AV→β):β:=
 match o with
 |some o=>fR e o d fun v=>k (some v)
 |none=>k none
noncomputable def Xe (e:Env) (o:Option Operand):Option (Option AV):=Dg e o none some
theorem qK (e:Env) (o:Option Operand) (d:β) (k:Option AV→β):Dg e o d k=match Xe e o with|some v=>k v|none=>d:=by
 unfold Xe Dg
 cases o with
 |none=>rfl
 |some o=>simp only[];rw[bp,bp];cases ev e o<;>rfl
noncomputable def mX (r:Option AV) (d:β) (k:AV→β):β:=
 match r with
 |some v=>FT v k
 |none=>d
theorem iR (r:Option AV) (d:β) (k:AV→β):mX r d k=match r with|some v=>k v|none=>d:=by
 unfold mX;cases r<;>simp only[Kh]
noncomputable def DG (r:Option AV) (d:β) (k:AV→β):β:=
 match r with
 |some (.agg l)=>mo l fun l=>k (.agg l)
 |some v=>k v
 |none=>d
theorem tG (r:Option AV) (d:β) (k:AV→β):DG r d k=match r with|some v=>k v|none=>d:=by
 unfold DG;cases r with
 |none=>rfl
 |some v=>cases v<;>simp only[eo]
noncomputable def km (P:Program) (st:St) (e:Env) (o:Oper) (d:β) (k:AV→β):β:=
 match o.op with
 | .move x=>fR e x d k
 | .assign x=>fR e x d k
 | .pick c a b=>fR e c d fun c=>match c with| .bool true=>fR e a d k| .bool false=>fR e b d k|_=>d
 | .load t a=>fR e a d fun a=>match a with| .ptr id ep off=>sF P st t id ep off d k|_=>d
 | .nilCheck x=>fR e x d fun v=>match v with| .ptr a b c=>k (.ptr a b c)| .fn a b c=>k (.fn a b c)| .iface a b=>k (.iface a b)| .slice a b c l m x z=>k (.slice a b c l m x z)| .map a=>k (.map a)|_=>d
 | .binOp op t x y _=>fR e x d fun a=>fR e y d fun b=>mX (Dq P st op t x y a b) d k
 | .unOp op _ x=>fR e x d fun a=>mX (unA op a) d k
 | .convert s t x=>fR e x d fun a=>mX (vp P s t a) d k
 | .extract x i=>fR e x d fun v=>match v with| .n8 l=>(match l[i]? with|some v=>k v|none=>d)|_=>d
 | .makeFunc (.func f) a b=>mf e a.toList d fun a=>mf e b.toList d fun b=>k (.fn f a b)
 | .makeInterface t x=>fR e x d fun v=>match P.underlying t with|some (.interface _)=>d|some _=>k (.iface t v)|none=>d
 | .field t x f=>fR e x d fun v=>match v with| .agg l=>(match Dc P t f with|some f=>DG (qh P f.type l f.offset) d k|none=>d)|_=>d
 | .fieldAddr t x f=>fR e x d fun v=>match v with
  | .ptr id ep off=>(match Dc P t f with
   |some f=>(match dZ P f.type with
    |some (_+1)=>dI (off+f.offset) fun off=>k (.ptr id ep off)
    |_=>d)
   |none=>d)
  |_=>d
 | .indexAddr t x i=>fR e x d fun v=>fR e i d fun j=>match j with
  | .int _ j=>(match P.underlying t,v with
   |some (.array len el),.ptr id ep off=>(match Ct j len,dZ P el with|some j,some sz=>dI (off+j*sz) fun off=>k (.ptr id ep off)|_,_=>d)
   |some (.slice el),.slice id ep off len _ _ sz=>(match Ct j len,dZ P el with|some j,some sz'=>(match Nat.beq sz sz' with|true=>dI (off+j*sz) fun off=>k (.ptr id ep off)|false=>d)|_,_=>d)
   |_,_=>d)
  |_=>d
 | .index t x i=>fR e x d fun v=>fR e i d fun j=>match j with
  | .int _ j=>(match P.underlying t,v with
   |some (.array len el),.agg l=>(match Ct j len,dZ P el with|some j,some sz=>DG (qh P el l (j*sz)) d k|_,_=>d)
   |some .string,.str s=>(match Ct j s.length with|some j=>(match s[j]? with|some b=>mX (some (.int .u8 (.ofNat b))) d k|none=>d)|none=>d)
   |_,_=>d)
  |_=>d
 | .slice t x lo hi mx=>fR e x d fun v=>Dg e lo d fun lo=>Dg e hi d fun hi=>Dg e mx d fun mx=>mX (Ew P st t v lo hi mx) d k
 | .lookup t x i ok=>fR e x d fun v=>fR e i d fun i=>match Hk P st t v i ok with|some v=>k v|none=>d
 | .build t parts=>sY e parts.toList d fun ps=>DG (AF P t ps) d k
 | .call c=>(match c.callee with
  | .builtin .len=>(match c.args.toList,c.argTypes[0]? with
   |[x],some t=>fR e x d fun v=>(match Jy P st t v st.heap.get with|some n=>dI n fun n=>k (.int .i64 (.ofNat n))|none=>d)
   |_,_=>d)
  | .builtin .min=>mf e c.args.toList d fun l=>(match l with|a::l=>mX (jV false a l) d k|[]=>d)
  | .builtin .max=>mf e c.args.toList d fun l=>(match l with|a::l=>mX (jV true a l) d k|[]=>d)
  |_=>d)
 |_=>d
noncomputable def MK (P:Program) (st:St) (e:Env) (o:Oper):Option AV:=km P st e o none some
theorem qj (P:Program) (st:St) (e:Env) (o:Oper) (d:β) (k:AV→β):km P st e o d k=match MK P st e o with|some v=>k v|none=>d:=by
 unfold MK km
 obtain⟨dst,op,type,pos,after,guard⟩:=o
 cases op<;>simp only[bp,uJ,iR,tG,fw,ie,qK,bE]
 all_goals(try rfl)
 case makeFunc fn first captured=>
  cases fn<;>first|rfl|skip
  simp only[]
  cases vn e first.toList with
  |none=>rfl
  |some a=>simp only[];cases vn e captured.toList<;>rfl
 case call c=>
  obtain⟨cl,args,oS⟩:=c
  cases cl<;>first|rfl|skip
  rename_i b
  cases b<;>first|rfl|skip
  all_goals simp only[]
  ·split
   ·rename_i x t _ _
    cases ev e x with
    |none=>rfl
    |some v=>simp only[];cases Jy P st t v st.heap.get<;>rfl
   ·rfl
  all_goals(cases vn e args.toList with
   |none=>rfl
   |some l=>cases l with
    |nil=>rfl
    |cons a l=>simp only[];first|(cases jV true a l<;>rfl)|(cases jV false a l<;>rfl))
 all_goals(repeat' (first|rfl|split))
 all_goals(try(simp_all;done))
end
end Go.Il
namespace Go.Il
variable [Sym]
section
variable {B : Nat → Prop} {ρ : bL} {st : St} {w : World} {P : Program} {e : Env} {a : Act}
variable {x y:Operand} {k u v:AV}
theorem bo (ht:iD ρ e a.tmps) (h:ev e x=some v):aL ρ v (a.eval x):=by
 unfold ev fR at h
 cases x with
 |tmp t=>
  simp only[]at h
  split at h
  ·rename_i v0 hv
   cases h
   obtain⟨v',h1,h2⟩:=ht _ _ hv
   simpa[Act.eval,h1]using h2
  ·cases h
 |const v0=>
  simp only[]at h
  split at h
  ·rename_i v1 hv;cases h;exact zE ρ _ _ _ hv
  ·cases h
 |global g=>cases h
 |func f=>cases h;exact .fn _ _ _ _ _ .nil .nil
theorem SG (ht:iD ρ e a.tmps):∀(xs:List Operand) (vs:List AV),vn e xs=some vs→aP ρ vs (xs.map a.eval):=by
 intro xs
 induction xs with
 |nil=>intro vs h;cases h;exact .nil
 |cons x xs ih=>
  intro vs h
  rw[OP]at h
  split at h
  ·rename_i v1 v2 h1 h2;cases h;exact .cons _ _ _ _ (bo ht h1) (ih _ h2)
  ·cases h
theorem kP (ht:iD ρ e a.tmps) (xs:Array Operand) (vs:List AV) (h:vn e xs.toList=some vs):aP ρ vs (xs.map a.eval).toList:=by
 rw[Array.toList_map];exact SG ht _ _ h
variable {kt t:TypeId} {k' u' v' x':Value}
theorem yB {op:BinOp} (hu:aL ρ u u') (hv:aL ρ v v') (hg:rV P t x y u v=true):(eqGuard op t x y u' v').run P w=.ok () w:=by
 unfold eqGuard
 cases op<;>first|rfl|(cases hu<;>cases hv<;>first|rfl|skip)
 all_goals first
  |(simp only[rV,Bool.not_eq_true']at hg
    simp only[Bool.not_true,Bool.false_eq_true,if_false,Sem.run_bind,run_program,Result.andThen_ok,hg,Bool.not_false,if_true,Sem.run_pure]
    done)
  |(cases x<;>cases y<;>first|rfl|(simp[rV,uL]at hg))
theorem J6 {op:BinOp} {k k':IntKind} {m n:Int}:(eqGuard op t x y (.int k m) (.int k' n)).run P w=.ok () w:=by
 unfold eqGuard;cases op<;>rfl
theorem J5 {op:BinOp} {m n:ByteArray}:(eqGuard op t x y (.string m) (.string n)).run P w=.ok () w:=by
 unfold eqGuard;cases op<;>rfl
theorem VQ:∀(x y:List UInt8),Op.bytesLess x y=TJ (x.map UInt8.toNat) (y.map UInt8.toNat):=by
 intro x
 induction x with
 |nil=>intro y;cases y<;>rfl
 |cons a x ih=>
  intro y
  cases y with
  |nil=>rfl
  |cons b y=>
   simp only[Op.bytesLess,List.map_cons,TJ,ih]
   congr 1
   ·rw[Bool.eq_iff_iff];simp[Nat.blt_eq,UInt8.lt_iff_toNat_lt]
   ·congr 1
    rw[Bool.eq_iff_iff];simp[Nat.beq_eq,←UInt8.toNat_inj]
variable {s s':ByteArray}
theorem LY {op:BinOp} {m n:List Nat} (h1:s.data.toList.map UInt8.toNat=m) (h2:s'.data.toList.map UInt8.toNat=n) (h:Vp op m n=some v):
 ∃v',(∀ρ,aL ρ v v')∧(Op.stringOp op s s').run P w=.ok v' w:=by
 have e1:(s.toList==s'.toList)=decide (m=n):=xy h1 h2
 have e2:Op.bytesLess s.toList s'.toList=TJ m n:=by rw[ByteArray.toList_eq,ByteArray.toList_eq,VQ,h1,h2]
 unfold Vp at h
 unfold Op.stringOp
 split at h
 ·split at h
  ·rename_i hb
   cases h
   have hs1:s.size=m.length:=by rw[←h1,List.length_map,Array.length_toList];rfl
   have JM:s'.size=n.length:=by rw[←h2,List.length_map,Array.length_toList];rfl
   have hle:m.length+n.length≤4611686018427387904:=Nat.le_of_ble_eq_true hb
   refine⟨.string (s++s'),fun ρ=> .str _ _ ?_,?_⟩
   ·rw[←h1,←h2];simp
   ·simp only[]
    rw[if_neg (by rw[hs1,JM];show ¬((m.length+n.length:Nat):Int)>9223372036854775807;omega)]
    rfl
  ·cases h
 all_goals first
  |(cases h;done)
  |(cases h;exact⟨_,fun ρ=> .bool _,by simp only[e1,e2];rfl⟩)
theorem Pv (h:aV B ρ st w) {op:BinOp} {r:AV} (hu:aL ρ u u') (hv:aL ρ v v') (hr:Dq P st op t x y u v=some r):
 ∃r',aL ρ r r'∧(do eqGuard op t x y u' v';binOp op t u' v':Sem Value).run P w=.ok r' w:=by
 unfold Dq at hr
 split at hr
 ·cases hu;cases hv
  simp only[Sem.run_bind,J6,Result.andThen_ok]
  split at hr
  ·obtain⟨r',a1,a2⟩:=tZ hr;exact⟨r',a1 ρ,a2 t⟩
  ·obtain⟨r',a1,a2⟩:=tZ hr;exact⟨r',a1 ρ,a2 t⟩
  ·split at hr
   ·rename_i hk
    have hk:=of_decide_eq_true hk
    subst hk
    obtain⟨r',a1,a2⟩:=Np hr;exact⟨r',a1 ρ,a2 t⟩
   ·cases hr
 ·cases hu with
  |str _ s h1=>cases hv with
   |str _ s' h2=>
    simp only[Sem.run_bind,J5,Result.andThen_ok]
    obtain⟨r',a1,a2⟩:=LY (P:=P) (w:=w) h1 h2 hr
    refine⟨r',a1 ρ,?_⟩
    cases op<;>exact a2
 ·rename_i Ft yq
  split at hr
  ·rename_i hg
   cases heq:Lr P st 10000 t u v with
   |none=>simp[heq]at hr
   |some b=>
    simp[heq]at hr;subst hr
    have cN:(Op.equal t u' v').run P w=.ok b w:=(tB h 10000).1 _ _ _ _ _ _ hu hv heq
    refine⟨.bool b,.bool b,?_⟩
    simp only[Sem.run_bind,yB hu hv hg,Result.andThen_ok]
    have:(binOp .eql t u' v').run P w=((Op.equal t u' v').run P w).andThen fun b w'=> .ok (.bool b) w':=by
     cases hu<;>cases hv<;>first
      |(simp[rV]at hg;done)
      |(exact absurd rfl (Ft _ _ _ _ rfl))
      |(exact absurd rfl (yq _ _ rfl))
      |(simp only[binOp,Sem.run_bind,Sem.run_pure])
    rw[this,cN];rfl
  ·rename_i hg
   cases heq:Lr P st 10000 t u v with
   |none=>simp[heq]at hr
   |some b=>
    simp[heq]at hr;subst hr
    have cN:(Op.equal t u' v').run P w=.ok b w:=(tB h 10000).1 _ _ _ _ _ _ hu hv heq
    refine⟨.bool (!b),.bool _,?_⟩
    simp only[Sem.run_bind,yB hu hv hg,Result.andThen_ok]
    have:(binOp .neq t u' v').run P w=((Op.equal t u' v').run P w).andThen fun b w'=> .ok (.bool (!b)) w':=by
     cases hu<;>cases hv<;>first
      |(simp[rV]at hg;done)
      |(exact absurd rfl (Ft _ _ _ _ rfl))
      |(exact absurd rfl (yq _ _ rfl))
      |(simp only[binOp,Sem.run_bind,Sem.run_pure])
    rw[this,cN];rfl
  ·cases hr
end
end Go.Il
namespace Go.Il
variable [Sym]
section
variable {B : Nat → Prop} {ρ : bL} {st : St} {w : World} {P : Program}
variable {blk d ep h i j m n p9:Nat}
theorem nS {i:Int} (h:Ct i n=some j):i=(j:Int)∧j<n:=by
 unfold Ct at h
 split at h
 ·split at h
  ·rename_i hb;cases h;exact⟨rfl,by simpa[Nat.blt_eq]using hb⟩
  ·cases h
 ·cases h
variable {k u v:AV} {k' u' v' x':Value}
theorem cu {y:Nat} {code:BoundsCode} (hv:aL ρ v v') (h:kB v y=some n):(Instr.sliceBound v' y code).run P w=.ok n w∧n≤y:=by
 unfold kB at h
 split at h
 ·rename_i k m
  cases hv
  split at h
  ·rename_i hb
   cases h
   have hle:=Nat.le_of_ble_eq_true hb
   refine⟨?_,hle⟩
   have e:(Int.ofNat n)=(n:Int):=rfl
   simp only[Instr.sliceBound,asIntOf,Sem.run_bind,Sem.run_pure,Result.andThen_ok,Sem.run_ite,e]
   rw[if_pos ⟨by omega,by omega⟩]
   rfl
  ·cases h
 ·cases h
inductive AT (ρ:bL):Option AV→Option Value→Prop where
 |none:AT ρ none none
 |some (v:AV) (v':Value) (h:aL ρ v v'):AT ρ (some v) (some v')
theorem yL {y y2:Nat} (h:kB v y=some n) (hy:y≤y2):kB v y2=some n:=by
 unfold kB at h⊢
 split at h
 ·split at h
  ·rename_i hb
   cases h
   show(match Nat.ble n y2 with|true=>some n|false=>none)=some n
   rw[Nat.ble_eq_true_of_le (Nat.le_trans (Nat.le_of_ble_eq_true hb) hy)]
  ·cases h
 ·cases h
variable {b isS:Bool} {hi lo:Option AV} {Fw RO:Option Value}
theorem mi {len cap:Nat} {l:Nat} (JS:AT ρ lo RO) (JW:AT ρ hi Fw) (hc:cap≤p9) (h1:jI hi cap len=some h) (h2:jI lo h 0=some l):
 (Instr.sliceBounds isS len p9 RO Fw none).run P w=.ok (l,h,p9) w∧l≤h∧(h≤cap∨h=len):=by
 cases JW with
 |none=>
  simp only[jI]at h1;cases h1
  cases JS with
  |none=>simp only[jI]at h2;cases h2;exact⟨rfl,by omega,.inr rfl⟩
  |some v v' hv=>
   simp only[jI]at h2
   refine⟨?_,(cu (P:=P) (w:=w) (code:=.index) hv h2).2,.inr rfl⟩
   simp only[Instr.sliceBounds,Sem.run_bind,Sem.run_pure,Result.andThen_ok,(cu hv h2).1]
 |some u u' hu=>
  simp only[jI]at h1
  have hb:=cu (P:=P) (w:=w) (code:=if isS then .sliceAcap else .sliceAlen) hu (yL h1 hc)
  have hle:h≤cap:=(cu (P:=P) (w:=w) (code:=.index) hu h1).2
  cases JS with
  |none=>
   simp only[jI]at h2;cases h2
   refine⟨?_,by omega,.inl hle⟩
   simp only[Instr.sliceBounds,Sem.run_bind,Sem.run_pure,Result.andThen_ok,hb.1]
  |some v v' hv=>
   simp only[jI]at h2
   refine⟨?_,(cu (P:=P) (w:=w) (code:=.index) hv h2).2,.inl hle⟩
   simp only[Instr.sliceBounds,Sem.run_bind,Sem.run_pure,Result.andThen_ok,hb.1,(cu hv h2).1]
theorem Dp {len cap:Nat} {hi mx:AV} {Fw Zg:Value} {l:Nat} (JS:AT ρ lo RO) (JW:aL ρ hi Fw) (K7:aL ρ mx Zg) (hc:cap≤p9) (h0:kB mx cap=some m) (h1:kB hi m=some h) (h2:jI lo h 0=some l):
 (Instr.sliceBounds isS len p9 RO (some Fw) (some Zg)).run P w=.ok (l,h,m) w∧l≤h∧h≤m∧m≤cap:=by
 have hb:=yL h0 hc
 refine⟨?_,?_,(cu (P:=P) (w:=w) (code:=.index) JW h1).2,(cu (P:=P) (w:=w) (code:=.index) K7 h0).2⟩
 ·cases JS with
  |none=>simp only[jI]at h2;cases h2;simp only[Instr.sliceBounds,Sem.run_bind,Sem.run_pure,Result.andThen_ok,(cu K7 hb).1,(cu JW h1).1]
  |some v v' hv=>
   simp only[jI]at h2
   simp only[Instr.sliceBounds,Sem.run_bind,Sem.run_pure,Result.andThen_ok,(cu K7 hb).1,(cu JW h1).1,(cu hv h2).1]
 ·cases JS with
  |none=>simp only[jI]at h2;cases h2;omega
  |some v v' hv=>exact(cu (P:=P) (w:=w) (code:=.index) hv h2).2
variable {δ:Type}
theorem ae0 {α β γ:Type} {x:Option α} {f:α→Option β} {g:α→β→Option γ} {k:α→β→γ→δ} {r:δ} (h:(x.bind fun m=>(f m).bind fun h=>(g m h).bind fun l=>some (k m h l))=some r):
 ∃m h l,x=some m∧f m=some h∧g m h=some l∧r=k m h l:=by
 cases hx:x with
 |none=>simp[hx]at h
 |some m=>
  cases hf:f m with
  |none=>simp[hx,hf]at h
  |some b=>
   cases hg:g m b with
   |none=>simp[hx,hf,hg]at h
   |some c=>simp[hx,hf,hg]at h;exact⟨m,b,c,rfl,hf,hg,h.symm⟩
theorem Ix {α β:Type} {x:Option α} {f:α→Option β} {k:α→β→δ} {r:δ} (h:(x.bind fun m=>(f m).bind fun h=>some (k m h))=some r):
 ∃m h,x=some m∧f m=some h∧r=k m h:=by
 cases hx:x with
 |none=>simp[hx]at h
 |some m=>
  cases hf:f m with
  |none=>simp[hx,hf]at h
  |some b=>simp[hx,hf]at h;exact⟨m,b,rfl,hf,h.symm⟩
theorem Pd (p:Pl) {off:Nat} (n m l:Nat) (hb:p.base≤off):(if m=l then(⟨p.blk,off-p.base,none⟩:Addr)else(⟨p.blk,off-p.base,none⟩:Addr).add n)=⟨p.blk,if m=l then off-p.base else off+n-p.base,none⟩:=by
 split
 ·rfl
 ·exact eD p off _ hb
variable {kt t:TypeId}
theorem Ev (hs:aV B ρ st w) {x:AV} {mx:Option AV} {Zg:Option Value} (hx:aL ρ x x') (JS:AT ρ lo RO) (JW:AT ρ hi Fw) (K7:AT ρ mx Zg) (h:Ew P st t x lo hi mx=some v):
 ∃v',aL ρ v v'∧(Instr.sliceAt t x' RO Fw Zg).run P w=.ok v' w:=by
 unfold Ew at h
 split at h
 ·
  rename_i n el id ep off hu
  cases hx with
  |ptr _ _ _ p hp hb=>
   split at h
   ·rename_i sz0 elem c top lat sh cC hg
    simp only[]at h
    obtain⟨sz,ZV⟩:∃sz,sz=sz0+1:=⟨_,rfl⟩
    rw[←ZV]at h
    split at h
    ·rename_i q1 q2
     have q1:=Nat.eq_of_beq_eq_true q1
     have q2:=Nat.le_of_ble_eq_true q2
     subst q1
     obtain⟨_,_,_,r,hr,hrel⟩:=hs.mapped _ _ _ hp
     rw[hg]at hr;cases hr
     obtain⟨cs,lo0,hi0,g1,g2,g3,g4,g5,g6,g7⟩:=hrel
     have room:∀m,0<m→m≤n→off-p.base+m*sz≤p.size:=by
      intro m zo hm
      have h1:m*sz≤n*sz:=Nat.mul_le_mul_right _ hm
      have h2:0<m*sz:=Nat.mul_pos zo (by omega)
      have:=g7 rfl (off+m*sz-1) (by omega) (by omega)
      omega
     have fin:∀(l h m:Nat),l≤h→h≤m→m≤n→aL ρ (.slice id ep (off+l*sz) (h-l) (m-l) true sz) (.slice (some ⟨p.blk,if m=l then off-p.base else off+l*sz-p.base,none⟩) (h-l) (m-l)):=by
      intro l h m a b c
      refine .slice _ _ _ _ _ _ _ _ _ p hp (by omega) (Nat.le_refl _) (fun _=>rfl) (by omega) (fun hc=>by rw[if_neg (by omega)]) (fun hc=>?_)
      have h3:(m-l)*sz+l*sz=m*sz:=by rw[←Nat.add_mul];congr 1;omega
      have:=room m (by omega) c
      omega
     split at h
     ·cases K7
      obtain⟨hh,l,e1,e2,rfl⟩:=Ix h
      obtain⟨hr,a1,a2⟩:=mi (P:=P) (w:=w) (isS:=false) JS JW (Nat.le_refl n) e1 e2
      refine⟨_,fin l hh n a1 (by omega) (Nat.le_refl _),?_⟩
      simp only[Instr.sliceAt,Sem.run_bind,run_underlying hu,Result.andThen_ok,Instr.sureAddr,Sem.run_pure,hr,bC cC,Nat.succ_eq_add_one,←ZV,Pd p _ _ _ hb]
     ·cases h
    ·cases h
   ·cases h
 ·rename_i el id ep off len cap ex sz hu
  cases hx with
  |slice _ _ _ _ _ _ _ cY o p hp hb hc he hl ho cC=>
   split at h
   ·rename_i sz' JK
    split at h
    ·rename_i q1
     have q1:=Nat.eq_of_beq_eq_true q1
     subst q1
     have fin:∀(l h m m':Nat) (x:Bool),l≤h→h≤m→m≤m'→m'≤cY→(x=true→m'=m)→aL ρ (.slice id ep (off+l*sz) (h-l) (m-l) x sz) (.slice (if m'=l then some ⟨p.blk,o,none⟩else(some (⟨p.blk,o,none⟩:Addr)).map (·.add (l*sz))) (h-l) (m'-l)):=by
      intro l h m m' x a b c d f
      have e0:∃o',(if m'=l then some (⟨p.blk,o,none⟩:Addr)else(some (⟨p.blk,o,none⟩:Addr)).map (·.add (l*sz)))=some ⟨p.blk,o',none⟩∧(0<m'-l→o'=off+l*sz-p.base):=by
       by_cases Sn:m'=l
       ·exact⟨o,by rw[if_pos Sn],fun hh=>by omega⟩
       ·rw[if_neg Sn]
        have pH:=ho (by omega)
        subst pH
        exact⟨off+l*sz-p.base,by simp[eD p off _ hb],fun _=>rfl⟩
      obtain⟨o',e1,e2⟩:=e0
      rw[e1]
      refine .slice _ _ _ _ _ _ _ _ _ p hp (by omega) (by omega) (fun hx=>by rw[f hx]) (by omega) e2 (fun hh=>?_)
      have h3:(m'-l)*sz+l*sz=m'*sz:=by rw[←Nat.add_mul];congr 1;omega
      have h4:m'*sz≤cY*sz:=Nat.mul_le_mul_right _ d
      have:=cC (by omega)
      omega
     split at h
     ·
      rename_i mx0
      cases K7 with
      |some _ u' ZO=>
       cases JW with
       |none=>
        exfalso
        cases WT:kB mx0 cap<;>simp[WT]at h
       |some z z' hz=>
        simp only[]at h
        obtain⟨m,hh,l,e1,e2,e3,rfl⟩:=ae0 h
        obtain⟨a,b,c,d⟩:=Dp (P:=P) (w:=w) (isS:=true) (len:=len) JS hz ZO hc e1 e2 e3
        refine⟨_,fin l hh m m true b c (Nat.le_refl _) (by omega) (fun _=>rfl),?_⟩
        simp only[Instr.sliceAt,Instr.slice,Sem.run_bind,run_underlying hu,Result.andThen_ok,a,bC JK,Sem.run_pure]
     ·cases K7
      obtain⟨hh,l,e1,e2,rfl⟩:=Ix h
      obtain⟨a,b,c⟩:=mi (P:=P) (w:=w) (isS:=true) JS JW hc e1 e2
      refine⟨_,fin l hh cap cY ex b (by omega) hc (Nat.le_refl _) he,?_⟩
      simp only[Instr.sliceAt,Instr.slice,Sem.run_bind,run_underlying hu,Result.andThen_ok,a,bC JK,Sem.run_pure]
    ·cases h
   ·cases h
 ·rename_i el hu
  cases hx
  split at h
  ·rename_i sz' JK
   split at h
   ·cases h
   ·cases K7
    obtain⟨hh,l,e1,e2,rfl⟩:=Ix h
    obtain⟨a,b,c⟩:=mi (P:=P) (w:=w) (isS:=true) JS JW (Nat.le_refl 0) e1 e2
    obtain rfl:hh=0:=by omega
    obtain rfl:l=0:=by omega
    refine⟨_,.ec,?_⟩
    simp only[Instr.sliceAt,Instr.slice,Sem.run_bind,run_underlying hu,Result.andThen_ok,a,bC JK,Sem.run_pure]
    rfl
  ·cases h
 ·rename_i s hu
  cases hx with
  |str _ s' Cy=>
   split at h
   ·cases h
   ·cases K7
    obtain⟨hh,l,e1,e2,rfl⟩:=Ix h
    have cC:s'.size=s.length:=by rw[←Cy,List.length_map,Array.length_toList];rfl
    obtain⟨a,b,c⟩:=mi (P:=P) (w:=w) (isS:=false) JS JW (Nat.le_refl s.length) e1 e2
    refine⟨.string (s'.extract l hh),.str _ _ ?_,?_⟩
    ·rw[←Cy]
     simp[ByteArray.data_extract,List.extract_eq_take_drop,List.map_take,List.map_drop]
    ·simp only[Instr.sliceAt,Instr.slice,Sem.run_bind,run_underlying hu,Result.andThen_ok,Option.isSome,Bool.false_eq_true,if_false,cC,a,Sem.run_pure]
 ·cases h
end
end Go.Il
namespace Go.Il
variable [Sym]
section
variable {B : Nat → Prop} {ρ : bL} {st : St} {w : World} {P : Program} {e : Env} {a : Act}
variable {k u v:AV} {k' u' v' x':Value}
theorem QT {op:UnOp} {x:AV} (hx:aL ρ x x') (h:unA op x=some v):∃v',aL ρ v v'∧(Op.unary op x').run P w=.ok v' w:=by
 unfold unA at h
 split at h
 ·cases hx;cases h;rw[pM];exact⟨_,.int _ _,rfl⟩
 ·cases hx;cases h;exact⟨_,.int _ _,rfl⟩
 ·cases hx;cases h;exact⟨_,.bool _,rfl⟩
 ·cases h
variable {kt t:TypeId}
theorem KB {s:TypeId} {x:AV} (hx:aL ρ x x') (h:vp P s t x=some v):∃v',aL ρ v v'∧(convert s t x').run P w=.ok v' w:=by
 unfold vp at h
 split at h
 ·rename_i u k k0 n h1 h2
  cases hx;cases h
  rw[pM]
  refine⟨_,.int _ _,?_⟩
  simp only[convert,Sem.run_bind,run_underlying h1,run_underlying h2,Result.andThen_ok]
  rfl
 ·rename_i u s0 h1 h2
  cases hx with
  |str _ s' hs=>
   cases h
   refine⟨_,.str _ _ hs,?_⟩
   simp only[convert,Sem.run_bind,run_underlying h1,run_underlying h2,Result.andThen_ok]
   rfl
 ·cases h
variable {blk d ep h i j m n p9:Nat}
theorem Nf (hs:aV B ρ st w) {ty:TypeId} {oS:Array TypeId} {x:AV} (hx:aL ρ x x') (ht:oS[0]?=some t) (h:Jy P st t x st.heap.get=some n):(Builtin.len_ oS ty #[x']).run P w=.ok (.int .i64 n) w:=by
 unfold Jy at h
 have h0:(#[x']:Array Value)[0]?=some x':=rfl
 split at h
 ·rename_i s hu
  cases hx with
  |str _ s' Cy=>
   cases h
   have cC:s'.size=s.length:=by rw[←Cy,List.length_map,Array.length_toList];rfl
   simp only[Builtin.len_,ht,h0,Sem.run_bind,run_underlying hu,Result.andThen_ok,goInt,cC];rfl
 ·rename_i m el hu
  cases h
  simp only[Builtin.len_,ht,h0,Sem.run_bind,run_underlying hu,Result.andThen_ok]
  cases x'<;>rfl
 ·rename_i q hu
  split at h
  ·rename_i m el ZN
   cases h
   simp only[Builtin.len_,ht,h0,Sem.run_bind,run_underlying hu,Result.andThen_ok]
   cases x'<;>(simp only[run_underlying ZN,Result.andThen_ok];rfl)
  ·cases h
 ·rename_i hu
  cases hx;cases h
  simp only[Builtin.len_,ht,h0,Sem.run_bind,run_underlying hu,Result.andThen_ok];rfl
 ·rename_i hu
  cases hx;cases h
  simp only[Builtin.len_,ht,h0,Sem.run_bind,run_underlying hu,Result.andThen_ok];rfl
 ·rename_i hu
  cases hx;cases h
  simp only[Builtin.len_,ht,h0,Sem.run_bind,run_underlying hu,Result.andThen_ok];rfl
 ·rename_i id hu
  cases hx with
  |map _ p hp=>
   split at h
   ·rename_i es clock hg
    cases h
    obtain⟨_,_,_,r,hr,hrel⟩:=hs.mapped _ _ _ hp
    rw[hg]at hr;cases hr
    obtain⟨_,cI,he,rO⟩:=hrel
    have hl:=rO.length
    simp only[Builtin.len_,ht,h0,Sem.run_bind,run_underlying hu,Result.andThen_ok,getObj,Sem.run,he,goInt]
    rw[←hl,Array.length_toList];rfl
   ·cases h
 ·cases h
def US (w:World) (x':Value) (es:Array MapEntry):Prop:=(x'=.map none∧es= #[])∨∃b clock,x'=.map (some b)∧w.heap[b]?=some (.map es clock)
theorem Nb {et:TypeId} {ok:Bool} {es:Array MapEntry} {r':Option (Nat×Value)} (hu:P.underlying t=some (.map kt et)) (CU:∀em,(Instr.checkKey em 10000 kt k').run P w=.ok () w) (hm:US w x' es)
 (hf:(Instr.findKey kt k' es.toList).run P w=.ok r' w):(Instr.lookup t x' k' ok).run P w=match r' with
  |some (_,v)=> .ok (if ok then .tuple #[v,.bool true]else v) w
  |none=>((zeroValue et).run P w).andThen fun z w'=> .ok (if ok then .tuple #[z,.bool false]else z) w':=by
 rcases hm with⟨rfl,rfl⟩|⟨b,clock,rfl,hb⟩
 ·cases r' with
  |none=>
   simp only[Instr.lookup,Sem.run_bind,run_underlying hu,Result.andThen_ok,Sem.run_pure,CU,hf]
  |some q=>
   simp only[Instr.lookup,Sem.run_bind,run_underlying hu,Result.andThen_ok,Sem.run_pure,CU,hf]
 ·cases r' with
  |none=>
   simp only[Instr.lookup,Sem.run_bind,run_underlying hu,Result.andThen_ok,getObj,Sem.run,hb,Sem.run_pure,CU,hf]
  |some q=>
   simp only[Instr.lookup,Sem.run_bind,run_underlying hu,Result.andThen_ok,getObj,Sem.run,hb,Sem.run_pure,CU,hf]
theorem Ju (hs:aV B ρ st w) {x:AV} {ok:Bool} (hx:aL ρ x x') (hk:aL ρ k k') (h:Hk P st t x k ok=some v):∃v',aL ρ v v'∧(Instr.lookup t x' k' ok).run P w=.ok v' w:=by
 unfold Hk at h
 split at h
 ·rename_i kt et hu
  split at h
  ·rename_i CU
   have JU:∃d,P.underlying kt=some d:=by
    unfold It at CU
    cases hd:P.underlying kt with
    |none=>rw[hd]at CU;cases CU
    |some d=>exact⟨d,rfl⟩
   obtain⟨desc,JU⟩:=JU
   have FJ:∀em,(Instr.checkKey em 10000 kt k').run P w=.ok () w:=fun em=>(Ay em 9992 w 8).1 _ _ _ hk CU
   have two:∀(es:Array MapEntry) (r:Option (Nat×AV)) (r':Option (Nat×Value)),AY ρ r r'→US w x' es→(Instr.findKey kt k' es.toList).run P w=.ok r' w→
    Cj P et ok (some r)=some v→∃v',aL ρ v v'∧(Instr.lookup t x' k' ok).run P w=.ok v' w:=by
    intro es r r' hf h1 h2 h3
    have aH:=Nb (ok:=ok) hu FJ h1 h2
    unfold Cj at h3
    cases r with
    |some q=>
     obtain⟨j,u⟩:=q
     obtain⟨u',rfl,ZO⟩:=hf
     cases h3
     refine⟨_,?_,aH⟩
     cases ok
     ·exact ZO
     ·exact .n8 _ _ (.cons _ _ _ _ ZO (.cons _ _ _ _ (.bool _) .nil))
    |none=>
     cases hf
     simp only[]at h3
     split at h3
     ·rename_i z hz
      cases h3
      obtain⟨z',iK,mE⟩:=gL hz
      simp only[mE,Result.andThen_ok]at aH
      refine⟨_,?_,aH⟩
      cases ok
      ·exact iK ρ
      ·exact .n8 _ _ (.cons _ _ _ _ (iK ρ) (.cons _ _ _ _ (.bool _) .nil))
     ·cases h3
   cases hx with
   |mZ=>
    refine two #[] none none rfl (.inl ⟨rfl,rfl⟩) ?_ h
    simp only[Instr.findKey,Sem.run_bind,run_underlying JU,Result.andThen_ok];rfl
   |map id p hp=>
    obtain⟨_,_,_,r,hr,hrel⟩:=hs.mapped _ _ _ hp
    simp only[hr]at h
    cases r<;>simp only[]at h<;>(try(cases h;done))
    rename_i es clock
    obtain⟨_,cI,he,rO⟩:=hrel
    cases N1:nC P st kt k es 0 with
    |none=>rw[N1]at h;simp[Cj]at h
    |some r=>
     rw[N1]at h
     obtain⟨r',hf,cN⟩:=iu hs JU hk rO N1
     exact two cI r r' hf (.inr ⟨_,_,rfl,he⟩) cN h
   |_=>simp at h
  ·cases h
 ·cases h
end
end Go.Il
