/- A verified interpreter for calls on fixed data, part 5 of 5. -/
import Derived.Test.YtjkahfmdcpfjjaaGreatE4
set_option linter.unusedVariables false
set_option linter.unusedSectionVars false
namespace Go.Il
variable [Sym]
structure ae8 where
 run:Env→(AV→Bool)→Bool
noncomputable def mT (t:Tmp):ae8:=⟨fun e k=>Tr.rec (motive:=fun _=>Bool) (fun d tr=>Option.rec (motive:=fun _=>Bool) false k ((Yd AV d t).run tr)) e⟩
theorem kH (t:Tmp) (e:Env) (k:AV→Bool):(mT t).run e k=match Tr.get e t with|some v=>k v|none=>false:=by
 have h:(mT t).run e k=Tr.Ou e t false k:=rfl
 rw[h,Tr.tz];cases Tr.get e t<;>rfl
structure aq6 where
 run:Env→AV→(Env→Bool)→Bool
noncomputable def Vs (t:Tmp):aq6:=⟨fun e v k=>Tr.rec (motive:=fun _=>Bool) (fun d tr=>(Tr.Ya AV Bool t (t+1) d).run tr v k) e⟩
theorem Q9 (t:Tmp) (e:Env) (v:AV) (k:Env→Bool):(Vs t).run e v k=e.mU t v k:=rfl
structure EvF where
 run:Env→AV→(AV→Bool)→Bool
noncomputable def iC (last:Option Tmp) (o:Operand):EvF:=
 match o with
 | .tmp t=>match last with
  |some d=>match Nat.beq t d with
   |true=>⟨fun _ v k=>k v⟩
   |false=>⟨fun e _ k=>(mT t).run e k⟩
  |none=>⟨fun e _ k=>(mT t).run e k⟩
 | .const v=>match vX vu v with
  |some v=>⟨fun _ _ k=>k v⟩
  |none=>⟨fun _ _ _=>false⟩
 | .global _=>⟨fun _ _ _=>false⟩
 | .func f=>⟨fun _ _ k=>k (.fn f [] [])⟩
def pE (last:Option Tmp) (e:Env) (u:AV):Prop:=∀t,last=some t→Tr.get e t=some u
variable {e:Env} {a u:AV}
theorem bS {last:Option Tmp} (hl:pE last e u) (o:Operand) (k:AV→Bool):(iC last o).run e u k=fR e o false k:=by
 cases o with
 |tmp t=>
  have hs:(mT t).run e k=fR e (.tmp t) false k:=by
   rw[kH];simp only[fR];cases Tr.get e t<;>rfl
  cases last with
  |none=>exact hs
  |some d=>
   simp only[iC]
   cases hb:Nat.beq t d with
   |false=>exact hs
   |true=>
    have:=Nat.eq_of_beq_eq_true hb
    subst this
    simp only[fR,hl t rfl]
 |const v=>simp only[iC,fR];cases vX vu v<;>rfl
 |global g=>rfl
 |func f=>rfl
structure as5 where
 run:Env→AV→(List AV→Bool)→Bool
noncomputable def Km (last:Option Tmp):List Operand→as5
 |[]=>⟨fun _ _ k=>k []⟩
 |o::os=>⟨fun e u k=>(iC last o).run e u fun v=>(Km last os).run e u fun vs=>k (v::vs)⟩
theorem Im {last:Option Tmp} (hl:pE last e u) (os:List Operand) (k:List AV→Bool):(Km last os).run e u k=mf e os false k:=by
 induction os generalizing k with
 |nil=>rfl
 |cons o os ih=>simp only[Km,bS hl,mf,ih]
structure as6 where
 run:Env→AV→(List (Nat×AV)→Bool)→Bool
noncomputable def SJ (last:Option Tmp):List (Nat×Operand)→as6
 |[]=>⟨fun _ _ k=>k []⟩
 |(i,o)::os=>⟨fun e u k=>(iC last o).run e u fun v=>(SJ last os).run e u fun vs=>k ((i,v)::vs)⟩
theorem SH {last:Option Tmp} (hl:pE last e u) (os:List (Nat×Operand)) (k:List (Nat×AV)→Bool):(SJ last os).run e u k=sY e os false k:=by
 induction os generalizing k with
 |nil=>rfl
 |cons o os ih=>obtain⟨i,o⟩:=o;simp only[SJ,bS hl,sY,ih]
noncomputable def kEq (k k':IntKind):Bool:=decide (k=k')
noncomputable def rl (b t f:Bool):Bool:=Bool.rec (motive:=fun _=>Bool) f t b
noncomputable def zX (v:AV) (k:Bool→Bool):Bool:=AV.rec (motive_1:=fun _=>Bool) (motive_2:=fun _=>Bool) (fun x0=>k x0) (fun _ _=>false) (fun _ _=>false) (fun _=>false) (false) (fun _ _ _=>false) (false) (fun _ _ _ _ _ _ _=>false) (false) (fun _=>false) (fun _ _ _ _ _=>false) (fun _=>false) (false) (fun _ _ _=>false) (false) (fun _ _=>false) (fun _ _=>false) false (fun _ _ _ _=>false) v
theorem uN (v:AV) (k:Bool→Bool):zX v k=match v with| .bool x0=>k x0|_=>false:=by cases v<;>rfl
noncomputable def No (v:AV) (k:IntKind→Int→Bool):Bool:=AV.rec (motive_1:=fun _=>Bool) (motive_2:=fun _=>Bool) (fun _=>false) (fun x0 x1=>k x0 x1) (fun _ _=>false) (fun _=>false) (false) (fun _ _ _=>false) (false) (fun _ _ _ _ _ _ _=>false) (false) (fun _=>false) (fun _ _ _ _ _=>false) (fun _=>false) (false) (fun _ _ _=>false) (false) (fun _ _=>false) (fun _ _=>false) false (fun _ _ _ _=>false) v
theorem JI (v:AV) (k:IntKind→Int→Bool):No v k=match v with| .int x0 x1=>k x0 x1|_=>false:=by cases v<;>rfl
noncomputable def iy (v:AV) (k:Nat→Nat→Nat→Bool):Bool:=AV.rec (motive_1:=fun _=>Bool) (motive_2:=fun _=>Bool) (fun _=>false) (fun _ _=>false) (fun _ _=>false) (fun _=>false) (false) (fun x0 x1 x2=>k x0 x1 x2) (false) (fun _ _ _ _ _ _ _=>false) (false) (fun _=>false) (fun _ _ _ _ _=>false) (fun _=>false) (false) (fun _ _ _=>false) (false) (fun _ _=>false) (fun _ _=>false) false (fun _ _ _ _=>false) v
theorem dF (v:AV) (k:Nat→Nat→Nat→Bool):iy v k=match v with| .ptr x0 x1 x2=>k x0 x1 x2|_=>false:=by cases v<;>rfl
noncomputable def Cp (v:AV) (k:Nat→Nat→Nat→Nat→Nat→Bool→Nat→Bool):Bool:=AV.rec (motive_1:=fun _=>Bool) (motive_2:=fun _=>Bool) (fun _=>false) (fun _ _=>false) (fun _ _=>false) (fun _=>false) (false) (fun _ _ _=>false) (false) (fun x0 x1 x2 x3 x4 x5 x6=>k x0 x1 x2 x3 x4 x5 x6) (false) (fun _=>false) (fun _ _ _ _ _=>false) (fun _=>false) (false) (fun _ _ _=>false) (false) (fun _ _=>false) (fun _ _=>false) false (fun _ _ _ _=>false) v
theorem Co (v:AV) (k:Nat→Nat→Nat→Nat→Nat→Bool→Nat→Bool):Cp v k=match v with| .slice x0 x1 x2 x3 x4 x5 x6=>k x0 x1 x2 x3 x4 x5 x6|_=>false:=by cases v<;>rfl
noncomputable def zY (v:AV) (k:List AV→Bool):Bool:=AV.rec (motive_1:=fun _=>Bool) (motive_2:=fun _=>Bool) (fun _=>false) (fun _ _=>false) (fun _ _=>false) (fun _=>false) (false) (fun _ _ _=>false) (false) (fun _ _ _ _ _ _ _=>false) (false) (fun _=>false) (fun _ _ _ _ _=>false) (fun _=>false) (false) (fun _ _ _=>false) (false) (fun x0 _=>k x0) (fun _ _=>false) false (fun _ _ _ _=>false) v
theorem rM (v:AV) (k:List AV→Bool):zY v k=match v with| .agg x0=>k x0|_=>false:=by cases v<;>rfl
noncomputable def Nn (v:AV) (k:List AV→Bool):Bool:=AV.rec (motive_1:=fun _=>Bool) (motive_2:=fun _=>Bool) (fun _=>false) (fun _ _=>false) (fun _ _=>false) (fun _=>false) (false) (fun _ _ _=>false) (false) (fun _ _ _ _ _ _ _=>false) (false) (fun _=>false) (fun _ _ _ _ _=>false) (fun _=>false) (false) (fun _ _ _=>false) (false) (fun _ _=>false) (fun x0 _=>k x0) false (fun _ _ _ _=>false) v
theorem JH (v:AV) (k:List AV→Bool):Nn v k=match v with| .n8 x0=>k x0|_=>false:=by cases v<;>rfl
noncomputable def Ry (v:AV):Bool:=AV.rec (motive_1:=fun _=>Bool) (motive_2:=fun _=>Bool) (fun _=>true) (fun _ _=>true) (fun _ _=>true) (fun _=>true) (true) (fun _ _ _=>true) (true) (fun _ _ _ _ _ _ _=>true) (true) (fun _=>true) (fun _ _ _ _ _=>true) (fun _=>true) (true) (fun _ _ _=>true) (true) (fun _ _=>false) (fun _ _=>false) false (fun _ _ _ _=>false) v
theorem zD (v:AV):Ry v=v.one:=by cases v<;>rfl
noncomputable def Zc (v:AV):Bool:=AV.rec (motive_1:=fun _=>Bool) (motive_2:=fun _=>Bool) (fun _=>false) (fun _ _=>false) (fun _ _=>false) (fun _=>false) (false) (fun _ _ _=>true) (false) (fun _ _ _ _ _ _ _=>true) (false) (fun _=>true) (fun _ _ _ _ _=>true) (fun _=>false) (false) (fun _ _ _=>true) (false) (fun _ _=>false) (fun _ _=>false) false (fun _ _ _ _=>false) v
noncomputable def Zi (v:AV) (k:Nat→Bool):Bool:=AV.rec (motive_1:=fun _=>Bool) (motive_2:=fun _=>Bool) (fun _=>false) (fun _ _=>false) (fun _ _=>false) (fun _=>false) (false) (fun _ _ _=>false) (k 0) (fun x0 x1 x2 x3 x4 x5 x6=>k x3) (false) (fun _=>false) (fun _ _ _ _ _=>false) (fun _=>false) (false) (fun _ _ _=>false) (false) (fun _ _=>false) (fun _ _=>false) false (fun _ _ _ _=>false) v
noncomputable def UE (a b:AV) (bA:Bool) (sW:IntKind→Nat→Nat→Bool):Bool:=AV.rec (motive_1:=fun _=>Bool) (motive_2:=fun _=>Bool) (fun _=>bA) (fun k m=>Int.rec (motive:=fun _=>Bool) (fun m=>AV.rec (motive_1:=fun _=>Bool) (motive_2:=fun _=>Bool) (fun _=>bA) (fun k' n=>Int.rec (motive:=fun _=>Bool) (fun n=>Bool.rec (motive:=fun _=>Bool) bA (sW k m n) (kEq k k')) (fun _=>bA) n) (fun _ _=>bA) (fun _=>bA) (bA) (fun _ _ _=>bA) (bA) (fun _ _ _ _ _ _ _=>bA) (bA) (fun _=>bA) (fun _ _ _ _ _=>bA) (fun _=>bA) (bA) (fun _ _ _=>bA) (bA) (fun _ _=>bA) (fun _ _=>bA) false (fun _ _ _ _=>false) b) (fun _=>bA) m) (fun _ _=>bA) (fun _=>bA) (bA) (fun _ _ _=>bA) (bA) (fun _ _ _ _ _ _ _=>bA) (bA) (fun _=>bA) (fun _ _ _ _ _=>bA) (fun _=>bA) (bA) (fun _ _ _=>bA) (bA) (fun _ _=>bA) (fun _ _=>bA) false (fun _ _ _ _=>false) a
noncomputable def UG (a:AV) (bA:Bool) (sW:IntKind→Nat→Bool):Bool:=AV.rec (motive_1:=fun _=>Bool) (motive_2:=fun _=>Bool) (fun _=>bA) (fun k m=>Int.rec (motive:=fun _=>Bool) (fun m=>sW k m) (fun _=>bA) m) (fun _ _=>bA) (fun _=>bA) (bA) (fun _ _ _=>bA) (bA) (fun _ _ _ _ _ _ _=>bA) (bA) (fun _=>bA) (fun _ _ _ _ _=>bA) (fun _=>bA) (bA) (fun _ _ _=>bA) (bA) (fun _ _=>bA) (fun _ _=>bA) false (fun _ _ _ _=>false) a
noncomputable def OL (a:AV) (bA:Bool) (sW:Bool→Bool):Bool:=AV.rec (motive_1:=fun _=>Bool) (motive_2:=fun _=>Bool) (fun b=>sW b) (fun _ _=>bA) (fun _ _=>bA) (fun _=>bA) (bA) (fun _ _ _=>bA) (bA) (fun _ _ _ _ _ _ _=>bA) (bA) (fun _=>bA) (fun _ _ _ _ _=>bA) (fun _=>bA) (bA) (fun _ _ _=>bA) (bA) (fun _ _=>bA) (fun _ _=>bA) false (fun _ _ _ _=>false) a
noncomputable def Zm (v:AV) (kf:FuncId→List AV→List AV→Bool) (ky:Nat→Bool):Bool:=AV.rec (motive_1:=fun _=>Bool) (motive_2:=fun _=>Bool) (fun _=>false) (fun _ _=>false) (fun _ _=>false) (fun _=>false) (false) (fun _ _ _=>false) (false) (fun _ _ _ _ _ _ _=>false) (false) (fun _=>false) (fun g first cap _ _=>kf g first cap) (fun id=>ky id) (false) (fun _ _ _=>false) (false) (fun _ _=>false) (fun _ _=>false) false (fun _ _ _ _=>false) v
variable {bA:Bool}
theorem OM {b:AV} {sW:IntKind→Nat→Nat→Bool} (h:∀k m n,a=.int k (.ofNat m)→b=.int k (.ofNat n)→sW k m n=bA):UE a b bA sW=bA:=by
 cases a<;>first|rfl|skip
 rename_i k m
 cases m with
 |negSucc m=>rfl
 |ofNat m=>
  cases b<;>first|rfl|skip
  rename_i k' n
  cases n with
  |negSucc n=>rfl
  |ofNat n=>
   show Bool.rec (motive:=fun _=>Bool) bA (sW k m n) (kEq k k')=bA
   by_cases hk:k=k'
   ·subst hk
    rw[show kEq k k=true from decide_eq_true rfl]
    exact h k m n rfl rfl
   ·rw[show kEq k k'=false from decide_eq_false hk]
theorem ON {sW:IntKind→Nat→Bool} (h:∀k m,a=.int k (.ofNat m)→sW k m=bA):UG a bA sW=bA:=by
 cases a<;>first|rfl|skip
 rename_i k m
 cases m with
 |negSucc m=>rfl
 |ofNat m=>exact h k m rfl
noncomputable def uM (r:Rec) (k:TypeId→Tr db→Nat→Nat→Bool→Bool):Bool:=Rec.rec (motive:=fun _=>Bool) k (fun _ _=>false) (fun _ _ _ _=>false) (fun _ _=>false) (fun _ _ _ _ _ _ _ _ _=>false) (fun _=>false) r
theorem sG (r:Rec) (k:TypeId→Tr db→Nat→Nat→Bool→Bool):uM r k=match r with| .cells a b c d e=>k a b c d e|_=>false:=by cases r<;>rfl
theorem nk (t f:Bool):rl true t f=t:=rfl
noncomputable def Pn (st:St) (id ep off:Nat) (k:AV→Bool):Bool:=
 Tr.Ou st.heap id false fun r=>uM r fun _ c top _ _=>rl (Nat.ble (Nat.succ off) top) (Tr.Ou c off false fun a=>db.rec (motive:=fun _=>Bool) (fun v tag=>rl (Nat.ble tag ep) (k v) false) a) false
theorem Pm (st:St) (id ep off:Nat) (k:AV→Bool):Pn st id ep off k=sO st id ep off false k:=by
 unfold Pn sO
 rw[Tr.tz]
 cases st.heap.get id with
 |none=>rfl
 |some r=>
  simp only[sG]
  cases r<;>first|rfl|skip
  rename_i c top _ _
  simp only[]
  show rl (Nat.blt off top) _ _=_
  cases Nat.blt off top with
  |false=>rfl
  |true=>
   simp only[nk,Tr.tz]
   cases c.get off with
   |none=>rfl
   |some x=>obtain⟨v,tag⟩:=x;simp only[];cases Nat.ble tag ep<;>rfl
noncomputable def VF (st:St) (id ep off:Nat) (v:AV) (k:St→Bool):Bool:=
 rl (Ry v) (St.rec (motive:=fun _=>Bool) (fun heap next=>Tr.Ou heap id false fun r=>uM r fun elem c top lat sh=>
  rl (Nat.beq ep lat) (rl (Nat.ble (Nat.succ off) top) (c.mU off ⟨v,lat⟩ fun c=>heap.mU id (.cells elem c top lat sh) fun h=>k ⟨h,next⟩) false) false) st) false
theorem Rm (st:St) (id ep off:Nat) (v:AV) (k:St→Bool):VF st id ep off v k=EM st id ep off v false k:=by
 unfold VF EM
 rw[zD]
 cases v.one with
 |false=>rfl
 |true=>
  obtain⟨heap,next⟩:=st
  simp only[nk,Tr.tz]
  cases heap.get id with
  |none=>rfl
  |some r=>
   simp only[sG]
   cases r<;>first|rfl|skip
   rename_i c top lat _
   simp only[]
   show rl (Nat.beq ep lat) (rl (Nat.blt off top) _ _) _=_
   cases Nat.beq ep lat<;>cases Nat.blt off top<;>rfl
noncomputable def RH (st:St) (r:Rec) (k:Nat→St→Bool):Bool:=St.rec (motive:=fun _=>Bool) (fun heap next=>heap.mU next r fun h=>dI (Nat.add next 1) fun n=>k next ⟨h,n⟩) st
theorem RG (st:St) (r:Rec) (k:Nat→St→Bool):RH st r k=zL st r k:=rfl
structure ar1 where
 run:List AV→(AV→Bool)→Bool
noncomputable def RD:Nat→ar1
 |0=>⟨fun l k=>List.rec (motive:=fun _=>Bool) false (fun a _ _=>k a) l⟩
 |i+1=>⟨fun l k=>List.rec (motive:=fun _=>Bool) false (fun _ l _=>(RD i).run l k) l⟩
theorem Hc (i:Nat) (l:List AV) (k:AV→Bool):(RD i).run l k=match l[i]? with|some v=>k v|none=>false:=by
 induction i generalizing l with
 |zero=>cases l<;>rfl
 |succ i ih=>
  cases l with
  |nil=>rfl
  |cons a l=>
   rw[List.getElem?_cons_succ,←ih l]
   rfl
noncomputable def vy (b:Bool) (k:AV→Bool):Bool:=Bool.rec (motive:=fun _=>Bool) (k (.bool false)) (k (.bool true)) b
theorem Pt (b:Bool) (k:AV→Bool):vy b k=k (.bool b):=by cases b<;>rfl
structure as8 where
 run:Bool→(AV→Bool)→IntKind→Nat→Nat→Bool
noncomputable def XD (op:BinOp):as8:=
 match op with
 | .add=>⟨fun bA c k m n=>rl (Nat.ble (Nat.succ (Nat.add m n)) (half k)) (dI (Nat.add m n) fun s=>c (.int k (.ofNat s))) bA⟩
 | .mul=>⟨fun bA c k m n=>rl (Nat.ble (Nat.succ (Nat.mul m n)) (half k)) (dI (Nat.mul m n) fun s=>c (.int k (.ofNat s))) bA⟩
 | .sub=>⟨fun bA c k m n=>rl (Nat.ble n m) (rl (Nat.ble (Nat.succ (Nat.sub m n)) (half k)) (dI (Nat.sub m n) fun s=>c (.int k (.ofNat s))) bA) bA⟩
 | .eql=>⟨fun _ c _ m n=>vy (Nat.beq m n) c⟩
 | .neq=>⟨fun _ c _ m n=>vy (Bool.not (Nat.beq m n)) c⟩
 | .lss=>⟨fun _ c _ m n=>vy (Nat.ble (Nat.succ m) n) c⟩
 | .leq=>⟨fun _ c _ m n=>vy (Nat.ble m n) c⟩
 | .gtr=>⟨fun _ c _ m n=>vy (Nat.ble (Nat.succ n) m) c⟩
 | .geq=>⟨fun _ c _ m n=>vy (Nat.ble n m) c⟩
 |_=>⟨fun bA _ _ _ _=>bA⟩
theorem SR {P:Program} {st:St} {op:BinOp} {t:TypeId} {x y:Operand} (c:AV→Bool) (k:IntKind) (m n:Nat):
 (XD op).run (mX (Dq P st op t x y (.int k (.ofNat m)) (.int k (.ofNat n))) false c) c k m n=mX (Dq P st op t x y (.int k (.ofNat m)) (.int k (.ofNat n))) false c:=by
 have hk:decide (k=k)=true:=decide_eq_true rfl
 cases op<;>first|rfl|skip
 all_goals simp only[Dq,RY,XD]
 ·cases hb:Nat.ble (Nat.succ (Nat.add m n)) (half k)with
  |false=>rfl
  |true=>
   have e:jN k (Int.ofNat m+Int.ofNat n)=.ofNat (m+n):=by
    show(match Nat.blt (m+n) (half k)with|true=>Int.ofNat (m+n)|false=>k.wrap (.ofNat (m+n)))=_
    rw[show Nat.blt (m+n) (half k)=true from hb]
   rw[e];rfl
 ·cases hn:Nat.ble n m with
  |false=>rfl
  |true=>
   cases hb:Nat.ble (Nat.succ (Nat.sub m n)) (half k)with
   |false=>rfl
   |true=>
    have hle:n≤m:=Nat.le_of_ble_eq_true hn
    have e:jN k (Int.ofNat m-Int.ofNat n)=.ofNat (m-n):=by
     have:(Int.ofNat m-Int.ofNat n)=Int.ofNat (m-n):=by simp only[Int.ofNat_eq_natCast];omega
     rw[this]
     show(match Nat.blt (m-n) (half k)with|true=>Int.ofNat (m-n)|false=>k.wrap (.ofNat (m-n)))=_
     rw[show Nat.blt (m-n) (half k)=true from hb]
    rw[e];rfl
 ·cases hb:Nat.ble (Nat.succ (Nat.mul m n)) (half k)with
  |false=>rfl
  |true=>
   have e:jN k (Int.ofNat m*Int.ofNat n)=.ofNat (m*n):=by
    show(match Nat.blt (m*n) (half k)with|true=>Int.ofNat (m*n)|false=>k.wrap (.ofNat (m*n)))=_
    rw[show Nat.blt (m*n) (half k)=true from hb]
   rw[e];rfl
 all_goals simp only[Pt,iR]
 all_goals congr 2
 ·rw[Bool.eq_iff_iff];simp only[Nat.beq_eq,decide_eq_true_eq,Int.ofNat.injEq]
 ·congr 1;rw[Bool.eq_iff_iff];simp only[Nat.beq_eq,decide_eq_true_eq,Int.ofNat.injEq]
 ·rw[Bool.eq_iff_iff];simp only[Nat.ble_eq,decide_eq_true_eq,Int.ofNat_eq_natCast];omega
 ·rw[Bool.eq_iff_iff];simp only[Nat.ble_eq,decide_eq_true_eq,Int.ofNat_eq_natCast];omega
 ·rw[Bool.eq_iff_iff];simp only[Nat.ble_eq,decide_eq_true_eq,Int.ofNat_eq_natCast];omega
 ·rw[Bool.eq_iff_iff];simp only[Nat.ble_eq,decide_eq_true_eq,Int.ofNat_eq_natCast];omega
end Go.Il
namespace Go.Il
variable [Sym]
noncomputable def sV (l:List Nat) (a:Nat):Bool:=List.rec (motive:=fun _=>Bool) false (fun b _ ih=>Bool.rec (motive:=fun _=>Bool) ih true (Nat.beq a b)) l
theorem Af (l:List Nat) (a:Nat):sV l a=l.contains a:=by
 induction l with
 |nil=>rfl
 |cons b l ih=>
  show Bool.rec (motive:=fun _=>Bool) (sV l a) true (Nat.beq a b)=_
  rw[ih,List.contains_cons]
  cases hb:Nat.beq a b with
  |true=>rw[show(a==b)=true from by simpa using Nat.eq_of_beq_eq_true hb];rfl
  |false=>rw[show(a==b)=false from by simpa using Nat.ne_of_beq_eq_false hb];rfl
noncomputable def KJ (m i:Nat):Bool:=Nat.beq (Nat.land (Nat.shiftRight m i) 1) 1
theorem SQ (m i:Nat):KJ m i=Nat.testBit m i:=by
 unfold KJ
 show Nat.beq ((m>>>i)&&&1) 1=_
 rw[Nat.testBit,Nat.and_comm 1,Nat.and_one_is_mod]
 rcases Nat.mod_two_eq_zero_or_one (m>>>i)with h|h<;>rw[h]<;>rfl
noncomputable def Cg (l:List Nat):Nat:=List.rec (motive:=fun _=>Nat) 0 (fun p _ m=>Nat.lor (Nat.shiftLeft 1 p) m) l
theorem MZ (l:List Nat) (i:Nat):(Cg l).testBit i=l.contains i:=by
 induction l with
 |nil=>simp[Cg]
 |cons p l ih=>
  show((1<<<p)|||Cg l).testBit i=_
  rw[Nat.testBit_or,ih,List.contains_cons,Nat.one_shiftLeft,Nat.testBit_two_pow]
  congr 1
  by_cases h:p=i
  ·subst h;simp
  ·have h2:¬i=p:=fun e=>h e.symm
   simp[h,h2]
theorem ID (l m:List Nat) (i:Nat):(sv l m).contains i=(l.contains i||m.contains i):=by
 induction l generalizing m with
 |nil=>simp[sv]
 |cons a l ih=>
  unfold sv
  rw[List.contains_cons]
  cases hm:m.contains a with
  |true=>
   simp only[ih]
   by_cases h:i=a
   ·subst h;simp only[hm,beq_self_eq_true,Bool.or_true,Bool.true_or]
   ·have:(i==a)=false:=by simpa using h
    rw[this,Bool.false_or]
  |false=>
   simp only[ih,List.contains_cons]
   cases(i==a)<;>cases l.contains i<;>rfl
noncomputable def Cn (f:Nat→Nat) (z:Nat) (l:List Nat):Nat:=List.rec (motive:=fun _=>Nat) z (fun p _ m=>Nat.lor (f p) m) l
noncomputable def Pz (ops:Array Oper) (f:Nat):Nat→Nat:=Nat.rec (motive:=fun _=>Nat→Nat) (fun _=>0) (fun _ ih j=>Cn ih (Cg (cy ops j)) (cy ops j)) f
theorem yY (l:List (List Nat)) (i:Nat):(mO l).contains i=l.any (fun m=>m.contains i):=by
 induction l with
 |nil=>rfl
 |cons a l ih=>simp only[mO,ID,ih,List.any_cons]
theorem JG (f:Nat→Nat) (z:Nat) (l:List Nat) (i:Nat):(Cn f z l).testBit i=(z.testBit i||l.any fun p=>(f p).testBit i):=by
 induction l with
 |nil=>simp[Cn]
 |cons p l ih=>
  show(f p|||Cn f z l).testBit i=_
  rw[Nat.testBit_or,ih,List.any_cons]
  cases(f p).testBit i<;>cases z.testBit i<;>rfl
theorem AQ (ops:Array Oper) (f j i:Nat):KJ (Pz ops f j) i=(Gt ops f j).contains i:=by
 rw[SQ]
 induction f generalizing j with
 |zero=>show Nat.testBit 0 i=_;rw[Nat.zero_testBit];rfl
 |succ f ih=>
  show(Cn (Pz ops f) (Cg (cy ops j)) (cy ops j)).testBit i=_
  rw[JG,MZ,Gt,yY,List.any_cons,List.any_map]
  congr 1
  congr 1;funext p
  exact ih p
noncomputable def xm {α:Type} (p:α→Bool) (l:List α):Bool:=List.rec (motive:=fun _=>Bool) true (fun a _ ih=>Bool.rec (motive:=fun _=>Bool) false ih (p a)) l
variable {α:Type}
theorem qX (p:α→Bool) (l:List α):xm p l=l.all p:=by
 induction l with
 |nil=>rfl
 |cons a l ih=>
  show Bool.rec (motive:=fun _=>Bool) false (xm p l) (p a)=_
  rw[ih,List.all_cons]
  cases p a<;>rfl
noncomputable def Kl {α:Type} (p:α→Bool) (l:List α):List α:=List.rec (motive:=fun _=>List α) [] (fun a _ ih=>Bool.rec (motive:=fun _=>List α) ih (a::ih) (p a)) l
theorem Ik (p:α→Bool) (l:List α):Kl p l=l.filter p:=by
 induction l with
 |nil=>rfl
 |cons a l ih=>
  show Bool.rec (motive:=fun _=>List α) (Kl p l) (a::Kl p l) (p a)=_
  rw[ih,List.filter_cons]
  cases p a<;>rfl
noncomputable def oY (ops:Array Oper):Nat→List Nat→List Nat
 |0,_=>[]
 |f+1,done=>match Kl (fun i=>Bool.rec (motive:=fun _=>Bool) (xm (sV done) (cy ops i)) false (sV done i)) (List.range ops.size)with
  |[]=>[]
  |r::rs=>match(r::rs).find? (dE ops)with
   |some i=>i::oY ops f (i::done)
   |none=>r::oY ops f (r::done)
theorem xE (ops:Array Oper) (f:Nat) (done:List Nat):oY ops f done=sched ops f done:=by
 induction f generalizing done with
 |zero=>rfl
 |succ f ih=>
  unfold oY sched
  have:Kl (fun i=>Bool.rec (motive:=fun _=>Bool) (xm (sV done) (cy ops i)) false (sV done i)) (List.range ops.size)=(List.range ops.size).filter fun i=> !done.contains i&&(cy ops i).all done.contains:=by
   rw[Ik]
   congr 1;funext i
   have hh:sV done=done.contains:=funext fun a=>Af done a
   rw[hh,qX]
   cases done.contains i<;>rfl
  rw[this]
  cases(List.range ops.size).filter fun i=> !done.contains i&&(cy ops i).all done.contains with
  |nil=>rfl
  |cons r rs=>
   simp only[]
   cases(r::rs).find? (dE ops)<;>simp only[ih]
noncomputable def Ar (ops:Array Oper):Bool:=
 xm (fun i=>match ops[i]? with
  |some x=>match x.dst with
   |some d=>xm (fun j=>match ops[j]? with
    |some y=>match Nat.beq i j with
     |true=>Bool.rec (motive:=fun _=>Bool) true (Nat.ble 2 (bx y)) (sV (looks ops y) d)
     |false=>Bool.rec (motive:=fun _=>Bool) false (Bool.rec (motive:=fun _=>Bool) true (Bool.rec (motive:=fun _=>Bool) (Bool.rec (motive:=fun _=>Bool) false (KJ (Pz ops ops.size i) j) (Nat.ble 2 (bx x))) true (sV (cy ops j) i)) (sV (looks ops y) d))
      (match y.dst with|some d'=> !Nat.beq d d'|none=>true)
    |none=>true) (List.range ops.size)
   |none=>true
  |none=>true) (List.range ops.size)
theorem FX (ops:Array Oper):Ar ops=mg ops:=by
 unfold Ar mg
 rw[qX]
 congr 1;funext i
 cases hx:ops[i]? with
 |none=>simp
 |some x=>
  simp only[]
  cases hd:x.dst with
  |none=>
   symm
   rw[List.all_eq_true]
   intro j _
   cases ops[j]?<;>simp only[hd]
  |some d=>
   simp only[qX]
   congr 1;funext j
   cases ops[j]? with
   |none=>rfl
   |some y=>
    simp only[Af,AQ,hd]
    cases Nat.beq i j with
    |true=>
     simp only[]
     cases(looks ops y).contains d<;>cases Nat.ble 2 (bx y)<;>rfl
    |false=>
     simp only[]
     cases y.dst with
     |none=>
      simp only[]
      cases(looks ops y).contains d<;>cases(cy ops j).contains i<;>cases Nat.ble 2 (bx x)<;>cases(Gt ops ops.size i).contains j<;>rfl
     |some d'=>
      simp only[]
      cases Nat.beq d d'<;>cases(looks ops y).contains d<;>cases(cy ops j).contains i<;>cases Nat.ble 2 (bx x)<;>cases(Gt ops ops.size i).contains j<;>rfl
noncomputable def tf (ops:Array Oper):List Nat→Bool
 |[]=>true
 |i::is=>Bool.rec (motive:=fun _=>Bool) false (tf ops is) (match dE ops i with
  |true=>true
  |false=>xm (fun j=>KJ (Pz ops ops.size j) i) is)
theorem Em (ops:Array Oper) (is:List Nat):tf ops is=gN ops is:=by
 induction is with
 |nil=>rfl
 |cons i is ih=>
  unfold tf gN
  rw[ih]
  cases dE ops i with
  |true=>cases gN ops is<;>rfl
  |false=>
   simp only[qX,AQ]
   cases is.all fun j=>(Gt ops ops.size j).contains i<;>rfl
noncomputable def EI (ops:Array Oper):Bool:=
 Bool.rec (motive:=fun _=>Bool) false (Bool.rec (motive:=fun _=>Bool) false (Bool.rec (motive:=fun _=>Bool) false
  (xm (fun j=>xm (fun i=>Nat.blt i j) (cy ops j)) (List.range ops.size)) (tf ops (oY ops ops.size []))) (Ar ops)) (xm (sV (oY ops ops.size [])) (List.range ops.size))
theorem I5 (ops:Array Oper):EI ops=mm ops:=by
 unfold EI mm
 have hh:sV (sched ops ops.size [])=(sched ops ops.size []).contains:=funext fun a=>Af _ a
 simp only[qX,Em,FX,xE,hh]
 cases(List.range ops.size).all (sched ops ops.size []).contains<;>cases mg ops<;>cases gN ops (sched ops ops.size [])<;>rfl
end Go.Il
namespace Go.Il
variable [Sym]
structure aq7 where
 run:St→Env→(List AV→Bool)→Bool
noncomputable def I1 (P:Program):List ResultVar→aq7
 |[]=>⟨fun _ _ k=>k []⟩
 | .tmp t::rs=>⟨fun st e k=>(mT t).run e fun v=>(I1 P rs).run st e fun vs=>k (v::vs)⟩
 | .cell a t::rs=>⟨fun st e k=>(mT a).run e fun a=>iy a fun id ep off=>sF P st t id ep off false fun v=>(I1 P rs).run st e fun vs=>k (v::vs)⟩
theorem Ri (P:Program) (rs:List ResultVar) (st:St) (e:Env) (k:List AV→Bool):(I1 P rs).run st e k=dD P st e rs k:=by
 induction rs generalizing k with
 |nil=>rfl
 |cons r rs ih=>
  cases r with
  |tmp t=>
   simp only[I1,dD,kH,ih]
   cases Tr.get e t<;>rfl
  |cell a t=>
   simp only[I1,dD,kH,dF,ih]
   cases Tr.get e a with
   |none=>rfl
   |some v=>cases v<;>rfl
structure ae9 where
 run:St→Env→(AV→Bool)→Bool
noncomputable def GR (P:Program) (rs:List ResultVar):ae9:=
 match rs with
 |[.tmp t]=>⟨fun _ e k=>(mT t).run e k⟩
 |rs=>⟨fun st e k=>(I1 P rs).run st e fun vs=>k (I2 vs)⟩
theorem Mt (P:Program) (rs:List ResultVar) (st:St) (e:Env) (k:AV→Bool):(GR P rs).run st e k=dD P st e rs fun vs=>k (I2 vs):=by
 unfold GR
 split
 ·simp only[dD,kH,I2]
  rename_i t
  cases Tr.get e t<;>rfl
 ·simp only[Ri]
noncomputable def yX (st:St) (ds:List Nat) (k:St→Bool):Bool:=List.rec (motive:=fun _=>Bool) (k st) (fun _ _ _=>lK st ds k) ds
theorem Ei (st:St) (ds:List Nat) (k:St→Bool):yX st ds k=lK st ds k:=by cases ds<;>rfl
structure as4 where
 run:dh→List AV→St→(AV→St→Bool)→Bool
noncomputable def Kd (P:Program) (f:FuncId):as4:=
 match P.funcs[f]? with
 |some fn=>match fn.body,kR fn with
  |some c,true=>⟨fun rec args st k=>rl (Nat.ble args.length fn.ntmps) (DB args 0 .lf fun e=>rec ⟨f,fn.ntmps,none⟩ c e [] st fun x e ds st=>
   AX.rec (motive:=fun _=>Bool) (yX st ds fun st=>(GR P fn.results.toList).run st e fun v=>k v st) (fun _=>false) (yX st ds fun st=>(GR P fn.results.toList).run st e fun v=>k v st) x) false⟩
  |_,_=>⟨fun _ _ _ _=>false⟩
 |none=>⟨fun _ _ _ _=>false⟩
theorem Al (P:Program) (f:FuncId) (rec:dh) (args:List AV) (st:St) (k:AV→St→Bool):(Kd P f).run rec args st k=vw P rec f args st k:=by
 unfold Kd vw
 cases P.funcs[f]? with
 |none=>rfl
 |some fn=>
  simp only[]
  cases fn.body with
  |none=>rfl
  |some c=>
   cases kR fn with
   |false=>simp only[]
   |true=>
    simp only[]
    cases Nat.ble args.length fn.ntmps with
    |false=>rfl
    |true=>
     simp only[nk]
     congr 1;funext e;congr 1;funext x e ds st
     cases x<;>simp only[Ei,Mt]
noncomputable def SO (first args cap:List AV):List AV:=List.rec (motive:=fun _=>List AV) (List.rec (motive:=fun _=>List AV) args (fun _ _ _=>first++args++cap) cap) (fun _ _ _=>first++args++cap) first
theorem SN (first args cap:List AV):SO first args cap=first++args++cap:=by
 cases first with
 |nil=>cases cap with
  |nil=>simp[SO]
  |cons _ _=>rfl
 |cons _ _=>rfl
noncomputable def Ps (P:Program) (rec:dh) (f:AV) (args:List AV) (st:St) (k:AV→St→Bool):Bool:=
 Zm f (fun g first cap=>(Kd P g).run rec (SO first args cap) st k) fun id=>zg rec id args st k
theorem KH (P:Program) (rec:dh) (f:AV) (args:List AV) (st:St) (k:AV→St→Bool):Ps P rec f args st k=sg P rec f args st k:=by
 cases f<;>first|rfl|skip
 rename_i g first cap
 show(Kd P g).run rec (SO first args cap) st k=vw P rec g (first++args++cap) st k
 rw[Al,SN]
structure Bo where
 run:dh→Env→AV→St→(AV→St→Bool)→Bool
noncomputable def UI:Bo:=⟨fun _ _ _ _ _=>false⟩
noncomputable def im (P:Program) (last:Option Tmp) (t:TypeId) (a:Operand):Bo:=
 match ni P t with
 |some true=>match dZ P t with
  |some n=>⟨fun _ e u st k=>(iC last a).run e u fun a=>iy a fun id ep off=>kA st id ep n off false fun l=>k (.agg l) st⟩
  |none=>deadF'
 |some false=>⟨fun _ e u st k=>(iC last a).run e u fun a=>iy a fun id ep off=>Pn st id ep off fun v=>k v st⟩
 |none=>deadF'
 where deadF':Bo:=⟨fun _ e u st k=>(iC last a).run e u fun a=>iy a fun id ep off=>false⟩
noncomputable def Mb (P:Program) (last:Option Tmp) (t:TypeId) (a x:Operand):Bo:=
 match dZ P t with
 |some 1=>⟨fun _ e u st k=>(iC last a).run e u fun a=>(iC last x).run e u fun v=>iy a fun id ep off=>rl (Ry v) (VF st id ep off v fun st=>k bX st)
  (match Nat.beq v.cells.length 1 with|true=>jT st id ep off v.cells false fun st=>k bX st|false=>false)⟩
 |some n=>⟨fun _ e u st k=>(iC last a).run e u fun a=>(iC last x).run e u fun v=>iy a fun id ep off=>match Nat.beq v.cells.length n with|true=>jT st id ep off v.cells false fun st=>k bX st|false=>false⟩
 |none=>⟨fun _ e u st k=>(iC last a).run e u fun a=>(iC last x).run e u fun v=>iy a fun _ _ _=>false⟩
noncomputable def vl (P:Program) (last:Option Tmp) (t:TypeId) (x:Operand) (f:Nat):Bo:=
 match Dc P t f with
 |some f=>match dZ P f.type with
  |some (_+1)=>match f.offset with
   |0=>⟨fun _ e u st k=>(iC last x).run e u fun v=>iy v fun id ep off=>k (.ptr id ep off) st⟩
   |o=>⟨fun _ e u st k=>(iC last x).run e u fun v=>iy v fun id ep off=>dI (Nat.add off o) fun off=>k (.ptr id ep off) st⟩
  |_=>⟨fun _ e u st k=>(iC last x).run e u fun v=>iy v fun id ep off=>false⟩
 |none=>⟨fun _ e u st k=>(iC last x).run e u fun v=>iy v fun id ep off=>false⟩
noncomputable def TI (i:Int) (len:Nat) (k:Nat→Bool):Bool:=Int.rec (motive:=fun _=>Bool) (fun m=>rl (Nat.ble (Nat.succ m) len) (k m) false) (fun _=>false) i
theorem MW (i:Int) (len:Nat) (k:Nat→Bool):TI i len k=match Ct i len with|some j=>k j|none=>false:=by
 cases i with
 |negSucc m=>rfl
 |ofNat m=>
  show rl (Nat.blt m len) _ _=match(match Nat.blt m len with|true=>some m|false=>none)with|some j=>k j|none=>false
  cases Nat.blt m len<;>rfl
noncomputable def uO (P:Program) (last:Option Tmp) (t:TypeId) (x i:Operand):Bo:=
 match P.underlying t with
 |some (.slice el)=>match dZ P el with
  |some sz'=>⟨fun _ e u st k=>(iC last x).run e u fun v=>(iC last i).run e u fun j=>No j fun _ j=>Cp v fun id ep off len _ _ sz=>TI j len fun j=>rl (Nat.beq sz sz') (dI (Nat.add off (Nat.mul j sz)) fun off=>k (.ptr id ep off) st) false⟩
  | none => ⟨fun rec e u st k => wS P rec e ⟨none, .indexAddr t x i, 0, "", #[], none⟩ st k⟩
 | _ => ⟨fun rec e u st k => wS P rec e ⟨none, .indexAddr t x i, 0, "", #[], none⟩ st k⟩
noncomputable def Zj (P:Program) (last:Option Tmp) (c:Call):Bo:=
 match c.args.toList,c.argTypes[0]? with
 |[x],some t=>match P.underlying t with
  |some (.slice _)=>⟨fun _ e u st k=>(iC last x).run e u fun v=>Zi v fun n=>k (.int .i64 (.ofNat n)) st⟩
  |_=>⟨fun _ e u st k=>(iC last x).run e u fun v=>match Jy P st t v st.heap.get with|some n=>dI n fun n=>k (.int .i64 (.ofNat n)) st|none=>false⟩
 |_,_=>UI
noncomputable def uI (P:Program) (last:Option Tmp) (t:TypeId) (x:Operand):Bo:=
 match P.underlying t with
 |some (.interface _)=>⟨fun _ e u st k=>(iC last x).run e u fun v=>false⟩
 |some _=>⟨fun _ e u st k=>(iC last x).run e u fun v=>k (.iface t v) st⟩
 |none=>⟨fun _ e u st k=>(iC last x).run e u fun v=>false⟩
noncomputable def OK (P:Program) (last:Option Tmp) (t:TypeId) (x:Operand) (f:Nat):Bo:=
 match Dc P t f with
 |some f=>match ni P f.type with
  |some false=>⟨fun _ e u st k=>(iC last x).run e u fun v=>zY v fun l=>(RD f.offset).run l fun v=>DG (some v) false fun v=>k v st⟩
  |_=>⟨fun _ e u st k=>(iC last x).run e u fun v=>zY v fun l=>DG (qh P f.type l f.offset) false fun v=>k v st⟩
 |none=>⟨fun _ e u st k=>(iC last x).run e u fun v=>zY v fun l=>false⟩
noncomputable def UJ (P:Program) (last:Option Tmp) (s t:TypeId) (x:Operand):Bo:=
 match P.underlying s,P.underlying t with
 |some _,some (.int kd)=>⟨fun _ e u st k=>(iC last x).run e u fun a=>UG a (mX (vp P s t a) false fun v=>k v st) fun _ m=>rl (Nat.ble (Nat.succ m) (half kd)) (k (.int kd (.ofNat m)) st) (mX (vp P s t a) false fun v=>k v st)⟩
 |_,_=>⟨fun _ e u st k=>(iC last x).run e u fun a=>mX (vp P s t a) false fun v=>k v st⟩
noncomputable def unF (last:Option Tmp) (op:UnOp) (x:Operand):Bo:=
 match op with
 | .not=>⟨fun _ e u st k=>(iC last x).run e u fun a=>OL a false fun b=>Bool.rec (motive:=fun _=>Bool) (k (.bool true) st) (k (.bool false) st) b⟩
 |op=>⟨fun _ e u st k=>(iC last x).run e u fun a=>mX (unA op a) false fun v=>k v st⟩
noncomputable def PA (P:Program) (t:TypeId):Option Rec:=
 match jM P t with
 |some z=>some (mo z.cells fun l=>ot l 0 .lf fun c=>dI l.length fun n=> .cells t c n 0 false)
 |none=>none
noncomputable def OG (r:Rec) (k:Rec→Bo):Bo:=Rec.rec (motive:=fun _=>Bo) (fun a b c d e=>k (.cells a b c d e)) (fun a b=>k (.map a b)) (fun a b c d=>k (.iJ a b c d)) (fun a b=>k (.Bv a b)) (fun a b c d e f g h i=>k (.loop a b c d e f g h i)) (fun a=>k (.deferred a)) r
theorem Kg (r:Rec) (k:Rec→Bo):OG r k=k r:=by cases r<;>rfl
noncomputable def PB (P:Program) (t:TypeId):Bo:=
 match PA P t with
 |some r=>OG r fun r=>⟨fun _ e u st k=>RH st r fun id st=>k (.ptr id 0 0) st⟩
 |none=>UI
noncomputable def aj3 (a:db):Tr db:=⟨0,VK (NW.mk (NW.mk (some a) none none none) (NW.mk none none none none) (NW.mk none none none none) (NW.mk none none none none))⟩
noncomputable def ad8 (last:Option Tmp) (t:TypeId) (x:Operand):Bo:=
 ⟨fun _ e u st k=>(iC last x).run e u fun v=>rl (Ry v) (RH st (.cells t (aj3 ⟨v,0⟩) 1 0 false) fun id st=>k (.ptr id 0 0) st)
  (mo v.cells fun l=>ot l 0 .lf fun c=>dI l.length fun n=>RH st (.cells t c n 0 false) fun id st=>k (.ptr id 0 0) st)⟩
noncomputable def pF (P:Program) (last:Option Tmp) (o:Oper):Bo:=
 match o.op with
 | .move x=>⟨fun _ e u st k=>(iC last x).run e u fun v=>k v st⟩
 | .assign x=>⟨fun _ e u st k=>(iC last x).run e u fun v=>k v st⟩
 | .pick c a b=>⟨fun _ e u st k=>(iC last c).run e u fun c=>zX c fun c=>Bool.rec (motive:=fun _=>Bool) ((iC last b).run e u fun v=>k v st) ((iC last a).run e u fun v=>k v st) c⟩
 | .load t a=>im P last t a
 | .nilCheck x=>⟨fun _ e u st k=>(iC last x).run e u fun v=>rl (Zc v) (k v st) false⟩
 | .binOp op t x y _=>⟨fun _ e u st k=>(iC last x).run e u fun a=>(iC last y).run e u fun b=>UE a b (mX (Dq P st op t x y a b) false fun v=>k v st) ((XD op).run (mX (Dq P st op t x y a b) false fun v=>k v st) fun v=>k v st)⟩
 | .unOp op _ x=>unF last op x
 | .convert s t x=>UJ P last s t x
 | .extract x i=>⟨fun _ e u st k=>(iC last x).run e u fun v=>Nn v fun l=>(RD i).run l fun v=>k v st⟩
 | .makeFunc (.func f) a b=>⟨fun _ e u st k=>(Km last a.toList).run e u fun a=>(Km last b.toList).run e u fun b=>k (.fn f a b) st⟩
 | .makeInterface t x=>uI P last t x
 | .field t x f=>OK P last t x f
 | .fieldAddr t x f=>vl P last t x f
 | .indexAddr t x i=>uO P last t x i
 | .lookup t x i ok=>⟨fun _ e u st k=>(iC last x).run e u fun v=>(iC last i).run e u fun i=>match Hk P st t v i ok with|some v=>k v st|none=>false⟩
 | .build t parts=>⟨fun _ e u st k=>(SJ last parts.toList).run e u fun ps=>DG (AF P t ps) false fun v=>k v st⟩
 | .alloc t=>PB P t
 | .box t x=>ad8 last t x
 | .store t a x=>Mb P last t a x
 | .mapUpdate t m key x=>⟨fun _ e u st k=>(iC last m).run e u fun m=>(iC last key).run e u fun key=>(iC last x).run e u fun x=>qo P st t m key x k⟩
 | .call c=>match c.callee with
  | .value f=>⟨fun rec e u st k=>(iC last f).run e u fun f=>(Km last c.args.toList).run e u fun args=>Ps P rec f args st k⟩
  | .builtin .len=>Zj P last c
  | .builtin .append=>match c.args.toList with
   |[s,x]=>⟨fun _ e u st k=>(iC last s).run e u fun s=>(iC last x).run e u fun x=>tE P st c.argTypes s x k⟩
   |_=>⟨fun rec e u st k=>wS P rec e o st k⟩
  |_=>⟨fun rec e u st k=>wS P rec e o st k⟩
 |_=>⟨fun rec e u st k=>wS P rec e o st k⟩
variable {e:Env} {o:Oper} {k:AV→St→Bool}
theorem mn {P:Program} {rec:dh} {st:St} (h:bx o=0):wS P rec e o st k=km P st e o false fun v=>k v st:=by unfold wS;rw[h];rfl
theorem TG {P:Program} {rec:dh} {st:St} (h:bx o=1):wS P rec e o st k=wU P e o false fun r s=>zL st r fun id st=>k (s.mk id) st:=by unfold wS;rw[h];rfl
theorem TE {P:Program} {rec:dh} {st:St} (h:bx o=2):wS P rec e o st k=wT P st e o k:=by unfold wS;rw[h];rfl
variable {a u:AV}
theorem rH {last:Option Tmp} (hl:pE last e u) (P:Program) (o:Oper) (rec:dh) (st:St) (k:AV→St→Bool):(pF P last o).run rec e u st k=wS P rec e o st k:=by
 obtain⟨dst,op,type,pos,after,guard⟩:=o
 cases op<;>first|rfl|skip
 case move x=>simp only[pF,bS hl];rfl
 case assign x=>simp only[pF,bS hl];rfl
 case pick c a b=>
  simp only[pF,bS hl,uN]
  rw[mn rfl]
  simp only[km]
  congr 1;funext c
  cases c<;>first|rfl|skip
  rename_i b;cases b<;>rfl
 case alloc t=>
  simp only[pF,PB,PA]
  rw[TG rfl]
  simp only[wU]
  cases jM P t with
  |none=>rfl
  |some z=>simp only[Kg,RG,eo,jg,bE];rfl
 case box t x=>
  simp only[pF,ad8,bS hl]
  rw[TG rfl]
  simp only[wU]
  congr 1;funext v
  rw[zD]
  cases hv:v.one with
  |false=>rfl
  |true=>
   have:v.cells=[v]:=by cases v<;>first|rfl|(simp[AV.one]at hv)
   simp only[this,eo,jg,bE]
   rfl
 case build t parts=>simp only[pF,SH hl];rfl
 case load t a=>
  simp only[pF,im]
  rw[mn rfl]
  simp only[km,sF,im.deadF']
  cases ni P t with
  |none=>
   simp only[bS hl,dF]
   congr 1
  |some b=>
   cases b with
   |false=>simp only[bS hl,dF,Pm];congr 1
   |true=>
    simp only[]
    cases dZ P t<;>(simp only[bS hl,dF];congr 1)
 case store t a x=>
  simp only[pF,Mb]
  rw[TE rfl]
  simp only[wT]
  cases dZ P t with
  |none=>simp only[bS hl,dF];congr 1
  |some n=>
   simp only[]
   split
   ·rename_i n' hn
    cases hn
    simp only[bS hl,dF,Rm,zD]
    congr 1;funext a;congr 1;funext v
    cases a<;>first|rfl|skip
    simp only[]
    cases hv:v.one with
    |false=>rfl
    |true=>
     have:v.cells=[v]:=by cases v<;>first|rfl|(simp[AV.one]at hv)
     simp only[this,nk,jT,bE]
     rfl
   ·rename_i n' hn CN
    cases CN
    simp only[bS hl,dF]
    congr 1
   ·rename_i hn;cases hn
 case nilCheck x=>
  simp only[pF,bS hl]
  rw[mn rfl]
  simp only[km]
  congr 1;funext v
  cases v<;>rfl
 case binOp op t x y u=>
  simp only[pF,bS hl]
  rw[mn rfl]
  simp only[km]
  congr 1;funext a;congr 1;funext b
  refine OM ?_
  rintro kd m n rfl rfl
  exact SR (fun v=>k v st) kd m n
 case unOp op t x=>
  simp only[pF]
  rw[mn rfl]
  simp only[km]
  cases op<;>simp only[unF,bS hl]
  all_goals congr 1
  funext a
  cases a<;>first|rfl|skip
  rename_i b;cases b<;>rfl
 case convert s t x=>
  simp only[pF,UJ]
  rw[mn rfl]
  simp only[km]
  split
  ·rename_i d1 kd h1 h2
   simp only[bS hl]
   congr 1;funext a
   refine ON ?_
   rintro k' m rfl
   cases hb:Nat.ble (Nat.succ m) (half kd)with
   |false=>rfl
   |true=>
    simp only[vp,h1,h2,nk]
    have e:jN kd (Int.ofNat m)=.ofNat m:=by
     show(match Nat.blt m (half kd)with|true=>Int.ofNat m|false=>kd.wrap (.ofNat m))=_
     rw[show Nat.blt m (half kd)=true from hb]
    rw[e,iR]
  ·simp only[bS hl]
 case makeInterface t x=>
  simp only[pF,uI]
  rw[mn rfl]
  simp only[km]
  cases P.underlying t with
  |none=>simp only[bS hl]
  |some d=>cases d<;>simp only[bS hl]
 case makeFunc f a b=>
  cases f<;>first|rfl|skip
  simp only[pF,Im hl];rfl
 case fieldAddr t x f=>
  simp only[pF,vl]
  rw[mn rfl]
  simp only[km]
  cases Dc P t f with
  |none=>simp only[bS hl,dF];congr 1
  |some f=>
   simp only[]
   split
   ·rename_i n hn
    split
    ·rename_i ho
     simp only[bS hl,dF]
     congr 1;funext v
     cases v<;>first|rfl|skip
     simp only[hn,ho,bE,Nat.add_zero]
    ·rename_i ho
     simp only[bS hl,dF]
     congr 1;funext v
     cases v<;>first|rfl|skip
     simp only[hn]
     rfl
   ·rename_i hn
    simp only[bS hl,dF]
    congr 1
 case field t x f=>
  simp only[pF,OK]
  rw[mn rfl]
  simp only[km]
  cases Dc P t f with
  |none=>simp only[bS hl,rM];congr 1
  |some f=>
   simp only[]
   split
   ·rename_i ha
    simp only[bS hl,rM]
    congr 1;funext v
    cases v<;>first|rfl|skip
    simp only[Hc,qh,ha]
    rename_i l
    cases l[f.offset]? with
    |none=>rfl
    |some v=>rfl
   ·simp only[bS hl,rM];congr 1
 case indexAddr t x i=>
  simp only[pF,uO]
  split
  ·rename_i el hu
   split
   ·rename_i sz' cC
    simp only[bS hl,JI,Co,MW]
    rw[mn rfl]
    simp only[km]
    congr 1;funext v;congr 1;funext j
    cases j<;>first|rfl|skip
    rename_i kj j
    cases v<;>simp only[hu]<;>first|rfl|skip
    simp only[cC]
    rename_i l _ _ _
    cases Ct j l with
    |none=>rfl
    |some j=>simp only[];rename_i sz;cases Nat.beq sz sz'<;>rfl
   ·rfl
  ·rfl
 case lookup t x i ok=>simp only[pF,bS hl];rfl
 case mapUpdate t m key x=>simp only[pF,bS hl];rfl
 case extract x i=>
  simp only[pF,bS hl,JH,Hc]
  rfl
 case call c=>
  obtain⟨cl,args,oS⟩:=c
  cases cl with
  |value f=>simp only[pF,bS hl,Im hl,KH];rfl
  |invoke r m=>rfl
  |builtin b=>
   cases b<;>first|rfl|skip
   case len=>
    simp only[pF,Zj]
    rw[mn rfl]
    simp only[km]
    split
    ·rename_i x t h1 h2
     simp only[h1,h2]
     split
     ·rename_i el hu
      simp only[bS hl]
      congr 1;funext v
      cases v<;>simp only[Jy,hu,bE]<;>rfl
     ·simp only[bS hl]
      congr 1
    ·rename_i hn
     split
     ·rename_i x t h1 h2;exact absurd h2 (hn _ _ h1)
     ·rfl
   case append=>
    simp only[pF]
    split
    ·rename_i s x hx
     simp only[bS hl]
     rw[TE rfl]
     simp only[wT,hx,mf]
    ·rfl
end Go.Il
namespace Go.Il
variable [Sym]
structure ae7 where
 run:Env→Bool→Bool→Bool
noncomputable def Bq (ops:Array Oper) (o:Oper):ae7:=
 match o.guard with
 |none=>⟨fun _ t _=>t⟩
 |some (g,want)=>match(ops[g]?).bind (·.dst)with
  |some t=>match want with
   |true=>⟨fun e kt kf=>(mT t).run e fun v=>OL v kf fun b=>rl b kt kf⟩
   |false=>⟨fun e kt kf=>(mT t).run e fun v=>OL v kf fun b=>rl b kf kt⟩
  |none=>⟨fun _ _ f=>f⟩
theorem tM (ops:Array Oper) (o:Oper) (e:Env) (kt kf:Bool):(Bq ops o).run e kt kf=match ff ops o e with|some true=>kt|some false=>kf|none=>false:=by
 obtain⟨dst,op,type,pos,after,guard⟩:=o
 cases guard with
 |none=>rfl
 |some gw=>
  obtain⟨g,want⟩:=gw
  simp only[Bq,ff]
  cases(ops[g]?).bind (·.dst)with
  |none=>rfl
  |some t=>
   cases want<;>simp only[kH]
   all_goals cases Tr.get e t with
    |none=>rfl
    |some v=>
     cases v<;>first|rfl|skip
     rename_i b;cases b<;>rfl
structure aq8 where
 run:Env→AV→(Env→Bool)→Bool
noncomputable def xR (n:Nat) (dst:Option Tmp):aq8:=
 match dst with
 |some d=>match Nat.blt d n with
  |true=>⟨fun e v k=>(Vs d).run e v k⟩
  |false=>⟨fun _ _ _=>false⟩
 |none=>⟨fun e _ k=>k e⟩
theorem BS (n:Nat) (dst:Option Tmp) (e:Env) (v:AV) (k:Env→Bool):(xR n dst).run e v k=jU n e dst v k:=by
 unfold xR jU
 cases dst with
 |none=>rfl
 |some d=>simp only[];cases Nat.blt d n<;>rfl
structure XK where
 run:dh→Env→AV→St→(Env→St→Bool)→Bool
noncomputable def EJ (P:Program) (n:Nat) (ops:Array Oper):Option Tmp→List Oper→XK
 |_,[]=>⟨fun _ e _ st k=>k e st⟩
 |last,o::os=>match o.guard,o.dst with
  |none,none=>⟨fun rec e u st k=>(pF P last o).run rec e u st fun v st=>(EJ P n ops last os).run rec e u st k⟩
  |none,some d=>match Nat.blt d n with
   |true=>⟨fun rec e u st k=>(pF P last o).run rec e u st fun v st=>(Vs d).run e v fun e=>(EJ P n ops (some d) os).run rec e v st k⟩
   |false=>⟨fun rec e u st k=>(pF P last o).run rec e u st fun v st=>false⟩
  |_,_=>⟨fun rec e u st k=>(Bq ops o).run e ((pF P last o).run rec e u st fun v st=>(xR n o.dst).run e v fun e=>(EJ P n ops none os).run rec e u st k)
   ((xR n o.dst).run e bX fun e=>(EJ P n ops none os).run rec e u st k)⟩
noncomputable def opsL (P:Program) (rec:dh) (c:Ctx) (ops:Array Oper):List Oper→Env→St→(Env→St→Bool)→Bool
 |[],e,st,k=>k e st
 |o::os,e,st,k=>match ff ops o e with
  |some true=>wS P rec e o st fun v st=>jU c.n e o.dst v fun e=>opsL P rec c ops os e st k
  |some false=>jU c.n e o.dst bX fun e=>opsL P rec c ops os e st k
  |none=>false
theorem Rr (P:Program) (rec:dh) (c:Ctx) (ops:Array Oper):∀(os:List Oper) (i:Nat) (e:Env) (st:St) (k:Env→St→Bool),(∀j,os[j]?=ops[i+j]?)→opsL P rec c ops os e st k=zB P rec c ops (List.range' i os.length) e st k:=by
 intro os
 induction os with
 |nil=>intro i e st k _;rfl
 |cons o os ih=>
  intro i e st k h
  have h0:ops[i]?=some o:=by have:=h 0;simpa using this.symm
  have h1:∀j,os[j]?=ops[i+1+j]?:=fun j=>by
   have:=h (j+1)
   rw[List.getElem?_cons_succ]at this
   rw[this];congr 1;omega
  simp only[List.length_cons,List.range'_succ,opsL,zB,h0]
  simp only[ih (i+1) _ _ _ h1]
  cases ff ops o e with
  |none=>rfl
  |some b=>cases b<;>rfl
theorem MF (P:Program) (rec:dh) (c:Ctx) (ops:Array Oper) (e:Env) (st:St) (k:Env→St→Bool):opsL P rec c ops ops.toList e st k=zB P rec c ops (List.range ops.size) e st k:=by
 rw[Rr P rec c ops ops.toList 0 e st k (fun j=>by simp),List.range_eq_range',Array.length_toList]
theorem Rk (P:Program) (c:Ctx) (ops:Array Oper) (rec:dh) (os:List Oper):∀(last:Option Tmp) (e:Env) (u:AV) (st:St) (k:Env→St→Bool),pE last e u→(EJ P c.n ops last os).run rec e u st k=opsL P rec c ops os e st k:=by
 induction os with
 |nil=>intros;rfl
 |cons o os ih=>
  intro last e u st k hl
  have qC:∀(e:Env) (u:AV),pE none e u:=fun _ _ _ h=>by cases h
  unfold EJ opsL
  split
  ·rename_i h1 h2
   simp only[rH hl,ff,h1,h2,jU,ih _ _ _ _ _ hl]
  ·rename_i d h1 h2
   simp only[ff,h1,h2,jU]
   cases Nat.blt d c.n with
   |false=>simp only[rH hl]
   |true=>
    simp only[rH hl,Q9,Tr.eG]
    congr 1;funext v st
    exact ih _ _ _ _ _ (fun t ht=>by cases ht;exact Tr.bH _ _ _)
  ·simp only[tM,rH hl,BS,ih _ _ _ _ _ (qC _ _)]
theorem zI (e:Env) (u:AV):pE none e u:=fun _ h=>by cases h
structure as7 where
 run:St→Env→Bool
noncomputable def KD (P:Program) (ops:Array Oper):List Nat→as7
 |[]=>⟨fun _ _=>true⟩
 |i::is=>match ops[i]? with
  |none=>KD P ops is
  |some o=>match bx o with
   |0=>⟨fun st e=>rl ((Bq ops o).run e ((pF P none o).run (fun _ _ _ _ _ _=>false) e bX st fun v _=>match o.dst with
    |some d=>(mT d).run e fun u=>AV.beq v u
    |none=>true) true) ((KD P ops is).run st e) false⟩
   |_=>KD P ops is
theorem Ho (a b:Bool):rl a b false=(a&&b):=by cases a<;>rfl
theorem SM (P:Program) (ops:Array Oper) (st:St) (e:Env) (is:List Nat):(KD P ops is).run st e=recheck P ops st e is:=by
 induction is with
 |nil=>rfl
 |cons i is ih=>
  unfold KD recheck
  cases ops[i]? with
  |none=>exact ih
  |some o=>
   simp only[]
   split
   ·rename_i h
    simp only[Ho,ih,tM,rH (zI e bX),mn h]
    congr 1
    rw[h]
    cases ff ops o e with
    |none=>rfl
    |some b=>
     cases b with
     |false=>rfl
     |true=>
      show km P st e o false _=km P st e o false _
      congr 1;funext v
      cases o.dst with
      |none=>rfl
      |some d=>simp only[kH];cases Tr.get e d<;>rfl
   ·rename_i h
    rw[ih]
    split
    ·rename_i h0 _;exact absurd h0 h
    ·rename_i h0 _;exact absurd h0 h
    ·rfl
noncomputable def Tw (ops:Array Oper) (i:Nat) (o:Oper) (done:List Nat):List Nat:=
 match bx o with
 |0=>[]
 |1=>done
 |_=>Kl (fun j=>Bool.not (KJ (Pz ops ops.size i) j)) done
noncomputable def vo (P:Program) (n:Nat) (ops:Array Oper):List Nat→List Nat→XK
 |[],_=>⟨fun _ e _ st k=>k e st⟩
 |i::is,done=>match ops[i]? with
  |none=>⟨fun _ _ _ _ _=>false⟩
  |some o=>⟨fun rec e u st k=>(Bq ops o).run e ((pF P none o).run rec e u st fun v st=>(xR n o.dst).run e v fun e=>rl ((KD P ops (Tw ops i o done)).run st e) ((vo P n ops is (i::done)).run rec e u st k) false)
   ((xR n o.dst).run e bX fun e=>(vo P n ops is (i::done)).run rec e u st k)⟩
theorem Kw (P:Program) (c:Ctx) (ops:Array Oper) (rec:dh) (is done:List Nat) (e:Env) (u:AV) (st:St) (k:Env→St→Bool):(vo P c.n ops is done).run rec e u st k=nE P rec c ops is done e st k:=by
 induction is generalizing done e st with
 |nil=>rfl
 |cons i is ih=>
  unfold vo nE
  cases ops[i]? with
  |none=>rfl
  |some o=>
   simp only[tM,rH (zI _ _),BS,ih,Ho,SM]
   cases ff ops o e with
   |none=>rfl
   |some b=>
    cases b with
    |false=>rfl
    |true=>
     simp only[]
     congr 1;funext v st;congr 1;funext e;congr 1
     unfold Tw
     generalize bx o=q
     match q with
     |0|1=>rfl
     |q+2=>simp only[Ik,AQ]
noncomputable def Pb (P:Program) (n:Nat) (ops:Array Oper):XK:=
 match EI ops with
 |true=>vo P n ops (oY ops ops.size []) []
 |false=>⟨fun _ _ _ _ _=>false⟩
theorem Pa (P:Program) (c:Ctx) (ops:Array Oper) (rec:dh) (e:Env) (u:AV) (st:St) (k:Env→St→Bool):(Pb P c.n ops).run rec e u st k=Di P rec c ops e st k:=by
 unfold Pb Di
 rw[I5,xE]
 cases mm ops with
 |false=>rfl
 |true=>exact Kw _ _ _ _ _ _ _ _ _ _
noncomputable def Jp (kn:Env→List Nat→St→Bool) (k:KX):KX:=fun x e ds st=>AX.rec (motive:=fun _=>Bool) (kn e ds st) (fun j=>k (.exit j) e ds st) (k .ret e ds st) x
theorem Jo (k:KX):Jp (fun e ds st=>k .norm e ds st) k=k:=by
 funext x e ds st;cases x<;>rfl
structure ah4 where
 run:dh→Ctx→Env→List Nat→St→(Env→List Nat→St→Bool)→KX→Bool
noncomputable def rounds (body:Env→List Nat→St→(Env→List Nat→St→Bool)→Bool) (fuel:Nat):Env→List Nat→St→Bool:=
 Nat.rec (motive:=fun _=>Env→List Nat→St→Bool) (fun _ _ _=>false) (fun _ ih e ds st=>body e ds st ih) fuel
def xJ:Nat:=16777216
noncomputable def codeF (P:Program) (n:Nat):Code→ah4
 | .skip=>⟨fun _ _ e ds st kn _=>kn e ds st⟩
 | .label _=>⟨fun _ _ e ds st kn _=>kn e ds st⟩
 | .region _ ops false=>⟨fun rec c e ds st kn _=>(EJ P n ops none ops.toList).run rec e bX st fun e st=>kn e ds st⟩
 | .region _ ops true=>⟨fun rec c e ds st kn _=>(Pb P n ops).run rec e bX st fun e st=>kn e ds st⟩
 | .seq a b=>⟨fun rec c e ds st kn k=>(codeF P n a).run rec c e ds st (fun e ds st=>(codeF P n b).run rec c e ds st kn k) k⟩
 | .cond o a b=>⟨fun rec c e ds st kn k=>(iC none o).run e bX fun v=>zX v fun v=>Bool.rec (motive:=fun _=>Bool) ((codeF P n b).run rec c e ds st kn k) ((codeF P n a).run rec c e ds st kn k) v⟩
 | .block id b=>⟨fun rec c e ds st kn k=>(codeF P n b).run rec c e ds st kn fun x e ds st=>AX.rec (motive:=fun _=>Bool) false (fun j=>rl (Nat.beq j id) (kn e ds st) (k (.exit j) e ds st)) (k .ret e ds st) x⟩
 | .loop b=>⟨fun rec c e ds st kn k=>rounds (fun e ds st ih=>(codeF P n b).run rec c e ds st ih k) xJ e ds st⟩
 | .scope b=>codeF P n b
 | .exit id=>⟨fun _ _ e ds st _ k=>k (.exit id) e ds st⟩
 | .ret=>⟨fun _ _ e ds st _ k=>k .ret e ds st⟩
 | .rangeFunc f params assign body=>⟨fun rec c e ds st kn k=>tj P rec c f params assign body e ds st (Jp kn k)⟩
 |_=>⟨fun _ _ _ _ _ _ _=>false⟩
noncomputable def OO (P:Program) (fuel:Nat):dh:=
 Nat.rec (motive:=fun _=>dh) (fun _ _ _ _ _ _=>false) (fun _ rec c x e ds st k=>Ctx.rec (motive:=fun _=>Bool) (fun fn n rd=>(codeF P n x).run rec ⟨fn,n,rd⟩ e ds st (fun e ds st=>k .norm e ds st) k) c) fuel
noncomputable def Ra (P:Program) (fuel:Nat) (f:FuncId) (args:List AV) (ok:AV→Bool):Bool:=(Kd P f).run (OO P fuel) args ⟨.lf,0⟩ fun v _=>ok v
section
variable {B : Nat → Prop} {P : Program}
def PE (B:Nat→Prop) (P:Program) (c:Ctx) (x:Code) (e:Env) (ds:List Nat) (st:St) (k:KX):Prop:=
 ∀(ρ:bL) (w:World) (b:Frame) (a:Act) (kk:List Item) (cs:List Frame),aV B ρ st w→kD ρ c e ds b a→S6 B P c b ρ st w (lone (b.atR a (.code x::kk)) cs w) kk cs k
variable {c:Ctx} {x:Code} {e:Env} {ds:List Nat}
theorem PE.mono {st:St} {k k':KX} (h:PE B P c x e ds st k) (hk:∀x e ds st,k x e ds st=true→k' x e ds st=true):PE B P c x e ds st k':=by
 intro ρ w b a kk cs hs hf
 obtain⟨x,e',Ip,bt,ρ',a',w',h1,h2⟩:=h ρ w b a kk cs hs hf
 exact⟨x,e',Ip,bt,ρ',a',w',hk _ _ _ _ h1,h2⟩
noncomputable def XE (B:Nat→Prop) (P:Program):dh:=fun c x e ds st k=> @decide (PE B P c x e ds st k) (Classical.propDecidable _)
theorem SS:iP B P (XE B P):=fun c x e ds st k h=>by
 have:= @of_decide_eq_true _ (Classical.propDecidable _) h
 exact this
theorem j6 {st:St} {k:KX} (h:PE B P c x e ds st k):XE B P c x e ds st k=true:= @decide_eq_true _ (Classical.propDecidable _) h
theorem lI (eQ:sr B P) {st:St} {k:KX} (h:Dm P (XE B P) c x e ds st k=true):PE B P c x e ds st k:=ju eQ SS c x e ds st k h
theorem Ph (eQ:sr B P) {rec:dh} (dG:iP B P rec):∀(x:Code) (e:Env) (ds:List Nat) (st:St) (kn:Env→List Nat→St→Bool) (k:KX),(codeF P c.n x).run rec c e ds st kn k=true→PE B P c x e ds st (Jp kn k):=by
 intro x
 induction x with
 |skip=>intro e ds st kn k h;exact lI eQ h
 |label l=>intro e ds st kn k h;exact lI eQ h
 |region id ops draw=>
  intro e ds st kn k h
  cases draw with
  |false=>
   simp only[codeF,Rk _ _ _ _ _ _ _ _ _ _ (zI _ _),MF]at h
   exact ju eQ dG c _ e ds st _ h
  |true=>
   simp only[codeF,Pa]at h
   exact ju eQ dG c _ e ds st _ h
 |seq x y ihx ihy=>
  intro e ds st kn k h
  refine lI eQ (j6 (PE.mono (ihx e ds st _ _ h) ?_))
  intro z e ds st hz
  cases z with
  |norm=>exact j6 (ihy e ds st kn k hz)
  |exit j=>exact hz
  |ret=>exact hz
 |cond o x y ihx ihy=>
  intro e ds st kn k h
  refine lI eQ ?_
  simp only[codeF,bS (zI _ _),bp,uN]at h
  simp only[Dm,bp]
  cases hv:ev e o with
  |none=>rw[hv]at h;cases h
  |some v=>
   rw[hv]at h
   cases v<;>first|(cases h;done)|skip
   rename_i b
   cases b with
   |true=>exact j6 (ihx e ds st kn k h)
   |false=>exact j6 (ihy e ds st kn k h)
 |block id x ih=>
  intro e ds st kn k h
  refine lI eQ (j6 (PE.mono (ih e ds st _ _ h) ?_))
  intro z e ds st hz
  cases z with
  |norm=>exact hz
  |exit j=>
   have hz:rl (Nat.beq j id) (kn e ds st) (k (.exit j) e ds st)=true:=hz
   show(match Nat.beq j id with|true=>Jp kn k .norm e ds st|false=>Jp kn k (.exit j) e ds st)=true
   cases hb:Nat.beq j id with
   |true=>rw[hb]at hz;exact hz
   |false=>rw[hb]at hz;exact hz
  |ret=>exact hz
 |loop x ih=>
  intro e ds st kn k h
  have key:∀(f:Nat) (e:Env) (ds:List Nat) (st:St),rounds (fun e ds st ih=>(codeF P c.n x).run rec c e ds st ih k) f e ds st=true→PE B P c (.loop x) e ds st (Jp kn k):=by
   intro f
   induction f with
   |zero=>intro e ds st h;cases h
   |succ f ihf=>
    intro e ds st h
    refine lI eQ (j6 (PE.mono (ih e ds st _ _ h) ?_))
    intro z e ds st hz
    cases z with
    |norm=>exact j6 (ihf e ds st hz)
    |exit j=>exact hz
    |ret=>exact hz
  exact key xJ e ds st h
 |rangeFunc f params assign body iha ihb=>
  intro e ds st kn k h
  exact ju eQ dG c _ e ds st _ h
 |exit id=>intro e ds st kn k h;exact lI eQ h
 |ret=>intro e ds st kn k h;exact lI eQ h
 |scope x ih=>
  intro e ds st kn k h
  exact lI eQ (j6 (ih e ds st kn k h))
 |_=>intro e ds st kn k h;cases h
theorem vm (eQ:sr B P):∀n,iP B P (OO P n)
 |0=>fun _ _ _ _ _ _ h=>by cases h
 |n+1=>fun c x e ds st k h=>by
  obtain⟨fn,m,rd⟩:=c
  have:=Ph eQ (vm eQ n) (c:=⟨fn,m,rd⟩) x e ds st _ k h
  rw[Jo]at this
  exact this
end
variable {f:FuncId} {args':Array Value}
theorem EE {P:Program} (hm:P.follows .mixedOrders=true) {fuel:Nat} {args:List AV} (ha:∀ρ:bL,aP ρ args args'.toList) {ok:AV→Bool} (h:Ra P fuel f args ok=true) (w:World):
 Calls P f args' w (fun e w'=>∃v v' ρ,e=.returned v'∧ok v=true∧aL ρ v v'∧RowKit.Grown w w'):=by
 intro cs
 unfold Ra at h
 rw[Al]at h
 have hs:aV (fun b=>b<w.heap.size) (fun _ _=>none) ⟨.lf,0⟩ w:=⟨fun _ _ _ h=>by(cases h),fun _ _ _ _ _ _ h=>by(cases h),fun _ h=>h⟩
 obtain⟨_,v,bt,ρ',v',w',fr,h1,h2,h3,h4,h5,h6,h7⟩:=fq (vm (As hm) fuel) hs (ha _) h cs
 exact⟨.returned v',w',fr,⟨v,v',ρ',rfl,h1,h3,Grown.MN h4⟩,h5,h6,h7⟩
theorem IV {P:Program} (hm:P.follows .mixedOrders=true) {fuel:Nat} (h:Ra P fuel f [] isTrue=true) (w:World):
 Calls P f #[] w (fun e w'=>e=.returned (.bool true)∧RowKit.Grown w w'):=by
 refine Calls.mono (EE hm (args':= #[]) (fun _=> .nil) h w) ?_
 rintro e w' ⟨v,v',ρ,rfl,h1,h2,h3⟩
 cases h2<;>first|(simp[isTrue]at h1;done)|skip
 rename_i b
 cases b
 ·simp[isTrue]at h1
 ·exact⟨rfl,h3⟩
noncomputable def gn (P:Program) (fuel:Nat) (f:FuncId) (st:St) (args:List AV) (ok:AV→St→Bool):Bool:=(Kd P f).run (OO P fuel) args st ok
variable {ρ ρ':bL}
theorem sx {P:Program} (hm:P.follows .mixedOrders=true) {fuel:Nat} {B:Nat→Prop} {st:St} {w:World} {args:List AV} (hs:aV B ρ st w) (ha:aP ρ args args'.toList) {ok:AV→St→Bool} (h:gn P fuel f st args ok=true):
 Calls P f args' w (fun e w'=>∃v bt ρ' v',e=.returned v'∧ok v bt=true∧aL ρ' v v'∧aV B ρ' bt w'∧gX B ρ st w ρ' bt w'):=by
 intro cs
 unfold gn at h
 rw[Al]at h
 obtain⟨_,v,bt,ρ',v',w',fr,h1,h2,h3,h4,h5,h6,h7⟩:=fq (vm (As hm) fuel) hs ha h cs
 exact⟨.returned v',w',fr,⟨v,bt,ρ',v',rfl,h1,h3,h2,h4⟩,h5,h6,h7⟩
end Go.Il
namespace Go.Il
variable [Sym]
noncomputable def xI:List AV→Nat→Tr db→Tr db
 |[],_,c=>c
 |v::vs,i,c=>xI vs (i+1) (c.set i ⟨v,0⟩)
theorem xH:∀(vs:List AV) (i:Nat) (c:Tr db) (j:Nat),(xI vs i c).get j=if j<i then c.get j else match vs[j-i]? with|some v=>some ⟨v,0⟩|none=>c.get j
 |[],i,c,j=>by simp[xI]
 |v::vs,i,c,j=>by
  rw[xI,xH vs (i+1) _ j]
  by_cases h:j<i
  ·rw[if_pos (by omega),if_pos h,Tr.bI _ _ (by omega)]
  ·rw[if_neg h]
   by_cases h2:j=i
   ·subst h2
    rw[if_pos (by omega),Tr.bH]
    simp
   ·rw[if_neg (by omega),Tr.bI _ _ (by omega)]
    have:j-i=(j-(i+1))+1:=by omega
    rw[this,List.getElem?_cons_succ]
noncomputable def GU (elem:TypeId) (vs:List AV):Rec:=.cells elem (xI vs 0 .lf) vs.length 0 false
theorem BD (vs:List AV) (j:Nat):(xI vs 0 .lf).get j=(vs[j]?).map fun v=>(⟨v,0⟩:db):=by
 rw[xH,if_neg (by omega)]
 simp only[Nat.sub_zero]
 cases vs[j]? with
 |none=>exact Tr.ny j
 |some v=>rfl
variable {ρ ρ':bL} {vs:List AV} {blk:Nat}
theorem rF {elem:TypeId} {cs:Array Value} {o:Option Obj} (ho:o=some (.cells cs elem (0,0))) (h:aP ρ vs cs.toList):gg ρ 0 ⟨blk,0,cs.size⟩ (GU elem vs) o:=by
 have hl:cs.size=vs.length:=by rw[←h.length];simp
 refine⟨cs,0,0,ho,fun _=>⟨rfl,rfl⟩,fun i h1 h2=>by omega,rfl,⟨Nat.le_refl _,fun i x hx=>?_⟩,fun i v tag h1 h2 h3 h4=>?_,fun _ i h1 h2=>by show i-0<cs.size;omega⟩
 ·rw[BD]at hx
  obtain⟨v,_,rfl⟩:=Option.map_eq_some_iff.1 hx
  exact Nat.le_refl _
 ·rw[BD]at h2
  obtain⟨u,hu,e⟩:=Option.map_eq_some_iff.1 h2
  cases e
  obtain⟨v',g1,g2⟩:=h.get hu
  exact⟨v',by rw[show i-(0:Nat)=i from rfl];simpa using g1,g2⟩
def AJ:AV→AV→Bool
 | .int k n,.int k' n'=>decide (k=k')&&decide (n=n')
 | .bool b,.bool b'=>b==b'
 | .sym k i,.sym k' i'=>decide (k=k')&&decide (i=i')
 | .ec,.ec=>true
 | .slice a b c d e true f,.slice a' b' c' d' e' true f'=>decide (a=a')&&decide (b=b')&&decide (c=c')&&decide (d=d')&&decide (e=e')&&decide (f=f')&&decide (0<e)
 |_,_=>false
theorem Gi (hle:ρ.le ρ') {v v':AV} (h:AJ v v'=true) {x x':Value} (hx:aL ρ v x) (Bg:aL ρ' v' x'):x=x':=by
 unfold AJ at h
 split at h
 ·simp at h;obtain⟨rfl,rfl⟩:=h;cases hx;cases Bg;rfl
 ·simp at h;subst h;cases hx;cases Bg;rfl
 ·simp at h;obtain⟨rfl,rfl⟩:=h;cases hx;cases Bg;rfl
 ·cases hx;cases Bg;rfl
 ·simp at h
  obtain⟨⟨⟨⟨⟨⟨rfl,rfl⟩,rfl⟩,rfl⟩,rfl⟩,rfl⟩,h0⟩:=h
  cases hx with
  |slice _ _ _ _ _ _ _ cap1 o1 p1 DU _ _ N7 _ CK _=>
   cases Bg with
   |slice _ _ _ _ _ _ _ cap2 o2 p2 hp2 _ _ Lf _ Ab _=>
    have:=hle _ _ _ DU
    rw[hp2]at this;cases this
    have e1:=N7 rfl
    have e2:=Lf rfl
    subst e1 e2
    rw[CK h0,Ab h0]
 ·cases h
noncomputable def qP (c:Tr db):List AV→Nat→Bool
 |[],_=>true
 |v::vs,i=>match c.get i with
  |some ⟨v',tag⟩=>AJ v v'&&Nat.beq tag 0&&qP c vs (i+1)
  |none=>false
noncomputable def qT (st:St) (id:Nat) (elem:TypeId) (vs:List AV):Bool:=
 match st.heap.get id with
 |some (.cells elem' c top _ sh)=>Nat.beq elem elem'&&Nat.ble vs.length top&& !sh&&qP c vs 0
 |_=>false
theorem qO {c:Tr db}:∀{vs:List AV} {i:Nat},qP c vs i=true→∀j v,vs[j]?=some v→∃v',c.get (i+j)=some ⟨v',0⟩∧AJ v v'=true
 |[],i,_,j,v,hv=>by simp at hv
 |u::vs,i,h,j,v,hv=>by
  unfold qP at h
  split at h
  ·rename_i v' tag hg
   simp only[Bool.and_eq_true]at h
   obtain⟨⟨h1,h2⟩,h3⟩:=h
   have:tag=0:=Nat.eq_of_beq_eq_true h2
   subst this
   cases j with
   |zero=>simp at hv;subst hv;exact⟨v',hg,h1⟩
   |succ j=>
    obtain⟨v'',a,b⟩:=qO h3 j v (by simpa using hv)
    exact⟨v'',by rw[show i+(j+1)=i+1+j by omega];exact a,b⟩
  ·cases h
theorem mj {B:Nat→Prop} (hle:ρ.le ρ') {st:St} {w':World} (hs:aV B ρ' st w') {id:Nat} {elem:TypeId} {cs:Array Value} (h:qT st id elem vs=true) (hp:ρ id 0=some ⟨blk,0,cs.size⟩) (hv:aP ρ vs cs.toList):w'.heap[blk]?=some (.cells cs elem (0,0)):=by
 obtain⟨_,_,_,r,hr,hrel⟩:=hs.mapped _ _ _ (hle _ _ _ hp)
 unfold qT at h
 rw[hr]at h
 split at h
 ·rename_i elem' c top lat sh heq
  cases heq
  simp only[Bool.and_eq_true,Bool.not_eq_true']at h
  obtain⟨⟨⟨h1,h2⟩,h3⟩,h4⟩:=h
  have e:=Nat.eq_of_beq_eq_true h1
  subst e
  have h2:=Nat.le_of_ble_eq_true h2
  obtain⟨jH,lo,hi,g1,g2,g3,g4,g5,g6,g7⟩:=hrel
  obtain⟨rfl,rfl⟩:=g2 h3
  have hl:cs.size=vs.length:=by rw[←hv.length];simp
  have:jH=cs:=by
   apply Array.ext
   ·exact g4
   ·intro j h1 JA
    obtain⟨v,hvj⟩:∃v,vs[j]?=some v:=⟨_,List.getElem?_eq_getElem (by omega)⟩
    obtain⟨v',q1,q2⟩:=qO h4 j v hvj
    rw[Nat.zero_add]at q1
    obtain⟨x',y1,y2⟩:=g6 j v' 0 (by omega) q1 (Nat.zero_le _) (Nat.zero_le _)
    obtain⟨x,z1,z2⟩:=hv.get hvj
    have:=Gi hle q2 z2 y2
    rw[show j-(0:Nat)=j from rfl,Array.getElem?_eq_getElem h1]at y1
    rw[Array.getElem?_toList,Array.getElem?_eq_getElem JA]at z1
    cases y1;cases z1
    exact this.symm
  rw[this]at g1
  exact g1
 ·cases h
end Go.Il
