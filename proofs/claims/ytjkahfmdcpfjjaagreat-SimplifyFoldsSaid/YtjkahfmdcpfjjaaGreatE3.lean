/- A verified interpreter for calls on fixed data, part 3 of 5. -/
import Derived.Test.YtjkahfmdcpfjjaaGreatE2
set_option linter.unusedVariables false
set_option linter.unusedSectionVars false
namespace Go.Il
variable [Sym]
noncomputable def Q8 {α β:Type}:List α→(List α→β)→β
 |[],k=>k []
 |a::l,k=>Q8 l fun l=>k (a::l)
variable {α:Type}
theorem rC {β:Type} (l:List α) (k:List α→β):Q8 l k=k l:=by
 induction l generalizing k with
 |nil=>rfl
 |cons a l ih=>simp only[Q8,ih]
noncomputable def ki (st:St) (id:Nat) (r:Rec) (k:St→Bool):Bool:=st.heap.mU id r fun h=>k ⟨h,st.next⟩
theorem eH (st:St) (id:Nat) (r:Rec) (k:St→Bool):ki st id r k=k ⟨st.heap.set id r,st.next⟩:=by unfold ki;rw[Tr.eG]
noncomputable def zL (st:St) (r:Rec) (k:Nat→St→Bool):Bool:=st.heap.mU st.next r fun h=>dI (st.next+1) fun n=>k st.next ⟨h,n⟩
theorem lU (st:St) (r:Rec) (k:Nat→St→Bool):zL st r k=k st.next ⟨st.heap.set st.next r,st.next+1⟩:=by unfold zL;rw[Tr.eG,bE]
def sameKey (es:List ee) (i:Nat) (key:AV):Bool:=
 match es[i]? with
 |some e=>AV.beq e.key key&&Yi 8 key
 |none=>false
noncomputable def qo (P:Program) (st:St) (t:TypeId) (m key x:AV) (k:AV→St→Bool):Bool:=
 match P.underlying t,m with
 |some (.map kt _),.map id=>match st.heap.get id with
  |some (.map es clock)=>match It P 8 kt key with
   |true=>match nC P st kt key es 0 with
    |some (some (i,_))=>match sameKey es i key with
     |true=>Q8 (eL es i key x) fun es=>ki st id (.map es clock) fun st=>k bX st
     |false=>false
    |some none=>Q8 (es++[⟨key,x,clock⟩]) fun es=>dI (clock+1) fun c=>ki st id (.map es c) fun st=>k bX st
    |none=>false
   |false=>false
  |_=>false
 |_,_=>false
noncomputable def zQ (P:Program) (st:St) (t:TypeId) (m key:AV) (k:AV→St→Bool):Bool:=
 match P.underlying t,m with
 |some (.map kt et),.map id=>match st.heap.get id with
  |some (.map es clock)=>match It P 8 kt key with
   |true=>match nC P st kt key es 0 with
    |some (some (i,v))=>match sameKey es i key,es[i]? with
     |true,some e=>k (.n8 [v,.int .i64 (.ofNat e.born)]) st
     |_,_=>false
    |some none=>match jM P et with
     |some z=>Q8 (es++[⟨key,z,clock⟩]) fun es=>dI (clock+1) fun c=>ki st id (.map es c) fun st=>k (.n8 [z,.int .i64 (.ofNat clock)]) st
     |none=>false
    |none=>false
   |false=>false
  |_=>false
 |_,_=>false
def qS (b:Nat):List ee→Nat→Option Nat
 |[],_=>none
 |e::es,i=>match Nat.beq e.born b with|true=>some i|false=>qS b es (i+1)
noncomputable def Aq (st:St) (m s x:AV) (k:AV→St→Bool):Bool:=
 match m,s with
 | .map id,.int _ (.ofNat b)=>match st.heap.get id with
  |some (.map es clock)=>match qS b es 0 with
   |some i=>match es[i]? with
    |some e=>Q8 (eL es i e.key x) fun es=>ki st id (.map es clock) fun st=>k bX st
    |none=>false
   |none=>false
  |_=>false
 |_,_=>false
noncomputable def EL (P:Program) (st:St) (t:TypeId) (x:AV) (k:AV→St→Bool):Bool:=
 match P.underlying t,x with
 |some (.map _ _),.mZ=>zL st (.iJ none 0 [] 0) fun id st=>k (.ptr id 0 0) st
 |some (.map _ _),.map m=>match st.heap.get m with
  |some (.map _ clock)=>zL st (.iJ (some m) clock [] clock) fun id st=>k (.ptr id 0 0) st
  |_=>false
 |_,_=>false
noncomputable def FU (st:St) (x:AV) (k:AV→St→Bool):Bool:=
 match x with
 | .ptr id 0 0=>match st.heap.get id with
  |some (.iJ (some m) _ seen stepped)=>match st.heap.get m,seen.getLast? with
   |some (.map es clock),some stamp=>match Nat.beq clock stepped with
    |true=>match es.find? (fun e=>Nat.beq e.born stamp)with
     |some e=>k (.n8 [e.key,e.val]) st
     |none=>false
    |false=>false
   |_,_=>false
  |_=>false
 |_=>false
def Po (es:List ee) (since:Nat) (seen:List Nat):List (Option ee):=
 (match(es.filter fun e=> !seen.contains e.born).filter (fun e=>Nat.blt e.born since)with|[]=>[none]|_=>[])++
 (((es.filter fun e=> !seen.contains e.born).filter (fun e=>Nat.blt e.born since))++((es.filter fun e=> !seen.contains e.born).filter (fun e=> !Nat.blt e.born since))).map some
def GY:AV:=.n8 [.bool false]
noncomputable def iS (st:St) (id m since:Nat) (seen:List Nat) (clock:Nat) (k:AV→St→Bool):List (Option ee)→Bool
 |[]=>true
 |none::l=>k GY st&&iS st id m since seen clock k l
 |some e::l=>(Q8 (seen++[e.born]) fun s=>ki st id (.iJ (some m) since s clock) fun st=>k (.n8 [.bool true,e.key,e.val]) st)&&iS st id m since seen clock k l
noncomputable def MR (st:St) (x:AV) (isS:Bool) (k:AV→St→Bool):Bool:=
 match x,isS with
 | .ptr id 0 0,false=>match st.heap.get id with
  |some (.iJ none _ _ _)=>k GY st
  |some (.iJ (some m) since seen stepped)=>match st.heap.get m with
   |some (.map es clock)=>match !seen.isEmpty&& !es.isEmpty&&es.all (fun e=>Nat.ble stepped e.born)with
    |true=>false
    |false=>Q8 (Po es since seen) fun l=>iS st id m since seen clock k l
   |_=>false
  |_=>false
 |_,_=>false
noncomputable def Pf (P:Program) (st:St) (oS:Array TypeId) (s x:AV) (k:AV→St→Bool):Bool:=
 match oS[0]? with
 |some sT=>match P.underlying sT,rL s,rL x with
  |some (.slice el),some n,some m=>match dZ P el with
   |some sz=>dI (Nat.min m n) fun c=>nA st sz c x false fun l=>match s with
    | .ec=>k (.int .i64 (.ofNat c)) st
    | .slice id ep off _ _ _ _=>jT st id ep off l false fun st=>k (.int .i64 (.ofNat c)) st
    |_=>false
   |none=>false
  |_,_,_=>false
 |none=>false
noncomputable def Gd (P:Program) (st:St) (oS:Array TypeId) (s:AV) (k:AV→St→Bool):Bool:=
 match oS[0]? with
 |some sT=>match P.underlying sT,s with
  |some (.map _ _),.mZ=>k bX st
  |some (.map _ _),.map id=>match st.heap.get id with
   |some (.map _ clock)=>ki st id (.map [] clock) fun st=>k bX st
   |_=>false
  |some (.slice _),.ec=>k bX st
  |some (.slice el),.slice id ep off n _ _ _=>match n with
   |0=>k bX st
   |n=>match jM P el with
    |some z=>mo (ry n z.cells) fun l=>jT st id ep off l false fun st=>k bX st
    |none=>false
  |_,_=>false
 |none=>false
noncomputable def wT (P:Program) (st:St) (e:Env) (o:Oper) (k:AV→St→Bool):Bool:=
 match o.op with
 | .assign x=>fR e x false fun v=>k v st
 | .store t a x=>fR e a false fun a=>fR e x false fun v=>match a with
  | .ptr id ep off=>(match dZ P t with
   |some n=>(match Nat.beq v.cells.length n with|true=>jT st id ep off v.cells false fun st=>k bX st|false=>false)
   |none=>false)
  |_=>false
 | .mapUpdate t m key x=>fR e m false fun m=>fR e key false fun key=>fR e x false fun x=>qo P st t m key x k
 | .insert t m key x=>fR e m false fun m=>fR e key false fun key=>fR e x false fun x=>qo P st t m key x k
 | .mapEntry t m key=>fR e m false fun m=>fR e key false fun key=>zQ P st t m key k
 | .entryStore _ m s x=>fR e m false fun m=>fR e s false fun s=>fR e x false fun x=>Aq st m s x k
 | .range t x=>fR e x false fun x=>EL P st t x k
 | .entry x=>fR e x false fun x=>FU st x k
 | .next x isS=>fR e x false fun x=>MR st x isS k
 | .call c=>(match c.callee with
  | .builtin .append=>mf e c.args.toList false fun l=>(match l with|[s,x]=>tE P st c.argTypes s x k|_=>false)
  | .builtin .copy=>mf e c.args.toList false fun l=>(match l with|[s,x]=>Pf P st c.argTypes s x k|_=>false)
  | .builtin .clear=>mf e c.args.toList false fun l=>(match l with|[s]=>Gd P st c.argTypes s k|_=>false)
  |_=>false)
 |_=>false
end Go.Il
namespace Go.Il
variable [Sym]
def UT (n:Next) (v:Value):Prop:=n=.value v∨(n=.skip∧v=undef)
def oq (B:Nat→Prop) (ρ:bL) (st:St) (w:World) (P:Program) (k:AV→St→Bool) (s:Sem Next):Prop:=
 ∃v bt ρ' v' w' nx,k v bt=true∧s.run P w=.ok nx w'∧UT nx v'∧aL ρ' v v'∧aV B ρ' bt w'∧gX B ρ st w ρ' bt w'
theorem gM (ρ:bL):aL ρ bX undef:=.n8 [] #[] .nil
section
variable {B : Nat → Prop} {ρ : bL} {st : St} {w : World} {P : Program} {k : AV → St → Bool}
theorem oq.vX {s:Sem Value} (h:∃v bt ρ' v' w',k v bt=true∧s.run P w=.ok v' w'∧aL ρ' v v'∧aV B ρ' bt w'∧gX B ρ st w ρ' bt w'):oq B ρ st w P k (do pure (.value (←s))):=by
 obtain⟨v,bt,ρ',v',w',h1,h2,h3,h4,h5⟩:=h
 exact⟨v,bt,ρ',v',w',.value v',h1,by simp only[Sem.run_bind,h2,Result.andThen_ok,Sem.run_pure],.inl rfl,h3,h4,h5⟩
theorem oq.ofU {s:Sem Unit} (h:∃bt ρ' w',k bX bt=true∧s.run P w=.ok () w'∧aV B ρ' bt w'∧gX B ρ st w ρ' bt w'):oq B ρ st w P k (do s;pure .skip):=by
 obtain⟨bt,ρ',w',h1,h2,h4,h5⟩:=h
 exact⟨bX,bt,ρ',undef,w',.skip,h1,by simp only[Sem.run_bind,h2,Result.andThen_ok,Sem.run_pure],.inr ⟨rfl,rfl⟩,gM _,h4,h5⟩
variable {p:Pl}
theorem pb (hs:aV B ρ st w) {id:Nat} {es:List ee} {clock:Nat} (hp:ρ id 0=some p) (hg:st.heap.get id=some (.map es clock)):∃cI,w.heap[p.blk]?=some (.map cI clock)∧bz ρ es cI.toList:=by
 obtain⟨_,_,_,r,hr,hrel⟩:=hs.mapped _ _ _ hp
 rw[hg]at hr;cases hr
 exact hrel.2
variable {t:TypeId} {m s v x:AV} {d l n:Nat}
theorem Pj (h:It P d t v=true):∃desc,P.underlying t=some desc:=by
 cases d with
 |zero=>simp[It]at h
 |succ d=>
  unfold It at h
  cases hd:P.underlying t with
  |none=>rw[hd]at h;cases h
  |some desc=>exact⟨desc,rfl⟩
def Ms:Obj→Bool
 | .cells ..=>true
 |_=>false
theorem bU {b:Nat} {o:Obj} (h:w.heap[b]?=some o) (hn:Ms o=false):(getObj b).run P w=.ok o w:=by
 cases o<;>first|(simp[Ms]at hn;done)|simp only[getObj,Sem.run,h]
theorem cX {b:Nat} {o o':Obj} (h:w.heap[b]?=some o) (hn:Ms o=false):(setObj b o').run P w=.ok () {w with heap:=w.heap.setIfInBounds b o'}:=by
 cases o<;>first|(simp[Ms]at hn;done)|simp only[Go.setObj,Sem.run,h]
variable {f' ng m' s' v' x':Value}
theorem uH (hs:aV B ρ st w) {key:AV} (hm:aL ρ m m') (hk:aL ρ key ng) (hx:aL ρ x x') (h:qo P st t m key x k=true):
 ∃bt ρ' w',k bX bt=true∧(Instr.mapUpdate t m' ng x').run P w=.ok () w'∧aV B ρ' bt w'∧gX B ρ st w ρ' bt w':=by
 unfold qo at h
 split at h<;>(try(cases h;done))
 rename_i kt et id hu
 split at h<;>(try(cases h;done))
 rename_i es clock hg
 split at h<;>(try(cases h;done))
 rename_i CU
 cases hm with
 |map _ p hp=>
  obtain⟨cI,he,rO⟩:=pb hs hp hg
  obtain⟨desc,JU⟩:=Pj CU
  have FJ:=(Ay (P:=P) (ρ:=ρ) false 9992 w 8).1 _ _ _ hk CU
  have iN:=bU (P:=P) he rfl
  split at h<;>(try(cases h;done))
  ·rename_i i v hf
   obtain⟨r',kN,uY⟩:=iu hs JU hk rO hf
   obtain⟨v',rfl,Cu⟩:=kN
   split at h<;>(try(cases h;done))
   rename_i hsk
   rw[rC,eH]at h
   unfold sameKey at hsk
   split at hsk<;>(try(cases hsk;done))
   rename_i e hei
   simp only[Bool.and_eq_true]at hsk
   have hke:=AV.eq_of_beq _ _ hsk.1
   obtain⟨e',N7,Lf,fE,he4⟩:=rO.get hei
   rw[hke]at Lf
   have gR:=qu (P:=P) hsk.2 Lf hk w
   have WG:cI[i]?=some e':=by simpa using N7
   obtain⟨s1,s2⟩:=hs.setObj (r':=.map (eL es i key x) clock) (o':=.map (cI.modify i fun e=>{e with key:=ng,val:=x'}) clock) hp hg rfl ⟨rfl,_,rfl,by rw[Array.toList_modify];exact nD hk hx es cI.toList i rO⟩
   refine⟨_,ρ,_,h,?_,s1,s2⟩
   simp only[Instr.mapUpdate,Sem.run_bind,run_underlying hu,Result.andThen_ok,iN,FJ,uY,WG,Option.map_some,Option.getD_some,gR,cX he rfl]
  ·rename_i hf
   obtain⟨r',kN,uY⟩:=iu hs JU hk rO hf
   cases kN
   rw[rC,bE,eH]at h
   obtain⟨s1,s2⟩:=hs.setObj (r':=.map (es++[⟨key,x,clock⟩]) (clock+1)) (o':=.map (cI.push {key:=ng,val:=x',born:=clock}) (clock+1)) hp hg rfl ⟨rfl,_,rfl,by rw[Array.toList_push];exact rO.append (.cons _ _ _ _ hk hx rfl .nil)⟩
   refine⟨_,ρ,_,h,?_,s1,s2⟩
   simp only[Instr.mapUpdate,Sem.run_bind,run_underlying hu,Result.andThen_ok,iN,FJ,uY,cX he rfl]
theorem Ao:∀(es:List ee) (i:Nat) (e:ee),es[i]?=some e→eL es i e.key e.val=es:=by
 intro es
 induction es with
 |nil=>intro i e h;simp at h
 |cons a es ih=>
  intro i e h
  cases i with
  |zero=>simp at h;subst h;rfl
  |succ i=>simp at h;simp only[eL,ih i e h]
theorem nB {st:St} {kt:TypeId} {key:AV}:∀(es:List ee) (i j:Nat) (v:AV),nC P st kt key es i=some (some (j,v))→∃e,i≤j∧es[j-i]?=some e∧e.val=v:=by
 intro es
 induction es with
 |nil=>intro i j v h;simp[nC]at h
 |cons e es ih=>
  intro i j v h
  simp only[nC]at h
  split at h
  ·cases h;exact⟨e,Nat.le_refl _,by simp,rfl⟩
  ·obtain⟨e',h1,h2,h3⟩:=ih _ _ _ h
   refine⟨e',by omega,?_,h3⟩
   have:j-i=(j-(i+1))+1:=by omega
   rw[this];simpa using h2
  ·cases h
theorem E7 (hs:aV B ρ st w) {key:AV} (hm:aL ρ m m') (hk:aL ρ key ng) (h:zQ P st t m key k=true):
 ∃v bt ρ' v' w',k v bt=true∧(Instr.mapEntry t m' ng).run P w=.ok v' w'∧aL ρ' v v'∧aV B ρ' bt w'∧gX B ρ st w ρ' bt w':=by
 unfold zQ at h
 split at h<;>(try(cases h;done))
 rename_i kt et id hu
 split at h<;>(try(cases h;done))
 rename_i es clock hg
 split at h<;>(try(cases h;done))
 rename_i CU
 cases hm with
 |map _ p hp=>
  obtain⟨cI,he,rO⟩:=pb hs hp hg
  obtain⟨desc,JU⟩:=Pj CU
  have FJ:=(Ay (P:=P) (ρ:=ρ) false 9992 w 8).1 _ _ _ hk CU
  have iN:=bU (P:=P) he rfl
  split at h<;>(try(cases h;done))
  ·rename_i i v hf
   obtain⟨r',kN,uY⟩:=iu hs JU hk rO hf
   obtain⟨v',rfl,Cu⟩:=kN
   split at h<;>(try(cases h;done))
   rename_i e hsk hei
   unfold sameKey at hsk
   rw[hei]at hsk
   simp only[Bool.and_eq_true]at hsk
   have hke:=AV.eq_of_beq _ _ hsk.1
   obtain⟨e',N7,Lf,fE,he4⟩:=rO.get hei
   rw[hke]at Lf
   have gR:=qu (P:=P) hsk.2 Lf hk w
   have WG:cI[i]?=some e':=by simpa using N7
   have Hv:bz ρ es (cI.modify i fun e=>{e with key:=ng}).toList:=by
    rw[Array.toList_modify]
    have h1:=nD hk fE es cI.toList i rO
    have h2:eL es i key e.val=es:=by rw[←hke];exact Ao es i e hei
    rw[h2]at h1
    have h3:(cI.toList.modify i fun e=>{e with key:=ng,val:=e'.val})=(cI.toList.modify i fun e=>{e with key:=ng}):=by
     apply List.ext_getElem?
     intro j
     simp only[List.getElem?_modify]
     by_cases oK:i=j
     ·subst oK;simp only[N7];rfl
     ·simp[oK]
    rw[h3]at h1
    exact h1
   obtain⟨s1,s2⟩:=hs.setObj (r':=.map es clock) (o':=.map (cI.modify i fun e=>{e with key:=ng}) clock) hp hg rfl ⟨rfl,_,rfl,Hv⟩
   refine⟨_,st,ρ,.tuple #[v',goInt e'.born],{w with heap:=w.heap.setIfInBounds p.blk (.map (cI.modify i fun e=>{e with key:=ng}) clock)},h,?_,?_,?_,?_⟩
   ·simp only[Instr.mapEntry,Sem.run_bind,run_underlying hu,Result.andThen_ok,iN,FJ,uY,WG,Option.map_some,Option.getD_some,gR,cX he rfl,Sem.run_pure]
   ·refine .n8 _ _ (.cons _ _ _ _ Cu (.cons _ _ _ _ ?_ .nil))
    rw[he4];exact .int _ _
   ·exact⟨fun Fh Ls p' ku=>by
     obtain⟨a1,a2,a3,r,a4,a5⟩:=s1.mapped Fh Ls p' ku
     refine⟨a1,a2,a3,r,?_,a5⟩
     rw[←a4]
     by_cases hid:id=Fh
     ·subst hid;rw[Tr.bH];exact hg
     ·rw[Tr.bI _ _ hid],s1.inj,s1.low⟩
   ·exact⟨s2.le,s2.next,fun i hi hn=>⟨hn,rfl⟩,s2.low,s2.size,s2.os,s2.out,s2.YG⟩
  ·rename_i hf
   obtain⟨r',kN,uY⟩:=iu hs JU hk rO hf
   cases kN
   split at h<;>(try(cases h;done))
   rename_i z hz
   obtain⟨z',iK,mE⟩:=gL hz
   rw[rC,bE,eH]at h
   obtain⟨s1,s2⟩:=hs.setObj (r':=.map (es++[⟨key,z,clock⟩]) (clock+1)) (o':=.map (cI.push {key:=ng,val:=z',born:=clock}) (clock+1)) hp hg rfl ⟨rfl,_,rfl,by rw[Array.toList_push];exact rO.append (.cons _ _ _ _ hk (iK ρ) rfl .nil)⟩
   refine⟨_,_,ρ,.tuple #[z',goInt clock],_,h,?_,.n8 _ _ (.cons _ _ _ _ (iK ρ) (.cons _ _ _ _ (.int _ _) .nil)),s1,s2⟩
   simp only[Instr.mapEntry,Sem.run_bind,run_underlying hu,Result.andThen_ok,iN,FJ,uY,mE,cX he rfl,Sem.run_pure]
end
end Go.Il
namespace Go.Il
variable [Sym]
section
variable {B : Nat → Prop} {ρ : bL} {st : St} {w : World} {P : Program} {k : AV → St → Bool} {e : Env} {a : Act}
theorem AH {b:Nat}:∀(es:List ee) (cI:List MapEntry) (i j:Nat),bz ρ es cI→qS b es i=some j→i≤j∧cI.findIdx? (fun e=>(e.born:Int)==(b:Int))=some (j-i):=by
 intro es
 induction es with
 |nil=>intro cI i j _ h;simp[qS]at h
 |cons e es ih=>
  intro cI i j hr h
  cases hr with
  |cons _ e' _ cI h1 h2 h3 hl=>
   simp only[qS]at h
   rw[List.findIdx?_cons,h3]
   split at h
   ·rename_i hb
    cases h
    have hb:=Nat.eq_of_beq_eq_true hb
    subst hb
    exact⟨Nat.le_refl _,by simp⟩
   ·rename_i hb
    obtain⟨g1,g2⟩:=ih cI (i+1) j hl h
    refine⟨by omega,?_⟩
    have cH:((e.born:Int)==(b:Int))=false:=by
     rw[beq_eq_false_iff_ne]
     intro he
     have:e.born=b:=by exact_mod_cast he
     subst this
     simp at hb
    rw[cH,g2]
    simp only[Bool.false_eq_true,if_false,Option.map_some]
    congr 1;omega
variable {t:TypeId} {m s v x:AV} {f' ng m' s' v' x':Value}
theorem FV (hs:aV B ρ st w) (hm:aL ρ m m') (hS:aL ρ s s') (hx:aL ρ x x') (h:Aq st m s x k=true):
 ∃bt ρ' w',k bX bt=true∧(Instr.entryStore t m' s' x').run P w=.ok () w'∧aV B ρ' bt w'∧gX B ρ st w ρ' bt w':=by
 unfold Aq at h
 split at h<;>(try(cases h;done))
 rename_i id kd b
 split at h<;>(try(cases h;done))
 rename_i es clock hg
 split at h<;>(try(cases h;done))
 rename_i i Sy
 split at h<;>(try(cases h;done))
 rename_i en hen
 rw[rC,eH]at h
 cases hS
 cases hm with
 |map _ p hp=>
  obtain⟨cI,he,rO⟩:=pb hs hp hg
  have iN:=bU (P:=P) he rfl
  obtain⟨_,CO⟩:=AH es cI.toList 0 i rO Sy
  obtain⟨e',N7,Lf,fE,he4⟩:=rO.get hen
  have ao5:cI.findIdx? (fun e=>(e.born:Int)==(b:Int))=some i:=by
   have e9:∀f,cI.findIdx? f=cI.toList.findIdx? f:=fun f=>by cases cI;simp
   rw[e9];simpa using CO
  have hrel:bz ρ (eL es i en.key x) (cI.modify i fun e=>{e with val:=x'}).toList:=by
   rw[Array.toList_modify]
   have h1:=nD Lf hx es cI.toList i rO
   have h3:(cI.toList.modify i fun e=>{e with key:=e'.key,val:=x'})=(cI.toList.modify i fun e=>{e with val:=x'}):=by
    apply List.ext_getElem?
    intro j
    simp only[List.getElem?_modify]
    by_cases oK:i=j
    ·subst oK;simp only[N7];rfl
    ·simp[oK]
   rw[h3]at h1
   exact h1
  obtain⟨s1,s2⟩:=hs.setObj (r':=.map (eL es i en.key x) clock) (o':=.map (cI.modify i fun e=>{e with val:=x'}) clock) hp hg rfl ⟨rfl,_,rfl,hrel⟩
  refine⟨_,ρ,_,h,?_,s1,s2⟩
  have hi:(Int.ofNat b)=(b:Int):=rfl
  simp only[Instr.entryStore,Sem.run_bind,Result.andThen_ok,iN,asInt,asIntOf,Sem.run_pure,hi,ao5,cX he rfl]
theorem I7 (hs:aV B ρ st w) (hx:aL ρ x x') (h:EL P st t x k=true):
 ∃v bt ρ' v' w',k v bt=true∧(Instr.range t x').run P w=.ok v' w'∧aL ρ' v v'∧aV B ρ' bt w'∧gX B ρ st w ρ' bt w':=by
 unfold EL at h
 split at h<;>(try(cases h;done))
 ·rename_i hu
  cases hx
  rw[lU]at h
  obtain⟨ρ',h1,h2,h3⟩:=hs.alloc (r:=.iJ none 0 [] 0) (o:=.mapIter none 0 #[] 0) (n:=0) (fun ρ' _ _=>⟨rfl,none,#[],rfl,rfl,rfl⟩)
  refine⟨_,_,ρ',_,_,h,?_,.ptr _ _ _ _ h3 (Nat.le_refl _),h1,h2⟩
  simp only[Instr.range,Sem.run_bind,run_underlying hu,Result.andThen_ok,run_newObj,Sem.run_pure]
 ·rename_i m hu
  split at h<;>(try(cases h;done))
  rename_i es clock hg
  rw[lU]at h
  cases hx with
  |map _ p hp=>
   obtain⟨cI,he,rO⟩:=pb hs hp hg
   have iN:=bU (P:=P) he rfl
   obtain⟨ρ',h1,h2,h3⟩:=hs.alloc (r:=.iJ (some m) clock [] clock) (o:=.mapIter (some p.blk) clock #[] clock) (n:=0) (fun ρ' hle _=>⟨rfl,some p.blk,#[],rfl,rfl,p,hle _ _ _ hp,rfl⟩)
   refine⟨_,_,ρ',_,_,h,?_,.ptr _ _ _ _ h3 (Nat.le_refl _),h1,h2⟩
   simp only[Instr.range,Sem.run_bind,run_underlying hu,Result.andThen_ok,iN,run_newObj,Sem.run_pure]
def af2 (ρ:bL) (m m':Option Nat):Prop:=
 match m with
 |none=>m'=none
 |some id=>∃p,ρ id 0=some p∧m'=some p.blk
variable {p:Pl}
theorem zU (hs:aV B ρ st w) {id:Nat} {m:Option Nat} {since stepped:Nat} {seen:List Nat} (hp:ρ id 0=some p) (hg:st.heap.get id=some (.iJ m since seen stepped)):
 ∃m' iH,w.heap[p.blk]?=some (.mapIter m' since iH stepped)∧iH.toList=seen∧af2 ρ m m':=by
 obtain⟨_,_,_,r,hr,hrel⟩:=hs.mapped _ _ _ hp
 rw[hg]at hr;cases hr
 exact hrel.2
theorem OJ {stamp:Nat}:∀(es:List ee) (cI:List MapEntry) (en:ee),bz ρ es cI→es.find? (fun e=>Nat.beq e.born stamp)=some en→∃e',cI.find? (·.born==stamp)=some e'∧aL ρ en.key e'.key∧aL ρ en.val e'.val:=by
 intro es
 induction es with
 |nil=>intro cI en _ h;simp at h
 |cons e es ih=>
  intro cI en hr h
  cases hr with
  |cons _ e' _ cI h1 h2 h3 hl=>
   simp only[List.find?_cons]at h⊢
   cases hb:Nat.beq e.born stamp with
   |true=>
    rw[hb]at h
    simp only[Option.some.injEq]at h
    subst h
    have hb:=Nat.eq_of_beq_eq_true hb
    rw[h3,hb]
    simp only[beq_self_eq_true]
    exact⟨_,rfl,h1,h2⟩
   |false=>
    rw[hb]at h
    have cH:(e'.born==stamp)=false:=by
     rw[h3,beq_eq_false_iff_ne]
     intro he;rw[he]at hb;simp at hb
    rw[cH]
    exact ih _ _ hl h
theorem Ko (hs:aV B ρ st w) (hx:aL ρ x x') (h:FU st x k=true):
 ∃v bt ρ' v' w',k v bt=true∧(Instr.entry x').run P w=.ok v' w'∧aL ρ' v v'∧aV B ρ' bt w'∧gX B ρ st w ρ' bt w':=by
 unfold FU at h
 split at h<;>(try(cases h;done))
 rename_i id
 split at h<;>(try(cases h;done))
 rename_i m since seen stepped hg
 split at h<;>(try(cases h;done))
 rename_i es clock stamp Qt hl
 split at h<;>(try(cases h;done))
 rename_i rR
 have rR:=Nat.eq_of_beq_eq_true rR
 split at h<;>(try(cases h;done))
 rename_i en hen
 obtain⟨p,rfl,hp,hb⟩:=hx.tl
 obtain⟨m',iH,h1,h2,q,hq,rfl⟩:=zU hs hp hg
 obtain⟨cI,he,rO⟩:=pb hs hq Qt
 obtain⟨e',hf,hk,hv⟩:=OJ es cI.toList en rO hen
 have ac5:iH.back?=some stamp:=by rw[←h2]at hl;simpa[Array.back?_eq_getElem?,List.getLast?_eq_getElem?]using hl
 have Ad:cI.find? (·.born==stamp)=some e':=by
  have e9:∀f,cI.find? f=cI.toList.find? f:=fun f=>by cases cI;simp
  rw[e9];exact hf
 refine⟨_,st,ρ,.tuple #[e'.key,e'.val],w,h,?_,.n8 _ _ (.cons _ _ _ _ hk (.cons _ _ _ _ hv .nil)),hs,.refl _ _ _ _⟩
 have hz:0-p.base=0:=by omega
 subst rR
 simp only[Instr.entry,hz,Sem.run_bind,bU (P:=P) h1 rfl,Result.andThen_ok,ac5,bU (P:=P) he rfl,Ad,bne_self_eq_false,Bool.false_eq_true,if_false,Sem.run_pure]
inductive rf (ρ:bL):List (Option ee)→List (Option MapEntry)→Prop where
 |nil:rf ρ [] []
 |stop (l l') (h:rf ρ l l'):rf ρ (none::l) (none::l')
 |ad6 (e:ee) (e':MapEntry) (l l') (hk:aL ρ e.key e'.key) (hv:aL ρ e.val e'.val) (hb:e'.born=e.born) (h:rf ρ l l'):rf ρ (some e::l) (some e'::l')
theorem bz.filter {f:ee→Bool} {g:MapEntry→Bool} (hfg:∀e e',e'.born=e.born→g e'=f e):∀{l:List ee} {l':List MapEntry},bz ρ l l'→bz ρ (l.filter f) (l'.filter g)
 |_,_,.nil=> .nil
 |_,_,.cons e e' l l' hk hv hb hl=>by
  rw[List.filter_cons,List.filter_cons,hfg e e' hb]
  split
  ·exact .cons _ _ _ _ hk hv hb (bz.filter hfg hl)
  ·exact bz.filter hfg hl
theorem rf.MO:∀{l:List ee} {l':List MapEntry},bz ρ l l'→rf ρ (l.map some) (l'.map some)
 |_,_,.nil=> .nil
 |_,_,.cons e e' l l' hk hv hb hl=> .ad6 _ _ _ _ hk hv hb (rf.MO hl)
theorem rf.get:∀{l:List (Option ee)} {l':List (Option MapEntry)},rf ρ l l'→∀i,i<l'.length→(l[i]?=some none∧l'[i]?=some none)∨∃e e',l[i]?=some (some e)∧l'[i]?=some (some e')∧aL ρ e.key e'.key∧aL ρ e.val e'.val∧e'.born=e.born
 |_,_,.nil,i,hi=>by simp at hi
 |_,_,.stop l l' h,i,hi=>by
  cases i with
  |zero=>exact .inl ⟨rfl,rfl⟩
  |succ i=>simpa using rf.get h i (by simpa using hi)
 |_,_,.ad6 e e' l l' hk hv hb h,i,hi=>by
  cases i with
  |zero=>exact .inr ⟨e,e',rfl,rfl,hk,hv,hb⟩
  |succ i=>simpa using rf.get h i (by simpa using hi)
theorem zK {id m since clock:Nat} {seen:List Nat}:∀{l:List (Option ee)} {i:Nat},iS st id m since seen clock k l=true→l[i]?=some none→k GY st=true:=by
 intro l
 induction l with
 |nil=>intro i _ h;simp at h
 |cons c l ih=>
  intro i h hi
  cases c with
  |none=>
   simp only[iS,Bool.and_eq_true]at h
   exact h.1
  |some e=>
   simp only[iS,Bool.and_eq_true]at h
   cases i with
   |zero=>simp at hi
   |succ i=>exact ih h.2 (by simpa using hi)
theorem zJ {id m since clock:Nat} {seen:List Nat} {en:ee}:∀{l:List (Option ee)} {i:Nat},iS st id m since seen clock k l=true→l[i]?=some (some en)→k (.n8 [.bool true,en.key,en.val]) ⟨st.heap.set id (.iJ (some m) since (seen++[en.born]) clock),st.next⟩=true:=by
 intro l
 induction l with
 |nil=>intro i _ h;simp at h
 |cons c l ih=>
  intro i h hi
  cases c with
  |none=>
   simp only[iS,Bool.and_eq_true]at h
   cases i with
   |zero=>simp at hi
   |succ i=>exact ih h.2 (by simpa using hi)
  |some e=>
   simp only[iS,Bool.and_eq_true,rC,eH]at h
   cases i with
   |zero=>simp at hi;subst hi;exact h.1
   |succ i=>exact ih h.2 (by simpa using hi)
theorem MQ (hs:aV B ρ st w) {isS:Bool} {ty:TypeId} (hx:aL ρ x x') (h:MR st x isS k=true):
 ∃v bt ρ' v' w',k v bt=true∧(Instr.next x' isS ty).run P w=.ok v' w'∧aL ρ' v v'∧aV B ρ' bt w'∧gX B ρ st w ρ' bt w':=by
 unfold MR at h
 split at h<;>(try(cases h;done))
 rename_i id
 obtain⟨p,rfl,hp,hb⟩:=hx.tl
 have hz:0-p.base=0:=by omega
 have zA:aL ρ GY (.tuple #[.bool false]):=.n8 _ _ (.cons _ _ _ _ (.bool _) .nil)
 split at h<;>(try(cases h;done))
 ·rename_i since seen stepped hg
  obtain⟨m',iH,h1,h2,rfl⟩:=zU hs hp hg
  refine⟨_,st,ρ,_,w,h,?_,zA,hs,.refl _ _ _ _⟩
  simp only[Instr.next,hz,Sem.run_bind,bU (P:=P) h1 rfl,Result.andThen_ok,Sem.run_pure]
 ·rename_i m since seen stepped hg
  obtain⟨m',iH,h1,h2,q,hq,rfl⟩:=zU hs hp hg
  split at h<;>(try(cases h;done))
  rename_i es clock Qt
  obtain⟨cI,he,rO⟩:=pb hs hq Qt
  split at h<;>(try(cases h;done))
  rename_i hcond
  rw[rC]at h
  have ao6:(!iH.isEmpty&& !cI.isEmpty&&cI.all (fun e=>decide (e.born≥stepped)))=false:=by
   rw[←hcond]
   have e1:iH.isEmpty=seen.isEmpty:=by rw[←h2];simp
   have e2:cI.isEmpty=es.isEmpty:=by
    have:=rO.length
    rw[Array.length_toList]at this
    cases hes:es with
    |nil=>rw[hes]at this;simp at this;simp[this]
    |cons a l=>rw[hes]at this;simp only[List.isEmpty_cons];cases hee:cI.isEmpty with|false=>rfl|true=>rw[Array.isEmpty_iff_size_eq_zero]at hee;simp at this;omega
   have e3:∀(l:List ee) (l':List MapEntry),bz ρ l l'→l'.all (fun e=>decide (e.born≥stepped))=l.all (fun e=>Nat.ble stepped e.born):=by
    intro l
    induction l with
    |nil=>intro l' hl;cases hl;rfl
    |cons a l ih=>
     intro l' hl
     cases hl with
     |cons _ b _ l' _ _ hb hl=>
      simp only[List.all_cons,ih _ hl,hb]
      congr 1
      rw[Bool.eq_iff_iff];simp[Nat.ble_eq]
   have e4:cI.all (fun e=>decide (e.born≥stepped))=cI.toList.all (fun e=>decide (e.born≥stepped)):=by cases cI;simp
   rw[e1,e2,e4,e3 _ _ rO]
  obtain⟨left,Ug⟩:∃l,l=cI.filter fun e=> !iH.contains e.born:=⟨_,rfl⟩
  obtain⟨qR,Od⟩:∃c:Array (Option MapEntry),c=(if(left.filter fun e=>decide (e.born<since)).isEmpty then #[none]else #[])++((left.filter fun e=>decide (e.born<since))++(left.filter fun e=>decide (e.born≥since))).map some:=⟨_,rfl⟩
  have Lb:bz ρ (es.filter fun e=> !seen.contains e.born) left.toList:=by
   rw[Ug,Array.toList_filter]
   refine rO.filter fun e e' hb=>?_
   rw[hb,←h2];simp
  have gS:bz ρ ((es.filter fun e=> !seen.contains e.born).filter fun e=>Nat.blt e.born since) (left.filter fun e=>decide (e.born<since)).toList:=by
   rw[Array.toList_filter]
   refine Lb.filter fun e e' hb=>?_
   rw[hb,Bool.eq_iff_iff];simp[Nat.blt_eq]
  have NM:bz ρ ((es.filter fun e=> !seen.contains e.born).filter fun e=> !Nat.blt e.born since) (left.filter fun e=>decide (e.born≥since)).toList:=by
   rw[Array.toList_filter]
   refine Lb.filter fun e e' hb=>?_
   rw[hb,Bool.eq_iff_iff]
   cases tw:Nat.blt e.born since with
   |true=>have:=tw;rw[Nat.blt_eq]at this;simp;omega
   |false=>
    simp
    rcases Nat.lt_or_ge e.born since with h5|h5
    ·have:Nat.blt e.born since=true:=by rw[Nat.blt_eq];exact h5
     rw[this]at tw;cases tw
    ·exact h5
  have hc:rf ρ (Po es since seen) qR.toList∧0<qR.size:=by
   have h5:=rf.MO (gS.append NM)
   unfold Po
   have h6:=gS.length
   rw[Od]
   cases hold:(es.filter fun e=> !seen.contains e.born).filter fun e=>Nat.blt e.born since with
   |nil=>
    rw[hold]at h6
    have h7:(left.filter fun e=>decide (e.born<since)).isEmpty=true:=by
     rw[Array.isEmpty_iff_size_eq_zero,←Array.length_toList,h6];rfl
    rw[h7]
    rw[hold]at h5
    refine⟨?_,by rw[if_pos rfl,Array.size_append];have:(#[none]:Array (Option MapEntry)).size=1:=rfl;omega⟩
    simp only[if_true,Array.toList_append,Array.toList_map]
    exact .stop _ _ (by simpa using h5)
   |cons b l=>
    rw[hold]at h6
    have h7:(left.filter fun e=>decide (e.born<since)).isEmpty=false:=by
     cases hee:(left.filter fun e=>decide (e.born<since)).isEmpty with
     |false=>rfl
     |true=>rw[Array.isEmpty_iff_size_eq_zero,←Array.length_toList,h6]at hee;simp at hee
    rw[h7]
    rw[hold]at h5
    refine⟨?_,?_⟩
    ·simp only[Bool.false_eq_true,if_false,Array.toList_append,Array.toList_map]
     simpa using h5
    ·have:0<(left.filter fun e=>decide (e.born<since)).size:=by rw[←Array.length_toList,h6];simp
     simp only[Bool.false_eq_true,if_false,Array.size_append,Array.size_map]
     omega
  have aa4:∀s:Sem Value,s=(do
   match qR[←choose (.mapNext qR.size)]? with
   |some (some e)=>
    setObj p.blk (.mapIter (some q.blk) since (iH.push e.born) clock)
    pure (.tuple #[.bool true,e.key,e.val])
   |some none=>pure (.tuple #[.bool false])
   | none => stuck "Next: no such candidate") →
   ∃v bt ρ' v' w',k v bt=true∧s.run P w=.ok v' w'∧aL ρ' v v'∧aV B ρ' bt w'∧gX B ρ st w ρ' bt w':=by
   rintro s rfl
   have WN:∃j d,j<qR.size∧(choose (.mapNext qR.size)).run P w=.ok j {w with drawn:=d}:=by
    by_cases hf:qR.size≤1
    ·refine⟨0,w.drawn,hc.2,?_⟩
     rw[run_choose,if_pos (by simp[Question.forced,hf])]
    ·refine⟨_,w.drawn+1,?_,by rw[run_choose,if_neg (by simp[Question.forced];omega)]⟩
     simp only[Question.cut]
     exact Nat.mod_lt _ hc.2
   obtain⟨j,d,hj,cN⟩:=WN
   simp only[Sem.run_bind,cN,Result.andThen_ok]
   rcases hc.1.get j (by simpa using hj)with⟨g1,g2⟩|⟨en,e',g1,g2,g3,g4,g5⟩
   ·have g2':qR[j]?=some none:=by simpa using g2
    refine⟨_,st,ρ,_,_,zK h g1,by rw[g2'];rfl,zA,hs.drew d,.drew d⟩
   ·have g2':qR[j]?=some (some e'):=by simpa using g2
    have hsd:=hs.drew d
    obtain⟨s1,s2⟩:=hsd.setObj (r':=.iJ (some m) since (seen++[en.born]) clock) (o':=.mapIter (some q.blk) since (iH.push e'.born) clock) hp hg rfl ⟨rfl,_,_,rfl,by rw[Array.toList_push,h2,g5],q,hq,rfl⟩
    refine⟨_,_,ρ,.tuple #[.bool true,e'.key,e'.val],_,zJ h g1,?_,.n8 _ _ (.cons _ _ _ _ (.bool _) (.cons _ _ _ _ g3 (.cons _ _ _ _ g4 .nil))),s1,(gX.drew d).trans s2⟩
    rw[g2']
    have h1d:({w with drawn:=d}:World).heap[p.blk]?=some (.mapIter (some q.blk) since iH stepped):=h1
    simp only[Sem.run_bind,cX (P:=P) h1d rfl,Result.andThen_ok,Sem.run_pure]
  have WL:¬((!iH.isEmpty&& !cI.isEmpty&&cI.all (fun e=>decide (e.born≥stepped)))=true):=by rw[ao6];simp
  obtain⟨v,bt,ρ',v',w',r1,r2,r3,r4,r5⟩:=aa4 _ rfl
  refine⟨v,bt,ρ',v',w',r1,?_,r3,r4,r5⟩
  rw[←r2,Od,Ug]
  simp only[Instr.next,hz,Sem.run_bind,bU (P:=P) h1 rfl,bU (P:=P) he rfl,Result.andThen_ok]
  rw[if_neg WL]
  simp only[Sem.run_bind]
  rfl
end
end Go.Il
namespace Go.Il
variable [Sym]
section
variable {B : Nat → Prop} {ρ : bL} {st : St} {w : World} {P : Program} {k : AV → St → Bool} {e : Env} {a : Act}
variable {oS:Array TypeId} {m s v x:AV} {f' ng m' s' v' x':Value}
theorem Pe (hs:aV B ρ st w) {ty:TypeId} (hS:aL ρ s s') (hx:aL ρ x x') (h:Pf P st oS s x k=true):
 ∃v bt ρ' v' w',k v bt=true∧(Builtin.copy_ oS ty #[s',x']).run P w=.ok v' w'∧aL ρ' v v'∧aV B ρ' bt w'∧gX B ρ st w ρ' bt w':=by
 unfold Pf at h
 split at h<;>(try(cases h;done))
 rename_i sT h0
 split at h<;>(try(cases h;done))
 rename_i el n m hu hn hm
 split at h<;>(try(cases h;done))
 rename_i sz cC
 rw[bE,rX]at h
 split at h<;>(try(cases h;done))
 rename_i l hl
 have pI:=uK (P:=P) (w:=w) hx hm
 obtain⟨l',hr,cN⟩:=nV (P:=P) (n:=Nat.min m n) hs hx hm (show Nat.min m n≤m from Nat.min_le_left m n) hl
 have e0:∀u v:Value,(#[u,v]:Array Value)[0]?=some u:=fun _ _=>rfl
 have e1:∀u v:Value,(#[u,v]:Array Value)[1]?=some v:=fun _ _=>rfl
 split at h<;>(try(cases h;done))
 ·cases hS
  cases hn
  refine⟨_,st,ρ,.int .i64 (Nat.min m 0),w,h,?_,.int _ _,hs,.refl _ _ _ _⟩
  simp only[Builtin.copy_,h0,e0,e1,Sem.run_bind,run_underlying hu,Result.andThen_ok,pI,bC cC,cN,Sem.run_pure,goInt]
 ·rename_i id ep off len cap ex OS
  obtain⟨cY,o,p,rfl,hp,hb,hc,he,gS,ho,KT⟩:=hS.iX
  cases hn
  rw[qc]at h
  split at h<;>(try(cases h;done))
  rename_i bt hputs
  by_cases hz:l'= #[]
  ·subst hz
   have:l=[]:=by cases hr;rfl
   subst this
   cases hputs
   refine⟨_,st,ρ,.int .i64 (Nat.min m n),w,h,?_,.int _ _,hs,.refl _ _ _ _⟩
   simp only[Builtin.copy_,h0,e0,e1,Sem.run_bind,run_underlying hu,Result.andThen_ok,pI,bC cC,cN,Sem.run_pure,goInt,storeCells]
  ·have Ib:0<cY:=by
    rcases Nat.eq_zero_or_pos cY with h1|h1
    ·exfalso
     have h2:Nat.min m n=0:=by
      have h9:Nat.min m n≤n:=Nat.min_le_right m n
      omega
     apply hz
     rw[h2]at cN
     apply Array.ext'
     have h3:l=[]:=by
      rw[h2]at hl
      unfold first nA at hl
      split at hl
      ·cases hl;rfl
      ·rw[fN,Nat.zero_mul]at hl
       cases hl;rfl
      ·rw[eo]at hl;cases hl;rfl
      ·cases hl
     subst h3
     cases mH:l'.toList with
     |nil=>rfl
     |cons _ _=>rw[mH]at hr;cases hr
    ·exact h1
   have pH:=ho Ib
   subst pH
   obtain⟨w',g1,g2,g3⟩:=aV.wQ (B:=B) hp (P:=P) off hb l l'.toList 0 st w hs hr hputs
   refine⟨_,bt,ρ,.int .i64 (Nat.min m n),w',h,?_,.int _ _,g2,g3⟩
   simp only[Builtin.copy_,h0,e0,e1,Sem.run_bind,run_underlying hu,Result.andThen_ok,pI,bC cC,cN,Sem.run_pure,goInt,g1]
theorem sd (hs:aV B ρ st w) {ty:TypeId} (hS:aL ρ s s') (h:Gd P st oS s k=true):
 ∃v bt ρ' v' w',k v bt=true∧(Builtin.clear_ oS ty #[s']).run P w=.ok v' w'∧aL ρ' v v'∧aV B ρ' bt w'∧gX B ρ st w ρ' bt w':=by
 unfold Gd at h
 split at h<;>(try(cases h;done))
 rename_i sT h0
 have e0:∀u:Value,(#[u]:Array Value)[0]?=some u:=fun _=>rfl
 split at h<;>(try(cases h;done))
 ·rename_i hu
  cases hS
  refine⟨_,st,ρ,.tuple #[],w,h,?_,gM _,hs,.refl _ _ _ _⟩
  simp only[Builtin.clear_,h0,e0,Sem.run_bind,run_underlying hu,Result.andThen_ok,Sem.run_pure]
 ·rename_i id hu
  split at h<;>(try(cases h;done))
  rename_i es clock hg
  rw[eH]at h
  cases hS with
  |map _ p hp=>
   obtain⟨cI,he,rO⟩:=pb hs hp hg
   obtain⟨s1,s2⟩:=hs.setObj (r':=.map [] clock) (o':=.map #[] clock) hp hg rfl ⟨rfl,_,rfl,.nil⟩
   refine⟨_,_,ρ,.tuple #[],_,h,?_,gM _,s1,s2⟩
   simp only[Builtin.clear_,h0,e0,Sem.run_bind,run_underlying hu,Result.andThen_ok,Sem.run_pure,bU (P:=P) he rfl,cX (P:=P) he rfl]
 ·rename_i hu
  cases hS
  refine⟨_,st,ρ,.tuple #[],w,h,?_,gM _,hs,.refl _ _ _ _⟩
  simp only[Builtin.clear_,h0,e0,Sem.run_bind,run_underlying hu,Result.andThen_ok,Sem.run_pure]
 ·rename_i el id ep off n cap ex OS hu
  obtain⟨cY,o,p,rfl,hp,hb,hc,he,gS,ho,KT⟩:=hS.iX
  split at h
  ·refine⟨_,st,ρ,.tuple #[],w,h,?_,gM _,hs,.refl _ _ _ _⟩
   simp only[Builtin.clear_,h0,e0,Sem.run_bind,run_underlying hu,Result.andThen_ok,Sem.run_pure]
  ·rename_i wZ
   split at h<;>(try(cases h;done))
   rename_i z hz
   rw[eo,qc]at h
   split at h<;>(try(cases h;done))
   rename_i bt hputs
   obtain⟨z',iK,mE⟩:=gL hz
   have fX:0<n:=Nat.pos_of_ne_zero wZ
   have pH:=ho (by omega)
   subst pH
   have Qc:=(iK ρ).cells
   have Zo:z'.cells.size=z.cells.length:=by rw[←Array.length_toList];exact Qc.length
   have hv:aP ρ (ry n z.cells) (Builtin.zeroCells z'.cells n).toList:=by
    refine aP.EW _ _ (by rw[Array.length_toList,yT,mQ,Zo]) fun i v hi=>?_
    obtain⟨h5,h6⟩:=tR _ _ _ _ hi
    obtain⟨v',h7,h8⟩:=tI (n:=n*z'.cells.size) Qc (by rw[Zo];exact h5) h6
    refine⟨v',?_,h8⟩
    rw[Array.getElem?_toList]
    exact h7
   obtain⟨w',g1,g2,g3⟩:=aV.wQ (B:=B) hp (P:=P) off hb _ _ 0 st w hs hv hputs
   refine⟨_,bt,ρ,.tuple #[],w',h,?_,gM _,g2,g3⟩
   obtain⟨n',rfl⟩:∃n',n=n'+1:=⟨n-1,by omega⟩
   simp only[Builtin.clear_,h0,e0,Sem.run_bind,run_underlying hu,Result.andThen_ok,Sem.run_pure,mE,g1]
variable {t:TypeId} {d l n:Nat}
theorem IK (hs:aV B ρ st w) (hx:aL ρ x x') (hv:aL ρ v v') {id ep off:Nat} (Zx:x=.ptr id ep off) (cC:dZ P t=some n) (hl:v.cells.length=n) (h:jT st id ep off v.cells false (fun st=>k bX st)=true):
 ∃bt ρ' w',k bX bt=true∧(Instr.storeAt t x' v').run P w=.ok () w'∧aV B ρ' bt w'∧gX B ρ st w ρ' bt w':=by
 subst Zx
 obtain⟨p,rfl,hp,hb⟩:=hx.tl
 rw[qc]at h
 split at h<;>(try(cases h;done))
 rename_i bt hputs
 have hc:=hv.cells
 have rR:v'.cells.size=n:=by rw[←Array.length_toList,hc.length,hl]
 obtain⟨w',g1,g2,g3⟩:=aV.wQ (B:=B) hp (P:=P) off hb _ _ 0 st w hs hc hputs
 refine⟨bt,ρ,w',h,?_,g2,g3⟩
 simp only[Instr.storeAt,Instr.sureAddr,Sem.run_bind,Sem.run_pure,Result.andThen_ok,storeVar,bC cC,rR,ne_eq,not_true,if_false]
 exact g1
theorem Bt (ht:iD ρ e a.tmps) {args:Array Operand} {y:AV} (h:vn e args.toList=some [x,y]):∃x' y',args.map a.eval= #[x',y']∧aL ρ x x'∧aL ρ y y':=by
 have hr:=kP ht _ _ h
 cases hm:(args.map a.eval).toList with
 |nil=>rw[hm]at hr;cases hr
 |cons u l=>
  rw[hm]at hr
  cases hr with
  |cons _ _ _ _ h1 h2=>cases h2 with
   |cons _ v _ l' h3 h4=>cases h4;exact⟨u,v,by apply Array.ext';rw[hm],h1,h3⟩
theorem Rx (ht:iD ρ e a.tmps) {args:Array Operand} (h:vn e args.toList=some [x]):∃x',args.map a.eval= #[x']∧aL ρ x x':=by
 have hr:=kP ht _ _ h
 cases hm:(args.map a.eval).toList with
 |nil=>rw[hm]at hr;cases hr
 |cons u l=>
  rw[hm]at hr
  cases hr with
  |cons _ _ _ _ h1 h2=>cases h2;exact⟨u,by apply Array.ext';rw[hm],h1⟩
theorem Rv (hs:aV B ρ st w) (ht:iD ρ e a.tmps) {o:Oper} (h:wT P st e o k=true):oq B ρ st w P k (execOp a.eval o):=by
 obtain⟨dst,op,type,pos,after,guard⟩:=o
 unfold wT at h
 cases op<;>simp only[bp,fw]at h<;>(try(cases h;done))
 case assign x=>
  split at h<;>(try(cases h;done))
  rename_i x0 hx
  exact⟨x0,st,ρ,a.eval x,w,.value (a.eval x),h,rfl,.inl rfl,bo ht hx,hs,.refl _ _ _ _⟩
 case store t x y=>
  split at h<;>(try(cases h;done))
  rename_i x0 hx
  split at h<;>(try(cases h;done))
  rename_i y0 hy
  split at h<;>(try(cases h;done))
  split at h<;>(try(cases h;done))
  rename_i n hn
  split at h<;>(try(cases h;done))
  rename_i hl
  exact oq.ofU (IK hs (bo ht hx) (bo ht hy) rfl hn (Nat.eq_of_beq_eq_true hl) h)
 case mapUpdate t m kk x=>
  split at h<;>(try(cases h;done))
  rename_i x0 hx
  split at h<;>(try(cases h;done))
  rename_i y0 hy
  split at h<;>(try(cases h;done))
  rename_i z0 hz
  exact oq.ofU (uH hs (bo ht hx) (bo ht hy) (bo ht hz) h)
 case insert t m kk x=>
  split at h<;>(try(cases h;done))
  rename_i x0 hx
  split at h<;>(try(cases h;done))
  rename_i y0 hy
  split at h<;>(try(cases h;done))
  rename_i z0 hz
  exact oq.ofU (uH hs (bo ht hx) (bo ht hy) (bo ht hz) h)
 case mapEntry t m kk=>
  split at h<;>(try(cases h;done))
  rename_i x0 hx
  split at h<;>(try(cases h;done))
  rename_i y0 hy
  exact oq.vX (E7 hs (bo ht hx) (bo ht hy) h)
 case entryStore t m s x=>
  split at h<;>(try(cases h;done))
  rename_i x0 hx
  split at h<;>(try(cases h;done))
  rename_i y0 hy
  split at h<;>(try(cases h;done))
  rename_i z0 hz
  exact oq.ofU (FV hs (bo ht hx) (bo ht hy) (bo ht hz) h)
 case range t x=>
  split at h<;>(try(cases h;done))
  rename_i x0 hx
  exact oq.vX (I7 hs (bo ht hx) h)
 case entry x=>
  split at h<;>(try(cases h;done))
  rename_i x0 hx
  exact oq.vX (Ko hs (bo ht hx) h)
 case next x isS=>
  split at h<;>(try(cases h;done))
  rename_i x0 hx
  exact oq.vX (MQ hs (bo ht hx) h)
 case call c=>
  obtain⟨cl,args,oS⟩:=c
  cases cl<;>simp only[]at h<;>(try(cases h;done))
  rename_i b
  cases b<;>simp only[]at h<;>(try(cases h;done))
  all_goals
   split at h<;>(try(cases h;done))
   rename_i l hl
   split at h<;>(try(cases h;done))
  ·obtain⟨x',y',hm,h1,h2⟩:=Bt ht hl
   have:=oq.vX (DC (ty:=type) hs h1 h2 h)
   obtain⟨v,bt,ρ',v',w',nx,r1,r2,r3⟩:=this
   refine⟨v,bt,ρ',v',w',nx,r1,?_,r3⟩
   simp only[execOp,resolve,Sem.run_bind,Sem.run_pure,Result.andThen_ok,invoke,builtin,hm]
   simpa only[Sem.run_bind,Sem.run_pure]using r2
  ·obtain⟨x',hm,h1⟩:=Rx ht hl
   have:=oq.vX (sd (ty:=type) hs h1 h)
   obtain⟨v,bt,ρ',v',w',nx,r1,r2,r3⟩:=this
   refine⟨v,bt,ρ',v',w',nx,r1,?_,r3⟩
   simp only[execOp,resolve,Sem.run_bind,Sem.run_pure,Result.andThen_ok,invoke,builtin,hm]
   simpa only[Sem.run_bind,Sem.run_pure]using r2
  ·obtain⟨x',y',hm,h1,h2⟩:=Bt ht hl
   have:=oq.vX (Pe (ty:=type) hs h1 h2 h)
   obtain⟨v,bt,ρ',v',w',nx,r1,r2,r3⟩:=this
   refine⟨v,bt,ρ',v',w',nx,r1,?_,r3⟩
   simp only[execOp,resolve,Sem.run_bind,Sem.run_pure,Result.andThen_ok,invoke,builtin,hm]
   simpa only[Sem.run_bind,Sem.run_pure]using r2
end
end Go.Il
namespace Go.Il
variable [Sym]
inductive AX where
 |norm
 |exit (id:Nat)
 |ret
structure Ctx where
 fn:FuncId
 n:Nat
 round:Option Nat
abbrev KX:=AX→Env→List Nat→St→Bool
noncomputable def ff (ops:Array Oper) (o:Oper) (e:Env):Option Bool:=
 match o.guard with
 |none=>some true
 |some (g,want)=>match(ops[g]?).bind (·.dst)with
  |some t=>match e.get t with
   |some (.bool b)=>some (b==want)
   |some _=>some false
   |none=>none
  |none=>some false
noncomputable def jU (n:Nat) (e:Env) (dst:Option Tmp) (v:AV) (k:Env→Bool):Bool:=
 match dst with
 |some d=>match Nat.blt d n with
  |true=>e.mU d v k
  |false=>false
 |none=>k e
def bx (o:Oper):Nat:=
 match o.op with
 | .move _| .pick ..| .load ..| .nilCheck _| .binOp ..| .unOp ..| .convert ..| .extract ..| .makeFunc ..| .makeInterface ..| .field ..| .fieldAddr ..| .indexAddr ..| .index ..| .slice ..| .lookup ..| .build ..=>0
 | .call {callee:=.builtin .len,..}| .call {callee:=.builtin .min,..}| .call {callee:=.builtin .max,..}=>0
 | .alloc _| .box ..| .makeMap ..| .makeSlice ..| .buildSlice ..=>1
 | .call {callee:=.value _,..}=>3
 |_=>2
noncomputable def lK (st:St):List Nat→(St→Bool)→Bool
 |[],k=>k st
 |d::ds,k=>match st.heap.get d with
  |some (.deferred true)=>ki st d (.deferred false) fun st=>lK st ds k
  |_=>false
noncomputable def dD (P:Program) (st:St) (e:Env):List ResultVar→(List AV→Bool)→Bool
 |[],k=>k []
 | .tmp t::rs,k=>match e.get t with
  |some v=>dD P st e rs fun vs=>k (v::vs)
  |none=>false
 | .cell a t::rs,k=>match e.get a with
  |some (.ptr id ep off)=>sF P st t id ep off false fun v=>dD P st e rs fun vs=>k (v::vs)
  |_=>false
def I2 (vs:List AV):AV:=
 match vs with
 |[v]=>v
 |vs=> .n8 vs
noncomputable def DB:List AV→Nat→Env→(Env→Bool)→Bool
 |[],_,e,k=>k e
 |v::vs,i,e,k=>e.mU i v fun e=>dI (i+1) fun i=>DB vs i e k
abbrev dh:=Ctx→Code→Env→List Nat→St→KX→Bool
def kR (fn : Func) : Bool := !(fn.name == "runtime.NumGoroutine")
noncomputable def vw (P:Program) (rec:dh) (f:FuncId) (args:List AV) (st:St) (k:AV→St→Bool):Bool:=
 match P.funcs[f]? with
 |some fn=>match fn.body,kR fn,Nat.ble args.length fn.ntmps with
  |some c,true,true=>DB args 0 .lf fun e=>rec ⟨f,fn.ntmps,none⟩ c e [] st fun x e ds st=>match x with
   | .exit _=>false
   |_=>lK st ds fun st=>dD P st e fn.results.toList fun vs=>k (I2 vs) st
  |_,_,_=>false
 |none=>false
noncomputable def lL (n:Nat):List Tmp→List AV→Env→(Env→Bool)→Bool
 |[],[],e,k=>k e
 |t::ts,v::vs,e,k=>match Nat.blt t n with|true=>e.mU t v fun e=>lL n ts vs e k|false=>false
 |_,_,_,_=>false
noncomputable def du (st:St) (id:Nat) (s:LoopState) (p:Option Code) (k:St→Bool):Bool:=
 match st.heap.get id with
 |some (.loop _ _ fn env n params assign body defers)=>ki st id (.loop s p fn env n params assign body defers) k
 |_=>false
noncomputable def zg (rec:dh) (id:Nat) (args:List AV) (st:St) (k:AV→St→Bool):Bool:=
 match st.heap.get id with
 |some (.loop _ _ fn env n params assign body defers)=>lL n params args env fun e=>
  rec ⟨fn,n,some id⟩ assign e [] st fun x e ds st=>match x,ds with
   | .norm,[]=>match st.heap.get id with
    |some (.loop .ready p0 _ _ _ _ _ _ _)=>du st id .busy p0 fun st=>
     rec ⟨fn,n,some id⟩ body e [] st fun x e ds st=>match ds with
      |[]=>match x with
       | .norm=>du st id .ready none fun st=>k (.bool true) st
       | .exit j=>du st id .done (some (.exit j)) fun st=>k (.bool false) st
       | .ret=>du st id .done (some .ret) fun st=>k (.bool false) st
      |_::_=>false
    |_=>false
   |_,_=>false
 |_=>false
noncomputable def sg (P:Program) (rec:dh) (f:AV) (args:List AV) (st:St) (k:AV→St→Bool):Bool:=
 match f with
 | .fn g first cap=>vw P rec g (first++args++cap) st k
 | .yield id=>zg rec id args st k
 |_=>false
noncomputable def wS (P:Program) (rec:dh) (e:Env) (o:Oper) (st:St) (k:AV→St→Bool):Bool:=
 match bx o with
 |0=>km P st e o false fun v=>k v st
 |1=>wU P e o false fun r s=>zL st r fun id st=>k (s.mk id) st
 |2=>wT P st e o k
 |_=>match o.op with
  | .call {callee:=.value f,args,..}=>fR e f false fun f=>mf e args.toList false fun args=>sg P rec f args st k
  |_=>false
noncomputable def zB (P:Program) (rec:dh) (c:Ctx) (ops:Array Oper):List Nat→Env→St→(Env→St→Bool)→Bool
 |[],e,st,k=>k e st
 |i::is,e,st,k=>match ops[i]? with
  |none=>zB P rec c ops is e st k
  |some o=>match ff ops o e with
   |some true=>wS P rec e o st fun v st=>jU c.n e o.dst v fun e=>zB P rec c ops is e st k
   |some false=>jU c.n e o.dst bX fun e=>zB P rec c ops is e st k
   |none=>false
noncomputable def tj (P:Program) (rec:dh) (c:Ctx) (f:Operand) (params:Array Tmp) (assign body:Code) (e:Env) (ds:List Nat) (st:St) (k:KX):Bool:=
 fR e f false fun f=>
  (fun(go:Nat→List Nat→St→Bool)=>match c.round with
   |none=>zL st (.deferred true) fun d st=>go d (d::ds) st
   |some l=>match st.heap.get l with
    |some (.loop _ _ _ _ _ _ _ _ d)=>go d ds st
    |_=>false) fun d ds st=>
   zL st (.loop .ready none c.fn e c.n params.toList assign body d) fun l st=>
    sg P rec f [.yield l] st fun _ st=>match st.heap.get l with
     |some (.loop s p _ _ _ _ _ _ _)=>match s with
      | .busy=>false
      |_=>du st l .exhausted p fun st=>match p with
       |none=>k .norm e ds st
       |some (.exit j)=>k (.exit j) e ds st
       |some .ret=>k .ret e ds st
       |some _=>false
     |_=>false
def cy (ops:Array Oper) (j:Nat):List Nat:=
 match ops[j]? with
 |some o=>(o.after.toList.filter fun e=>Region.binds .any e).map (·.on)
 |none=>[]
def sv:List Nat→List Nat→List Nat
 |[],m=>m
 |a::l,m=>match m.contains a with|true=>sv l m|false=>sv l (a::m)
def mO:List (List Nat)→List Nat
 |[]=>[]
 |l::ls=>sv l (mO ls)
def Gt (ops:Array Oper):Nat→Nat→List Nat
 |0,_=>[]
 |f+1,j=>mO (cy ops j::(cy ops j).map (Gt ops f))
def dE (ops:Array Oper) (i:Nat):Bool:=
 match ops[i]? with
 |some o=>Nat.blt (bx o) 2
 |none=>true
def sched (ops:Array Oper):Nat→List Nat→List Nat
 |0,_=>[]
 |f+1,done=>match(List.range ops.size).filter fun i=> !done.contains i&&(cy ops i).all done.contains with
  |[]=>[]
  |r::rs=>match(r::rs).find? (dE ops)with
   |some i=>i::sched ops f (i::done)
   |none=>r::sched ops f (r::done)
noncomputable def recheck (P:Program) (ops:Array Oper) (st:St) (e:Env):List Nat→Bool
 |[]=>true
 |i::is=>(match ops[i]? with
  |some o=>match bx o,ff ops o e with
   |0,some true=>km P st e o false fun v=>match o.dst with
    |some d=>match e.get d with
     |some u=>AV.beq v u
     |none=>false
    |none=>true
   |0,none=>false
   |_,_=>true
  |none=>true)&&recheck P ops st e is
noncomputable def nE (P:Program) (rec:dh) (c:Ctx) (ops:Array Oper):List Nat→List Nat→Env→St→(Env→St→Bool)→Bool
 |[],_,e,st,k=>k e st
 |i::is,done,e,st,k=>match ops[i]? with
  |none=>false
  |some o=>match ff ops o e with
   |some true=>wS P rec e o st fun v st=>jU c.n e o.dst v fun e=>
    (match bx o with
     |0=>true
     |1=>recheck P ops st e done
     |_=>recheck P ops st e (done.filter fun j=> !(Gt ops ops.size i).contains j))&&nE P rec c ops is (i::done) e st k
   |some false=>jU c.n e o.dst bX fun e=>nE P rec c ops is (i::done) e st k
   |none=>false
def looks (ops:Array Oper) (o:Oper):List Tmp:=
 (o.op.operands.toList.filterMap fun x=>match x with| .tmp t=>some t|_=>none)++
 (match o.guard with
  |some (g,_)=>((ops[g]?).bind (·.dst)).toList
  |none=>[])
def mg (ops:Array Oper):Bool:=
 (List.range ops.size).all fun i=>(List.range ops.size).all fun j=>match ops[i]?,ops[j]? with
  |some x,some y=>match x.dst with
   |some d=>match Nat.beq i j with
    |true=> !(looks ops y).contains d||Nat.ble 2 (bx y)
    |false=>(match y.dst with|some d'=> !Nat.beq d d'|none=>true)&&(!(looks ops y).contains d||(cy ops j).contains i||(Nat.ble 2 (bx x)&&(Gt ops ops.size i).contains j))
   |none=>true
  |_,_=>true
def gN (ops:Array Oper):List Nat→Bool
 |[]=>true
 |i::is=>(match dE ops i with
  |true=>true
  |false=>is.all fun j=>(Gt ops ops.size j).contains i)&&gN ops is
def mm (ops:Array Oper):Bool:=
 (List.range ops.size).all (sched ops ops.size []).contains&&mg ops&&gN ops (sched ops ops.size [])&&
 (List.range ops.size).all fun j=>(cy ops j).all fun i=>Nat.blt i j
noncomputable def Di (P:Program) (rec:dh) (c:Ctx) (ops:Array Oper) (e:Env) (st:St) (k:Env→St→Bool):Bool:=
 match mm ops with
 |true=>nE P rec c ops (sched ops ops.size []) [] e st k
 |false=>false
noncomputable def Dm (P:Program) (rec:dh) (c:Ctx) (x:Code) (e:Env) (ds:List Nat) (st:St) (k:KX):Bool:=
 match x with
 | .skip=>k .norm e ds st
 | .label _=>k .norm e ds st
 | .region _ ops false=>zB P rec c ops (List.range ops.size) e st fun e st=>k .norm e ds st
 | .region _ ops true=>Di P rec c ops e st fun e st=>k .norm e ds st
 | .seq a b=>rec c a e ds st fun x e ds st=>match x with
  | .norm=>rec c b e ds st k
  |x=>k x e ds st
 | .cond o a b=>fR e o false fun v=>match v with
  | .bool true=>rec c a e ds st k
  | .bool false=>rec c b e ds st k
  |_=>false
 | .block id b=>rec c b e ds st fun x e ds st=>match x with
  | .exit j=>match Nat.beq j id with
   |true=>k .norm e ds st
   |false=>k (.exit j) e ds st
  |x=>k x e ds st
 | .loop b=>rec c b e ds st fun x e ds st=>match x with
  | .norm=>rec c (.loop b) e ds st k
  |x=>k x e ds st
 | .scope b=>rec c b e ds st k
 | .exit id=>k (.exit id) e ds st
 | .ret=>k .ret e ds st
 | .rangeFunc f params assign body=>tj P rec c f params assign body e ds st k
 |_=>false
noncomputable def exec (P:Program) (fuel:Nat):dh:=Nat.rec (fun _ _ _ _ _ _=>false) (fun _ rec c x e ds st k=>Dm P rec c x e ds st k) fuel
noncomputable def run (P:Program) (fuel:Nat) (f:FuncId) (args:List AV) (ok:AV→Bool):Bool:=vw P (exec P fuel) f args ⟨.lf,0⟩ fun v _=>ok v
end Go.Il
namespace Go.Il
variable [Sym]
inductive Ba (ρ:bL):List Nat→List Deferred→Prop where
 |nil:Ba ρ [] []
 |cons (id:Nat) (p:Pl) (l:List Nat) (l':List Deferred) (h:ρ id 0=some p) (hl:Ba ρ l l'):Ba ρ (id::l) ({target:=.collected p.blk,args:= #[]}::l')
variable {ρ':bL}
theorem Ba.mono {ρ:bL} (h:ρ.le ρ'):∀{l:List Nat} {l':List Deferred},Ba ρ l l'→Ba ρ' l l'
 |_,_,.nil=> .nil
 |_,_,.cons id p l l' e hl=> .cons id p l l' (h _ _ _ e) (hl.mono h)
def nJ (ρ:bL) (r:Option Nat) (r':Option Nat):Prop:=
 match r with
 |none=>r'=none
 |some id=>∃p,ρ id 0=some p∧r'=some p.blk
theorem nJ.mono {ρ:bL} (h:ρ.le ρ') {r r':Option Nat} (hr:nJ ρ r r'):nJ ρ' r r':=by
 cases r with
 |none=>exact hr
 |some id=>obtain⟨p,a,b⟩:=hr;exact⟨p,h _ _ _ a,b⟩
structure kD (ρ:bL) (c:Ctx) (e:Env) (ds:List Nat) (b:Frame) (a:Act):Prop where
 gl:iD ρ e a.tmps
 size:a.tmps.size=c.n
 marks:Ba ρ ds a.defers
 kind:b.kind=.normal
 fn:b.fn=c.fn
 round:nJ ρ c.round b.roundOf
variable {c:Ctx} {ds:List Nat}
theorem kD.mono {ρ:bL} (h:ρ.le ρ') {e:Env} {b:Frame} {a:Act} (hf:kD ρ c e ds b a):kD ρ' c e ds b a:=
 ⟨hf.gl.mono h,hf.size,hf.marks.mono h,hf.kind,hf.fn,hf.round.mono h⟩
def DP (P:Program) (m:Machine) (b:Frame) (k:List Item) (cs:List Frame) (x:AX) (a:Act) (w:World):Prop:=
 match x with
 | .norm=>Steps P m (lone (b.atR a k) cs w)
 | .exit id=>∃j,exitTo id (j++k)=exitTo id k∧Steps P m (lone (b.atR a (.code (.exit id)::(j++k))) cs w)
 | .ret=>∃todo,Steps P m (lone (b.atR a (.code .ret::todo)) cs w)
theorem DP.of_steps {P:Program} {m m₁:Machine} {b:Frame} {k:List Item} {cs:List Frame} {x:AX} {a:Act} {w:World} (h:Steps P m m₁) (h':DP P m₁ b k cs x a w):DP P m b k cs x a w:=by
 cases x with
 |norm=>exact h.trans h'
 |exit id=>obtain⟨j,hj,hs⟩:=h';exact⟨j,hj,h.trans hs⟩
 |ret=>obtain⟨todo,hs⟩:=h';exact⟨todo,h.trans hs⟩
section
variable {B : Nat → Prop} {ρ : bL} {st : St} {w : World} {P : Program}
def S6 (B:Nat→Prop) (P:Program) (c:Ctx) (b:Frame) (ρ:bL) (st:St) (w:World) (m:Machine) (kk:List Item) (cs:List Frame) (k:KX):Prop:=
 ∃x e' Ip bt ρ' a' w',k x e' Ip bt=true∧aV B ρ' bt w'∧kD ρ' c e' Ip b a'∧gX B ρ st w ρ' bt w'∧DP P m b kk cs x a' w'
def iP (B:Nat→Prop) (P:Program) (rec:dh):Prop:=
 ∀(c:Ctx) (x:Code) (e:Env) (ds:List Nat) (st:St) (k:KX),rec c x e ds st k=true→
  ∀(ρ:bL) (w:World) (b:Frame) (a:Act) (kk:List Item) (cs:List Frame),aV B ρ st w→kD ρ c e ds b a→S6 B P c b ρ st w (lone (b.atR a (.code x::kk)) cs w) kk cs k
def IA (B:Nat→Prop) (P:Program) (ρ:bL) (st:St) (w:World) (fr:Frame) (cs:List Frame) (k:AV→St→Bool):Prop:=
 ∀c,∃v bt ρ' v' w',k v bt=true∧aV B ρ' bt w'∧aL ρ' v v'∧gX B ρ st w ρ' bt w'∧Steps P (lone fr (c::cs) w) (lone (c.finish v') cs w')
theorem fy {ops:Array Oper} {o:Oper} {e:Env} {tmps:Array Value} {b:Bool} (ht:iD ρ e tmps) (h:ff ops o e=some b):Region.wanted o (yielded ops tmps)=b:=by
 unfold ff at h
 unfold Region.wanted
 split at h
 ·rename_i hg;rw[hg];cases h;rfl
 ·rename_i g want hg
  rw[hg]
  simp only[yielded]
  split at h
  ·rename_i t hd
   rw[hd]
   simp only[Option.bind_some]
   split at h
   ·rename_i b' hv
    cases h
    obtain⟨v',h1,h2⟩:=ht _ _ hv
    cases h2
    rw[h1]
    cases b'<;>cases want<;>rfl
   ·rename_i v uT hv
    cases h
    obtain⟨v',h1,h2⟩:=ht _ _ hv
    rw[h1]
    cases h2<;>first|rfl|(exact(uT _ rfl).elim)
   ·cases h
  ·rename_i hd
   rw[hd]
   cases h;rfl
variable {m s v x:AV} {f' ng m' s' v' x':Value}
theorem uq {e:Env} {b:Frame} {a:Act} {dst:Option Tmp} {k:Env→Bool} (hf:kD ρ c e ds b a) (hv:aL ρ v v') (h:jU c.n e dst v k=true):∃e',k e'=true∧kD ρ c e' ds b (a.put dst v'):=by
 unfold jU at h
 split at h
 ·rename_i d
  split at h
  ·rename_i bw
   rw[Tr.eG]at h
   have bw:d<a.tmps.size:=by rw[hf.size];simpa[Nat.blt_eq]using bw
   refine⟨_,h,⟨fun t u hu=>?_,by simp only[Act.put,Array.size_setIfInBounds];exact hf.size,hf.marks,hf.kind,hf.fn,hf.round⟩⟩
   rw[Tr.ib]at hu
   split at hu
   ·rename_i hd;subst hd;cases hu
    exact⟨v',by simp only[Act.put];rw[Array.getElem?_setIfInBounds,if_pos rfl,if_pos bw],hv⟩
   ·rename_i hd
    obtain⟨u',h1,h2⟩:=hf.gl t u hu
    exact⟨u',by simp only[Act.put];rw[Array.getElem?_setIfInBounds_ne hd];exact h1,h2⟩
  ·cases h
 ·exact⟨e,h,hf⟩
theorem wP (hs:aV B ρ st w) {e:Env} {tmps:Array Value} (ht:iD ρ e tmps):∀(rs:List ResultVar) (k:List AV→Bool),dD P st e rs k=true→
 ∃vs ka,k vs=true∧aP ρ vs ka∧(rs.mapM (fun r=>match r with| .tmp t=>pure (tmps.getD t undef)| .cell a t=>do loadVar t (←asAddr (tmps.getD a undef)):ResultVar→Sem Value)).run P w=.ok ka w:=by
 intro rs
 induction rs with
 |nil=>intro k h;exact⟨[],[],h,.nil,rfl⟩
 |cons r rs ih=>
  intro k h
  cases r with
  |tmp t=>
   simp only[dD]at h
   split at h<;>(try(cases h;done))
   rename_i v hv
   obtain⟨vs,ka,h1,h2,h3⟩:=ih _ h
   obtain⟨v',h4,h5⟩:=ht _ _ hv
   refine⟨v::vs,v'::ka,h1,.cons _ _ _ _ h5 h2,?_⟩
   have:tmps.getD t undef=v':=by simp[h4]
   simp only[List.mapM_cons,Sem.run_bind,Sem.run_pure,Result.andThen_ok,h3,this]
  |cell a t=>
   simp only[dD]at h
   split at h<;>(try(cases h;done))
   rename_i id ep off hv
   rw[uJ]at h
   split at h<;>(try(cases h;done))
   rename_i v hl
   obtain⟨vs,ka,h1,h2,h3⟩:=ih _ h
   obtain⟨u',h4,h5⟩:=ht _ _ hv
   obtain⟨p,rfl,hp,hb⟩:=h5.tl
   obtain⟨v',h6,h7⟩:=hs.load (P:=P) hp hb hl
   refine⟨v::vs,v'::ka,h1,.cons _ _ _ _ h6 h2,?_⟩
   have:tmps.getD a undef=.pointer (some ⟨p.blk,off-p.base,none⟩):=by simp[h4]
   have hA:(asAddr (.pointer (some ⟨p.blk,off-p.base,none⟩))).run P w=.ok ⟨p.blk,off-p.base,none⟩ w:=rfl
   simp only[List.mapM_cons,Sem.run_bind]
   rw[this,hA]
   simp only[Sem.run_pure,Result.andThen_ok,h7,h3]
theorem zs (hs:aV B ρ st w) {e:Env} {tmps:Array Value} (ht:iD ρ e tmps) {fn:Func} {k:List AV→Bool} (h:dD P st e fn.results.toList k=true):
 ∃vs v',k vs=true∧aL ρ (I2 vs) v'∧(results fn tmps).run P w=.ok v' w:=by
 obtain⟨vs,ka,h1,h2,h3⟩:=wP hs ht _ _ h
 have cN:(fn.results.mapM (fun r=>match r with| .tmp t=>pure (tmps.getD t undef)| .cell a t=>do loadVar t (←asAddr (tmps.getD a undef)):ResultVar→Sem Value)).run P w=.ok ka.toArray w:=by
  rw[Array.mapM_eq_mapM_toList]
  simp only[Sem.run_map,h3,Result.andThen_ok]
 refine⟨vs,if h:ka.toArray.size=1 then ka.toArray[0]else .tuple ka.toArray,h1,?_,?_⟩
 ·cases h2 with
  |nil=>exact .n8 _ _ .nil
  |cons v v' l l' hv hl=>cases hl with
   |nil=>exact hv
   |cons u u' m m' hu hm=>exact .n8 _ _ (.cons _ _ _ _ hv (.cons _ _ _ _ hu hm))
 ·simp only[results,Sem.run_bind]
  erw[cN]
  rfl
end
end Go.Il
namespace Go.Il
variable [Sym]
section
variable {B : Nat → Prop} {ρ : bL} {st : St} {w : World} {P : Program}
variable {d l n:Nat} {p:Pl}
theorem ug (hs:aV B ρ st w) (hp:ρ d 0=some p) (hg:st.heap.get d=some (.deferred true)):
 (Instr.takeDeferred p.blk).run P w=.ok [] {w with heap:=w.heap.setIfInBounds p.blk (.deferred none)}∧
  aV B ρ ⟨st.heap.set d (.deferred false),st.next⟩ {w with heap:=w.heap.setIfInBounds p.blk (.deferred none)}∧gX B ρ st w ρ ⟨st.heap.set d (.deferred false),st.next⟩ {w with heap:=w.heap.setIfInBounds p.blk (.deferred none)}:=by
 obtain⟨_,_,_,r,hr,hrel⟩:=hs.mapped _ _ _ hp
 rw[hg]at hr;cases hr
 have hh:w.heap[p.blk]?=some (.deferred (some [])):=hrel.2
 obtain⟨s1,s2⟩:=hs.setObj (r':=.deferred false) (o':=.deferred none) hp hg rfl ⟨rfl,rfl⟩
 refine⟨?_,s1,s2⟩
 simp only[Instr.takeDeferred,Sem.run_bind,bU (P:=P) hh rfl,Result.andThen_ok,cX (P:=P) hh rfl,Sem.run_pure]
variable {fr:Frame} {w' w1:World}
theorem IS {cs:List Frame} {blk:Nat} {ds:List Deferred} (hm:fr.mode=.returning) (hd:fr.defers={target:=.collected blk,args:= #[]}::ds) (hr:(Instr.takeDeferred blk).run P w=.ok [] w'):
 step P (lone fr cs w)=.next (lone {fr with defers:=ds} cs w'):=
 step_lone_go (by
  simp only[stepG,hm,unwind,hd,Sem.runT_eq,hr]
  simp)
theorem yW:∀(l:List Nat) (st:St) (w:World) (k:St→Bool) (fr:Frame) (ds:List Deferred),aV B ρ st w→Ba ρ l ds→fr.mode=.returning→fr.defers=ds→lK st l k=true→
 ∃bt w',k bt=true∧aV B ρ bt w'∧gX B ρ st w ρ bt w'∧∀cs,Steps P (lone fr cs w) (lone {fr with defers:=[]} cs w'):=by
 intro l
 induction l with
 |nil=>
  intro st w k fr ds hs hd hm hf h
  cases hd
  refine⟨st,w,h,hs,.refl _ _ _ _,fun cs=>?_⟩
  have:({fr with defers:=[]}:Frame)=fr:=by rw[←hf]
  rw[this];exact .refl _ _
 |cons d l ih=>
  intro st w k fr ds hs hd hm hf h
  cases hd with
  |cons _ p _ Ip hp hl=>
   simp only[lK]at h
   split at h<;>(try(cases h;done))
   rename_i hg
   rw[eH]at h
   obtain⟨hr,s1,s2⟩:=ug (P:=P) hs hp hg
   obtain⟨bt,w',h1,h2,h3,h4⟩:=ih _ _ k {fr with defers:=Ip} Ip s1 hl hm rfl h
   exact⟨bt,w',h1,h2,s2.trans h3,fun cs=> .head (IS hm hf hr) (h4 cs)⟩
theorem Gp:∀(vs:List AV) (i:Nat) (e:Env) (k:Env→Bool) (tmps:Array Value),DB vs i e k=true→iD ρ e tmps→(∀j v,vs[j]?=some v→∃v',tmps[i+j]?=some v'∧aL ρ v v')→∃e',k e'=true∧iD ρ e' tmps:=by
 intro vs
 induction vs with
 |nil=>intro i e k tmps h ht _;exact⟨e,h,ht⟩
 |cons v vs ih=>
  intro i e k tmps h ht hv
  simp only[DB,Tr.eG,bE]at h
  refine ih (i+1) _ k tmps h (fun t u hu=>?_) (fun j u hj=>?_)
  ·rw[Tr.ib]at hu
   split at hu
   ·rename_i WA;subst WA;cases hu
    simpa using hv 0 v (by simp)
   ·exact ht t u hu
  ·have:=hv (j+1) u (by simpa using hj)
   rw[Nat.add_assoc,Nat.add_comm 1 j];exact this
variable {f:FuncId} {args':Array Value}
theorem fq {rec:dh} (dG:iP B P rec) (hs:aV B ρ st w) {args:List AV} {k:AV→St→Bool} (ha:aP ρ args args'.toList) (h:vw P rec f args st k=true) (cs:List Frame):
 (∃fn c,P.funcs[f]?=some fn∧fn.body=some c∧kR fn=true)∧
 ∃v bt ρ' v' w' fr,k v bt=true∧aV B ρ' bt w'∧aL ρ' v v'∧gX B ρ st w ρ' bt w'∧Steps P (lone (Frame.enter P f args' .normal) cs w) (lone fr cs w')∧fr.fn=f∧fr.leaving P w' (.returned v'):=by
 unfold vw at h
 split at h<;>(try(cases h;done))
 rename_i fn wm
 split at h<;>(try(cases h;done))
 rename_i c hc ca hlen
 have hlen:=Nat.le_of_ble_eq_true hlen
 refine⟨⟨fn,c,wm,hc,ca⟩,?_⟩
 have J3:args'.size=args.length:=by rw[←Array.length_toList];exact ha.length
 obtain⟨tmps,DR⟩:∃t:Array Value,t=args'++Array.replicate (fn.ntmps-args'.size) undef:=⟨_,rfl⟩
 obtain⟨e,he,TQ⟩:=Gp (ρ:=ρ) args 0 .lf _ tmps h (fun t v hv=>by rw[Tr.ny]at hv;cases hv) (fun j v hj=>by
  obtain⟨v',h1,h2⟩:=ha.get hj
  refine⟨v',?_,h2⟩
  have h3:args'[j]?=some v':=by simpa using h1
  rw[Nat.zero_add,DR,Array.getElem?_append_left (Array.getElem?_eq_some_iff.1 h3).1]
  exact h3)
 let b:Frame:={(default:Frame)with fn:=f,kind:=.normal}
 have WE:Frame.enter P f args' .normal=b.atR {tmps,defers:=[]} [.code c]:=by
  simp[Frame.enter,Frame.atR,wm,hc,b,DR]
  rfl
 have hf:kD ρ ⟨f,fn.ntmps,none⟩ e [] b {tmps,defers:=[]}:=⟨TQ,by rw[DR];simp;omega,.nil,rfl,rfl,rfl⟩
 obtain⟨x,e',Ip,bt,ρ',a',w',hk,Cy,Ad,W0,WX⟩:=dG _ _ _ _ _ _ he ρ w b _ [] cs hs hf
 rw[←WE]at WX
 have ret:∃fr,fr.mode=.returning∧fr.fn=f∧fr.kind=.normal∧fr.tmps=a'.tmps∧fr.defers=a'.defers∧Steps P (lone (Frame.enter P f args' .normal) cs w) (lone fr cs w')∧(lK bt Ip fun st=>dD P st e' fn.results.toList fun vs=>k (I2 vs) st)=true:=by
  cases x with
  |exit j=>cases hk
  |norm=>exact⟨_,rfl,rfl,rfl,rfl,rfl,Steps.trans WX (.one (stepR_end (b:=b) rfl)),hk⟩
  |ret=>obtain⟨todo,gR⟩:=WX;exact⟨_,rfl,rfl,rfl,rfl,rfl,Steps.trans gR (.one (stepR_ret (b:=b) rfl)),hk⟩
 obtain⟨fr,m1,m2,m3,m4,m5,m6,m7⟩:=ret
 obtain⟨Eu,w2,n1,n2,n3,n4⟩:=yW (P:=P) Ip bt w' _ fr a'.defers Cy Ad.marks m1 m5 m7
 have nU:iD ρ' e' fr.tmps:=by rw[m4];exact Ad.gl
 obtain⟨vs,v',r1,r2,r3⟩:=zs n2 nU n1
 exact⟨_,Eu,ρ',v',w2,{fr with defers:=[]},r1,n2,r2,W0.trans n3,m6.trans (n4 cs),m2,m1,rfl,m3,fn,by rw[m2];exact wm,r3⟩
theorem AA {fn:Func} {c:Code} (hf:P.funcs[f]?=some fn) (hb:fn.body=some c) (hc:kR fn=true) (args:Array Value) (w:World):(callFunc f args).run P w=.ok (.enter f args) w:=by
 unfold kR at hc
 have hn : (fn.name == "runtime.NumGoroutine") = false := by simpa using hc
 simp only[callFunc,Sem.run_bind,run_program,Result.andThen_ok,hf,hn,Bool.false_eq_true,if_false,hb,Option.isNone,Sem.run_pure]
end
end Go.Il
namespace Go.Il
variable [Sym]
section
variable {B : Nat → Prop} {ρ : bL} {st : St} {w : World} {P : Program}
variable {p:Pl} {s0:LoopState} {p0:Option Code} {d l n:Nat}
theorem qq (hs:aV B ρ st w) {id:Nat} {fn:FuncId} {env:Tr AV} {params:List Tmp} {assign body:Code} {defers:Nat} (hp:ρ id 0=some p) (hg:st.heap.get id=some (.loop s0 p0 fn env n params assign body defers)):
 ∃l,w.heap[p.blk]?=some (.loop l)∧AU ρ (.loop s0 p0 fn env n params assign body defers) l:=by
 obtain⟨_,_,_,r,hr,hrel⟩:=hs.mapped _ _ _ hp
 rw[hg]at hr;cases hr
 exact hrel.2
theorem o8 (hs:aV B ρ st w) {id:Nat} {fn:FuncId} {env:Tr AV} {params:List Tmp} {assign body:Code} {defers:Nat} (hp:ρ id 0=some p) (hg:st.heap.get id=some (.loop s0 p0 fn env n params assign body defers)) {l:Loop}
 (hl:AU ρ (.loop s0 p0 fn env n params assign body defers) l) (s:LoopState) (pd:Option Code):
 aV B ρ ⟨st.heap.set id (.loop s pd fn env n params assign body defers),st.next⟩ {w with heap:=w.heap.setIfInBounds p.blk (.loop {l with state:=s,pending:=pd})}∧
  gX B ρ st w ρ ⟨st.heap.set id (.loop s pd fn env n params assign body defers),st.next⟩ {w with heap:=w.heap.setIfInBounds p.blk (.loop {l with state:=s,pending:=pd})}:=by
 refine hs.setObj hp hg rfl ⟨rfl,_,rfl,?_⟩
 obtain⟨x1,x2,x3,x4,x5,x6,x7,x8,x9⟩:=hl
 exact⟨rfl,rfl,x3,x4,x5,x6,x7,x8,x9⟩
theorem ow {st:St} {id:Nat} {fn:FuncId} {env:Tr AV} {params:List Tmp} {assign body:Code} {defers:Nat} (hg:st.heap.get id=some (.loop s0 p0 fn env n params assign body defers)) (s:LoopState) (pd:Option Code) (k:St→Bool):
 du st id s pd k=k ⟨st.heap.set id (.loop s pd fn env n params assign body defers),st.next⟩:=by
 unfold du
 rw[hg]
 simp only[eH]
theorem uc:∀(ts:List Tmp) (vs:List AV) (e:Env) (k:Env→Bool) (ka:List Value) (tmps:Array Value),lL n ts vs e k=true→iD ρ e tmps→tmps.size=n→aP ρ vs ka→
 ka.length=ts.length∧∃e',k e'=true∧iD ρ e' ((ts.zip ka).foldl (fun tmps (p:Tmp×Value)=>tmps.setIfInBounds p.1 p.2) tmps)∧((ts.zip ka).foldl (fun tmps (p:Tmp×Value)=>tmps.setIfInBounds p.1 p.2) tmps).size=n:=by
 intro ts
 induction ts with
 |nil=>
  intro vs e k ka tmps h ht hn hv
  cases vs with
  |nil=>cases hv;exact⟨rfl,e,h,ht,hn⟩
  |cons _ _=>cases h
 |cons t ts ih=>
  intro vs e k ka tmps h ht hn hv
  cases vs with
  |nil=>cases h
  |cons v vs=>
   cases hv with
   |cons _ v' _ ka hx hl=>
    simp only[lL]at h
    split at h<;>(try(cases h;done))
    rename_i bw
    have bw:t<tmps.size:=by rw[hn];simpa[Nat.blt_eq]using bw
    rw[Tr.eG]at h
    obtain⟨h1,h2⟩:=ih vs _ k ka (tmps.setIfInBounds t v') h (fun i u hu=>by
     rw[Tr.ib]at hu
     split at hu
     ·rename_i WA;subst WA;cases hu
      exact⟨v',by rw[Array.getElem?_setIfInBounds,if_pos rfl,if_pos bw],hx⟩
     ·rename_i WA
      obtain⟨u',g1,g2⟩:=ht i u hu
      exact⟨u',by rw[Array.getElem?_setIfInBounds_ne WA];exact g1,g2⟩) (by rw[Array.size_setIfInBounds];exact hn) hl
    exact⟨by simp only[List.length_cons,h1],h2⟩
variable {args':Array Value}
theorem BF {rec:dh} (dG:iP B P rec) (hs:aV B ρ st w) {id:Nat} {args:List AV} {k:AV→St→Bool} (hp:ρ id 0=some p) (ha:aP ρ args args'.toList) (h:zg rec id args st k=true) (cs:List Frame):
 ∃f tmps assign body,(Instr.yield p.blk args').run P w=.ok (.round p.blk f tmps assign body) w∧IA B P ρ st w (Frame.round p.blk f tmps assign body .normal) cs k:=by
 unfold zg at h
 split at h<;>(try(cases h;done))
 rename_i s0 p0 fn env n params assign body defers hg
 obtain⟨l,hl,Qq⟩:=qq hs hp hg
 obtain⟨x1,x2,x3,x4,x5,x6,x7,x8,x9⟩:=Qq
 obtain⟨hlen,e,he,TQ,cC⟩:=uc params args env _ args'.toList l.tmps h x5 x4 ha
 obtain⟨tmps,DR⟩:∃t:Array Value,t=(params.zip args'.toList).foldl (fun tmps (p:Tmp×Value)=>tmps.setIfInBounds p.1 p.2) l.tmps:=⟨_,rfl⟩
 rw[←DR]at TQ cC
 have Wk:args'.size=l.params.size:=by rw[←Array.length_toList,←Array.length_toList,x6];exact hlen
 refine⟨fn,tmps,assign,body,?_,fun c=>?_⟩
 ·have e1:(l.params.zip args').foldl (fun tmps (t,a)=>tmps.setIfInBounds t a) l.tmps=tmps:=by
   rw[DR,←x6,←Array.foldl_toList,Array.toList_zip]
  simp only[Instr.yield,Instr.getLoop,Sem.run_bind,bU (P:=P) hl rfl,Result.andThen_ok,Sem.run_pure]
  rw[if_neg (by simp[Wk])]
  simp only[Sem.run_pure]
  rw[x3,x7,x8]
  congr 2
 ·let b:Frame:={(default:Frame)with fn:=fn,kind:=.normal,roundOf:=some p.blk}
  have kN:Frame.round p.blk fn tmps assign body .normal=b.atR {tmps,defers:=[]} (.code assign::[.beginRound,.code body]):=rfl
  have hf:kD ρ ⟨fn,n,some id⟩ e [] b {tmps,defers:=[]}:=⟨TQ,cC,.nil,rfl,rfl,p,hp,rfl⟩
  obtain⟨y,e1,ds1,P4,ρ1,a1,w1,k1,s1,f1,d1,r1⟩:=dG _ _ _ _ _ _ he ρ w b _ [.beginRound,.code body] (c::cs) hs hf
  rw[←kN]at r1
  dsimp only at k1
  split at k1<;>(try(cases k1;done))
  split at k1<;>(try(cases k1;done))
  rename_i q0 fn1 env1 n1 params1 assign1 body1 defers1 Fz
  have DU:=d1.le _ _ _ hp
  obtain⟨l1,Lb,Wy⟩:=qq s1 DU Fz
  rw[ow Fz]at k1
  obtain⟨s2,d2⟩:=o8 s1 DU Fz Wy .busy q0
  have hbr:(Instr.beginRound p.blk).run P w1=.ok () {w1 with heap:=w1.heap.setIfInBounds p.blk (.loop {l1 with state:=.busy,pending:=q0})}:=by
   have gR:l1.state=.ready:=Wy.1
   have JO:l1.pending=q0:=Wy.2.1
   simp only[Instr.beginRound,Instr.getLoop,Sem.run_bind,bU (P:=P) Lb rfl,Result.andThen_ok,Sem.run_pure,cX (P:=P) Lb rfl,gR]
   rw[←JO]
  have f2:kD ρ1 ⟨fn,n,some id⟩ e1 [] b a1:=f1
  obtain⟨z,e3,ds3,Y3,ρ3,a3,w3,k3,s3,f3,d3,r3⟩:=dG _ _ _ _ _ _ k1 ρ1 _ b a1 [] (c::cs) s2 f2
  have pk:Steps P (lone (Frame.round p.blk fn tmps assign body .normal) (c::cs) w) (lone (b.atR a1 [.code body]) (c::cs) {w1 with heap:=w1.heap.setIfInBounds p.blk (.loop {l1 with state:=.busy,pending:=q0})}):=
   Steps.trans r1 (.one (stepR_beginRound rfl hbr))
  dsimp only at k3
  split at k3<;>(try(cases k3;done))
  have Qp:=d3.le _ _ _ DU
  have n9:∀(jump:Option Code) (bv:Bool) (hbv:bv=jump.isNone),du Y3 id (if jump.isNone then .ready else .done) jump (fun st=>k (.bool bv) st)=true→
   ∃bt,∃w',k (.bool bv) bt=true∧(Instr.endRound p.blk jump).run P w3=.ok (.bool bv) w'∧aV B ρ3 bt w'∧gX B ρ3 Y3 w3 ρ3 bt w':=by
   intro jump bv hbv hk
   unfold du at hk
   split at hk<;>(try(cases hk;done))
   rename_i sU
   rw[eH]at hk
   obtain⟨l3,NM,an2⟩:=qq s3 Qp sU
   obtain⟨s4,d4⟩:=o8 s3 Qp sU an2 (if jump.isNone then .ready else .done) jump
   refine⟨_,_,hk,?_,s4,d4⟩
   simp only[Instr.endRound,Instr.getLoop,Sem.run_bind,bU (P:=P) NM rfl,Result.andThen_ok,Sem.run_pure,cX (P:=P) NM rfl,hbv]
  have hd:gX B ρ st w ρ3 Y3 w3:=(d1.trans d2).trans d3
  cases z with
  |norm=>
   obtain⟨bt,w',g1,g2,g3,g4⟩:=n9 none true rfl k3
   exact⟨_,bt,ρ3,.bool true,w',g1,g3,.bool _,hd.trans g4,pk.trans (Steps.trans r3 (.one (stepR_round_end rfl rfl g2)))⟩
  |exit j=>
   obtain⟨bt,w',g1,g2,g3,g4⟩:=n9 (some (.exit j)) false rfl k3
   obtain⟨jj,hj,gR⟩:=r3
   exact⟨_,bt,ρ3,.bool false,w',g1,g3,.bool _,hd.trans g4,pk.trans (Steps.trans gR (.one (stepR_round_exit rfl rfl hj g2)))⟩
  |ret=>
   obtain⟨bt,w',g1,g2,g3,g4⟩:=n9 (some .ret) false rfl k3
   obtain⟨todo,gR⟩:=r3
   exact⟨_,bt,ρ3,.bool false,w',g1,g3,.bool _,hd.trans g4,pk.trans (Steps.trans gR (.one (stepR_round_ret rfl rfl g2)))⟩
end
end Go.Il
namespace Go.Il
variable [Sym]
section
variable {B : Nat → Prop} {ρ : bL} {st : St} {w : World} {P : Program} {b : Frame} {a : Act} {kk : List Item} {cs : List Frame} {ops : Array Oper} {i : Nat} {rest : List Nat} {o : Oper}
variable {f' ng m' s' v' x':Value} {nx:Next} {w' w1:World}
theorem jh (ho:ops[i]?=some o) (hw:Region.wanted o (yielded ops a.tmps)=true) (hd:∀c,o.op≠.defer c) (hr:(execOp a.eval o).run P w=.ok nx w') (hn:UT nx v'):
 step P (lone (b.atR a (.inRegion ops (i::rest)::kk)) cs w)=.next (lone (b.atR (a.put o.dst v') (.inRegion ops rest::kk)) cs w'):=by
 have hg:=stepGR_op (P:=P) (b:=b) (k:=kk) (cs:=cs) (w:=w) (rest:=rest) ho hw
 rw[Oper.semAt_eq _ _ _ hd]at hg
 have aH:(b.atR a (.inRegion ops (i::rest)::kk)).finish v'=b.atR (a.put o.dst v') (.inRegion ops rest::kk):=by rw[Frame.finish_atR,ho];rfl
 refine step_lone_go ?_
 rw[hg,←aH]
 rcases hn with rfl|⟨rfl,rfl⟩
 ·simp[stepG.apply,hr]
 ·simp[stepG.apply,hr]
variable {f:FuncId}
theorem Er {args:Array Value} (ho:ops[i]?=some o) (hw:Region.wanted o (yielded ops a.tmps)=true) (hd:∀c,o.op≠.defer c) (hr:(execOp a.eval o).run P w=.ok (.enter f args) w'):
 step P (lone (b.atR a (.inRegion ops (i::rest)::kk)) cs w)=.next (lone (Frame.enter P f args .normal) (b.atR a (.inRegion ops (i::rest)::kk)::cs) w'):=by
 have hg:=stepGR_op (P:=P) (b:=b) (k:=kk) (cs:=cs) (w:=w) (rest:=rest) ho hw
 rw[Oper.semAt_eq _ _ _ hd]at hg
 exact step_lone_go (by rw[hg];simp[stepG.apply,hr,Frame.atR])
variable {d l n:Nat}
theorem Ep {f:Nat} {tmps:Array Value} {assign body:Code} (ho:ops[i]?=some o) (hw:Region.wanted o (yielded ops a.tmps)=true) (hd:∀c,o.op≠.defer c) (hr:(execOp a.eval o).run P w=.ok (.round l f tmps assign body) w'):
 step P (lone (b.atR a (.inRegion ops (i::rest)::kk)) cs w)=.next (lone (Frame.round l f tmps assign body .normal) (b.atR a (.inRegion ops (i::rest)::kk)::cs) w'):=by
 have hg:=stepGR_op (P:=P) (b:=b) (k:=kk) (cs:=cs) (w:=w) (rest:=rest) ho hw
 rw[Oper.semAt_eq _ _ _ hd]at hg
 exact step_lone_go (by rw[hg];simp[stepG.apply,hr,Frame.atR])
theorem jZ (h:bx o≠2∨True) (hk:bx o=0∨bx o=1∨bx o=3):∀c,o.op≠.defer c:=by
 intro c hc
 unfold bx at hk
 rw[hc]at hk
 simp at hk
variable {args':Array Value}
theorem vv {rec:dh} (dG:iP B P rec) (hs:aV B ρ st w) {f:AV} {args:List AV} {k:AV→St→Bool} (hf:aL ρ f f') (ha:aP ρ args args'.toList) (h:sg P rec f args st k=true) (cs:List Frame):
 ∃nx fr,(do let d ←Deferred.ofValue f' args';invoke d.target d.args:Sem Next).run P w=.ok nx w∧
  ((∃g as,nx=.enter g as∧fr=Frame.enter P g as .normal)∨(∃l g t x y,nx=.round l g t x y∧fr=Frame.round l g t x y .normal))∧IA B P ρ st w fr cs k:=by
 unfold sg at h
 split at h<;>(try(cases h;done))
 ·rename_i g first cap
  cases hf with
  |fn _ _ _ first' cY h1 h2=>
   have Ie:aP ρ (first++args++cap) (first'++args'++cY).toList:=by
    rw[Array.toList_append,Array.toList_append];exact(h1.append ha).append h2
   obtain⟨⟨fn,c,q1,q2,q3⟩,_⟩:=fq dG hs Ie h cs
   refine⟨_,_,?_,.inl ⟨g,first'++args'++cY,rfl,rfl⟩,fun c=>?_⟩
   ·simp only[Deferred.ofValue,Sem.run_bind,Sem.run_pure,Result.andThen_ok,invoke]
    exact AA q1 q2 q3 _ _
   ·obtain⟨_,v,bt,ρ',v',w',fr,r1,r2,r3,r4,r5,r6,r7⟩:=fq dG hs Ie h (c::cs)
    exact⟨v,bt,ρ',v',w',r1,r2,r3,r4,r5.trans (.one (step_leave_returned r7))⟩
 ·rename_i id
  cases hf with
  |yield _ p hp=>
   obtain⟨g,t,x,y,q1,q2⟩:=BF dG hs hp ha h cs
   refine⟨_,_,?_,.inr ⟨p.blk,g,t,x,y,rfl,rfl⟩,q2⟩
   simp only[Deferred.ofValue,Sem.run_bind,Sem.run_pure,Result.andThen_ok,invoke,Array.empty_append]
   exact q1
theorem Ca {rec:dh} (dG:iP B P rec) (hs:aV B ρ st w) {e:Env} (ht:iD ρ e a.tmps) {k:AV→St→Bool} (ho:ops[i]?=some o) (hw:Region.wanted o (yielded ops a.tmps)=true) (h:wS P rec e o st k=true):
 ∃v bt ρ' v' w',k v bt=true∧aV B ρ' bt w'∧aL ρ' v v'∧gX B ρ st w ρ' bt w'∧
  Steps P (lone (b.atR a (.inRegion ops (i::rest)::kk)) cs w) (lone (b.atR (a.put o.dst v') (.inRegion ops rest::kk)) cs w'):=by
 unfold wS at h
 split at h
 ·rename_i hc
  rw[qj]at h
  split at h<;>(try(cases h;done))
  rename_i v hv
  obtain⟨v',h1,h2⟩:=Ha hs ht hv
  exact⟨v,st,ρ,v',w,h,hs,h1,.refl _ _ _ _,.one (jh ho hw (jZ (.inr trivial) (.inl hc)) h2 (.inl rfl))⟩
 ·rename_i hc
  rw[tp]at h
  split at h<;>(try(cases h;done))
  rename_i r s Nx
  rw[lU]at h
  obtain⟨obj,n,v',h1,h2,h3⟩:=Hb hs ht Nx
  obtain⟨ρ',g1,g2,g3⟩:=hs.alloc (r:=r) (o:=obj) (n:=n) (fun ρ' hle _=>h2 ρ' hle) (xW Nx)
  exact⟨_,_,ρ',v',_,h,g1,h3 ρ' _ g3,g2,.one (jh ho hw (jZ (.inr trivial) (.inr (.inl hc))) h1 (.inl rfl))⟩
 ·rename_i hc
  have hd:∀c,o.op≠.defer c:=fun c sL=>by
   unfold wT at h
   rw[sL]at h
   cases h
  obtain⟨v,bt,ρ',v',w',nx,h1,h2,h3,h4,h5,h6⟩:=Rv hs ht h
  exact⟨v,bt,ρ',v',w',h1,h5,h4,h6,.one (jh ho hw hd h2 h3)⟩
 ·split at h<;>(try(cases h;done))
  rename_i f args oS mK
  rw[bp]at h
  split at h<;>(try(cases h;done))
  rename_i fv cK
  rw[fw]at h
  split at h<;>(try(cases h;done))
  rename_i vs Qh
  have hd:∀c,o.op≠.defer c:=fun c sL=>by rw[sL]at mK;cases mK
  obtain⟨nx,fr,q1,q2,q3⟩:=vv dG hs (bo ht cK) (kP ht _ _ Qh) h cs
  have Um:(execOp a.eval o).run P w=.ok nx w:=by
   rw[←q1]
   obtain⟨dst,op,type,pos,after,guard⟩:=o
   simp only at mK
   subst mK
   simp only[execOp,resolve]
  obtain⟨v,bt,ρ',v',w',r1,r2,r3,r4,r5⟩:=q3 (b.atR a (.inRegion ops (i::rest)::kk))
  have aH:(b.atR a (.inRegion ops (i::rest)::kk)).finish v'=b.atR (a.put o.dst v') (.inRegion ops rest::kk):=by rw[Frame.finish_atR,ho];rfl
  rw[aH]at r5
  refine⟨v,bt,ρ',v',w',r1,r2,r3,r4,?_⟩
  rcases q2 with⟨g,as,rfl,rfl⟩|⟨l,g,t,x,y,rfl,rfl⟩
  ·exact .head (Er ho hw hd Um) r5
  ·exact .head (Ep ho hw hd Um) r5
end
end Go.Il
namespace Go.Il
variable [Sym]
section
variable {B : Nat → Prop} {P : Program}
variable {c:Ctx}
theorem Jf {rec:dh} (dG:iP B P rec) {ops:Array Oper}:∀(is:List Nat) (e:Env) (st:St) (k:Env→St→Bool),zB P rec c ops is e st k=true→
 ∀(ρ:bL) (w:World) (ds:List Nat) (b:Frame) (a:Act) (kk:List Item) (cs:List Frame),aV B ρ st w→kD ρ c e ds b a→
 ∃e' bt ρ' a' w',k e' bt=true∧aV B ρ' bt w'∧kD ρ' c e' ds b a'∧gX B ρ st w ρ' bt w'∧
  Steps P (lone (b.atR a (.inRegion ops is::kk)) cs w) (lone (b.atR a' kk) cs w'):=by
 intro is
 induction is with
 |nil=>
  intro e st k h ρ w ds b a kk cs hs hf
  exact⟨e,st,ρ,a,w,h,hs,hf,.refl _ _ _ _,.one stepR_region_end⟩
 |cons i is ih=>
  intro e st k h ρ w ds b a kk cs hs hf
  simp only[zB]at h
  split at h
  ·rename_i ho
   obtain⟨e',bt,ρ',a',w',h1,h2,h3,h4,h5⟩:=ih e st k h ρ w ds b a kk cs hs hf
   refine⟨e',bt,ρ',a',w',h1,h2,h3,h4,.head ?_ h5⟩
   have:=stepR_op_skip (P:=P) (b:=b) (a:=a) (k:=kk) (cs:=cs) (w:=w) (ops:=ops) (i:=i) (rest:=is) (by rw[ho];rfl)
   rw[ho]at this
   exact this
  ·rename_i o ho
   split at h
   ·rename_i hw
    have KS:=fy hf.gl hw
    obtain⟨v,P4,ρ1,v',w1,g1,g2,g3,g4,g5⟩:=Ca (b:=b) (kk:=kk) (cs:=cs) (rest:=is) dG hs hf.gl ho KS h
    obtain⟨e1,p1,p2⟩:=uq (hf.mono g4.le) g3 g1
    obtain⟨e',bt,ρ',a',w',h1,h2,h3,h4,h5⟩:=ih e1 P4 k p1 ρ1 w1 ds b _ kk cs g2 p2
    exact⟨e',bt,ρ',a',w',h1,h2,h3,g4.trans h4,g5.trans h5⟩
   ·rename_i hw
    have KS:=fy hf.gl hw
    obtain⟨e1,p1,p2⟩:=uq hf (v:=bX) (v':=undef) (.n8 _ _ .nil) h
    obtain⟨e',bt,ρ',a',w',h1,h2,h3,h4,h5⟩:=ih e1 st k p1 ρ w ds b _ kk cs hs p2
    refine⟨e',bt,ρ',a',w',h1,h2,h3,h4,.head ?_ h5⟩
    have:=stepR_op_skip (P:=P) (b:=b) (a:=a) (k:=kk) (cs:=cs) (w:=w) (ops:=ops) (i:=i) (rest:=is) (by rw[ho];simp[KS])
    rw[ho]at this
    exact this
   ·cases h
end
end Go.Il
namespace Go.Il
variable [Sym]
section
variable {B : Nat → Prop} {ρ : bL} {st : St} {w : World} {P : Program} {b : Frame} {a : Act} {kk : List Item} {cs : List Frame}
variable {d l n:Nat} {w' w1:World} {nx:Next} {fr:Frame}
theorem mS {f:Operand} {params:Array Tmp} {assign body:Code} {mark:List Deferred}
 (hr:(Instr.enterLoop b.fn a.tmps params assign body b.roundOf).run P w=.ok (l,mark) w1)
 (hq:(do let d ←Deferred.ofValue (a.eval f) #[.func (.yield l) #[] #[]];invoke d.target d.args:Sem Next).run P w1=.ok nx w1)
 (hn:(∃g as,nx=.enter g as∧fr=Frame.enter P g as .normal)∨(∃l g t x y,nx=.round l g t x y∧fr=Frame.round l g t x y .normal)):
 step P (lone (b.atR a (.code (.rangeFunc f params assign body)::kk)) cs w)=.next (lone fr (b.atR {a with defers:=mark++a.defers} (.inRangeFunc l::kk)::cs) w1):=by
 have he:(b.atR {a with defers:=mark++a.defers} (.inRangeFunc l::kk)).eval=a.eval:=(Frame.eval_atR b {a with defers:=mark++a.defers} (.inRangeFunc l::kk)).trans (funext fun x=>by cases x<;>rfl)
 have qA:(do let d ←resolve a.eval {callee:=.value f,args:= #[.const (.func (.yield l) #[] #[])],argTypes:= #[]} 0;invoke d.target d.args:Sem Next).run P w1=.ok nx w1:=by
  rw[←hq];simp[resolve,Act.eval]
 refine step_lone_go ?_
 simp only[Frame.atR]at he
 simp only[Sem.run_bind]at qA
 rcases hn with⟨g,as,rfl,rfl⟩|⟨l',g,t,x,y,rfl,rfl⟩
 ·simp only[stepG,stepG.exec,Frame.atR,Sem.runT_eq,hr,stepG.apply,he,Sem.run_bind,qA]
  simp
 ·simp only[stepG,stepG.exec,Frame.atR,Sem.runT_eq,hr,stepG.apply,he,Sem.run_bind,qA]
  simp
theorem pU {jump:Option Code} (hr:(Instr.endLoop l).run P w=.ok jump w1):
 step P (lone (b.atR a (.endRangeFunc l::kk)) cs w)=.next (lone (b.atR a ((jump.map Item.code).toList++kk)) cs w1):=
 step_lone_go (by simp[stepG,stepG.exec,Frame.atR,Sem.runT_eq,hr])
variable {c:Ctx} {ds:List Nat} {p:Pl} {f' ng m' s' v' x':Value}
theorem sB {rec:dh} (dG:iP B P rec) {e:Env} (hs:aV B ρ st w) (hf:kD ρ c e ds b a) (hp:ρ l 0=some p) {fv:AV} (cK:aL ρ fv f') {k:KX}
 (h:sg P rec fv [.yield l] st (fun _ st=>match st.heap.get l with
  |some (.loop s p _ _ _ _ _ _ _)=>match s with
   | .busy=>false
   |_=>du st l .exhausted p fun st=>match p with
    |none=>k .norm e ds st
    |some (.exit j)=>k (.exit j) e ds st
    |some .ret=>k .ret e ds st
    |some _=>false
  |_=>false)=true):
 ∃nx fr,(do let d ←Deferred.ofValue f' #[.func (.yield p.blk) #[] #[]];invoke d.target d.args:Sem Next).run P w=.ok nx w∧
  ((∃g as,nx=.enter g as∧fr=Frame.enter P g as .normal)∨(∃l g t x y,nx=.round l g t x y∧fr=Frame.round l g t x y .normal))∧
  S6 B P c b ρ st w (lone fr (b.atR a (.inRangeFunc p.blk::kk)::cs) w) kk cs k:=by
 obtain⟨nx,fr,q1,q2,q3⟩:=vv dG hs cK (args':= #[.func (.yield p.blk) #[] #[]]) (.cons _ _ _ _ (.yield _ p hp) .nil) h cs
 refine⟨nx,fr,q1,q2,?_⟩
 obtain⟨v,P4,ρ1,v1,w1,g1,g2,g3,g4,g5⟩:=q3 (b.atR a (.inRangeFunc p.blk::kk))
 have aH:(b.atR a (.inRangeFunc p.blk::kk)).finish v1=b.atR a (.endRangeFunc p.blk::kk):=rfl
 rw[aH]at g5
 dsimp only at g1
 split at g1<;>(try(cases g1;done))
 rename_i s pd fn0 env0 n0 params0 assign0 body0 defers0 hg
 have DU:=g4.le _ _ _ hp
 obtain⟨l1,Lb,Qq⟩:=qq g2 DU hg
 have gR:l1.state=s:=Qq.1
 have JO:l1.pending=pd:=Qq.2.1
 split at g1
 ·cases g1
 rename_i uT
 have hb:(s==.busy)=false:=by cases s<;>first|rfl|exact absurd rfl uT
 rw[ow hg]at g1
 have hk:=g1
 obtain⟨s2,d2⟩:=o8 g2 DU hg Qq .exhausted pd
 have n9:(Instr.endLoop p.blk).run P w1=.ok pd {w1 with heap:=w1.heap.setIfInBounds p.blk (.loop {l1 with state:=.exhausted,pending:=pd})}:=by
  simp only[Instr.endLoop,Instr.getLoop,Sem.run_bind,bU (P:=P) Lb rfl,Result.andThen_ok,Sem.run_pure,gR,hb,JO]
  simp only[Bool.false_eq_true,if_false,Sem.run_bind,Sem.run_pure,Result.andThen_ok,cX (P:=P) Lb rfl]
 have pk:=g5.trans (.one (pU (b:=b) (a:=a) (kk:=kk) (cs:=cs) n9))
 split at hk<;>(try(cases hk;done))
 ·exact⟨.norm,e,ds,_,ρ1,a,_,hk,s2,hf.mono g4.le,g4.trans d2,pk⟩
 ·rename_i j
  exact⟨.exit j,e,ds,_,ρ1,a,_,hk,s2,hf.mono g4.le,g4.trans d2,[],rfl,pk⟩
 ·exact⟨.ret,e,ds,_,ρ1,a,_,hk,s2,hf.mono g4.le,g4.trans d2,kk,pk⟩
theorem zu {rec:dh} (dG:iP B P rec) {e:Env} (hs:aV B ρ st w) (hf:kD ρ c e ds b a) {f:Operand} {params:Array Tmp} {assign body:Code} {k:KX}
 (h:tj P rec c f params assign body e ds st k=true):S6 B P c b ρ st w (lone (b.atR a (.code (.rangeFunc f params assign body)::kk)) cs w) kk cs k:=by
 unfold tj at h
 rw[bp]at h
 split at h<;>(try(cases h;done))
 rename_i fv cK
 have ab8:=bo hf.gl cK
 dsimp only at h
 split at h
 ·rename_i hr
  rw[lU,lU]at h
  have Ny:b.roundOf=none:=by have:=hf.round;rw[hr]at this;exact this
  obtain⟨ρ1,s1,d1,m1⟩:=hs.alloc (r:=.deferred true) (o:=.deferred (some [])) (n:=0) (fun _ _ _=>⟨rfl,rfl⟩)
  obtain⟨ρ2,s2,d2,m2⟩:=s1.alloc (r:=.loop .ready none c.fn e c.n params.toList assign body st.next) (o:=.loop {state:=.ready,pending:=none,fn:=b.fn,tmps:=a.tmps,params,assign,body,defers:=w.heap.size}) (n:=0)
   (fun ρ' hle _=>⟨rfl,_,rfl,rfl,rfl,hf.fn,hf.size,hf.gl.mono (fun a b c h=>hle _ _ _ (d1.le _ _ _ h)),rfl,rfl,rfl,_,hle _ _ _ m1,rfl⟩)
  have hf2:kD ρ2 c e (st.next::ds) b {a with defers:=[{target:=.collected w.heap.size,args:= #[]}]++a.defers}:=by
   have hle:ρ.le ρ2:=fun a b c h=>d2.le _ _ _ (d1.le _ _ _ h)
   have:=hf.mono hle
   exact⟨this.gl,this.size,.cons _ _ _ _ (d2.le _ _ _ m1) this.marks,this.kind,this.fn,this.round⟩
  obtain⟨nx,fr,q1,q2,x,e',Ip,bt,ρ',a',w',r1,r2,r3,r4,r5⟩:=sB (kk:=kk) (cs:=cs) dG s2 hf2 m2 (ab8.mono (fun a b c h=>d2.le _ _ _ (d1.le _ _ _ h))) h
  refine⟨x,e',Ip,bt,ρ',a',w',r1,r2,r3,(d1.trans d2).trans r4,DP.of_steps (.one (mS ?_ q1 q2)) r5⟩
  simp only[Instr.enterLoop,Ny,Sem.run_bind,run_newObj,Result.andThen_ok,Sem.run_pure]
 ·rename_i ld hr
  split at h<;>(try(cases h;done))
  rename_i s0 p0 fn0 env0 n0 params0 assign0 body0 dl hg
  rw[lU]at h
  have Ny:=hf.round
  rw[hr]at Ny
  obtain⟨pl,mr,Ny⟩:=Ny
  obtain⟨l1,Lb,Qq⟩:=qq hs mr hg
  obtain⟨x1,x2,x3,x4,x5,x6,x7,x8,pd,x9,QO⟩:=Qq
  obtain⟨ρ2,s2,d2,m2⟩:=hs.alloc (r:=.loop .ready none c.fn e c.n params.toList assign body dl) (o:=.loop {state:=.ready,pending:=none,fn:=b.fn,tmps:=a.tmps,params,assign,body,defers:=l1.defers}) (n:=0)
   (fun ρ' hle _=>⟨rfl,_,rfl,rfl,rfl,hf.fn,hf.size,hf.gl.mono hle,rfl,rfl,rfl,_,hle _ _ _ x9,QO⟩)
  obtain⟨nx,fr,q1,q2,x,e',Ip,bt,ρ',a',w',r1,r2,r3,r4,r5⟩:=sB (kk:=kk) (cs:=cs) dG s2 (hf.mono d2.le) m2 (ab8.mono d2.le) h
  refine⟨x,e',Ip,bt,ρ',a',w',r1,r2,r3,d2.trans r4,DP.of_steps (.one (mS (mark:=[]) ?_ q1 q2)) r5⟩
  simp only[Instr.enterLoop,Ny,Instr.getLoop,bU (P:=P) Lb rfl,Sem.run_bind,run_newObj,Result.andThen_ok,Sem.run_pure]
end
end Go.Il
namespace Go.Il
variable [Sym]
def sr (B:Nat→Prop) (P:Program):Prop:=
 ∀{rec:dh},iP B P rec→∀{c:Ctx} {ops:Array Oper} {e:Env} {st:St} {k:Env→St→Bool},Di P rec c ops e st k=true→
  ∀(ρ:bL) (w:World) (ds:List Nat) (b:Frame) (a:Act) (kk:List Item) (cs:List Frame) (id:Nat),aV B ρ st w→kD ρ c e ds b a→
  ∃e' bt ρ' a' w',k e' bt=true∧aV B ρ' bt w'∧kD ρ' c e' ds b a'∧gX B ρ st w ρ' bt w'∧
   Steps P (lone (b.atR a (.code (.region id ops true)::kk)) cs w) (lone (b.atR a' kk) cs w')
section
variable {B : Nat → Prop} {ρ : bL} {st : St} {w : World} {P : Program} {b : Frame} {a : Act} {kk : List Item} {cs : List Frame}
theorem Steps.tail {m m₁ m':Machine} (h:step P m=.next m₁) (h':Steps P m m') (cH:m≠m'):Steps P m₁ m':=by
 obtain⟨n,hn⟩:=h'
 cases n with
 |zero=>simp[runN]at hn;exact absurd hn cH
 |succ n=>simp only[runN,h]at hn;exact⟨n,hn⟩
theorem Bu {x:Code}:step P (lone (b.atR a (.code (.scope x)::kk)) cs w)=.next (lone (b.atR a (.code x::.inScope x::kk)) cs w):=
 step_lone_go (by simp[stepG,stepG.exec,Frame.atR])
theorem wD {x:Code}:step P (lone (b.atR a (.inScope x::kk)) cs w)=.next (lone (b.atR a kk) cs w):=
 step_lone_go (by simp[stepG,stepG.exec,Frame.atR])
variable {a':Act} {w' w1:World}
theorem rK {b b':Frame} {a:Act} {t t':List Item} {cs jH:List Frame} {w:World} (h:lone (b.atR a t) cs w=lone (b'.atR a' t') jH w'):t=t':=by
 simp only[lone,Frame.atR,Machine.mk.injEq,Array.mk.injEq,List.cons.injEq,Goroutine.mk.injEq,Frame.mk.injEq]at h
 exact h.2.1.1.1.2.2.1
variable {α:Type}
theorem zS (x:α) (l:List α):x::l≠l:=by
 intro h
 have:=congrArg List.length h
 simp at this
theorem DP.tail {m₁:Machine} {x:AX} {y:Code} (hy:∀id,y≠.exit id) (Yj:y≠.ret) (h:step P (lone (b.atR a (.code y::kk)) cs w)=.next m₁) (h':DP P (lone (b.atR a (.code y::kk)) cs w) b kk cs x a' w'):DP P m₁ b kk cs x a' w':=by
 cases x with
 |norm=>exact Steps.tail h h' (fun e=>zS _ _ (rK e))
 |exit id=>
  obtain⟨j,hj,hs⟩:=h'
  refine⟨j,hj,Steps.tail h hs (fun e=>?_)⟩
  have:=rK e
  simp only[List.cons.injEq,Item.code.injEq]at this
  exact hy _ this.1
 |ret=>
  obtain⟨j,hs⟩:=h'
  refine⟨j,Steps.tail h hs (fun e=>?_)⟩
  have:=rK e
  simp only[List.cons.injEq,Item.code.injEq]at this
  exact Yj this.1
theorem DP.under {m:Machine} {it:Item} {x:AX} (hn:x≠.norm) (hx:∀id,x=.exit id→exitTo id (it::kk)=exitTo id kk) (h:DP P m b (it::kk) cs x a' w'):DP P m b kk cs x a' w':=by
 cases x with
 |norm=>exact absurd rfl hn
 |exit id=>
  obtain⟨j,hj,hs⟩:=h
  refine⟨j++[it],?_,?_⟩
  ·rw[List.append_assoc];simp only[List.cons_append,List.nil_append];rw[hj];exact hx id rfl
  ·rw[List.append_assoc];exact hs
 |ret=>exact h
theorem ju {rec:dh} (eQ:sr B P) (dG:iP B P rec):iP B P (Dm P rec):=by
 intro c x e ds st k h ρ w b a kk cs hs hf
 cases x with
 |skip=>exact⟨_,_,_,_,ρ,a,w,h,hs,hf,.refl _ _ _ _,.one stepR_skip⟩
 |label l=>exact⟨_,_,_,_,ρ,a,w,h,hs,hf,.refl _ _ _ _,.one stepR_label⟩
 |region id ops draw=>
  cases draw with
  |false=>
   obtain⟨e',bt,ρ',a',w',h1,h2,h3,h4,h5⟩:=Jf dG _ e st _ h ρ w ds b a kk cs hs hf
   exact⟨.norm,e',ds,bt,ρ',a',w',h1,h2,h3,h4,.head stepR_region h5⟩
  |true=>
   obtain⟨e',bt,ρ',a',w',h1,h2,h3,h4,h5⟩:=eQ dG h ρ w ds b a kk cs id hs hf
   exact⟨.norm,e',ds,bt,ρ',a',w',h1,h2,h3,h4,h5⟩
 |seq x y=>
  obtain⟨z,e1,ds1,P4,ρ1,a1,w1,h1,h2,h3,h4,h5⟩:=dG _ _ _ _ _ _ h ρ w b a (.code y::kk) cs hs hf
  have h5:=DP.of_steps (.one stepR_seq) h5
  cases z with
  |norm=>
   obtain⟨z,e2,Xf,Eu,ρ2,a2,w2,g1,g2,g3,g4,g5⟩:=dG _ _ _ _ _ _ h1 ρ1 w1 b a1 kk cs h2 h3
   exact⟨z,e2,Xf,Eu,ρ2,a2,w2,g1,g2,g3,h4.trans g4,g5.of_steps h5⟩
  |exit id=>exact⟨_,_,_,_,ρ1,a1,w1,h1,h2,h3,h4,h5.under (by simp) (fun _ _=>rfl)⟩
  |ret=>exact⟨_,_,_,_,ρ1,a1,w1,h1,h2,h3,h4,h5.under (by simp) (fun _ _=>rfl)⟩
 |cond o x y=>
  simp only[Dm,bp]at h
  split at h<;>(try(cases h;done))
  rename_i v hv
  have hr:=bo hf.gl hv
  generalize hq:a.eval o=q at hr
  split at h<;>(try(cases h;done))
  ·have hb:a.eval o=.bool true:=by cases hr;exact hq
   obtain⟨z,e2,Xf,Eu,ρ2,a2,w2,g1,g2,g3,g4,g5⟩:=dG _ _ _ _ _ _ h ρ w b a kk cs hs hf
   exact⟨z,e2,Xf,Eu,ρ2,a2,w2,g1,g2,g3,g4,g5.of_steps (.one (stepR_cond hb))⟩
  ·have hb:a.eval o=.bool false:=by cases hr;exact hq
   obtain⟨z,e2,Xf,Eu,ρ2,a2,w2,g1,g2,g3,g4,g5⟩:=dG _ _ _ _ _ _ h ρ w b a kk cs hs hf
   exact⟨z,e2,Xf,Eu,ρ2,a2,w2,g1,g2,g3,g4,g5.of_steps (.one (stepR_cond hb))⟩
 |block id x=>
  obtain⟨z,e1,ds1,P4,ρ1,a1,w1,h1,h2,h3,h4,h5⟩:=dG _ _ _ _ _ _ h ρ w b a (.inBlock id::kk) cs hs hf
  have h5:=DP.of_steps (.one stepR_block) h5
  cases z with
  |norm=>exact⟨_,_,_,_,ρ1,a1,w1,h1,h2,h3,h4,Steps.trans h5 (.one stepR_inBlock)⟩
  |exit j=>
   dsimp only at h1
   split at h1
   ·rename_i hj
    obtain rfl:j=id:=by simpa using hj
    obtain⟨jj,q1,q2⟩:=h5
    exact⟨_,_,_,_,ρ1,a1,w1,h1,h2,h3,h4,Steps.trans q2 (.one (stepR_exit (by rw[q1];simp[exitTo])))⟩
   ·rename_i hj
    have hj:j≠id:=fun e=>by rw[e,Nat.beq_refl]at hj;cases hj
    refine⟨_,_,_,_,ρ1,a1,w1,h1,h2,h3,h4,h5.under (by simp) (fun i hi=>?_)⟩
    cases hi
    simp[exitTo,Ne.symm hj]
  |ret=>exact⟨_,_,_,_,ρ1,a1,w1,h1,h2,h3,h4,h5.under (by simp) (fun _ hi=>by cases hi)⟩
 |loop x=>
  obtain⟨z,e1,ds1,P4,ρ1,a1,w1,h1,h2,h3,h4,h5⟩:=dG _ _ _ _ _ _ h ρ w b a (.inLoop x::kk) cs hs hf
  have h5:=DP.of_steps (.one stepR_loop) h5
  cases z with
  |norm=>
   obtain⟨z,e2,Xf,Eu,ρ2,a2,w2,g1,g2,g3,g4,g5⟩:=dG _ _ _ _ _ _ h1 ρ1 w1 b a1 kk cs h2 h3
   have g5:=DP.tail (by simp) (by simp) stepR_loop g5
   exact⟨z,e2,Xf,Eu,ρ2,a2,w2,g1,g2,g3,h4.trans g4,(g5.of_steps (.one stepR_inLoop)).of_steps h5⟩
  |exit id=>exact⟨_,_,_,_,ρ1,a1,w1,h1,h2,h3,h4,h5.under (by simp) (fun _ _=>rfl)⟩
  |ret=>exact⟨_,_,_,_,ρ1,a1,w1,h1,h2,h3,h4,h5.under (by simp) (fun _ _=>rfl)⟩
 |scope x=>
  obtain⟨z,e1,ds1,P4,ρ1,a1,w1,h1,h2,h3,h4,h5⟩:=dG _ _ _ _ _ _ h ρ w b a (.inScope x::kk) cs hs hf
  have h5:=DP.of_steps (.one Bu) h5
  cases z with
  |norm=>exact⟨_,_,_,_,ρ1,a1,w1,h1,h2,h3,h4,Steps.trans h5 (.one wD)⟩
  |exit id=>exact⟨_,_,_,_,ρ1,a1,w1,h1,h2,h3,h4,h5.under (by simp) (fun _ _=>rfl)⟩
  |ret=>exact⟨_,_,_,_,ρ1,a1,w1,h1,h2,h3,h4,h5.under (by simp) (fun _ _=>rfl)⟩
 |exit id=>exact⟨_,_,_,_,ρ,a,w,h,hs,hf,.refl _ _ _ _,[],rfl,.refl _ _⟩
 |ret=>exact⟨_,_,_,_,ρ,a,w,h,hs,hf,.refl _ _ _ _,kk,.refl _ _⟩
 |rangeFunc f params assign body=>exact zu dG hs hf h
 |goto l=>cases h
 |refuse y=>cases h
end
end Go.Il
