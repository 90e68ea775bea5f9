/- Part. -/
import Derived.Test.YtbjicljfjkdeeaaGreatDoorQ12
import Derived.Great.BuildSlice
set_option maxRecDepth 100000
set_option maxHeartbeats 16000000
set_option linter.unusedVariables false
set_option linter.unusedSimpArgs false
namespace Go.Proofs.YtbjicljfjkdeeaaGreatDoor
open Go.Proofs.Tryz Go.RowKit
section
def dX (P:Program) {α:Type}:Sem α->Option α
 | .pure a=>some a
 | .program k=>dX P (k P)
 | .mark _ k=>dX P k
 | _=>none
theorem iT {P:Program} {α:Type} {s:Sem α} {a:α} (h:dX P s=some a) (w:World):s.run P w=.ok a w:=by
 induction s with
 | pure b=>cases h;rfl
 | program k z=>exact z P h
 | mark m k z=>exact z h
 | _=>cases h
section
variable {ρ : Option Nat}
variable {P : Program} {gl : Nat -> Option (List Tr)} {n0 : Nat} {M M' : Mem} {w w' : World} {σ σ' : Sg} {S : List Rf} {a : Act}
def isSel:Op->Bool
 | .select _ _=>true
 | _=>false
def gO (P:Program) (gl:Nat->Option (List Tr)) (o:Oper) (σ:Sg):Option V :=
 if ((o.op.operands.all fun x=>((evl gl σ x).bind V.toVal).isSome)&&!isSel o.op)=true then
  match dX P (execOp (fun x=>((evl gl σ x).bind V.toVal).getD undef) o) with
  | some (.value v)=>some (.p (.at v))
  | _=>none
 else none
theorem dF {x:V} {v u:Value} (h:Rv M w x v) (hu:x.toVal=some u):v=u:=by
 cases h with
 | p t v h=>exact h.toVal u hu
 | _=>cases hu
def Quiet (P:Program) (gl:Nat->Option (List Tr)) (o:Oper) (σ:Sg) (x:V):Prop :=
 ∀(n0:Nat) (M:Mem) (w:World) (S:List Rf) (a:Act) (ρ:Option Nat),SR gl n0 M w σ (rf a ρ::S)->∃v,(execOp a.eval o).run P w=.ok (.value v) w/\Rv M w x v
theorem lA {o:Oper} {x:V} (G:gO P gl o σ=some x):Quiet P gl o σ x:=by
 intro n0 M w S a ρ h;unfold gO at G
 split at G
 ·rename_i O
  rw[My,Array.all_eq_true_iff_forall_mem]at O
  split at G
  ·rename_i v hr
   cases G
   refine⟨v,?_,.p _ _ (.at v)⟩;rw[<-iT hr w];congr 1;refine execOp_congr o (fun cs b e=>?_) (fun y hy=>?_)
   ·have:=O.2;rw[e]at this;cases this
   ·have I:=O.1 y hy
    cases he:evl gl σ y with
    | none=>rw[he]at I;simp at I
    | some z =>
     rw[he]at I
     cases J:z.toVal with
     | none=>rw[MR,J]at I;simp at I
     | some u=>simp only[MR,J,NS];exact dF (aJ h he) J
  ·cases G
 ·cases G
def isD:TypeDesc->Bool
 | .struct _|.array _ _=>true
 | _=>false
theorem Cf {t:TypeId} {d:TypeDesc} (h:P.underlying t=some d) (w:World):(isAgg t).run P w=.ok (isD d) w:=by
 unfold isAgg;rw[MP,M6 h w]
 cases d<;>simp[isD]
theorem dq {t:TypeId} {i:TypeInfo} (h:P.info? t=some i) (w:World):(sizeOf t).run P w=.ok i.size w:=by simp[sizeOf,typeInfo,h]
def Cl (M:Mem) (w:World) (A o:Nat) (cs:List V):Prop:=∀(j:Nat) (t:V),cs[j]?=some t->∃c,w.cell? ⟨A,o+j,none⟩=some c/\Rv M w t c
def fQ (P:Program) (t:TypeId) (cs:List V):Option V :=
 match P.info? t,P.underlying t with
 | some i,some d=>if isD d then (if i.size<=cs.length then some (.mkAgg (cs.take i.size)) else none) else cs.head?
 | _,_=>none
theorem Ai (A o j:Nat):(⟨A,o,none⟩:Addr).add j=⟨A,o+j,none⟩:=by unfold Addr.add;split<;>simp_all
theorem od {t:TypeId} {cs:List V} {x:V} {A o:Nat} (hc:Cl M w A o cs) (G:fQ P t cs=some x):∃v,(loadVar t ⟨A,o,none⟩).run P w=.ok v w/\Rv M w x v:=by
 unfold fQ at G
 split at G
 ·rename_i i d hi hd
  have O:=Cf hd w
  split at G
  ·rename_i hD
   split at G
   ·rename_i hle
    cases G
    have key:∃vs:List Value,vs.length=i.size/\(∀j v,vs[j]?=some v->w.cell? ⟨A,o+j,none⟩=some v)/\Rvs M w (cs.take i.size) vs:=by
     have:∀n,n<=cs.length->∃vs:List Value,vs.length=n/\(∀j v,vs[j]?=some v->w.cell? ⟨A,o+j,none⟩=some v/\∀t,cs[j]?=some t->Rv M w t v):=by
      intro n
      induction n with
      | zero=>intro _;exact⟨[],rfl,fun j v h=>by simp at h⟩
      | succ n ih =>
       intro hn;obtain⟨vs,z,I⟩:=ih om;obtain⟨c,h3,h4⟩:=hc n _ (Mq om);refine⟨vs++[c],by simp[z],fun j v J=>?_⟩
       by_cases a':j<n
       ·rw[MQ om]at J;exact I j v J
       ·rw[M7 om]at J;have:j=n:=by
         rcases Ny (j-vs.length) 1 with h|h
         ·omega
         ·rw[NZ (jQ h)]at J;cases J
        subst this;have:c=v:=by simpa [z] using J
        subst this;exact⟨h3,fun t Z=>by rw[Mq om]at Z;cases Z;exact h4⟩
     obtain⟨vs,z,I⟩:=this i.size hle;refine⟨vs,z,fun j v J=>(I j v J).1,⟨by simp[z,hle],fun j t v Z hv=>(I j v hv).2 t ?_⟩⟩;rw[NP]at Z
     split at Z
     ·exact Z
     ·cases Z
    obtain⟨vs,z,I,h3⟩:=key;have hl:=run_loadCells_list (P:=P) w ⟨A,o,none⟩ vs (fun j v hv=>by rw[Ai];exact I j v hv);refine⟨_,?_,Rv.mkAgg h3⟩;rw[z]at hl;simp[loadVar,MP,O,hD,dq hi,hl]
   ·cases G
  ·rename_i hD
   cases cs with
   | nil=>cases G
   | cons y cs =>
    cases G
    obtain⟨c,z,I⟩:=hc 0 x rfl;refine⟨c,?_,I⟩;simp only[loadVar,MP,O,M9];rw[Mo hD];rw[run_load];rw[show o+0=o from rfl]at z;rw[z]
 ·cases G
def look (σ:Sg):V->Option (List V)
 | .p (.elp cs)=>some (cs.map .p)
 | .off n i o=>match gt σ.obs n with
  | some (.box cs)=>if i=0 then some (cs.drop o) else none
  | some (.row _ _ es _)=>(es[i]?).map fun e=>(e.cells.drop o).map .p
  | _=>none
 | _=>none
theorem mD {es:List Tr} {k i o:Nat} {e t:Tr} (hk:∀e∈es,e.cells.length=k) (he:es[i]?=some e) (h:e.cells[o]?=some t):(aO es)[i*k+o]?=some t:=by
 induction es generalizing i with
 | nil=>simp at he
 | cons x l G =>
  have z:x.cells.length=k:=hk x jS
  cases i with
  | zero =>
   simp at he;subst he;simp only[aO,MM,Nn,MC];rw[MQ];exact h;exact (List.getElem?_eq_some_iff.1 h).1
  | succ i =>
   simp only[aO,MM];rw[M7 (by rw[z,OF];omega),z,show (i+1)*k+o-k=i*k+o by rw[OF];omega];exact G (fun e he=>hk e (by simp[he])) (jQ he)
theorem ij {es:List Tr} {k:Nat} (hk:∀e∈es,e.cells.length=k):(aO es).length=es.length*k:=by
 induction es with
 | nil=>simp
 | cons x l h=>simp only[aO,MM,Mw,MG,OF,hk x jS];rw[h (fun e he=>hk e (by simp[he]))];omega
theorem cW {base:Nat} {e:TypeId} {k:Nat} {v:Value} {n:Nat} {xs:List Value} (h:w.ownsRow base e k v n xs) {j:Nat} {u:Value} (z:xs[j]?=some u):∃A cap,v=.slice (some ⟨A,0,none⟩) n cap/\w.cell? ⟨A,0+j,none⟩=some u:=by
 rcases h.2 with ⟨rfl,rfl⟩|⟨g,cap,cur,rfl,hb,hh,hn,hm,hcs,ht⟩
 ·have:xs=[]:=M8 (jQ h.1);subst this;simp at z
 ·refine⟨g,cap,rfl,?_⟩;rw[<-ht,NP]at z
  split at z
  ·simp only[World.cell?,hh,MC];simpa using z
  ·cases z
theorem Bp (h:SR gl n0 M w σ S) {x:V} {u:Value} {cs:List V} (hu:Rv M w x u) (G:look σ x=some cs):∃A o,u=.pointer (some ⟨A,o,none⟩)/\Cl M w A o cs:=by
 cases hu with
 | p t v h1 =>
  cases h1 with
  | elp ts A o g j' hg h2 =>
   cases G
   refine⟨A,o,rfl,fun j t z=>?_⟩;rw[MA]at z
   cases O:ts[j]? with
   | none=>rw[O]at z;cases z
   | some s =>
    rw[O]at z;have:V.p s=t:=jQ z;exact⟨g j,(hg j (List.getElem?_eq_some_iff.1 O).1).1,this▸.p _ _ (h2 j s O)⟩
  | _=>cases G
 | off n i o =>
  simp only[look]at G
  split at G
  ·rename_i bs hb
   split at G
   ·rename_i hi
    cases G
    obtain⟨A,c,el,h1,h2,h3,h4,h5,h6⟩:=h.ob n _ hb;subst hi;refine⟨A,o,by rw[h1];simp[jV],fun j t z=>?_⟩;rw[N7]at z;have I:o+j<c.size:=ME (List.getElem?_eq_some_iff.1 z).1 h5;exact⟨c[o+j],by simp[World.cell?,h4,I],h6 (o+j) t _ z (MJ I)⟩
   ·cases G
  ·rename_i e k es fz hb
   cases he:es[i]? with
   | none=>rw[he]at G;cases G
   | some y =>
    rw[he]at G;have g':(y.cells.drop o).map V.p=cs:=jQ G;subst g';have hi:i<es.length:=(List.getElem?_eq_some_iff.1 he).1;obtain⟨hk,h0,xs,hx,Z,-,hr,-⟩:=h.ob n _ hb;rw[hk];have a':=hx.1;have f':=ij Z;have k':y.cells.length=k:=Z y (MI he);have d':∃u,xs[0]?=some u:=⟨_,Mq (by rw[a'];exact Nat.mul_pos om h0)⟩;obtain⟨u0,h'⟩:=d';obtain⟨A,cap,hv,-⟩:=cW hx h';refine⟨A,i*k+o,by rw[hv];rfl,fun j t z=>?_⟩;rw[MA,N7]at z
    cases O:y.cells[o+j]? with
    | none=>rw[O]at z;cases z
    | some s =>
     rw[O]at z;have hs:V.p s=t:=jQ z;have hf:=mD Z he O;have I:i*k+(o+j)<xs.length:=by rw[a',<-f'];exact (List.getElem?_eq_some_iff.1 hf).1
     obtain⟨A',i',c',J⟩:=cW hx (Mq I);rw[hv]at c';cases c';rw[show 0+(i*k+(o+j))=i*k+o+j by omega]at J;exact⟨_,J,hs▸.p _ _ (hr _ s _ hf (Mq I))⟩
  ·cases G
 | _=>cases G
end
end
section
def AX (d:Nat):V->Option V
 | .p (.elp cs)=>some (.p (.elp (cs.drop d)))
 | .off n i o=>some (.off n i (o+d))
 | _=>none
def V.aggc:V->Option (List V)
 | .p (.agg cs)=>some (cs.map .p)
 | .p (.at (.agg vs))=>some (vs.toList.map fun v=>.p (.at v))
 | .agg cs=>some cs
 | _=>none
def V.tupc:V->Option (List V)
 | .p (.tup cs)=>some (cs.map .p)
 | .p (.at (.tuple vs))=>some (vs.toList.map fun v=>.p (.at v))
 | .tup cs=>some cs
 | _=>none
def V.int? (x:V):Option Int:=match x.toVal with|some (.int _ n)=>some n|_=>none
def V.bool? (x:V):Option Bool:=match x.toVal with|some (.bool b)=>some b|_=>none
def KK (P:Program) (σ:Sg) (t:TypeId) (x:V) (i:Int):Option V :=
 match P.underlying t,x with
 | some (.slice e),.p (.lst _ es)=>match P.info? e,es[i.toNat]? with
  | some h,some y=>if 0<=i/\y.cells.length=h.size then some (.p (.elp y.cells)) else none
  | _,_=>none
 | some (.slice e),.ref n=>match P.info? e,gt σ.obs n with
  | some h,some (.row _ k es _)=>if 0<=i/\i.toNat<es.length/\k=h.size then some (.off n i.toNat 0) else none
  | _,_=>none
 | some (.slice e),.arr n k len _=>match P.info? e with
  | some h=>if 0<=i/\i.toNat<len/\k=h.size then some (.off n 0 (i.toNat*k)) else none
  | _=>none
 | some (.array len e),x=>match P.info? e with
  | some h=>if 0<=i/\i<len then AX (i.toNat*h.size) x else none
  | _=>none
 | _,_=>none
def tP (cells:List V) (off:Nat) (cs:List V):List V:=cells.take off++cs++cells.drop (off+cs.length)
def su (place:Nat->Option (Nat × Nat)):List V->List (Nat × V)->Option (List V)
 | cells,[]=>some cells
 | cells,(i,x)::rest=>match place i,x.cells with
  | some (off,size),some cs=>if cs.length≠size\/off+cs.length > cells.length then none else su place (tP cells off cs) rest
  | _,_=>none
def zrV (z:Value):List V:=z.cells.toList.map fun v=>.p (.at v)
def bld (P:Program) (t:TypeId) (parts:List (Nat × V)):Option (List V) :=
 match P.info? t,P.underlying t with
 | some it,some (.array _ e) =>
  match it.zero,P.info? e with
  | some z,some ie=>su (fun i=>some (i*ie.size,ie.size)) (zrV z) parts
  | _,_=>none
 | some it,some (.struct fields) =>
  match it.zero,fields.toList.mapM (fun f=>(P.info? f.type).map fun i=>(f.offset,i.size)) with
  | some z,some places=>su (places.toArray[·]?) (zrV z) parts
  | _,_=>none
 | _,_=>none
def mL (gl:Nat->Option (List Tr)) (σ:Sg):List Operand->Option (List V)
 | []=>some []
 | x::l=>match evl gl σ x,mL gl σ l with|some v,some m=>some (v::m)|_,_=>none
def nnK (σ:Sg):V->Option Nat
 | .p (.elp _)=>some 0
 | .p (.fn (.func _) _ _)=>some 3
 | .p (.lst full es)=>if full || !es.isEmpty then some 1 else none
 | .off ..=>some 0
 | .arr ..=>some 1
 | .fn (.func _) _ _=>some 3
 | .ref n=>match gt σ.obs n with|some (.row _ _ es _)=>if es.isEmpty then none else some 1|some (.map ..)=>some 2|_=>none
 | _=>none
def E7:TypeDesc->Value->Option Nat
 | .pointer _,.pointer none=>some 0
 | .slice _,.slice none _ _=>some 1
 | .map _ _,.map none=>some 2
 | .func _ _ _,.nilFunc=>some 3
 | _,_=>none
def LI (σ:Sg):V->Option (Int × Bool)
 | .p (.lst _ es)=>some (es.length,false)
 | .arr _ _ len _=>some (len,false)
 | .ref n=>match gt σ.obs n with|some (.row _ _ es _)=>some (es.length,false)|some (.map es _)=>some (es.length,true)|_=>none
 | _=>none
def uD (P:Program) (gl:Nat->Option (List Tr)) (σ:Sg) (c:Call):Option V :=
 match c.callee,c.args.toList,c.argTypes.toList with
 | .builtin .len,[x],[t]=>match P.underlying t,(evl gl σ x).bind (LI σ) with
  | some (.slice _),some (n,false)=>some (.p (.at (Mk n)))
  | some (.map ..),some (n,true)=>some (.p (.at (Mk n)))
  | _,_=>none
 | _,_,_=>none
def ge (P:Program) (gl:Nat->Option (List Tr)) (o:Oper) (σ:Sg):Option V :=
 match o.op with
 | .move x|.assign x=>evl gl σ x
 | .pick c x y=>match (evl gl σ c).bind V.bool?,evl gl σ x,evl gl σ y with
  | some b,some x,some y=>some (if b then x else y)
  | _,_,_=>none
 | .load t x=>((evl gl σ x).bind (look σ)).bind (fQ P t)
 | .fieldAddr s x f=>match P.underlying s,evl gl σ x with
  | some (.struct fields),some x=>match fields[f]? with
   | some fd=>match P.info? fd.type with
    | some i=>if i.size=0 then none else AX fd.offset x
    | none=>none
   | none=>none
  | _,_=>none
 | .field s x f=>match P.underlying s,(evl gl σ x).bind V.aggc with
  | some (.struct fields),some cs=>match fields[f]? with
   | some fd=>fQ P fd.type (cs.drop fd.offset)
   | none=>none
  | _,_=>none
 | .indexAddr t x h=>match evl gl σ x,(evl gl σ h).bind V.int? with
  | some x,some i=>KK P σ t x i
  | _,_=>none
 | .extract x i=>((evl gl σ x).bind V.tupc).bind (·[i]?)
 | .makeFunc f a b=>match mL gl σ a.toList,mL gl σ b.toList with
  | some x,some y=>some (.mkFn f x y)
  | _,_=>none
 | .nilCheck x=>match evl gl σ x with
  | some v=>if (nnK σ v).isSome then some v else none
  | none=>none
 | .build t parts=>match mL gl σ (parts.toList.map (·.2)) with
  | some vs=>(bld P t ((parts.toList.map (·.1)).zip vs)).map V.mkAgg
  | none=>none
 | .binOp op t x y _=>match P.underlying t,evl gl σ x,(evl gl σ y).bind V.toVal with
  | some d,some v,some u=>match nnK σ v,E7 d u with
   | some k,some k'=>if k=k' then match op with
    | .eql=>some (.p (.at (.bool false)))
    | .neq=>some (.p (.at (.bool true)))
    | _=>none
    else none
   | _,_=>none
  | _,_,_=>none
 | .call c=>uD P gl σ c
 | _=>none
section
variable {ρ : Option Nat}
variable {P : Program} {gl : Nat -> Option (List Tr)} {n0 : Nat} {M M' : Mem} {w w' : World} {σ σ' : Sg} {S : List Rf} {a : Act}
theorem gV {a:Act} (h:SR gl n0 M w σ (rf a ρ::S)):∀{l:List Operand} {m:List V},mL gl σ l=some m->Rvs M w m (l.map a.eval)
 | [],m,hm=>by rw[mL]at hm;cases hm;exact⟨rfl,fun i t v h=>by simp at h⟩
 | x::l,m,hm=>by
  rw[mL]at hm
  split at hm
  ·rename_i v O J I
   cases hm
   have G:=gV h I;refine⟨by simp[<-G.1],fun i t u z hu=>?_⟩
   cases i with
   | zero=>simp at z hu;subst z;subst hu;exact aJ h J
   | succ i=>exact G.2 i t u (jQ z) (jQ hu)
  ·cases hm
theorem sG {d:Nat} {x y:V} {u:Value} (hu:Rv M w x u) (hy:AX d x=some y):∃A o,u=.pointer (some ⟨A,o,none⟩)/\Rv M w y (.pointer (some ⟨A,o+d,none⟩)):=by
 cases hu with
 | p t v I =>
  cases I with
  | elp ts A o g O G z =>
   cases hy
   refine⟨A,o,rfl,.p _ _ (.elp _ A (o+d) (fun j=>g (d+j)) (fun t h=>O t (PI h)) (fun j J=>?_) (fun j t h=>?_))⟩
   ·have:=G (d+j) (by simp at J;omega)
    rwa [<-NT]at this
   ·rw[N7]at h;exact z _ t h
  | _=>cases hy
 | off n i o=>cases hy;exact⟨_,_,rfl,by rw[NT];exact .off n i (o+d)⟩
 | _=>cases hy
theorem ua8 {p:Prop} (h:p:=by
  cases G
  refine⟨vs,rfl,by simp[J],fun i t v z I=>?_⟩;rw[MA]at z
  cases O:cs[i]? with
  | none=>rw[O]at z;cases z
  | some s=>rw[O]at z;cases z;exact .p _ _ (h i s v O (jQ I))):p:=h
theorem IS {x:V} {u:Value} {cs:List V} (hu:Rv M w x u) (G:x.aggc=some cs):∃vs:Array Value,u=.agg vs/\Rvs M w cs vs.toList:=by
 cases hu with
 | p t v Z =>
  cases Z with
  | «at» =>
   cases u with
   | agg vs =>
    cases G
    refine⟨vs,rfl,by simp,fun i t v z I=>?_⟩;rw[MA,I]at z
    cases z
    exact .p _ _ (.at v)
   | _=>cases G
  | agg cs vs J h =>
   exact ua8
  | _=>cases G
 | agg cs vs J h=>cases G;exact⟨vs,rfl,by simp[J],fun i t v z I=>h i t v z (jQ I)⟩
 | _=>cases G
theorem Iz {x:V} {u:Value} {cs:List V} (hu:Rv M w x u) (G:x.tupc=some cs):∃vs:Array Value,u=.tuple vs/\Rvs M w cs vs.toList:=by
 cases hu with
 | p t v Z =>
  cases Z with
  | «at» =>
   cases u with
   | tuple vs =>
    cases G
    refine⟨vs,rfl,by simp,fun i t v z I=>?_⟩;rw[MA,I]at z
    cases z
    exact .p _ _ (.at v)
   | _=>cases G
  | tup cs vs J h =>
   exact ua8
  | _=>cases G
 | tup cs vs J h=>cases G;exact⟨vs,rfl,by simp[J],fun i t v z I=>h i t v z (jQ I)⟩
 | _=>cases G
theorem Rvs.get {cs:List V} {vs:List Value} (h:Rvs M w cs vs) {i:Nat} {t:V} (G:cs[i]?=some t):∃v,vs[i]?=some v/\Rv M w t v:=by
 have I:=(List.getElem?_eq_some_iff.1 G).1;have z:i<vs.length:=by rw[h.1];exact I
 exact⟨_,Mq z,h.2 i t _ G (Mq z)⟩
theorem Rvs.drop {cs:List V} {vs:List Value} (h:Rvs M w cs vs) (d:Nat):Rvs M w (cs.drop d) (vs.drop d) :=
 ⟨by simp[h.1],fun i t v G z=>h.2 (d+i) t v (by rwa [N7]at G) (by rwa [N7]at z)⟩
theorem Rvs.take {cs:List V} {vs:List Value} (h:Rvs M w cs vs) (d:Nat):Rvs M w (cs.take d) (vs.take d) :=
 ⟨by simp[h.1],fun i t v z I=>by
  rw[NP]at z I
  split at z
  ·rename_i G;rw[Mp G]at I;exact h.2 i t v z I
  ·cases z⟩
theorem Rvs.append {cs ds:List V} {vs us:List Value} (h:Rvs M w cs vs) (k:Rvs M w ds us):Rvs M w (cs++ds) (vs++us) :=
 ⟨by simp[h.1,k.1],fun i t v G z=>by
  by_cases I:i<cs.length
  ·rw[MQ I]at G;rw[MQ (by rw[h.1];exact I)]at z;exact h.2 i t v G z
  ·rw[M7 om]at G;rw[M7 (by rw[h.1];omega),h.1]at z;exact k.2 _ t v G z⟩
theorem JM {t:TypeId} {cs:List V} {x:V} {vs:Array Value} {d:Nat} (J:Rvs M w cs vs.toList) (h:fQ P t (cs.drop d)=some x):∃v,(part t vs d).run P w=.ok v w/\Rv M w x v:=by
 unfold fQ at h
 split at h
 ·rename_i i ds Z O
  have z:=Cf O w
  split at h
  ·rename_i G
   split at h
   ·rename_i hle
    cases h
    refine⟨_,?_,Rv.mkAgg ((J.drop d).take i.size)⟩;have he:((vs.toList.drop d).take i.size).toArray=vs.extract d (d+i.size):=by
     apply OG;simp[List.take_drop]
    rw[he];simp[part,MP,z,G,dq Z]
   ·cases h
  ·rename_i G
   have h0:cs[d]?=some x:=by rw[<-h,List.head?_drop]
   obtain⟨v,hv,hr⟩:=J.get h0;refine⟨v,?_,hr⟩;have I:vs[d]?=some v:=jQ hv;simp[part,MP,z,G,I]
 ·cases h
theorem sM (l:List Value) (off:Nat):∀(s:Nat) (c:Array Value) ,off+s+l.length<=c.size ->
  ((l.zipIdx s).foldl (fun cs (x:Value × Nat)=>cs.setIfInBounds (off+x.2) x.1) c).toList=c.toList.take (off+s)++l++c.toList.drop (off+s+l.length):=by
 induction l with
 | nil=>intro s c h;simp
 | cons x l G =>
  intro s c h;simp only[MG]at h;rw[List.zipIdx_cons,N4,G (s+1) _ (by simp;omega)];apply OZ;intro i;simp only[Array.toList_setIfInBounds,List.getElem?_append,NP,N7,Mw,Nx,Pq,Oh,MG,OR];rcases Py i (off+s) with z|z|z
  ·simp only[show i<min (off+(s+1)) c.size+l.length by omega,show i<min (off+(s+1)) c.size by omega,show i<off+(s+1) by omega,show ¬off+s=i by omega,show i<min (off+s) c.size+(l.length+1) by omega,show i<min (off+s) c.size by omega,show i<off+s by omega,M5,NJ]
  ·subst z;simp only[show off+s<min (off+(s+1)) c.size+l.length by omega,show off+s<min (off+(s+1)) c.size by omega,show off+s<off+(s+1) by omega,show off+s<min (off+s) c.size+(l.length+1) by omega,show ¬off+s<min (off+s) c.size by omega,show off+s<c.size by omega,M5,NJ,show off+s-min (off+s) c.size=0 by omega,OS]
  ·by_cases I:i<off+s+1+l.length
   ·simp only[show i<min (off+(s+1)) c.size+l.length by omega,show ¬i<min (off+(s+1)) c.size by omega,show i<min (off+s) c.size+(l.length+1) by omega,show ¬i<min (off+s) c.size by omega,M5,NJ,show i-min (off+s) c.size=(i-min (off+(s+1)) c.size)+1 by omega,OA]
   ·simp only[show ¬i<min (off+(s+1)) c.size+l.length by omega,show ¬i<min (off+s) c.size+(l.length+1) by omega,NJ,show off+s+(l.length+1)+(i-(min (off+s) c.size+(l.length+1)))=i by omega,show off+(s+1)+l.length+(i-(min (off+(s+1)) c.size+l.length))=i by omega,show ¬off+s=i by omega]
theorem ql {place:Nat->Option (Nat × Nat)}:∀{parts:List (Nat × V)} {ps:List (Nat × Value)} {cells out:List V} {vs:Array Value},su place cells parts=some out->Rvs M w cells vs.toList ->
  ps.map (·.1)=parts.map (·.1)->Rvs M w (parts.map (·.2)) (ps.map (·.2))->∃res,Instr.fill place vs ps=some res/\Rvs M w out res.toList
 | [],ps,cells,out,vs,h,hc,he,hp=>by
  have:ps=[]:=jQ he;subst this;rw[su]at h;cases h;exact⟨vs,rfl,hc⟩
 | (i,x)::rest,[],cells,out,vs,h,hc,he,hp=>by simp at he
 | (i,x)::rest,(j,v)::ps,cells,out,vs,h,hc,he,hp=>by
  simp only[MF,Nf]at he;obtain⟨rfl,he⟩:=he;have Z:Rv M w x v:=hp.2 0 x v rfl rfl;have a':Rvs M w (rest.map (·.2)) (ps.map (·.2)):=⟨jQ hp.1,fun k t u ht hu=>hp.2 (k+1) t u (jQ ht) (jQ hu)⟩;rw[su]at h
  split at h
  ·rename_i off size cs h1 h2
   split at h
   ·cases h
   ·rename_i hn
    have G:cs.length=size/\off+cs.length<=cells.length:=by
     refine⟨?_,?_⟩
     ·exact PP fun e=>hn (.inl e)
     ·exact Nat.le_of_not_lt fun e=>hn (.inr e)
    have O:=Z.cells h2;have z:v.cells.size=cs.length:=jQ O.1;have J:vs.size=cells.length:=jQ hc.1;rw[Instr.fill,h1];simp only[];rw[Mo (by simp only[MU,MK,not_or,ne_eq,Decidable.not_not,gt_iff_lt,Nat.not_lt];exact⟨z.trans G.1,by rw[z,J];exact G.2⟩)];have I:(v.cells.zipIdx.foldl (fun cs (c,j)=>cs.setIfInBounds (off+j) c) vs).toList=vs.toList.take off++v.cells.toList++vs.toList.drop (off+v.cells.toList.length):=by
     have:=sM v.cells.toList off 0 vs (by rw[Nc,Oh,z,J];exact G.2);rw[Nc]at this;rw[<-this,<-Array.foldl_toList];congr 1;simp
    refine ql h ?_ he a';rw[I,tP,show cs.length=v.cells.toList.length by simpa using z.symm];exact ((hc.take off).append O).append (hc.drop _)
  ·cases h
theorem qH (z:Value):Rvs M w (zrV z) z.cells.toList:=⟨by simp[zrV],fun i t v h G=>by
 rw[zrV,MA,G]at h;cases h;exact .p _ _ (.at v)⟩
theorem Mc {t:TypeId} {parts:List (Nat × V)} {ps:List (Nat × Value)} {out:List V} (h:bld P t parts=some out) (he:ps.map (·.1)=parts.map (·.1)) (hp:Rvs M w (parts.map (·.2)) (ps.map (·.2))) :
  ∃res,P.built t ps=some res/\Rvs M w out res.toList:=by
 unfold bld at h;unfold Program.built
 split at h
 ·rename_i it n e J G
  split at h
  ·rename_i z Z O I
   simp only[J,G,O,I];exact ql h (qH z) he hp
  ·cases h
 ·rename_i it fields J G
  split at h
  ·rename_i z places O I
   simp only[J,G,O,I];exact ql h (qH z) he hp
  ·cases h
 ·cases h
end
end
section
section
variable {ρ : Option Nat}
variable {P : Program} {gl : Nat -> Option (List Tr)} {n0 : Nat} {M M' : Mem} {w w' : World} {σ σ' : Sg} {S : List Rf} {a : Act}
theorem qX {x:V} {u:Value} {i:Int} (hu:Rv M w x u) (z:x.int?=some i):∃k,u=.int k i:=by
 unfold V.int? at z
 split at z
 ·rename_i k n h;cases z;exact⟨k,dF hu h⟩
 ·cases z
theorem Co {x:V} {u:Value} {i:Bool} (hu:Rv M w x u) (z:x.bool?=some i):u=.bool i:=by
 unfold V.bool? at z
 split at z
 ·rename_i b h;cases z;exact dF hu h
 ·cases z
theorem IJ (h:SR gl n0 M w σ S) {t:TypeId} {x y:V} {u:Value} {i:Int} {k:IntKind} (hu:Rv M w x u) (hy:KK P σ t x i=some y) :
  ∃v,(Instr.indexAt t u (.int k i)).run P w=.ok v w/\Rv M w y v:=by
 unfold KK at hy
 split at hy
 ·rename_i e full es J
  split at hy
  ·rename_i ie y' O he
   split at hy
   ·rename_i G
    cases hy
    cases hu with
    | p _ _ h1 =>
     cases h1 with
     | nil=>simp at he
     | lst full es A o cap I g hk c' hg hr hf hle hm =>
      have h':=(List.getElem?_eq_some_iff.1 he).1;have f':y'.cells.length=I:=hk _ (MI he);have a':(⟨A,o,none⟩:Addr).add (i.toNat*ie.size)=⟨A,o+i.toNat*I,none⟩:=by rw[Ai,<-G.2,f']
      refine⟨.pointer (some ⟨A,o+i.toNat*I,none⟩),?_,.p _ _ (.elp _ A _ (fun j=>g (i.toNat*I+j)) (fun t ht=>c' t ?_) (fun j hj=>?_) (fun j t ht=>?_))⟩
      ·have z:(0:Int)<=i/\i<es.length:=⟨G.1,by omega⟩;simp[Instr.indexAt,asIntOf,M6 J,z,dq O,a']
      ·exact List.mem_flatMap.2 ⟨y',MI he,ht⟩
      ·have d':=mD (o:=j) hk he (Mq hj);have:=hg _ (List.getElem?_eq_some_iff.1 d').1
       rwa [<-NT]at this
      ·exact hr _ t (mD hk he ht)
   ·cases hy
  ·cases hy
 ·rename_i e n J
  split at hy
  ·rename_i ie e' I es fz O he
   split at hy
   ·rename_i G
    cases hy
    cases hu with
    | ref _ h1 =>
     obtain⟨hk,h0,xs,hx,i',-,-,-⟩:=h.ob n _ he;have Z:0<xs.length:=by rw[hx.1];exact Nat.mul_pos om h0
     obtain⟨A,cap,hv,-⟩:=cW hx (Mq Z);refine⟨.pointer (some ⟨A,i.toNat*I,none⟩),?_,?_⟩
     ·have z:(0:Int)<=i/\i<es.length:=⟨G.1,by omega⟩;simp[Instr.indexAt,asIntOf,M6 J,z,dq O,hv,Ai,G.2.2]
     ·have:=Rv.off (M:=M) (w:=w) n i.toNat 0;rw[hk,hv]at this;exact this
   ·cases hy
  ·cases hy
 ·rename_i e n I len g' J
  split at hy
  ·rename_i ie O
   split at hy
   ·rename_i G
    cases hy
    cases hu with
    | arr _ _ _ full cap h1 h2 =>
     have z:(0:Int)<=i/\i<len:=⟨G.1,by omega⟩;refine⟨.pointer (some ⟨jV (M.h n),i.toNat*I,none⟩),by simp[Instr.indexAt,asIntOf,M6 J,z,dq O,Ai,G.2.2],?_⟩;have:=Rv.off (M:=M) (w:=w) n 0 (i.toNat*I)
     simpa using this
   ·cases hy
  ·cases hy
 ·rename_i len e x J
  split at hy
  ·rename_i ie O
   split at hy
   ·rename_i G
    obtain⟨A,o,rfl,h2⟩:=sG hu hy;exact⟨_,by simp[Instr.indexAt,asIntOf,M6 J,Instr.sureAddr,G,dq O,Ai],h2⟩
   ·cases hy
  ·cases hy
 ·cases hy
def AK (u:Value):Nat->Prop
 | 0=>∃a,u=.pointer (some a)
 | 1=>∃a n c,u=.slice (some a) n c
 | 2=>∃r,u=.map (some r)
 | _=>∃f a b,u=.func (.func f) a b
theorem GZ (h:SR gl n0 M w σ S) {x:V} {u:Value} {k:Nat} (hu:Rv M w x u) (z:nnK σ x=some k):AK u k:=by
 cases hu with
 | p t v J =>
  cases J with
  | elp ts A o g hc hg h2=>cases z;exact⟨_,rfl⟩
  | fn f a b va vb=>cases f<;>cases z<;>exact⟨_,_,_,rfl⟩
  | nil a cap=>simp[nnK]at z
  | lst full es A o cap k' g =>
   simp only[nnK]at z
   split at z
   ·cases z;exact⟨_,_,_,rfl⟩
   ·cases z
  | _=>cases z
 | off n i o=>cases z;exact⟨_,rfl⟩
 | arr n k len full cap J h2=>cases z;exact⟨_,_,_,rfl⟩
 | fn f a b va vb=>cases f<;>cases z<;>exact⟨_,_,_,rfl⟩
 | ref n hc =>
  simp only[nnK]at z
  split at z
  ·rename_i e k' es fz he
   split at z
   ·cases z
   ·rename_i O
    cases z
    obtain⟨hk,h0,xs,Z,-⟩:=h.ob n _ he;have I:es≠[]:=by intro e;subst e;simp at O
    have G:0<xs.length:=by rw[Z.1];exact Nat.mul_pos (List.length_pos_iff.2 I) h0
    obtain⟨A,cap,hv,-⟩:=cW Z (Mq G);exact⟨_,_,_,hv⟩
  ·rename_i es cl he
   cases z
   obtain⟨r,a',J,-⟩:=h.ob n _ he;exact⟨_,J⟩
  ·cases z
 | _=>cases z
theorem BE (h:SR gl n0 M w σ S) {x:V} {u:Value} {n:Int} {q:Bool} (hu:Rv M w x u) (z:LI σ x=some (n,q)) :
  if q=false then ∃b m c,u=.slice b m c/\(m:Int)=n else ∃r G J,u=.map (some r)/\w.heap[r]?=some (.map G J)/\(G.size:Int)=n:=by
 cases hu with
 | p t v I =>
  cases I with
  | nil a cap=>cases z;exact⟨_,_,_,rfl,rfl⟩
  | lst full es A o cap k g=>cases z;exact⟨_,_,_,rfl,rfl⟩
  | _=>cases z
 | arr m k len full cap I Z=>cases z;exact⟨_,_,_,rfl,rfl⟩
 | ref m hc =>
  simp only[LI]at z
  split at z
  ·rename_i e k es fz he
   cases z
   obtain⟨hk,h0,xs,hx,-⟩:=h.ob m _ he;rcases hx.2 with ⟨O,hl⟩|⟨g,cap,cur,O,-⟩
   ·exact⟨_,_,_,O,by rw[hl]⟩
   ·exact⟨_,_,_,O,rfl⟩
  ·rename_i es J he
   cases z
   obtain⟨r,G,I,Z,h3,h4,-⟩:=h.ob m _ he;exact⟨r,G,J,I,h3,by rw[h4]⟩
  ·cases z
 | _=>cases z
theorem BA {k:Nat} {op:BinOp} {t:TypeId} {x y:Operand} {u v:Value} (hu:AK u k) {d:TypeDesc} (I:P.underlying t=some d) (z:E7 d v=some k) (h:op=.eql\/op=.neq) (w:World) :
  (do eqGuard op t x y u v;binOp op t u v:Sem Value).run P w=.ok (.bool (op==.neq)) w:=by
 have he:∀b,eqGuard op t x y u v=pure ()->(Op.equalIn (9999+1) t u v).run P w=.ok b w->b=false->(do eqGuard op t x y u v;binOp op t u v:Sem Value).run P w=.ok (.bool (op==.neq)) w:=by
  intro b O J Z;subst Z;have G:(Op.equal t u v).run P w=.ok false w:=J;rw[MP,O,NE,M9];unfold E7 at z
  split at z<;>cases z<;>obtain⟨_,hu⟩:=hu
  ·subst hu;rcases h with rfl|rfl<;>simp[binOp,G]
  ·obtain⟨n,c,rfl⟩:=hu;rcases h with rfl|rfl<;>simp[binOp,G]
  ·subst hu;rcases h with rfl|rfl<;>simp[binOp,G]
  ·obtain⟨n,c,rfl⟩:=hu;rcases h with rfl|rfl<;>simp[binOp,G]
 refine he false ?_ ?_ rfl
 ·unfold E7 at z
  split at z<;>cases z<;>(unfold eqGuard;rcases h with rfl|rfl<;>first|rfl|(obtain⟨_,hu⟩:=hu;first|(subst hu;rfl)|(obtain⟨_,_,hu⟩:=hu;subst hu;rfl)))
 ·rw[Op.equalIn,MP,M6 I,M9];unfold E7 at z
  split at z<;>cases z<;>obtain⟨_,hu⟩:=hu<;>first|(subst hu;rfl)|(obtain⟨_,_,hu⟩:=hu;subst hu;rfl)
theorem Ad {c:Call} {x:V} (G:uD P gl σ c=some x) {ty:TypeId} (h:SR gl n0 M w σ (rf a ρ::S)) :
  ∃v,(do let d <-resolve a.eval c ty;invoke d.target d.args:Sem Next).run P w=.ok (.value v) w/\Rv M w x v:=by
 obtain⟨cl,I,J⟩:=c;unfold uD at G;simp only[]at G
 split at G
 ·rename_i y t e2 e3
  have Z:I=#[y]:=by rw[<-PJ (xs:=I),e2]
  have a':J=#[t]:=by rw[<-PJ (xs:=J),e3]
  subst Z a'
  split at G
  ·rename_i e n O z
   cases G
   cases hy:evl gl σ y with
   | none=>rw[hy]at z;cases z
   | some yv =>
    rw[hy,MR]at z;have:=BE h (aJ h hy) z;rw[Mp rfl]at this;obtain⟨b,m,c,hv,hm⟩:=this;exact⟨Mk n,by simp[resolve,invoke,builtin,Builtin.len_,M6 O,hv,goInt,hm],.p _ _ (.at _)⟩
  ·rename_i ke ve n O z
   cases G
   cases hy:evl gl σ y with
   | none=>rw[hy]at z;cases z
   | some yv =>
    rw[hy,MR]at z;have:=BE h (aJ h hy) z;rw[Mo jS]at this;obtain⟨r,c',cl,hv,h1,hm⟩:=this;exact⟨Mk n,by simp[resolve,invoke,builtin,Builtin.len_,M6 O,hv,goInt,getObj,Sem.run,h1,hm],.p _ _ (.at _)⟩
  ·cases G
 ·cases G
theorem qC {o:Oper} {x:V} (G:ge P gl o σ=some x):Quiet P gl o σ x:=by
 intro n0 M w S a ρ h;unfold ge at G;unfold execOp
 split at G
 ·rename_i y I;rw[I];exact⟨_,rfl,aJ h G⟩
 ·rename_i y I;rw[I];exact⟨_,rfl,aJ h G⟩
 ·rename_i c y z I
  rw[I]
  split at G
  ·rename_i b p q hb hp hq
   cases G
   cases J:evl gl σ c with
   | none=>rw[J]at hb;cases hb
   | some cv =>
    rw[J]at hb;have d':=Co (aJ h J) hb;refine⟨if b then a.eval y else a.eval z,by simp[d',asBool],?_⟩
    cases b
    ·exact aJ h hq
    ·exact aJ h hp
  ·cases G
 ·rename_i t y I
  rw[I]
  cases J:evl gl σ y with
  | none=>rw[J]at G;cases G
  | some yv =>
   rw[J,MR]at G
   cases hl:look σ yv with
   | none=>rw[hl]at G;cases G
   | some cs =>
    rw[hl,MR]at G;obtain⟨A,o',hv,j'⟩:=Bp h (aJ h J) hl;obtain⟨v,hr,O⟩:=od (P:=P) j' G;exact⟨v,by simp[Instr.loadAt,Instr.sureAddr,hv,hr],O⟩
 ·rename_i s y f I
  rw[I]
  split at G
  ·rename_i fields yv hd J
   split at G
   ·rename_i fd c'
    split at G
    ·rename_i i hi
     split at G
     ·cases G
     ·rename_i f'
      obtain⟨A,o',hv,O⟩:=sG (aJ h J) G;exact⟨_,by simp[Instr.fieldAt,M6 hd,c',Instr.sureAddr,hv,fieldPlace,dq hi,f',Ai],O⟩
    ·cases G
   ·cases G
  ·cases G
 ·rename_i s y f I
  rw[I]
  split at G
  ·rename_i fields cs hd J
   split at G
   ·rename_i fd c'
    cases hy:evl gl σ y with
    | none=>rw[hy]at J;cases J
    | some yv =>
     rw[hy,MR]at J;obtain⟨vs,hv,hr⟩:=IS (aJ h hy) J;obtain⟨v,Z,h2⟩:=JM (P:=P) hr G;exact⟨v,by simp[Instr.field,M6 hd,c',asAgg,hv,Z],h2⟩
   ·cases G
  ·cases G
 ·rename_i t y ix I
  rw[I]
  split at G
  ·rename_i yv i hy hi
   cases J:evl gl σ ix with
   | none=>rw[J]at hi;cases hi
   | some iv =>
    rw[J,MR]at hi;obtain⟨k,hk⟩:=qX (aJ h J) hi;obtain⟨v,Z,h2⟩:=IJ (P:=P) (k:=k) h (aJ h hy) G;exact⟨v,by simp[hk,Z],h2⟩
  ·cases G
 ·rename_i y i I
  rw[I]
  cases hy:evl gl σ y with
  | none=>rw[hy]at G;cases G
  | some yv =>
   rw[hy,MR]at G
   cases J:yv.tupc with
   | none=>rw[J]at G;cases G
   | some cs =>
    rw[J,MR]at G;obtain⟨vs,hv,hr⟩:=Iz (aJ h hy) J;obtain⟨v,Z,h2⟩:=hr.get G;have h':vs[i]?=some v:=jQ Z;exact⟨v,by simp[Instr.extract,hv,h'],h2⟩
 ·rename_i f p q I
  rw[I]
  split at G
  ·rename_i xs ys Z h2
   cases G
   refine⟨_,?_,Rv.mkFn (gV h Z) (gV h h2)⟩;simp[Instr.makeFunc];exact⟨by apply OG;simp,by apply OG;simp⟩
  ·cases G
 ·rename_i y I
  rw[I]
  split at G
  ·rename_i v hy
   split at G
   ·rename_i hn
    cases G
    have O:=aJ h hy
    cases hk:nnK σ x with
    | none=>rw[hk]at hn;cases hn
    | some k =>
     have:=GZ h O hk;refine⟨a.eval y,?_,O⟩;unfold AK at this
     split at this
     ·obtain⟨b,e⟩:=this;simp[e]
     ·obtain⟨b,n,c,e⟩:=this;simp[e]
     ·obtain⟨b,e⟩:=this;simp[e]
     ·obtain⟨b,n,c,e⟩:=this;simp[e]
   ·cases G
  ·cases G
 ·rename_i t parts I
  rw[I]
  split at G
  ·rename_i vs i'
   cases hb:bld P t ((parts.toList.map (·.1)).zip vs) with
   | none=>rw[hb]at G;cases G
   | some cs =>
    rw[hb]at G;cases G;have hr:=gV h i';have hlen:vs.length=parts.toList.length:=by have:=hr.1;simpa using this.symm
    obtain⟨res,Z,h2⟩:=Mc (ps:=parts.toList.map fun x=>(x.1,a.eval x.2)) hb (by
      rw[Oa,List.map_fst_zip (by simp[hlen])];rfl) (by
      rw[Oa,List.map_snd_zip (by simp[hlen])];have:(fun x:Nat × Value=>x.2) ∘ (fun x:Nat × Operand=>(x.1,a.eval x.2))=a.eval ∘ (fun x=>x.2):=rfl;rw[this,<-Oa];exact hr)
    refine⟨_,?_,Rv.mkAgg h2⟩;have:=run_build (P:=P) w t (parts.map fun x=>(x.1,a.eval x.2)) res (jQ Z);simp[this]
  ·cases G
 ·rename_i op t y z yt I
  rw[I]
  split at G
  ·rename_i d v u hd hy hu
   split at G
   ·rename_i k k' hk a'
    split at G
    ·rename_i e
     subst e
     cases hz:evl gl σ z with
     | none=>rw[hz]at hu;cases hu
     | some zv =>
      rw[hz,MR]at hu;have g':=dF (aJ h hz) hu;have Z:=GZ h (aJ h hy) hk;rw[<-g']at a'
      split at G
      ·cases G
       refine⟨.bool false,?_,.p _ _ (.at _)⟩;have:=BA (x:=y) (y:=z) (op:=.eql) Z hd a' (.inl rfl) w;simp only[MP]at this ⊢;rw[this];rfl
      ·cases G
       refine⟨.bool true,?_,.p _ _ (.at _)⟩;have:=BA (x:=y) (y:=z) (op:=.neq) Z hd a' (.inr rfl) w;simp only[MP]at this ⊢;rw[this];rfl
      ·cases G
    ·cases G
   ·cases G
  ·cases G
 ·rename_i c I
  rw[I];exact Ad G h
 ·cases G
end
end
section
mutual
def V.frz (b:Bool) (σ:Sg):V->Option Tr
 | .p t=>some t
 | .agg cs=>(V.frzs b σ cs).map .agg
 | .tup cs=>(V.frzs b σ cs).map .tup
 | .ref n=>match gt σ.obs n with|some (.row _ _ es _)=>some (.lst false es)|_=>none
 | .off n i o=>if b&&i==0 then match gt σ.obs n with
   | some (.box cs)=>(V.unp (cs.drop o)).bind fun ts=>if ts.all Tr.cell then some (.elp ts) else none
   | _=>none
  else none
 | .arr ..=>none
 | .fn f x y=>match V.frzs b σ x,V.frzs b σ y with|some x,some y=>some (.fn f x y)|_,_=>none
 | .yld _=>none
 | .junk=>none
def V.frzs (b:Bool) (σ:Sg):List V->Option (List Tr)
 | []=>some []
 | v::l=>match V.frz b σ v,V.frzs b σ l with|some t,some m=>some (t::m)|_,_=>none
end
mutual
def V.nms:V->List Nat
 | .ref n=>[n]
 | .agg cs=>V.nmss cs
 | .tup cs=>V.nmss cs
 | .fn _ a b=>V.nmss a++V.nmss b
 | _=>[]
def V.nmss:List V->List Nat
 | []=>[]
 | v::l=>V.nms v++V.nmss l
end
def Ob.sz:Ob->Nat
 | .box cs=>cs.length
 | .row _ k es _=>es.length*k
 | .map ..=>0
theorem V.frzs_get {b:Bool} {σ:Sg} {l:List V} {m:List Tr} (h:V.frzs b σ l=some m):l.length=m.length/\∀(i:Nat) (t:Tr),m[i]?=some t->∃v,l[i]?=some v/\V.frz b σ v=some t:=by
 induction l generalizing m with
 | nil=>rw[V.frzs]at h;cases h;exact⟨rfl,fun i t h=>by simp at h⟩
 | cons x l G =>
  rw[V.frzs]at h
  split at h
  ·rename_i v O J I
   cases h
   refine⟨by simp[(G I).1],fun i t z=>?_⟩
   cases i with
   | zero=>simp at z;subst z;exact⟨x,rfl,J⟩
   | succ i=>simp at z ⊢;exact (G I).2 i t z
  ·cases h
theorem V.nmss_mem {l:List V} {i:Nat} {v:V} {n:Nat} (h:l[i]?=some v) (G:n∈V.nms v):n∈V.nmss l:=by
 induction l generalizing i with
 | nil=>simp at h
 | cons x l z =>
  rw[V.nmss]
  cases i with
  | zero=>simp at h;subst h;exact OW _ G
  | succ i=>exact OE _ (z (jQ h))
section
variable {P : Program} {gl : Nat -> Option (List Tr)} {n0 : Nat} {M M' : Mem} {w w' : World} {σ σ' : Sg} {S : List Rf} {a : Act}
theorem Lc (h:SR gl n0 M w σ S) {n:Nat} {e:TypeId} {k:Nat} {es:List Tr} {fz:Bool} (hn:gt σ.obs n=some (.row e k es fz)) {F:Nat->Nat} (hF:∀b,M.F b<=F b)
  (hs:∀g,dG (M.h n)=some g->es.length*k<=F g):Rp F w (.lst false es) (M.h n):=by
 obtain⟨hk,h0,xs,hx,J,hc,hr,-⟩:=h.ob n _ hn;rcases hx.2 with ⟨O,hl⟩|⟨g,cap,cur,O,hb,hh,hle,hm,hcs,ht⟩
 ·have:es=[]:=M8 hl;subst this;rw[O];exact .nil _ _
 ·have Z:=ij J;have hlen:∀j,j<(aO es).length->∃u,xs[j]?=some u:=fun j G=>⟨_,Mq (by rw[hx.1,<-Z];exact G)⟩
  have c':=hs g (by rw[O];rfl);have kp:Kept M.F w F w:=fun b n u hn e=>⟨e,ME hn (hF b)⟩
  rw[O];refine .lst false es g 0 cap k (fun j=>xs.getD j undef) J hc (fun j G=>?_) (fun j t G=>?_) (fun e=>by cases e) hle hm
  ·obtain⟨u,hu⟩:=hlen j G;obtain⟨A,a',I,z⟩:=cW hx hu;rw[O]at I;cases I;exact⟨by rw[z];simp[List.getD,hu],by omega⟩
  ·obtain⟨u,hu⟩:=hlen j (List.getElem?_eq_some_iff.1 G).1;have:=(hr j t u G hu).kept kp
   simpa [List.getD,hu] using this
theorem Hm (h:SR gl n0 M w σ S) {b:Bool} {F:Nat->Nat} (hF:∀b,M.F b<=F b) {x:V} {u:Value} (hu:Rv M w x u) :
  ∀{t:Tr},x.frz b σ=some t->(∀n ob g,(n∈x.nms\/b=true)->gt σ.obs n=some ob->dG (M.h n)=some g->ob.sz<=F g)->Rp F w t u:=by
 have kp:Kept M.F w F w:=fun b n u z e=>⟨e,ME z (hF b)⟩
 have O:∀{cs:List V} {vs:Array Value} {ts:List Tr},vs.size=cs.length->V.frzs b σ cs=some ts->(∀n ob g,(n∈V.nmss cs\/b=true)->gt σ.obs n=some ob->dG (M.h n)=some g->ob.sz<=F g) ->
   (∀(i:Nat) (x:V) (v:Value),cs[i]?=some x->vs[i]?=some v->∀{t:Tr},x.frz b σ=some t->(∀n ob g,(n∈x.nms\/b=true)->gt σ.obs n=some ob->dG (M.h n)=some g->ob.sz<=F g)->Rp F w t v) ->
   vs.size=ts.length/\∀(i:Nat) (t:Tr) (v:Value),ts[i]?=some t->vs[i]?=some v->Rp F w t v:=by
  intro cs vs ts hl hf z ih;obtain⟨G,J⟩:=V.frzs_get hf;refine⟨by omega,fun i t v Z hv=>?_⟩;obtain⟨y,h3,h4⟩:=J i t Z;exact ih i y v h3 hv h4 fun n ob g hm=>z n ob g (hm.imp (V.nmss_mem h3) id)
 induction hu with
 | p t v G=>intro s hs z;rw[V.frz]at hs;cases hs;exact G.kept kp
 | agg cs vs hl hr ih =>
  intro s hs z;rw[V.frz]at hs
  cases hf:V.frzs b σ cs with
  | none=>rw[hf]at hs;cases hs
  | some ts=>rw[hf]at hs;cases hs;obtain⟨G,J⟩:=O hl hf (fun n ob g hm=>z n ob g (by rw[V.nms];exact hm)) ih;exact .agg ts vs G J
 | tup cs vs hl hr ih =>
  intro s hs z;rw[V.frz]at hs
  cases hf:V.frzs b σ cs with
  | none=>rw[hf]at hs;cases hs
  | some ts=>rw[hf]at hs;cases hs;obtain⟨G,J⟩:=O hl hf (fun n ob g hm=>z n ob g (by rw[V.nms];exact hm)) ih;exact .tup ts vs G J
 | ref n hc =>
  intro s hs z;rw[V.frz]at hs
  split at hs
  ·rename_i e k es fz he
   cases hs
   exact Lc h he hF fun g hg=>z n _ g (.inl (by rw[V.nms];simp)) he hg
  ·cases hs
 | off n i o =>
  intro s hs z;rw[V.frz]at hs
  split at hs
  ·rename_i hb
   simp only[My,MO]at hb
   split at hs
   ·rename_i cs he
    cases hu:V.unp (cs.drop o) with
    | none=>rw[hu]at hs;cases hs
    | some ts =>
     rw[hu,MR]at hs
     split at hs
     ·rename_i c'
      cases hs
      obtain⟨A,c,el,G,J,h3,h4,h5,h6⟩:=h.ob n _ he;have g':=z n _ A (.inr hb.1) he (by rw[G];rfl);have a':=V.unp_eq hu;have j':ts.length=cs.length-o:=by have:=congrArg List.length a';simpa using this.symm
      obtain⟨_,rfl⟩:=hb;rw[G];simp only[jV,Nn,MC];refine .elp ts A o (fun j=>c.getD (o+j) undef) (fun t Z=>List.all_eq_true.1 c' t Z) (fun j hj=>?_) (fun j t Z=>?_)
      ·have I:o+j<c.size:=by omega
       simp only[Ob.sz]at g';exact⟨by simp[World.cell?,h4,I],by omega⟩
      ·have hj:=(List.getElem?_eq_some_iff.1 Z).1;have I:o+j<c.size:=by omega
       have h7:cs[o+j]?=some (.p t):=by rw[<-N7,a'];simp[Z]
       have:=(h6 (o+j) (.p t) _ h7 (MJ I)).inv_p.kept kp
       simpa [I] using this
     ·cases hs
   ·cases hs
  ·cases hs
 | fn f x y vx vy d' h' hx hy i' f' =>
  intro s hs z;rw[V.frz]at hs
  split at hs
  ·rename_i x' y' G J
   cases hs
   obtain⟨h3,h4⟩:=O d' G (fun n ob g hm=>z n ob g (by rw[V.nms];exact hm.imp (OW _) id)) i';obtain⟨h5,h6⟩:=O h' J (fun n ob g hm=>z n ob g (by rw[V.nms];exact hm.imp (OE _) id)) f';exact .fn f x' y' vx vy h3 h5 h4 h6
  ·cases hs
 | arr n k len full cap G J=>intro s hs z;rw[V.frz]at hs;cases hs
 | yld i hi=>intro s hs z;rw[V.frz]at hs;cases hs
 | junk v=>intro s hs z;rw[V.frz]at hs;cases hs
def Sg.fz (σ:Sg) (n:Nat):Sg:=match gt σ.obs n with|some (.row e k es false)=>⟨pt σ.obs n (.row e k es true),σ.stk,σ.lps⟩|_=>σ
def Sg.fzs (σ:Sg):List Nat->Sg
 | []=>σ
 | n::l=>(σ.fz n).fzs l
theorem nx_fz (σ:Sg) (n:Nat):nx (σ.fz n).obs=nx σ.obs:=by
 unfold Sg.fz
 split
 ·rename_i h;have:=gt_nx h;simp only[BD];omega
 ·rfl
theorem Fv:∀(l:List Nat) (σ:Sg),nx (σ.fzs l).obs=nx σ.obs
 | [],_=>rfl
 | n::l,σ=>(Fv l (σ.fz n)).trans (nx_fz σ n)
theorem BZ (σ:Sg):σ.mp id=σ:=by
 have h:∀x:Ob,x.mp id=x:=fun x=>by cases x<;>simp[Ob.mp]
 have z:Fr.mp id=id:=funext fun f=>by cases f;simp[Fr.mp]
 cases σ
 simp[Sg.mp,h,z]
theorem SR.fz (h:SR gl n0 M w σ S) (n:Nat):∃F,(∀b,M.F b<=F b)/\(∀b,b<n0->F b=M.F b)/\SR gl n0 { M with F:=F } w (σ.fz n) S /\
  (∀e k es O g,gt σ.obs n=some (.row e k es O)->dG (M.h n)=some g->es.length*k<=F g)/\(∀m,gt (σ.fz n).obs m=(if m=n then (gt σ.obs n).map (fun|.row e k es _=>.row e k es true|o=>o) else gt σ.obs m)):=by
 unfold Sg.fz
 split
 ·rename_i e k es he
  have d':=h.ob n _ he;obtain⟨hk,h0,xs,Z,c',hc,hr,hf⟩:=d'
  let F:Nat->Nat:=fun b=>if dG (M.h n)=some b then es.length*k else M.F b
  have hF:∀b,M.F b<=F b:=fun b=>by
   simp only[F]
   split
   ·rename_i e;have:=hf b e;rw[Mo jS]at this;omega
   ·exact Mt _
  have kp:Kept M.F w F w:=fun b n u hn e=>⟨e,ME hn (hF b)⟩
  have J:∀g,dG (M.h n)=some g->F g=es.length*k:=fun g z=>by simp only[F];rw[Mp z]
  refine⟨F,hF,fun b hb=>?_,?_,?_,?_⟩
  ·simp only[F];rw[Mo (fun e=>by have:=(h.ob n _ he).lt e;omega)]
  ·have:=h.upd (M':={ M with F:=F }) (w':=w) (κ:=id) (n:=n) (ob:=.row e k es true) (fun t v hv=>hv.kept (M':={ M with F:=F }) kp rfl rfl) kp (Mt _) (fun m _=>⟨rfl,rfl⟩)
    (fun m x g hm Z z=>⟨rfl,by show F g=_;simp only[F];rw[Mo (fun e=>h.apart n m _ x g (MT hm) he Z e z)]⟩)
    ⟨hk,h0,xs,Z,c',hc,fun j t u ht hu=>(hr j t u ht hu).kept kp,fun g z=>by rw[Mp rfl];exact N2 (J g z).symm⟩
    (fun m x g hm Z z a'=>h.apart n m _ x g (MT hm) he Z z a') (fun i hi=>⟨rfl,rfl⟩)
   rwa [BZ]at this
  ·intro e' k' es' f' g z G;rw[he]at z;cases z;exact N2 (J g G).symm
  ·intro m;simp only[xV,he,NR]
   by_cases hm:m=n
   ·subst hm;simp
   ·rw[Mo (MT hm),Mo hm]
 ·rename_i I
  refine⟨M.F,fun _=>Mt _,fun _ _=>rfl,h,?_,?_⟩
  ·intro e k es O g z G
   cases O with
   | false=>exact (I e k es z).elim
   | true=>obtain⟨-,-,xs,-,-,-,-,hf⟩:=h.ob n _ z;have:=hf g G;rwa [Mp rfl]at this
  ·intro m
   by_cases hm:m=n
   ·subst hm;rw[Mp rfl]
    cases z:gt σ.obs m with
    | none=>rfl
    | some x =>
     cases x with
     | row e k es O=>cases O with
      | false=>exact (I e k es z).elim
      | true=>rfl
     | _=>rfl
   ·rw[Mo hm]
theorem SR.fzs:∀(l:List Nat) {M:Mem} {σ:Sg},SR gl n0 M w σ S->∃F,(∀b,M.F b<=F b)/\(∀b,b<n0->F b=M.F b)/\SR gl n0 { M with F:=F } w (σ.fzs l) S /\
  (∀n e k es I g,n∈l->gt σ.obs n=some (.row e k es I)->dG (M.h n)=some g->es.length*k<=F g)
 | [],M,σ,h=>⟨M.F,fun _=>Mt _,fun _ _=>rfl,h,fun n e k es I g O=>by simp at O⟩
 | m::l,M,σ,h=>by
  obtain⟨F,h1,h2,h3,h4,h5⟩:=h.fz m;obtain⟨G,g1,g2,g3,g4⟩:=SR.fzs l h3;refine⟨G,fun b=>Mx (h1 b) (g1 b),fun b Z=>(g2 b Z).trans (h2 b Z),g3,?_⟩;intro n e k es I g O hg J
  by_cases z:n=m
  ·subst z;exact Mx (h4 e k es I g hg J) (g1 g)
  ·rcases List.mem_cons.1 O with e'|O
   ·exact (z e').elim
   ·exact g4 n e k es I g O (by rw[h5,Mo z];exact hg) J
end
end
end Go.Proofs.YtbjicljfjkdeeaaGreatDoor
