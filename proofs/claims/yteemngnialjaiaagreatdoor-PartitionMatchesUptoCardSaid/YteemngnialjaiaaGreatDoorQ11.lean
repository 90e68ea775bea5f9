/- Part. -/
import Derived.Test.YteemngnialjaiaaGreatDoorQ10
import Derived.Great.BuildSlice
set_option maxRecDepth 100000
set_option maxHeartbeats 16000000
set_option linter.unusedVariables false
set_option linter.unusedSimpArgs false
namespace Go.Proofs.YteemngnialjaiaaGreatDoor
open Go.Proofs.Tryz Go.RowKit
variable {ρ:Option Nat}{P:Program}{gl:Nat->Option (List Tr)}{n0 d i k φ:Nat}{w w':World}{S:List Rf}{a:Act}{u v:Value}{p:Prop}{vs:List Value}{t e h:TypeId}{ps:List (Nat×Value)}{q b:Bool}{c:Call}{o:Oper}{m es:List Tr}{F:Nat->Nat}
section
def vU(d:Nat):V->Option V
 | .p (.elp cs)=>some (.p (.elp (cs.drop d)))
 | .off n i o=>some (.off n i (o+d))
 | _=>none
def V.aggc:V->Option (List V)
 | .p (.agg cs)=>some (cs.map .p)
 | .p (.at (.agg vs))=>some (vs.toList.map fun v=>.p (.at v))
 | .agg cs=>some cs
 | _=>none
def V.tupc:V->Option (List V)
 | .p (.tup cs)=>some (cs.map .p)
 | .p (.at (.tuple vs))=>some (vs.toList.map fun v=>.p (.at v))
 | .tup cs=>some cs
 | _=>none
def V.int?(x:V):Option Int:=match x.toVal with|some (.int _ n)=>some n|_=>none
def V.bool?(x:V):Option Bool:=match x.toVal with|some (.bool b)=>some b|_=>none
def DN(P:Program)(σ:Sg)(t:TypeId)(x:V)(i:Int):Option V :=
 match P.underlying t,x with
 | some (.slice e),.p (.lst _ es)=>match P.info? e,es[i.toNat]? with
  | some h,some y=>if 0<=i/\y.cells.length=h.size then some (.p (.elp y.cells)) else none
  | _,_=>none
 | some (.slice e),.ref n=>match P.info? e,gt σ.obs n with
  | some h,some (.row _ k es _)=>if 0<=i/\i.toNat<es.length/\k=h.size then some (.off n i.toNat 0) else none
  | _,_=>none
 | some (.slice e),.arr n k len _=>match P.info? e with
  | some h=>if 0<=i/\i.toNat<len/\k=h.size then some (.off n 0 (i.toNat*k)) else none
  | _=>none
 | some (.array len e),x=>match P.info? e with
  | some h=>if 0<=i/\i<len then vU (i.toNat*h.size) x else none
  | _=>none
 | _,_=>none
def tM(cells:List V)(off:Nat)(cs:List V):List V:=cells.take off++cs++cells.drop (off+cs.length)
def sF(place:Nat->Option (Nat × Nat)):List V->List (Nat × V)->Option (List V)
 | cells,[]=>some cells
 | cells,(i,x)::rest=>match place i,x.cells with
  | some (off,size),some cs=>if cs.length≠size\/off+cs.length > cells.length then none else sF place (tM cells off cs) rest
  | _,_=>none
def zrV(z:Value):List V:=z.cells.toList.map fun v=>.p (.at v)
def bld(P:Program)(t:TypeId)(parts:List (Nat × V)):Option (List V) :=
 match P.info? t,P.underlying t with
 | some it,some (.array _ e) =>
  match it.zero,P.info? e with
  | some z,some ie=>sF (fun i=>some (i*ie.size,ie.size)) (zrV z) parts
  | _,_=>none
 | some it,some (.struct fields) =>
  match it.zero,fields.toList.mapM (fun f=>(P.info? f.type).map fun i=>(f.offset,i.size)) with
  | some z,some places=>sF (places.toArray[·]?) (zrV z) parts
  | _,_=>none
 | _,_=>none
def mf(gl:Nat->Option (List Tr))(σ:Sg):List Operand->Option (List V)
 | []=>some []
 | x::l=>match evl gl σ x,mf gl σ l with|some v,some m=>some (v::m)|_,_=>none
def nnK(σ:Sg):V->Option Nat
 | .p (.elp _)=>some 0
 | .p (.fn (.func _) _ _)=>some 3
 | .p (.lst full es)=>if full || !es.isEmpty then some 1 else none
 | .off ..=>some 0
 | .arr ..=>some 1
 | .fn (.func _) _ _=>some 3
 | .ref n=>match gt σ.obs n with|some (.row _ _ es _)=>if es.isEmpty then none else some 1|some (.map ..)=>some 2|_=>none
 | _=>none
def FG:TypeDesc->Value->Option Nat
 | .pointer _,.pointer none=>some 0
 | .slice _,.slice none _ _=>some 1
 | .map _ _,.map none=>some 2
 | .func _ _ _,.nilFunc=>some 3
 | _,_=>none
def NA(σ:Sg):V->Option (Int × Bool)
 | .p (.lst _ es)=>some (es.length,false)
 | .arr _ _ len _=>some (len,false)
 | .ref n=>match gt σ.obs n with|some (.row _ _ es _)=>some (es.length,false)|some (.map es _)=>some (es.length,true)|_=>none
 | _=>none
def uG(P:Program)(gl:Nat->Option (List Tr))(σ:Sg)(c:Call):Option V :=
 match c.callee,c.args.toList,c.argTypes.toList with
 | .builtin .len,[x],[t]=>match P.underlying t,(evl gl σ x).bind (NA σ) with
  | some (.slice _),some (n,false)=>some (.p (.at (OB n)))
  | some (.map ..),some (n,true)=>some (.p (.at (OB n)))
  | _,_=>none
 | _,_,_=>none
def eH(P:Program)(gl:Nat->Option (List Tr))(o:Oper)(σ:Sg):Option V :=
 match o.op with
 | .move x|.assign x=>evl gl σ x
 | .pick c x y=>match (evl gl σ c).bind V.bool?,evl gl σ x,evl gl σ y with
  | some b,some x,some y=>some (if b then x else y)
  | _,_,_=>none
 | .load t x=>((evl gl σ x).bind (look σ)).bind (eQ P t)
 | .fieldAddr s x f=>match P.underlying s,evl gl σ x with
  | some (.struct fields),some x=>match fields[f]? with
   | some fd=>match P.info? fd.type with
    | some i=>if i.size=0 then none else vU fd.offset x
    | none=>none
   | none=>none
  | _,_=>none
 | .field s x f=>match P.underlying s,(evl gl σ x).bind V.aggc with
  | some (.struct fields),some cs=>match fields[f]? with
   | some fd=>eQ P fd.type (cs.drop fd.offset)
   | none=>none
  | _,_=>none
 | .indexAddr t x h=>match evl gl σ x,(evl gl σ h).bind V.int? with
  | some x,some i=>DN P σ t x i
  | _,_=>none
 | .extract x i=>((evl gl σ x).bind V.tupc).bind (·[i]?)
 | .makeFunc f a b=>match mf gl σ a.toList,mf gl σ b.toList with
  | some x,some y=>some (.mkFn f x y)
  | _,_=>none
 | .nilCheck x=>match evl gl σ x with
  | some v=>if (nnK σ v).isSome then some v else none
  | none=>none
 | .build t parts=>match mf gl σ (parts.toList.map (·.2)) with
  | some vs=>(bld P t ((parts.toList.map (·.1)).zip vs)).map V.mkAgg
  | none=>none
 | .binOp op t x y _=>match P.underlying t,evl gl σ x,(evl gl σ y).bind V.toVal with
  | some d,some v,some u=>match nnK σ v,FG d u with
   | some k,some k'=>if k=k' then match op with
    | .eql=>some (.p (.at (.bool false)))
    | .neq=>some (.p (.at (.bool true)))
    | _=>none
    else none
   | _,_=>none
  | _,_,_=>none
 | .call c=>uG P gl σ c
 | _=>none
section
variable {M M':Mem}{σ σ':Sg}
theorem gE{a:Act}(h:SR gl n0 M w σ (rf a ρ::S)):∀{l:List Operand}{m:List V},mf gl σ l=some m->Rvs M w m (l.map a.eval)
 | [],m,hm=>by rw[mf]at hm;cases hm;exact⟨rfl,fun i t v h=>by simp at h⟩
 | x::l,m,hm=>by
  rw[mf]at hm
  split at hm
  ·rename_i v m' h1 Z
   cases hm
   have J:=gE h Z;refine⟨by simp[<-J.1],fun i t u I hu=>?_⟩
   cases i with
   | zero=>simp at I hu;subst I;subst hu;exact aH h h1
   | succ i=>exact J.2 i t u (jQ I) (jQ hu)
  ·cases hm
theorem sP{x y:V}(hu:Rv M w x u)(hy:vU d x=some y):∃A o,u=.pointer (some ⟨A,o,none⟩)/\Rv M w y (.pointer (some ⟨A,o+d,none⟩)):=by
 cases hu with
 | p t v h1 =>
  cases h1 with
  | elp ts A o g hc J I =>
   cases hy
   refine⟨A,o,rfl,.p _ _ (.elp _ A (o+d) (fun j=>g (d+j)) (fun t h=>hc t (Q9 h)) (fun j Z=>?_) (fun j t h=>?_))⟩
   ·have:=J (d+j) (by simp at Z;omega)
    rwa [<-PP]at this
   ·rw[Qa]at h;exact I _ t h
  | _=>cases hy
 | off n i o=>cases hy;exact⟨_,_,rfl,by rw[PP];exact .off n i (o+d)⟩
 | _=>cases hy
theorem uaK(h:p:=by
  cases J
  refine⟨vs,rfl,by simp[hl],fun i t v I Z=>?_⟩;rw[OQ]at I
  cases hg:cs[i]? with
  | none=>rw[hg]at I;cases I
  | some s=>rw[hg]at I;cases I;exact .p _ _ (h i s v hg (jQ Z))):p:=h
theorem Jv{x:V}{cs:List V}(hu:Rv M w x u)(J:x.aggc=some cs):∃vs:Array Value,u=.agg vs/\Rvs M w cs vs.toList:=by
 cases hu with
 | p t v h1 =>
  cases h1 with
  | «at» =>
   cases u with
   | agg vs =>
    cases J
    refine⟨vs,rfl,by simp,fun i t v I Z=>?_⟩;rw[OQ,Z]at I
    cases I
    exact .p _ _ (.at v)
   | _=>cases J
  | agg cs vs hl h =>
   exact uaK
  | _=>cases J
 | agg cs vs hl h=>cases J;exact⟨vs,rfl,by simp[hl],fun i t v I Z=>h i t v I (jQ Z)⟩
 | _=>cases J
theorem I7{x:V}{cs:List V}(hu:Rv M w x u)(J:x.tupc=some cs):∃vs:Array Value,u=.tuple vs/\Rvs M w cs vs.toList:=by
 cases hu with
 | p t v h1 =>
  cases h1 with
  | «at» =>
   cases u with
   | tuple vs =>
    cases J
    refine⟨vs,rfl,by simp,fun i t v I Z=>?_⟩;rw[OQ,Z]at I
    cases I
    exact .p _ _ (.at v)
   | _=>cases J
  | tup cs vs hl h =>
   exact uaK
  | _=>cases J
 | tup cs vs hl h=>cases J;exact⟨vs,rfl,by simp[hl],fun i t v I Z=>h i t v I (jQ Z)⟩
 | _=>cases J
theorem Rvs.get{cs:List V}(h:Rvs M w cs vs){t:V}(J:cs[i]?=some t):∃v,vs[i]?=some v/\Rv M w t v:=by
 have Z:=(List.getElem?_eq_some_iff.1 J).1;have I:i<vs.length:=by rw[h.1];exact Z
 exact⟨_,OH I,h.2 i t _ J (OH I)⟩
theorem Rvs.drop{cs:List V}(h:Rvs M w cs vs)(d:Nat):Rvs M w (cs.drop d) (vs.drop d) :=
 ⟨by simp[h.1],fun i t v J I=>h.2 (d+i) t v (by rwa [Qa]at J) (by rwa [Qa]at I)⟩
theorem Rvs.take{cs:List V}(h:Rvs M w cs vs)(d:Nat):Rvs M w (cs.take d) (vs.take d) :=
 ⟨by simp[h.1],fun i t v I Z=>by
  rw[Qt]at I Z
  split at I
  ·rename_i J;rw[OG J]at Z;exact h.2 i t v I Z
  ·cases I⟩
theorem Rvs.append{cs ds:List V}{us:List Value}(h:Rvs M w cs vs)(k:Rvs M w ds us):Rvs M w (cs++ds) (vs++us) :=
 ⟨by simp[h.1,k.1],fun i t v J I=>by
  by_cases Z:i<cs.length
  ·rw[Ph Z]at J;rw[Ph (by rw[h.1];exact Z)]at I;exact h.2 i t v J I
  ·rw[Pz om]at J;rw[Pz (by rw[h.1];omega),h.1]at I;exact k.2 _ t v J I⟩
theorem KM{cs:List V}{x:V}{vs:Array Value}(hc:Rvs M w cs vs.toList)(h:eQ P t (cs.drop d)=some x):∃v,(part t vs d).run P w=.ok v w/\Rv M w x v:=by
 unfold eQ at h
 split at h
 ·rename_i i ds hi hd
  have I:=CS hd w
  split at h
  ·rename_i J
   split at h
   ·rename_i hle
    cases h
    refine⟨_,?_,Rv.mkAgg ((hc.drop d).take i.size)⟩;have he:((vs.toList.drop d).take i.size).toArray=vs.extract d (d+i.size):=by
     apply QZ;simp[List.take_drop]
    rw[he];simp[part,Pg,I,J,cZ hi]
   ·cases h
  ·rename_i J
   have h0:cs[d]?=some x:=by rw[<-h,List.head?_drop]
   obtain⟨v,hv,hr⟩:=hc.get h0;refine⟨v,?_,hr⟩;have Z:vs[d]?=some v:=jQ hv;simp[part,Pg,I,J,Z]
 ·cases h
theorem sW(l:List Value)(off:Nat):∀(s:Nat)(c:Array Value) ,off+s+l.length<=c.size ->
  ((l.zipIdx s).foldl (fun cs (x:Value × Nat)=>cs.setIfInBounds (off+x.2) x.1) c).toList=c.toList.take (off+s)++l++c.toList.drop (off+s+l.length):=by
 induction l with
 | nil=>intro s c h;simp
 | cons x l J =>
  intro s c h;simp only[Pk]at h;rw[List.zipIdx_cons,PR,J (s+1) _ (by simp;omega)];apply Rw;intro i;simp only[Array.toList_setIfInBounds,Rk,Qt,Qa,OM,PB,RY,QN,Pk,Rd];rcases R7 i (off+s) with I|I|I
  ·simp only[show i<min (off+(s+1)) c.size+l.length by omega,show i<min (off+(s+1)) c.size by omega,show i<off+(s+1) by omega,show ¬off+s=i by omega,show i<min (off+s) c.size+(l.length+1) by omega,show i<min (off+s) c.size by omega,show i<off+s by omega,Ps,Qb]
  ·subst I;simp only[show off+s<min (off+(s+1)) c.size+l.length by omega,show off+s<min (off+(s+1)) c.size by omega,show off+s<off+(s+1) by omega,show off+s<min (off+s) c.size+(l.length+1) by omega,show ¬off+s<min (off+s) c.size by omega,show off+s<c.size by omega,Ps,Qb,show off+s-min (off+s) c.size=0 by omega,Q5]
  ·by_cases Z:i<off+s+1+l.length
   ·simp only[show i<min (off+(s+1)) c.size+l.length by omega,show ¬i<min (off+(s+1)) c.size by omega,show i<min (off+s) c.size+(l.length+1) by omega,show ¬i<min (off+s) c.size by omega,Ps,Qb,show i-min (off+s) c.size=(i-min (off+(s+1)) c.size)+1 by omega,QC]
   ·simp only[show ¬i<min (off+(s+1)) c.size+l.length by omega,show ¬i<min (off+s) c.size+(l.length+1) by omega,Qb,show off+s+(l.length+1)+(i-(min (off+s) c.size+(l.length+1)))=i by omega,show off+(s+1)+l.length+(i-(min (off+(s+1)) c.size+l.length))=i by omega,show ¬off+s=i by omega]
theorem qH{place:Nat->Option (Nat×Nat)}:∀{parts:List (Nat × V)}{ps:List (Nat × Value)}{cells out:List V}{vs:Array Value},sF place cells parts=some out->Rvs M w cells vs.toList ->
  ps.map (·.1)=parts.map (·.1)->Rvs M w (parts.map (·.2)) (ps.map (·.2))->∃res,Instr.fill place vs ps=some res/\Rvs M w out res.toList
 | [],ps,cells,out,vs,h,hc,he,hp=>by
  have:ps=[]:=jQ he;subst this;rw[sF]at h;cases h;exact⟨vs,rfl,hc⟩
 | (i,x)::rest,[],cells,out,vs,h,hc,he,hp=>by simp at he
 | (i,x)::rest,(j,v)::ps,cells,out,vs,h,hc,he,hp=>by
  simp only[OU,PJ]at he;obtain⟨rfl,he⟩:=he;have d':Rv M w x v:=hp.2 0 x v rfl rfl;have f':Rvs M w (rest.map (·.2)) (ps.map (·.2)):=⟨jQ hp.1,fun k t u ht hu=>hp.2 (k+1) t u (jQ ht) (jQ hu)⟩;rw[sF]at h
  split at h
  ·rename_i off size cs h1 h2
   split at h
   ·cases h
   ·rename_i hn
    have J:cs.length=size/\off+cs.length<=cells.length:=by
     refine⟨?_,?_⟩
     ·exact Sk fun e=>hn (.inl e)
     ·exact Nat.le_of_not_lt fun e=>hn (.inr e)
    have c':=d'.cells h2;have I:v.cells.size=cs.length:=jQ c'.1;have a':vs.size=cells.length:=jQ hc.1;rw[Instr.fill,h1];simp only[];rw[OF (by simp only[Pi,OW,not_or,PG,Decidable.not_not,gt_iff_lt,Nat.not_lt];exact⟨I.trans J.1,by rw[I,a'];exact J.2⟩)];have Z:(v.cells.zipIdx.foldl (fun cs (c,j)=>cs.setIfInBounds (off+j) c) vs).toList=vs.toList.take off++v.cells.toList++vs.toList.drop (off+v.cells.toList.length):=by
     have:=sW v.cells.toList off 0 vs (by rw[P9,QN,I,a'];exact J.2);rw[P9]at this;rw[<-this,<-Array.foldl_toList];congr 1;simp
    refine qH h ?_ he f';rw[Z,tM,show cs.length=v.cells.toList.length by simpa using I.symm];exact ((hc.take off).append c').append (hc.drop _)
  ·cases h
theorem qY(z:Value):Rvs M w (zrV z) z.cells.toList:=⟨by simp[zrV],fun i t v h I=>by
 rw[zrV,OQ,I]at h;cases h;exact .p _ _ (.at v)⟩
theorem Oj{parts:List (Nat×V)}{out:List V}(h:bld P t parts=some out)(he:ps.map (·.1)=parts.map (·.1))(hp:Rvs M w (parts.map (·.2)) (ps.map (·.2))) :
  ∃res,P.built t ps=some res/\Rvs M w out res.toList:=by
 unfold bld at h;unfold Program.built
 split at h
 ·rename_i it n e h1 I
  split at h
  ·rename_i z ie Z J
   simp only[h1,I,Z,J];exact qH h (qY z) he hp
  ·cases h
 ·rename_i it fields h1 I
  split at h
  ·rename_i z places Z J
   simp only[h1,I,Z,J];exact qH h (qY z) he hp
  ·cases h
 ·cases h
end
end
section
section
variable {M M':Mem}{σ σ':Sg}
theorem oc{x:V}{i:Int}(hu:Rv M w x u)(I:x.int?=some i):∃k,u=.int k i:=by
 unfold V.int? at I
 split at I
 ·rename_i k n h;cases I;exact⟨k,dJ hu h⟩
 ·cases I
theorem C7{x:V}{i:Bool}(hu:Rv M w x u)(I:x.bool?=some i):u=.bool i:=by
 unfold V.bool? at I
 split at I
 ·rename_i b h;cases I;exact dJ hu h
 ·cases I
theorem Jj(h:SR gl n0 M w σ S){x y:V}{i:Int}{k:IntKind}(hu:Rv M w x u)(hy:DN P σ t x i=some y) :
  ∃v,(Instr.indexAt t u (.int k i)).run P w=.ok v w/\Rv M w y v:=by
 unfold DN at hy
 split at hy
 ·rename_i e full es hd
  split at hy
  ·rename_i ie y' hi he
   split at hy
   ·rename_i J
    cases hy
    cases hu with
    | p _ _ h1 =>
     cases h1 with
     | nil=>simp at he
     | lst full es A o cap Z g hk d' hg hr hf hle hm =>
      have i':=(List.getElem?_eq_some_iff.1 he).1;have g':y'.cells.length=Z:=hk _ (Pb he);have c':(⟨A,o,none⟩:Addr).add (i.toNat*ie.size)=⟨A,o+i.toNat*Z,none⟩:=by rw[AY,<-J.2,g']
      refine⟨.pointer (some ⟨A,o+i.toNat*Z,none⟩),?_,.p _ _ (.elp _ A _ (fun j=>g (i.toNat*Z+j)) (fun t ht=>d' t ?_) (fun j hj=>?_) (fun j t ht=>?_))⟩
      ·have I:(0:Int)<=i/\i<es.length:=⟨J.1,by omega⟩;simp[Instr.indexAt,asIntOf,Pu hd,I,cZ hi,c']
      ·exact List.mem_flatMap.2 ⟨y',Pb he,ht⟩
      ·have f':=gX (o:=j) hk he (OH hj);have:=hg _ (List.getElem?_eq_some_iff.1 f').1
       rwa [<-PP]at this
      ·exact hr _ t (gX hk he ht)
   ·cases hy
  ·cases hy
 ·rename_i e n hd
  split at hy
  ·rename_i ie e' Z es fz hi he
   split at hy
   ·rename_i J
    cases hy
    cases hu with
    | ref _ h1 =>
     obtain⟨hk,h0,xs,hx,j',-,-,-⟩:=h.ob n _ he;have a':0<xs.length:=by rw[hx.1];exact Nat.mul_pos om h0
     obtain⟨A,cap,hv,-⟩:=dw hx (OH a');refine⟨.pointer (some ⟨A,i.toNat*Z,none⟩),?_,?_⟩
     ·have I:(0:Int)<=i/\i<es.length:=⟨J.1,by omega⟩;simp[Instr.indexAt,asIntOf,Pu hd,I,cZ hi,hv,AY,J.2.2]
     ·have:=Rv.off (M:=M) (w:=w) n i.toNat 0;rw[hk,hv]at this;exact this
   ·cases hy
  ·cases hy
 ·rename_i e n Z len h' hd
  split at hy
  ·rename_i ie hi
   split at hy
   ·rename_i J
    cases hy
    cases hu with
    | arr _ _ _ full cap h1 h2 =>
     have I:(0:Int)<=i/\i<len:=⟨J.1,by omega⟩;refine⟨.pointer (some ⟨gj (M.h n),i.toNat*Z,none⟩),by simp[Instr.indexAt,asIntOf,Pu hd,I,cZ hi,AY,J.2.2],?_⟩;have:=Rv.off (M:=M) (w:=w) n 0 (i.toNat*Z)
     simpa using this
   ·cases hy
  ·cases hy
 ·rename_i len e x hd
  split at hy
  ·rename_i ie hi
   split at hy
   ·rename_i J
    obtain⟨A,o,rfl,h2⟩:=sP hu hy;exact⟨_,by simp[Instr.indexAt,asIntOf,Pu hd,Instr.sureAddr,J,cZ hi,AY],h2⟩
   ·cases hy
  ·cases hy
 ·cases hy
def Bo(u:Value):Nat->Prop
 | 0=>∃a,u=.pointer (some a)
 | 1=>∃a n c,u=.slice (some a) n c
 | 2=>∃r,u=.map (some r)
 | _=>∃f a b,u=.func (.func f) a b
theorem Hr(h:SR gl n0 M w σ S){x:V}(hu:Rv M w x u)(I:nnK σ x=some k):Bo u k:=by
 cases hu with
 | p t v h1 =>
  cases h1 with
  | elp ts A o g hc hg h2=>cases I;exact⟨_,rfl⟩
  | fn f a b va vb=>cases f<;>cases I<;>exact⟨_,_,_,rfl⟩
  | nil a cap=>simp[nnK]at I
  | lst full es A o cap k' g =>
   simp only[nnK]at I
   split at I
   ·cases I;exact⟨_,_,_,rfl⟩
   ·cases I
  | _=>cases I
 | off n i o=>cases I;exact⟨_,rfl⟩
 | arr n k len full cap h1 h2=>cases I;exact⟨_,_,_,rfl⟩
 | fn f a b va vb=>cases f<;>cases I<;>exact⟨_,_,_,rfl⟩
 | ref n hc =>
  simp only[nnK]at I
  split at I
  ·rename_i e k' es fz he
   split at I
   ·cases I
   ·rename_i a'
    cases I
    obtain⟨hk,h0,xs,hx,-⟩:=h.ob n _ he;have Z:es≠[]:=by intro e;subst e;simp at a'
    have J:0<xs.length:=by rw[hx.1];exact Nat.mul_pos (List.length_pos_iff.2 Z) h0
    obtain⟨A,cap,hv,-⟩:=dw hx (OH J);exact⟨_,_,_,hv⟩
  ·rename_i es cl he
   cases I
   obtain⟨r,c',h1,-⟩:=h.ob n _ he;exact⟨_,h1⟩
  ·cases I
 | _=>cases I
theorem Cf(h:SR gl n0 M w σ S){x:V}{n:Int}(hu:Rv M w x u)(I:NA σ x=some (n,q)) :
  if q=false then ∃b m c,u=.slice b m c/\(m:Int)=n else ∃r J cl,u=.map (some r)/\w.heap[r]?=some (.map J cl)/\(J.size:Int)=n:=by
 cases hu with
 | p t v h1 =>
  cases h1 with
  | nil a cap=>cases I;exact⟨_,_,_,rfl,rfl⟩
  | lst full es A o cap k g=>cases I;exact⟨_,_,_,rfl,rfl⟩
  | _=>cases I
 | arr m k len full cap h1 h2=>cases I;exact⟨_,_,_,rfl,rfl⟩
 | ref m hc =>
  simp only[NA]at I
  split at I
  ·rename_i e k es fz he
   cases I
   obtain⟨hk,h0,xs,hx,-⟩:=h.ob m _ he;rcases hx.2 with ⟨Z,hl⟩|⟨g,cap,cur,Z,-⟩
   ·exact⟨_,_,_,Z,by rw[hl]⟩
   ·exact⟨_,_,_,Z,rfl⟩
  ·rename_i es cl he
   cases I
   obtain⟨r,J,h1,h2,h3,h4,-⟩:=h.ob m _ he;exact⟨r,J,cl,h1,h3,by rw[h4]⟩
  ·cases I
 | _=>cases I
theorem Cb{op:BinOp}{x y:Operand}(hu:Bo u k){d:TypeDesc}(Z:P.underlying t=some d)(I:FG d v=some k)(h:op=.eql\/op=.neq)(w:World) :
  (do eqGuard op t x y u v;binOp op t u v:Sem Value).run P w=.ok (.bool (op==.neq)) w:=by
 have he:∀b,eqGuard op t x y u v=pure ()->(Op.equalIn (9999+1) t u v).run P w=.ok b w->b=false->(do eqGuard op t x y u v;binOp op t u v:Sem Value).run P w=.ok (.bool (op==.neq)) w:=by
  intro b h1 h2 h3;subst h3;have J:(Op.equal t u v).run P w=.ok false w:=h2;rw[Pg,h1,P0,Py];unfold FG at I
  split at I<;>cases I<;>obtain⟨_,hu⟩:=hu
  ·subst hu;rcases h with rfl|rfl<;>simp[binOp,J]
  ·obtain⟨n,c,rfl⟩:=hu;rcases h with rfl|rfl<;>simp[binOp,J]
  ·subst hu;rcases h with rfl|rfl<;>simp[binOp,J]
  ·obtain⟨n,c,rfl⟩:=hu;rcases h with rfl|rfl<;>simp[binOp,J]
 refine he false ?_ ?_ rfl
 ·unfold FG at I
  split at I<;>cases I<;>(unfold eqGuard;rcases h with rfl|rfl<;>first|rfl|(obtain⟨_,hu⟩:=hu;first|(subst hu;rfl)|(obtain⟨_,_,hu⟩:=hu;subst hu;rfl)))
 ·rw[Op.equalIn,Pg,Pu Z,Py];unfold FG at I
  split at I<;>cases I<;>obtain⟨_,hu⟩:=hu<;>first|(subst hu;rfl)|(obtain⟨_,_,hu⟩:=hu;subst hu;rfl)
theorem AV{x:V}(J:uG P gl σ c=some x){ty:TypeId}(h:SR gl n0 M w σ (rf a ρ::S)) :
  ∃v,(do let d <-resolve a.eval c ty;invoke d.target d.args:Sem Next).run P w=.ok (.value v) w/\Rv M w x v:=by
 obtain⟨cl,Z,a'⟩:=c;unfold uG at J;simp only[]at J
 split at J
 ·rename_i y t e2 e3
  have c':Z=#[y]:=by rw[<-RK (xs:=Z),e2]
  have d':a'=#[t]:=by rw[<-RK (xs:=a'),e3]
  subst c' d'
  split at J
  ·rename_i e n hd I
   cases J
   cases hy:evl gl σ y with
   | none=>rw[hy]at I;cases I
   | some yv =>
    rw[hy,OY]at I;have:=Cf h (aH h hy) I;rw[OG rfl]at this;obtain⟨b,m,c,hv,hm⟩:=this;exact⟨OB n,by simp[resolve,invoke,builtin,Builtin.len_,Pu hd,hv,goInt,hm],.p _ _ (.at _)⟩
  ·rename_i ke ve n hd I
   cases J
   cases hy:evl gl σ y with
   | none=>rw[hy]at I;cases I
   | some yv =>
    rw[hy,OY]at I;have:=Cf h (aH h hy) I;rw[OF jS]at this;obtain⟨r,f',cl,hv,h1,hm⟩:=this;exact⟨OB n,by simp[resolve,invoke,builtin,Builtin.len_,Pu hd,hv,goInt,getObj,Sem.run,h1,hm],.p _ _ (.at _)⟩
  ·cases J
 ·cases J
theorem fF{x:V}(I:eH P gl o σ=some x):Quiet P gl o σ x:=by
 intro n0 M w S a ρ h;unfold eH at I;unfold execOp
 split at I
 ·rename_i y J;rw[J];exact⟨_,rfl,aH h I⟩
 ·rename_i y J;rw[J];exact⟨_,rfl,aH h I⟩
 ·rename_i c y z J
  rw[J]
  split at I
  ·rename_i b p q hb hp hq
   cases I
   cases Z:evl gl σ c with
   | none=>rw[Z]at hb;cases hb
   | some cv =>
    rw[Z]at hb;have f':=C7 (aH h Z) hb;refine⟨if b then a.eval y else a.eval z,by simp[f',asBool],?_⟩
    cases b
    ·exact aH h hq
    ·exact aH h hp
  ·cases I
 ·rename_i t y J
  rw[J]
  cases Z:evl gl σ y with
  | none=>rw[Z]at I;cases I
  | some yv =>
   rw[Z,OY]at I
   cases hl:look σ yv with
   | none=>rw[hl]at I;cases I
   | some cs =>
    rw[hl,OY]at I;obtain⟨A,o',hv,l'⟩:=BU h (aH h Z) hl;obtain⟨v,hr,a'⟩:=oF (P:=P) l' I;exact⟨v,by simp[Instr.loadAt,Instr.sureAddr,hv,hr],a'⟩
 ·rename_i s y f J
  rw[J]
  split at I
  ·rename_i fields yv hd Z
   split at I
   ·rename_i fd d'
    split at I
    ·rename_i i hi
     split at I
     ·cases I
     ·rename_i g'
      obtain⟨A,o',hv,a'⟩:=sP (aH h Z) I;exact⟨_,by simp[Instr.fieldAt,Pu hd,d',Instr.sureAddr,hv,fieldPlace,cZ hi,g',AY],a'⟩
    ·cases I
   ·cases I
  ·cases I
 ·rename_i s y f J
  rw[J]
  split at I
  ·rename_i fields cs hd Z
   split at I
   ·rename_i fd d'
    cases hy:evl gl σ y with
    | none=>rw[hy]at Z;cases Z
    | some yv =>
     rw[hy,OY]at Z;obtain⟨vs,hv,hr⟩:=Jv (aH h hy) Z;obtain⟨v,h1,h2⟩:=KM (P:=P) hr I;exact⟨v,by simp[Instr.field,Pu hd,d',asAgg,hv,h1],h2⟩
   ·cases I
  ·cases I
 ·rename_i t y ix J
  rw[J]
  split at I
  ·rename_i yv i hy hi
   cases Z:evl gl σ ix with
   | none=>rw[Z]at hi;cases hi
   | some iv =>
    rw[Z,OY]at hi;obtain⟨k,hk⟩:=oc (aH h Z) hi;obtain⟨v,h1,h2⟩:=Jj (P:=P) (k:=k) h (aH h hy) I;exact⟨v,by simp[hk,h1],h2⟩
  ·cases I
 ·rename_i y i J
  rw[J]
  cases hy:evl gl σ y with
  | none=>rw[hy]at I;cases I
  | some yv =>
   rw[hy,OY]at I
   cases Z:yv.tupc with
   | none=>rw[Z]at I;cases I
   | some cs =>
    rw[Z,OY]at I;obtain⟨vs,hv,hr⟩:=I7 (aH h hy) Z;obtain⟨v,h1,h2⟩:=hr.get I;have i':vs[i]?=some v:=jQ h1;exact⟨v,by simp[Instr.extract,hv,i'],h2⟩
 ·rename_i f p q J
  rw[J]
  split at I
  ·rename_i xs ys h1 h2
   cases I
   refine⟨_,?_,Rv.mkFn (gE h h1) (gE h h2)⟩;simp[Instr.makeFunc];exact⟨by apply QZ;simp,by apply QZ;simp⟩
  ·cases I
 ·rename_i y J
  rw[J]
  split at I
  ·rename_i v hy
   split at I
   ·rename_i hn
    cases I
    have a':=aH h hy
    cases hk:nnK σ x with
    | none=>rw[hk]at hn;cases hn
    | some k =>
     have:=Hr h a' hk;refine⟨a.eval y,?_,a'⟩;unfold Bo at this
     split at this
     ·obtain⟨b,e⟩:=this;simp[e]
     ·obtain⟨b,n,c,e⟩:=this;simp[e]
     ·obtain⟨b,e⟩:=this;simp[e]
     ·obtain⟨b,n,c,e⟩:=this;simp[e]
   ·cases I
  ·cases I
 ·rename_i t parts J
  rw[J]
  split at I
  ·rename_i vs j'
   cases hb:bld P t ((parts.toList.map (·.1)).zip vs) with
   | none=>rw[hb]at I;cases I
   | some cs =>
    rw[hb]at I;cases I;have hr:=gE h j';have hlen:vs.length=parts.toList.length:=by have:=hr.1;simpa using this.symm
    obtain⟨res,h1,h2⟩:=Oj (ps:=parts.toList.map fun x=>(x.1,a.eval x.2)) hb (by
      rw[PZ,List.map_fst_zip (by simp[hlen])];rfl) (by
      rw[PZ,List.map_snd_zip (by simp[hlen])];have:(fun x:Nat × Value=>x.2) ∘ (fun x:Nat × Operand=>(x.1,a.eval x.2))=a.eval ∘ (fun x=>x.2):=rfl;rw[this,<-PZ];exact hr)
    refine⟨_,?_,Rv.mkAgg h2⟩;have:=run_build (P:=P) w t (parts.map fun x=>(x.1,a.eval x.2)) res (jQ h1);simp[this]
  ·cases I
 ·rename_i op t y z yt J
  rw[J]
  split at I
  ·rename_i d v u hd hy hu
   split at I
   ·rename_i k k' hk c'
    split at I
    ·rename_i e
     subst e
     cases hz:evl gl σ z with
     | none=>rw[hz]at hu;cases hu
     | some zv =>
      rw[hz,OY]at hu;have h':=dJ (aH h hz) hu;have h1:=Hr h (aH h hy) hk;rw[<-h']at c'
      split at I
      ·cases I
       refine⟨.bool false,?_,.p _ _ (.at _)⟩;have:=Cb (x:=y) (y:=z) (op:=.eql) h1 hd c' (.inl rfl) w;simp only[Pg]at this ⊢;rw[this];rfl
      ·cases I
       refine⟨.bool true,?_,.p _ _ (.at _)⟩;have:=Cb (x:=y) (y:=z) (op:=.neq) h1 hd c' (.inr rfl) w;simp only[Pg]at this ⊢;rw[this];rfl
      ·cases I
    ·cases I
   ·cases I
  ·cases I
 ·rename_i c J
  rw[J];exact AV I h
 ·cases I
end
end
section
mutual
def V.frz(b:Bool)(σ:Sg):V->Option Tr
 | .p t=>some t
 | .agg cs=>(V.frzs b σ cs).map .agg
 | .tup cs=>(V.frzs b σ cs).map .tup
 | .ref n=>match gt σ.obs n with|some (.row _ _ es _)=>some (.lst false es)|_=>none
 | .off n i o=>if b&&i==0 then match gt σ.obs n with
   | some (.box cs)=>(V.unp (cs.drop o)).bind fun ts=>if ts.all Tr.cell then some (.elp ts) else none
   | _=>none
  else none
 | .arr ..=>none
 | .fn f x y=>match V.frzs b σ x,V.frzs b σ y with|some x,some y=>some (.fn f x y)|_,_=>none
 | .yld _=>none
 | .vw ..=>none
 | .junk=>none
def V.frzs(b:Bool)(σ:Sg):List V->Option (List Tr)
 | []=>some []
 | v::l=>match V.frz b σ v,V.frzs b σ l with|some t,some m=>some (t::m)|_,_=>none
end
mutual
def V.nms:V->List Nat
 | .ref n=>[n]
 | .agg cs=>V.nmss cs
 | .tup cs=>V.nmss cs
 | .fn _ a b=>V.nmss a++V.nmss b
 | _=>[]
def V.nmss:List V->List Nat
 | []=>[]
 | v::l=>V.nms v++V.nmss l
end
def Ob.sz:Ob->Nat
 | .box cs=>cs.length
 | .row _ k es _=>es.length*k
 | .map ..=>0
theorem V.frzs_get{σ:Sg}{l:List V}(h:V.frzs b σ l=some m):l.length=m.length/\∀(i:Nat)(t:Tr),m[i]?=some t->∃v,l[i]?=some v/\V.frz b σ v=some t:=by
 induction l generalizing m with
 | nil=>rw[V.frzs]at h;cases h;exact⟨rfl,fun i t h=>by simp at h⟩
 | cons x l J =>
  rw[V.frzs]at h
  split at h
  ·rename_i v m' h1 Z
   cases h
   refine⟨by simp[(J Z).1],fun i t I=>?_⟩
   cases i with
   | zero=>simp at I;subst I;exact⟨x,rfl,h1⟩
   | succ i=>simp at I ⊢;exact (J Z).2 i t I
  ·cases h
theorem V.nmss_mem{l:List V}{v:V}{n:Nat}(h:l[i]?=some v)(J:n∈V.nms v):n∈V.nmss l:=by
 induction l generalizing i with
 | nil=>simp at h
 | cons x l I =>
  rw[V.nmss]
  cases i with
  | zero=>simp at h;subst h;exact Rl _ J
  | succ i=>exact Q0 _ (I (jQ h))
section
variable {M M':Mem}{σ σ':Sg}
theorem M5(h:SR gl n0 M w σ S){n:Nat}{fz:Bool}(hn:gt σ.obs n=some (.row e k es fz))(hF:∀b,M.F b<=F b)(hs:∀g,dj (M.h n)=some g->es.length*k<=F g):Rp F w (.lst false es) (M.h n):=by
 obtain⟨hk,h0,xs,hx,a',hc,hr,-⟩:=h.ob n _ hn;rcases hx.2 with ⟨hv,hl⟩|⟨g,cap,cur,hv,hb,hh,hle,hm,hcs,ht⟩
 ·have:es=[]:=Po hl;subst this;rw[hv];exact .nil _ _ (OO _)
 ·have c':=gq a';have hlen:∀j,j<(aO es).length->∃u,xs[j]?=some u:=fun j J=>⟨_,OH (by rw[hx.1,<-c'];exact J)⟩
  have f':=hs g (by rw[hv];rfl);have kp:Kept M.F w F w:=fun b n u hn e=>⟨e,OT hn (hF b)⟩
  rw[hv];refine .lst false es g 0 cap k (fun j=>xs.getD j undef) a' hc (fun j J=>?_) (fun j t J=>?_) (fun e=>by cases e) hle hm
  ·obtain⟨u,hu⟩:=hlen j J;obtain⟨A,d',Z,I⟩:=dw hx hu;rw[hv]at Z;cases Z;exact⟨by rw[I];simp[List.getD,hu],by omega⟩
  ·obtain⟨u,hu⟩:=hlen j (List.getElem?_eq_some_iff.1 J).1;have:=(hr j t u J hu).kept kp
   simpa [List.getD,hu] using this
theorem vK(h:SR gl n0 M w σ S)(hF:∀b,M.F b<=F b){x:V}(hu:Rv M w x u) :
  ∀{t:Tr},x.frz b σ=some t->(∀n ob g,(n∈x.nms\/b=true)->gt σ.obs n=some ob->dj (M.h n)=some g->ob.sz<=F g)->Rp F w t u:=by
 have kp:Kept M.F w F w:=fun b n u I e=>⟨e,OT I (hF b)⟩
 have a':∀{cs:List V}{vs:Array Value}{ts:List Tr},vs.size=cs.length->V.frzs b σ cs=some ts->(∀n ob g,(n∈V.nmss cs\/b=true)->gt σ.obs n=some ob->dj (M.h n)=some g->ob.sz<=F g) ->
   (∀(i:Nat)(x:V)(v:Value),cs[i]?=some x->vs[i]?=some v->∀{t:Tr},x.frz b σ=some t->(∀n ob g,(n∈x.nms\/b=true)->gt σ.obs n=some ob->dj (M.h n)=some g->ob.sz<=F g)->Rp F w t v) ->
   vs.size=ts.length/\∀(i:Nat)(t:Tr)(v:Value),ts[i]?=some t->vs[i]?=some v->Rp F w t v:=by
  intro cs vs ts hl hf I ih;obtain⟨h1,J⟩:=V.frzs_get hf;refine⟨by omega,fun i t v ht hv=>?_⟩;obtain⟨y,h3,h4⟩:=J i t ht;exact ih i y v h3 hv h4 fun n ob g hm=>I n ob g (hm.imp (V.nmss_mem h3) id)
 induction hu with
 | p t v h1=>intro s hs I;rw[V.frz]at hs;cases hs;exact h1.kept kp
 | agg cs vs hl hr ih =>
  intro s hs I;rw[V.frz]at hs
  cases hf:V.frzs b σ cs with
  | none=>rw[hf]at hs;cases hs
  | some ts=>rw[hf]at hs;cases hs;obtain⟨h1,J⟩:=a' hl hf (fun n ob g hm=>I n ob g (by rw[V.nms];exact hm)) ih;exact .agg ts vs h1 J
 | tup cs vs hl hr ih =>
  intro s hs I;rw[V.frz]at hs
  cases hf:V.frzs b σ cs with
  | none=>rw[hf]at hs;cases hs
  | some ts=>rw[hf]at hs;cases hs;obtain⟨h1,J⟩:=a' hl hf (fun n ob g hm=>I n ob g (by rw[V.nms];exact hm)) ih;exact .tup ts vs h1 J
 | ref n hc =>
  intro s hs I;rw[V.frz]at hs
  split at hs
  ·rename_i e k es fz he
   cases hs
   exact M5 h he hF fun g hg=>I n _ g (.inl (by rw[V.nms];simp)) he hg
  ·cases hs
 | off n i o =>
  intro s hs I;rw[V.frz]at hs
  split at hs
  ·rename_i hb
   simp only[ON,Pa]at hb
   split at hs
   ·rename_i cs he
    cases hu:V.unp (cs.drop o) with
    | none=>rw[hu]at hs;cases hs
    | some ts =>
     rw[hu,OY]at hs
     split at hs
     ·rename_i d'
      cases hs
      obtain⟨A,c,el,h1,J,h3,h4,h5,h6⟩:=h.ob n _ he;have h':=I n _ A (.inr hb.1) he (by rw[h1];rfl);have c':=V.unp_eq hu;have k':ts.length=cs.length-o:=by have:=congrArg List.length c';simpa using this.symm
      obtain⟨_,rfl⟩:=hb;rw[h1];simp only[gj,P1,Pd];refine .elp ts A o (fun j=>c.getD (o+j) undef) (fun t ht=>List.all_eq_true.1 d' t ht) (fun j hj=>?_) (fun j t ht=>?_)
      ·have Z:o+j<c.size:=by omega
       simp only[Ob.sz]at h';exact⟨by simp[World.cell?,h4,Z],by omega⟩
      ·have hj:=(List.getElem?_eq_some_iff.1 ht).1;have Z:o+j<c.size:=by omega
       have h7:cs[o+j]?=some (.p t):=by rw[<-Qa,c'];simp[ht]
       have:=(h6 (o+j) (.p t) _ h7 (O5 Z)).inv_p.kept kp
       simpa [Z] using this
     ·cases hs
   ·cases hs
  ·cases hs
 | fn f x y vx vy f' i' hx hy j' g' =>
  intro s hs I;rw[V.frz]at hs
  split at hs
  ·rename_i x' y' h1 J
   cases hs
   obtain⟨h3,h4⟩:=a' f' h1 (fun n ob g hm=>I n ob g (by rw[V.nms];exact hm.imp (Rl _) id)) j';obtain⟨h5,h6⟩:=a' i' J (fun n ob g hm=>I n ob g (by rw[V.nms];exact hm.imp (Q0 _) id)) g';exact .fn f x' y' vx vy h3 h5 h4 h6
  ·cases hs
 | arr n k len full cap h1 J=>intro s hs I;rw[V.frz]at hs;cases hs
 | yld i hi=>intro s hs I;rw[V.frz]at hs;cases hs
 | vw n lo len p cap h1 J=>intro s hs I;rw[V.frz]at hs;cases hs
 | junk v=>intro s hs I;rw[V.frz]at hs;cases hs
def Sg.fz(σ:Sg)(n:Nat):Sg:=match gt σ.obs n with|some (.row e k es false)=>⟨pt σ.obs n (.row e k es true),σ.stk,σ.lps⟩|_=>σ
def Sg.fzs(σ:Sg):List Nat->Sg
 | []=>σ
 | n::l=>(σ.fz n).fzs l
theorem nx_fz(σ:Sg)(n:Nat):nx (σ.fz n).obs=nx σ.obs:=by
 unfold Sg.fz
 split
 ·rename_i h;have:=Da h;simp only[lx];omega
 ·rfl
theorem F0:∀(l:List Nat)(σ:Sg),nx (σ.fzs l).obs=nx σ.obs
 | [],_=>rfl
 | n::l,σ=>(F0 l (σ.fz n)).trans (nx_fz σ n)
theorem xY(σ:Sg):σ.mp id=σ:=by
 have h1:∀x:Ob,x.mp id=x:=fun x=>by cases x<;>simp[Ob.mp]
 have h:Fr.mp id=id:=funext fun f=>by cases f;simp[Fr.mp]
 cases σ
 simp[Sg.mp,h1,h]
theorem SR.fz(h:SR gl n0 M w σ S)(n:Nat):∃F,(∀b,M.F b<=F b)/\(∀b,b<n0->F b=M.F b)/\SR gl n0 { M with F:=F } w (σ.fz n) S /\
  (∀e k es fz g,gt σ.obs n=some (.row e k es fz)->dj (M.h n)=some g->es.length*k<=F g)/\(∀m,gt (σ.fz n).obs m=(if m=n then (gt σ.obs n).map (fun|.row e k es _=>.row e k es true|o=>o) else gt σ.obs m)):=by
 unfold Sg.fz
 split
 ·rename_i e k es he
  have f':=h.ob n _ he;obtain⟨hk,h0,xs,hx,d',hc,hr,hf⟩:=f'
  let F:Nat->Nat:=fun b=>if dj (M.h n)=some b then es.length*k else M.F b
  have hF:∀b,M.F b<=F b:=fun b=>by
   simp only[F]
   split
   ·rename_i e;have:=hf b e;rw[OF jS]at this;omega
   ·exact OI _
  have kp:Kept M.F w F w:=fun b n u hn e=>⟨e,OT hn (hF b)⟩
  have a':∀g,dj (M.h n)=some g->F g=es.length*k:=fun g I=>by simp only[F];rw[OG I]
  refine⟨F,hF,fun b hb=>?_,?_,?_,?_⟩
  ·simp only[F];rw[OF (fun e=>by have:=(h.ob n _ he).lt e;omega)]
  ·have:=h.upd (M':={ M with F:=F }) (w':=w) (κ:=id) (n:=n) (ob:=.row e k es true) (fun t v hv=>hv.kept (M':={ M with F:=F }) kp rfl rfl) kp (OI _) (fun m _=>⟨rfl,rfl⟩)
    (fun m x g hm hx I=>⟨rfl,by show F g=_;simp only[F];rw[OF (fun e=>h.apart n m _ x g (Pc hm) he hx e I)]⟩)
    ⟨hk,h0,xs,hx,d',hc,fun j t u ht hu=>(hr j t u ht hu).kept kp,fun g I=>by rw[OG rfl];exact Qr (a' g I).symm⟩
    (fun m x g hm hx I c'=>h.apart n m _ x g (Pc hm) he hx I c') (fun i hi=>⟨rfl,rfl⟩)
   rwa [xY]at this
  ·intro e' k' es' g' g I J;rw[he]at I;cases I;exact Qr (a' g J).symm
  ·intro m;simp only[gz,he,PD]
   by_cases hm:m=n
   ·subst hm;simp
   ·rw[OF (Pc hm),OF hm]
 ·rename_i Z
  refine⟨M.F,fun _=>OI _,fun _ _=>rfl,h,?_,?_⟩
  ·intro e k es fz g I J
   cases fz with
   | false=>exact (Z e k es I).elim
   | true=>obtain⟨-,-,xs,-,-,-,-,hf⟩:=h.ob n _ I;have:=hf g J;rwa [OG rfl]at this
  ·intro m
   by_cases hm:m=n
   ·subst hm;rw[OG rfl]
    cases I:gt σ.obs m with
    | none=>rfl
    | some x =>
     cases x with
     | row e k es fz=>cases fz with
      | false=>exact (Z e k es I).elim
      | true=>rfl
     | _=>rfl
   ·rw[OF hm]
theorem SR.fzs:∀(l:List Nat){M:Mem}{σ:Sg},SR gl n0 M w σ S->∃F,(∀b,M.F b<=F b)/\(∀b,b<n0->F b=M.F b)/\SR gl n0 { M with F:=F } w (σ.fzs l) S /\
  (∀n e k es J g,n∈l->gt σ.obs n=some (.row e k es J)->dj (M.h n)=some g->es.length*k<=F g)
 | [],M,σ,h=>⟨M.F,fun _=>OI _,fun _ _=>rfl,h,fun n e k es J g hn=>by simp at hn⟩
 | m::l,M,σ,h=>by
  obtain⟨F,h1,h2,h3,h4,h5⟩:=h.fz m;obtain⟨G,g1,g2,g3,g4⟩:=SR.fzs l h3;refine⟨G,fun b=>OP (h1 b) (g1 b),fun b hb=>(g2 b hb).trans (h2 b hb),g3,?_⟩;intro n e k es J g hn hg Z
  by_cases I:n=m
  ·subst I;exact OP (h4 e k es J g hg Z) (g1 g)
  ·rcases List.mem_cons.1 hn with e'|hn
   ·exact (I e').elim
   ·exact g4 n e k es J g hn (by rw[h5,OF I];exact hg) Z
end
end
section
def nm(σ:Sg):Nat:=nx σ.obs
def Sg.new(σ:Sg)(n:Nat)(ob:Ob):Sg:=⟨pt (σ.mp (V.kill n)).obs n ob,(σ.mp (V.kill n)).stk,(σ.mp (V.kill n)).lps⟩
def gJ(σ:Sg)(cs:List V):V × Sg:=let n:=nm σ;(.off n 0 0,σ.new n (.box (cs.map (V.kill n))))
def uU{α:Type}:Nat->List (Nat × α)->Bool
 | _,[]=>true
 | n,x::l=>x.1==n&&uU (n+1) l
def Goes(P:Program)(gl:Nat->Option (List Tr))(o:Oper)(σ:Sg)(x:V)(σ':Sg):Prop :=
 ∀(n0:Nat)(M:Mem)(w:World)(S:List Rf)(a:Act)(ρ:Option Nat),SR gl n0 M w σ (rf a ρ::S)->∃M' w' u,((execOp a.eval o).run P w=.ok (.value u) w'\/(execOp a.eval o).run P w=.ok .skip w'/\u=undef) /\
  Below n0 w w'/\Ff n0 (nx σ.obs) (nx σ'.obs) M w M' w'/\SR gl n0 M' w' σ' (rf a ρ::S)/\Rv M' w' x u
section
variable {M M':Mem}{σ σ':Sg}
theorem Quiet.goes{x:V}(h:Quiet P gl o σ x):Goes P gl o σ x σ:=fun n0 M w S a ρ hs=>by
 obtain⟨v,h1,I⟩:=h n0 M w S a ρ hs;exact⟨M,w,v,.inl h1,OK _ _,.refl _ _ _ _,hs,I⟩
def Mem.new(M:Mem)(n A φ:Nat)(v:Value)(k:Nat):Mem:=⟨fun b=>if b=A then φ else M.F b,fun m=>if m=n then v else M.h m,fun m=>if m=n then k else M.k m,M.lp,M.mq,M.nl⟩
theorem qa(M:Mem)(w:World)(n φ:Nat)(v:Value)(k:Nat)(o:Obj):Kept M.F w (M.new n w.heap.size φ v k).F (w.alloc o):=fun b j u I he=>by
 have h:=OV w ⟨b,j,none⟩ he;refine⟨(World.cell?_alloc_lt (w:=w) (o:=o) (a:=⟨b,j,none⟩) h).trans he,?_⟩;simp only[Mem.new];rw[OF (by simp only at h;omega)];exact I
theorem FO{n:Nat}{o:Obj}{x:V}(h:Rv M w x u):Rv (M.new n w.heap.size φ v k) (w.alloc o) (x.kill n) u :=
 h.step (qa M w n φ v k o) (fun m hm=>by simp[Mem.new,hm])
theorem kA(n0:Nat)(w:World)(o:Obj)(h:n0<=w.heap.size):Below n0 w (w.alloc o):=(OK n0 w).alloc h o
theorem NG(σ:Sg)(n:Nat)(ob:Ob):nx σ.obs<=nx (σ.new n ob).obs:=by
 unfold Sg.new Sg.mp;simp only[lx,Nm];omega
theorem SR.new(h:SR gl n0 M w σ S){n:Nat}{ob:Ob}{o:Obj}(ho:ObOk n0 (M.new n w.heap.size φ v k) (w.alloc o) n ob)(hv:∀g,dj v=some g->g=w.heap.size)(hn:nx σ.obs<=n) :
  SR gl n0 (M.new n w.heap.size φ v k) (w.alloc o) (σ.new n ob) S/\Below n0 w (w.alloc o)/\Ff n0 (nx σ.obs) (nx (σ.new n ob).obs) M w (M.new n w.heap.size φ v k) (w.alloc o):=by
 refine⟨?_,kA _ _ _ h.size,fun b hb=>by simp only[Mem.new];rw[OF (by have:=h.size;omega)],qa M w n φ v k o,fun m hm=>by simp only[Mem.new];rw[OF om,OF om];exact⟨rfl,rfl⟩,LM.refl M,NG σ n ob⟩;refine h.upd (fun t v=>FO) (qa M w n φ v k o) jS (fun m hm=>by simp[Mem.new,hm]) (fun m x g hm hx J=>?_) ho (fun m x g hm hx J Z=>?_) (fun i hi=>⟨Qe w _ _ (h.lp_lt hi).1,Qe w _ _ (h.lp_lt hi).2⟩)
 ·have I:=((h.ob m x hx).lt J).1;exact⟨Qe w _ g I,by simp only[Mem.new];rw[OF om]⟩
 ·have I:=((h.ob m x hx).lt Z).1;have e:(M.new n w.heap.size φ v k).h n=v:=by simp[Mem.new]
  rw[e]at J;have:=hv g J;omega
theorem tR(h:SR gl n0 M w σ S){cs:List V}{vs:Array Value}(hc:cs.length<=vs.size/\∀(i:Nat)(t:V)(v:Value),cs[i]?=some t->vs.toList[i]?=some v->Rv M w t v)(I:TypeId):∃M',Below n0 w (w.alloc (.cells vs I))/\Ff n0 (nx σ.obs) (nx (gJ σ cs).2.obs) M w M' (w.alloc (.cells vs I)) /\
  SR gl n0 M' (w.alloc (.cells vs I)) (gJ σ cs).2 S/\Rv M' (w.alloc (.cells vs I)) (gJ σ cs).1 (.pointer (some ⟨w.heap.size,0,none⟩))/\M'.h (nm σ)=.pointer (some ⟨w.heap.size,0,none⟩):=by
 obtain⟨h1,h2,h3⟩:=h.new (n:=nm σ) (φ:=0) (k:=0) (v:=.pointer (some ⟨w.heap.size,0,none⟩)) (ob:=.box (cs.map (V.kill (nm σ)))) (o:=.cells vs I)
  ⟨w.heap.size,vs,I,by simp[Mem.new],h.size,by simp[Mem.new],Qd w _,by rw[OL];exact hc.1,fun i t v J hv=>by
   rw[OQ]at J
   cases Z:cs[i]? with
   | none=>rw[Z]at J;cases J
   | some s=>rw[Z]at J;cases J;exact FO (hc.2 i s v Z (jQ hv))⟩ (fun g Z=>by cases Z;rfl) (OI _)
 refine⟨_,h2,h3,h1,?_,by simp[Mem.new]⟩;have:=Rv.off (M:=M.new (nm σ) w.heap.size 0 (.pointer (some ⟨w.heap.size,0,none⟩)) 0) (w:=w.alloc (.cells vs I)) (nm σ) 0 0
 simpa [Mem.new,gj,gJ] using this
theorem nK(h:SR gl n0 M w σ S){cs:List V}{vs:Array Value}(J:Rvs M w cs vs.toList)(I:TypeId):∃M',Below n0 w (w.alloc (.cells vs I))/\Ff n0 (nx σ.obs) (nx (gJ σ cs).2.obs) M w M' (w.alloc (.cells vs I)) /\
  SR gl n0 M' (w.alloc (.cells vs I)) (gJ σ cs).2 S/\Rv M' (w.alloc (.cells vs I)) (gJ σ cs).1 (.pointer (some ⟨w.heap.size,0,none⟩))/\M'.h (nm σ)=.pointer (some ⟨w.heap.size,0,none⟩) :=
 tR h ⟨by have:=J.1;simp at this;omega,J.2⟩ I
theorem CI(g o:Nat)(t:TypeId):∀(vs:List Value)(i:Nat)(cur:Array Value)(w:World),w.heap[g]?=some (.cells cur t (0,0))->o+i+vs.length<=cur.size->(∀v∈vs,v.oneCell'=true) ->
  ∃w',(storeCells ⟨g,o,none⟩ vs i).run P w=.ok () w'/\w'.heap[g]?=some (.cells (cur.toList.take (o+i)++vs++cur.toList.drop (o+i+vs.length)).toArray t (0,0)) /\
   (∀k,k≠g->w'.heap[k]?=w.heap[k]?)/\w'.heap.size=w.heap.size/\w'.os=w.os/\w'.tape=w.tape/\w'.output=w.output
 | [],i,cur,w,hg,_,_=>⟨w,rfl,jQ hg,fun _ _=>rfl,rfl,rfl,rfl,rfl⟩
 | v::vs,i,cur,w,hg,hl,hv=>by
  simp only[Pk]at hl;have h:w.cell? ⟨g,o+i,none⟩=some cur[o+i]:=by simp[World.cell?,hg,show o+i<cur.size by omega]
  have J:w.frozen? ⟨g,o+i,none⟩=false:=by simp[World.frozen?,hg]
  have I:(store ((⟨g,o,none⟩:Addr).add i) v).run P w=.ok () (w.setCell ⟨g,o+i,none⟩ v):=by
   rw[cY,run_store P w _ v .plain (hv v jS),h];simp[J]
  have Z:(w.setCell ⟨g,o+i,none⟩ v).heap[g]?=some (.cells (cur.setIfInBounds (o+i) v) t (0,0)):=heap_setCell_same w g (o+i) cur t v hg;obtain⟨w',h1,h2,h3,h4,h5,h6,h7⟩:=CI g o t vs (i+1) _ _ Z (by simp;omega) (fun u hu=>hv u (by simp[hu]));refine⟨w',?_,?_,fun k hk=>(h3 k hk).trans (heap_setCell_other w _ k v hk),by rw[h4];simp,by rw[h5];rfl,by rw[h6];rfl,by rw[h7];rfl⟩
  ·simp only[storeCells,Pg,I,Py];exact h1
  ·rw[h2];congr 2;apply QZ;simp only[Array.toList_setIfInBounds,List.toList_toArray];have:=sW [v] (o+i) 0 cur (by simp;omega);apply Rw;intro j;simp only[Rk,Qt,Qa,OM,PB,RY,QN,Pk,Rd];rcases R7 j (o+i) with hj|hj|hj
   ·simp only[show j<min (o+(i+1)) cur.size+vs.length by omega,show j<min (o+(i+1)) cur.size by omega,show j<o+(i+1) by omega,show ¬o+i=j by omega,show j<min (o+i) cur.size+(vs.length+1) by omega,show j<min (o+i) cur.size by omega,show j<o+i by omega,Ps,Qb]
   ·subst hj;simp only[show o+i<min (o+(i+1)) cur.size+vs.length by omega,show o+i<min (o+(i+1)) cur.size by omega,show o+i<o+(i+1) by omega,show o+i<min (o+i) cur.size+(vs.length+1) by omega,show ¬o+i<min (o+i) cur.size by omega,show o+i<cur.size by omega,Ps,Qb,show o+i-min (o+i) cur.size=0 by omega,Q5]
   ·by_cases h2:j<o+i+1+vs.length
    ·simp only[show j<min (o+(i+1)) cur.size+vs.length by omega,show ¬j<min (o+(i+1)) cur.size by omega,show j<min (o+i) cur.size+(vs.length+1) by omega,show ¬j<min (o+i) cur.size by omega,Ps,Qb,show j-min (o+i) cur.size=(j-min (o+(i+1)) cur.size)+1 by omega,QC]
    ·simp only[show ¬j<min (o+(i+1)) cur.size+vs.length by omega,show ¬j<min (o+i) cur.size+(vs.length+1) by omega,Qb,show o+i+(vs.length+1)+(j-(min (o+i) cur.size+(vs.length+1)))=j by omega,show o+(i+1)+vs.length+(j-(min (o+(i+1)) cur.size+vs.length))=j by omega,show ¬o+i=j by omega]
theorem lG{i:TypeInfo}(hi:P.info? t=some i)(g o:Nat){cur:Array Value}(Z:w.heap[g]?=some (.cells cur h (0,0)))(hs:v.cells.size=i.size)(I:o+v.cells.size<=cur.size)(h1:∀u∈v.cells.toList,u.oneCell'=true) :
  ∃w',(Instr.storeAt t (.pointer (some ⟨g,o,none⟩)) v).run P w=.ok () w'/\w'.heap[g]?=some (.cells (cur.toList.take o++v.cells.toList++cur.toList.drop (o+v.cells.toList.length)).toArray h (0,0)) /\
   (∀k,k≠g->w'.heap[k]?=w.heap[k]?)/\w'.heap.size=w.heap.size/\w'.os=w.os/\w'.tape=w.tape/\w'.output=w.output:=by
 obtain⟨w',h1,J⟩:=CI (P:=P) g o h v.cells.toList 0 cur w Z (jQ I) h1;refine⟨w',?_,jQ J⟩;simp[Instr.storeAt,Instr.sureAddr,storeVar,cZ hi,hs,h1]
def ID(h:Tr)(new:List Tr):Tr:=match h.cell,new with|true,[t]=>t|_,_=>.agg new
def Cs(P:Program)(σ:Sg)(t:TypeId)(x y:V):Option (V × Sg) :=
 match P.info? t,x,y.cells with
 | some i,.off n j o,some ys=>match gt σ.obs n with
  | some (.box cs)=>if j=0/\ys.length=i.size/\o+ys.length<=cs.length/\ys.all V.cell=true then some (.p (.at undef),⟨pt σ.obs n (.box (tM cs o ys)),σ.stk,σ.lps⟩) else none
  | some (.row e k es false)=>match V.unp ys,es[j]? with
   | some ts,some old=>if ys.length=i.size/\o+ys.length<=k/\ts.all Tr.cell=true then
     let new:=old.cells.take o++ts++old.cells.drop (o+ts.length)
     some (.p (.at undef),⟨pt σ.obs n (.row e k (es.set j (ID old new)) false),σ.stk,σ.lps⟩) else none
   | _,_=>none
  | _=>none
 | _,_,_=>none
end
end
end Go.Proofs.YteemngnialjaiaaGreatDoor
