/- Part. -/
import Derived.Test.YtbjicljfjkdeeaaGreatDoorQ19
import Derived.Shelf.Strings.OnBuilder
import Derived.Shelf.LaysM
import Derived.Shelf.Strconv.Itoa3
import Derived.Shelf.Strings.Shaped
set_option maxRecDepth 100000
set_option maxHeartbeats 16000000
set_option linter.unusedVariables false
set_option linter.unusedSimpArgs false
namespace Go.Proofs.YtbjicljfjkdeeaaGreatDoor
open Go.Proofs.Tryz Go.RowKit
section
def Ek (P:Program) (ev:Code->Sg->Option (Exit × Sg)) (f:FuncId) (xs:List V) (σ:Sg):Option (V × Sg) :=
 match P.funcs[f]? with
 | some fn=>match fn.body with
  | some c=>match ev c ⟨σ.obs,frame fn xs::σ.stk,σ.lps⟩ with
   | some (.normal,τ)=>(iN P τ fn).map fun x=>(x,⟨τ.obs,τ.stk.tail,τ.lps⟩)
   | some (.ret,τ)=>(iN P τ fn).map fun x=>(x,⟨τ.obs,τ.stk.tail,τ.lps⟩)
   | _=>none
  | none=>none
 | none=>none
def II (P:Program) (ev:Code->Sg->Option (Exit × Sg)) (f:FuncId) (ts:List Tr):Option Tr :=
 match P.funcs[f]? with
 | some fn=>match fn.body with
  | some c=>match ev c ⟨[],[frame fn (ts.map .p)],[]⟩ with
   | some (.normal,τ)=>(iN P τ fn).bind (V.frz false ⟨τ.obs,τ.stk.tail,τ.lps⟩)
   | some (.ret,τ)=>(iN P τ fn).bind (V.frz false ⟨τ.obs,τ.stk.tail,τ.lps⟩)
   | _=>none
  | none=>none
 | none=>none
def Kr:LoopState->Bool
 | .ready=>true
 | _=>false
def LA:LoopState->Bool
 | .busy=>true
 | _=>false
def okE:Exit->Bool
 | .normal=>true
 | .ret=>true
 | _=>false
def Li (ev:Code->Sg->Option (Exit × Sg)) (i:Nat) (xs:List V) (σ:Sg):Option (V × Sg) :=
 match σ.lps[i]? with
 | some lp=>if xs.length=lp.ps.size/\(lp.ps.toList.all fun t=>decide (t<lp.fr.n))=true then match ev lp.asg ⟨σ.obs,rfr lp i xs::σ.stk,σ.lps⟩ with
  | some (.normal,τ)=>match τ.lps[i]? with
   | some h=>if τ.cur.rd=some i/\Kr h.st=true then match ev lp.bd (τ.setLp i { h with st:=.busy }) with
    | some (e,τ)=>match τ.lps[i]?,Ko e with
     | some lp2,some pd=>if τ.cur.rd=some i then some (.p (.at (.bool pd.isNone)),⟨τ.obs,τ.stk.tail,τ.lps.set i { lp2 with st:=if pd.isNone then .ready else .done,pend:=pd }⟩) else none
     | _,_=>none
    | none=>none
    else none
   | none=>none
  | _=>none
  else none
 | none=>none
def Lv (P:Program) (gl:Nat->Option (List Tr)) (ev:Code->Sg->Option (Exit × Sg)) (g:Operand) (ps:Array Tmp) (h z:Code) (σ:Sg):Option (Exit × Sg) :=
 match uE P gl (σ.ent ps h z) g σ.lps.length with
 | some (f,xs)=>match P.funcs[f]? with
  | some fn=>match fn.body with
   | some c=>match ev c ⟨σ.obs,frame fn xs::B1 σ.lps.length::(σ.ent ps h z).stk,(σ.ent ps h z).lps⟩ with
    | some (e,τ)=>if okE e=true/\(iN P τ fn).isSome=true/\(τ.stk.tail.headD default).rd=some σ.lps.length then match τ.lps[σ.lps.length]? with
     | some lp=>if LA lp.st=false then match lp.pend with
      | none=>some (.normal,⟨τ.obs,τ.stk.tail.tail,τ.lps.set σ.lps.length { lp with st:=.exhausted }⟩)
      | some G=>ev G ⟨τ.obs,τ.stk.tail.tail,τ.lps.set σ.lps.length { lp with st:=.exhausted }⟩
      else none
     | none=>none
     else none
    | none=>none
   | none=>none
  | none=>none
 | none=>none
def Fb (P:Program) (gl:Nat->Option (List Tr)) (o:Oper) (σ:Sg):Option V :=
 match ge P gl o σ with
 | some x=>some x
 | none=>match gO P gl o σ with
  | some x=>some x
  | none=>match o.op with
   | .lookup t x z ok=>match evl gl σ x,evl gl σ z with|some x,some z=>lkp P σ t x z ok|_,_=>none
   | .slice t x G I none=>match evl gl σ x,evo gl σ G,evo gl σ I with|some (.p u),some l,some h=>(slc P t u l h).map .p|_,_,_=>none
   | .buildSlice t len parts=>match mL gl σ (parts.toList.map (·.2)) with
    | some vs=>match V.unp vs,bsl P ⟨[],[],[]⟩ t len ((parts.toList.map (·.1)).zip vs) with|some _,some (.p r,_)=>some (.p r)|_,_=>none
    | none=>none
   | .convert s d x=>(evl gl σ x).bind (bst P σ s d)
   | _=>none
def Jk (P:Program) (gl:Nat->Option (List Tr)) (pu:FuncId->List Tr->Option Tr) (hint:FuncId->Bool) (o:Oper) (σ:Sg):Option V :=
 match iJ P gl σ o with
 | some (f,xs)=>if hint f then none else match V.unp xs with
  | some ts=>(pu f ts).map .p
  | none=>match V.frzs true σ xs with
   | some ts=>match pu f ts with
    | some r=>if r.scal then some (.p r) else none
    | none=>none
   | none=>none
 | none=>Fb P gl o σ
def IT (P:Program) (gl:Nat->Option (List Tr)) (pu:FuncId->List Tr->Option Tr) (ev:Code->Sg->Option (Exit × Sg)) (hint:FuncId->Bool) (o:Oper) (σ:Sg):Option (V × Sg) :=
 match iJ P gl σ o with
 | some (f,xs)=>if hint f then Ek P ev f xs σ else match V.unp xs with
  | some ts=>match pu f ts with
   | some r=>some (.p r,σ)
   | none=>Ek P ev f xs σ
  | none=>match V.frzs false σ xs with
   | some ts=>match pu f ts with
    | some r=>if r.scal then some (.p r,σ) else some (.p r,σ.fzs (V.nmss xs))
    | none=>Ek P ev f xs σ
   | none=>Ek P ev f xs σ
 | none=>match yn gl σ o with
  | some (i,xs)=>Li ev i xs σ
  | none=>match Hh P gl o σ with
   | some r=>some r
   | none=>(Fb P gl o σ).map fun x=>(x,σ)
def wS (σ:Sg):Option V->Option (V × Sg)
 | some v=>some (v,σ)
 | none=>none
def stF (P:Program) (gl:Nat->Option (List Tr)) (pu:FuncId->List Tr->Option Tr) (ev:Code->Sg->Option (Exit × Sg)) (hint:FuncId->Bool) (o:Oper) (σ:Sg):Option (V × Sg) :=
 match o.op with
 | .move x=>wS σ (evl gl σ x)
 | .assign x=>wS σ (evl gl σ x)
 | .load t x=>wS σ (((evl gl σ x).bind (look σ)).bind (fQ P t))
 | .binOp ..=>match gO P gl o σ with|some v=>some (v,σ)|none=>wS σ (ge P gl o σ)
 | .unOp ..=>wS σ (gO P gl o σ)
 | .pick ..=>wS σ (ge P gl o σ)
 | .fieldAddr ..=>wS σ (ge P gl o σ)
 | .field ..=>wS σ (ge P gl o σ)
 | .indexAddr ..=>wS σ (ge P gl o σ)
 | .extract ..=>wS σ (ge P gl o σ)
 | .makeFunc ..=>wS σ (ge P gl o σ)
 | .build ..=>wS σ (ge P gl o σ)
 | .store ..=>sa P gl o σ
 | .alloc ..=>sa P gl o σ
 | .box ..=>sa P gl o σ
 | _=>IT P gl pu ev hint o σ
def evS (P:Program) (gl:Nat->Option (List Tr)) (pu:FuncId->List Tr->Option Tr) (ev:Code->Sg->Option (Exit × Sg)) (hint:FuncId->Bool) (ops:Array Oper):List Oper->Sg->Option Sg
 | [],σ=>some σ
 | o::l,σ=>match mf ops σ o with
  | some true=>match stF P gl pu ev hint o σ with
   | some (x,σ')=>match σ'.put o.dst x with
    | some τ=>evS P gl pu ev hint ops l τ
    | none=>none
   | none=>none
  | some false=>match σ.put o.dst (.p (.at undef)) with
   | some τ=>evS P gl pu ev hint ops l τ
   | none=>none
  | none=>none
structure Rc where
 kd:Bool
 bar:Bool
 x:V
 T:List (Nat × V)
 B:Sg
def dstOk (n:Nat):Option Tmp->Bool
 | none=>true
 | some d=>decide (d<n)
def trD (P:Program) (gl:Nat->Option (List Tr)) (pu:FuncId->List Tr->Option Tr) (ev:Code->Sg->Option (Exit × Sg)) (hint:FuncId->Bool) (ops:Array Oper) (n:Nat):List Oper->List (Nat × V)->Sg->Option (List Rc × List (Nat × V) × Sg)
 | [],T,B=>some ([],T,B)
 | o::l,T,B=>if dstOk n o.dst=true then match mf ops (Lk T B (o.looksAt ops)) o with
  | some true=>match Jk P gl pu hint o (Lk T B (o.looksAt ops)) with
   | some x=>if x.lt (nx B.obs)=true then (trD P gl pu ev hint ops n l (Fy T o.dst x) B).map fun r=>(⟨true,false,x,T,B⟩::r.1,r.2) else none
   | none=>match IT P gl pu ev hint o (Lk T B (o.looksAt ops)) with
    | some (x,σ')=>if x.lt (nx σ'.obs)=true then (trD P gl pu ev hint ops n l (Fy T o.dst x) σ'.bare).map fun r=>(⟨true,true,x,T,B⟩::r.1,r.2) else none
    | none=>none
  | some false=>(trD P gl pu ev hint ops n l (Fy T o.dst (.p (.at undef))) B).map fun r=>(⟨false,false,.p (.at undef),T,B⟩::r.1,r.2)
  | none=>none
  else none
def fT (rs:List Rc) (T:List (Nat × V)) (i:Nat):List (Nat × V):=match rs[i]? with|some r=>r.T|none=>T
def fB (rs:List Rc) (B:Sg) (i:Nat):Sg:=match rs[i]? with|some r=>r.B|none=>B
def fX (rs:List Rc) (i:Nat):V:=match rs[i]? with|some r=>r.x|none=>.junk
def fG (rs:List Rc) (i:Nat):Bool:=match rs[i]? with|some r=>r.bar|none=>false
def fkd (rs:List Rc) (i:Nat):Bool:=match rs[i]? with|some r=>r.kd|none=>false
def F5:Value->Value->Bool
 | .int k i,.int k' i'=>decide (k=k')&&decide (i=i')
 | .bool a,.bool b=>a==b
 | .string a,.string b=>decide (a.data=b.data)
 | .nilFunc,.nilFunc=>true
 | .pointer none,.pointer none=>true
 | .map none,.map none=>true
 | .slice none 0 0,.slice none 0 0=>true
 | _,_=>false
mutual
def Tr.same:Tr->Tr->Bool
 | .at a,.at b=>F5 a b
 | .agg a,.agg b=>Tr.sames a b
 | .tup a,.tup b=>Tr.sames a b
 | .lst f a,.lst g b=>f==g&&Tr.sames a b
 | .elp a,.elp b=>Tr.sames a b
 | _,_=>false
def Tr.sames:List Tr->List Tr->Bool
 | [],[]=>true
 | x::l,y::m=>Tr.same x y&&Tr.sames l m
 | _,_=>false
end
mutual
def V.same:V->V->Bool
 | .p a,.p b=>Tr.same a b
 | .agg a,.agg b=>V.sames a b
 | .tup a,.tup b=>V.sames a b
 | .ref m,.ref n=>m==n
 | .off a b c,.off a' b' c'=>a==a'&&(b==b'&&c==c')
 | _,_=>false
def V.sames:List V->List V->Bool
 | [],[]=>true
 | x::l,y::m=>V.same x y&&V.sames l m
 | _,_=>false
end
def Jh (P:Program) (gl:Nat->Option (List Tr)) (pu:FuncId->List Tr->Option Tr) (hint:FuncId->Bool) (ops:Array Oper) (rs:List Rc) (h:Sg) (j c:Nat):Bool :=
 !tB (fG rs) c || !inr ops (fG rs) c j || (decide (c<=j)&&(List.range j).all fun i=>decide (i<c) || !fG rs i) || match ops[j]?,rs[j]? with
  | some o,some r=>match Jk P gl pu hint o (Lk r.T (fB rs h c) (o.looksAt ops)) with
   | some y=>V.same y r.x&&r.x.lt (nx (fB rs h c).obs)
   | none=>false
  | _,_=>false
def LY (P:Program) (gl:Nat->Option (List Tr)) (pu:FuncId->List Tr->Option Tr) (hint:FuncId->Bool) (ops:Array Oper) (rs:List Rc) (h:Sg):Bool :=
 !rs.any (·.bar) || (List.range ops.size).all fun j=>!(fkd rs j&&!fG rs j) || (List.range (ops.size+1)).all fun c=>Jh P gl pu hint ops rs h j c
def KR (P:Program) (gl:Nat->Option (List Tr)) (pu:FuncId->List Tr->Option Tr) (hint:FuncId->Bool) (ops:Array Oper) (rs:List Rc) (h:Sg):Bool :=
 !rs.any (·.bar) || (frp ops).all fun q=>!(fG rs q.1 != fG rs q.2) || match if fG rs q.1 then q.2 else q.1 with
  | j=>!fkd rs j || (List.range (ops.size+1)).all fun c=>Jh P gl pu hint ops rs h j c
theorem zQ {ops:Array Oper} {bar:Nat->Bool} (h:okD ops bar=true):∀(n:Nat) {j m:Nat},bef ops n j m=true->j<m
 | 0,j,m,z=>by cases z
 | n+1,j,m,z=>by
  rw[bef]at z
  split at z
  ·rename_i o I
   rw[O7]at z;obtain⟨e,he,z⟩:=z;rw[Array.mem_toList_iff]at he;simp only[My,MU,MO]at z;have:=wO h I he z.1;rcases z.2 with G|G
   ·omega
   ·have:=zQ h n G;omega
  ·cases z
theorem JE {P:Program} {gl:Nat->Option (List Tr)} {pu:FuncId->List Tr->Option Tr} {hint:FuncId->Bool} {ops:Array Oper} {rs:List Rc} {Bn:Sg} (Z:okD ops (fG rs)=true)
  (hl:rs.length=ops.size) (h:KR P gl pu hint ops rs Bn=true):LY P gl pu hint ops rs Bn=true:=by
 unfold KR at h;unfold LY;rw[MU]at h ⊢;rcases h with h|h
 ·exact .inl h
 refine .inr (List.all_eq_true.2 fun j hj=>?_);have hj:=List.mem_range.1 hj
 cases hk:fkd rs j with
 | false=>rfl
 | true =>
  cases hb:fG rs j with
  | true=>rfl
  | false =>
   simp only[NH,Bool.and_self,Nk,On];have size:∀m,fG rs m=true->m<ops.size:=fun m hm=>by
    rw[<-hl];refine Nat.lt_of_not_le fun hle=>?_
    unfold fG at hm;rw[NZ hle]at hm;cases hm
   by_cases hex:∃m,fG rs m=true/\bef ops ops.size j m=false/\bef ops ops.size m j=false
   ·obtain⟨m,hm,O,J⟩:=hex;have a':j≠m:=fun e=>by rw[e,hm]at hb;cases hb
    rcases Nat.lt_or_gt_of_ne a' with I|I
    ·have:=List.all_eq_true.1 h _ (oP (size m hm) I O)
     simpa [hb,hm,hk] using this
    ·have:=List.all_eq_true.1 h _ (oP hj I J)
     simpa [hb,hm,hk] using this
   ·refine List.all_eq_true.2 fun c hc=>?_
    unfold Jh
    cases z:tB (fG rs) c with
    | false=>rfl
    | true =>
     cases f':inr ops (fG rs) c j with
     | false=>rfl
     | true =>
      have ord:∀m,fG rs m=true->(m<j/\m<c)\/(j<m/\c<=m):=fun m hm=>by
       have G:=List.all_eq_true.1 f' m (List.mem_range.2 (size m hm));rw[hm]at G;simp only[Nk,On,My,MU,M4,MK]at G
       cases O:bef ops ops.size m j with
       | true=>rw[O]at G;exact .inl ⟨zQ Z _ O,jQ G.1⟩
       | false =>
        cases J:bef ops ops.size j m with
        | true=>rw[J]at G;exact .inr ⟨zQ Z _ J,jQ G.2⟩
        | false=>exact (hex ⟨m,hm,J,O⟩).elim
      have c':c<=j:=by
       unfold tB at z;rw[MU,MO]at z;rcases z with e|e
       ·omega
       ·rcases ord _ e with h'|h'<;>omega
      have:((List.range j).all fun i=>decide (i<c) || !fG rs i)=true:=List.all_eq_true.2 fun i G=>by
       have G:=List.mem_range.1 G
       cases d':fG rs i with
       | false=>simp
       | true=>rcases ord i d' with h'|h'<;>simp<;>omega
      simp[c',this]
def J2 (P:Program) (gl:Nat->Option (List Tr)) (pu:FuncId->List Tr->Option Tr) (ev:Code->Sg->Option (Exit × Sg)) (hint:FuncId->Bool) (ops:Array Oper) (σ:Sg):Option Sg :=
 match trD P gl pu ev hint ops σ.cur.n ops.toList σ.cur.l σ.bare with
 | some (rs,Tn,Bn)=>if okF ops (fG rs)=true/\(σ.cur.l.all fun x=>x.2.lt (nx σ.obs))=true/\KR P gl pu hint ops rs Bn=true then some (Bn.wl Tn) else none
 | none=>none
def puE (P:Program) (O:FuncId->List Tr->Option Tr) (ev:Code->Sg->Option (Exit × Sg)) (f:FuncId) (ts:List Tr):Option Tr:=match O f ts with|some r=>some r|none=>II P ev f ts
def evQ (ev:Code->Sg->Option (Exit × Sg)) (y:Code):Option (Exit × Sg)->Option (Exit × Sg)
 | some (.normal,τ)=>ev y τ
 | r=>r
def evB (ev:Code->Sg->Option (Exit × Sg)) (x y:Code) (σ:Sg):Option Bool->Option (Exit × Sg)
 | some true=>ev x σ
 | some false=>ev y σ
 | none=>none
def evK (id:Nat):Option (Exit × Sg)->Option (Exit × Sg)
 | some (.exit id',τ)=>if id'=id then some (.normal,τ) else some (.exit id',τ)
 | r=>r
def evN:Option Sg->Option (Exit × Sg)
 | some τ=>some (.normal,τ)
 | none=>none
def evR (P:Program) (gl:Nat->Option (List Tr)) (pu:FuncId->List Tr->Option Tr) (ev:Code->Sg->Option (Exit × Sg)) (hint:FuncId->Bool) (ops:Array Oper) (σ:Sg):Bool->Option (Exit × Sg)
 | false=>evN (evS P gl pu ev hint ops ops.toList σ)
 | true=>evN (J2 P gl pu ev hint ops σ)
def evX (P:Program) (gl:Nat->Option (List Tr)) (O:FuncId->List Tr->Option Tr) (hint:FuncId->Bool) (ev:Code->Sg->Option (Exit × Sg)) (c:Code) (σ:Sg):Option (Exit × Sg) :=
 match c with
 | .skip=>some (.normal,σ)
 | .label _=>some (.normal,σ)
 | .exit id=>some (.exit id,σ)
 | .ret=>some (.ret,σ)
 | .seq x y=>evQ ev y (ev x σ)
 | .cond c x y=>evB ev x y σ ((evl gl σ c).bind V.bool?)
 | .block id c=>evK id (ev c σ)
 | .loop c=>evQ ev (.loop c) (ev c σ)
 | .region _ ops d=>evR P gl (puE P O ev) ev hint ops σ d
 | .rangeFunc g ps h z=>Lv P gl ev g ps h z σ
 | _=>none
def evC (P:Program) (gl:Nat->Option (List Tr)) (O:FuncId->List Tr->Option Tr) (hint:FuncId->Bool):Nat->Code->Sg->Option (Exit × Sg)
 | 0=>fun _ _=>none
 | n+1=>evX P gl O hint (evC P gl O hint n)
def evF (P:Program) (gl:Nat->Option (List Tr)) (O:FuncId->List Tr->Option Tr) (hint:FuncId->Bool) (n:Nat) (f:FuncId) (ts:List Tr):Option Tr:=II P (evC P gl O hint n) f ts
section
variable {P : Program} {gl : Nat -> Option (List Tr)} {n0 : Nat} {M M' : Mem} {w w' : World} {σ σ' : Sg} {S : List Rf} {a : Act} {o : Oper} {Q : Exit -> Sg -> Prop} {ops : Array Oper} {bar : Nat -> Bool}
variable {pu : FuncId -> List Tr -> Option Tr} {ev : Code -> Sg -> Option (Exit × Sg)} {hint : FuncId -> Bool}
def gB (P:Program) (gl:Nat->Option (List Tr)) (pu:FuncId->List Tr->Option Tr):Prop:=∀f ts r,pu f ts=some r->PuC P gl f ts r
def fV (P:Program) (gl:Nat->Option (List Tr)) (ev:Code->Sg->Option (Exit × Sg)):Prop :=
 ∀c σ e τ,ev c σ=some (e,τ)->AW P gl c (fun e' τ'=>e'=e/\τ'=τ) σ
def zx (P:Program) (gl:Nat->Option (List Tr)) (ev:Code->Sg->Option (Exit × Sg)):Prop :=
 ∀c σ e τ,ev (.loop c) σ=some (e,τ)->LW P gl c (fun e' τ'=>e'=e/\τ'=τ) σ
theorem ubf {p:Prop} (h:p:=by
  split at h
  ·rename_i τ z;exact key _ τ (.inl rfl) z h
  ·rename_i τ z;exact key _ τ (.inr rfl) z h
  ·cases h):p:=h
theorem pi (J:fV P gl ev) {f:FuncId} {xs:List V} {x:V} (O:iJ P gl σ o=some (f,xs)) (h:Ek P ev f xs σ=some (x,σ')):kq P gl o σ x σ':=by
 unfold Ek at h
 split at h
 ·rename_i fn hf
  split at h
  ·rename_i c I
   have key:∀(e:Exit) (τ:Sg),(e=.normal\/e=.ret)->ev c ⟨σ.obs,frame fn xs::σ.stk,σ.lps⟩=some (e,τ)->((iN P τ fn).map fun x=>(x,(⟨τ.obs,τ.stk.tail,τ.lps⟩:Sg)))=some (x,σ')->kq P gl o σ x σ':=by
    intro e τ he z hr
    cases G:iN P τ fn with
    | none=>rw[G]at hr;cases hr
    | some y =>
     rw[G]at hr;cases hr;refine Ea O hf I ((J _ _ _ _ z).mono ?_);rintro e' τ' ⟨rfl,rfl⟩;exact⟨he,G,rfl⟩
   exact ubf
  ·cases h
 ·cases h
theorem Gm {s:LoopState} (h:Kr s=true):s=.ready:=by cases s<;>first|rfl|cases h
theorem IV (Z:fV P gl ev) {i:Nat} {xs:List V} {x:V} (hc:yn gl σ o=some (i,xs)) (h:Li ev i xs σ=some (x,σ')):kq P gl o σ x σ':=by
 unfold Li at h
 split at h
 ·rename_i lp hl
  split at h
  ·rename_i hp
   split at h
   ·rename_i τ1 ha
    split at h
    ·rename_i J I
     split at h
     ·rename_i hr
      split at h
      ·rename_i e τ2 hb
       split at h
       ·rename_i z pd G he
        split at h
        ·rename_i O
         cases h
         refine AI hc hl hp.1 (fun t ht=>by have:=List.all_eq_true.1 hp.2 t ht;simpa using this) ((Z _ _ _ _ ha).mono ?_);rintro e' τ' ⟨rfl,rfl⟩;refine⟨rfl,J,hr.1,I,Gm hr.2,(Z _ _ _ _ hb).mono ?_⟩;rintro e' τ' ⟨rfl,rfl⟩;exact⟨z,pd,O,G,he,rfl,rfl⟩
        ·cases h
       ·cases h
      ·cases h
     ·cases h
    ·cases h
   ·cases h
  ·cases h
 ·cases h
theorem I1 (Z:fV P gl ev) {g:Operand} {ps:Array Tmp} {I O:Code} {e:Exit} {τ:Sg} (h:Lv P gl ev g ps I O σ=some (e,τ)):AW P gl (.rangeFunc g ps I O) (fun e' τ'=>e'=e/\τ'=τ) σ:=by
 unfold Lv at h
 split at h
 ·rename_i f xs hc
  split at h
  ·rename_i fn hf
   split at h
   ·rename_i c hb
    split at h
    ·rename_i e1 τ1 he
     split at h
     ·rename_i hk
      split at h
      ·rename_i lp hl
       split at h
       ·rename_i G
        refine AW.rangeFunc hc hf hb ((Z _ _ _ _ he).mono ?_);rintro e' τ' ⟨rfl,rfl⟩;refine⟨?_,Option.isSome_iff_exists.1 hk.2.1,lp,hk.2.2,hl,fun J=>(by rw[J]at G;cases G),?_⟩
        ·have:=hk.1
         cases e'<;>first|exact .inl rfl|exact .inr rfl|cases this
        ·split at h
         ·rename_i z;cases h;rw[z];exact⟨rfl,rfl⟩
         ·rename_i c' z;rw[z]at h ⊢;exact Z _ _ _ _ h
       ·cases h
      ·cases h
     ·cases h
    ·cases h
   ·cases h
  ·cases h
 ·cases h
theorem Ck (J:fV P gl ev) {f:FuncId} {ts:List Tr} {r:Tr} (h:II P ev f ts=some r):PuC P gl f ts r:=by
 unfold II at h
 split at h
 ·rename_i fn hf
  split at h
  ·rename_i c I
   have key:∀(e:Exit) (τ:Sg),(e=.normal\/e=.ret)->ev c ⟨[],[frame fn (ts.map .p)],[]⟩=some (e,τ)->(iN P τ fn).bind (V.frz false ⟨τ.obs,τ.stk.tail,τ.lps⟩)=some r->PuC P gl f ts r:=by
    intro e τ he z hr
    cases G:iN P τ fn with
    | none=>rw[G]at hr;cases hr
    | some y =>
     rw[G,MR]at hr;refine pc_of hf I ((J _ _ _ _ z).mono ?_);rintro e' τ' ⟨rfl,rfl⟩;exact⟨he,y,G,hr⟩
   exact ubf
  ·cases h
 ·cases h
mutual
theorem Gj:∀(x:V) {t:Tr},x.frz false σ=some t->x.frz true σ=some t
 | .p t,_,h=>by rw[V.frz]at h ⊢;exact h
 | .agg cs,_,h=>by
  rw[V.frz]at h ⊢
  cases hf:V.frzs false σ cs with
  | none=>rw[hf]at h;cases h
  | some ts=>rw[gp cs hf];rw[hf]at h;exact h
 | .tup cs,_,h=>by
  rw[V.frz]at h ⊢
  cases hf:V.frzs false σ cs with
  | none=>rw[hf]at h;cases h
  | some ts=>rw[gp cs hf];rw[hf]at h;exact h
 | .ref n,_,h=>by rw[V.frz]at h ⊢;exact h
 | .off n i o,_,h=>by rw[V.frz]at h;simp at h
 | .arr n k len full,_,h=>by rw[V.frz]at h;cases h
 | .fn f a b,_,h=>by
  rw[V.frz]at h ⊢
  split at h
  ·rename_i x y G z;rw[gp a G,gp b z];exact h
  ·cases h
 | .yld i,_,h=>by rw[V.frz]at h;cases h
 | .junk,_,h=>by rw[V.frz]at h;cases h
theorem gp:∀(l:List V) {ts:List Tr},V.frzs false σ l=some ts->V.frzs true σ l=some ts
 | [],_,h=>by rw[V.frzs]at h ⊢;exact h
 | x::l,_,h=>by
  rw[V.frzs]at h ⊢
  split at h
  ·rename_i t m G z;rw[Gj x G,gp l z];exact h
  ·cases h
end
theorem Je {t:TypeId} {len:Nat} {parts:Array (Nat × Operand)} {vs:List V} {ts:List Tr} {r:Tr} {τ:Sg} (ho:o.op=.buildSlice t len parts) (Z:mL gl σ (parts.toList.map (·.2))=some vs) (O:V.unp vs=some ts)
  (hb:bsl P ⟨[],[],[]⟩ t len ((parts.toList.map (·.1)).zip vs)=some (.p r,τ)):QDoes P gl o σ (.p r):=by
 intro n0 M w S a ρ h K Q n hk;have hr:=gV h Z;have:=V.unp_eq O;subst this;obtain⟨h3,h4⟩:=sN hr
 let M0:Mem:=⟨M.F,fun _=>undef,fun _=>0,fun _=>0,fun _=>0,0⟩
 have hs:SR gl w.heap.size M0 w ⟨[],[],[]⟩ []:=⟨Mt _,fun n x h=>(by cases h),fun m n x y g _ h=>(by cases h),trivial,h.gls,rfl,fun i lp h=>by simp at h,by simp,fun i j h=>by cases h⟩;have hlen:ts.length=parts.toList.length:=by have:=hr.1;simpa using this.symm
 have G:(parts.toList.map fun x=>(x.1,a.eval x.2)).map (·.1)=((parts.toList.map (·.1)).zip (ts.map V.p)).map (·.1):=by rw[Oa,List.map_fst_zip (by simp[hlen])];rfl
 have I:Rvs M0 w (((parts.toList.map (·.1)).zip (ts.map V.p)).map (·.2)) ((parts.toList.map fun x=>(x.1,a.eval x.2)).map (·.2)):=by
  rw[List.map_snd_zip (by simp[hlen]),Oa];refine⟨by simp[hlen],fun i t v z hv=>?_⟩;rw[MA]at z
  cases J:ts[i]? with
  | none=>rw[J]at z;cases z
  | some s =>
   rw[J]at z;cases z;refine .p _ _ (h4 i s v J ?_)
   simpa using hv
 obtain⟨M',w',u,h1,h2,hf,-,h5⟩:=Ig hs hb G I;have he:(parts.toList.map fun x=>(x.1,a.eval x.2)).toArray=parts.map fun x=>(x.1,a.eval x.2):=by apply OG;simp
 rw[he]at h1;refine lC (u:=u) (w':=w') (by unfold execOp;simp[ho,h1]) (hk M'.F u w' h2 hf.lo ?_)
 cases h5 with
 | p _ _ hp=>exact .p _ _ hp
theorem BN {x:V} (h:Fb P gl o σ=some x):QDoes P gl o σ x:=by
 unfold Fb at h
 split at h
 ·rename_i y hy;cases h;exact (qC hy).qdoes
 ·split at h
  ·rename_i y hy;cases h;exact (lA hy).qdoes
  ·split at h
   ·rename_i t y ix ok G
    split at h
    ·rename_i yv iv hy hi
     refine Quiet.qdoes fun n0 M w S a ρ hs=>?_
     obtain⟨q,J,I⟩:=FQ hs h (aJ hs hy) (aJ hs hi);exact⟨q,by unfold execOp;simp[G,J],I⟩
    ·cases h
   ·rename_i t y lo hi G
    split at h
    ·rename_i u l hh hy hl O
     cases z:slc P t u l hh with
     | none=>rw[z]at h;cases h
     | some r =>
      rw[z]at h;cases h;refine Quiet.qdoes fun n0 M w S a ρ hs=>?_
      cases aJ hs hy with
      | p _ _ hu =>
       obtain⟨q,J,I⟩:=Gt z hu (mY hs hl) (mY hs O);exact⟨q,by unfold execOp;simp[G,J],.p _ _ I⟩
    ·cases h
   ·rename_i t len parts G
    split at h
    ·rename_i vs a'
     split at h
     ·rename_i ts r τ Z hb
      cases h
      exact Je G a' Z hb
     ·cases h
    ·cases h
   ·rename_i s d y G
    cases hy:evl gl σ y with
    | none=>rw[hy]at h;cases h
    | some yv =>
     rw[hy,MR]at h;refine Quiet.qdoes fun n0 M w S a ρ hs=>?_
     obtain⟨q,J,I⟩:=LD hs h (aJ hs hy);exact⟨q,by unfold execOp;simp[G,J],I⟩
   ·cases h
theorem BQ (hp:gB P gl pu) {x:V} (h:Jk P gl pu hint o σ=some x):QDoes P gl o σ x:=by
 unfold Jk at h
 split at h
 ·rename_i f xs z
  split at h
  ·cases h
  ·split at h
   ·rename_i ts hu
    have:=V.unp_eq hu;subst this
    cases hr:pu f ts with
    | none=>rw[hr]at h;cases h
    | some r=>rw[hr]at h;cases h;exact sX z (hp f ts r hr)
   ·split at h
    ·rename_i ts hf
     split at h
     ·rename_i r hr
      split at h
      ·rename_i hs;cases h;exact sT z hf (hp f ts r hr) hs
      ·cases h
     ·cases h
    ·cases h
 ·exact BN h
theorem BG (hp:gB P gl pu) (G:fV P gl ev) {x:V} (h:IT P gl pu ev hint o σ=some (x,σ')):kq P gl o σ x σ':=by
 unfold IT at h
 split at h
 ·rename_i f xs z
  split at h
  ·exact pi G z h
  ·split at h
   ·rename_i ts hu
    have:=V.unp_eq hu;subst this
    cases hr:pu f ts with
    | none=>rw[hr]at h;exact pi G z h
    | some r=>rw[hr]at h;cases h;exact (sX z (hp f ts r hr)).does
   ·split at h
    ·rename_i ts hf
     split at h
     ·rename_i r hr
      split at h
      ·rename_i hs;cases h;exact (sT z (gp xs hf) (hp f ts r hr) hs).does
      ·cases h;exact G5 z hf (hp f ts r hr)
     ·exact pi G z h
    ·exact pi G z h
 ·split at h
  ·rename_i i xs hy;exact IV G hy h
  ·split at h
   ·rename_i r hr;cases h;exact (FL hr).does
   ·cases hq:Fb P gl o σ with
    | none=>rw[hq]at h;cases h
    | some y=>rw[hq]at h;cases h;exact (BN hq).does
theorem te {q:Option V} {x:V} (hq:∀y,q=some y->kq P gl o σ y σ) (h:wS σ q=some (x,σ')):kq P gl o σ x σ':=by
 cases q with
 | none=>cases h
 | some y=>cases h;exact hq _ rfl
theorem Lh (hp:gB P gl pu) (O:fV P gl ev) {x:V} (h:stF P gl pu ev hint o σ=some (x,σ')):kq P gl o σ x σ':=by
 unfold stF at h;have q:∀y,ge P gl o σ=some y->kq P gl o σ y σ:=fun y h=>(qC h).goes.does
 have pl:∀y,gO P gl o σ=some y->kq P gl o σ y σ:=fun y h=>(lA h).goes.does
 split at h
 ·rename_i y G;exact te (fun z I=>q z (by unfold ge;rw[G];exact I)) h
 ·rename_i y G;exact te (fun z I=>q z (by unfold ge;rw[G];exact I)) h
 ·rename_i t y G;exact te (fun z I=>q z (by unfold ge;rw[G];exact I)) h
 ·split at h
  ·rename_i v J;cases h;exact pl _ J
  ·exact te q h
 ·exact te pl h
 all_goals first
  | exact te q h
  | exact (wT h).does
  | exact BG hp O h
theorem zI (hp:gB P gl pu) (z:fV P gl ev):∀{l:List Oper} {σ τ:Sg},evS P gl pu ev hint ops l σ=some τ->wpR P gl ops (fun τ'=>τ'=τ) l σ
 | [],σ,τ,h=>by cases h;rfl
 | o::l,σ,τ,h=>by
  rw[evS]at h;rw[wpR]
  split at h
  ·rename_i hw
   rw[hw]
   split at h
   ·rename_i x σ' hs
    split at h
    ·rename_i τ' hput;exact⟨x,σ',τ',Lh hp z hs,hput,zI hp z h⟩
    ·cases h
   ·cases h
  ·rename_i hw
   rw[hw]
   split at h
   ·rename_i τ' hput;exact⟨τ',hput,zI hp z h⟩
   ·cases h
  ·cases h
theorem Hw:∀{a b:Value},F5 a b=true->a=b:=by
 intro a b h;unfold F5 at h
 split at h
 ·simp only[My,MK]at h;rw[h.1,h.2]
 ·simp only[MO]at h;rw[h]
 ·rename_i a b;have z:=NB h;cases a;cases b;exact congrArg (fun d=>Value.string ⟨d⟩) z
 all_goals first|rfl|cases h
mutual
theorem Tr.same_ok:∀(a b:Tr),Tr.same a b=true->a=b
 | .at a,.at b,h=>by rw[Tr.same]at h;rw[Hw h]
 | .agg a,.agg b,h=>by rw[Tr.same]at h;rw[Tr.sames_ok a b h]
 | .tup a,.tup b,h=>by rw[Tr.same]at h;rw[Tr.sames_ok a b h]
 | .lst f a,.lst g b,h=>by rw[Tr.same,My,MO]at h;rw[h.1,Tr.sames_ok a b h.2]
 | .elp a,.elp b,h=>by rw[Tr.same]at h;rw[Tr.sames_ok a b h]
 | .fn _ _ _,b,h=>by cases b<;>simp[Tr.same]at h
 | .at _,.agg _,h|.at _,.tup _,h|.at _,.lst _ _,h|.at _,.elp _,h|.at _,.fn _ _ _,h=>by simp[Tr.same]at h
 | .agg _,.at _,h|.agg _,.tup _,h|.agg _,.lst _ _,h|.agg _,.elp _,h|.agg _,.fn _ _ _,h=>by simp[Tr.same]at h
 | .tup _,.at _,h|.tup _,.agg _,h|.tup _,.lst _ _,h|.tup _,.elp _,h|.tup _,.fn _ _ _,h=>by simp[Tr.same]at h
 | .lst _ _,.at _,h|.lst _ _,.agg _,h|.lst _ _,.tup _,h|.lst _ _,.elp _,h|.lst _ _,.fn _ _ _,h=>by simp[Tr.same]at h
 | .elp _,.at _,h|.elp _,.agg _,h|.elp _,.tup _,h|.elp _,.lst _ _,h|.elp _,.fn _ _ _,h=>by simp[Tr.same]at h
theorem Tr.sames_ok:∀(a b:List Tr),Tr.sames a b=true->a=b
 | [],[],_=>rfl
 | x::l,y::m,h=>by rw[Tr.sames,My]at h;rw[Tr.same_ok x y h.1,Tr.sames_ok l m h.2]
 | [],_::_,h=>by simp[Tr.sames]at h
 | _::_,[],h=>by simp[Tr.sames]at h
end
mutual
theorem V.same_ok:∀(a b:V),V.same a b=true->a=b
 | .p a,b,h=>by cases b<;>simp only[V.same]at h<;>first|cases h;done|rw[Tr.same_ok _ _ h]
 | .agg a,b,h=>by cases b<;>simp only[V.same]at h<;>first|cases h;done|rw[V.sames_ok a _ h]
 | .tup a,b,h=>by cases b<;>simp only[V.same]at h<;>first|cases h;done|rw[V.sames_ok a _ h]
 | .ref m,b,h=>by cases b<;>simp only[V.same]at h<;>first|cases h;done|(rw[MO]at h;rw[h])
 | .off x y z,b,h=>by
  cases b<;>simp only[V.same]at h<;>first|cases h;done|(simp only[My,MO]at h;rw[h.1,h.2.1,h.2.2])
 | .arr _ _ _ _,b,h=>by cases b<;>simp[V.same]at h
 | .fn _ _ _,b,h=>by cases b<;>simp[V.same]at h
 | .yld _,b,h=>by cases b<;>simp[V.same]at h
 | .junk,b,h=>by cases b<;>simp[V.same]at h
theorem V.sames_ok:∀(a b:List V),V.sames a b=true->a=b
 | [],[],_=>rfl
 | x::l,y::m,h=>by rw[V.sames,My]at h;rw[V.same_ok x y h.1,V.sames_ok l m h.2]
 | [],_::_,h=>by simp[V.sames]at h
 | _::_,[],h=>by simp[V.sames]at h
end
def Kb (P:Program) (gl:Nat->Option (List Tr)) (ops:Array Oper) (n:Nat) (o:Oper) (r:Rc) (z:List (Nat × V)) (h:Sg):Prop :=
 (∀d,o.dst=some d->d<n)/\z=Fy r.T o.dst r.x/\mf ops (Lk r.T r.B (o.looksAt ops)) o=some r.kd/\(r.kd=false->r.x=.p (.at undef)/\r.bar=false)/\(r.bar=false->h=r.B) /\
 (r.bar=true->r.kd=true/\r.x.lt (nx h.obs)=true/\∃σ',kq P gl o (Lk r.T r.B (o.looksAt ops)) r.x σ'/\h=σ'.bare) /\
 (r.bar=false->r.kd=true->QDoes P gl o (Lk r.T r.B (o.looksAt ops)) r.x/\r.x.lt (nx r.B.obs)=true)
theorem Gc (hp:gB P gl pu) (hv:fV P gl ev) {n:Nat}:∀{l:List Oper} {T:List (Nat × V)} {B:Sg} {rs:List Rc} {G:List (Nat × V)} {z:Sg},trD P gl pu ev hint ops n l T B=some (rs,G,z) ->
  rs.length=l.length/\fT rs G 0=T/\fB rs z 0=B/\(B.cur.l=[]->∀i,(fB rs z i).cur.l=[])/\∀i o,l[i]?=some o->∃r,rs[i]?=some r/\Kb P gl ops n o r (fT rs G (i+1)) (fB rs z (i+1))
 | [],T,B,rs,G,z,h=>by cases h;exact⟨rfl,rfl,rfl,fun h i=>by simpa [fB] using h,fun i o h=>by simp at h⟩
 | o::l,T,B,rs,G,z,h=>by
  rw[trD]at h
  split at h
  ·rename_i hd
   have O:∀d,o.dst=some d->d<n:=fun d e=>by rw[e]at hd;exact NB hd
   have nx:∀{r:Rc} {T':List (Nat × V)} {Z:Sg},((trD P gl pu ev hint ops n l T' Z).map fun q=>(r::q.1,q.2))=some (rs,G,z)->r.T=T->r.B=B->(B.cur.l=[]->Z.cur.l=[])->Kb P gl ops n o r T' Z ->
     rs.length=(o::l).length/\fT rs G 0=T/\fB rs z 0=B/\(B.cur.l=[]->∀i,(fB rs z i).cur.l=[])/\∀i o',(o::l)[i]?=some o'->∃r,rs[i]?=some r/\Kb P gl ops n o' r (fT rs G (i+1)) (fB rs z (i+1)):=by
    intro r T' Z h hT hB hl hr
    cases he:trD P gl pu ev hint ops n l T' Z with
    | none=>rw[he]at h;cases h
    | some q =>
     obtain⟨I,c',a'⟩:=q;rw[he]at h;cases h;obtain⟨h1,h2,h3,h4,h5⟩:=Gc hp hv he;refine⟨by simp[h1],hT,hB,fun hb i=>?_,fun i o' ho=>?_⟩
     ·cases i with
      | zero=>show r.B.cur.l=[];rw[hB];exact hb
      | succ i=>exact h4 (hl hb) i
     ·cases i with
      | zero =>
       cases ho
       refine⟨r,rfl,?_⟩;have e1:fT (r::I) G (0+1)=fT I G 0:=rfl;have e2:fB (r::I) z (0+1)=fB I z 0:=rfl;rw[e1,e2,h2,h3];exact hr
      | succ i=>exact h5 i o' (jQ ho)
   split at h
   ·rename_i hw
    split at h
    ·rename_i x hq
     split at h
     ·rename_i J
      exact nx h rfl rfl id ⟨O,rfl,hw,fun e=>(by cases e),fun _=>rfl,fun e=>(by cases e),fun _ _=>⟨BQ hp hq,J⟩⟩
     ·cases h
    ·split at h
     ·rename_i x σ' hs
      split at h
      ·rename_i J
       exact nx h rfl rfl (fun _=>rfl) ⟨O,rfl,hw,fun e=>(by cases e),fun e=>(by cases e),fun _=>⟨rfl,J,σ',BG hp hv hs,rfl⟩,fun e=>(by cases e)⟩
      ·cases h
     ·cases h
   ·rename_i hw
    exact nx h rfl rfl id ⟨O,rfl,hw,fun _=>⟨rfl,rfl⟩,fun _=>rfl,fun e=>(by cases e),fun _ e=>(by cases e)⟩
   ·cases h
  ·cases h
theorem LT {α:Type} {l:List (Nat × α)} {t:Nat} {x:α} (h:gt l t=some x):∃y∈l,y.2=x:=by
 induction l with
 | nil=>cases h
 | cons y l G =>
  rw[gt]at h
  split at h
  ·cases h;exact⟨y,by simp,rfl⟩
  ·obtain⟨z,J,I⟩:=G h;exact⟨z,by simp[J],I⟩
theorem Js (hm:P.follows .mixedOrders=true) (hp:gB P gl pu) (hv:fV P gl ev) {id:Nat} {τ:Sg} (h:J2 P gl pu ev hint ops σ=some τ):AW P gl (.region id ops true) (fun e τ'=>e=.normal/\τ'=τ) σ:=by
 unfold J2 at h
 split at h
 ·rename_i rs Tn O m'
  split at h
  ·rename_i hc
   cases h
   obtain⟨a',g',G⟩:=hc;obtain⟨hl,h1,h2,h3,h4⟩:=Gc hp hv m';have l':rs.length=ops.size:=jQ hl;have a':=LH a';have G:=JE a' l' G;have rc:∀i o,ops[i]?=some o->∃r,rs[i]?=some r/\Kb P gl ops σ.cur.n o r (fT rs Tn (i+1)) (fB rs O (i+1)):=fun i o J=>h4 i o (jQ J)
   have same:∀i,fG rs i=false->fB rs O (i+1)=fB rs O i:=fun i Z=>by
    by_cases hi:i<ops.size
    ·obtain⟨r,hr,z⟩:=rc i _ (MJ hi);have c':r.bar=false:=by unfold fG at Z;rw[hr]at Z;exact Z
     rw[z.2.2.2.2.1 c'];unfold fB;rw[hr]
    ·unfold fB;rw[NZ om,NZ om]
   have const:∀(c j:Nat),c<=j->(∀i,c<=i->i<j->fG rs i=false)->fB rs O j=fB rs O c:=by
    intro c j p'
    induction j with
    | zero=>intro _;rw[show c=0 by omega]
    | succ j ih =>
     intro Z
     by_cases hc:c=j+1
     ·rw[hc]
     ·rw[same j (Z j om om),ih om fun i h1 h2=>Z i h1 om]
   have tr:TR P gl ops (fG rs) (fkd rs) (fT rs Tn) (fB rs O) (fX rs):=by
    refine⟨fun i o J=>?_,fun i o d J hd=>?_,fun i o J=>?_,fun i o J hk=>?_,same,fun i o J Z=>?_,fun i o c J hk Z q' d' h'=>?_,fun t x hx=>?_,h3 rfl⟩
    ·obtain⟨r,hr,z⟩:=rc i o J;rw[z.2.1];simp[fT,fX,hr]
    ·obtain⟨r,hr,z⟩:=rc i o J;rw[h2];exact z.1 d hd
    ·obtain⟨r,hr,z⟩:=rc i o J;have:=z.2.2.1;simp only[fT,fkd,hr];exact this
    ·obtain⟨r,hr,z⟩:=rc i o J;simp only[fkd,hr]at hk
     simpa only [fX,fG,hr] using z.2.2.2.1 hk
    ·obtain⟨r,hr,z⟩:=rc i o J;simp only[fG,hr]at Z;have:=z.2.2.2.2.2.1 Z;have eB:fB rs O i=r.B:=by simp[fB,hr]
     rw[eB]
     simpa only [fkd,fX,fT,hr] using this
    ·obtain⟨r,hr,z⟩:=rc i o J;have c':r.bar=false:=by simpa only [fG,hr] using Z
     have k':r.kd=true:=by simpa only [fkd,hr] using hk
     have eT:fT rs Tn i=r.T:=by simp[fT,hr]
     have eX:fX rs i=r.x:=by simp[fX,hr]
     have eB:fB rs O i=r.B:=by simp[fB,hr]
     have own:fB rs O c=fB rs O i->QDoes P gl o (Lk (fT rs Tn i) (fB rs O c) (o.looksAt ops)) (fX rs i)/\(fX rs i).lt (nx (fB rs O c).obs)=true:=fun e=>by
      rw[e,eT,eX,eB];exact z.2.2.2.2.2.2 c' k'
     have hi:i<ops.size:=(Array.getElem?_eq_some_iff.1 J).1;unfold LY at G;rw[MU]at G;rcases G with i'|G
     ·have f':∀k,fG rs k=false:=fun k=>by
       unfold fG
       cases hk:rs[k]? with
       | none=>rfl
       | some q =>
        have:rs.any (·.bar)=false:=jQ i';have:=List.any_eq_false.1 this q (MI hk)
        simpa using this
      exact own ((const 0 c (Mu _) fun k _ _=>f' k).trans (const 0 i (Mu _) fun k _ _=>f' k).symm)
     ·have h5:=List.all_eq_true.1 G i (List.mem_range.2 hi);rw[hk,Z]at h5;have I:=List.all_eq_true.1 (jQ h5) c (List.mem_range.2 om);unfold Jh at I;rw[d',h']at I;simp only[Nk,On,MU]at I;rcases I with I|I
      ·simp only[My,MK]at I;refine own (const c i I.1 fun k n' j'=>?_).symm;have:=List.all_eq_true.1 I.2 k (List.mem_range.2 j');simp only[MU,MK,M4]at this;rcases this with h|h
       ·omega
       ·exact h
      ·rw[J,hr]at I;simp only[]at I
       split at I
       ·rename_i y hy
        rw[My]at I;rw[eT,eX];have:=V.same_ok _ _ I.1;subst this;exact⟨BQ hp hy,I.2⟩
       ·cases I
    ·rw[h1]at hx;rw[h2];obtain⟨y,hy,rfl⟩:=LT hx;exact List.all_eq_true.1 g' y hy
   refine AW.drawn hm a' tr h1 h2 ⟨rfl,?_⟩;have e1:fT rs Tn ops.size=Tn:=by unfold fT;rw[NZ om]
   have e2:fB rs O ops.size=O:=by unfold fB;rw[NZ om]
   rw[e1,e2]
  ·cases h
 ·cases h
theorem LP (hm:P.follows .mixedOrders=true) {O:FuncId->List Tr->Option Tr} (Z:gB P gl O) (z:fV P gl ev) (hl:zx P gl ev):fV P gl (evX P gl O hint ev)/\zx P gl (evX P gl O hint ev):=by
 have hp:gB P gl (puE P O ev):=fun f ts r h=>by
  unfold puE at h
  split at h
  ·rename_i r' hr;cases h;exact Z f ts _ hr
  ·exact Ck z h
 have loop:∀c σ e τ,evQ ev (.loop c) (ev c σ)=some (e,τ)->LW P gl c (fun e' τ'=>e'=e/\τ'=τ) σ:=by
  intro c σ e τ h;refine LW.round ?_
  cases he:ev c σ with
  | none=>rw[he]at h;cases h
  | some r =>
   obtain⟨G,τ1⟩:=r;refine (z c σ G τ1 he).mono ?_;rintro e' τ' ⟨rfl,rfl⟩;rw[he]at h
   cases e'<;>first|exact hl c τ' e τ h|(cases h;exact⟨rfl,rfl⟩)
 refine⟨fun c σ e τ h=>?_,fun c σ e τ h=>loop c σ e τ h⟩
 cases c with
 | skip=>cases h;exact .skip ⟨rfl,rfl⟩
 | label l=>cases h;exact .label ⟨rfl,rfl⟩
 | exit id=>cases h;exact .exit ⟨rfl,rfl⟩
 | ret=>cases h;exact .ret ⟨rfl,rfl⟩
 | seq x y =>
  refine .seq ?_;simp only[evX]at h
  cases he:ev x σ with
  | none=>rw[he]at h;cases h
  | some r =>
   obtain⟨G,τ1⟩:=r;refine (z x σ G τ1 he).mono ?_;rintro e' τ' ⟨rfl,rfl⟩;rw[he]at h
   cases e'<;>first|exact z y τ' e τ h|(cases h;exact⟨rfl,rfl⟩)
 | cond c x y =>
  simp only[evX]at h
  cases I:(evl gl σ c).bind V.bool? with
  | none=>rw[I]at h;cases h
  | some b=>rw[I]at h;cases b<;>exact .cond I (z _ _ _ _ h)
 | block id c =>
  refine .block ?_;simp only[evX]at h
  cases he:ev c σ with
  | none=>rw[he]at h;cases h
  | some r =>
   obtain⟨G,τ1⟩:=r;refine (z c σ G τ1 he).mono ?_;rintro e' τ' ⟨rfl,rfl⟩;rw[he]at h
   cases e' with
   | exit a' =>
    simp only[blk];simp only[evK]at h
    split
    ·rename_i hid;rw[Mp hid]at h;cases h;exact⟨rfl,rfl⟩
    ·rename_i hid;rw[Mo hid]at h;cases h;exact⟨rfl,rfl⟩
   | _=>cases h;exact⟨rfl,rfl⟩
 | loop c=>exact .loop (loop c σ e τ h)
 | region id ops draw =>
  cases draw with
  | false =>
   simp only[evX]at h
   cases hs:evS P gl (puE P O ev) ev hint ops ops.toList σ with
   | none=>rw[evR,hs]at h;cases h
   | some τ1 =>
    rw[evR,hs]at h;cases h;refine AW.region ?_;have:=zI hp z hs
    simpa using this
  | true =>
   simp only[evX]at h
   cases hs:J2 P gl (puE P O ev) ev hint ops σ with
   | none=>rw[evR,hs]at h;cases h
   | some τ1=>rw[evR,hs]at h;cases h;exact Js hm hp z hs
 | rangeFunc g ps J bd=>exact I1 z h
 | _=>cases h
theorem Mi (hm:P.follows .mixedOrders=true) {O:FuncId->List Tr->Option Tr} (G:gB P gl O) (hint:FuncId->Bool) (n:Nat):fV P gl (evC P gl O hint n)/\zx P gl (evC P gl O hint n):=by
 induction n with
 | zero=>exact⟨fun c σ e τ h=>(by cases h),fun c σ e τ h=>(by cases h)⟩
 | succ n z=>exact LP hm G z.1 z.2
theorem Jl (hm:P.follows .mixedOrders=true) {O:FuncId->List Tr->Option Tr} (z:gB P gl O) {hint:FuncId->Bool} {n:Nat} {f:FuncId} {ts:List Tr} {r:Tr} (h:evF P gl O hint n f ts=some r):PuC P gl f ts r :=
 Ck (Mi hm z hint n).1 h
end
end
end Go.Proofs.YtbjicljfjkdeeaaGreatDoor
namespace Go.Proofs
section
open Go.Shelf
def Tryz.laysM144_ren:Go.Shelf.Ren:=⟨fun|144=>219|143=>256|219=>276|217=>297|225=>298|224=>299|267=>300|266=>324|314=>325|n=>n,fun|9=>9|4=>4|3=>3|5=>5|46=>111|146=>345|51=>160|n=>n,fun|1=>2|n=>n⟩
theorem Tryz.laysM144:Go.Proofs.LaysM.n144 Tryz.prog Tryz.laysM144_ren:={
 mixed:=by kernel_rfl
 f143:=Tryz.func256.trans (congrArg some (by kernel_rfl))
 f144:=Tryz.func219.trans (congrArg some (by kernel_rfl))
 f217:=Tryz.func297.trans (congrArg some (by kernel_rfl))
 f219:=Tryz.func276.trans (congrArg some (by kernel_rfl))
 f224:=Tryz.func299.trans (congrArg some (by kernel_rfl))
 f225:=Tryz.func298.trans (congrArg some (by kernel_rfl))
 f266:=Tryz.func324.trans (congrArg some (by kernel_rfl))
 f267:=Tryz.func300.trans (congrArg some (by kernel_rfl))
 f314:=Tryz.func325.trans (congrArg some (by kernel_rfl))
 t3:=Tryz.underlying3
 a3:=Tryz.isAgg3
 z3:=Tryz.sizeOf3
 v3:=Tryz.zeroValue3
 t4:=Tryz.underlying4
 a4:=Tryz.isAgg4
 z4:=Tryz.sizeOf4
 v4:=Tryz.zeroValue4
 t5:=Tryz.underlying5
 a5:=Tryz.isAgg5
 z5:=Tryz.sizeOf5
 v5:=Tryz.zeroValue5
 t9:=Tryz.underlying9
 a9:=Tryz.isAgg9
 z9:=Tryz.sizeOf9
 v9:=Tryz.zeroValue9
 t46:=Tryz.underlying111
 a46:=Tryz.isAgg111
 z46:=Tryz.sizeOf111
 v46:=Tryz.zeroValue111
 t51:=Tryz.underlying160
 a51:=Tryz.isAgg160
 z51:=Tryz.sizeOf160
 v51:=Tryz.zeroValue160
 t146:=Tryz.underlying345
 a146:=Tryz.isAgg345
 z146:=Tryz.sizeOf345
 v146:=Tryz.zeroValue345
 g1:=by kernel_rfl
 i3:=by kernel_rfl
 i4:=by kernel_rfl
 i5:=by kernel_rfl
 i9:=by kernel_rfl
 i46:=by kernel_rfl
 i51:=by kernel_rfl
 i146:=by kernel_rfl
 m1:=by kernel_rfl
 s1_3:=fun w h=>Go.Proofs.cell_of_shapedOpen_int (zero:=#[.int .i64 0]) (t:=3) h (of_decide_eq_true (by kernel_rfl)) (by kernel_rfl) rfl (by kernel_rfl) (by kernel_rfl) Tryz.underlying3 }
end
end Go.Proofs
namespace Go.Proofs.YtbjicljfjkdeeaaGreatDoor
open Go.Proofs.Tryz Go.RowKit
def Lx (w:World):Prop:=Tab w/\∃m:Int,w.cell? ⟨2,0,none⟩=some (Mk m)
theorem Lx.stays {w w':World} (h:Lx w) (z:Mm w w'):Lx w':=⟨h.1.stays z,h.2.imp fun _ hm=>aa z hm⟩
end Go.Proofs.YtbjicljfjkdeeaaGreatDoor
