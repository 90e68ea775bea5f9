/- Part. -/
import Derived.Test.YteemngnialjaiaaGreatDoorQ18
set_option maxRecDepth 100000
set_option maxHeartbeats 16000000
set_option linter.unusedVariables false
set_option linter.unusedSimpArgs false
namespace Go.Proofs.YteemngnialjaiaaGreatDoor
open Go.Proofs.Tryz Go.RowKit
variable {a ps:List Prop}{b z:Bool}{l:List Oper}{h:Option Int}{P:Program}{N k d id i:Nat}{c:Code}{O:List (Nat×Ob)}{X:List Lp}{e:Exit}{S:List Rf}{o:Oper}{ops:Array Oper}{ts G:List Nat}{F:Nat->Nat}{v:Value}{α β:Type}{r:Option Nat}{rs:List Rc}{bv C:List (Nat×Bool)}{x:Operand}{f:FuncId}{A B Z D E:Prop}
inductive Ch where
 | co
 | br (b:Bool)
 | ca (r:Tr)
 | el (y:Tr)
 | vb (b:Bool)
 | inl (ds:List Ch)
 | ap
 | sl
 | ld (y:Tr)
 | vw
 | cu
 | av (b:Bool)
 | lo (ts:List Nat) (e:Exit) (τ:Sg)
 | lf (ts:List (List Nat)) (e:Exit) (τ:Sg)
 | yi (b:Bool) (O:List (Nat × Ob)) (X:List Lp)
 | di (r:Tr) (O:List (Nat × Ob)) (X:List Lp)
 | rf (ts:List Nat) (e:Exit) (τ:Sg)
 | sg (b:Bool) (ds:List Ch)
 | tn (l:List Tn)
 | lk (r:Option Nat) (y:V)
 | mu
abbrev bt:Ch:=.br true
abbrev bf:Ch:=.br false
def alP:List Prop->Prop
 | []=>True
 | p::l=>p/\alP l
theorem vL(h:alP a):a.foldr And True:=by
 induction a with
 | nil=>exact trivial
 | cons p a I=>exact⟨h.1,I h.2⟩
theorem eG{b:List Prop}(h:alP (a++b)):alP a/\alP b:=by
 induction a with
 | nil=>exact⟨trivial,h⟩
 | cons p a I=>exact⟨⟨h.1,(I h.2).1⟩,(I h.2).2⟩
def asks(P:Program)(o:Oper):Bool :=
 match o.op with
 | .call c=>match c.callee with
  | .value _=>true
  | .builtin .len=>false
  | _=>true
 | .index ..=>true
 | .indexAddr ..=>true
 | .slice ..=>true
 | .lookup ..=>true
 | .pick ..=>true
 | .binOp _ t ..=>match P.underlying t with
  | some (.struct _)=>true
  | _=>false
 | _=>false
def elS(P:Program)(gl:Nat->Option (List Tr))(o:Oper)(σ:Sg)(y:Tr):Option (List Prop × V) :=
 match o.op with
 | .indexAddr t x I=>match P.underlying t,evl gl σ x,(evl gl σ I).bind V.int? with
  | some (.slice e),some (.p (.lst _ es)),some i=>match P.info? e with
   | some h=>if y.cells.length=h.size then some ([es[i.toNat]?=some y,0<=i],.p (.elp y.cells)) else none
   | none=>none
  | some (.slice e),some (.ref n),some i=>match P.info? e,gt σ.obs n with
   | some h,some (.row _ k es _)=>if k=h.size then some ([es[i.toNat]?=some y,0<=i],.off n i.toNat 0) else none
   | _,_=>none
  | some (.array len e),some (.p (.elp cs)),some i=>match P.info? e with
   | some h=>some ([cs.drop (i.toNat*h.size)=y.cells,0<=i,i<len],.p (.elp y.cells))
   | none=>none
  | _,_,_=>none
 | _=>none
def ldS(P:Program)(gl:Nat->Option (List Tr))(o:Oper)(σ:Sg)(y:Tr):Option (List Prop × V) :=
 match o.op with
 | .load t x=>match evl gl σ x with
  | some (.off n i c)=>match gt σ.obs n with
   | some (.row _ _ es _)=>(eQ P t ((y.cells.drop c).map .p)).map fun v=>([es[i]?=some y],v)
   | _=>none
  | _=>none
 | _=>none
def pkS(gl:Nat->Option (List Tr))(o:Oper)(σ:Sg)(b:Bool):Option (List Prop × V) :=
 match o.op with
 | .pick c x y=>match (evl gl σ c).bind V.bool?,evl gl σ x,evl gl σ y with
  | some c',some x,some y=>some ([c'=b],if b then x else y)
  | _,_,_=>none
 | _=>none
def caS(P:Program)(gl:Nat->Option (List Tr))(o:Oper)(σ:Sg)(r:Tr):Option (List Prop × V) :=
 match fA P gl σ o with
 | some (f,xs)=>match V.unp xs with
  | some ts=>some ([PuC P gl f ts r],.p r)
  | none=>match V.frzs true σ xs with
   | some ts=>if r.scal then some ([PuC P gl f ts r],.p r) else none
   | none=>none
 | none=>none
def Cz(P:Program)(op:BinOp)(t:TypeId)(u v:Value)(b:Bool):Prop:=∀w,(Go.binOp op t u v).run P w=.ok (.bool b) w
def vbS(P:Program)(gl:Nat->Option (List Tr))(o:Oper)(σ:Sg)(b:Bool):Option (List Prop × V) :=
 match o.op with
 | .binOp op t x y _=>match (evl gl σ x).bind V.toVal,(evl gl σ y).bind V.toVal with
  | some u,some v=>match dr P (eqGuard op t x y u v) with
   | some _=>some ([Cz P op t u v b],.p (.at (.bool b)))
   | none=>none
  | _,_=>none
 | _=>none
def slL(es:List Tr)(l:Int):Option Int->List Tr
 | none=>es.drop l.toNat
 | some k=>(es.drop l.toNat).take (k-l).toNat
theorem N2{es:List Tr}{l:Int}(c1:0<=l):slL es l h=(es.drop l.toNat).take (h.getD es.length-l).toNat:=by
 cases h with
 | some k=>rfl
 | none =>
  rw[QK]
  ·rfl
  ·rw[Qu];simp only[Option.getD_none];omega
def slS(P:Program)(gl:Nat->Option (List Tr))(o:Oper)(σ:Sg):Option (List Prop × V) :=
 match o.op with
 | .slice t x I J none=>match evl gl σ x,evo gl σ I,evo gl σ J,P.underlying t with
  | some (.p (.lst fl es)),some l,some h,some (.slice e)=>match P.info? e with
   | some i=>some ([0<=l.getD 0,l.getD 0<=h.getD es.length,h.getD es.length<=es.length,(es.all fun t=>t.cells.length==i.size)=true],
     .p (.lst false (slL es (l.getD 0) h)))
   | none=>none
  | _,_,_,_=>none
 | _=>none
def qS(P:Program)(gl:Nat->Option (List Tr))(o:Oper)(σ:Sg):Ch->Option (List Prop × V)
 | .ca r=>caS P gl o σ r
 | .br b=>pkS gl o σ b
 | .el y=>elS P gl o σ y
 | .vb b=>vbS P gl o σ b
 | .sl=>slS P gl o σ
 | .ld y=>ldS P gl o σ y
 | .vw=>vwS P gl o σ
 | _=>none
def cfS(P:Program)(gl:Nat->Option (List Tr))(o:Oper)(σ:Sg)(r:Tr):Option (List Prop × V × Sg) :=
 match fA P gl σ o with
 | some (f,xs)=>match V.frzs false σ xs with
  | some ts=>some ([PuC P gl f ts r],.p r,σ.fzs (V.nmss xs))
  | none=>none
 | none=>none
def inS(P:Program)(gl:Nat->Option (List Tr))(ev:Nat->Code->Sg->List Ch->Option (List Prop × List Ch × Exit × Sg))(o:Oper)(σ:Sg)(ds:List Ch):Option (List Prop × V × Sg) :=
 match fA P gl σ o with
 | some (f,xs)=>match P.funcs[f]? with
  | some fn=>match fn.body with
   | some c=>match ev (nx σ.obs) c ⟨σ.obs,frame fn xs::σ.stk,σ.lps⟩ ds with
    | some (ps,_,e,τ)=>if okE e=true then (fD P τ fn).map fun x=>(ps,x,⟨τ.obs,τ.stk.tail,τ.lps⟩) else none
    | none=>none
   | none=>none
  | none=>none
 | none=>none
def Tr.weak:Tr->Tr
 | .lst _ es=>.lst false es
 | t=>t
def apG(σ:Sg)(e:TypeId)(k b:Nat)(ys:List Tr)(τ:Sg)(es:List Tr)(xs:List Prop):Option (List Prop × V × Sg) :=
 some ([(ys.all fun t=>t.cells.length==k)=true,es.length+ys.length<=maxLen,(es.length+ys.length)*b<=140737488355328]++xs,.ref (nm σ),τ.new (nm σ) (.row e k (es++ys.map Tr.weak) false))
def apC(P:Program)(gl:Nat->Option (List Tr))(o:Oper)(σ:Sg):Option (List Prop × V × Sg) :=
 match o.op with
 | .call c=>match c.callee,c.args.toList,c.argTypes.toList with
  | .builtin .append,[s,x],[t,t']=>if t=t' then match evl gl σ s,evl gl σ x,P.underlying t with
   | some d,some src,some (.slice e)=>match P.info? e,(src.frz false σ).bind rX with
    | some i,some ys=>match i.zero with
     | some z=>if z.cells.size=i.size/\0<i.size then match d with
      | .p (.at (.slice none 0 0))=>apG (σ.fzs src.nms) e i.size i.bytes ys (σ.fzs src.nms) [] []
      | .p (.lst true es)=>apG (σ.fzs src.nms) e i.size i.bytes ys (σ.fzs src.nms) es [ys.isEmpty=false,(es.all fun t=>t.cells.length==i.size)=true]
      | .ref n=>match gt (σ.fzs src.nms).obs n with
       | some (.row e' k es false)=>if e'=e/\k=i.size then apG (σ.fzs src.nms) e i.size i.bytes ys ((σ.fzs src.nms).rm n) es [] else none
       | _=>none
      | _=>none
      else none
     | none=>none
    | _,_=>none
   | _,_,_=>none
   else none
  | _,_,_=>none
 | _=>none
def noP(_:FuncId)(_:List Tr):Option Tr:=none
def noE(_:Code)(_:Sg):Option (Exit × Sg):=none
def noH(_:FuncId):Bool:=true
def coS:Option (V × Sg)->Option (List Prop × V × Sg)
 | some r=>some ([],r)
 | none=>none
def Fr.fre(f:Fr):Bool:=f.l.all fun x=>match x.2 with
 | .p _=>true
 | .yld _=>true
 | .junk=>true
 | _=>false
def YF(P:Program)(gl:Nat->Option (List Tr))(O:List (Nat × Ob))(Y:List Fr)(X:List Lp)(L:Nat)(x:Tr)(b:Bool)(O':List (Nat × Ob))(X':List Lp):Prop :=
 ∀(o:Oper)(f:Fr)(t:Tr),t.weak=x->f.fre=true->Js gl ⟨O,f::Y,X⟩ o=some (L,[.p t])->DoesN 0 P gl o ⟨O,f::Y,X⟩ (.p (.at (.bool b))) ⟨O',f::Y,X'⟩
def CF(P:Program)(gl:Nat->Option (List Tr))(O:List (Nat × Ob))(Y:List Fr)(X:List Lp)(g:FuncId)(xs:List V)(r:Tr)(O':List (Nat × Ob))(X':List Lp):Prop :=
 ∀(o:Oper)(f:Fr),f.fre=true->fA P gl ⟨O,f::Y,X⟩ o=some (g,xs)->DoesN 0 P gl o ⟨O,f::Y,X⟩ (.p r) ⟨O',f::Y,X'⟩
def yiS(P:Program)(gl:Nat->Option (List Tr))(o:Oper)(σ:Sg)(b:Bool)(O:List (Nat × Ob))(X:List Lp):Option (List Prop × V × Sg) :=
 match Js gl σ o,σ.stk with
 | some (i,[.p x]),f::Y=>if f.fre=true then some ([YF P gl σ.obs Y σ.lps i x.weak b O X],.p (.at (.bool b)),⟨O,f::Y,X⟩) else none
 | _,_=>none
def diS(P:Program)(gl:Nat->Option (List Tr))(o:Oper)(σ:Sg)(r:Tr)(O:List (Nat × Ob))(X:List Lp):Option (List Prop × V × Sg) :=
 match fA P gl σ o,σ.stk with
 | some (g,xs),f::Y=>if f.fre=true then some ([CF P gl σ.obs Y σ.lps g xs r O X],.p r,⟨O,f::Y,X⟩) else none
 | _,_=>none
def lkS(P:Program)(gl:Nat->Option (List Tr))(o:Oper)(σ:Sg)(r:Option Nat)(y:V):Option (List Prop × V) :=
 match o.op with
 | .lookup t x h ok=>match evl gl σ x,(evl gl σ h).bind V.toVal,P.underlying t with
  | some x,some kv,some (.map k e)=>match Dr σ x,r,(P.info? e).bind (·.zero) with
   | some es,some i,_=>some ([fnd P k es kv es.isEmpty=some (some i),(es[i]?).map (·.2.1)=some y],match ok with|true=>V.mkTup [y,.p (.at (.bool true))]|false=>y)
   | some es,none,some z=>some ([fnd P k es kv es.isEmpty=some none],match ok with|true=>V.mkTup [.p (.at z),.p (.at (.bool false))]|false=>.p (.at z))
   | _,_,_=>none
  | _,_,_=>none
 | _=>none
def muS(P:Program)(gl:Nat->Option (List Tr))(o:Oper)(σ:Sg):Option (List Prop × V × Sg) :=
 match o.op with
 | .mapUpdate t m k x=>match evl gl σ m,(evl gl σ k).bind V.toVal,evl gl σ x,P.underlying t with
  | some (.ref n),some kv,some x,some (.map kt _)=>match gt σ.obs n with
   | some (.map es cl)=>some ([fnd P kt es kv false=some none],.p (.at undef),⟨pt σ.obs n (.map (es++[(kv,x,cl)]) (cl+1)),σ.stk,σ.lps⟩)
   | _=>none
  | _,_,_,_=>none
 | _=>none
def nuz(z:Bool)(σ:Sg):Nat:=match z with
 | true=>0
 | false=>nx σ.obs
def xSt(P:Program)(gl:Nat->Option (List Tr))(ev:Nat->Code->Sg->List Ch->Option (List Prop × List Ch × Exit × Sg))(z:Bool)(o:Oper)(σ:Sg):Ch->Option (List Prop × V × Sg)
 | .co=>match oJ P gl o σ with
  | some r=>some ([],r)
  | none=>(pV P gl o σ).map fun x=>([],x,σ)
 | .inl ds=>inS P gl ev o σ ds
 | .ap=>apC P gl o σ
 | .cu=>cuS P gl o σ
 | .av b=>avS P gl o σ b
 | .yi b O X=>match z with|true=>yiS P gl o σ b O X|false=>none
 | .di r O X=>match z with|true=>diS P gl o σ r O X|false=>none
 | .lk r y=>(lkS P gl o σ r y).map fun q=>(q.1,q.2,σ)
 | .mu=>muS P gl o σ
 | .ca r=>match caS P gl o σ r with
  | some (ps,x)=>some (ps,x,σ)
  | none=>cfS P gl o σ r
 | it=>(qS P gl o σ it).map fun r=>(r.1,r.2,σ)
def gdS(G:List Nat)(ops:Array Oper)(σ:Sg)(o:Oper)(ds:List Ch):Option (List Prop × List Ch × Bool) :=
 match o.guard with
 | none=>some ([],ds,true)
 | some (j,want)=>match (((ops[j]?).bind (·.dst)).bind (gt σ.cur.l)).bind V.toVal with
  | some (.bool b')=>match G.contains j,ds with
   | true,ds=>some ([],ds,b'==want)
   | false,.br b::ds=>some ([b'=b],ds,b==want)
   | _,_=>none
  | some _=>some ([],ds,false)
  | none=>none
def LE(ops:Array Oper)(T:List (Nat × V))(o:Oper)(b:Bool):List (Nat × V) :=
 match o.guard with
 | none=>T
 | some (j,want)=>match (ops[j]?).bind (·.dst) with
  | some d=>match (gt T d).bind V.toVal with
   | some (.bool _)=>ptm T d (.p (.at (.bool (bif b then want else !want))))
   | _=>T
  | none=>T
def gds(G:List Nat)(o:Oper):List Nat:=match o.guard with|none=>G|some (j,_)=>j::G
def itS(P:Program)(o:Oper)(ds:List Ch):Option (Option Ch × List Ch) :=
 match o.op,ds with
 | .load _ _,.ld y::ds=>some (some (.ld y),ds)
 | .mapUpdate ..,.mu::ds=>some (some .mu,ds)
 | _,ds=>match asks P o,ds with
  | false,ds=>some (none,ds)
  | true,it::ds=>some (some it,ds)
  | true,[]=>none
def wL(P:Program)(gl:Nat->Option (List Tr))(ev:Nat->Code->Sg->List Ch->Option (List Prop × List Ch × Exit × Sg))(z:Bool)(ops:Array Oper):List Oper->Sg->List Ch->Option (List Prop × List Ch × Sg)
 | [],σ,ds=>some ([],ds,σ)
 | o::l,σ,ds=>match gdS [] ops σ o ds with
  | some (ps,ds,true)=>match itS P o ds with
   | some (none,ds)=>match stF P gl noP noE noH o σ with
    | some (x,σ')=>match σ'.put o.dst x with
     | some τ=>match wL P gl ev z ops l τ ds with
      | some (qs,r)=>some (ps++qs,r)
      | none=>none
     | none=>none
    | none=>none
   | some (some it,ds)=>match xSt P gl ev z o σ it with
    | some (rs,x,σ')=>match σ'.put o.dst x with
     | some τ=>match wL P gl ev z ops l τ ds with
      | some (qs,r)=>some (ps++(rs++qs),r)
      | none=>none
     | none=>none
    | none=>none
   | none=>none
  | some (ps,ds,false)=>match σ.put o.dst (.p (.at undef)) with
   | some τ=>match wL P gl ev z ops l τ ds with
    | some (qs,r)=>some (ps++qs,r)
    | none=>none
   | none=>none
  | none=>none
def thS(k:Sg->List Ch->Option (List Prop × List Ch × Exit × Sg)):Option (List Prop × List Ch × Exit × Sg)->Option (List Prop × List Ch × Exit × Sg)
 | some (ps,ds,.normal,τ)=>match k τ ds with
  | some (qs,r)=>some (ps++qs,r)
  | none=>none
 | r=>r
def blS(id:Nat):Option (List Prop × List Ch × Exit × Sg)->Option (List Prop × List Ch × Exit × Sg)
 | some (ps,ds,.exit id',τ)=>if id'=id then some (ps,ds,.normal,τ) else some (ps,ds,.exit id',τ)
 | r=>r
def cdS(ev:Code->Sg->List Ch->Option (List Prop × List Ch × Exit × Sg))(x y:Code)(σ:Sg):Option Bool->List Ch->Option (List Prop × List Ch × Exit × Sg)
 | some c,.br true::ds=>match ev x σ ds with
  | some (ps,r)=>some ((c=true)::ps,r)
  | none=>none
 | some c,.br false::ds=>match ev y σ ds with
  | some (ps,r)=>some ((c=false)::ps,r)
  | none=>none
 | _,_=>none
def onl:List (List Nat)->List Fr->List Fr
 | ts::r,f::l=>{ f with l:=f.l.filter fun x=>ts.contains x.1 }::onl r l
 | _,l=>l
def Sg.onlys(σ:Sg)(ts:List (List Nat)):Sg:=⟨σ.obs,onl ts σ.stk,σ.lps⟩
theorem GO{M:Mem}{w:World}:∀{ts:List (List Nat)}{l:List Fr}{S:List Rf},Stk M w l S->Stk M w (onl ts l) S
 | [],l,S,h=>by cases l<;>exact h
 | _::_,[],S,h=>h
 | ts::r,f::l,[],h=>h.elim
 | ts::r,f::l,T::S,h=>⟨h.1.less rfl (fun s x I=>by
   have I:gt (f.l.filter fun x=>ts.contains x.1) s=some x:=I;rw[gH (fun n=>ts.contains n)]at I
   split at I
   ·exact I
   ·cases I) rfl rfl,GO (ts:=r) h.2⟩
theorem F3:∀(ts:List (List Nat))(l:List Fr),(onl ts l).flatMap (·.ds)=l.flatMap (·.ds)
 | [],l=>by cases l<;>rfl
 | _::_,[]=>rfl
 | ts::r,f::l=>by rw[onl,O8,O8,F3 r l]
theorem Iq{σ:Sg}(ts:List (List Nat)):Le (σ.onlys ts) σ:=⟨fun _ _ h=>h,fun _ _ _ h=>GO h,rfl,F3 ts σ.stk⟩
def LoopP(P:Program)(gl:Nat->Option (List Tr))(N:Nat)(c:Code)(σ:Sg)(e:Exit)(τ:Sg):Prop:=LWN P gl N c (fun e' τ'=>e'=e/\τ'=τ) σ
def V.pur:V->V
 | .p t=>.p t
 | _=>.junk
def Fr.pur(f:Fr):Fr:=⟨f.n,f.l.map fun x=>(x.1,x.2.pur),none,[]⟩
def V.fz1(τ:Sg)(x:V):V:=match x.frz true τ with
 | some t=>.p t
 | none=>.junk
def Fr.fz1(τ:Sg)(f:Fr):Fr:=⟨f.n,f.l.map fun x=>(x.1,x.2.fz1 τ),none,[]⟩
theorem AWN.sg{gl:Nat->Option (List Tr)}{f g:Fr}{Y:List Fr}{τ:Sg}(hf:f.rd=none)(hd:f.ds=[])(h:AWN P gl 0 c (fun e' τ'=>e'=e/\τ'=τ) ⟨[],[f.pur],[]⟩)(hτ:τ.stk=[g])(hg:g.rd=none)(i':g.ds=[]):AWN P gl N c (fun e' τ'=>e'=e/\τ'=⟨O,g.fz1 τ::Y,X⟩) ⟨O,f::Y,X⟩:=fun n0 M w S a ρ n hN hs=>by
 have c':=hs.stk.1;have hρ:ρ=none:=by have:=c'.rd;rw[hf]at this;exact this
 have hD:a.defers=[]:=by have:=c'.ds;rw[hd]at this;exact this
 have h0:SR gl w.heap.size ⟨M.F,fun _=>undef,fun _=>0,fun _=>0,fun _=>0,0⟩ w ⟨[],[f.pur],[]⟩ [rf a ρ] :=
  ⟨OI _,fun n x h=>(by cases h),fun m n x y g _ h=>(by cases h),⟨⟨⟨c'.tm.1,fun t x Z=>(by
   rw[Fr.pur,vm]at Z
   cases hy:gt f.l t with
   | none=>rw[hy]at Z;cases Z
   | some y =>
    rw[hy]at Z;obtain⟨v,h1,h2⟩:=c'.tm.2 t y hy;refine⟨v,h1,?_⟩;have Z:y.pur=x:=jQ Z;subst Z
    cases h2 with
    | p t v h=>exact .p t v h
    | _=>exact .junk _)⟩,hρ,fun i hi=>(by cases hi),hD,fun i hi=>(by cases hi),fun i hi=>(by cases hi)⟩,trivial⟩,hs.gls,rfl,fun i lp h=>by simp at h,by simp[Fr.pur],fun i j h=>by cases h⟩
 refine Qv (h w.heap.size _ w [] a ρ n (OO _) h0) ?_;rintro e' a' w' ⟨M',τ',b1,b2,b3,rfl,rfl⟩;obtain⟨L,hL⟩:=xQ τ';obtain⟨F,d'⟩:∃F:Nat->Nat,F=fun b=>if b<w.heap.size then M.F b else M'.F b+L:=⟨_,rfl⟩
 have f':∀b,b<w.heap.size->F b=M.F b:=fun b hb=>by rw[d'];exact OG hb
 have k':∀b,M'.F b<=F b:=fun b=>by
  rw[d']
  by_cases hb:b<w.heap.size
  ·simp only[OG hb,b2.lo b hb,OI]
  ·simp only[OF hb];omega
 have I:=b3.stk;rw[hτ]at I;have I:=I.1;have J:=hs.grow b1 F f';refine⟨{ M with F:=F },⟨O,g.fz1 τ'::Y,X⟩,b1.mono hs.size,(Ff.grow b1 f' hs.size).lower hN,⟨J.size,J.ob,J.apart,⟨⟨⟨I.tm.1,fun t x Z=>?_⟩,hρ,fun i hi=>(by cases hi),?_,fun i hi=>(by cases hi),fun i hi=>(by cases hi)⟩,J.stk.2⟩,J.gls,J.nl,J.lps,?_,J.sep⟩,rfl,rfl⟩
 ·rw[Fr.fz1,vm]at Z
  cases hy:gt g.l t with
  | none=>rw[hy]at Z;cases Z
  | some y =>
   rw[hy]at Z;have Z:y.fz1 τ'=x:=jQ Z;subst Z;obtain⟨v,h1,h2⟩:=I.tm.2 t y hy;refine⟨v,h1,?_⟩;unfold V.fz1
   split
   ·rename_i t' ht
    refine .p _ _ (vK b3 k' h2 ht fun m ob g' _ h' j'=>?_);rw[d'];have:=(b3.ob m ob h').lt j';simp only[OF (Nat.not_lt.2 this.2)];have:=hL m ob h';omega
   ·exact .junk _
 ·have:=I.ds;rw[i']at this;exact this
 ·have:=J.nd
  simpa [hd,Fr.fz1] using this
def sgS(ev:Nat->Code->Sg->List Ch->Option (List Prop × List Ch × Exit × Sg))(c:Code)(σ:Sg)(ds d:List Ch):Option (List Prop × List Ch × Exit × Sg) :=
 match σ.stk with
 | f::Y=>match f.rd,f.ds,ev 0 c ⟨[],[f.pur],[]⟩ d with
  | none,[],some (ps,_,e,τ)=>match τ.stk with
   | [g]=>match g.rd,g.ds with
    | none,[]=>some (ps,ds,e,⟨σ.obs,g.fz1 τ::Y,σ.lps⟩)
    | _,_=>none
   | _=>none
  | _,_,_=>none
 | _=>none
def tnS(ev:Nat->Code->Sg->List Ch->Option (List Prop × List Ch × Exit × Sg))(N:Nat)(c:Code)(σ:Sg)(ds:List Ch)(l:List Tn):Option (List Prop × List Ch × Exit × Sg) :=
 match l.all (Tn.ok N) with
 | true=>ev N c (σ.tns l) ds
 | false=>none
def lpS(P:Program)(gl:Nat->Option (List Tr))(N:Nat)(ev:Code->Sg->List Ch->Option (List Prop × List Ch × Exit × Sg))(c:Code)(σ:Sg):List Ch->Option (List Prop × List Ch × Exit × Sg)
 | .lo ts e τ::ds=>some ([LoopP P gl N c (σ.only ts) e τ],ds,e,τ)
 | .lf ts e τ::ds=>some ([LoopP P gl N c (σ.onlys ts) e τ],ds,e,τ)
 | .co::ds=>thS (ev (.loop c)) (ev c σ ds)
 | _=>none
def nrS:Option (List Prop × List Ch × Sg)->Option (List Prop × List Ch × Exit × Sg)
 | some (ps,ds,τ)=>some (ps,ds,.normal,τ)
 | none=>none
def qqS(P:Program)(gl:Nat->Option (List Tr))(o:Oper)(σ:Sg):Option Ch->Option (List Prop × V)
 | none=>(pV P gl o σ).map fun x=>([],x)
 | some .co=>(pV P gl o σ).map fun x=>([],x)
 | some it=>qS P gl o σ it
def xxS(P:Program)(gl:Nat->Option (List Tr))(ev:Nat->Code->Sg->List Ch->Option (List Prop × List Ch × Exit × Sg))(z:Bool)(o:Oper)(σ:Sg):Option Ch->Option (List Prop × V × Sg)
 | none=>coS (stF P gl noP noE noH o σ)
 | some it=>xSt P gl ev z o σ it
def cnS(ps:List Prop)(r:Rc × Option Ch):Option (List Prop × List Ch × List (Rc × Option Ch) × List (Nat × V) × Sg)->Option (List Prop × List Ch × List (Rc × Option Ch) × List (Nat × V) × Sg)
 | some (qs,ds,rs,z)=>some (ps++qs,ds,r::rs,z)
 | none=>none
def trS(P:Program)(gl:Nat->Option (List Tr))(ev:Nat->Code->Sg->List Ch->Option (List Prop × List Ch × Exit × Sg))(z:Bool)(ops:Array Oper)(n:Nat):List Oper->List Nat->List (Nat × V)->Sg->List Ch->Option (List Prop × List Ch × List (Rc × Option Ch) × List (Nat × V) × Sg)
 | [],_,T,B,ds=>some ([],ds,[],T,B)
 | o::l,G,T,B,ds=>if LK n o.dst=true then match gdS G ops (Lk T B (o.looksAt ops)) o ds with
  | some (ps,ds,true)=>(fun T=>match itS P o ds with
   | some (it,ds)=>match qqS P gl o (Lk T B (o.looksAt ops)) it with
    | some (rs,x)=>if x.lt (nuz z B)=true then cnS (ps++rs) (⟨true,false,x,T,B⟩,it) (trS P gl ev z ops n l (gds G o) (xh T o.dst x) B ds) else none
    | none=>match xxS P gl ev z o (Lk T B (o.looksAt ops)) it with
     | some (rs,x,σ')=>if x.lt (nuz z σ')=true then cnS (ps++rs) (⟨true,true,x,T,B⟩,it) (trS P gl ev z ops n l (gds G o) (xh T o.dst x) σ'.bare ds) else none
     | none=>none
   | none=>none) (LE ops T o true)
  | some (ps,ds,false)=>(fun T=>cnS ps (⟨false,false,.p (.at undef),T,B⟩,none) (trS P gl ev z ops n l (gds G o) (xh T o.dst (.p (.at undef))) B ds)) (LE ops T o false)
  | none=>none
  else none
def own(rs:List Rc)(j c:Nat):Bool:=decide (c<=j)&&(List.range j).all fun i=>decide (i<c) || !cJ rs i
def ckO(P:Program)(gl:Nat->Option (List Tr))(z:Bool)(ops:Array Oper)(rs:List Rc)(h:List (Option Ch))(I:Sg)(q:Nat × Nat):Option (List Prop) :=
 match lF (cJ rs) q.2&&inr ops (cJ rs) q.2 q.1&&!own rs q.1 q.2 with
 | false=>some []
 | true=>match ops[q.1]?,rs[q.1]?,h[q.1]? with
  | some o,some r,some it=>match qqS P gl o (Lk r.T (fB rs I q.2) (o.looksAt ops)) it with
   | some (ps,y)=>if r.x.lt (nuz z (fB rs I q.2))=true then some ((y=r.x)::ps) else none
   | none=>none
  | _,_,_=>none
def ckL(k:Nat × Nat->Option (List Prop)):List (Nat × Nat)->Option (List Prop)
 | []=>some []
 | q::l=>match k q,ckL k l with
  | some ps,some qs=>some (ps++qs)
  | _,_=>none
def prs(ops:Array Oper)(rs:List Rc):List (Nat × Nat) :=
 (frp ops).flatMap fun q=>match cJ rs q.1,cJ rs q.2 with
  | true,false=>(List.range (ops.size+1)).map fun c=>(q.2,c)
  | false,true=>(List.range (ops.size+1)).map fun c=>(q.1,c)
  | _,_=>[]
def rgS(P:Program)(gl:Nat->Option (List Tr))(ev:Nat->Code->Sg->List Ch->Option (List Prop × List Ch × Exit × Sg))(z:Bool)(ops:Array Oper)(σ:Sg)(ds:List Ch):Option (List Prop × List Ch × Sg) :=
 match trS P gl ev z ops σ.cur.n ops.toList [] σ.cur.l σ.bare ds with
 | some (ps,ds',R,Tn,Bn)=>match okF ops (cJ (R.map (·.1)))&&(σ.cur.l.all fun x=>x.2.lt (nuz z σ)),ckL (ckO P gl z ops (R.map (·.1)) (R.map (·.2)) Bn) ((prs ops (R.map (·.1))).filter fun q=>fkd (R.map (·.1)) q.1) with
  | true,some qs=>some (ps++qs,ds',Bn.wl Tn)
  | _,_=>none
 | none=>none
structure Ce where
 m:Nat
 C:List (Nat × Bool)
 v:V
def dX(bv:List (Nat × Bool))(C:List (Nat × Bool)):Bool:=C.all fun q=>(gt bv q.1).getD false==q.2
def iO(bv:List (Nat × Bool))(E:List (Nat × Ce)):List (Nat × V):=E.map fun x=>(x.1,if dX bv x.2.C=true then x.2.v else .p (.at undef))
def oX(C:List (Nat × Bool))(E:List (Nat × Ce)):List (Nat × V):=E.map fun x=>(x.1,if (x.2.C.all fun q=>C.contains q)=true then x.2.v else .junk)
def isB:V->Option Bool
 | .p (.at (.bool b))=>some b
 | _=>none
def chS(ops:Array Oper)(E:List (Nat × Ce))(o:Oper):Option (List (Nat × Bool)) :=
 match o.guard with
 | none=>some []
 | some (j,w)=>match ((ops[j]?).bind (·.dst)).bind (gt E) with
  | some e=>if e.m=j/\j<ops.size/\(isB e.v).isSome=true then some ((j,w)::e.C) else none
  | none=>none
def mgV(c:Bool):V->V->Option V
 | .p (.at (.bool a)),.p (.at (.bool b))=>some (.p (.at (.bool (bif c then a else b))))
 | .p (.at (.int k a)),.p (.at (.int k' b))=>if k=k' then some (.p (.at (.int k (bif c then a else b)))) else none
 | _,_=>none
def Jr(n:Nat)(E:List (Nat × Ce))(c:Operand)(b:Bool)(C:List (Nat × Bool)):List (Nat × Bool) :=
 match c with
 | .tmp s=>match gt E s with
  | some e=>if e.m<n then (e.m,b)::C else C
  | none=>C
 | _=>C
def pkG(gl:Nat->Option (List Tr))(n:Nat)(σ:Sg)(E:List (Nat × Ce))(C:List (Nat × Bool))(c x y:Operand):Option V :=
 match (evl gl (σ.wl (oX C E)) c).bind isB,evl gl (σ.wl (oX (Jr n E c true C) E)) x,evl gl (σ.wl (oX (Jr n E c false C) E)) y with
 | some b,some x,some y=>mgV b x y
 | _,_,_=>none
def opG(P:Program)(gl:Nat->Option (List Tr))(n:Nat)(σ:Sg)(E:List (Nat × Ce))(C:List (Nat × Bool))(o:Oper)(ds:List Ch):Option (List Prop × List Ch × V) :=
 match o.op with
 | .pick c x y=>(pkG gl n σ E C c x y).map fun v=>([],ds,v)
 | _=>match itS P o ds with
  | some (it,ds)=>match qqS P gl o (σ.wl (oX C E)) it with
   | some (ps,v)=>some (ps,ds,v)
   | none=>none
  | none=>none
def bvp(bv:List (Nat × Bool))(i:Nat)(x:V):List (Nat × Bool):=match isB x with|some b=>bv++[(i,b)]|none=>bv
def gR(P:Program)(gl:Nat->Option (List Tr))(ops:Array Oper)(σ:Sg):List Oper->Nat->List (Nat × Bool)->List (Nat × Ce)->List Ch->Option (List Prop × List Ch × List (Nat × Bool) × List (Nat × Ce))
 | [],_,bv,E,ds=>some ([],ds,bv,E)
 | o::l,i,bv,E,ds=>match chS ops E o with
  | some C=>match opG P gl ops.size σ E C o ds,o.dst with
   | some (ps,ds,x),some d=>if d<σ.cur.n then match gR P gl ops σ l (i+1) (bvp bv i x) (pt E d ⟨i,C,x⟩) ds with
     | some (qs,r)=>some (ps++qs,r)
     | none=>none
    else none
   | _,_=>none
  | none=>none
def quK(o:Oper):Bool :=
 match o.op with
 | .alloc ..=>false
 | .box ..=>false
 | .store ..=>false
 | .insert ..=>false
 | .mapUpdate ..=>false
 | .makeMap ..=>false
 | .makeSlice ..=>false
 | _=>o.dst.isSome
def gRs(P:Program)(gl:Nat->Option (List Tr))(ops:Array Oper)(σ:Sg)(ds:List Ch):Option (List Prop × List Ch × Sg) :=
 match gR P gl ops σ ops.toList 0 [] (σ.cur.l.map fun x=>(x.1,⟨ops.size,[],x.2⟩)) ds with
 | some (ps,ds,_,E)=>some (ps,ds,σ.wl (oX [] E))
 | none=>none
def rgX(P:Program)(gl:Nat->Option (List Tr))(ev:Nat->Code->Sg->List Ch->Option (List Prop × List Ch × Exit × Sg))(z:Bool)(ops:Array Oper)(σ:Sg)(ds:List Ch):Option (List Prop × List Ch × Sg) :=
 match (ops.toList.any fun o=>o.guard.isSome)&&ops.toList.all quK with
 | true=>match gRs P gl ops σ ds with
  | some r=>some r
  | none=>wL P gl ev z ops ops.toList σ ds
 | false=>wL P gl ev z ops ops.toList σ ds
def sj(P:Program)(gl:Nat->Option (List Tr))(ev:Nat->Code->Sg->List Ch->Option (List Prop × List Ch × Exit × Sg))(N:Nat)(c:Code)(σ:Sg)(ds:List Ch):Option (List Prop × List Ch × Exit × Sg) :=
 match c with
 | .skip=>some ([],ds,.normal,σ)
 | .label _=>some ([],ds,.normal,σ)
 | .exit id=>some ([],ds,.exit id,σ)
 | .ret=>some ([],ds,.ret,σ)
 | .seq x y=>thS (ev N y) (ev N x σ ds)
 | .cond c x y=>cdS (ev N) x y σ ((evl gl σ c).bind V.bool?) ds
 | .block id c=>match ds with
  | .sg true d::ds=>sgS ev (.block id c) σ ds d
  | ds=>blS id (ev N c σ ds)
 | .loop c=>lpS P gl N (ev N) c σ ds
 | .region r ops false=>match ds with
  | .sg false d::ds=>sgS ev (.region r ops false) σ ds d
  | .tn l::ds=>tnS ev N (.region r ops false) σ ds l
  | ds=>nrS (rgX P gl ev (Nat.beq N 0) ops σ ds)
 | .region r ops true=>match ds with
  | .tn l::ds=>tnS ev N (.region r ops true) σ ds l
  | ds=>match rgS P gl ev false ops σ ds with
   | some r=>nrS (some r)
   | none=>match Nat.beq N 0 with
    | true=>nrS (rgS P gl ev true ops σ ds)
    | false=>none
 | .rangeFunc g ps h I=>match ds with
  | .rf ts e τ::ds=>some ([AWN P gl N (.rangeFunc g ps h I) (fun e' τ'=>e'=e/\τ'=τ) (σ.only ts)],ds,e,τ)
  | _=>none
 | _=>none
def uy(P:Program)(gl:Nat->Option (List Tr)):Nat->Nat->Code->Sg->List Ch->Option (List Prop × List Ch × Exit × Sg)
 | 0=>fun _ _ _ _=>none
 | n+1=>sj P gl (uy P gl n)
section
variable {gl:Nat->Option (List Tr)}{n0:Nat}{M M':Mem}{w w':World}{σ σ':Sg}{a:Act}{Q:Exit->Sg->Prop}
variable {ev:Nat->Code->Sg->List Ch->Option (List Prop×List Ch×Exit×Sg)}
def gn(P:Program)(gl:Nat->Option (List Tr))(ev:Nat->Code->Sg->List Ch->Option (List Prop × List Ch × Exit × Sg)):Prop :=
 ∀N c σ ds ps h e τ,ev N c σ ds=some (ps,h,e,τ)->alP ps->AWN P gl N c (fun e' τ'=>e'=e/\τ'=τ) σ
def pj(P:Program)(gl:Nat->Option (List Tr))(ev:Nat->Code->Sg->List Ch->Option (List Prop × List Ch × Exit × Sg)):Prop :=
 ∀N c σ ds ps h e τ,ev N (.loop c) σ ds=some (ps,h,e,τ)->alP ps->LWN P gl N c (fun e' τ'=>e'=e/\τ'=τ) σ
theorem LWN.only(h:LWN P gl N c Q (σ.only ts)):LWN P gl N c Q σ:=fun n0 M w S a ρ n I hs=>h n0 M w S a ρ n I (hs.le (vE ts))
theorem N6{y:Tr}{x:V}(h:elS P gl o σ y=some (ps,x))(hp:alP ps):QDoes P gl o σ x:=by
 unfold elS at h
 split at h
 ·rename_i t xo ix ho
  split at h
  ·rename_i e fl es i J hx Z
   split at h
   ·rename_i ie I
    split at h
    ·rename_i hl
     cases h
     refine (fF ?_).qdoes;unfold eH;rw[ho];simp only[hx,Z];unfold DN;rw[J];simp only[I,hp.1];rw[OG ⟨hp.2.1,hl⟩]
    ·cases h
   ·cases h
  ·rename_i e n i J hx Z
   split at h
   ·rename_i ie e' k es fz I hn
    split at h
    ·rename_i hl
     cases h
     refine (fF ?_).qdoes;unfold eH;rw[ho];simp only[hx,Z];unfold DN;rw[J];simp only[I,hn];rw[OG ⟨hp.2.1,(List.getElem?_eq_some_iff.1 hp.1).1,hl⟩]
    ·cases h
   ·cases h
  ·rename_i len e cs i J hx Z
   split at h
   ·rename_i ie I
    cases h
    refine (fF ?_).qdoes;unfold eH;rw[ho];simp only[hx,Z];unfold DN;rw[J];simp only[I];rw[OG ⟨hp.2.1,hp.2.2.1⟩,vU,hp.1]
   ·cases h
  ·cases h
 ·cases h
theorem MO{y:Tr}{x:V}(h:ldS P gl o σ y=some (ps,x))(hp:alP ps):QDoes P gl o σ x:=by
 unfold ldS at h
 split at h
 ·rename_i t xo J
  split at h
  ·rename_i n i c Z
   split at h
   ·rename_i e k es fz hn
    cases I:eQ P t ((y.cells.drop c).map .p) with
    | none=>rw[I]at h;cases h
    | some v =>
     rw[I]at h;cases h;refine (fF ?_).qdoes;unfold eH;rw[J];simp only[Z,OY,look,hn,hp.1,PD,I]
   ·cases h
  ·cases h
 ·cases h
theorem Om{x:V}(h:pkS gl o σ b=some (ps,x))(hp:alP ps):QDoes P gl o σ x:=by
 unfold pkS at h
 split at h
 ·rename_i c xo yo J
  split at h
  ·rename_i Z xv yv hc hx hy
   cases h
   have I:Z=b:=hp.1;subst I;refine (fF (P:=P) (gl:=gl) ?_).qdoes;unfold eH;rw[J];simp only[hc,hx,hy]
  ·cases h
 ·cases h
theorem Il{r:Tr}{x:V}(h:caS P gl o σ r=some (ps,x))(hp:alP ps):QDoes P gl o σ x:=by
 unfold caS at h
 split at h
 ·rename_i f xs I
  split at h
  ·rename_i ts hu
   have:=V.unp_eq hu;subst this
   cases h
   exact nM I hp.1
  ·split at h
   ·rename_i ts hf
    split at h
    ·rename_i hs;cases h;exact nL I hf hp.1 hs
    ·cases h
   ·cases h
 ·cases h
theorem Mh{x:V}(h:vbS P gl o σ b=some (ps,x))(hp:alP ps):QDoes P gl o σ x:=by
 unfold vbS at h
 split at h
 ·rename_i op t xo yo tx Z
  split at h
  ·rename_i u v hu hv
   split at h
   ·rename_i g J
    cases h
    refine Quiet.qdoes fun n0 M w S a ρ hs=>?_
    have ev:∀{z:Operand}{r:Value},(evl gl σ z).bind V.toVal=some r->a.eval z=r:=fun {z r} hz=>by
     cases he:evl gl σ z with
     | none=>rw[he]at hz;cases hz
     | some q=>rw[he,OY]at hz;exact dJ (aH hs he) hz
    have I:=hp.1 w;refine⟨.bool b,?_,.p _ _ (.at _)⟩;unfold execOp;simp[Z,ev hu,ev hv,I,gS J w]
   ·cases h
  ·cases h
 ·cases h
theorem Rp.weak{w:World}{t:Tr}(h:Rp F w t v):Rp F w t.weak v:=by
 cases h with
 | nil a c hm=>exact .nil a c hm
 | lst full es A o cap k g hk hc I h hf hle hm=>exact .lst false es A o cap k g hk hc I h (fun e=>by cases e) hle hm
 | «at» v=>exact .at v
 | agg cs vs J h=>exact .agg cs vs J h
 | tup cs vs J h=>exact .tup cs vs J h
 | elp cs A o g hc I h=>exact .elp cs A o g hc I h
 | fn f a b va vb Z a' ha hb=>exact .fn f a b va vb Z a' ha hb
theorem NB{x:V}(h:slS P gl o σ=some (ps,x))(hp:alP ps):QDoes P gl o σ x:=by
 unfold slS at h
 split at h
 ·rename_i t y lo hi ho
  split at h
  ·rename_i fl es l J e hy hl a' ht
   split at h
   ·rename_i i c'
    cases h
    obtain⟨c1,c2,c3,c4,-⟩:=hp;have hs:slc P t (.lst fl es) l J=some (if l.getD 0=J.getD es.length then .lst false [] else .lst (fl&&J.getD es.length==es.length) ((es.drop (l.getD 0).toNat).take (J.getD es.length-l.getD 0).toNat)):=by
     unfold slc;rw[ht];simp only[rX,c'];rw[OG ⟨c1,c2,c3,c4⟩];rfl
    refine Quiet.qdoes fun n0 M w S a ρ I=>?_
    cases aH I hy with
    | p _ _ hu =>
     obtain⟨q,h1,Z⟩:=AT hs hu (km I hl) (km I a');refine⟨q,by unfold execOp;simp[ho,h1],.p _ _ ?_⟩;rw[N2 c1]
     split at Z
     ·rename_i he
      rw[he,Int.sub_self];exact Z
     ·exact Z.weak
   ·cases h
  ·cases h
 ·cases h
theorem L9{it:Ch}{x:V}(h:qS P gl o σ it=some (ps,x))(hp:alP ps):QDoes P gl o σ x:=by
 cases it with
 | ca r=>exact Il h hp
 | br b=>exact Om h hp
 | el y=>exact N6 h hp
 | vb b=>exact Mh h hp
 | sl=>exact NB h hp
 | ld y=>exact MO h hp
 | vw=>exact Na h (vL hp)
 | _=>cases h
theorem Ml{r:Tr}{x:V}(h:cfS P gl o σ r=some (ps,x,σ'))(hp:alP ps):Does P gl o σ x σ':=by
 unfold cfS at h
 split at h
 ·rename_i f xs I
  split at h
  ·rename_i ts hf;cases h;exact yG I hf hp.1
  ·cases h
 ·cases h
theorem OA(Z:gn P gl ev){ds:List Ch}{x:V}(h:inS P gl ev o σ ds=some (ps,x,σ'))(hp:alP ps):Does P gl o σ x σ':=by
 unfold inS at h
 split at h
 ·rename_i f xs hc
  split at h
  ·rename_i fn hf
   split at h
   ·rename_i c I
    split at h
    ·rename_i qs J e τ he
     split at h
     ·rename_i hk
      cases hr:fD P τ fn with
      | none=>rw[hr]at h;cases h
      | some y =>
       rw[hr]at h;cases h;refine (nX hc hf I ((Z _ _ _ _ _ _ _ _ he hp).mono ?_)).does;rintro e' τ' ⟨rfl,rfl⟩;refine⟨?_,hr,rfl⟩
       cases e'<;>first|exact .inl rfl|exact .inr rfl|cases hk
     ·cases h
    ·cases h
   ·cases h
  ·cases h
 ·cases h
theorem Tr.weak_cells(t:Tr):(t.weak).cells=t.cells.map Tr.weak\/(t.weak).cells=t.cells:=by
 cases t with
 | lst f es=>exact .inl rfl
 | _=>exact .inr rfl
theorem Ez(es ys:List Tr):(aO (es++ys.map Tr.weak)).length=(aO (es++ys)).length/\∀(j:Nat)(t:Tr),(aO (es++ys.map Tr.weak))[j]?=some t->∃I,(aO (es++ys))[j]?=some I/\(t=I\/t=I.weak):=by
 have base:∀ys:List Tr,(aO (ys.map Tr.weak)).length=(aO ys).length/\∀(j:Nat)(t:Tr),(aO (ys.map Tr.weak))[j]?=some t->∃I,(aO ys)[j]?=some I/\(t=I\/t=I.weak):=by
  intro ys
  induction ys with
  | nil=>exact⟨rfl,fun j t h=>by simp at h⟩
  | cons y l Z =>
   have hl:(y.weak).cells.length=y.cells.length:=by rcases y.weak_cells with e|e<;>rw[e];simp
   simp only[aO,OU,O8]at Z ⊢;refine⟨by rw[OM,OM,hl,Z.1],fun j t h=>?_⟩;rw[Rk]at h ⊢;rw[hl]at h
   split at h
   ·rename_i J
    rw[OG J];rcases y.weak_cells with e|e
    ·rw[e,OQ]at h
     cases hg:y.cells[j]? with
     | none=>rw[hg]at h;cases h
     | some I=>rw[hg]at h;exact⟨I,rfl,.inr (jQ h.symm)⟩
    ·rw[e]at h;exact⟨t,h,.inl rfl⟩
   ·rename_i J;rw[OF J];exact Z.2 _ t h
 obtain⟨b1,b2⟩:=base ys;simp only[aO,QD]at b1 b2 ⊢;refine⟨by rw[OM,OM,b1],fun j t h=>?_⟩;rw[Rk]at h ⊢
 split at h
 ·rename_i J;rw[OG J];exact⟨t,h,.inl rfl⟩
 ·rename_i J;rw[OF J];exact b2 _ t h
theorem Gz{n:Nat}{e:TypeId}{es ys:List Tr}{fz:Bool}(h:ObOk n0 M w n (.row e k (es++ys) fz)):ObOk n0 M w n (.row e k (es++ys.map Tr.weak) fz):=by
 obtain⟨h1,h2,xs,h3,h4,h5,h6,h7⟩:=h;obtain⟨f1,f2⟩:=Ez es ys;have hl:(es++ys.map Tr.weak).length=(es++ys).length:=by simp
 have a':∀t:Tr,(t.weak).cell=t.cell:=fun t=>by cases t<;>rfl
 refine⟨h1,h2,xs,by rw[hl];exact h3,fun t I=>?_,fun t I=>?_,fun j t u I hu=>?_,fun g hg=>by rw[hl];exact h7 g hg⟩
 ·rcases List.mem_append.1 I with I|I
  ·exact h4 t (Rl _ I)
  ·obtain⟨y,hy,rfl⟩:=List.mem_map.1 I;rw[<-h4 y (Q0 _ hy)];rcases y.weak_cells with e|e<;>rw[e];simp
 ·obtain⟨j,hj⟩:=List.mem_iff_getElem?.1 I;obtain⟨t',Z,J⟩:=f2 j t hj;have:=h5 t' (Pb Z);rcases J with rfl|rfl
  ·exact this
  ·rw[a'];exact this
 ·obtain⟨t',Z,J⟩:=f2 j t I;have:=h6 j t' u Z hu;rcases J with rfl|rfl
  ·exact this
  ·exact this.weak
theorem pt_pt(l:List (Nat × α))(n:Nat)(x y:α):pt (pt l n x) n y=pt l n y:=by
 induction l with
 | nil=>simp[pt]
 | cons z l I =>
  by_cases h:z.1=n
  ·simp[pt,h]
  ·simp[pt,h,I]
theorem pM{τ:Sg}{n:Nat}{e:TypeId}{es ys:List Tr}{x:V}(h:Does P gl o σ x (τ.new n (.row e k (es++ys) false))):Does P gl o σ x (τ.new n (.row e k (es++ys.map Tr.weak) false)):=fun n0 M w S a ρ hs K Q m hk =>
 h n0 M w S a ρ hs K Q m fun M' u w' h1 Z J h4=>hk M' u w' h1 (by
  have:nx (τ.new n (.row e k (es++ys) false)).obs=nx (τ.new n (.row e k (es++ys.map Tr.weak) false)).obs:=by simp only[Sg.new,lx]
  rw[<-this];exact Z) (by
  have I:gt (τ.new n (.row e k (es++ys) false)).obs n=some (.row e k (es++ys) false):=by simp only[Sg.new,gz];simp
  have:=J.ob_as I (Gz (J.ob n _ I));simp only[Sg.new,pt_pt]at this;exact this) h4
theorem NQ{x:V}(h:apC P gl o σ=some (ps,x,σ'))(hp:alP ps):Does P gl o σ x σ':=by
 unfold apC at h
 split at h
 ·rename_i c ho
  split at h
  ·rename_i s y t t' h1 h2 h3
   split at h
   ·rename_i a'
    split at h
    ·rename_i d src e hd hs he
     have key:∀{σ1:Sg},app P σ t d src=some (x,σ1)->Does P gl o σ x σ1:=fun {σ1} ha=>by
      refine (iS ?_).does;unfold oJ lw;rw[ho];simp only[h1,h2,h3,OG a',hd,hs,ha]
     split at h
     ·rename_i i ys hi hy
      split at h
      ·rename_i z Z
       split at h
       ·rename_i I
        split at h
        ·cases h
         refine pM (key ?_);unfold app;rw[he];simp only[hi,hy,Z];rw[OG ⟨I.1,I.2,hp.1⟩];exact OG ⟨hp.2.1,hp.2.2.1⟩
        ·rename_i es
         cases h
         refine pM (key ?_);unfold app;rw[he];simp only[hi,hy,Z];rw[OG ⟨I.1,I.2,hp.1⟩];simp only[hp.2.2.2.1];rw[OF jS,OG ⟨trivial,hp.2.2.2.2.1⟩,OG ⟨hp.2.1,hp.2.2.1⟩]
        ·rename_i n
         split at h
         ·rename_i e' k es hn
          split at h
          ·rename_i J
           cases h
           refine pM (key ?_);unfold app;rw[he];simp only[hi,hy,Z];rw[OG ⟨I.1,I.2,hp.1⟩];simp only[hn];rw[OG J,OG ⟨hp.2.1,hp.2.2.1⟩]
          ·cases h
         ·cases h
        ·cases h
       ·cases h
      ·cases h
     ·cases h
    ·cases h
   ·cases h
  ·cases h
 ·cases h
theorem Mj{y:V}{x:V}(h:lkS P gl o σ r y=some (ps,x))(hp:alP ps):Does P gl o σ x σ:=by
 unfold lkS at h
 split at h
 ·rename_i t xo ix ok ho
  split at h
  ·rename_i xv kv k e hx hk Z
   cases J:evl gl σ ix with
   | none=>rw[J]at hk;cases hk
   | some iv =>
    rw[J,OY]at hk
    split at h
    ·rename_i es i hm
     cases h
     obtain⟨h1,I,-⟩:=hp;refine (iS ?_).does;unfold oJ lw;rw[ho];simp only[hx,J];unfold lkp;simp only[Z,hm,hk,h1]
     cases he:es[i]? with
     | none=>rw[he]at I;cases I
     | some z=>rw[he]at I;cases I;cases ok<;>rfl
    ·rename_i es z hm hz
     cases h
     refine (iS ?_).does;unfold oJ lw;rw[ho];simp only[hx,J];unfold lkp;simp only[Z,hm,hk,hp.1,hz]
     cases ok<;>rfl
    ·cases h
  ·cases h
 ·cases h
theorem MK{x:V}(h:muS P gl o σ=some (ps,x,σ'))(hp:alP ps):Does P gl o σ x σ':=by
 unfold muS at h
 split at h
 ·rename_i t m k xo ho
  split at h
  ·rename_i n kv xv kt et hm hk hx J
   cases I:evl gl σ k with
   | none=>rw[I]at hk;cases hk
   | some iv =>
    rw[I,OY]at hk
    split at h
    ·rename_i es cl Z
     cases h
     refine (iS ?_).does;unfold oJ lw;rw[ho];simp only[hm,I,hx];unfold mup;simp only[J,hk,Z,hp.1]
    ·cases h
  ·cases h
 ·cases h
theorem Ma(hv:gn P gl ev){it:Ch}{x:V}(h:xSt P gl ev z o σ it=some (ps,x,σ'))(hp:alP ps):DoesN (nuz z σ) P gl o σ x σ':=by
 have q:∀it,(qS P gl o σ it).map (fun r=>(r.1,r.2,σ))=some (ps,x,σ')->DoesN (nuz z σ) P gl o σ x σ':=fun it h=>by
  cases hq:qS P gl o σ it with
  | none=>rw[hq]at h;cases h
  | some r=>obtain⟨rs,y⟩:=r;rw[hq]at h;cases h;exact (L9 hq hp).does.n
 cases it with
 | co =>
  simp only[xSt]at h
  split at h
  ·rename_i r hr;cases h;exact (iS hr).does.n
  ·cases hq:pV P gl o σ with
   | none=>rw[hq]at h;cases h
   | some y=>rw[hq]at h;cases h;exact (pa hq).does.n
 | inl ds=>exact (OA hv h hp).n
 | ap=>exact (NQ h hp).n
 | cu=>exact (NL h (vL hp)).n
 | av b=>exact (NC h (vL hp)).n
 | yi b O X =>
  cases z with
  | false=>cases h
  | true =>
   simp only[xSt,yiS]at h
   split at h
   ·rename_i i y f Y hy hs
    split at h
    ·rename_i hf
     obtain⟨J,Z,I⟩:=σ
     cases hs
     cases h
     exact hp.1 o f _ rfl hf hy
    ·cases h
   ·cases h
 | di r O X =>
  cases z with
  | false=>cases h
  | true =>
   simp only[xSt,diS]at h
   split at h
   ·rename_i g xs f Y hy hs
    split at h
    ·rename_i hf
     obtain⟨J,Z,I⟩:=σ
     cases hs
     cases h
     exact hp.1 o f hf hy
    ·cases h
   ·cases h
 | rf ts e τ=>simp only[xSt]at h;exact q _ h
 | sg b ds=>simp only[xSt]at h;exact q _ h
 | tn l=>simp only[xSt]at h;exact q _ h
 | lk r y =>
  simp only[xSt]at h
  cases hq:lkS P gl o σ r y with
  | none=>rw[hq]at h;cases h
  | some z=>obtain⟨rs,v⟩:=z;rw[hq]at h;cases h;exact (Mj hq hp).n
 | mu=>exact (MK h hp).n
 | ca r =>
  simp only[xSt]at h
  split at h
  ·rename_i rs y hq;cases h;exact (Il hq hp).does.n
  ·exact (Ml h hp).n
 | br b=>simp only[xSt]at h;exact q _ h
 | el y=>simp only[xSt]at h;exact q _ h
 | vb b=>simp only[xSt]at h;exact q _ h
 | sl=>simp only[xSt]at h;exact q _ h
 | ld y=>simp only[xSt]at h;exact q _ h
 | vw=>simp only[xSt]at h;exact q _ h
 | lo ts e τ=>simp only[xSt]at h;exact q _ h
 | lf ts e τ=>simp only[xSt]at h;exact q _ h
theorem kz{ds a':List Ch}(h:gdS G ops σ o ds=some (ps,a',b))(hp:alP ps):iw ops σ o=some b /\
  ∀j want b',o.guard=some (j,want)->(((ops[j]?).bind (·.dst)).bind (gt σ.cur.l)).bind V.toVal=some (.bool b')->b'=bif b then want else !want:=by
 unfold gdS at h;unfold iw
 split at h
 ·rename_i hg;cases h;rw[hg];exact⟨rfl,fun j want b' h=>by cases h⟩
 ·rename_i j want hg
  rw[hg];have key:∀{v:Value}{r:Option Bool},(((ops[j]?).bind (·.dst)).bind (gt σ.cur.l)).bind V.toVal=some v->(match v with|.bool b=>some (b==want)|_=>some false:Option Bool)=r ->
    (match ((ops[j]?).bind (·.dst)).bind (gt σ.cur.l) with|some x=>(match x.toVal with|some (.bool b)=>some (b==want)|some _=>some false|none=>none:Option Bool)|none=>none)=r:=fun {v r} I hr=>by
   cases hs:((ops[j]?).bind (·.dst)).bind (gt σ.cur.l) with
   | none=>rw[hs]at I;cases I
   | some x=>rw[hs,OY]at I;simp only[I];rw[<-hr];cases v<;>rfl
  have val:∀{b':Bool},b'=(bif (b'==want) then want else !want):=fun {b'}=>by cases b'<;>cases want<;>rfl
  split at h
  ·rename_i b' I
   split at h
   ·cases h
    exact⟨key I rfl,fun j1 w1 b1 h1 J=>by cases h1;rw[I]at J;cases J;exact val⟩
   ·rename_i b1 c' _
    cases h
    have e:b'=b1:=hp.1;subst e;exact⟨key I rfl,fun j1 w1 b1 h1 J=>by cases h1;rw[I]at J;cases J;exact val⟩
   ·cases h
  ·rename_i v Z I
   cases h
   refine⟨key I ?_,fun j1 w1 b1 h1 J=>by cases h1;rw[I]at J;cases J;exact (Z _ rfl).elim⟩
   cases v<;>first|rfl|exact (Z _ rfl).elim
  ·cases h
theorem KH{l:List (Nat×α)}{x:α}(h:gt l d=some x):pt l d x=l:=by
 induction l with
 | nil=>cases h
 | cons y l I =>
  unfold pt;unfold gt at h
  split at h
  ·rename_i e;cases h;rw[OG e,<-e]
  ·rename_i e;rw[OF e,I h]
theorem Lq{x:V}(h:x.toVal=some (.bool b)):x=.p (.at (.bool b)):=by
 cases x with
 | p t =>
  cases t with
  | «at» v=>simp only[V.toVal,Tr.toVal]at h;cases h;rfl
  | agg cs=>simp only[V.toVal,Tr.toVal]at h;cases hm:Tr.toVals cs<;>rw[hm]at h<;>cases h
  | tup cs=>simp only[V.toVal,Tr.toVal]at h;cases hm:Tr.toVals cs<;>rw[hm]at h<;>cases h
  | fn f a b=>simp only[V.toVal,Tr.toVal]at h;cases hm:Tr.toVals a<;>cases I:Tr.toVals b<;>rw[hm,I]at h<;>cases h
  | _=>simp[V.toVal,Tr.toVal]at h
 | _=>cases h
theorem nw{T:List (Nat×V)}{B:Sg}{ds a':List Ch}(h:gdS G ops (Lk T B ts) o ds=some (ps,a',b))(hp:alP ps):LE ops T o b=T:=by
 have h2:=(kz h hp).2;unfold LE
 split
 ·rfl
 ·rename_i j want hg
  split
  ·rename_i d hd
   split
   ·rename_i b' I
    cases J:gt T d with
    | none=>rw[J]at I;cases I
    | some x =>
     rw[J,OY]at I;have hl:(Lk T B ts).cur.l=T.filter fun x=>ts.contains x.1:=rfl
     have hw:=(kz h hp).1;unfold iw at hw;rw[hg]at hw;simp only[]at hw;have Z:((ops[j]?).bind (·.dst)).bind (gt (Lk T B ts).cur.l)=some x:=by
      rw[hd,OY,hl,gH (fun n=>ts.contains n)]at hw ⊢
      split
      ·exact J
      ·rename_i hn;rw[OF hn]at hw;cases hw
     have h3:=h2 j want b' hg (by rw[Z,OY];exact I);rw[nz,<-h3,<-Lq I,KH J]
   ·rfl
  ·rfl
theorem doesZ{x:V}(h:DoesN (nuz z σ) P gl o σ x σ')(I:z=true->N=0):DoesN N P gl o σ x σ':=by
 cases z with
 | true=>rw[I rfl];exact h
 | false=>exact (DoesN.does h).n
theorem C3:gp P gl noP:=fun _ _ _ h=>by cases h
theorem Cg:fS P gl noE:=fun _ _ _ _ _ h=>by cases h
theorem ph(hv:gn P gl ev):∀{l:List Oper}{σ τ:Sg}{ds J:List Ch}{ps:List Prop},wL P gl ev z ops l σ ds=some (ps,J,τ)->alP ps->(z=true->N=0)->wpR P gl N ops (fun τ'=>τ'=τ) l σ
 | [],σ,τ,ds,J,ps,h,_,_=>by cases h;rfl
 | o::l,σ,τ,ds,J,ps,h,hp,hz=>by
  rw[wL]at h;rw[wpR]
  split at h
  ·rename_i p0 a' hg
   split at h
   ·rename_i ha
    split at h
    ·rename_i x σ' hs
     split at h
     ·rename_i τ1 hput
      split at h
      ·rename_i qs r hr
       cases h
       have I:=eG hp;rw[(kz hg I.1).1];exact⟨x,σ',τ1,(AK C3 Cg hs).n,hput,ph hv hr I.2 hz⟩
      ·cases h
     ·cases h
    ·cases h
   ·rename_i it c' ha
    split at h
    ·rename_i rs x σ' hs
     split at h
     ·rename_i τ1 hput
      split at h
      ·rename_i qs r hr
       cases h
       have I:=eG hp;have Z:=eG I.2;rw[(kz hg I.1).1];exact⟨x,σ',τ1,doesZ (Ma hv hs Z.1) hz,hput,ph hv hr Z.2 hz⟩
      ·cases h
     ·cases h
    ·cases h
   ·cases h
  ·rename_i p0 a' hg
   split at h
   ·rename_i τ1 hput
    split at h
    ·rename_i qs r hr
     cases h
     have I:=eG hp;rw[(kz hg I.1).1];exact⟨τ1,hput,ph hv hr I.2 hz⟩
    ·cases h
   ·cases h
  ·cases h
theorem FY{k:Sg->List Ch->Option (List Prop×List Ch×Exit×Sg)}{r:Option (List Prop×List Ch×Exit×Sg)}{K:Sg->Prop}{J:List Ch}{τ:Sg}(hr:∀ps ds e τ,r=some (ps,ds,e,τ)->alP ps->AWN P gl N c (fun e' τ'=>e'=e/\τ'=τ) σ)(hk:∀τ1 ds qs,k τ1 ds=some (qs,J,e,τ)->alP qs->K τ1)(h:thS k r=some (ps,J,e,τ))(hp:alP ps):AWN P gl N c (thn K fun e' τ'=>e'=e/\τ'=τ) σ:=by
 cases r with
 | none=>cases h
 | some r =>
  obtain⟨p0,d0,Z,τ0⟩:=r
  cases Z with
  | normal =>
   simp only[thS]at h
   split at h
   ·rename_i qs x hq
    cases h
    have I:=eG hp;refine (hr _ _ _ _ rfl I.1).mono ?_;rintro e' τ' ⟨rfl,rfl⟩;exact hk _ _ _ hq I.2
   ·cases h
  | _ =>
   cases h
   refine (hr _ _ _ _ rfl hp).mono ?_;rintro e' τ' ⟨rfl,rfl⟩;exact⟨rfl,rfl⟩
theorem Bg{it:Option Ch}{x:V}(h:qqS P gl o σ it=some (ps,x))(hp:alP ps):QDoes P gl o σ x:=by
 have q:(pV P gl o σ).map (fun x=>(([]:List Prop),x))=some (ps,x)->QDoes P gl o σ x:=fun h=>by
  cases hq:pV P gl o σ with
  | none=>rw[hq]at h;cases h
  | some y=>rw[hq]at h;cases h;exact pa hq
 cases it with
 | none=>exact q h
 | some it=>cases it<;>first|exact q h|(simp only[qqS]at h;exact L9 h hp)
theorem MU(I:gn P gl ev){it:Option Ch}{x:V}(h:xxS P gl ev z o σ it=some (ps,x,σ'))(hp:alP ps):DoesN (nuz z σ) P gl o σ x σ':=by
 cases it with
 | none =>
  simp only[xxS]at h
  cases hs:stF P gl noP noE noH o σ with
  | none=>rw[hs]at h;cases h
  | some r=>rw[hs]at h;cases h;exact (AK C3 Cg hs).n
 | some it=>exact Ma I h hp
def DrOk(P:Program)(gl:Nat->Option (List Tr))(z:Bool)(ops:Array Oper)(n:Nat)(l:List Oper)(T:List (Nat × V))(B:Sg)(rs:List Rc)(Tn:List (Nat × V))(h:Sg):Prop :=
 rs.length=l.length/\fT rs Tn 0=T/\fB rs h 0=B/\(B.cur.l=[]->∀i,(fB rs h i).cur.l=[])/\∀i o,l[i]?=some o->∃r,rs[i]?=some r/\BP P gl (nuz z) ops n o r (fT rs Tn (i+1)) (fB rs h (i+1))
theorem DrOk.cons{n:Nat}{T T' Tn:List (Nat×V)}{B J I:Sg}{r:Rc}(hT:r.T=T)(hB:r.B=B)(hl:B.cur.l=[]->J.cur.l=[])(hr:BP P gl (nuz z) ops n o r T' J)(h:DrOk P gl z ops n l T' J rs Tn I) :
  DrOk P gl z ops n (o::l) T B (r::rs) Tn I:=by
 obtain⟨h1,h2,h3,h4,h5⟩:=h;refine⟨by simp[h1],hT,hB,fun Z i=>?_,fun i o' ho=>?_⟩
 ·cases i with
  | zero=>show r.B.cur.l=[];rw[hB];exact Z
  | succ i=>exact h4 (hl Z) i
 ·cases i with
  | zero =>
   cases ho
   refine⟨r,rfl,?_⟩;have e1:fT (r::rs) Tn (0+1)=fT rs Tn 0:=rfl;have e2:fB (r::rs) I (0+1)=fB rs I 0:=rfl;rw[e1,e2,h2,h3];exact hr
  | succ i=>exact h5 i o' (jQ ho)
theorem Gg(hv:gn P gl ev){n:Nat}:∀{l:List Oper}{G:List Nat}{T:List (Nat × V)}{B:Sg}{ds Z:List Ch}{ps:List Prop}{R:List (Rc × Option Ch)}{Tn:List (Nat × V)}{Bn:Sg},
  trS P gl ev z ops n l G T B ds=some (ps,Z,R,Tn,Bn)->alP ps->DrOk P gl z ops n l T B (R.map (·.1)) Tn Bn
 | [],G,T,B,ds,Z,ps,R,Tn,Bn,h,_=>by cases h;exact⟨rfl,rfl,rfl,fun h i=>by simpa [fB] using h,fun i o h=>by simp at h⟩
 | o::l,G,T,B,ds,Z,ps,R,Tn,Bn,h,hp=>by
  rw[trS]at h
  split at h
  ·rename_i hd
   have d':∀d,o.dst=some d->d<n:=fun d e=>by rw[e]at hd;exact Pe hd
   have go:∀{r:Rc}{it:Option Ch}{q0:List Prop}{T':List (Nat × V)}{B':Sg}{d0:List Ch}{G':List Nat},cnS q0 (r,it) (trS P gl ev z ops n l G' T' B' d0)=some (ps,Z,R,Tn,Bn)->(alP q0->r.T=T)->r.B=B->(B.cur.l=[]->B'.cur.l=[]) ->
     (alP q0->BP P gl (nuz z) ops n o r T' B')->DrOk P gl z ops n (o::l) T B (R.map (·.1)) Tn Bn:=by
    intro r it q0 T' B' d0 G' h hT hB hl hr
    cases he:trS P gl ev z ops n l G' T' B' d0 with
    | none=>rw[he]at h;cases h
    | some q =>
     obtain⟨qs,d1,R',g',f'⟩:=q;rw[he]at h;cases h;have I:=eG hp;exact .cons (hT I.1) hB hl (hr I.1) (Gg hv he I.2)
   split at h
   ·rename_i p0 d0 J
    simp only[]at h
    split at h
    ·rename_i it d1 hit
     split at h
     ·rename_i rs x hq
      split at h
      ·rename_i a'
       refine go h (fun hp=>nw J (eG hp).1) rfl id fun hp=>?_
       have I:=eG hp;have c':=nw J I.1;rw[c']at hq ⊢;exact⟨d',rfl,(kz J I.1).1,fun e=>(by cases e),fun _=>rfl,fun e=>(by cases e),fun _ _=>⟨Bg hq I.2,a'⟩⟩
      ·cases h
     ·split at h
      ·rename_i rs x σ' hs
       split at h
       ·rename_i a'
        refine go h (fun hp=>nw J (eG hp).1) rfl (fun _=>rfl) fun hp=>?_
        have I:=eG hp;have c':=nw J I.1;rw[c']at hs ⊢;exact⟨d',rfl,(kz J I.1).1,fun e=>(by cases e),fun e=>(by cases e),fun _=>⟨rfl,a',σ',MU hv hs I.2,rfl⟩,fun e=>(by cases e)⟩
       ·cases h
      ·cases h
    ·cases h
   ·rename_i p0 d0 J
    refine go h (nw J) rfl id fun hp=>?_
    rw[nw J hp];exact⟨d',rfl,(kz J hp).1,fun _=>⟨rfl,rfl⟩,fun _=>rfl,fun e=>(by cases e),fun _ e=>(by cases e)⟩
   ·cases h
  ·cases h
theorem Fm{k:Nat×Nat->Option (List Prop)}:∀{l:List (Nat × Nat)}{qs:List Prop},ckL k l=some qs->alP qs->∀q∈l,∃ps,k q=some ps/\alP ps
 | [],_,_,_,q,hq=>by cases hq
 | q0::l,qs,h,hp,q,hq=>by
  rw[ckL]at h
  split at h
  ·rename_i ps rs h1 J
   cases h
   have I:=eG hp;rcases List.mem_cons.1 hq with rfl|hq
   ·exact⟨ps,h1,I.1⟩
   ·exact Fm J I.2 q hq
  ·cases h
theorem NU(J:okD ops (cJ rs)=true)(hl:rs.length=ops.size){j c:Nat}(h:lF (cJ rs) c=true)(c':inr ops (cJ rs) c j=true)(hb:cJ rs j=false)(hex:∀m,cJ rs m=true->bef ops ops.size j m=true\/bef ops ops.size m j=true):own rs j c=true:=by
 have size:∀m,cJ rs m=true->m<ops.size:=fun m hm=>by
  rw[<-hl];refine Nat.lt_of_not_le fun hle=>?_
  unfold cJ at hm;rw[PF hle]at hm;cases hm
 have ord:∀m,cJ rs m=true->(m<j/\m<c)\/(j<m/\c<=m):=fun m hm=>by
  have I:=List.all_eq_true.1 c' m (List.mem_range.2 (size m hm));rw[hm]at I;simp only[PH,Rg,ON,Pi,Pj,OW]at I;rcases hex m hm with h2|h1
  ·rw[h2]at I;exact .inr ⟨qn J _ h2,jQ I.2⟩
  ·rw[h1]at I;exact .inl ⟨qn J _ h1,jQ I.1⟩
 have Z:c<=j:=by
  unfold lF at h;rw[Pi,Pa]at h;rcases h with e|e
  ·omega
  ·rcases ord _ e with h'|h'<;>omega
 unfold own;rw[ON];refine⟨O3 Z,List.all_eq_true.2 fun i I=>?_⟩;have I:=List.mem_range.1 I
 cases a':cJ rs i with
 | false=>simp
 | true=>rcases ord i a' with h'|h'<;>simp<;>omega
theorem FV(hm:P.follows .mixedOrders=true)(hv:gn P gl ev){ds t':List Ch}{τ:Sg}(h:rgS P gl ev z ops σ ds=some (ps,t',τ))(hp:alP ps)(hz:z=true->N=0):AWN P gl N (.region id ops true) (fun e τ'=>e=.normal/\τ'=τ) σ:=by
 unfold rgS at h
 split at h
 ·rename_i p0 d0 R Tn Bn u'
  split at h
  ·rename_i qs i' x'
   cases h
   have k':=eG hp;rw[ON]at i';obtain⟨hl,h1,h2,h3,h4⟩:=Gg hv u' k'.1;have c':(R.map (·.1)).length=ops.size:=jQ hl;have d':=G0 i'.1;have h':∀i r,(R.map (·.1))[i]?=some r->r.bar=false->fB (R.map (·.1)) Bn (i+1)=r.B:=fun i r hr hb=>by
    have hi:i<ops.size:=by rw[<-c'];exact (List.getElem?_eq_some_iff.1 hr).1
    obtain⟨r',j',C'⟩:=h4 i ops[i] (by rw[Qo];exact O5 hi);rw[hr]at j';cases j';exact C'.2.2.2.2.1 hb
   have m':∀j c,own (R.map (·.1)) j c=true->fB (R.map (·.1)) Bn c=fB (R.map (·.1)) Bn j:=fun j c ho=>by
    unfold own at ho;rw[ON,OW]at ho;refine (CL h' c j ho.1 fun k I z'=>?_).symm;have:=List.all_eq_true.1 ho.2 k (List.mem_range.2 z');simp only[Pi,OW,Pj]at this;rcases this with h|h
    ·omega
    ·exact h
   refine pW (ν:=nuz z) hm d' c' h1 h2 (h3 rfl) (fun i o ho=>h4 i o (jQ ho)) (fun t x hx=>(by obtain⟨y,hy,rfl⟩:=vD hx;have:=List.all_eq_true.1 i'.2 y hy;cases z<;>exact this)) (fun B B' h=>by cases z with|true=>exact⟨OI _,OO _⟩|false=>exact⟨h,OI _⟩) (fun h=>by cases z with|true=>exact⟨Qr (hz rfl),OO _⟩|false=>exact⟨h,OI _⟩) fun i o r c ho hr hk hb E' f' g'=>?_
   have hi:i<ops.size:=(Array.getElem?_eq_some_iff.1 ho).1;have Z:cJ (R.map (·.1)) i=false:=by simp only[cJ,hr];exact hb
   have A':fkd (R.map (·.1)) i=true:=by simp only[fkd,hr];exact hk
   by_cases hw:own (R.map (·.1)) i c=true
   ·exact .inl (m' i c hw)
   ·by_cases hex:∀m,cJ (R.map (·.1)) m=true->bef ops ops.size i m=true\/bef ops ops.size m i=true
    ·exact (hw (NU d' c' f' g' Z hex)).elim
    ·have l':(i,c)∈(prs ops (R.map (·.1))).filter fun q=>fkd (R.map (·.1)) q.1:=by
      refine List.mem_filter.2 ⟨?_,A'⟩;obtain⟨m,q'⟩:=Classical.not_forall.1 hex;have J:cJ (R.map (·.1)) m=true:=Sk fun hn=>q' fun h=>(hn h).elim
      have p':¬(bef ops ops.size i m=true\/bef ops ops.size m i=true):=fun h=>q' fun _=>h
      have D':m<ops.size:=by
       rw[<-c'];refine Nat.lt_of_not_le fun hle=>?_
       unfold cJ at J;rw[PF hle]at J;cases J
      have b1:bef ops ops.size i m=false:=by cases h:bef ops ops.size i m with|false=>rfl|true=>exact (p' (.inl h)).elim
      have b2:bef ops ops.size m i=false:=by cases h:bef ops ops.size m i with|false=>rfl|true=>exact (p' (.inr h)).elim
      have s':i≠m:=fun e=>by rw[e,J]at Z;cases Z
      rcases Sj s' with a'|a'
      ·exact List.mem_flatMap.2 ⟨(i,m),kJ D' a' b1,by simp only[Z,J];exact List.mem_map.2 ⟨c,List.mem_range.2 om,rfl⟩⟩
      ·exact List.mem_flatMap.2 ⟨(m,i),kJ hi a' b2,by simp only[Z,J];exact List.mem_map.2 ⟨c,List.mem_range.2 om,rfl⟩⟩
     obtain⟨p1,I,n'⟩:=Fm x' k'.2 _ l';unfold ckO at I;have y':own (R.map (·.1)) i c=false:=by cases h:own (R.map (·.1)) i c with|false=>rfl|true=>exact (hw h).elim
     rw[f',g',y']at I;simp only[Bool.and_self,PY]at I;rw[ho,hr]at I
     split at I
     ·rename_i o' r' it e1 e2 e3
      cases e1;cases e2
      split at I
      ·rename_i p2 y hq
       split at I
       ·rename_i a'
        cases I
        have hy:y=r.x:=n'.1;subst hy;exact .inr ⟨Bg hq n'.2,a'⟩
       ·cases I
      ·cases I
     ·cases I
  ·cases h
 ·cases h
theorem Ns(f:α->β)(l:List (Nat × α))(d:Nat)(x:α):(pt l d x).map (fun y=>(y.1,f y.2))=pt (l.map fun y=>(y.1,f y.2)) d (f x):=by
 induction l with
 | nil=>rfl
 | cons y l h =>
  simp only[OU,pt]
  split
  ·rfl
  ·simp only[OU,h]
theorem vX(l m:List (Nat × α))(n:Nat):gt (l++m) n=(gt l n).or (gt m n):=by
 induction l with
 | nil=>rfl
 | cons x l h=>simp only[Rq,gt];split<;>first|rfl|exact h
theorem B1(f:α->β)(l:List (Nat × α))(n:Nat):gt (l.map fun x=>(x.1,f x.2)) n=(gt l n).map f:=by
 induction l with
 | nil=>rfl
 | cons x l h=>simp only[OU,gt,h];split<;>rfl
theorem ME{l:List (Nat×α)}{v:α}{x:Nat×α}(h:x∈pt l d v):x=(d,v)\/x∈l:=by
 induction l with
 | nil=>simp only[pt,QA]at h;exact .inl h
 | cons y l I =>
  simp only[pt]at h
  split at h
  ·rcases List.mem_cons.1 h with h|h
   ·exact .inl h
   ·exact .inr (OS _ h)
  ·rcases List.mem_cons.1 h with h|h
   ·exact .inr (h▸OR)
   ·exact (I h).imp id (OS _)
theorem nb{E:List (Nat×Ce)}(t:Nat):gt (iO bv E) t=(gt E t).map fun e=>if dX bv e.C=true then e.v else .p (.at undef):=B1 (fun e:Ce=>if dX bv e.C=true then e.v else .p (.at undef)) E t
theorem ma{E:List (Nat×Ce)}(t:Nat):gt (oX C E) t=(gt E t).map fun e=>if (e.C.all fun q=>C.contains q)=true then e.v else .junk:=B1 (fun e:Ce=>if (e.C.all fun q=>C.contains q)=true then e.v else .junk) E t
theorem LU{T I:List (Nat×V)}(h:∀t x,gt T t=some x->gt I t=some x\/x=.junk/\∃y,gt I t=some y):Le (σ.wl T) (σ.wl I):=by
 refine⟨fun n x h=>h,fun M w S hs=>?_,rfl,rfl⟩
 cases S with
 | nil=>exact hs.elim
 | cons R S =>
  refine⟨⟨⟨hs.1.tm.1,fun t x J=>?_⟩,hs.1.rd,hs.1.rl,hs.1.ds,hs.1.dl,hs.1.dm⟩,hs.2⟩;rcases h t x J with h|⟨rfl,y,hy⟩
  ·exact hs.1.tm.2 t x h
  ·obtain⟨v,h1,-⟩:=hs.1.tm.2 t y hy;exact⟨v,h1,.junk v⟩
structure EG(n i:Nat)(bv:List (Nat × Bool))(E:List (Nat × Ce)):Prop where
 tag:∀x∈E,∀q∈x.2.C,(gt bv q.1).isSome=true
 val:∀t e b,gt E t=some e->e.m<n->isB e.v=some b->gt bv e.m=some b
 low:∀j b,gt bv j=some b->j<i
theorem pO{I:List (Nat×Bool)}(h:dX bv C=true)(hs:(I.all fun q=>C.contains q)=true):dX bv I=true:=by
 refine List.all_eq_true.2 fun q hq=>?_
 have:=List.all_eq_true.1 hs q hq;exact List.all_eq_true.1 h q (jQ this)
theorem Gc(x:List (Nat × Bool))(h:∀q∈C,(gt bv q.1).isSome=true):dX (bv++x) C=dX bv C:=by
 unfold dX
 induction C with
 | nil=>rfl
 | cons q C I =>
  rw[Qs,Qs,I fun q hq=>h q (OS _ hq),vX];have:=h q OR
  cases J:gt bv q.1 with
  | none=>rw[J]at this;cases this
  | some b=>rfl
theorem Lo{n:Nat}{E:List (Nat×Ce)}(J:EG n i bv E)(I:dX bv C=true):Le (σ.wl (oX C E)) (σ.wl (iO bv E)):=by
 refine LU fun t x h=>?_
 rw[ma]at h;rw[nb]
 cases he:gt E t with
 | none=>rw[he]at h;cases h
 | some e =>
  rw[he]at h;simp only[PD,Qy]at h ⊢
  split at h
  ·rename_i hs;rw[OG (pO I hs)];exact .inl h
  ·exact .inr ⟨h.symm,_,rfl⟩
theorem FD{n:Nat}{E:List (Nat×Ce)}(hi:EG ops.size i bv E)(h:chS ops E o=some C):iw ops (σ.wl (iO bv E)) o=some (dX bv C)/\∀q∈C,(gt bv q.1).isSome=true:=by
 unfold chS at h;unfold iw
 split at h
 ·rename_i Z;cases h;rw[Z];exact⟨rfl,fun q hq=>by cases hq⟩
 ·rename_i j w Z
  rw[Z]
  split at h
  ·rename_i e he
   split at h
   ·rename_i hc
    cases h
    obtain⟨rfl,hj,I⟩:=hc;obtain⟨b,I⟩:=Option.isSome_iff_exists.1 I
    cases J:(ops[e.m]?).bind (·.dst) with
    | none=>rw[J]at he;cases he
    | some d =>
     rw[J,OY]at he;have hv:=hi.val d e b he hj I;have a':e.v=.p (.at (.bool b)):=by
      unfold isB at I
      split at I
      ·rename_i b' c';cases I;exact c'
      ·cases I
     refine⟨?_,fun q hq=>?_⟩
     ·have e1:((ops[e.m]?).bind (·.dst)).bind (gt (σ.wl (iO bv E)).cur.l)=some (if dX bv e.C=true then e.v else .p (.at undef)):=by
       rw[J,OY];show gt (iO bv E) d=_;rw[nb,he];rfl
      simp only[e1];have hh:dX bv ((e.m,w)::e.C)=((b==w)&&dX bv e.C):=by unfold dX;rw[Qs,hv];rfl
      rw[hh,a']
      cases hc:dX bv e.C with
      | true=>simp[V.toVal,Tr.toVal]
      | false=>simp[V.toVal,Tr.toVal,undef]
     ·rcases List.mem_cons.1 hq with rfl|hq
      ·rw[hv];rfl
      ·obtain⟨y,hy,rfl⟩:=vD he;exact hi.tag y hy q hq
   ·cases h
  ·cases h
theorem NN{c:Bool}{x y v:V}(h:mgV c x y=some v):v=if c=true then x else y:=by
 unfold mgV at h
 split at h
 ·cases h;cases c<;>rfl
 ·split at h
  ·rename_i hk;subst hk;cases h;cases c<;>rfl
  ·cases h
 ·cases h
theorem MT{T I:List (Nat×V)}{y:V}(h:evl gl (σ.wl T) x=some y)(J:∀t x,gt T t=some x->∃z,gt I t=some z):∃z,evl gl (σ.wl I) x=some z:=by
 cases x with
 | tmp t=>simp only[evl,iN]at h ⊢;exact J t y h
 | _=>exact⟨y,h⟩
theorem N8{E:List (Nat×Ce)}{ds i':List Ch}{x:V}(hi:EG ops.size i bv E)(hh:dX bv C=true)(h:opG P gl ops.size σ E C o ds=some (ps,i',x))(hp:alP ps) :
  QDoes P gl o (σ.wl (iO bv E)) x:=by
 unfold opG at h
 split at h
 ·rename_i c xo yo ho
  cases hk:pkG gl ops.size σ E C c xo yo with
  | none=>rw[hk]at h;cases h
  | some v =>
   rw[hk]at h;cases h;unfold pkG at hk
   split at hk
   ·rename_i b vx vy hc hx hy
    rw[NN hk];have ex:∀{Z:List (Nat × Bool)}{z:Operand}{r:V},evl gl (σ.wl (oX Z E)) z=some r->dX bv Z=true->r≠.junk->evl gl (σ.wl (iO bv E)) z=some r:=fun {Z z r} hz hC hne=>by
     cases z with
     | tmp t =>
      simp only[evl,iN]at hz ⊢
      change gt (oX Z E) t=some r at hz
      show gt (iO bv E) t=some r;rw[ma]at hz;rw[nb]
      cases he:gt E t with
      | none=>rw[he]at hz;cases hz
      | some e =>
       rw[he]at hz;simp only[PD,Qy]at hz ⊢
       split at hz
       ·rename_i hs;rw[OG (pO hC hs)];exact hz
       ·exact (hne hz.symm).elim
     | _=>exact hz
    have ey:∀{Z:List (Nat × Bool)}{z:Operand}{r:V},evl gl (σ.wl (oX Z E)) z=some r->∃q,evl gl (σ.wl (iO bv E)) z=some q:=fun {Z z r} hz=>MT hz fun t q hq=>by
     rw[ma]at hq;rw[nb]
     cases he:gt E t with
     | none=>rw[he]at hq;cases hq
     | some e=>exact⟨_,rfl⟩
    cases I:evl gl (σ.wl (oX C E)) c with
    | none=>rw[I]at hc;cases hc
    | some cv =>
     rw[I,OY]at hc;have g':cv=.p (.at (.bool b)):=by
      unfold isB at hc
      split at hc
      ·cases hc;rfl
      ·cases hc
     subst g';have h':=ex I hh (fun e=>by cases e);have J:∀w,b=w->dX bv (Jr ops.size E c w C)=true:=fun w hw=>by
      unfold Jr
      split
      ·rename_i s
       split
       ·rename_i e he
        split
        ·rename_i hm
         have hv:e.v=.p (.at (.bool b)):=by
          have:=I;simp only[evl,iN]at this
          change gt (oX C E) s=some _ at this
          rw[ma,he]at this;simp only[PD,Qy]at this
          split at this
          ·exact this
          ·cases this
         have:=hi.val s e b he hm (by rw[hv];rfl);have d':=hh;unfold dX at d' ⊢;rw[Qs,this,d',hw];simp
        ·exact hh
       ·exact hh
      ·exact hh
     obtain⟨xa,a'⟩:=ey hx;obtain⟨ya,c'⟩:=ey hy;have nj:∀{u v r:V},mgV b u v=some r->u≠.junk/\v≠.junk:=fun {u v r} h=>by
      unfold mgV at h
      split at h
      ·exact⟨fun e=>(by cases e),fun e=>(by cases e)⟩
      ·exact⟨fun e=>(by cases e),fun e=>(by cases e)⟩
      ·cases h
     have f':=nj hk;refine (fF (P:=P) ?_).qdoes;unfold eH;rw[ho];simp only[h',OY,a',c']
     cases b with
     | true =>
      have:=ex hx (J true rfl) f'.1;rw[a']at this;cases this;rfl
     | false =>
      have:=ex hy (J false rfl) f'.2;rw[c']at this;cases this;rfl
   ·cases hk
 ·split at h
  ·rename_i it j' hit
   split at h
   ·rename_i qs v hq
    cases h
    exact (Bg hq hp).mono (Lo hi hh)
   ·cases h
  ·cases h
theorem LS:∀{l:List Oper}{i:Nat}{bv I:List (Nat × Bool)}{E E':List (Nat × Ce)}{ds a':List Ch}{ps:List Prop},gR P gl ops σ l i bv E ds=some (ps,a',I,E')->alP ps->EG ops.size i bv E ->
  wpR P gl N ops (fun τ=>τ=σ.wl (iO I E')) l (σ.wl (iO bv E))
 | [],i,bv,I,E,E',ds,a',ps,h,_,_=>by cases h;rfl
 | o::l,i,bv,I,E,E',ds,a',ps,h,hp,hi=>by
  rw[gR]at h
  split at h
  ·rename_i C hC
   split at h
   ·rename_i p0 d0 x d j' hd
    split at h
    ·rename_i i'
     split at h
     ·rename_i qs r hr
      obtain⟨d1,b1,E1⟩:=r
      cases h
      have f':=eG hp;obtain⟨hw,g'⟩:=FD (σ:=σ) (n:=ops.size) hi hC;have l':(σ.wl (iO bv E)).cur.n=σ.cur.n:=rfl;have d':∀{C':List (Nat × Bool)},(∀q∈C',(gt bv q.1).isSome=true)->dX (bvp bv i x) C'=dX bv C':=fun {C'} h=>by
       unfold bvp;split
       ·exact Gc _ h
       ·rfl
      have c':∀j b,gt bv j=some b->gt (bvp bv i x) j=some b:=fun j b h=>by
       unfold bvp;split
       ·rw[vX,h];rfl
       ·exact h
      have k':EG ops.size (i+1) (bvp bv i x) (pt E d ⟨i,C,x⟩):=by
       refine⟨fun y hy q hq=>?_,fun t e b he hm hb=>?_,fun j b J=>?_⟩
       ·rcases ME hy with rfl|hy
        ·obtain⟨b,hb⟩:=Option.isSome_iff_exists.1 (g' q hq);rw[c' _ _ hb];rfl
        ·obtain⟨b,hb⟩:=Option.isSome_iff_exists.1 (hi.tag y hy q hq);rw[c' _ _ hb];rfl
       ·rw[gz]at he
        split at he
        ·cases he
         unfold bvp;rw[hb];show gt (bv++[(i,b)]) i=some b;rw[vX];have:gt bv i=none:=by
          cases hg:gt bv i with
          | none=>rfl
          | some b'=>have:=hi.low i b' hg;omega
         rw[this];simp[gt]
        ·exact c' _ _ (hi.val t e b he hm hb)
       ·unfold bvp at J
        split at J
        ·rw[vX]at J
         cases hg:gt bv j with
         | some b'=>have:=hi.low j b' hg;omega
         | none =>
          rw[hg]at J;simp only[Option.none_or,gt]at J
          split at J
          ·omega
          ·cases J
        ·have:=hi.low j b J;omega
      have h':iO (bvp bv i x) (pt E d ⟨i,C,x⟩)=pt (iO bv E) d (if dX bv C=true then x else .p (.at undef)):=by
       have h1:iO (bvp bv i x) (pt E d ⟨i,C,x⟩)=pt (iO (bvp bv i x) E) d (if dX (bvp bv i x) C=true then x else .p (.at undef)) :=
        Ns (fun e:Ce=>if dX (bvp bv i x) e.C=true then e.v else .p (.at undef)) E d ⟨i,C,x⟩
       rw[h1,d' g'];congr 1;exact QY fun y hy=>by rw[d' fun q hq=>hi.tag y hy q hq]
      have Z:∀y,(σ.wl (iO bv E)).put o.dst y=some (σ.wl (pt (iO bv E) d y)):=fun y=>by
       rw[hd];show (if d<σ.cur.n then some _ else none)=_;rw[OG i',nz];rfl
      have ih:=LS hr f'.2 k';rw[h']at ih;rw[wpR,hw]
      cases hh:dX bv C with
      | true =>
       rw[hh,OG rfl]at ih;exact⟨x,_,_,(N8 hi hh j' f'.1).does.n,Z x,ih⟩
      | false =>
       rw[hh,OF jS]at ih;exact⟨_,Z _,ih⟩
     ·cases h
    ·cases h
   ·cases h
  ·cases h
theorem AWN.weak{τ τ':Sg}(h:AWN P gl N c (fun e t=>e=.normal/\t=τ) σ)(hl:Le τ' τ)(hn:nx τ'.obs=nx τ.obs):AWN P gl N c (fun e t=>e=.normal/\t=τ') σ:=fun n0 M w S a ρ n hN hs =>
 Qv (h n0 M w S a ρ n hN hs) fun e a' w' ⟨M',t,I,h3,J,Z,h6⟩=>by
  subst h6;exact⟨M',τ',I,by rw[hn];exact h3,J.le hl,Z,rfl⟩
theorem AWN.self(h:AWN P gl N c Q (σ.wl σ.cur.l)):AWN P gl N c Q σ:=fun n0 M w S a ρ n hN hs=>by
 obtain⟨f,l,hf,-⟩:=hs.cur;have e:σ.wl σ.cur.l=σ:=by
  obtain⟨J,I,Z⟩:=σ
  cases hf;rfl
 rw[e]at h;exact h n0 M w S a ρ n hN hs
theorem NP(hv:gn P gl ev){ds J:List Ch}{τ:Sg}(h:rgX P gl ev z ops σ ds=some (ps,J,τ))(hp:alP ps)(hz:z=true->N=0):AWN P gl N (.region id ops false) (fun e τ'=>e=.normal/\τ'=τ) σ:=by
 have last:wL P gl ev z ops ops.toList σ ds=some (ps,J,τ)->AWN P gl N (.region id ops false) (fun e τ'=>e=.normal/\τ'=τ) σ:=fun h =>
  AWN.region (by have:=ph (N:=N) hv h hp hz;simpa using this)
 unfold rgX at h
 split at h
 ·split at h
  ·rename_i r hr
   cases h
   unfold gRs at hr
   split at hr
   ·rename_i p0 d0 bv E Z
    cases hr
    have hi:EG ops.size 0 [] (σ.cur.l.map fun x=>(x.1,(⟨ops.size,[],x.2⟩:Ce))):=by
     refine⟨fun x I q hq=>?_,fun t e b he hm _=>?_,fun j b hj=>by cases hj⟩
     ·obtain⟨y,-,rfl⟩:=List.mem_map.1 I;cases hq
     ·obtain⟨y,hy,rfl⟩:=vD he;obtain⟨z,-,rfl⟩:=List.mem_map.1 hy;exact absurd hm (Nat.lt_irrefl _)
    have ha:iO [] (σ.cur.l.map fun x=>(x.1,(⟨ops.size,[],x.2⟩:Ce)))=σ.cur.l:=by
     unfold iO;rw[PZ];exact (QY fun x _=>rfl).trans (List.map_id _)
    have hw:=LS (N:=N) Z hp hi;rw[ha]at hw;have h1:AWN P gl N (.region id ops false) (fun e τ'=>e=.normal/\τ'=σ.wl (iO bv E)) σ:=.self (.region (jQ hw));refine h1.weak (LU fun t x I=>?_) rfl;rw[ma]at I;rw[nb]
    cases he:gt E t with
    | none=>rw[he]at I;cases I
    | some e =>
     rw[he]at I;simp only[PD,Qy]at I ⊢
     split at I
     ·rename_i hs;rw[OG (pO (C:=[]) rfl hs)];exact .inl I
     ·exact .inr ⟨I.symm,_,rfl⟩
   ·cases hr
  ·exact last h
 ·exact last h
theorem G9(hv:gn P gl ev){ds d J:List Ch}{τ:Sg}(h:sgS ev c σ ds d=some (ps,J,e,τ))(hp:alP ps):AWN P gl N c (fun e' τ'=>e'=e/\τ'=τ) σ:=by
 unfold sgS at h;obtain⟨c',I,a'⟩:=σ
 cases I with
 | nil=>cases h
 | cons f Y =>
  simp only[]at h
  split at h
  ·rename_i qs d1 e1 τ1 hf Z he
   split at h
   ·rename_i g hg
    split at h
    ·rename_i h1 h2;cases h;exact AWN.sg hf Z (hv _ _ _ _ _ _ _ _ he hp) hg h1 h2
    ·cases h
   ·cases h
  ·cases h
theorem GX(J:gn P gl ev){ds I:List Ch}{l:List Tn}{τ:Sg}(h:tnS ev N c σ ds l=some (ps,I,e,τ))(hp:alP ps):AWN P gl N c (fun e' τ'=>e'=e/\τ'=τ) σ:=by
 unfold tnS at h
 split at h
 ·rename_i Z;exact AWN.cv (J _ _ _ _ _ _ _ _ h hp) (.tns Z)
 ·cases h
theorem Kq(hm:P.follows .mixedOrders=true)(I:gn P gl ev)(hl:pj P gl ev):gn P gl (sj P gl ev)/\pj P gl (sj P gl ev):=by
 have loop:pj P gl (sj P gl ev):=by
  intro N c σ ds ps a' e τ h hp;simp only[sj]at h;unfold lpS at h
  split at h
  ·rename_i ts e1 τ1 J;cases h;exact LWN.only hp.1
  ·rename_i ts e1 τ1 J;cases h;exact fun n0 M w S a ρ n hN hs=>hp.1 n0 M w S a ρ n hN (hs.le (Iq ts))
  ·exact LWN.round (FY (fun _ _ _ _=>I _ _ _ _ _ _ _ _) (fun τ1 ds qs=>hl _ _ _ _ _ _ _ _) h hp)
  ·cases h
 refine⟨?_,loop⟩;intro N c σ ds ps a' e τ h hp
 cases c with
 | skip=>cases h;exact .skip ⟨rfl,rfl⟩
 | label l=>cases h;exact .label ⟨rfl,rfl⟩
 | exit id=>cases h;exact .exit ⟨rfl,rfl⟩
 | ret=>cases h;exact .ret ⟨rfl,rfl⟩
 | seq x y=>exact .seq (FY (fun _ _ _ _=>I _ _ _ _ _ _ _ _) (fun τ1 ds qs=>I _ _ _ _ _ _ _ _) h hp)
 | cond c x y =>
  simp only[sj]at h
  cases Z:(evl gl σ c).bind V.bool? with
  | none=>rw[Z]at h;simp[cdS]at h
  | some b =>
   rw[Z]at h;unfold cdS at h
   split at h
   ·rename_i c' J heq
    cases heq
    split at h
    ·rename_i p1 r hr
     cases h
     have e1:b=true:=hp.1;subst e1;exact .cond Z (I _ _ _ _ _ _ _ _ hr hp.2)
    ·cases h
   ·rename_i c' J heq
    cases heq
    split at h
    ·rename_i p1 r hr
     cases h
     have e1:b=false:=hp.1;subst e1;exact .cond Z (I _ _ _ _ _ _ _ _ hr hp.2)
    ·cases h
   ·cases h
 | block id c =>
  simp only[sj]at h
  split at h
  ·exact G9 I h hp
  refine .block ?_
  cases he:ev N c σ ds with
  | none=>rw[he]at h;cases h
  | some r =>
   obtain⟨p0,d0,e0,τ0⟩:=r;rw[he]at h
   cases e0 with
   | exit g' =>
    simp only[blS]at h
    split at h
    ·rename_i hid
     cases h
     refine (I _ _ _ _ _ _ _ _ he hp).mono ?_;rintro e' τ' ⟨rfl,rfl⟩;simp only[blk];rw[OG hid];simp
    ·rename_i hid
     cases h
     refine (I _ _ _ _ _ _ _ _ he hp).mono ?_;rintro e' τ' ⟨rfl,rfl⟩;simp only[blk];rw[OF hid];simp
   | _ =>
    cases h
    refine (I _ _ _ _ _ _ _ _ he hp).mono ?_;rintro e' τ' ⟨rfl,rfl⟩;exact⟨rfl,rfl⟩
 | region id ops draw =>
  have key:∀{r:Option (List Prop × List Ch × Sg)},nrS r=some (ps,a',e,τ)->(∀qs d1 τ1,r=some (qs,d1,τ1)->alP qs->AWN P gl N (.region id ops draw) (fun e τ'=>e=.normal/\τ'=τ1) σ)->AWN P gl N (.region id ops draw) (fun e' τ'=>e'=e/\τ'=τ) σ:=fun {r} h k=>by
   cases r with
   | none=>cases h
   | some r=>obtain⟨qs,d1,τ1⟩:=r;cases h;exact k _ _ _ rfl hp
  have hz:Nat.beq N 0=true->N=0:=R4
  cases draw with
  | true =>
   simp only[sj]at h
   split at h
   ·exact GX I h hp
   split at h
   ·rename_i r hr
    exact key h fun qs d1 τ1 hs hp=>FV hm I (hr.trans hs) hp (fun e=>by cases e)
   ·split at h
    ·rename_i Z;exact key h fun qs d1 τ1 hs hp=>FV hm I hs hp fun _=>hz Z
    ·cases h
  | false =>
   simp only[sj]at h
   split at h
   ·exact G9 I h hp
   ·exact GX I h hp
   ·exact key h fun qs d1 τ1 hs hp=>NP I hs hp hz
 | loop c=>exact .loop (loop _ _ _ _ _ _ _ _ h hp)
 | rangeFunc g f' d' bd =>
  simp only[sj]at h
  split at h
  ·rename_i ts e1 τ1 J;cases h;exact fun n0 M w S a ρ n hN hs=>hp.1 n0 M w S a ρ n hN (hs.le (vE ts))
  ·cases h
 | _=>cases h
theorem iy(hm:P.follows .mixedOrders=true):∀n,gn P gl (uy P gl n)/\pj P gl (uy P gl n)
 | 0=>⟨fun _ _ _ _ _ _ _ _ h=>(by cases h),fun _ _ _ _ _ _ _ _ h=>(by cases h)⟩
 | n+1=>Kq hm (iy hm n).1 (iy hm n).2
def pcS(P:Program)(gl:Nat->Option (List Tr))(n:Nat)(f:FuncId)(ts:List Tr)(ds:List Ch)(r:Tr):Prop :=
 match P.funcs[f]? with
 | some fn=>match fn.body with
  | some c=>match uy P gl n 0 c ⟨[],[frame fn (ts.map .p)],[]⟩ ds with
   | some (ps,_,e,τ)=>match okE e,(fD P τ fn).bind (V.frz false ⟨τ.obs,τ.stk.tail,τ.lps⟩) with
    | true,some r'=>r'=r/\alP ps
    | _,_=>False
   | none=>False
  | none=>False
 | none=>False
theorem sO(hm:P.follows .mixedOrders=true){n:Nat}{ts:List Tr}(ds:List Ch){r:Tr}(h:pcS P gl n f ts ds r):PuC P gl f ts r:=by
 unfold pcS at h
 split at h
 ·rename_i fn hf
  split at h
  ·rename_i c J
   split at h
   ·rename_i ps Z e τ he
    split at h
    ·rename_i r' hk hr
     obtain⟨rfl,hp⟩:=h
     cases I:fD P τ fn with
     | none=>rw[I]at hr;cases hr
     | some y =>
      rw[I,OY]at hr;refine LW hf J (((iy hm n).1 _ _ _ _ _ _ _ _ he hp).mono ?_);rintro e' τ' ⟨rfl,rfl⟩;refine⟨?_,y,I,hr⟩
      cases e'<;>first|exact .inl rfl|exact .inr rfl|cases hk
    ·exact h.elim
   ·exact h.elim
  ·exact h.elim
 ·exact h.elim
theorem fN{ts:List Tr}{r:Tr}(ds:List Ch)(h:A)(n:Nat:=300)(e:A=pcS P gl n f ts ds r:=by kernel_rfl)(hm:P.follows .mixedOrders=true:=by kernel_rfl):PuC P gl f ts r:=sO hm ds (e.mp h)
theorem aq{ts:List Tr}{r:Tr}(ds:List Ch)(h:A)(n:Nat:=300)(e:(r=r/\A)=pcS P gl n f ts ds r:=by kernel_rfl)(hm:P.follows .mixedOrders=true:=by kernel_rfl):PuC P gl f ts r:=sO hm ds (e.mp ⟨rfl,h⟩)
theorem ai(a:A)(b:B):A/\B:=⟨a,b⟩
theorem tv:True:=trivial
theorem aj2(a:A)(b:B)(z:Z):A/\B/\Z:=⟨a,b,z⟩
theorem aj3{C:Prop}(a:A)(b:B)(c:C)(z:Z):A/\B/\C/\Z:=⟨a,b,c,z⟩
theorem aj4{C:Prop}(a:A)(b:B)(c:C)(d:D)(z:Z):A/\B/\C/\D/\Z:=⟨a,b,c,d,z⟩
theorem aj5{C:Prop}(a:A)(b:B)(c:C)(d:D)(e:E)(z:Z):A/\B/\C/\D/\E/\Z:=⟨a,b,c,d,e,z⟩
theorem aj6{C F:Prop}(a:A)(b:B)(c:C)(d:D)(e:E)(f:F)(z:Z):A/\B/\C/\D/\E/\F/\Z:=⟨a,b,c,d,e,f,z⟩
theorem aj7{C F G:Prop}(a:A)(b:B)(c:C)(d:D)(e:E)(f:F)(g:G)(z:Z):A/\B/\C/\D/\E/\F/\G/\Z:=⟨a,b,c,d,e,f,g,z⟩
theorem aj8{C F G H:Prop}(a:A)(b:B)(c:C)(d:D)(e:E)(f:F)(g:G)(h:H)(z:Z):A/\B/\C/\D/\E/\F/\G/\H/\Z:=⟨a,b,c,d,e,f,g,h,z⟩
end
end Go.Proofs.YteemngnialjaiaaGreatDoor
