/- Part. -/
import Derived.Test.YteemngnialjaiaaGreatDoorQ16
set_option maxRecDepth 100000
set_option maxHeartbeats 16000000
set_option linter.unusedVariables false
set_option linter.unusedSimpArgs false
namespace Go.Proofs.YteemngnialjaiaaGreatDoor
open Go.Proofs.Tryz Go.RowKit
variable {ρ:Option Nat}{P:Program}{n0 N i l id:Nat}{M M':Mem}{w w':World}{σ σ' Bn τ J:Sg}{S:List Rf}{a:Act}{o:Oper}{Q:Exit->Sg->Prop}{lp:Lp}{r:Rf}{T:Array Value}{D:List Deferred}{g:Operand}{ps:Array Tmp}{bd:Code}{f:FuncId}{fn:Func}{hint:FuncId->Bool}{ops:Array Oper}{bar:Nat->Bool}{ν:Sg->Nat}{ev:Code->Sg->Option (Exit×Sg)}{p:Prop}{s:LoopState}{e:Exit}{t:TypeId}{parts:Array (Nat×Operand)}{α:Type}
section
def C8(gl:Nat->Option (List Tr))(σ:Sg)(o:Oper):Option (Nat × List V) :=
 match o.op with
 | .call c=>match c.callee with
  | .value f=>match evl gl σ f,mf gl σ c.args.toList with
   | some (.yld i),some xs=>some (i,xs)
   | _,_=>none
  | _=>none
 | _=>none
def Js(gl:Nat->Option (List Tr))(σ:Sg)(o:Oper):Option (Nat × List V) :=
 match o.op with
 | .call c=>match c.callee with
  | .value f=>match evl gl σ f,mf gl σ c.args.toList with
   | some (.p (.at (.func (.yield L) a b))),some xs=>match a.toList,b.toList with
    | [],[]=>some (L,xs)
    | _,_=>none
   | _,_=>none
  | _=>none
 | _=>none
def yTr(L:Nat):Tr:=.at (.func (.yield L) #[] #[])
def pf(P:Program)(gl:Nat->Option (List Tr))(σ:Sg)(g:Operand)(i:Nat):Option (FuncId × List V) :=
 match (evl gl σ g).bind kL with
 | some (f,a,b)=>if wC P f then some (f,a++[.yld i]++b) else none
 | none=>none
def sS:Exit->Option (Option Code)
 | .normal=>some none
 | .ret=>some (some .ret)
 | .exit id=>some (some (.exit id))
 | .goto t=>some (some (.goto t))
 | _=>none
def Nb(i:Nat)(x:V)(σ':Sg)(e:Exit)(τ:Sg):Prop:=∃lp pd,τ.cur.rd=some i/\τ.lps[i]?=some lp/\sS e=some pd/\x=.p (.at (.bool pd.isNone)) /\
 σ'=⟨τ.obs,τ.stk.tail,τ.lps.set i { lp with st:=if pd.isNone then .ready else .done,pend:=pd }⟩
def xO(P:Program)(gl:Nat->Option (List Tr))(N:Nat)(Q:Exit->Sg->Prop)(pd:Option Code)(σ:Sg):Prop :=
 match pd with
 | none=>Q .normal σ
 | some c=>AWN P gl N c Q σ
section
variable {gl:Nat->Option (List Tr)}
def YOf(P:Program)(gl:Nat->Option (List Tr))(σ:Sg)(o:Oper)(i:Nat)(xs:List V):Prop:=∀{n0:Nat}{M:Mem}{w:World}{S:List Rf}{a:Act}{ρ:Option Nat},SR gl n0 M w σ (rf a ρ::S) ->
 ∃vs:List Value,Rvs M w xs vs/\(execOp a.eval o).run P w=(Instr.yield (M.lp i) vs.toArray).run P w
theorem F9{xs:List V}(I:C8 gl σ o=some (i,xs)):YOf P gl σ o i xs:=by
 intro n0 M w S a ρ h;unfold C8 at I;unfold execOp
 split at I
 ·rename_i c ho
  rw[ho]
  split at I
  ·rename_i q hq
   split at I
   ·rename_i j ys Z c'
    cases I
    have a':=aH h Z;refine⟨c.args.toList.map a.eval,gE h c',?_⟩;generalize hu:a.eval q=u at a'
    cases a' with
    | yld _ hi =>
     have J:(#[]++c.args.map a.eval:Array Value)=(c.args.toList.map a.eval).toArray:=by apply QZ;simp
     simp only[resolve,hq,hu,Deferred.ofValue,Pg,P0,Py,invoke,J]
   ·cases I
  ·cases I
 ·cases I
theorem Ke{L:Nat}{xs:List V}(I:Js gl σ o=some (L,xs))(hl:σ.lps[i]?=some lp)(ha:lp.adr=some L):YOf P gl σ o i xs:=by
 intro n0 M w S a ρ h;have hL:M.lp i=L:=by obtain⟨_,_,_,_,_,_,_,e⟩:=h.lps i lp hl;exact e L ha
 unfold Js at I;unfold execOp
 split at I
 ·rename_i c ho
  rw[ho]
  split at I
  ·rename_i q hq
   split at I
   ·rename_i L' a1 b1 ys Z c'
    split at I
    ·rename_i h1 h2
     cases I
     have a':=aH h Z;refine⟨c.args.toList.map a.eval,gE h c',?_⟩;obtain rfl:a1=#[]:=jQ h1;obtain rfl:b1=#[]:=jQ h2;generalize hu:a.eval q=u at a'
     cases a' with
     | p _ _ hr =>
      cases hr with
      | «at» =>
       have J:(#[]++c.args.map a.eval:Array Value)=(c.args.toList.map a.eval).toArray:=by apply QZ;simp
       simp only[resolve,hq,hu,Deferred.ofValue,Pg,P0,Py,invoke,J,hL]
    ·cases I
   ·cases I
  ·cases I
 ·cases I
theorem SR.pop(h:SR gl n0 M w σ (r::S)):SR gl n0 M w ⟨σ.obs,σ.stk.tail,σ.lps⟩ S:=by
 obtain⟨Z,I,J⟩:=σ
 cases I with
 | nil=>exact h.stk.elim
 | cons f l =>
  refine⟨h.size,h.ob,h.apart,h.stk.2,h.gls,h.nl,h.lps,?_,h.sep⟩;have:=h.nd;simp only[O8,Pq]at this;exact (List.nodup_append.1 this).2.1
theorem TmOk.puts:∀{ps:List Tmp}{xs:List V}{vs:List Value}{f:Fr}{T:Array Value},TmOk M w f T->(∀t∈ps,t<f.n)->Rvs M w xs vs ->
  TmOk M w { f with l:=(ps.zip xs).foldl (fun l x=>pt l x.1 x.2) f.l } ((ps.zip vs).foldl (fun T x=>T.setIfInBounds x.1 x.2) T)
 | [],xs,vs,f,T,h,_,_=>h
 | p::ps,[],[],f,T,h,_,_=>h
 | p::ps,[],v::vs,f,T,_,_,hr=>by have:=hr.1;simp at this
 | p::ps,x::xs,[],f,T,_,_,hr=>by have:=hr.1;simp at this
 | p::ps,x::xs,v::vs,f,T,h,hp,hr=>by
  have h1:=h.put p (hp p jS) (hr.2 0 x v rfl rfl);exact TmOk.puts (f:={ f with l:=pt f.l p x }) h1 (fun t I=>hp t (by simp[I])) ⟨jQ hr.1,fun i t u I hu=>hr.2 (i+1) t u (jQ I) (jQ hu)⟩
theorem He(h:SR gl n0 M w σ (⟨T,D,some l⟩::S))(I:σ.cur.rd=some i):M.lp i=l/\i<M.nl:=by
 obtain⟨f,m,hs,hf⟩:=h.cur;have J:σ.cur=f:=by simp[Sg.cur,hs]
 rw[J]at I;have:=hf.rd;rw[I]at this;exact⟨jQ this.symm,hf.rl i I⟩
theorem qV{xs:List V}{x:V}(hc:YOf P gl σ o i xs)(hl:σ.lps[i]?=some lp)(hn:xs.length=lp.ps.size)(hp:∀t∈lp.ps.toList,t<lp.fr.n)(hw:AWN P gl N lp.asg (fun e τ=>e=.normal/\∃I,τ.cur.rd=some i/\τ.lps[i]?=some I/\I.st=.ready/\AWN P gl N lp.bd (Nb i x σ') (τ.setLp i { I with st:=.busy })) ⟨σ.obs,rfr lp i xs::σ.stk,σ.lps⟩):DoesN N P gl o σ x σ':=by
 intro n0 M w S a ρ hN h K Q n hk;obtain⟨vs,h1,h2⟩:=hc h;have hi:i<M.nl:=by rw[<-h.nl];exact (List.getElem?_eq_some_iff.1 hl).1
 obtain⟨fid,T,ht,hg,-⟩:=h.setLp (P:=P) hl;have j':¬vs.toArray.size≠lp.ps.size:=by have:=h1.1;simp only[Rm];omega
 have g':(execOp a.eval o).run P w=.ok (.round (M.lp i) fid ((lp.ps.toList.zip vs).foldl (fun T x=>T.setIfInBounds x.1 x.2) T) lp.asg lp.bd) w:=by
  rw[h2,Instr.yield,Pg,hg,Py];simp only[j',Qb,Pg,P0,Py];congr 2;rw[<-Array.foldl_toList];simp
 refine⟨fun _ _=>trivial,?_⟩;rw[kS g' (fun d w' e=>by cases e) (fun x w' e=>by cases e)];refine⟨fun h=>(by cases h),roundIn_of_wpIn trivial ?_⟩;have k':SR gl n0 M w ⟨σ.obs,rfr lp i xs::σ.stk,σ.lps⟩ (rf ⟨(lp.ps.toList.zip vs).foldl (fun T x=>T.setIfInBounds x.1 x.2) T,[]⟩ (some (M.lp i))::rf a ρ::S) :=
  ⟨h.size,h.ob,h.apart,⟨⟨(ht.puts hp h1).less rfl (fun s x hx=>hx),rfl,fun j Z=>(by cases Z;exact hi),rfl,fun j Z=>(by cases Z),fun j Z=>(by cases Z)⟩,h.stk⟩,h.gls,h.nl,h.lps,by simpa [rfr] using h.nd,h.sep⟩
 refine Qv (hw n0 M w (rf a ρ::S) _ (some (M.lp i)) (n-1) hN k') ?_;rintro e a1 w1 ⟨M1,τ,q1,q2,q3,rfl,I,r1,r2,r3,r4⟩;obtain⟨m1,m2⟩:=He q3 r1;obtain⟨m',T1,-,c',d'⟩:=q3.setLp (P:=P) r2;obtain⟨w2,s1,s2,i',s3⟩:=d' .busy I.pend;rw[m1]at c' s1;refine⟨w2,?_,?_⟩
 ·simp only[Instr.beginRound,Pg,c',Py,s1,r3,P0]
 ·refine Qv (r4 n0 M1 w2 (rf a ρ::S) a1 (some (M.lp i)) (n-1) q2.nn s3) ?_;rintro e a3 w3 ⟨M3,τ3,t1,t2,t3,p',pd,u1,u2,u3,rfl,rfl⟩;obtain⟨m3,-⟩:=He t3 u1;obtain⟨n',T3,-,a',J⟩:=t3.setLp (P:=P) u2;obtain⟨w4,v1,v2,l',v3⟩:=J (if pd.isNone then .ready else .done) pd;rw[m3]at a' v1;have f':(Instr.endRound (M.lp i) pd).run P w3=.ok (.bool pd.isNone) w4:=by
   simp only[Instr.endRound,Pg,a',Py,v1,P0]
  have h':K (a.put o.dst (.bool pd.isNone)) w4:=hk M3 _ w4 (((q1.trans s2).trans t1).trans v2) (((q2.trans (.same i')).tr t2).trans (.same l')) v3.pop (.p _ _ (.at _))
  cases e<;>cases u3<;>exact⟨_,w4,f',h'⟩
theorem AWN.rangeFunc{I c:Code}{xs:List V}(hc:pf P gl (σ.ent ps I bd) g σ.lps.length=some (f,xs))(hf:P.funcs[f]?=some fn)(hb:fn.body=some c)(hw:AWN P gl N c (fun e τ=>(e=.normal\/e=.ret)/\(∃x,fD P τ fn=some x)/\∃lp,(τ.stk.tail.headD default).rd=some σ.lps.length/\τ.lps[σ.lps.length]?=some lp/\lp.st≠.busy /\
   xO P gl N Q lp.pend ⟨τ.obs,τ.stk.tail.tail,τ.lps.set σ.lps.length { lp with st:=.exhausted }⟩) ⟨σ.obs,frame fn xs::iT σ.lps.length::(σ.ent ps I bd).stk,(σ.ent ps I bd).lps⟩):AWN P gl N (.rangeFunc g ps I bd) Q σ:=fun n0 M w S a ρ n hN hs=>by
 refine wpIn_rangeFunc fun fid _=>?_
 obtain⟨Z,w1,mark,e1,e2,e3,e4⟩:=IK (P:=P) hs fid ps I bd;unfold pf at hc
 split at hc
 ·rename_i f' ca cb J
  split at hc
  ·rename_i q'
   cases hc
   cases he:evl gl (σ.ent ps I bd) g with
   | none=>rw[he]at J;cases J
   | some cv =>
    rw[he,OY]at J;obtain⟨va,vb,u1,u2,u3⟩:=sJ (aH e4 he) J;have t':a.eval g=.func (.func f) va.toArray vb.toArray:=u1;have i':σ.lps.length<Z.nl:=by rw[<-e4.nl];simp[Sg.ent]
    have h':Rvs Z w1 (ca++[.yld σ.lps.length]++cb) (va++[Value.func (.yield (Z.lp σ.lps.length)) #[] #[]]++vb):=(u2.append ⟨rfl,fun j t v ht hv=>by
     cases j with
     | zero=>cases ht;cases hv;exact .yld _ i'
     | succ j=>simp at ht⟩).append u3
    have p':SR gl n0 Z w1 ⟨σ.obs,iT σ.lps.length::(σ.ent ps I bd).stk,(σ.ent ps I bd).lps⟩ (⟨#[],[],some (Z.lp σ.lps.length)⟩::rf { a with defers:=mark++a.defers } ρ::S) :=
     ⟨e4.size,e4.ob,e4.apart,⟨⟨⟨rfl,fun t x hx=>(by cases hx)⟩,rfl,fun j hj=>(by cases hj;exact i'),rfl,fun j hj=>(by cases hj),fun j hj=>(by cases hj)⟩,e4.stk⟩,e4.gls,e4.nl,e4.lps,by simpa [iT] using e4.nd,e4.sep⟩
    have d':=qi hf hb p' h' (Q:=fun _ τ=>∃lp,τ.cur.rd=some σ.lps.length/\τ.lps[σ.lps.length]?=some lp/\lp.st≠.busy/\xO P gl N Q lp.pend ⟨τ.obs,τ.stk.tail,τ.lps.set σ.lps.length { lp with st:=.exhausted }⟩)
     hN (hw.mono fun e τ ⟨h1,⟨x,hx⟩,h2⟩=>⟨h1,x,hx,h2⟩)
    refine⟨Z.lp σ.lps.length,mark,w1,{ target:=.fn (.func f) vb.toArray,args:=va.toArray++#[Value.func (.yield (Z.lp σ.lps.length)) #[] #[]] },w1,f,(va++[Value.func (.yield (Z.lp σ.lps.length)) #[] #[]]++vb).toArray,w1,e1,?_,fun _ _=>trivial,?_,fun h=>(by cases h),?_⟩
    ·simp only[resolve,rangeCall,Deferred.ofValue,t',P0];rw[show Array.map a.eval #[Operand.const (Value.func (.yield (Z.lp σ.lps.length)) #[] #[])]=#[Value.func (.yield (Z.lp σ.lps.length)) #[] #[]] by simp[Act.eval]]
    ·have:(va.toArray++#[Value.func (.yield (Z.lp σ.lps.length)) #[] #[]]++vb.toArray:Array Value)=(va++[Value.func (.yield (Z.lp σ.lps.length)) #[] #[]]++vb).toArray:=by apply QZ;simp
     simp only[invoke,this];exact mj q' _
    ·refine nO.2 (d'.mono ?_);rintro e w2 ⟨v,M2,x,τ,rfl,q1,q2,q3,q4,lp,r1,r2,r3,r4⟩;obtain⟨m1,m2⟩:=He q3 r1;obtain⟨u',T2,-,m',j'⟩:=q3.setLp (P:=P) r2;obtain⟨w3,s1,s2,n',s3⟩:=j' .exhausted lp.pend;rw[m1]at m' s1;have g':(lp.st==LoopState.busy)=false:=by cases r':lp.st<;>first|rfl|exact (r3 r').elim
     have l':(Instr.endLoop (Z.lp σ.lps.length)).run P w2=.ok lp.pend w3:=by
      simp only[Instr.endLoop,Pg,m',Py,g',Bool.false_eq_true,Qb,P0,s1]
     have k':Below n0 w w3:=(e2.trans q1).trans s2;have a':Ff n0 N (nx τ.obs) M w M2 w3:=((e3.lower hN).tr q2).trans (.same n');refine⟨lp.pend,w3,l',?_⟩;have key:∀(pd:Option Code)(σ2:Sg),nx σ2.obs=nx τ.obs->SR gl n0 M2 w3 σ2 (rf { a with defers:=mark++a.defers } ρ::S)->xO P gl N Q pd σ2 ->
       (match pd with|none=>Aft gl n0 N M w S ρ Q .normal { a with defers:=mark++a.defers } w3|some c=>c.wpIn (Rnd ρ) n P (Aft gl n0 N M w S ρ Q) { a with defers:=mark++a.defers } w3):=by
      intro pd σ2 s' s4 r4;rw[<-s']at a'
      cases pd with
      | none=>exact⟨M2,_,k',a',s4,r4⟩
      | some c'=>exact Qv (r4 n0 M2 w3 S _ ρ n a'.nn s4) fun _ _ _ k=>k.fr k' a'
     refine key _ _ ?_ s3.pop r4;rfl
  ·cases hc
 ·cases hc
end
end
section
def EX(P:Program)(ev:Code->Sg->Option (Exit × Sg))(f:FuncId)(xs:List V)(σ:Sg):Option (V × Sg) :=
 match P.funcs[f]? with
 | some fn=>match fn.body with
  | some c=>match ev c ⟨σ.obs,frame fn xs::σ.stk,σ.lps⟩ with
   | some (.normal,τ)=>(fD P τ fn).map fun x=>(x,⟨τ.obs,τ.stk.tail,τ.lps⟩)
   | some (.ret,τ)=>(fD P τ fn).map fun x=>(x,⟨τ.obs,τ.stk.tail,τ.lps⟩)
   | _=>none
  | none=>none
 | none=>none
def Ji(P:Program)(ev:Code->Sg->Option (Exit × Sg))(f:FuncId)(ts:List Tr):Option Tr :=
 match P.funcs[f]? with
 | some fn=>match fn.body with
  | some c=>match ev c ⟨[],[frame fn (ts.map .p)],[]⟩ with
   | some (.normal,τ)=>(fD P τ fn).bind (V.frz false ⟨τ.obs,τ.stk.tail,τ.lps⟩)
   | some (.ret,τ)=>(fD P τ fn).bind (V.frz false ⟨τ.obs,τ.stk.tail,τ.lps⟩)
   | _=>none
  | none=>none
 | none=>none
def LR:LoopState->Bool
 | .ready=>true
 | _=>false
def Nq:LoopState->Bool
 | .busy=>true
 | _=>false
def okE:Exit->Bool
 | .normal=>true
 | .ret=>true
 | _=>false
def M7(ev:Code->Sg->Option (Exit × Sg))(i:Nat)(xs:List V)(σ:Sg):Option (V × Sg) :=
 match σ.lps[i]? with
 | some lp=>if xs.length=lp.ps.size/\(lp.ps.toList.all fun t=>decide (t<lp.fr.n))=true then match ev lp.asg ⟨σ.obs,rfr lp i xs::σ.stk,σ.lps⟩ with
  | some (.normal,τ)=>match τ.lps[i]? with
   | some h=>if τ.cur.rd=some i/\LR h.st=true then match ev lp.bd (τ.setLp i { h with st:=.busy }) with
    | some (e,τ)=>match τ.lps[i]?,sS e with
     | some lp2,some pd=>if τ.cur.rd=some i then some (.p (.at (.bool pd.isNone)),⟨τ.obs,τ.stk.tail,τ.lps.set i { lp2 with st:=if pd.isNone then .ready else .done,pend:=pd }⟩) else none
     | _,_=>none
    | none=>none
    else none
   | none=>none
  | _=>none
  else none
 | none=>none
def Nl(P:Program)(gl:Nat->Option (List Tr))(ev:Code->Sg->Option (Exit × Sg))(g:Operand)(ps:Array Tmp)(h I:Code)(σ:Sg):Option (Exit × Sg) :=
 match pf P gl (σ.ent ps h I) g σ.lps.length with
 | some (f,xs)=>match P.funcs[f]? with
  | some fn=>match fn.body with
   | some c=>match ev c ⟨σ.obs,frame fn xs::iT σ.lps.length::(σ.ent ps h I).stk,(σ.ent ps h I).lps⟩ with
    | some (e,τ)=>if okE e=true/\(fD P τ fn).isSome=true/\(τ.stk.tail.headD default).rd=some σ.lps.length then match τ.lps[σ.lps.length]? with
     | some lp=>if Nq lp.st=false then match lp.pend with
      | none=>some (.normal,⟨τ.obs,τ.stk.tail.tail,τ.lps.set σ.lps.length { lp with st:=.exhausted }⟩)
      | some J=>ev J ⟨τ.obs,τ.stk.tail.tail,τ.lps.set σ.lps.length { lp with st:=.exhausted }⟩
      else none
     | none=>none
     else none
    | none=>none
   | none=>none
  | none=>none
 | none=>none
def pV(P:Program)(gl:Nat->Option (List Tr))(o:Oper)(σ:Sg):Option V :=
 match eH P gl o σ with
 | some x=>some x
 | none=>match iu P gl o σ with
  | some x=>some x
  | none=>match o.op with
   | .lookup t x I ok=>match evl gl σ x,evl gl σ I with|some x,some I=>lkp P σ t x I ok|_,_=>none
   | .slice t x J Z none=>match evl gl σ x,evo gl σ J,evo gl σ Z with|some (.p u),some l,some h=>(slc P t u l h).map .p|_,_,_=>none
   | .buildSlice t len parts=>match mf gl σ (parts.toList.map (·.2)) with
    | some vs=>match V.unp vs,bsl P ⟨[],[],[]⟩ t len ((parts.toList.map (·.1)).zip vs) with|some _,some (.p r,_)=>some (.p r)|_,_=>none
    | none=>none
   | .convert s d x=>(evl gl σ x).bind (bst P σ s d)
   | _=>none
def J7(P:Program)(gl:Nat->Option (List Tr))(pu:FuncId->List Tr->Option Tr)(hint:FuncId->Bool)(o:Oper)(σ:Sg):Option V :=
 match fA P gl σ o with
 | some (f,xs)=>if hint f then none else match V.unp xs with
  | some ts=>(pu f ts).map .p
  | none=>match V.frzs true σ xs with
   | some ts=>match pu f ts with
    | some r=>if r.scal then some (.p r) else none
    | none=>none
   | none=>none
 | none=>pV P gl o σ
def Jw(P:Program)(gl:Nat->Option (List Tr))(pu:FuncId->List Tr->Option Tr)(ev:Code->Sg->Option (Exit × Sg))(hint:FuncId->Bool)(o:Oper)(σ:Sg):Option (V × Sg) :=
 match fA P gl σ o with
 | some (f,xs)=>if hint f then EX P ev f xs σ else match V.unp xs with
  | some ts=>match pu f ts with
   | some r=>some (.p r,σ)
   | none=>EX P ev f xs σ
  | none=>match V.frzs false σ xs with
   | some ts=>match pu f ts with
    | some r=>if r.scal then some (.p r,σ) else some (.p r,σ.fzs (V.nmss xs))
    | none=>EX P ev f xs σ
   | none=>EX P ev f xs σ
 | none=>match C8 gl σ o with
  | some (i,xs)=>M7 ev i xs σ
  | none=>match oJ P gl o σ with
   | some r=>some r
   | none=>(pV P gl o σ).map fun x=>(x,σ)
def wS(σ:Sg):Option V->Option (V × Sg)
 | some v=>some (v,σ)
 | none=>none
def stF(P:Program)(gl:Nat->Option (List Tr))(pu:FuncId->List Tr->Option Tr)(ev:Code->Sg->Option (Exit × Sg))(hint:FuncId->Bool)(o:Oper)(σ:Sg):Option (V × Sg) :=
 match o.op with
 | .move x=>wS σ (evl gl σ x)
 | .assign x=>wS σ (evl gl σ x)
 | .load t x=>wS σ (((evl gl σ x).bind (look σ)).bind (eQ P t))
 | .binOp ..=>match iu P gl o σ with|some v=>some (v,σ)|none=>wS σ (eH P gl o σ)
 | .unOp ..=>wS σ (iu P gl o σ)
 | .pick ..=>wS σ (eH P gl o σ)
 | .fieldAddr ..=>wS σ (eH P gl o σ)
 | .field ..=>wS σ (eH P gl o σ)
 | .indexAddr ..=>wS σ (eH P gl o σ)
 | .extract ..=>wS σ (eH P gl o σ)
 | .makeFunc ..=>wS σ (eH P gl o σ)
 | .build ..=>wS σ (eH P gl o σ)
 | .store ..=>lw P gl o σ
 | .alloc ..=>lw P gl o σ
 | .box ..=>lw P gl o σ
 | _=>Jw P gl pu ev hint o σ
def evS(P:Program)(gl:Nat->Option (List Tr))(pu:FuncId->List Tr->Option Tr)(ev:Code->Sg->Option (Exit × Sg))(hint:FuncId->Bool)(ops:Array Oper):List Oper->Sg->Option Sg
 | [],σ=>some σ
 | o::l,σ=>match iw ops σ o with
  | some true=>match stF P gl pu ev hint o σ with
   | some (x,σ')=>match σ'.put o.dst x with
    | some τ=>evS P gl pu ev hint ops l τ
    | none=>none
   | none=>none
  | some false=>match σ.put o.dst (.p (.at undef)) with
   | some τ=>evS P gl pu ev hint ops l τ
   | none=>none
  | none=>none
structure Rc where
 kd:Bool
 bar:Bool
 x:V
 T:List (Nat × V)
 B:Sg
def LK(n:Nat):Option Tmp->Bool
 | none=>true
 | some d=>decide (d<n)
def trD(P:Program)(gl:Nat->Option (List Tr))(pu:FuncId->List Tr->Option Tr)(ev:Code->Sg->Option (Exit × Sg))(hint:FuncId->Bool)(ops:Array Oper)(n:Nat):List Oper->List (Nat × V)->Sg->Option (List Rc × List (Nat × V) × Sg)
 | [],T,B=>some ([],T,B)
 | o::l,T,B=>if LK n o.dst=true then match iw ops (Lk T B (o.looksAt ops)) o with
  | some true=>match J7 P gl pu hint o (Lk T B (o.looksAt ops)) with
   | some x=>if x.lt (nx B.obs)=true then (trD P gl pu ev hint ops n l (xh T o.dst x) B).map fun r=>(⟨true,false,x,T,B⟩::r.1,r.2) else none
   | none=>match Jw P gl pu ev hint o (Lk T B (o.looksAt ops)) with
    | some (x,σ')=>if x.lt (nx σ'.obs)=true then (trD P gl pu ev hint ops n l (xh T o.dst x) σ'.bare).map fun r=>(⟨true,true,x,T,B⟩::r.1,r.2) else none
    | none=>none
  | some false=>(trD P gl pu ev hint ops n l (xh T o.dst (.p (.at undef))) B).map fun r=>(⟨false,false,.p (.at undef),T,B⟩::r.1,r.2)
  | none=>none
  else none
def fT(rs:List Rc)(T:List (Nat × V))(i:Nat):List (Nat × V):=match rs[i]? with|some r=>r.T|none=>T
def fB(rs:List Rc)(B:Sg)(i:Nat):Sg:=match rs[i]? with|some r=>r.B|none=>B
def fX(rs:List Rc)(i:Nat):V:=match rs[i]? with|some r=>r.x|none=>.junk
def cJ(rs:List Rc)(i:Nat):Bool:=match rs[i]? with|some r=>r.bar|none=>false
def fkd(rs:List Rc)(i:Nat):Bool:=match rs[i]? with|some r=>r.kd|none=>false
def Gx:Value->Value->Bool
 | .int k i,.int k' i'=>decide (k=k')&&decide (i=i')
 | .bool a,.bool b=>a==b
 | .string a,.string b=>decide (a.data=b.data)
 | .nilFunc,.nilFunc=>true
 | .pointer none,.pointer none=>true
 | .map none,.map none=>true
 | .slice none 0 0,.slice none 0 0=>true
 | _,_=>false
mutual
def Tr.same:Tr->Tr->Bool
 | .at a,.at b=>Gx a b
 | .agg a,.agg b=>Tr.sames a b
 | .tup a,.tup b=>Tr.sames a b
 | .lst f a,.lst g b=>f==g&&Tr.sames a b
 | .elp a,.elp b=>Tr.sames a b
 | _,_=>false
def Tr.sames:List Tr->List Tr->Bool
 | [],[]=>true
 | x::l,y::m=>Tr.same x y&&Tr.sames l m
 | _,_=>false
end
mutual
def V.same:V->V->Bool
 | .p a,.p b=>Tr.same a b
 | .agg a,.agg b=>V.sames a b
 | .tup a,.tup b=>V.sames a b
 | .ref m,.ref n=>m==n
 | .off a b c,.off a' b' c'=>a==a'&&(b==b'&&c==c')
 | _,_=>false
def V.sames:List V->List V->Bool
 | [],[]=>true
 | x::l,y::m=>V.same x y&&V.sames l m
 | _,_=>false
end
def J4(P:Program)(gl:Nat->Option (List Tr))(pu:FuncId->List Tr->Option Tr)(hint:FuncId->Bool)(ops:Array Oper)(rs:List Rc)(h:Sg)(j c:Nat):Bool :=
 !lF (cJ rs) c || !inr ops (cJ rs) c j || (decide (c<=j)&&(List.range j).all fun i=>decide (i<c) || !cJ rs i) || match ops[j]?,rs[j]? with
  | some o,some r=>match J7 P gl pu hint o (Lk r.T (fB rs h c) (o.looksAt ops)) with
   | some y=>V.same y r.x&&r.x.lt (nx (fB rs h c).obs)
   | none=>false
  | _,_=>false
def NW(P:Program)(gl:Nat->Option (List Tr))(pu:FuncId->List Tr->Option Tr)(hint:FuncId->Bool)(ops:Array Oper)(rs:List Rc)(h:Sg):Bool :=
 !rs.any (·.bar) || (List.range ops.size).all fun j=>!(fkd rs j&&!cJ rs j) || (List.range (ops.size+1)).all fun c=>J4 P gl pu hint ops rs h j c
def MF(P:Program)(gl:Nat->Option (List Tr))(pu:FuncId->List Tr->Option Tr)(hint:FuncId->Bool)(ops:Array Oper)(rs:List Rc)(h:Sg):Bool :=
 !rs.any (·.bar) || (frp ops).all fun q=>!(cJ rs q.1 != cJ rs q.2) || match if cJ rs q.1 then q.2 else q.1 with
  | j=>!fkd rs j || (List.range (ops.size+1)).all fun c=>J4 P gl pu hint ops rs h j c
theorem qn{ops:Array Oper}{bar:Nat->Bool}(h:okD ops bar=true):∀(n:Nat){j m:Nat},bef ops n j m=true->j<m
 | 0,j,m,I=>by cases I
 | n+1,j,m,I=>by
  rw[bef]at I
  split at I
  ·rename_i o Z
   rw[RG]at I;obtain⟨e,he,I⟩:=I;rw[Array.mem_toList_iff]at he;simp only[ON,Pi,Pa]at I;have:=xb h Z he I.1;rcases I.2 with J|J
   ·omega
   ·have:=qn h n J;omega
  ·cases I
theorem KA{gl:Nat->Option (List Tr)}{pu:FuncId->List Tr->Option Tr}{rs:List Rc}(a':okD ops (cJ rs)=true)(hl:rs.length=ops.size)(h:MF P gl pu hint ops rs Bn=true):NW P gl pu hint ops rs Bn=true:=by
 unfold MF at h;unfold NW;rw[Pi]at h ⊢;rcases h with h|h
 ·exact .inl h
 refine .inr (List.all_eq_true.2 fun j hj=>?_);have hj:=List.mem_range.1 hj
 cases hk:fkd rs j with
 | false=>rfl
 | true =>
  cases hb:cJ rs j with
  | true=>rfl
  | false =>
   simp only[PY,Bool.and_self,PH,Rg];have size:∀m,cJ rs m=true->m<ops.size:=fun m hm=>by
    rw[<-hl];refine Nat.lt_of_not_le fun hle=>?_
    unfold cJ at hm;rw[PF hle]at hm;cases hm
   by_cases hex:∃m,cJ rs m=true/\bef ops ops.size j m=false/\bef ops ops.size m j=false
   ·obtain⟨m,hm,h1,h2⟩:=hex;have c':j≠m:=fun e=>by rw[e,hm]at hb;cases hb
    rcases Sj c' with Z|Z
    ·have:=List.all_eq_true.1 h _ (kJ (size m hm) Z h1)
     simpa [hb,hm,hk] using this
    ·have:=List.all_eq_true.1 h _ (kJ hj Z h2)
     simpa [hb,hm,hk] using this
   ·refine List.all_eq_true.2 fun c hc=>?_
    unfold J4
    cases I:lF (cJ rs) c with
    | false=>rfl
    | true =>
     cases g':inr ops (cJ rs) c j with
     | false=>rfl
     | true =>
      have ord:∀m,cJ rs m=true->(m<j/\m<c)\/(j<m/\c<=m):=fun m hm=>by
       have J:=List.all_eq_true.1 g' m (List.mem_range.2 (size m hm));rw[hm]at J;simp only[PH,Rg,ON,Pi,Pj,OW]at J
       cases h1:bef ops ops.size m j with
       | true=>rw[h1]at J;exact .inl ⟨qn a' _ h1,jQ J.1⟩
       | false =>
        cases h2:bef ops ops.size j m with
        | true=>rw[h2]at J;exact .inr ⟨qn a' _ h2,jQ J.2⟩
        | false=>exact (hex ⟨m,hm,h2,h1⟩).elim
      have d':c<=j:=by
       unfold lF at I;rw[Pi,Pa]at I;rcases I with e|e
       ·omega
       ·rcases ord _ e with h'|h'<;>omega
      have:((List.range j).all fun i=>decide (i<c) || !cJ rs i)=true:=List.all_eq_true.2 fun i J=>by
       have J:=List.mem_range.1 J
       cases f':cJ rs i with
       | false=>simp
       | true=>rcases ord i f' with h'|h'<;>simp<;>omega
      simp[d',this]
def Ll(P:Program)(gl:Nat->Option (List Tr))(pu:FuncId->List Tr->Option Tr)(ev:Code->Sg->Option (Exit × Sg))(hint:FuncId->Bool)(ops:Array Oper)(σ:Sg):Option Sg :=
 match trD P gl pu ev hint ops σ.cur.n ops.toList σ.cur.l σ.bare with
 | some (rs,Tn,Bn)=>if okF ops (cJ rs)=true/\(σ.cur.l.all fun x=>x.2.lt (nx σ.obs))=true/\MF P gl pu hint ops rs Bn=true then some (Bn.wl Tn) else none
 | none=>none
def puE(P:Program)(O:FuncId->List Tr->Option Tr)(ev:Code->Sg->Option (Exit × Sg))(f:FuncId)(ts:List Tr):Option Tr:=match O f ts with|some r=>some r|none=>Ji P ev f ts
def evQ(ev:Code->Sg->Option (Exit × Sg))(y:Code):Option (Exit × Sg)->Option (Exit × Sg)
 | some (.normal,τ)=>ev y τ
 | r=>r
def evB(ev:Code->Sg->Option (Exit × Sg))(x y:Code)(σ:Sg):Option Bool->Option (Exit × Sg)
 | some true=>ev x σ
 | some false=>ev y σ
 | none=>none
def evK(id:Nat):Option (Exit × Sg)->Option (Exit × Sg)
 | some (.exit id',τ)=>if id'=id then some (.normal,τ) else some (.exit id',τ)
 | r=>r
def evN:Option Sg->Option (Exit × Sg)
 | some τ=>some (.normal,τ)
 | none=>none
def evR(P:Program)(gl:Nat->Option (List Tr))(pu:FuncId->List Tr->Option Tr)(ev:Code->Sg->Option (Exit × Sg))(hint:FuncId->Bool)(ops:Array Oper)(σ:Sg):Bool->Option (Exit × Sg)
 | false=>evN (evS P gl pu ev hint ops ops.toList σ)
 | true=>evN (Ll P gl pu ev hint ops σ)
def evX(P:Program)(gl:Nat->Option (List Tr))(O:FuncId->List Tr->Option Tr)(hint:FuncId->Bool)(ev:Code->Sg->Option (Exit × Sg))(c:Code)(σ:Sg):Option (Exit × Sg) :=
 match c with
 | .skip=>some (.normal,σ)
 | .label _=>some (.normal,σ)
 | .exit id=>some (.exit id,σ)
 | .ret=>some (.ret,σ)
 | .seq x y=>evQ ev y (ev x σ)
 | .cond c x y=>evB ev x y σ ((evl gl σ c).bind V.bool?)
 | .block id c=>evK id (ev c σ)
 | .loop c=>evQ ev (.loop c) (ev c σ)
 | .region _ ops d=>evR P gl (puE P O ev) ev hint ops σ d
 | .rangeFunc g ps h I=>Nl P gl ev g ps h I σ
 | _=>none
def evC(P:Program)(gl:Nat->Option (List Tr))(O:FuncId->List Tr->Option Tr)(hint:FuncId->Bool):Nat->Code->Sg->Option (Exit × Sg)
 | 0=>fun _ _=>none
 | n+1=>evX P gl O hint (evC P gl O hint n)
def evF(P:Program)(gl:Nat->Option (List Tr))(O:FuncId->List Tr->Option Tr)(hint:FuncId->Bool)(n:Nat)(f:FuncId)(ts:List Tr):Option Tr:=Ji P (evC P gl O hint n) f ts
section
variable {gl:Nat->Option (List Tr)}
variable {pu:FuncId->List Tr->Option Tr}
def gp(P:Program)(gl:Nat->Option (List Tr))(pu:FuncId->List Tr->Option Tr):Prop:=∀f ts r,pu f ts=some r->PuC P gl f ts r
def fS(P:Program)(gl:Nat->Option (List Tr))(ev:Code->Sg->Option (Exit × Sg)):Prop :=
 ∀N c σ e τ,ev c σ=some (e,τ)->AWN P gl N c (fun e' τ'=>e'=e/\τ'=τ) σ
def Af(P:Program)(gl:Nat->Option (List Tr))(ev:Code->Sg->Option (Exit × Sg)):Prop :=
 ∀N c σ e τ,ev (.loop c) σ=some (e,τ)->LWN P gl N c (fun e' τ'=>e'=e/\τ'=τ) σ
theorem uaR(h:p:=by
  split at h
  ·rename_i τ I;exact key _ τ (.inl rfl) I h
  ·rename_i τ I;exact key _ τ (.inr rfl) I h
  ·cases h):p:=h
theorem px(hv:fS P gl ev){xs:List V}{x:V}(hc:fA P gl σ o=some (f,xs))(h:EX P ev f xs σ=some (x,σ')):Does P gl o σ x σ':=by
 unfold EX at h
 split at h
 ·rename_i fn hf
  split at h
  ·rename_i c Z
   have key:∀(e:Exit)(τ:Sg),(e=.normal\/e=.ret)->ev c ⟨σ.obs,frame fn xs::σ.stk,σ.lps⟩=some (e,τ)->((fD P τ fn).map fun x=>(x,(⟨τ.obs,τ.stk.tail,τ.lps⟩:Sg)))=some (x,σ')->Does P gl o σ x σ':=by
    intro e τ he I hr
    cases J:fD P τ fn with
    | none=>rw[J]at hr;cases hr
    | some y =>
     rw[J]at hr;cases hr;refine (nX hc hf Z ((hv _ _ _ _ _ I).mono ?_)).does;rintro e' τ' ⟨rfl,rfl⟩;exact⟨he,J,rfl⟩
   exact uaR
  ·cases h
 ·cases h
theorem GM(h:LR s=true):s=.ready:=by cases s<;>first|rfl|cases h
theorem JB(hv:fS P gl ev){xs:List V}{x:V}(hc:C8 gl σ o=some (i,xs))(h:M7 ev i xs σ=some (x,σ')):Does P gl o σ x σ':=by
 unfold M7 at h
 split at h
 ·rename_i lp hl
  split at h
  ·rename_i hp
   split at h
   ·rename_i τ1 ha
    split at h
    ·rename_i a' Z
     split at h
     ·rename_i hr
      split at h
      ·rename_i e τ2 hb
       split at h
       ·rename_i I pd J he
        split at h
        ·rename_i c'
         cases h
         refine (qV (F9 hc) hl hp.1 (fun t ht=>by have:=List.all_eq_true.1 hp.2 t ht;simpa using this) ((hv _ _ _ _ _ ha).mono ?_)).does;rintro e' τ' ⟨rfl,rfl⟩;refine⟨rfl,a',hr.1,Z,GM hr.2,(hv _ _ _ _ _ hb).mono ?_⟩;rintro e' τ' ⟨rfl,rfl⟩;exact⟨I,pd,c',J,he,rfl,rfl⟩
        ·cases h
       ·cases h
      ·cases h
     ·cases h
    ·cases h
   ·cases h
  ·cases h
 ·cases h
theorem JH(hv:fS P gl ev){Z:Code}(h:Nl P gl ev g ps Z bd σ=some (e,τ)):AWN P gl N (.rangeFunc g ps Z bd) (fun e' τ'=>e'=e/\τ'=τ) σ:=by
 unfold Nl at h
 split at h
 ·rename_i f xs hc
  split at h
  ·rename_i fn hf
   split at h
   ·rename_i c hb
    split at h
    ·rename_i e1 τ1 he
     split at h
     ·rename_i hk
      split at h
      ·rename_i lp hl
       split at h
       ·rename_i J
        refine AWN.rangeFunc hc hf hb ((hv _ _ _ _ _ he).mono ?_);rintro e' τ' ⟨rfl,rfl⟩;refine⟨?_,Option.isSome_iff_exists.1 hk.2.1,lp,hk.2.2,hl,fun a'=>(by rw[a']at J;cases J),?_⟩
        ·have:=hk.1
         cases e'<;>first|exact .inl rfl|exact .inr rfl|cases this
        ·split at h
         ·rename_i I;cases h;rw[I];exact⟨rfl,rfl⟩
         ·rename_i c' I;rw[I]at h ⊢;exact hv _ _ _ _ _ h
       ·cases h
      ·cases h
     ·cases h
    ·cases h
   ·cases h
  ·cases h
 ·cases h
theorem C5(hv:fS P gl ev){ts:List Tr}{r:Tr}(h:Ji P ev f ts=some r):PuC P gl f ts r:=by
 unfold Ji at h
 split at h
 ·rename_i fn hf
  split at h
  ·rename_i c Z
   have key:∀(e:Exit)(τ:Sg),(e=.normal\/e=.ret)->ev c ⟨[],[frame fn (ts.map .p)],[]⟩=some (e,τ)->(fD P τ fn).bind (V.frz false ⟨τ.obs,τ.stk.tail,τ.lps⟩)=some r->PuC P gl f ts r:=by
    intro e τ he I hr
    cases J:fD P τ fn with
    | none=>rw[J]at hr;cases hr
    | some y =>
     rw[J,OY]at hr;refine LW hf Z ((hv _ _ _ _ _ I).mono ?_);rintro e' τ' ⟨rfl,rfl⟩;exact⟨he,y,J,hr⟩
   exact uaR
  ·cases h
 ·cases h
mutual
theorem GJ:∀(x:V){t:Tr},x.frz false σ=some t->x.frz true σ=some t
 | .p t,_,h=>by rw[V.frz]at h ⊢;exact h
 | .agg cs,_,h=>by
  rw[V.frz]at h ⊢
  cases hf:V.frzs false σ cs with
  | none=>rw[hf]at h;cases h
  | some ts=>rw[gG cs hf];rw[hf]at h;exact h
 | .tup cs,_,h=>by
  rw[V.frz]at h ⊢
  cases hf:V.frzs false σ cs with
  | none=>rw[hf]at h;cases h
  | some ts=>rw[gG cs hf];rw[hf]at h;exact h
 | .ref n,_,h=>by rw[V.frz]at h ⊢;exact h
 | .off n i o,_,h=>by rw[V.frz]at h;simp at h
 | .arr n k len full,_,h=>by rw[V.frz]at h;cases h
 | .fn f a b,_,h=>by
  rw[V.frz]at h ⊢
  split at h
  ·rename_i x y h1 I;rw[gG a h1,gG b I];exact h
  ·cases h
 | .yld i,_,h=>by rw[V.frz]at h;cases h
 | .vw ..,_,h=>by rw[V.frz]at h;cases h
 | .junk,_,h=>by rw[V.frz]at h;cases h
theorem gG:∀(l:List V){ts:List Tr},V.frzs false σ l=some ts->V.frzs true σ l=some ts
 | [],_,h=>by rw[V.frzs]at h ⊢;exact h
 | x::l,_,h=>by
  rw[V.frzs]at h ⊢
  split at h
  ·rename_i t m h1 I;rw[GJ x h1,gG l I];exact h
  ·cases h
end
theorem J1{len:Nat}{vs:List V}{ts:List Tr}{r:Tr}(ho:o.op=.buildSlice t len parts)(c':mf gl σ (parts.toList.map (·.2))=some vs)(a':V.unp vs=some ts)(hb:bsl P ⟨[],[],[]⟩ t len ((parts.toList.map (·.1)).zip vs)=some (.p r,τ)):QDoes P gl o σ (.p r):=by
 intro n0 M w S a ρ h K Q n hk;have hr:=gE h c';have:=V.unp_eq a';subst this;obtain⟨h3,h4⟩:=sX hr
 let M0:Mem:=⟨M.F,fun _=>undef,fun _=>0,fun _=>0,fun _=>0,0⟩
 have hs:SR gl w.heap.size M0 w ⟨[],[],[]⟩ []:=⟨OI _,fun n x h=>(by cases h),fun m n x y g _ h=>(by cases h),trivial,h.gls,rfl,fun i lp h=>by simp at h,by simp,fun i j h=>by cases h⟩;have hlen:ts.length=parts.toList.length:=by have:=hr.1;simpa using this.symm
 have J:(parts.toList.map fun x=>(x.1,a.eval x.2)).map (·.1)=((parts.toList.map (·.1)).zip (ts.map V.p)).map (·.1):=by rw[PZ,List.map_fst_zip (by simp[hlen])];rfl
 have Z:Rvs M0 w (((parts.toList.map (·.1)).zip (ts.map V.p)).map (·.2)) ((parts.toList.map fun x=>(x.1,a.eval x.2)).map (·.2)):=by
  rw[List.map_snd_zip (by simp[hlen]),PZ];refine⟨by simp[hlen],fun i t v I hv=>?_⟩;rw[OQ]at I
  cases hi:ts[i]? with
  | none=>rw[hi]at I;cases I
  | some s =>
   rw[hi]at I;cases I;refine .p _ _ (h4 i s v hi ?_)
   simpa using hv
 obtain⟨M',w',u,h1,h2,hf,-,h5⟩:=IJ hs hb J Z;have he:(parts.toList.map fun x=>(x.1,a.eval x.2)).toArray=parts.map fun x=>(x.1,a.eval x.2):=by apply QZ;simp
 rw[he]at h1;refine lQ (u:=u) (w':=w') (by unfold execOp;simp[ho,h1]) (hk M'.F u w' h2 hf.lo ?_)
 cases h5 with
 | p _ _ hp=>exact .p _ _ hp
theorem pa{x:V}(h:pV P gl o σ=some x):QDoes P gl o σ x:=by
 unfold pV at h
 split at h
 ·rename_i y hy;cases h;exact (fF hy).qdoes
 ·split at h
  ·rename_i y hy;cases h;exact (lO hy).qdoes
  ·split at h
   ·rename_i t y ix ok J
    split at h
    ·rename_i yv iv hy hi
     refine Quiet.qdoes fun n0 M w S a ρ hs=>?_
     obtain⟨q,h1,Z⟩:=Gj hs h (aH hs hy) (aH hs hi);exact⟨q,by unfold execOp;simp[J,h1],Z⟩
    ·cases h
   ·rename_i t y lo hi J
    split at h
    ·rename_i u l hh hy hl a'
     cases I:slc P t u l hh with
     | none=>rw[I]at h;cases h
     | some r =>
      rw[I]at h;cases h;refine Quiet.qdoes fun n0 M w S a ρ hs=>?_
      cases aH hs hy with
      | p _ _ hu =>
       obtain⟨q,h1,Z⟩:=AT I hu (km hs hl) (km hs a');exact⟨q,by unfold execOp;simp[J,h1],.p _ _ Z⟩
    ·cases h
   ·rename_i t len parts J
    split at h
    ·rename_i vs d'
     split at h
     ·rename_i ts r τ c' hb
      cases h
      exact J1 J d' c' hb
     ·cases h
    ·cases h
   ·rename_i s d y J
    cases hy:evl gl σ y with
    | none=>rw[hy]at h;cases h
    | some yv =>
     rw[hy,OY]at h;refine Quiet.qdoes fun n0 M w S a ρ hs=>?_
     obtain⟨q,h1,Z⟩:=Nx hs h (aH hs hy);exact⟨q,by unfold execOp;simp[J,h1],Z⟩
   ·cases h
theorem Cu(hp:gp P gl pu){x:V}(h:J7 P gl pu hint o σ=some x):QDoes P gl o σ x:=by
 unfold J7 at h
 split at h
 ·rename_i f xs I
  split at h
  ·cases h
  ·split at h
   ·rename_i ts hu
    have:=V.unp_eq hu;subst this
    cases hr:pu f ts with
    | none=>rw[hr]at h;cases h
    | some r=>rw[hr]at h;cases h;exact nM I (hp f ts r hr)
   ·split at h
    ·rename_i ts hf
     split at h
     ·rename_i r hr
      split at h
      ·rename_i hs;cases h;exact nL I hf (hp f ts r hr) hs
      ·cases h
     ·cases h
    ·cases h
 ·exact pa h
theorem Ci(hp:gp P gl pu)(J:fS P gl ev){x:V}(h:Jw P gl pu ev hint o σ=some (x,σ')):Does P gl o σ x σ':=by
 unfold Jw at h
 split at h
 ·rename_i f xs I
  split at h
  ·exact px J I h
  ·split at h
   ·rename_i ts hu
    have:=V.unp_eq hu;subst this
    cases hr:pu f ts with
    | none=>rw[hr]at h;exact px J I h
    | some r=>rw[hr]at h;cases h;exact (nM I (hp f ts r hr)).does
   ·split at h
    ·rename_i ts hf
     split at h
     ·rename_i r hr
      split at h
      ·rename_i hs;cases h;exact (nL I (gG xs hf) (hp f ts r hr) hs).does
      ·cases h;exact yG I hf (hp f ts r hr)
     ·exact px J I h
    ·exact px J I h
 ·split at h
  ·rename_i i xs hy;exact JB J hy h
  ·split at h
   ·rename_i r hr;cases h;exact (iS hr).does
   ·cases hq:pV P gl o σ with
    | none=>rw[hq]at h;cases h
    | some y=>rw[hq]at h;cases h;exact (pa hq).does
theorem tk{q:Option V}{x:V}(hq:∀y,q=some y->Does P gl o σ y σ)(h:wS σ q=some (x,σ')):Does P gl o σ x σ':=by
 cases q with
 | none=>cases h
 | some y=>cases h;exact hq _ rfl
theorem AK(hp:gp P gl pu)(hv:fS P gl ev){x:V}(h:stF P gl pu ev hint o σ=some (x,σ')):Does P gl o σ x σ':=by
 unfold stF at h;have q:∀y,eH P gl o σ=some y->Does P gl o σ y σ:=fun y h=>(fF h).goes.does
 have pl:∀y,iu P gl o σ=some y->Does P gl o σ y σ:=fun y h=>(lO h).goes.does
 split at h
 ·rename_i y I;exact tk (fun z J=>q z (by unfold eH;rw[I];exact J)) h
 ·rename_i y I;exact tk (fun z J=>q z (by unfold eH;rw[I];exact J)) h
 ·rename_i t y I;exact tk (fun z J=>q z (by unfold eH;rw[I];exact J)) h
 ·split at h
  ·rename_i v Z;cases h;exact pl _ Z
  ·exact tk q h
 ·exact tk pl h
 all_goals first
  | exact tk q h
  | exact (xg h).does
  | exact Ci hp hv h
theorem AD(hp:gp P gl pu)(I:fS P gl ev):∀{l:List Oper}{σ τ:Sg},evS P gl pu ev hint ops l σ=some τ->wpR P gl N ops (fun τ'=>τ'=τ) l σ
 | [],σ,τ,h=>by cases h;rfl
 | o::l,σ,τ,h=>by
  rw[evS]at h;rw[wpR]
  split at h
  ·rename_i hw
   rw[hw]
   split at h
   ·rename_i x σ' hs
    split at h
    ·rename_i τ' hput;exact⟨x,σ',τ',(AK hp I hs).n,hput,AD hp I h⟩
    ·cases h
   ·cases h
  ·rename_i hw
   rw[hw]
   split at h
   ·rename_i τ' hput;exact⟨τ',hput,AD hp I h⟩
   ·cases h
  ·cases h
theorem Iz:∀{a b:Value},Gx a b=true->a=b:=by
 intro a b h;unfold Gx at h
 split at h
 ·simp only[ON,OW]at h;rw[h.1,h.2]
 ·simp only[Pa]at h;rw[h]
 ·rename_i a b;have I:=Pe h;cases a;cases b;exact congrArg (fun d=>Value.string ⟨d⟩) I
 all_goals first|rfl|cases h
mutual
theorem Tr.same_ok:∀(a b:Tr),Tr.same a b=true->a=b
 | .at a,.at b,h=>by rw[Tr.same]at h;rw[Iz h]
 | .agg a,.agg b,h=>by rw[Tr.same]at h;rw[Tr.sames_ok a b h]
 | .tup a,.tup b,h=>by rw[Tr.same]at h;rw[Tr.sames_ok a b h]
 | .lst f a,.lst g b,h=>by rw[Tr.same,ON,Pa]at h;rw[h.1,Tr.sames_ok a b h.2]
 | .elp a,.elp b,h=>by rw[Tr.same]at h;rw[Tr.sames_ok a b h]
 | .fn _ _ _,b,h=>by cases b<;>simp[Tr.same]at h
 | .at _,.agg _,h|.at _,.tup _,h|.at _,.lst _ _,h|.at _,.elp _,h|.at _,.fn _ _ _,h=>by simp[Tr.same]at h
 | .agg _,.at _,h|.agg _,.tup _,h|.agg _,.lst _ _,h|.agg _,.elp _,h|.agg _,.fn _ _ _,h=>by simp[Tr.same]at h
 | .tup _,.at _,h|.tup _,.agg _,h|.tup _,.lst _ _,h|.tup _,.elp _,h|.tup _,.fn _ _ _,h=>by simp[Tr.same]at h
 | .lst _ _,.at _,h|.lst _ _,.agg _,h|.lst _ _,.tup _,h|.lst _ _,.elp _,h|.lst _ _,.fn _ _ _,h=>by simp[Tr.same]at h
 | .elp _,.at _,h|.elp _,.agg _,h|.elp _,.tup _,h|.elp _,.lst _ _,h|.elp _,.fn _ _ _,h=>by simp[Tr.same]at h
theorem Tr.sames_ok:∀(a b:List Tr),Tr.sames a b=true->a=b
 | [],[],_=>rfl
 | x::l,y::m,h=>by rw[Tr.sames,ON]at h;rw[Tr.same_ok x y h.1,Tr.sames_ok l m h.2]
 | [],_::_,h=>by simp[Tr.sames]at h
 | _::_,[],h=>by simp[Tr.sames]at h
end
mutual
theorem V.same_ok:∀(a b:V),V.same a b=true->a=b
 | .p a,b,h=>by cases b<;>simp only[V.same]at h<;>first|cases h;done|rw[Tr.same_ok _ _ h]
 | .agg a,b,h=>by cases b<;>simp only[V.same]at h<;>first|cases h;done|rw[V.sames_ok a _ h]
 | .tup a,b,h=>by cases b<;>simp only[V.same]at h<;>first|cases h;done|rw[V.sames_ok a _ h]
 | .ref m,b,h=>by cases b<;>simp only[V.same]at h<;>first|cases h;done|(rw[Pa]at h;rw[h])
 | .off x y z,b,h=>by
  cases b<;>simp only[V.same]at h<;>first|cases h;done|(simp only[ON,Pa]at h;rw[h.1,h.2.1,h.2.2])
 | .arr _ _ _ _,b,h=>by cases b<;>simp[V.same]at h
 | .fn _ _ _,b,h=>by cases b<;>simp[V.same]at h
 | .yld _,b,h=>by cases b<;>simp[V.same]at h
 | .vw _ _ _,b,h=>by cases b<;>simp[V.same]at h
 | .junk,b,h=>by cases b<;>simp[V.same]at h
theorem V.sames_ok:∀(a b:List V),V.sames a b=true->a=b
 | [],[],_=>rfl
 | x::l,y::m,h=>by rw[V.sames,ON]at h;rw[V.same_ok x y h.1,V.sames_ok l m h.2]
 | [],_::_,h=>by simp[V.sames]at h
 | _::_,[],h=>by simp[V.sames]at h
end
def BP(P:Program)(gl:Nat->Option (List Tr))(ν:Sg->Nat)(ops:Array Oper)(n:Nat)(o:Oper)(r:Rc)(I:List (Nat × V))(h:Sg):Prop :=
 (∀d,o.dst=some d->d<n)/\I=xh r.T o.dst r.x/\iw ops (Lk r.T r.B (o.looksAt ops)) o=some r.kd/\(r.kd=false->r.x=.p (.at undef)/\r.bar=false)/\(r.bar=false->h=r.B) /\
 (r.bar=true->r.kd=true/\r.x.lt (ν h)=true/\∃σ',DoesN (ν r.B) P gl o (Lk r.T r.B (o.looksAt ops)) r.x σ'/\h=σ'.bare) /\
 (r.bar=false->r.kd=true->QDoes P gl o (Lk r.T r.B (o.looksAt ops)) r.x/\r.x.lt (ν r.B)=true)
theorem GC(hp:gp P gl pu)(hv:fS P gl ev){n:Nat}:∀{l:List Oper}{T:List (Nat × V)}{B:Sg}{rs:List Rc}{Tn:List (Nat × V)}{I:Sg},trD P gl pu ev hint ops n l T B=some (rs,Tn,I) ->
  rs.length=l.length/\fT rs Tn 0=T/\fB rs I 0=B/\(B.cur.l=[]->∀i,(fB rs I i).cur.l=[])/\∀i o,l[i]?=some o->∃r,rs[i]?=some r/\BP P gl (fun B=>nx B.obs) ops n o r (fT rs Tn (i+1)) (fB rs I (i+1))
 | [],T,B,rs,Tn,I,h=>by cases h;exact⟨rfl,rfl,rfl,fun h i=>by simpa [fB] using h,fun i o h=>by simp at h⟩
 | o::l,T,B,rs,Tn,I,h=>by
  rw[trD]at h
  split at h
  ·rename_i hd
   have a':∀d,o.dst=some d->d<n:=fun d e=>by rw[e]at hd;exact Pe hd
   have nx:∀{r:Rc}{T':List (Nat × V)}{B':Sg},((trD P gl pu ev hint ops n l T' B').map fun q=>(r::q.1,q.2))=some (rs,Tn,I)->r.T=T->r.B=B->(B.cur.l=[]->B'.cur.l=[])->BP P gl (fun B=>nx B.obs) ops n o r T' B' ->
     rs.length=(o::l).length/\fT rs Tn 0=T/\fB rs I 0=B/\(B.cur.l=[]->∀i,(fB rs I i).cur.l=[])/\∀i o',(o::l)[i]?=some o'->∃r,rs[i]?=some r/\BP P gl (fun B=>nx B.obs) ops n o' r (fT rs Tn (i+1)) (fB rs I (i+1)):=by
    intro r T' B' h hT hB hl hr
    cases he:trD P gl pu ev hint ops n l T' B' with
    | none=>rw[he]at h;cases h
    | some q =>
     obtain⟨J,d',c'⟩:=q;rw[he]at h;cases h;obtain⟨h1,h2,h3,h4,h5⟩:=GC hp hv he;refine⟨by simp[h1],hT,hB,fun hb i=>?_,fun i o' ho=>?_⟩
     ·cases i with
      | zero=>show r.B.cur.l=[];rw[hB];exact hb
      | succ i=>exact h4 (hl hb) i
     ·cases i with
      | zero =>
       cases ho
       refine⟨r,rfl,?_⟩;have e1:fT (r::J) Tn (0+1)=fT J Tn 0:=rfl;have e2:fB (r::J) I (0+1)=fB J I 0:=rfl;rw[e1,e2,h2,h3];exact hr
      | succ i=>exact h5 i o' (jQ ho)
   split at h
   ·rename_i hw
    split at h
    ·rename_i x hq
     split at h
     ·rename_i Z
      exact nx h rfl rfl id ⟨a',rfl,hw,fun e=>(by cases e),fun _=>rfl,fun e=>(by cases e),fun _ _=>⟨Cu hp hq,Z⟩⟩
     ·cases h
    ·split at h
     ·rename_i x σ' hs
      split at h
      ·rename_i Z
       exact nx h rfl rfl (fun _=>rfl) ⟨a',rfl,hw,fun e=>(by cases e),fun e=>(by cases e),fun _=>⟨rfl,Z,σ',(Ci hp hv hs).n,rfl⟩,fun e=>(by cases e)⟩
      ·cases h
     ·cases h
   ·rename_i hw
    exact nx h rfl rfl id ⟨a',rfl,hw,fun _=>⟨rfl,rfl⟩,fun _=>rfl,fun e=>(by cases e),fun _ e=>(by cases e)⟩
   ·cases h
  ·cases h
theorem vD{l:List (Nat×α)}{t:Nat}{x:α}(h:gt l t=some x):∃y∈l,y.2=x:=by
 induction l with
 | nil=>cases h
 | cons y l I =>
  rw[gt]at h
  split at h
  ·cases h;exact⟨y,by simp,rfl⟩
  ·obtain⟨z,h1,J⟩:=I h;exact⟨z,by simp[h1],J⟩
theorem CL{rs:List Rc}(h:∀i r,rs[i]?=some r->r.bar=false->fB rs J (i+1)=r.B):∀(c j:Nat),c<=j->(∀i,c<=i->i<j->cJ rs i=false)->fB rs J j=fB rs J c:=by
 intro c j a'
 induction j with
 | zero=>intro _;rw[show c=0 by omega]
 | succ j ih =>
  intro Z
  by_cases hc:c=j+1
  ·rw[hc]
  ·rw[<-ih om fun i h1 h2=>Z i h1 om];have I:=Z j om om
   cases hr:rs[j]? with
   | none =>
    have:=List.getElem?_eq_none_iff.1 hr;unfold fB;rw[PF om,hr]
   | some r =>
    unfold cJ at I;rw[hr]at I;rw[h j r hr I];unfold fB;rw[hr]
theorem pW(hm:P.follows .mixedOrders=true){rs:List Rc}{Tn:List (Nat×V)}(j':okD ops (cJ rs)=true)(hl:rs.length=ops.size)(h1:fT rs Tn 0=σ.cur.l)(h2:fB rs J 0=σ.bare)(h3:∀i,(fB rs J i).cur.l=[])(h4:∀i o,ops[i]?=some o->∃r,rs[i]?=some r/\BP P gl ν ops σ.cur.n o r (fT rs Tn (i+1)) (fB rs J (i+1)))(g':∀t x,gt σ.cur.l t=some x->x.lt (ν σ.bare)=true)(up:∀B B',ν B<=nx B'.obs->ν B<=ν B'/\ν B'<=nx B'.obs)(h':N<=nx σ.obs->N<=ν σ.bare/\ν σ.bare<=nx σ.obs)(H:∀i o r c,ops[i]?=some o->rs[i]?=some r->r.kd=true->r.bar=false->c<=ops.size->lF (cJ rs) c=true->inr ops (cJ rs) c i=true ->
   fB rs J c=fB rs J i\/(QDoes P gl o (Lk r.T (fB rs J c) (o.looksAt ops)) r.x/\r.x.lt (ν (fB rs J c))=true)):AWN P gl N (.region id ops true) (fun e τ'=>e=.normal/\τ'=J.wl Tn) σ:=by
 have same:∀i,cJ rs i=false->fB rs J (i+1)=fB rs J i:=fun i hb=>by
  by_cases hi:i<ops.size
  ·obtain⟨r,hr,I⟩:=h4 i _ (O5 hi);have a':r.bar=false:=by unfold cJ at hb;rw[hr]at hb;exact hb
   rw[I.2.2.2.2.1 a'];unfold fB;rw[hr]
  ·unfold fB;rw[PF om,PF om]
 have tr:TR P gl ops ν (cJ rs) (fkd rs) (fT rs Tn) (fB rs J) (fX rs):=by
  refine⟨fun i o Z=>?_,fun i o d Z hd=>?_,fun i o Z=>?_,fun i o Z hk=>?_,same,fun i o Z hb=>?_,fun i o c Z hk hb i' d' f'=>?_,fun t x hx=>?_,fun i j=>up _ _,h3⟩
  ·obtain⟨r,hr,I⟩:=h4 i o Z;rw[I.2.1];simp[fT,fX,hr]
  ·obtain⟨r,hr,I⟩:=h4 i o Z;rw[h2];exact I.1 d hd
  ·obtain⟨r,hr,I⟩:=h4 i o Z;have:=I.2.2.1;simp only[fT,fkd,hr];exact this
  ·obtain⟨r,hr,I⟩:=h4 i o Z;simp only[fkd,hr]at hk
   simpa only [fX,cJ,hr] using I.2.2.2.1 hk
  ·obtain⟨r,hr,I⟩:=h4 i o Z;simp only[cJ,hr]at hb;have:=I.2.2.2.2.2.1 hb;have eB:fB rs J i=r.B:=by simp[fB,hr]
   rw[eB]
   simpa only [fkd,fX,fT,hr] using this
  ·obtain⟨r,hr,I⟩:=h4 i o Z;have a':r.bar=false:=by simpa only [cJ,hr] using hb
   have c':r.kd=true:=by simpa only [fkd,hr] using hk
   have eT:fT rs Tn i=r.T:=by simp[fT,hr]
   have eX:fX rs i=r.x:=by simp[fX,hr]
   have eB:fB rs J i=r.B:=by simp[fB,hr]
   rw[eT,eX];rcases H i o r c Z hr c' a' i' d' f' with e|h
   ·rw[e,eB];exact I.2.2.2.2.2.2 a' c'
   ·exact h
  ·rw[h1]at hx;rw[h2];exact g' t x hx
 refine AWN.drawn hm j' tr h' h1 h2 ⟨rfl,?_⟩;have e1:fT rs Tn ops.size=Tn:=by unfold fT;rw[PF om]
 have e2:fB rs J ops.size=J:=by unfold fB;rw[PF om]
 rw[e1,e2]
theorem Kj(hm:P.follows .mixedOrders=true)(hp:gp P gl pu)(hv:fS P gl ev)(h:Ll P gl pu ev hint ops σ=some τ):AWN P gl N (.region id ops true) (fun e τ'=>e=.normal/\τ'=τ) σ:=by
 unfold Ll at h
 split at h
 ·rename_i rs Tn Bn m'
  split at h
  ·rename_i hc
   cases h
   obtain⟨Z,i',I⟩:=hc;obtain⟨hl,h1,h2,h3,h4⟩:=GC hp hv m';have a':rs.length=ops.size:=jQ hl;have Z:=G0 Z;have I:=KA Z a' I;refine pW (ν:=fun B=>nx B.obs) hm Z a' h1 h2 (h3 rfl) (fun i o ho=>h4 i o (jQ ho)) (fun t x hx=>(by obtain⟨y,hy,rfl⟩:=vD hx;exact List.all_eq_true.1 i' y hy)) (fun _ _ h=>⟨h,OI _⟩) (fun h=>⟨h,OI _⟩) fun i o r c ho hr hk hb p' f' h'=>?_
   have c':∀i r,rs[i]?=some r->r.bar=false->fB rs Bn (i+1)=r.B:=fun i r hr hb=>by
    have hi:i<ops.size:=by rw[<-a'];exact (List.getElem?_eq_some_iff.1 hr).1
    obtain⟨r',d',l'⟩:=h4 i ops[i] (by rw[Qo];exact O5 hi);rw[hr]at d';cases d';exact l'.2.2.2.2.1 hb
   have const:=CL c';unfold NW at I;rw[Pi]at I;rcases I with j'|I
   ·have g':∀k,cJ rs k=false:=fun k=>by
     unfold cJ
     cases hk:rs[k]? with
     | none=>rfl
     | some q =>
      have:rs.any (·.bar)=false:=jQ j';have:=List.any_eq_false.1 this q (Pb hk)
      simpa using this
    exact .inl ((const 0 c (OO _) fun k _ _=>g' k).trans (const 0 i (OO _) fun k _ _=>g' k).symm)
   ·have h5:=List.all_eq_true.1 I i (List.mem_range.2 (Array.getElem?_eq_some_iff.1 ho).1);rw[show fkd rs i=true by simp[fkd,hr,hk],show cJ rs i=false by simp[cJ,hr,hb]]at h5;have J:=List.all_eq_true.1 (jQ h5) c (List.mem_range.2 om);unfold J4 at J;rw[f',h']at J;simp only[PH,Rg,Pi]at J;rcases J with J|J
    ·simp only[ON,OW]at J;refine .inl (const c i J.1 fun k n' k'=>?_).symm;have:=List.all_eq_true.1 J.2 k (List.mem_range.2 k');simp only[Pi,OW,Pj]at this;rcases this with h|h
     ·omega
     ·exact h
    ·rw[ho,hr]at J;simp only[]at J
     split at J
     ·rename_i y hy
      rw[ON]at J;have:=V.same_ok _ _ J.1;subst this;exact .inr ⟨Cu hp hy,J.2⟩
     ·cases J
  ·cases h
 ·cases h
theorem NF(hm:P.follows .mixedOrders=true){O:FuncId->List Tr->Option Tr}(hO:gp P gl O)(I:fS P gl ev)(hl:Af P gl ev):fS P gl (evX P gl O hint ev)/\Af P gl (evX P gl O hint ev):=by
 have hp:gp P gl (puE P O ev):=fun f ts r h=>by
  unfold puE at h
  split at h
  ·rename_i r' hr;cases h;exact hO f ts _ hr
  ·exact C5 I h
 have loop:∀N c σ e τ,evQ ev (.loop c) (ev c σ)=some (e,τ)->LWN P gl N c (fun e' τ'=>e'=e/\τ'=τ) σ:=by
  intro N c σ e τ h;refine LWN.round ?_
  cases he:ev c σ with
  | none=>rw[he]at h;cases h
  | some r =>
   obtain⟨e1,τ1⟩:=r;refine (I N c σ e1 τ1 he).mono ?_;rintro e' τ' ⟨rfl,rfl⟩;rw[he]at h
   cases e'<;>first|exact hl N c τ' e τ h|(cases h;exact⟨rfl,rfl⟩)
 refine⟨fun N c σ e τ h=>?_,loop⟩
 cases c with
 | skip=>cases h;exact .skip ⟨rfl,rfl⟩
 | label l=>cases h;exact .label ⟨rfl,rfl⟩
 | exit id=>cases h;exact .exit ⟨rfl,rfl⟩
 | ret=>cases h;exact .ret ⟨rfl,rfl⟩
 | seq x y =>
  refine .seq ?_;simp only[evX]at h
  cases he:ev x σ with
  | none=>rw[he]at h;cases h
  | some r =>
   obtain⟨e1,τ1⟩:=r;refine (I N x σ e1 τ1 he).mono ?_;rintro e' τ' ⟨rfl,rfl⟩;rw[he]at h
   cases e'<;>first|exact I N y τ' e τ h|(cases h;exact⟨rfl,rfl⟩)
 | cond c x y =>
  simp only[evX]at h
  cases J:(evl gl σ c).bind V.bool? with
  | none=>rw[J]at h;cases h
  | some b=>rw[J]at h;cases b<;>exact .cond J (I _ _ _ _ _ h)
 | block id c =>
  refine .block ?_;simp only[evX]at h
  cases he:ev c σ with
  | none=>rw[he]at h;cases h
  | some r =>
   obtain⟨e1,τ1⟩:=r;refine (I N c σ e1 τ1 he).mono ?_;rintro e' τ' ⟨rfl,rfl⟩;rw[he]at h
   cases e' with
   | exit a' =>
    simp only[blk];simp only[evK]at h
    split
    ·rename_i hid;rw[OG hid]at h;cases h;exact⟨rfl,rfl⟩
    ·rename_i hid;rw[OF hid]at h;cases h;exact⟨rfl,rfl⟩
   | _=>cases h;exact⟨rfl,rfl⟩
 | loop c=>exact .loop (loop N c σ e τ h)
 | region id ops draw =>
  cases draw with
  | false =>
   simp only[evX]at h
   cases hs:evS P gl (puE P O ev) ev hint ops ops.toList σ with
   | none=>rw[evR,hs]at h;cases h
   | some τ1 =>
    rw[evR,hs]at h;cases h;refine AWN.region ?_;have:=AD (N:=N) hp I hs
    simpa using this
  | true =>
   simp only[evX]at h
   cases hs:Ll P gl (puE P O ev) ev hint ops σ with
   | none=>rw[evR,hs]at h;cases h
   | some τ1=>rw[evR,hs]at h;cases h;exact Kj hm hp I hs
 | rangeFunc g ps Z bd=>exact JH I h
 | _=>cases h
theorem Ow(hm:P.follows .mixedOrders=true){O:FuncId->List Tr->Option Tr}(hO:gp P gl O)(hint:FuncId->Bool)(n:Nat):fS P gl (evC P gl O hint n)/\Af P gl (evC P gl O hint n):=by
 induction n with
 | zero=>exact⟨fun _ c σ e τ h=>(by cases h),fun _ c σ e τ h=>(by cases h)⟩
 | succ n I=>exact NF hm hO I.1 I.2
theorem J8(hm:P.follows .mixedOrders=true){O:FuncId->List Tr->Option Tr}(hO:gp P gl O){n:Nat}{ts:List Tr}{r:Tr}(h:evF P gl O hint n f ts=some r):PuC P gl f ts r :=
 C5 (Ow hm hO hint n).1 h
end
end
end Go.Proofs.YteemngnialjaiaaGreatDoor
