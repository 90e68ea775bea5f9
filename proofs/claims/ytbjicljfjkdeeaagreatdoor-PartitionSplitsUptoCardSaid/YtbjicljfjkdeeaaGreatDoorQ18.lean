/- Part. -/
import Derived.Test.YtbjicljfjkdeeaaGreatDoorQ17
set_option maxRecDepth 100000
set_option maxHeartbeats 16000000
set_option linter.unusedVariables false
set_option linter.unusedSimpArgs false
namespace Go.Proofs.YtbjicljfjkdeeaaGreatDoor
open Go.Proofs.Tryz Go.RowKit
section
def Aft (gl:Nat->Option (List Tr)) (n0 N:Nat) (M:Mem) (w:World) (S:List Rf) (ρ:Option Nat) (Q:Exit->Sg->Prop) (e:Exit) (h:Act) (w':World):Prop :=
 ∃M' σ',Below n0 w w'/\Ff n0 N (nx σ'.obs) M w M' w'/\SR gl n0 M' w' σ' (rf h ρ::S)/\Q e σ'
def AW (P:Program) (gl:Nat->Option (List Tr)) (c:Code) (Q:Exit->Sg->Prop) (σ:Sg):Prop :=
 ∀(n0:Nat) (M:Mem) (w:World) (S:List Rf) (a:Act) (ρ:Option Nat) (n:Nat),SR gl n0 M w σ (rf a ρ::S)->c.wpIn (Rnd ρ) n P (Aft gl n0 (nx σ.obs) M w S ρ Q) a w
def Rps (F:Nat->Nat) (w:World) (ts:List Tr) (vs:List Value):Prop:=vs.length=ts.length/\∀(i:Nat) (t:Tr) (v:Value),ts[i]?=some t->vs[i]?=some v->Rp F w t v
def PuC (P:Program) (gl:Nat->Option (List Tr)) (f:FuncId) (ts:List Tr) (r:Tr):Prop :=
 ∀(F:Nat->Nat) (w:World) (vs:List Value),Rps F w ts vs->GOk gl F w ->
  Calls P f vs.toArray w fun e w'=>∃v h,e=.returned v/\Mm w w'/\(∀b,b<w.heap.size->h b=F b)/\Rp h w' r v
def nF (P:Program) (σ:Sg):List ResultVar->Option (List V)
 | []=>some []
 | .tmp t::l=>match gtm σ.cur.l t,nF P σ l with|some x,some m=>some (x::m)|_,_=>none
 | .cell p t::l=>match ((gtm σ.cur.l p).bind (look σ)).bind (fQ P t),nF P σ l with|some x,some m=>some (x::m)|_,_=>none
def iN (P:Program) (σ:Sg) (fn:Func):Option V :=
 match nF P σ fn.results.toList with
 | some [x]=>some x
 | some l=>some (.mkTup l)
 | none=>none
def frame (fn:Func) (xs:List V):Fr:=⟨xs.length+(fn.ntmps-xs.length),(xs.zipIdx 0).map fun x=>(x.2,x.1),none,[]⟩
section
variable {ρ : Option Nat}
variable {P : Program} {gl : Nat -> Option (List Tr)} {n0 : Nat} {M M' : Mem} {w w' : World} {σ σ' : Sg} {S : List Rf} {a : Act} {o : Oper}
theorem Gu:∀(xs:List V) (s t:Nat),gt ((xs.zipIdx s).map fun x=>(x.2,x.1)) t=if s<=t then xs[t-s]? else none
 | [],s,t=>by simp[gt]
 | x::xs,s,t=>by
  rw[List.zipIdx_cons,MF,gt,Gu xs (s+1) t]
  by_cases h:s=t
  ·subst h;simp
  ·by_cases z:s<=t
   ·rw[Mo h,Mp om,Mp z,show t-s=(t-(s+1))+1 by omega];simp
   ·rw[Mo h,Mo om,Mo z]
theorem F3 {fn:Func} {xs:List V} {vs:List Value} (h:Rvs M w xs vs):FrOk M w (frame fn xs) ⟨vs.toArray++Array.replicate (fn.ntmps-vs.toArray.size) undef,[],none⟩:=by
 refine⟨⟨by simp[frame,h.1],fun t x I=>?_⟩,rfl,fun i z=>(by cases z),rfl,fun i z=>(by cases z),fun i z=>(by cases z)⟩;simp only[frame]at I;rw[Gu,Mp (Mu _),Nat.sub_zero]at I;obtain⟨v,J,O⟩:=h.get I;refine⟨v,?_,O⟩;have G:=(List.getElem?_eq_some_iff.1 J).1;rw[Array.getElem?_append_left (jQ G)]
 simpa using J
def rv1 (T:Array Value):ResultVar->Sem Value
 | .tmp t=>pure (T.getD t undef)
 | .cell a t=>do loadVar t (<-asAddr (T.getD a undef))
theorem Bg (fn:Func) (T:Array Value):results fn T=((fn.results.mapM (rv1 T)) >>= fun vs=>pure (if h:vs.size=1 then vs[0] else .tuple vs)):=by
 unfold results;congr 1
theorem vu {T:Array Value} {D:List Deferred} (h:SR gl n0 M w σ (⟨T,D,ρ⟩::S)):∀{l:List ResultVar} {m:List V},nF P σ l=some m->∃vs:List Value,(l.mapM (rv1 T)).run P w=.ok vs w/\Rvs M w m vs
 | [],m,hm=>by cases hm;exact⟨[],rfl,rfl,fun i t v h=>by simp at h⟩
 | .tmp t::l,m,hm=>by
  rw[nF]at hm
  split at hm
  ·rename_i x Z z G
   cases hm
   obtain⟨vs,g1,g2⟩:=vu h G;have:=aJ (a:=⟨T,D⟩) (ρ:=ρ) (x:=.tmp t) h (y:=x) z;refine⟨T.getD t undef::vs,by simp only[List.mapM_cons,rv1,MP,NE,M9,g1],by simp[g2.1],fun i s u hs hu=>?_⟩
   cases i with
   | zero=>cases hs;cases hu;exact this
   | succ i=>exact g2.2 i s u (jQ hs) (jQ hu)
  ·cases hm
 | .cell p t::l,m,hm=>by
  rw[nF]at hm
  split at hm
  ·rename_i x Z z G
   cases hm
   obtain⟨vs,g1,g2⟩:=vu h G
   cases hp:gtm σ.cur.l p with
   | none=>rw[hp]at z;cases z
   | some y =>
    rw[hp,MR]at z
    cases J:look σ y with
    | none=>rw[J]at z;cases z
    | some cs =>
     rw[J,MR]at z;have:=aJ (a:=⟨T,D⟩) (ρ:=ρ) (x:=.tmp p) h (y:=y) hp;obtain⟨A,o',hv,hc⟩:=Bp h this J;obtain⟨v,O,k2⟩:=od (P:=P) hc z;have I:T.getD p undef=.pointer (some ⟨A,o',none⟩):=hv;refine⟨v::vs,by simp only[List.mapM_cons,rv1,MP,I,asAddr,NE,M9,O,g1],by simp[g2.1],fun i s u hs hu=>?_⟩
     cases i with
     | zero=>cases hs;cases hu;exact k2
     | succ i=>exact g2.2 i s u (jQ hs) (jQ hu)
  ·cases hm
theorem IE {T:Array Value} {D:List Deferred} (h:SR gl n0 M w σ (⟨T,D,ρ⟩::S)) {fn:Func} {x:V} (I:iN P σ fn=some x):∃v,(results fn T).run P w=.ok v w/\Rv M w x v:=by
 unfold iN at I;have key:∀{m:List V},nF P σ fn.results.toList=some m->∃vs:List Value,(results fn T).run P w=.ok (if h:vs.toArray.size=1 then vs.toArray[0] else .tuple vs.toArray) w/\Rvs M w m vs:=by
  intro m hm;obtain⟨vs,G,z⟩:=vu h hm;refine⟨vs,?_,z⟩;rw[Bg,Array.mapM_eq_mapM_toList];simp only[MP,Sem.run_map,G,M9,NE]
 split at I
 ·rename_i y hm
  cases I
  obtain⟨vs,G,z⟩:=key hm;have O:vs.length=1:=z.1
  match vs,O with
  | [v],_=>exact⟨v,jQ G,z.2 0 _ v rfl rfl⟩
 ·rename_i l J hm
  cases I
  obtain⟨vs,G,z⟩:=key hm;refine⟨.tuple vs.toArray,?_,Rv.mkTup z⟩;have:¬vs.toArray.size=1:=fun e=>by
   have e':l.length=1:=by rw[<-z.1];simpa using e
   match l,e' with
   | [y],_=>exact J y rfl
  rw[dif_neg this]at G;exact G
 ·cases I
theorem ObOk.obj {n:Nat} {x:Ob} (h:ObOk n0 M w n x) {g:Nat} (z:dG (M.h n)=some g):(∃c e J,w.heap[g]?=some (.cells c e J))\/∃es Z,w.heap[g]?=some (.map es Z):=by
 cases x with
 | box cs=>obtain⟨A,c,el,G,h2,O,h4,-⟩:=h;rw[G]at z;cases z;exact .inl ⟨_,_,_,h4⟩
 | row e k es J =>
  obtain⟨-,-,xs,G,-⟩:=h;rcases G.2 with ⟨I,-⟩|⟨g',cap,cur,I,hb,hh,-⟩
  ·rw[I]at z;cases z
  ·rw[I]at z;cases z;exact .inl ⟨_,_,_,hh⟩
 | map es Z=>obtain⟨r,a',G,h2,O,-⟩:=h;rw[G]at z;cases z;exact .inr ⟨_,_,O⟩
def isRec:Obj->Bool
 | .loop _=>true
 | .deferred _=>true
 | _=>false
theorem SR.rest (h:SR gl n0 M w σ S) {B:Nat} {o:Obj} (hB:w.heap[B]?=some o) (O:isRec o=true) (hw:∀k,k≠B->w'.heap[k]?=w.heap[k]?) :
  Kept M.F w M.F w'/\(∀t v,Rv M w t v->Rv M w' t v)/\(∀n x,gt σ.obs n=some x->ObOk n0 M w' n x)/\GOk gl M.F w':=by
 have z:Kept M.F w M.F w':=fun b j u hj he=>by
  have G:b≠B:=fun e=>by subst e;unfold World.cell? at he;rw[hB]at he;cases o<;>first|(cases O;done)|simp at he
  exact⟨by rw[ML (a:=⟨b,j,none⟩) (hw b G)];exact he,hj⟩
 have hκ:∀t v,Rv M w t v->Rv M w' t v:=fun t v hv=>hv.kept z rfl rfl
 refine⟨z,hκ,fun n x Z=>?_,fun g cs I=>(h.gls g cs I).kept z⟩;have hid:x.mp id=x:=by cases x<;>simp[Ob.mp]
 have:=(h.ob n x Z).move (M':=M) (w':=w') (κ:=id) hκ z rfl rfl (fun g I=>⟨hw g fun e=>(by
  subst e;rcases (h.ob n x Z).obj I with ⟨c,e,fz,J⟩|⟨es,cl,J⟩<;>rw[hB]at J<;>cases J<;>cases O),rfl⟩)
 rwa [hid]at this
theorem TmOk.rv {f:Fr} {t:Array Value} (h:TmOk M w f t) (J:∀t v,Rv M w t v->Rv M' w' t v):TmOk M' w' f t:=⟨h.1,fun s x I=>let ⟨v,G,z⟩:=h.2 s x I;⟨v,G,J x v z⟩⟩
theorem FrOk.rv {f:Fr} {t:Rf} (h:FrOk M w f t) (G:∀t v,Rv M w t v->Rv M w' t v) (hq:∀i,i∈f.ds->w'.heap[M.mq i]?=w.heap[M.mq i]?):FrOk M w' f t :=
 ⟨h.tm.rv G,h.rd,h.rl,h.ds,h.dl,fun i z=>by rw[hq i z];exact h.dm i z⟩
theorem Stk.rv (z:∀t v,Rv M w t v->Rv M w' t v):∀{l:List Fr} {S:List Rf},(∀f∈l,∀i∈f.ds,w'.heap[M.mq i]?=w.heap[M.mq i]?)->Stk M w l S->Stk M w' l S
 | [],[],_,_=>trivial
 | f::l,_::_,hq,h=>⟨h.1.rv z (hq f jS),Stk.rv z (fun f hf=>hq f (by simp[hf])) h.2⟩
 | [],_::_,_,h=>h.elim
 | _::_,[],_,h=>h.elim
theorem SR.take {f:Fr} {l:List Fr} {i:Nat} {ds:List Nat} {Z:List (Nat × Ob)} {O:List Lp} {T:Array Value} {D:List Deferred} (h:SR gl n0 M w ⟨Z,{ f with ds:=i::ds }::l,O⟩ (⟨T,D,ρ⟩::S)) :
  ∃D' w',D=mkD M i::D'/\(Instr.takeDeferred (M.mq i)).run P w=.ok [] w'/\Below n0 w w'/\Kept M.F w M.F w'/\SR gl n0 M w' ⟨Z,{ f with ds:=ds }::l,O⟩ (⟨T,D',ρ⟩::S):=by
 have hf:=h.stk.1;have hD:D=(i::ds).map (mkD M):=hf.ds;have hi:i<M.nl:=hf.dl i jS;have hm:w.heap[M.mq i]?=some (.deferred (some [])):=hf.dm i jS;have a':=(Array.getElem?_eq_some_iff.1 hm).1;obtain⟨w',z⟩:∃w',w'=({ w with heap:=w.heap.setIfInBounds (M.mq i) (.deferred none) }:World):=⟨_,rfl⟩;have G:∀k,k≠M.mq i->w'.heap[k]?=w.heap[k]?:=fun k hk=>by rw[z];exact PA (MT hk)
 have c':w'.heap[M.mq i]?=some (.deferred none):=by rw[z];simp[a']
 have j':n0<=M.mq i:=by
  have d':i<O.length:=by rw[h.nl];exact hi
  obtain⟨_,_,_,_,_,h2,_⟩:=h.lps i _ (Mq d');exact h2
 obtain⟨kp,hκ,f',i'⟩:=h.rest (w':=w') hm rfl G;have I:=h.nd;simp only[MM,Oi,MF,Pv,List.mem_map,NC,not_exists,not_and]at I;refine⟨ds.map (mkD M),w',hD,by rw[z];simp[Instr.takeDeferred,getObj,setObj,Sem.run,hm],?_,kp,?_⟩
 ·rw[z];exact⟨rfl,rfl,rfl,by simp,fun k hk=>by rw[<-G k om,z]⟩
 ·refine⟨by rw[z];simpa using h.size,f',h.apart,⟨⟨hf.tm.rv hκ,hf.rd,hf.rl,rfl,fun j J=>hf.dl j (by simp[J]),fun j J=>?_⟩,h.stk.2.rv hκ fun g hg j J=>G _ fun e=>?_⟩,i',h.nl,fun j lp J=>?_,?_,h.sep⟩
  ·rw[G _ fun e=>I.1 j (.inl J) e];exact hf.dm j (by simp[J])
  ·exact I.1 j (.inr (List.mem_flatMap.2 ⟨g,hg,J⟩)) e
  ·have h':j<M.nl:=by rw[<-h.nl];exact (List.getElem?_eq_some_iff.1 J).1
   obtain⟨fid,T',k1,⟨g',k2⟩,k3,k4,k5⟩:=h.lps j lp J;refine⟨fid,T',by rw[G _ (h.sep j i h' hi).1];exact k1,?_,k3,k4,k5.rv hκ⟩
   by_cases e:M.mq j=M.mq i
   ·exact⟨none,by rw[e];exact c'⟩
   ·exact⟨g',by rw[G _ e];exact k2⟩
  ·simp only[MM,NY]at I ⊢;exact I.2
theorem uX {z:List (Nat × Ob)} {h:List Lp} {l:List Fr} {f:Fr} {a b:List Nat}:∀(L:List ResultVar),nF P ⟨z,{ f with ds:=a }::l,h⟩ L=nF P ⟨z,{ f with ds:=b }::l,h⟩ L
 | []=>rfl
 | .tmp t::L=>by rw[nF,nF,uX L];rfl
 | .cell p t::L=>by
  rw[nF,nF,uX L];have:look (⟨z,{ f with ds:=a }::l,h⟩:Sg)=look (⟨z,{ f with ds:=b }::l,h⟩:Sg):=by funext v;cases v<;>rfl
  rw[this];rfl
theorem I0 {z:List (Nat × Ob)} {h:List Lp} {l:List Fr} {f:Fr} {a b:List Nat} {fn:Func}:iN P ⟨z,{ f with ds:=a }::l,h⟩ fn=iN P ⟨z,{ f with ds:=b }::l,h⟩ fn:=by
 unfold iN;rw[uX]
theorem tG {fn:Func} {x:V} {R:Ending->World->Prop} {n:Nat} {G:List (Nat × Ob)} {z:List Lp} {l:List Fr} {T:Array Value} {O:Nat->Nat} {J:World}:∀{ds:List Nat} {f:Fr} {D:List Deferred} {w0 w:World},
  SR gl n0 M w ⟨G,{ f with ds:=ds }::l,z⟩ (⟨T,D,ρ⟩::S)->Below n0 w0 w->iN P ⟨G,{ f with ds:=ds }::l,z⟩ fn=some x ->
  Kept O J M.F w->(∀w' v,Below n0 w0 w'->Kept O J M.F w'->SR gl n0 M w' ⟨G,l,z⟩ S->Rv M w' x v->R (.returned v) w')->LeavesInM (Rnd none) n P fn T R D .returning w
 | [],f,D,w0,w,h,hb,hx,hk,hR=>by
  have hD:D=[]:=h.stk.1.ds;subst hD;obtain⟨v,r1,r2⟩:=IE (P:=P) h hx;refine⟨v,r1,hR w v hb hk ⟨h.size,h.ob,h.apart,h.stk.2,h.gls,h.nl,h.lps,?_,h.sep⟩ r2⟩;have:=h.nd
  simpa using this
 | i::ds,f,D,w0,w,h,hb,hx,hk,hR=>by
  obtain⟨D',w',rfl,h1,Z,I,h3⟩:=h.take (P:=P);exact⟨by simp,.inl ⟨M.mq i,w',rfl,h1,tG (ds:=ds) (f:=f) h3 (hb.trans Z) (by rw[<-hx];exact I0) (hk.trans I) hR⟩⟩
theorem pV {f:FuncId} {fn:Func} {c:Code} (hf:P.funcs[f]?=some fn) (hb:fn.body=some c) {xs:List V} {vs:List Value} (h:SR gl n0 M w σ S) (hv:Rvs M w xs vs) {Q:V->Sg->Prop}
  (hw:AW P gl c (fun e σ'=>(e=.normal\/e=.ret)/\∃x,iN P σ' fn=some x/\Q x ⟨σ'.obs,σ'.stk.tail,σ'.lps⟩) ⟨σ.obs,frame fn xs::σ.stk,σ.lps⟩) :
  Calls P f vs.toArray w fun e w'=>∃v M' x σ',e=.returned v/\Below n0 w w'/\Ff n0 (nx σ.obs) (nx σ'.obs) M w M' w'/\SR gl n0 M' w' σ' S/\Rv M' w' x v/\Q x σ':=by
 refine (nh (ρ:=none) (n:=0)).1 (callsIn_of_wp_marks hf hb trivial ?_);have hs:SR gl n0 M w ⟨σ.obs,frame fn xs::σ.stk,σ.lps⟩ (rf ⟨vs.toArray++Array.replicate (fn.ntmps-vs.toArray.size) undef,[]⟩ none::S) :=
  ⟨h.size,h.ob,h.apart,⟨F3 hv,h.stk⟩,h.gls,h.nl,h.lps,by simpa [frame] using h.nd,h.sep⟩
 refine OH (hw n0 M w S ⟨_,[]⟩ none 0 hs) fun e a' w' hq=>?_
 obtain⟨M',σ',q2,q3,q4,q5,x,q6,q7⟩:=hq;have key:LeavesInM (Rnd none) 0 P fn a'.tmps (fun e w'=>∃v M' x σ',e=.returned v/\Below n0 w w'/\Ff n0 (nx σ.obs) (nx σ'.obs) M w M' w'/\SR gl n0 M' w' σ' S/\Rv M' w' x v/\Q x σ') a'.defers .returning w':=by
  obtain⟨I,Z,G⟩:=σ'
  cases Z with
  | nil=>exact q4.stk.elim
  | cons g l =>
   refine tG (ds:=g.ds) (f:=g) (l:=l) q4 q2 q6 (Kept.refl _ _) fun d' v c' O z J=>?_
   exact⟨v,M',x,⟨I,l,G⟩,rfl,c',q3.trans (.same O),z,J,q7⟩
 rcases q5 with rfl|rfl<;>exact key
theorem pc_of {f:FuncId} {fn:Func} {c:Code} (hf:P.funcs[f]?=some fn) (G:fn.body=some c) {ts:List Tr} {r:Tr}
  (hw:AW P gl c (fun e σ'=>(e=.normal\/e=.ret)/\∃x,iN P σ' fn=some x/\x.frz false ⟨σ'.obs,σ'.stk.tail,σ'.lps⟩=some r) ⟨[],[frame fn (ts.map .p)],[]⟩):PuC P gl f ts r:=by
 intro F w vs hr Z
 let M:Mem:=⟨F,fun _=>undef,fun _=>0,fun _=>0,fun _=>0,0⟩
 have hs:SR gl w.heap.size M w ⟨[],[],[]⟩ []:=⟨Mt _,fun n x h=>(by cases h),fun m n x y g _ h=>(by cases h),trivial,Z,rfl,fun i lp h=>by simp at h,by simp,fun i j h=>by cases h⟩;have J:Rvs M w (ts.map .p) vs:=⟨jQ hr.1,fun i t v z J=>by
  rw[MA]at z
  cases I:ts[i]? with
  | none=>rw[I]at z;cases z
  | some s=>rw[I]at z;cases z;exact .p _ _ (hr.2 i s v I J)⟩
 refine (pV hf G hs J (Q:=fun x σ'=>x.frz false σ'=some r) hw).mono ?_;rintro e w' ⟨v,M',x,σ',rfl,h1,O,h3,h4,h5⟩;obtain⟨F',f1,f2,f3,f4⟩:=h3.frz h4 h5;exact⟨v,F',rfl,h1,fun b G=>(f2.lo b G).trans (O.lo b G),f4⟩
end
end
section
def kz:V->Option (FuncId × List V × List V)
 | .p (.fn (.func f) a b)=>some (f,a.map .p,b.map .p)
 | .p (.at (.func (.func f) a b))=>some (f,a.toList.map fun v=>.p (.at v),b.toList.map fun v=>.p (.at v))
 | .fn (.func f) a b=>some (f,a,b)
 | _=>none
def Kf (P:Program) (f:FuncId):Bool:=match P.funcs[f]? with|some fn=>!(fn.name == "runtime.NumGoroutine")&&!fn.body.isNone|none=>false
mutual
def Tr.scal:Tr->Bool
 | .at _=>true
 | .agg cs=>Tr.scals cs
 | .tup cs=>Tr.scals cs
 | _=>false
def Tr.scals:List Tr->Bool
 | []=>true
 | t::l=>Tr.scal t&&Tr.scals l
end
theorem Tr.scals_get {l:List Tr} (h:Tr.scals l=true) {i:Nat} {t:Tr} (z:l[i]?=some t):t.scal=true:=by
 induction l generalizing i with
 | nil=>simp at z
 | cons x l G =>
  rw[Tr.scals,My]at h
  cases i with
  | zero=>simp at z;exact z▸h.1
  | succ i=>exact G h.2 (jQ z)
def iJ (P:Program) (gl:Nat->Option (List Tr)) (σ:Sg) (o:Oper):Option (FuncId × List V) :=
 match o.op with
 | .call c=>match c.callee with
  | .value f=>match (evl gl σ f).bind kz,mL gl σ c.args.toList with
   | some (f,a,b),some xs=>if Kf P f then some (f,a++xs++b) else none
   | _,_=>none
  | _=>none
 | _=>none
section
variable {ρ : Option Nat}
variable {P : Program} {gl : Nat -> Option (List Tr)} {n0 : Nat} {M M' : Mem} {w w' : World} {σ σ' : Sg} {S : List Rf} {a : Act} {o : Oper}
theorem Rp.scal {F O:Nat->Nat} {t:Tr} {v:Value} (h:Rp F w t v):t.scal=true->Rp O w' t v:=by
 induction h with
 | «at» v=>exact fun _=>.at v
 | agg cs vs I h J=>exact fun hs=>.agg cs vs I fun i t v z G=>J i t v z G (Tr.scals_get (by rwa [Tr.scal]at hs) z)
 | tup cs vs I h J=>exact fun hs=>.tup cs vs I fun i t v z G=>J i t v z G (Tr.scals_get (by rwa [Tr.scal]at hs) z)
 | _=>intro hs;simp[Tr.scal]at hs
theorem lP {f:FuncId} (h:Kf P f=true) (args:Array Value):(callFunc f args).run P w=.ok (.enter f args) w:=by
 unfold Kf at h
 split at h
 ·rename_i fn hf
  simp only[My,M4]at h;have G:¬fn.name = "runtime.NumGoroutine":=fun e=>by have:=h.1;rw[e]at this;simp at this
  have z:¬fn.body=none:=fun e=>by have:=h.2;rw[e]at this;simp at this
  simp[callFunc,hf,G,z]
 ·cases h
theorem sC {v:V} {u:Value} {f:FuncId} {ca cb:List V} (a':Rv M w v u) (h:kz v=some (f,ca,cb)):∃Z O:List Value,u=.func (.func f) Z.toArray O.toArray/\Rvs M w ca Z/\Rvs M w cb O:=by
 have pl:∀{cs:List Tr} {vs:Array Value},vs.size=cs.length->(∀(i:Nat) (t:Tr) (v:Value),cs[i]?=some t->vs[i]?=some v->Rp M.F w t v)->Rvs M w (cs.map .p) vs.toList:=fun {cs vs} hl hr =>
  ⟨by simp[hl],fun i t v z I=>by
   rw[MA]at z
   cases hi:cs[i]? with
   | none=>rw[hi]at z;cases z
   | some s=>rw[hi]at z;cases z;exact .p _ _ (hr i s v hi (jQ I))⟩
 cases a' with
 | p _ _ h1 =>
  cases h1 with
  | «at» u =>
   unfold kz at h
   split at h
   ·rename_i e;cases e
   ·rename_i f' a b e
    cases e
    cases h
    have q:∀a:Array Value,Rvs M w (a.toList.map fun v=>.p (.at v)) a.toList:=fun a=>⟨by simp,fun i t v z I=>by
     rw[MA,I]at z;cases z;exact .p _ _ (.at _)⟩
    exact⟨a.toList,b.toList,by simp,q a,q b⟩
   ·rename_i e;cases e
   ·cases h
  | fn g x y Z O G J ha hb =>
   cases g<;>simp only[kz,Ol,Prod.mk.injEq]at h<;>first|cases h;done|skip
   obtain⟨rfl,rfl,rfl⟩:=h;exact⟨Z.toList,O.toList,by simp,pl G ha,pl J hb⟩
  | _=>cases h
 | fn g x y Z O G J ha hb =>
  cases g<;>simp only[kz,Ol,Prod.mk.injEq]at h<;>first|cases h;done|skip
  obtain⟨rfl,rfl,rfl⟩:=h;exact⟨Z.toList,O.toList,by simp,⟨jQ G,fun i t v z I=>ha i t v z (jQ I)⟩,⟨jQ J,fun i t v z I=>hb i t v z (jQ I)⟩⟩
 | _=>cases h
theorem kE {f:FuncId} {xs:List V} (G:iJ P gl σ o=some (f,xs)) (h:SR gl n0 M w σ (rf a ρ::S)):∃vs:List Value,(execOp a.eval o).run P w=.ok (.enter f vs.toArray) w/\Rvs M w xs vs:=by
 unfold iJ at G;unfold execOp
 split at G
 ·rename_i c ho
  rw[ho]
  split at G
  ·rename_i q hq
   split at G
   ·rename_i f' ca cb ys z a'
    split at G
    ·rename_i c'
     cases G
     cases he:evl gl σ q with
     | none=>rw[he]at z;cases z
     | some cv =>
      rw[he,MR]at z;have d':=aJ h he;have J:=gV h a';have O:=sC d' z;obtain⟨va,Z,e1,e2,e3⟩:=O;refine⟨va++c.args.toList.map a.eval++Z,?_,(e2.append J).append e3⟩;have I:(va.toArray++c.args.map a.eval++Z.toArray)=(va++c.args.toList.map a.eval++Z).toArray:=by apply OG;simp
      simp only[resolve,hq,Deferred.ofValue,e1,MP,NE,M9,invoke];rw[I];exact lP c' _
    ·cases G
   ·cases G
  ·cases G
 ·cases G
theorem Gh (σ:Sg):∃L,∀n ob,gt σ.obs n=some ob->ob.sz<=L:=by
 have:∀l:List (Nat × Ob),∃L,∀n ob,gt l n=some ob->ob.sz<=L:=by
  intro l
  induction l with
  | nil=>exact⟨0,fun n ob h=>by cases h⟩
  | cons x l z =>
   obtain⟨L,hL⟩:=z;refine⟨L+x.2.sz,fun n ob h=>?_⟩;rw[gt]at h
   split at h
   ·cases h;omega
   ·have:=hL n ob h;omega
 exact this σ.obs
theorem yE {b:Bool} {xs:List V} {ts:List Tr} (h:V.frzs b σ xs=some ts):V.frz b σ (.agg xs)=some (.agg ts):=by rw[V.frz,h];rfl
theorem sT {f:FuncId} {xs:List V} {ts:List Tr} {r:Tr} (hc:iJ P gl σ o=some (f,xs)) (hf:V.frzs true σ xs=some ts) (Z:PuC P gl f ts r) (hs:r.scal=true):QDoes P gl o σ (.p r):=by
 intro n0 M w S a ρ h K Q n hk;obtain⟨vs,h1,h2⟩:=kE hc h;obtain⟨L,hL⟩:=Gh σ;have G:Rv M w (.agg xs) (.agg vs.toArray):=.agg _ _ (jQ h2.1) (fun i t v J z=>h2.2 i t v J (jQ z));have hF:∀b,M.F b<=M.F b+L:=fun b=>Nat.le_add_right _ _
 have I:=Hm h hF G (yE hf) (fun n ob g _ O _=>Mx (hL n ob O) (Nat.le_add_left _ _))
 cases I with
 | agg _ _ hl hr =>
  refine iZ h1 ?_;refine (Z (fun b=>M.F b+L) w vs ⟨jQ hl,fun i t v J z=>hr i t v J (jQ z)⟩ (fun g cs O=>(h.gls g cs O).kept fun b n u hn e=>⟨e,ME hn (hF b)⟩)).mono ?_;rintro e w' ⟨v,F',rfl,hb,a',z⟩;exact⟨v,rfl,hk M.F v w' hb (fun _ _=>rfl) (.p _ _ (z.scal hs))⟩
theorem sX {f:FuncId} {ts:List Tr} {r:Tr} (hc:iJ P gl σ o=some (f,ts.map .p)) (G:PuC P gl f ts r):QDoes P gl o σ (.p r):=by
 intro n0 M w S a ρ h K Q n hk;obtain⟨vs,h1,I⟩:=kE hc h;obtain⟨h3,Z⟩:=sN I;refine iZ h1 ((G M.F w vs ⟨h3,Z⟩ h.gls).mono ?_);rintro e w' ⟨v,O,rfl,J,z,hv⟩;exact⟨v,rfl,hk O v w' J z (.p _ _ hv)⟩
theorem G5 {f:FuncId} {xs:List V} {ts:List Tr} {r:Tr} (hc:iJ P gl σ o=some (f,xs)) (hf:V.frzs false σ xs=some ts) (Z:PuC P gl f ts r):kq P gl o σ (.p r) (σ.fzs (V.nmss xs)):=by
 intro n0 M w S a ρ h K Q n hk;obtain⟨vs,h1,h2⟩:=kE hc h;have I:Rv M w (.agg xs) (.agg vs.toArray):=.agg _ _ (jQ h2.1) (fun i t v J G=>h2.2 i t v J (jQ G));obtain⟨F,f1,f2,f3,f4⟩:=h.frz I (yE hf);rw[V.nms]at f2 f3
 cases f4 with
 | agg _ _ hl hr =>
  refine iZ h1 ?_;refine (Z F w vs ⟨jQ hl,fun i t v J G=>hr i t v J (jQ G)⟩ f3.gls).mono ?_;rintro e w' ⟨v,F',rfl,O,z,G⟩;exact⟨v,rfl,hk { M with F:=F' } v w' (O.mono f3.size) (f2.trans (.grow O z f3.size)) (f3.grow O F' z) (.p _ _ G)⟩
theorem Ea {f:FuncId} {xs:List V} {fn:Func} {c:Code} {x:V} (hc:iJ P gl σ o=some (f,xs)) (hf:P.funcs[f]?=some fn) (I:fn.body=some c)
  (hw:AW P gl c (fun e τ=>(e=.normal\/e=.ret)/\iN P τ fn=some x/\σ'=⟨τ.obs,τ.stk.tail,τ.lps⟩) ⟨σ.obs,frame fn xs::σ.stk,σ.lps⟩):kq P gl o σ x σ':=by
 intro n0 M w S a ρ h K Q n hk;obtain⟨vs,Z,z⟩:=kE hc h;refine iZ Z ?_;refine (pV hf I h z (Q:=fun y τ=>y=x/\σ'=τ) ?_).mono ?_
 ·refine fun n0 M w S a ρ n hs=>OH (hw n0 M w S a ρ n hs) ?_
  rintro e a' w' ⟨M',τ,q2,q3,q4,q5,J,G⟩;exact⟨M',τ,q2,q3,q4,q5,x,J,rfl,G⟩
 ·rintro e w' ⟨v,M',y,τ,rfl,h3,O,h5,h6,rfl,rfl⟩;exact⟨v,rfl,hk M' v w' h3 O h5 h6⟩
end
end
section
def mf (ops:Array Oper) (σ:Sg) (o:Oper):Option Bool :=
 match o.guard with
 | none=>some true
 | some (j,want)=>match ((ops[j]?).bind (·.dst)).bind (gt σ.cur.l) with
  | some x=>match x.toVal with
   | some (.bool b)=>some (b==want)
   | some _=>some false
   | none=>none
  | none=>none
def wpR (P:Program) (gl:Nat->Option (List Tr)) (ops:Array Oper) (K:Sg->Prop):List Oper->Sg->Prop
 | [],σ=>K σ
 | o::l,σ=>match mf ops σ o with
  | some true=>∃x σ' τ,kq P gl o σ x σ'/\σ'.put o.dst x=some τ/\wpR P gl ops K l τ
  | some false=>∃τ,σ.put o.dst (.p (.at undef))=some τ/\wpR P gl ops K l τ
  | none=>False
section
variable {ρ : Option Nat}
variable {P : Program} {gl : Nat -> Option (List Tr)} {n0 : Nat} {M M' : Mem} {w w' : World} {σ σ' : Sg} {S : List Rf} {a : Act} {o : Oper} {Q : Exit -> Sg -> Prop}
theorem xr {ops:Array Oper} {b:Bool} (h:SR gl n0 M w σ (rf a ρ::S)) (hw:mf ops σ o=some b):Region.wanted o (yielded ops a.tmps)=b:=by
 unfold mf at hw;unfold Region.wanted
 split at hw
 ·rename_i J;cases hw;rw[J]
 ·rename_i j want J
  rw[J];simp only[]
  split at hw
  ·rename_i x z
   cases G:(ops[j]?).bind (·.dst) with
   | none=>rw[G]at z;cases z
   | some t =>
    rw[G,MR]at z;obtain⟨f,l,hs,hf⟩:=h.cur;have hc:σ.cur=f:=by simp[Sg.cur,hs]
    rw[hc]at z;obtain⟨v,Z,h2⟩:=hf.tm.2 t x z;have Z:a.tmps[t]?=some v:=Z;have hy:yielded ops a.tmps j=(match v with|.bool b=>some b|_=>none:Option Bool):=by
     unfold yielded;simp only[G,MR,Z]
     cases v<;>rfl
    rw[hy]
    split at hw
    ·rename_i c O
     cases hw
     obtain rfl:=dF h2 O
     cases c<;>cases want<;>rfl
    ·rename_i u I hu
     cases hw
     obtain rfl:=dF h2 hu
     cases v<;>first|rfl|exact (I _ rfl).elim
    ·cases hw
  ·cases hw
theorem Aft.from {N G:Nat} {z:World} {J:Mem} {e:Exit} {I:Act} (hb:Below n0 w z) (hF:Ff n0 N G M w J z) (h:Aft gl n0 G J z S ρ Q e I w'):Aft gl n0 N M w S ρ Q e I w':=by
 obtain⟨M',σ',O,h3,Z,h5⟩:=h;exact⟨M',σ',hb.trans O,hF.trans h3,Z,h5⟩
theorem AW.mono {c:Code} {Q':Exit->Sg->Prop} (h:AW P gl c Q σ) (hq:∀e τ,Q e τ->Q' e τ):AW P gl c Q' σ:=fun n0 M w S a ρ n hs =>
 OH (h n0 M w S a ρ n hs) fun _ _ _ ⟨M',τ,z,J,G,I⟩=>⟨M',τ,z,J,G,hq _ _ I⟩
theorem SR.le (h:SR gl n0 M w σ' S) (z:Le σ σ'):SR gl n0 M w σ S:=h.less z.1 (z.2.1 M w _ h.stk) z.2.2.1 z.2.2.2
theorem AW.skip (h:Q .normal σ):AW P gl .skip Q σ:=fun n0 M w S a ρ n hs=>wpIn_skip ⟨M,σ,Mr _ _,.refl _ _ _ _,hs,h⟩
theorem AW.label {l:Nat} (h:Q .normal σ):AW P gl (.label l) Q σ:=fun n0 M w S a ρ n hs=>wpIn_label ⟨M,σ,Mr _ _,.refl _ _ _ _,hs,h⟩
theorem AW.exit {id:Nat} (h:Q (.exit id) σ):AW P gl (.exit id) Q σ:=fun n0 M w S a ρ n hs=>wpIn_exit ⟨M,σ,Mr _ _,.refl _ _ _ _,hs,h⟩
theorem AW.ret (h:Q .ret σ):AW P gl .ret Q σ:=fun n0 M w S a ρ n hs=>wpIn_ret ⟨M,σ,Mr _ _,.refl _ _ _ _,hs,h⟩
def thn (K:Sg->Prop) (Q:Exit->Sg->Prop):Exit->Sg->Prop
 | .normal,σ=>K σ
 | e,σ=>Q e σ
theorem AW.seq {x y:Code} (h:AW P gl x (thn (fun τ=>AW P gl y Q τ) Q) σ):AW P gl (.seq x y) Q σ:=fun n0 M w S a ρ n hs=>by
 refine wpIn_seq (OH (h n0 M w S a ρ n hs) ?_);rintro e O w' ⟨M',τ,z,J,G,I⟩
 cases e with
 | normal=>exact OH (I n0 M' w' S O ρ n G) fun _ _ _ k=>k.from z J
 | _=>exact⟨M',τ,z,J,G,I⟩
theorem AW.cond {c:Operand} {x y:Code} {b:Bool} (z:(evl gl σ c).bind V.bool?=some b) (h:AW P gl (if b then x else y) Q σ):AW P gl (.cond c x y) Q σ:=fun n0 M w S a ρ n hs=>by
 cases he:evl gl σ c with
 | none=>rw[he]at z;cases z
 | some v =>
  rw[he,MR]at z;exact wpIn_cond (Co (aJ hs he) z) (h n0 M w S a ρ n hs)
def blk (id:Nat) (Q:Exit->Sg->Prop):Exit->Sg->Prop
 | .exit id',σ=>if id'=id then Q .normal σ else Q (.exit id') σ
 | e,σ=>Q e σ
theorem AW.block {id:Nat} {c:Code} (h:AW P gl c (blk id Q) σ):AW P gl (.block id c) Q σ:=fun n0 M w S a ρ n hs=>by
 refine wpIn_block (OH (h n0 M w S a ρ n hs) ?_);rintro e Z w' ⟨M',τ,G,J,I,z⟩
 cases e with
 | exit O =>
  simp only[blk]at z;simp only[Exit.inBlock]
  split
  ·rename_i he;rw[Mp he]at z;exact⟨M',τ,G,J,I,z⟩
  ·rename_i he;rw[Mo he]at z;exact⟨M',τ,G,J,I,z⟩
 | _=>exact⟨M',τ,G,J,I,z⟩
def LW (P:Program) (gl:Nat->Option (List Tr)) (c:Code) (Q:Exit->Sg->Prop) (σ:Sg):Prop :=
 ∀(n0:Nat) (M:Mem) (w:World) (S:List Rf) (a:Act) (ρ:Option Nat) (n:Nat),SR gl n0 M w σ (rf a ρ::S)->∀(b:Frame) (k:List Item) (cs:List Frame),b.roundOf=ρ ->
  ∃e h w',Aft gl n0 (nx σ.obs) M w S ρ Q e h w'/\ArrivesIn (Machine.fenced P (Rnd ρ)) P (lone (b.atR a (.code c::.inLoop c::k)) cs w) b k cs e h w'
theorem FN (n:Nat):(Rnd ρ).room n:=fun _ h=>by cases h
theorem AW.loop {c:Code} (h:LW P gl c Q σ):AW P gl (.loop c) Q σ:=fun n0 M w S a ρ n hs b k cs z I hr=>by
 obtain⟨e,J,w',O,G⟩:=h n0 M w S a ρ n hs b k cs z;exact⟨e,J,w',O,.of_steps (.one (fenced_calm I hr rfl) stepR_loop) G⟩
theorem LW.round {c:Code} (h:AW P gl c (thn (fun τ=>LW P gl c Q τ) Q) σ):LW P gl c Q σ:=fun n0 M w S a ρ n hs b k cs Z=>by
 have hr:=FN (ρ:=ρ) (cs.length+1+n);obtain⟨e,J,G,⟨M',τ,h2,h3,h4,O⟩,z⟩:=h n0 M w S a ρ n hs b (.inLoop c::k) cs Z trivial hr;have hq:∀{e:Exit},Q e τ->Aft gl n0 (nx σ.obs) M w S ρ Q e J G:=fun q=>⟨M',τ,h2,h3,h4,q⟩
 cases e with
 | normal =>
  obtain⟨e₂,a₂,w₂,a',I⟩:=O n0 M' G S J ρ n h4 b k cs Z;exact⟨e₂,a₂,w₂,a'.from h2 h3,.of_steps (StepsIn.trans z (.one (fenced_calm trivial hr rfl) stepR_inLoop)) I⟩
 | exit id=>exact⟨_,J,G,hq O,.pass (x:=.inLoop c) rfl (fun _ _=>.inl jS) z⟩
 | goto l=>exact⟨_,J,G,hq O,.pass (x:=.inLoop c) rfl (fun _ _=>.inl jS) z⟩
 | ret=>exact⟨_,J,G,hq O,.pass (x:=.inLoop c) rfl (fun _ _=>.inl jS) z⟩
 | panic ch=>exact⟨_,J,G,hq O,.pass (x:=.inLoop c) rfl (fun _ _=>.inl jS) z⟩
 | outgrown=>exact⟨_,J,G,hq O,.pass (x:=.inLoop c) rfl (fun _ _=>.inl jS) z⟩
theorem LW.mono {c:Code} {Q':Exit->Sg->Prop} (h:LW P gl c Q σ) (hq:∀e τ,Q e τ->Q' e τ):LW P gl c Q' σ:=fun n0 M w S a ρ n hs b k cs z =>
 let ⟨e,I,w',⟨M',τ,G,Z,J,O⟩,h6⟩:=h n0 M w S a ρ n hs b k cs z;⟨e,I,w',⟨M',τ,G,Z,J,hq _ _ O⟩,h6⟩
theorem FW {d:Option Tmp} {x:V} {τ:Sg} (h:σ.put d x=some τ):nx τ.obs=nx σ.obs:=by
 cases d with
 | none=>cases h;rfl
 | some d =>
  have z:(if d<σ.cur.n then some (⟨σ.obs,{ σ.cur with l:=pt σ.cur.l d x }::σ.stk.tail,σ.lps⟩:Sg) else none)=some τ:=by rw[<-EQ];exact h
  split at z
  ·cases z;rfl
  ·cases z
theorem Ba {ops:Array Oper} {M0:Mem} {w0:World} {n N:Nat}:∀{l:List Oper} {σ:Sg} {M:Mem} {w:World} {a:Act},Below n0 w0 w->Ff n0 N (nx σ.obs) M0 w0 M w->SR gl n0 M w σ (rf a ρ::S) ->
  wpR P gl ops (fun τ=>Q .normal τ) l σ->wpListIn (Rnd ρ) n P ops (Aft gl n0 N M0 w0 S ρ Q) l a w
 | [],σ,M,w,a,hb,hF,hs,h=>wpListIn_nil ⟨M,σ,hb,hF,hs,h⟩
 | o::l,σ,M,w,a,hb,hF,hs,h=>by
  rw[wpR]at h;unfold wpListIn
  cases hw:mf ops σ o with
  | none=>rw[hw]at h;exact h.elim
  | some b =>
   rw[hw]at h;rw[xr hs hw]
   cases b with
   | true =>
    obtain⟨x,σ',τ,Z,z,J⟩:=h;rw[Mp rfl];exact Z n0 M w S a ρ hs _ _ n fun M' u w' O G I hr=>Ba (a:=a.put o.dst u) (hb.trans O) (by rw[FW z];exact hF.trans G) (I.put hr z) J
   | false =>
    obtain⟨τ,z,J⟩:=h;rw[Mo jS];exact⟨fun _ _=>trivial,Ba (a:=a.put o.dst undef) hb (by rw[FW z];exact hF) (hs.put (.p _ _ (.at undef)) z) J⟩
theorem AW.region {id:Nat} {ops:Array Oper} (h:wpR P gl ops (fun τ=>Q .normal τ) ops.toList σ):AW P gl (.region id ops false) Q σ:=fun n0 M w S a ρ n hs =>
 wpIn_region_list (Ba (Mr _ _) (.refl _ _ _ _) hs h)
end
end
end Go.Proofs.YtbjicljfjkdeeaaGreatDoor
