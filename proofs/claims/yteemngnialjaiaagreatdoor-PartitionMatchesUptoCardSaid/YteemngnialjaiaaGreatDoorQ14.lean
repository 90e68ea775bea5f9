/- Part. -/
import Derived.Test.YteemngnialjaiaaGreatDoorQ13
import Derived.Laws.IdiomStrings
import Derived.Laws.MakeOwn
import Derived.Lib.AppendStr
set_option maxRecDepth 100000
set_option maxHeartbeats 16000000
set_option linter.unusedVariables false
set_option linter.unusedSimpArgs false
namespace Go.Proofs.YteemngnialjaiaaGreatDoor
open Go.Proofs.Tryz Go.RowKit
variable {P:Program}{gl:Nat->Option (List Tr)}{n0 cl i:Nat}{M M':Mem}{w w':World}{σ σ':Sg}{S:List Rf}{a:Act}{o:Oper}{k t dst:TypeId}{es:List (Value×V×Nat)}{empty:Bool}{r x m:V}{I:Array MapEntry}{y:Value×V×Nat}{u v:Value}{p:Prop}{f:MapEntry->MapEntry}{q:MapEntry}{ρ:Option Nat}{F:Nat->Nat}
def ib(es:List (Value × V × Nat)):List MapEntry:=es.map fun x=>⟨x.1,undef,0⟩
def fnd(P:Program)(k:TypeId)(es:List (Value × V × Nat))(kv:Value)(empty:Bool):Option (Option Nat) :=
 match dr P (Instr.checkKey empty 10000 k kv),dr P (Instr.findKey k kv (ib es)) with
 | some _,some r=>some (r.map (·.1))
 | _,_=>none
def Dr(σ:Sg):V->Option (List (Value × V × Nat))
 | .ref n=>match gt σ.obs n with|some (.map es _)=>some es|_=>none
 | .p (.at (.map none))=>some []
 | _=>none
def lkp(P:Program)(σ:Sg)(t:TypeId)(x ix:V)(ok:Bool):Option V :=
 match P.underlying t,Dr σ x,ix.toVal with
 | some (.map k e),some es,some kv=>match fnd P k es kv es.isEmpty with
  | some (some i)=>match es[i]? with
   | some y=>some (if ok then V.mkTup [y.2.1,.p (.at (.bool true))] else y.2.1)
   | none=>none
  | some none=>match (P.info? e).bind (·.zero) with
   | some z=>some (if ok then V.mkTup [.p (.at z),.p (.at (.bool false))] else .p (.at z))
   | none=>none
  | none=>none
 | _,_,_=>none
def mup(P:Program)(σ:Sg)(t:TypeId)(m k x:V):Option (V × Sg) :=
 match P.underlying t,m,k.toVal with
 | some (.map kt _),.ref n,some kv=>match gt σ.obs n with
  | some (.map es cl)=>match fnd P kt es kv false with
   | some (some i)=>match es[i]? with
    | some y=>if Instr.sameBits 10000 y.1 kv=true then some (.p (.at undef),⟨pt σ.obs n (.map (es.set i (kv,x,y.2.2)) cl),σ.stk,σ.lps⟩) else none
    | none=>none
   | some none=>some (.p (.at undef),⟨pt σ.obs n (.map (es++[(kv,x,cl)]) (cl+1)),σ.stk,σ.lps⟩)
   | none=>none
  | _=>none
 | _,_,_=>none
def men(P:Program)(σ:Sg)(t:TypeId)(m k:V):Option (V × Sg) :=
 match P.underlying t,m,k.toVal with
 | some (.map kt et),.ref n,some kv=>match gt σ.obs n with
  | some (.map es cl)=>match fnd P kt es kv false with
   | some (some i)=>match es[i]? with
    | some y=>if Instr.sameBits 10000 y.1 kv=true then some (V.mkTup [y.2.1,.p (.at (goInt y.2.2))],⟨pt σ.obs n (.map (es.set i (kv,y.2.1,y.2.2)) cl),σ.stk,σ.lps⟩) else none
    | none=>none
   | some none=>match (P.info? et).bind (·.zero) with
    | some z=>some (V.mkTup [.p (.at z),.p (.at (goInt cl))],⟨pt σ.obs n (.map (es++[(kv,.p (.at z),cl)]) (cl+1)),σ.stk,σ.lps⟩)
    | none=>none
   | none=>none
  | _=>none
 | _,_,_=>none
def mst(σ:Sg)(m s x:V):Option (V × Sg) :=
 match m,s.int? with
 | .ref n,some b=>match gt σ.obs n with
  | some (.map es cl)=>match es.findIdx? (fun y=>(y.2.2:Int)==b) with
   | some i=>match es[i]? with
    | some y=>some (.p (.at undef),⟨pt σ.obs n (.map (es.set i (y.1,x,y.2.2)) cl),σ.stk,σ.lps⟩)
    | none=>none
   | none=>none
  | _=>none
 | _,_=>none
def xK(σ:Sg):V × Sg:=let n:=nm σ;(.ref n,σ.new n (.map [] 0))
theorem mn{α β:Type}{s:Sem α}{f:α->Sem β}{b:β}(h:dr P (s >>= f)=some b):∃a,dr P s=some a/\dr P (f a)=some b:=by
 induction s with
 | pure c=>exact⟨c,rfl,h⟩
 | program k ih=>exact ih P h
 | mark m k ih=>exact ih h
 | _=>cases h
theorem jr{d:TypeDesc}{kv:Value}:∀{l m:List MapEntry}{i:Nat},l.map (·.key)=m.map (·.key)->(Instr.findNow d kv l i).map (·.map (·.1))=(Instr.findNow d kv m i).map (·.map (·.1))
 | [],[],i,_=>rfl
 | [],_::_,i,h=>by cases h
 | _::_,[],i,h=>by cases h
 | x::l,y::m,i,h=>by
  simp only[OU,PJ]at h;simp only[Instr.findNow,h.1]
  cases hs:Instr.sameNow d kv y.key with
  | none=>rfl
  | some b=>cases b with
   | true=>rfl
   | false=>exact jr h.2
theorem rj{d:TypeDesc}{kv:Value}:∀{l:List MapEntry}{i:Nat}{r:Nat × Value},Instr.findNow d kv l i=some (some r)->∃e,l[r.1-i]?=some e/\i<=r.1/\r.2=e.val
 | [],i,r,h=>by cases h
 | x::l,i,r,h=>by
  simp only[Instr.findNow]at h
  cases hs:Instr.sameNow d kv x.key with
  | none=>rw[hs]at h;cases h
  | some b=>cases b with
   | true=>rw[hs]at h;cases h;exact⟨x,by simp,OI _,rfl⟩
   | false =>
    rw[hs]at h;obtain⟨e,h1,h2,h3⟩:=rj h;exact⟨e,by rw[show r.1-i=(r.1-(i+1))+1 by omega];simpa using h1,by omega,h3⟩
theorem my{k:TypeId}{kv:Value}:∀{l m:List MapEntry}{i:Nat}{r:Option (Nat × Value)},l.map (·.key)=m.map (·.key)->dr P (Instr.findAsking k kv m i)=some r ->
  ∃r',dr P (Instr.findAsking k kv l i)=some r'/\r'.map (·.1)=r.map (·.1)/\∀q,r'=some q->∃e,l[q.1-i]?=some e/\i<=q.1/\q.2=e.val
 | [],[],i,r,_,hr=>⟨r,hr,rfl,fun q e=>by cases hr;cases e⟩
 | [],_::_,i,r,h,_=>by cases h
 | _::_,[],i,r,h,_=>by cases h
 | x::l,y::m,i,r,h,hr=>by
  simp only[OU,PJ]at h;rw[Instr.findAsking]at hr;obtain⟨b,h1,h2⟩:=mn hr;rw[<-h.1]at h1;have hb:∀{β:Type}(f:Bool->Sem β),dr P (Op.equal k kv x.key >>= f)=dr P (f b):=by
   intro β f;generalize Op.equal k kv x.key=s at h1
   induction s with
   | pure c=>cases h1;rfl
   | program k ih=>exact ih P h1
   | mark m k ih=>exact ih h1
   | _=>cases h1
  rw[Instr.findAsking,hb]
  cases b with
  | true=>cases h2;exact⟨_,rfl,rfl,fun q e=>by cases e;exact⟨x,by simp,OI _,rfl⟩⟩
  | false =>
   obtain⟨r',g1,g2,g3⟩:=my h.2 h2;refine⟨r',g1,g2,fun q e=>?_⟩;obtain⟨e',q1,q2,q3⟩:=g3 q e;exact⟨e',by rw[show q.1-i=(q.1-(i+1))+1 by omega];simpa using q1,by omega,q3⟩
theorem nR{kv:Value}{r:Option Nat}(h:fnd P k es kv empty=some r){I:List MapEntry}(hk:I.map (·.key)=es.map (·.1))(w:World) :
  (Instr.checkKey empty 10000 k kv).run P w=.ok () w/\∃r',(Instr.findKey k kv I).run P w=.ok r' w/\r'.map (·.1)=r/\∀q,r'=some q->∃e,I[q.1]?=some e/\q.2=e.val:=by
 unfold fnd at h
 split at h
 ·rename_i u r0 h1 h2
  refine⟨gS h1 w,?_⟩;have hr:r0.map (·.1)=r:=jQ h;subst hr;unfold Instr.findKey at h2;obtain⟨d,h3,h4⟩:=mn h2;have hd:(underlying k).run P w=.ok d w:=gS h3 w;have Z:I.map (·.key)=(ib es).map (·.key):=by rw[hk,ib,PZ];rfl
  unfold Instr.findKey;rw[Pg,hd,Py]
  cases hf:Instr.findNow d kv (ib es) 0 with
  | some q =>
   rw[hf]at h4;have h5:=jr (d:=d) (kv:=kv) (i:=0) Z;rw[hf]at h5
   cases i':Instr.findNow d kv I 0 with
   | none=>rw[i']at h5;cases h5
   | some q' =>
    rw[i']at h5
    cases h4
    refine⟨q',rfl,jQ h5,fun s e=>?_⟩;subst e;obtain⟨e,g1,g2,g3⟩:=rj i';exact⟨e,jQ g1,g3⟩
  | none =>
   rw[hf]at h4;have h5:=jr (d:=d) (kv:=kv) (i:=0) Z;rw[hf]at h5
   cases i':Instr.findNow d kv I 0 with
   | some q'=>rw[i']at h5;cases h5
   | none =>
    obtain⟨r',g1,g2,g3⟩:=my Z h4;refine⟨r',gS g1 w,g2,fun q e=>?_⟩;obtain⟨e',q1,q2,q3⟩:=g3 q e;exact⟨e',jQ q1,q3⟩
 ·cases h
theorem pw{y:V}(h:Rv M w x u)(k:Rv M w y v):Rvs M w [x,y] [u,v]:=⟨rfl,fun j t q ht hq=>by
 cases j with
 | zero=>cases ht;cases hq;exact h
 | succ j =>
  cases j with
  | zero=>cases ht;cases hq;exact k
  | succ j=>simp at ht⟩
theorem uaM(h:p:=by
  apply Rw;intro i;rw[OQ,OQ]
  cases hi:es[i]? with
  | none=>rw[PF (by rw[QN,h4];exact List.getElem?_eq_none_iff.1 hi)];rfl
  | some x =>
   have a':i<I.size:=by rw[h4];exact (List.getElem?_eq_some_iff.1 hi).1
   have:=(h5 i x _ hi (O5 a')).1;rw[Qo,O5 a'];simp[this]):p:=h
theorem Gj(h:SR gl n0 M w σ S){ix y:V}{ok:Bool}(J:lkp P σ t x ix ok=some y)(hu:Rv M w x u)(hv:Rv M w ix v):∃q,(Instr.lookup t u v ok).run P w=.ok q w/\Rv M w y q:=by
 unfold lkp at J
 split at J
 ·rename_i k e es kv ht hm j'
  obtain rfl:=dJ hv j';have t':∃I:Array MapEntry,(u=.map none/\I=#[]\/∃r cl,u=.map (some r)/\(getObj r).run P w=.ok (.map I cl) w)/\I.size=es.length/\I.toList.map (·.key)=es.map (·.1) /\
    ∀(i:Nat)(x:Value × V × Nat)(e:MapEntry),es[i]?=some x->I[i]?=some e->Rv M w x.2.1 e.val:=by
   cases hu with
   | p _ _ h1 =>
    cases h1 with
    | «at» =>
     unfold Dr at hm
     split at hm
     ·rename_i e;cases e
     ·rename_i e;cases e;cases hm
      exact⟨#[],.inl ⟨rfl,rfl⟩,rfl,rfl,fun i x e h=>by simp at h⟩
     ·cases hm
    | _=>cases hm
   | ref n hc =>
    simp only[Dr]at hm
    split at hm
    ·rename_i es' cl he
     cases hm
     obtain⟨r,I,h1,h2,h3,h4,h5⟩:=h.ob n _ he;refine⟨I,.inr ⟨r,cl,h1,by simp[getObj,Sem.run,h3]⟩,h4,?_,fun i x e J he=>(h5 i x e J he).2.1⟩;exact uaM
    ·cases hm
   | _=>cases hm
  obtain⟨I,e1,e2,e3,e4⟩:=t';have n':I.isEmpty=es.isEmpty:=by
   cases es with
   | nil=>have:I=#[]:=Array.eq_empty_of_size_eq_zero (jQ e2);subst this;rfl
   | cons x l=>(have:I.size≠0:=by rw[e2];simp);simp[Array.isEmpty,this]
  split at J
  ·rename_i i hf
   split at J
   ·rename_i yy hy
    obtain⟨f1,r',f2,f3,f4⟩:=nR hf e3 w
    cases hr:r' with
    | none=>rw[hr]at f3;cases f3
    | some q =>
     rw[hr]at f3;have hq:q.1=i:=jQ f3;obtain⟨en,g1,g2⟩:=f4 q hr;rw[hq]at g1;have y':=e4 i yy en hy (jQ g1);refine⟨if ok then .tuple #[en.val,.bool true] else en.val,?_,?_⟩
     ·rw[<-n']at f1;rcases e1 with ⟨rfl,rfl⟩|⟨r,cl,rfl,hg⟩
      ·simp at g1
      ·simp[Instr.lookup,Pu ht,hg,f1,f2,hr,g2]
     ·cases J
      cases ok
      ·exact y'
      ·exact Rv.mkTup (pw y' (.p _ _ (.at (.bool true))))
   ·cases J
  ·rename_i hf
   split at J
   ·rename_i z hz
    cases hi:P.info? e with
    | none=>rw[hi]at hz;cases hz
    | some ie =>
     rw[hi,OY]at hz;obtain⟨f1,r',f2,f3,f4⟩:=nR hf e3 w
     cases hr:r' with
     | some q=>rw[hr]at f3;cases f3
     | none =>
      have l':(zeroValue e).run P w=.ok z w:=by simp[zeroValue,typeInfo,hi,hz]
      refine⟨if ok then .tuple #[z,.bool false] else z,?_,?_⟩
      ·rw[<-n']at f1;rw[hr]at f2;rcases e1 with ⟨rfl,rfl⟩|⟨r,cl,rfl,hg⟩
       ·have G':(Instr.checkKey true 10000 k v).run P w=.ok () w:=f1;have D':(Instr.findKey k v []).run P w=.ok none w:=f2;simp[Instr.lookup,Pu ht,G',D',l']
       ·simp[Instr.lookup,Pu ht,hg,f1,f2,l']
      ·cases J
       cases ok
       ·exact .p _ _ (.at _)
       ·exact Rv.mkTup (pw (.p _ _ (.at z)) (.p _ _ (.at (.bool false))))
   ·cases J
  ·cases J
 ·cases J
theorem FE(h:SR gl n0 M w σ S):∃M',Below n0 w (w.alloc (.map #[] 0))/\Ff n0 (nx σ.obs) (nx (xK σ).2.obs) M w M' (w.alloc (.map #[] 0))/\SR gl n0 M' (w.alloc (.map #[] 0)) (xK σ).2 S/\Rv M' (w.alloc (.map #[] 0)) (xK σ).1 (.map (some w.heap.size)):=by
 obtain⟨h1,h2,h3⟩:=h.new (n:=nm σ) (φ:=0) (k:=0) (v:=.map (some w.heap.size)) (ob:=.map [] 0) (o:=.map #[] 0)
  ⟨w.heap.size,#[],by simp[Mem.new],h.size,Qd w _,rfl,fun i x e h=>by simp at h⟩ (fun g hg=>by cases hg;rfl) (OI _)
 refine⟨_,h2,h3,h1,?_⟩;have:=Rv.ref (M:=M.new (nm σ) w.heap.size 0 (.map (some w.heap.size)) 0) (w:=w.alloc (.map #[] 0)) (nm σ) (by simp[Mem.new,Value.oneCell'])
 simpa [Mem.new,xK] using this
theorem uf(h:SR gl n0 M w σ S){n:Nat}(he:gt σ.obs n=some (.map es cl)):∃b I,M.h n=.map (some b)/\(getObj b).run P w=.ok (.map I cl) w/\I.size=es.length /\
  I.toList.map (·.key)=es.map (·.1)/\(∀(i:Nat)(x:Value × V × Nat)(e:MapEntry),es[i]?=some x->I[i]?=some e->e.key=x.1/\Rv M w x.2.1 e.val/\e.born=x.2.2) /\
  ∀(d':Array MapEntry)(es':List (Value × V × Nat))(g':Nat),d'.size=es'.length ->
   (∀(i:Nat)(x:Value × V × Nat)(e:MapEntry),es'[i]?=some x->d'[i]?=some e->e.key=x.1/\Rv M w x.2.1 e.val/\e.born=x.2.2) ->
   ∃w',(setObj b (.map d' g')).run P w=.ok () w'/\Below n0 w w'/\SR gl n0 M w' ⟨pt σ.obs n (.map es' g'),σ.stk,σ.lps⟩ S/\(∀t v,Rv M w t v->Rv M w' t v)/\Ff n0 (nx σ.obs) (nx (pt σ.obs n (.map es' g'))) M w M w':=by
 obtain⟨b,I,h1,h2,h3,h4,h5⟩:=h.ob n _ he;have Z:I.toList.map (·.key)=es.map (·.1):=by
  exact uaM
 have A':b<w.heap.size:=(Array.getElem?_eq_some_iff.1 h3).1;refine⟨b,I,h1,by simp[getObj,Sem.run,h3],h4,Z,h5,fun d' es' g' hs hr=>?_⟩
 let w':World:={ w with heap:=w.heap.setIfInBounds b (.map d' g') }
 have h':∀g,g≠b->w'.heap[g]?=w.heap[g]?:=fun g hg=>R6 (Pc hg)
 have F':w'.heap[b]?=some (.map d' g'):=by simp[w',A']
 have u':w'.heap.size=w.heap.size:=by simp[w']
 have kp:Kept M.F w M.F w':=fun c j u hj hc=>by
  have E':c≠b:=fun e=>by rw[e]at hc;simp[World.cell?,h3]at hc
  exact⟨by rw[Pf (a:=⟨c,j,none⟩) (h' c E')];exact hc,hj⟩
 have hκ:∀t v,Rv M w t v->Rv M w' t v:=fun t v hv=>hv.kept kp rfl rfl
 refine⟨w',by simp[setObj,Sem.run,h3,w'],⟨rfl,rfl,rfl,Qr u'.symm,fun g hg=>h' g om⟩,?_,hκ,.put kp⟩;have hh:=h.upd (M':=M) (w':=w') (κ:=id) (n:=n) (ob:=.map es' g') hκ kp (Qr u'.symm) (fun m _=>⟨rfl,rfl⟩)
  (fun m x g hm J hg=>⟨h' g (fun e=>h.apart n m _ x b (Pc hm) he J (by rw[h1];rfl) (e▸hg)),rfl⟩)
  ⟨b,d',h1,h2,F',hs,fun i x e J he=>let ⟨q1,q2,q3⟩:=hr i x e J he;⟨q1,hκ _ _ q2,q3⟩⟩
  (fun m x g hm J hg C'=>h.apart n m _ x g (Pc hm) he J hg C') (fun i hi=>by
   have B':i<σ.lps.length:=by rw[h.nl];exact hi
   obtain⟨fid,T,k1,⟨ds,k2⟩,-⟩:=h.lps i _ (OH B');exact⟨h' _ fun e=>(by rw[e,h3]at k1;cases k1),h' _ fun e=>(by rw[e,h3]at k2;cases k2)⟩)
 rwa [xY]at hh
theorem tV(hl:I.size=es.length)(h:∀(i:Nat)(x:Value × V × Nat)(e:MapEntry),es[i]?=some x->I[i]?=some e->e.key=x.1/\Rv M w x.2.1 e.val/\e.born=x.2.2)(hy:∀e,I[i]?=some e->(f e).key=y.1/\Rv M w y.2.1 (f e).val/\(f e).born=y.2.2) :
  ∀(j:Nat)(x:Value × V × Nat)(e:MapEntry),(es.set i y)[j]?=some x->(I.modify i f)[j]?=some e->e.key=x.1/\Rv M w x.2.1 e.val/\e.born=x.2.2:=by
 intro j z e hz c';rw[RC]at c';rw[Rd]at hz
 by_cases x':i=j
 ·subst x';rw[OG rfl]at c' hz
  split at hz
  ·rename_i a'
   have p':i<I.size:=by rw[hl];exact a'
   rw[O5 p']at c'
   cases hz;cases c'
   exact hy _ (O5 p')
  ·cases hz
 ·rw[OF x']at c' hz;exact h j z e hz c'
theorem yd(hl:I.size=es.length)(h:∀(i:Nat)(x:Value × V × Nat)(e:MapEntry),es[i]?=some x->I[i]?=some e->e.key=x.1/\Rv M w x.2.1 e.val/\e.born=x.2.2)(hy:q.key=y.1/\Rv M w y.2.1 q.val/\q.born=y.2.2) :
  ∀(j:Nat)(x:Value × V × Nat)(e:MapEntry),(es++[y])[j]?=some x->(I.push q)[j]?=some e->e.key=x.1/\Rv M w x.2.1 e.val/\e.born=x.2.2:=by
 intro j z e hz c';rw[Array.getElem?_push]at c'
 by_cases hj:j=I.size
 ·rw[OG hj]at c';rw[Pz om,hj,hl,Rx]at hz
  cases c';cases hz
  exact hy
 ·rw[OF hj]at c';have a':=(Array.getElem?_eq_some_iff.1 c').1;rw[Ph om]at hz;exact h j z e hz c'
theorem Ic{k:V}{q:Value}(h:SR gl n0 M w σ S)(J:mup P σ t m k x=some (r,σ'))(hu:Rv M w m u)(hv:Rv M w k v)(hq:Rv M w x q) :
  ∃M' w',(Instr.mapUpdate t u v q).run P w=.ok () w'/\Below n0 w w'/\Ff n0 (nx σ.obs) (nx σ'.obs) M w M' w'/\SR gl n0 M' w' σ' S/\r=.p (.at undef):=by
 unfold mup at J
 split at J
 ·rename_i kt et n kv ht j'
  obtain rfl:=dJ hv j'
  split at J
  ·rename_i es cl he
   obtain⟨b,I,h1,hg,h4,Z,h5,put⟩:=uf (P:=P) h he;have k':u=.map (some b):=by cases hu with|ref _ _=>exact h1
   subst k'
   split at J
   ·rename_i i hf
    split at J
    ·rename_i y hy
     split at J
     ·rename_i s'
      cases J
      obtain⟨c1,r',c2,c3,c4⟩:=nR hf Z w
      cases hr:r' with
      | none=>rw[hr]at c3;cases c3
      | some s =>
       rw[hr]at c3;have m':s.1=i:=jQ c3;have a':i<I.size:=by rw[h4];exact (List.getElem?_eq_some_iff.1 hy).1
       have f':=h5 i y _ hy (O5 a');obtain⟨w',p1,p2,p3,-,p5⟩:=put (I.modify i fun e=>{ e with key:=v,val:=q }) (es.set i (v,x,y.2.2)) cl (by simp[h4]) (tV h4 h5 fun e he=>by
        rw[O5 a']at he;cases he;exact⟨rfl,hq,f'.2.2⟩)
       refine⟨M,w',?_,p2,p5,p3,rfl⟩;unfold Instr.mapUpdate;rw[Pg,Pu ht,Py];simp only[Pg,hg,Py,c1,c2,hr,m',O5 a',PD,P3,Instr.keyThatStays,f'.1,s',Ps,P0,p1]
     ·cases J
    ·cases J
   ·rename_i hf
    cases J
    obtain⟨c1,r',c2,c3,c4⟩:=nR hf Z w
    cases hr:r' with
    | some s=>rw[hr]at c3;cases c3
    | none =>
     obtain⟨w',p1,p2,p3,-,p5⟩:=put (I.push { key:=v,val:=q,born:=cl }) (es++[(v,x,cl)]) (cl+1) (by simp[h4]) (yd h4 h5 ⟨rfl,hq,rfl⟩);refine⟨M,w',?_,p2,p5,p3,rfl⟩;unfold Instr.mapUpdate;rw[Pg,Pu ht,Py];simp only[Pg,hg,Py,c1,c2,hr,p1]
   ·cases J
  ·cases J
 ·cases J
theorem N0{k:V}(h:SR gl n0 M w σ S)(J:men P σ t m k=some (r,σ'))(hu:Rv M w m u)(hv:Rv M w k v) :
  ∃w' q,(Instr.mapEntry t u v).run P w=.ok q w'/\Below n0 w w'/\Ff n0 (nx σ.obs) (nx σ'.obs) M w M w'/\SR gl n0 M w' σ' S/\Rv M w' r q:=by
 unfold men at J
 split at J
 ·rename_i kt et n kv ht j'
  obtain rfl:=dJ hv j'
  split at J
  ·rename_i es cl he
   obtain⟨b,I,h1,hg,h4,Z,h5,put⟩:=uf (P:=P) h he;have k':u=.map (some b):=by cases hu with|ref _ _=>exact h1
   subst k'
   split at J
   ·rename_i i hf
    split at J
    ·rename_i y hy
     split at J
     ·rename_i s'
      cases J
      obtain⟨c1,r',c2,c3,c4⟩:=nR hf Z w
      cases hr:r' with
      | none=>rw[hr]at c3;cases c3
      | some s =>
       rw[hr]at c3;have m':s.1=i:=jQ c3;have a':i<I.size:=by rw[h4];exact (List.getElem?_eq_some_iff.1 hy).1
       have f':=h5 i y _ hy (O5 a');obtain⟨en,d1,d2⟩:=c4 s hr;rw[m']at d1;have z':I[i]?=some en:=jQ d1;have t':I[i]=en:=by rw[O5 a']at z';exact Pn z'
       obtain⟨w',p1,p2,p3,p4,p5⟩:=put (I.modify i fun e=>{ e with key:=v }) (es.set i (v,y.2.1,y.2.2)) cl (by simp[h4]) (tV h4 h5 fun e he=>by
        rw[O5 a']at he;cases he;exact⟨rfl,f'.2⟩)
       refine⟨w',.tuple #[s.2,goInt y.2.2],?_,p2,p5,p3,Rv.mkTup (pw (p4 _ _ (by rw[d2,<-t'];exact f'.2.1)) (.p _ _ (.at _)))⟩;unfold Instr.mapEntry;rw[Pg,Pu ht,Py];simp only[Pg,hg,Py,c1,c2,hr,m',O5 a',PD,P3,Instr.keyThatStays,f'.1,s',Ps,P0,p1,f'.2.2]
     ·cases J
    ·cases J
   ·rename_i hf
    split at J
    ·rename_i z hz
     cases J
     cases hi:P.info? et with
     | none=>rw[hi]at hz;cases hz
     | some ie =>
      rw[hi,OY]at hz;have l':(zeroValue et).run P w=.ok z w:=by simp[zeroValue,typeInfo,hi,hz]
      obtain⟨c1,r',c2,c3,c4⟩:=nR hf Z w
      cases hr:r' with
      | some s=>rw[hr]at c3;cases c3
      | none =>
       obtain⟨w',p1,p2,p3,p4,p5⟩:=put (I.push { key:=v,val:=z,born:=cl }) (es++[(v,.p (.at z),cl)]) (cl+1) (by simp[h4]) (yd h4 h5 ⟨rfl,.p _ _ (.at z),rfl⟩);refine⟨w',.tuple #[z,goInt cl],?_,p2,p5,p3,Rv.mkTup (pw (.p _ _ (.at z)) (.p _ _ (.at _)))⟩;unfold Instr.mapEntry;rw[Pg,Pu ht,Py];simp only[Pg,hg,Py,c1,c2,hr,l',p1,P0]
    ·cases J
   ·cases J
  ·cases J
 ·cases J
theorem yA(hl:I.size=es.length)(h:∀(i:Nat)(x:Value × V × Nat)(e:MapEntry),es[i]?=some x->I[i]?=some e->e.born=x.2.2)(b:Int) :
  I.findIdx? (fun e=>(e.born:Int)==b)=es.findIdx? (fun y=>(y.2.2:Int)==b):=by
 rw[show I.findIdx? (fun e=>(e.born:Int)==b)=I.toList.findIdx? (fun e=>(e.born:Int)==b) by cases I;simp];have:(I.toList.map fun e=>(e.born:Int))=es.map fun y=>(y.2.2:Int):=by
  apply Rw;intro i;rw[OQ,OQ]
  cases hi:es[i]? with
  | none=>rw[PF (by rw[QN,hl];exact List.getElem?_eq_none_iff.1 hi)];rfl
  | some x =>
   have a':i<I.size:=by rw[hl];exact (List.getElem?_eq_some_iff.1 hi).1
   have:=h i x _ hi (O5 a');rw[Qo,O5 a'];simp[this]
 have e1:I.toList.findIdx? (fun e=>(e.born:Int)==b)=(I.toList.map fun e=>(e.born:Int)).findIdx? (fun y=>y==b):=by rw[List.findIdx?_map];rfl
 have e2:es.findIdx? (fun y=>(y.2.2:Int)==b)=(es.map fun y=>(y.2.2:Int)).findIdx? (fun y=>y==b):=by rw[List.findIdx?_map];rfl
 rw[e1,e2,this]
theorem Mx{s:V}{q:Value}(h:SR gl n0 M w σ S)(J:mst σ m s x=some (r,σ'))(hu:Rv M w m u)(hv:Rv M w s v)(hq:Rv M w x q) :
  ∃w',(Instr.entryStore t u v q).run P w=.ok () w'/\Below n0 w w'/\Ff n0 (nx σ.obs) (nx σ'.obs) M w M w'/\SR gl n0 M w' σ' S/\r=.p (.at undef):=by
 unfold mst at J
 split at J
 ·rename_i n b hb
  obtain⟨kb,rfl⟩:=oc hv hb
  split at J
  ·rename_i es cl he
   obtain⟨c,I,h1,hg,h4,Z,h5,put⟩:=uf (P:=P) h he;have k':u=.map (some c):=by cases hu with|ref _ _=>exact h1
   subst k'
   split at J
   ·rename_i i hf
    split at J
    ·rename_i y hy
     cases J
     have a':i<I.size:=by rw[h4];exact (List.getElem?_eq_some_iff.1 hy).1
     have f':=h5 i y _ hy (O5 a');rw[<-yA h4 (fun i x e J he=>(h5 i x e J he).2.2) b]at hf;obtain⟨w',p1,p2,p3,-,p5⟩:=put (I.modify i fun e=>{ e with val:=q }) (es.set i (y.1,x,y.2.2)) cl (by simp[h4]) (tV h4 h5 fun e he=>by
      rw[O5 a']at he;cases he;exact⟨f'.1,hq,f'.2.2⟩)
     refine⟨w',?_,p2,p5,p3,rfl⟩;unfold Instr.entryStore;simp only[Pg,hg,Py,asInt,asIntOf,P0,hf,p1]
    ·cases J
   ·cases J
  ·cases J
 ·cases J
def gx(b:UInt8):Tr:=.at (.int .u8 b.toNat)
def JK:TypeDesc->Bool
 | .int .u8=>true
 | _=>false
def Lj(P:Program)(src dst:TypeId)(x:V):Option V :=
 match P.underlying src,P.underlying dst,x.toVal with
 | some .string,some (.slice e),some (.string s)=>match P.underlying e with
  | some d=>if JK d=true/\s.size<=maxLen then some (.p (.lst false (s.data.toList.map gx))) else none
  | none=>none
 | _,_,_=>none
def mks(P:Program)(σ:Sg)(t:TypeId)(l c:V):Option (V × Sg) :=
 match P.underlying t,l.int?,c.int? with
 | some (.slice e),some l,some c=>match P.info? e with
  | some i=>match i.zero with
   | some z=>if z.cells.size=i.size/\0<i.size/\0<=l/\l<=c/\(i.bytes:Int)*c<=281474976710656/\c<=9223372036854775807/\z.cells.all (·.oneCell')=true then
     some (.ref (nm σ),σ.new (nm σ) (.row e i.size (List.replicate l.toNat (.at z)) false)) else none
   | none=>none
  | none=>none
 | _,_,_=>none
theorem JR{src:TypeId}{y:V}(h:SR gl n0 M w σ S)(I:Lj P src dst x=some y)(hu:Rv M w x u) :
  ∃F v w',(convert src dst u).run P w=.ok v w'/\OD w w'/\(∀b,b<w.heap.size->F b=M.F b)/\Rv { M with F:=F } w' y v:=by
 unfold Lj at I
 split at I
 ·rename_i e s hs hd hv
  obtain rfl:=dJ hu hv
  split at I
  ·rename_i d he
   split at I
   ·rename_i hc
    cases I
    have h':d=.int .u8:=by
     unfold JK at hc
     split at hc
     ·rfl
     ·cases hc.1
    subst h';have c':=run_bytes_of_string (P:=P) w src dst e s hs hd he;have d':=grownCap_ge w s.size 0 e;have f':=So w s.size 0 e hc.2
    let F:Nat->Nat:=fun b=>if b=w.heap.size then s.size else M.F b
    refine⟨F,_,_,c',(OK _ _).drew.alloc (OI _) _,fun b hb=>by simp only[F];rw[OF om],.p _ _ ?_⟩;have Z:aO (s.data.toList.map gx)=s.data.toList.map gx:=by
     simp only[aO]
     induction s.data.toList with
     | nil=>rfl
     | cons x l ih=>simp only[OU,O8,ih];rfl
    have hlen:(s.data.toList.map gx).length=s.size:=by simp
    have:=Rp.lst (F:=F) (w:=w.drew.alloc (.cells (bytesRow s (grownCap w s.size 0 e)) e ((bytesRow s (grownCap w s.size 0 e)).size,(bytesRow s (grownCap w s.size 0 e)).size+1))) false (s.data.toList.map gx) w.heap.size 0 (grownCap w s.size 0 e) 1
     (fun j=>(bytesRow s (grownCap w s.size 0 e)).getD j undef) (fun x I=>by obtain⟨b,-,rfl⟩:=List.mem_map.1 I;rfl) (fun x I=>by rw[Z]at I;obtain⟨b,-,rfl⟩:=List.mem_map.1 I;rfl)
     (fun j J=>by
      rw[Z,hlen]at J;have hb:=bytesRow_at s (grownCap w s.size 0 e) j J;refine⟨?_,by show 0+j<F w.heap.size;have:F w.heap.size=s.size:=OG rfl;omega⟩;have hn:=Qd w.drew (.cells (bytesRow s (grownCap w s.size 0 e)) e ((bytesRow s (grownCap w s.size 0 e)).size,(bytesRow s (grownCap w s.size 0 e)).size+1));rw[show w.drew.heap.size=w.heap.size from rfl]at hn;unfold World.cell?;rw[hn,Pd];simp only[Option.isSome_none,Bool.false_eq_true,Qb,Rj,hb,P3])
     (fun j t ht=>by
      rw[Z,OQ]at ht
      cases J:s.data.toList[j]? with
      | none=>rw[J]at ht;cases ht
      | some b =>
       rw[J]at ht;cases ht;have a':j<s.data.size:=by have:=(List.getElem?_eq_some_iff.1 J).1;simpa using this
       have hb:=bytesRow_at s (grownCap w s.size 0 e) j a';have g':s.data[j]=b:=by rw[Qo,O5 a']at J;exact Pn J
       simp only[Rj,hb,P3,g'];exact .at _) (fun e=>by cases e) (by rw[hlen];exact d') f'
    rwa [hlen]at this
   ·cases I
  ·cases I
 ·cases I
theorem jb(z:Value):(Tr.at z).cells=z.cells.toList.map .at:=by cases z<;>rfl
theorem qt{x:Tr}{k:Nat}(hk:x.cells.length=k)(h0:0<k):∀(l j:Nat),j<l*k->(aO (List.replicate l x))[j]?=x.cells[j%k]?
 | 0,j,h=>by omega
 | l+1,j,h=>by
  simp only[List.replicate_succ,aO,O8]
  by_cases I:j<k
  ·rw[Ph om,Nat.mod_eq_of_lt I]
  ·rw[Pz om,hk];have:=qt hk h0 l (j-k) (by rw[Q8]at h;omega);rw[aO]at this;rw[this,show j%k=(j-k)%k by rw[Nat.mod_eq_sub_mod om]]
theorem MM{l c:V}(h:SR gl n0 M w σ S)(J:mks P σ t l c=some (r,σ'))(hu:Rv M w l u)(hv:Rv M w c v) :
  ∃M' w' q,(Instr.makeSlice t u v).run P w=.ok q w'/\Below n0 w w'/\Ff n0 (nx σ.obs) (nx σ'.obs) M w M' w'/\SR gl n0 M' w' σ' S/\Rv M' w' r q:=by
 unfold mks at J
 split at J
 ·rename_i e l' c' Z hl k'
  obtain⟨kl,rfl⟩:=oc hu hl;obtain⟨kc,rfl⟩:=oc hv k'
  split at J
  ·rename_i i hi
   split at J
   ·rename_i z hz
    split at J
    ·rename_i hc
     cases J
     obtain⟨c1,c2,c3,c4,c5,c6,c7⟩:=hc;have i':=run_make (P:=P) w t e i z Z hi hz kl kc l' c' c3 c4 c5 c6;have g':(Tr.at z).cells.length=i.size:=by rw[jb];simpa using c1
     have f':∀t∈List.replicate l'.toNat (Tr.at z),t.cells.length=i.size:=fun t Z=>by rw[(List.mem_replicate.1 Z).2];exact g'
     have h':=size_madeCells z.cells (c'.toNat*i.size);have hle:l'.toNat*i.size<=c'.toNat*i.size:=Q1 _ om;have a':∀x∈z.cells.toList,x.oneCell'=true:=fun x J=>(Array.all_eq_true_iff_forall_mem.1 c7) x (jQ J)
     obtain⟨M',m1,m2,m3,m4⟩:=ja (n:=nm σ) (N:=nm σ) (e:=e) (k:=i.size) (zs:=List.replicate l'.toNat (.at z)) (row:=none) (v':=.slice (some ⟨w.heap.size,0,none⟩) l'.toNat c'.toNat) (xs:=(madeCells z.cells (c'.toNat*i.size)).toList.take (l'.toNat*i.size)) h (OI _) c2
      ⟨by simp[h',hle],.inr ⟨w.heap.size,c'.toNat,_,by simp,h.size,Qd w _,by simp;omega,by rw[aQ];omega,h',by simp⟩⟩
      (World.grownBy_alloc w _ none) (fun g hg=>by cases hg) (fun g hg=>by cases hg;exact .inr rfl) f'
      (fun t Z=>by
       obtain⟨s,hs,j'⟩:=List.mem_flatMap.1 Z;rw[(List.mem_replicate.1 hs).2,jb]at j';obtain⟨y,hy,rfl⟩:=List.mem_map.1 j';exact a' y hy)
      (fun j t u Z hu=>by
       have hj:=(List.getElem?_eq_some_iff.1 Z).1;rw[gq f',List.length_replicate]at hj;rw[qt g' c2 _ _ hj,jb,OQ]at Z;have d':j%i.size<z.cells.size:=by rw[c1];exact Nat.mod_lt _ c2
       rw[Qt,OG hj]at hu;have I:(madeCells z.cells (c'.toNat*i.size))[j]?=some u:=jQ hu;unfold madeCells at I;rw[Array.getElem?_map,Array.getElem?_range]at I;rw[OG om]at I;simp only[PD,Qy]at I;rw[Qo,O5 d']at Z
       cases Z
       have e1:z.cells[j%z.cells.size]! = z.cells[j%i.size]:=by simp only[c1];exact getElem!_pos z.cells _ d'
       rw[e1]at I;exact I▸.at _)
     exact⟨M',_,_,i',m1,m2,m3,m4⟩
    ·cases J
   ·cases J
  ·cases J
 ·cases J
def AE:Tr->Bool
 | .lst full _=>full
 | _=>false
def nilOr:Tr->Tr
 | .at (.slice none 0 0)=>.at (.slice none 0 0)
 | _=>.lst false []
def slc(P:Program)(t:TypeId)(x:Tr)(h I:Option Int):Option Tr :=
 match P.underlying t,rX x with
 | some (.slice e),some es=>match P.info? e with
  | some i=>if 0<=h.getD 0/\h.getD 0<=I.getD es.length/\I.getD es.length<=es.length/\(es.all fun t=>t.cells.length==i.size)=true then
    some (if h.getD 0=I.getD es.length then nilOr x else .lst (AE x&&I.getD es.length==es.length) ((es.drop (h.getD 0).toNat).take (I.getD es.length-h.getD 0).toNat)) else none
  | none=>none
 | _,_=>none
def apS(P:Program)(σ:Sg)(t h:TypeId)(dst src:V):Option (V × Sg) :=
 match P.underlying t,P.underlying h,src.toVal with
 | some (.slice e),some .string,some (.string s)=>match P.info? e with
  | some i=>match i.zero with
   | some (.int .u8 0)=>if i.size=1/\i.bytes=1 then
     let go (τ:Sg) (es:List Tr):Option (V × Sg):=if es.length+s.size<=140737488355328 then some (.ref (nm σ),τ.new (nm σ) (.row e 1 (es++s.data.toList.map gx) false)) else none
     match dst with
     | .p (.at (.slice none 0 0))=>go σ []
     | .ref n=>match gt σ.obs n with
      | some (.row e' k es false)=>if e'=e/\k=1 then go (σ.rm n) es else none
      | _=>none
     | _=>none
    else none
   | _=>none
  | none=>none
 | _,_,_=>none
def bys:List Tr->Option (List UInt8)
 | []=>some []
 | .at (.int .u8 i)::l=>if ((UInt8.ofNat i.toNat).toNat:Int)=i then (bys l).map (UInt8.ofNat i.toNat::·) else none
 | _=>none
def bst(P:Program)(σ:Sg)(src dst:TypeId)(x:V):Option V :=
 match P.underlying src,P.underlying dst with
 | some (.slice e),some .string=>match P.underlying e with
  | some d=>if JK d=true then
    (match x with
    | .p (.lst _ es)=>bys es
    | .ref n=>match gt σ.obs n with|some (.row _ k es _)=>if k=1 then bys es else none|_=>none
    | _=>none).map fun(l:List UInt8)=>.p (.at (.string ⟨l.toArray⟩)) else none
  | none=>none
 | _,_=>none
def evo(gl:Nat->Option (List Tr))(σ:Sg):Option Operand->Option (Option Int)
 | none=>some none
 | some x=>((evl gl σ x).bind V.int?).map some
theorem IQ(w:World)(base:Nat)(t u ty e:TypeId)(i:TypeInfo)(ht:P.underlying t=some (.slice e))(hu:P.underlying u=some .string)(hi:P.info? e=some i)(hz:i.zero=some (.int .u8 0))(Z:i.size=1)(f':i.bytes=1)(v:Value)(n:Nat)(xs:List Value)(J:w.ownsRow base e 1 v n xs)(s:ByteArray)(h:n+s.size<=140737488355328)(d':base<=w.heap.size) :
  ∃v' w',(Builtin.append_ #[t,u] ty #[v,.string s]).run P w=.ok v' w'/\w'.ownsRow base e 1 v' (n+s.size) (xs++Lib.strCells s)/\w.grownBy w' (dj v)/\∀g,dj v'=some g->dj v=some g\/g=w.heap.size:=by
 obtain⟨v',w',I,ho,hg,g'⟩:=Lib.run_append_own_string (P:=P) w base t u ty e i ht hu hi hz Z f' v n xs J s (by rw[aQ];omega) h d';refine⟨v',w',I,ho,by rwa [<-un J],fun g a'=>?_⟩;rcases J.2 with ⟨rfl,hn⟩|⟨g0,cap,cur,rfl,hb,hh,hnc,hm,hsz,ht'⟩
 ·right
  by_cases hs:s.size=0
  ·have:=g'.2 ⟨rfl,hs⟩;subst this;cases a'
  ·rw[run_append_nil_string (P:=P) w t u ty e i _ ht hu hi hz s om om (by rw[f'];omega)]at I
   cases I;cases a';rfl
 ·by_cases c':n+s.size<=cap
  ·left
   rw[Lib.run_append_room_string (P:=P) w t u ty e i ht hu hi Z g0 n cap cur hh s c' om]at I
   cases I;exact a'
  ·right
   rw[Lib.run_append_grow_string (P:=P) w t u ty e i _ ht hu hi hz ⟨g0,0,none⟩ n cap xs (by rw[Z];exact J.1) (fun j v hj=>by
    obtain⟨A,cp,e1,e2⟩:=dw J hj
    cases e1;rw[cY];exact e2) s om om (growslice_fits om (by rw[f'];omega))]at I
   cases I;cases a';rfl
theorem nC{k:Nat}:∀(l:Nat){es:List Tr},(∀e∈es,e.cells.length=k)->aO (es.drop l)=(aO es).drop (l*k)
 | 0,es,_=>by simp
 | l+1,[],_=>by simp[aO]
 | l+1,e::es,h=>by
  have he:e.cells.length=k:=h e jS;have hm:(l+1)*k=l*k+k:=Q8 l k;rw[List.drop_succ_cons,nC l (fun e he=>h e (by simp[he])),show aO (e::es)=e.cells++aO es from O8,List.drop_append,he,QL (i:=(l+1)*k) (l:=e.cells) om,Ry,hm,R8]
theorem vG{k:Nat}:∀(l:Nat){es:List Tr},(∀e∈es,e.cells.length=k)->aO (es.take l)=(aO es).take (l*k)
 | 0,es,_=>by simp[aO]
 | l+1,[],_=>by simp[aO]
 | l+1,e::es,h=>by
  have he:e.cells.length=k:=h e jS;have hm:(l+1)*k=l*k+k:=Q8 l k;have:=vG l (es:=es) (fun e he=>h e (by simp[he]));rw[Sa,show aO (e::es.take l)=e.cells++aO (es.take l) from O8,this,show aO (e::es)=e.cells++aO es from O8,List.take_append,he,QK (i:=(l+1)*k) om,hm,R8]
theorem AT{x r:Tr}{lo hi:Option Int}{a' Z:Option Value}(hx:slc P t x lo hi=some r)(hr:Rp F w x v)(k':(∀l,lo=some l->∃k,a'=some (.int k l))/\(lo=none->a'=none))(d':(∀l,hi=some l->∃k,Z=some (.int k l))/\(hi=none->Z=none)):∃u,(Instr.sliceAt t v a' Z none).run P w=.ok u w/\Rp F w r u:=by
 unfold slc at hx
 split at hx
 ·rename_i e es ht I
  split at hx
  ·rename_i i n'
   split at hx
   ·rename_i hc
    obtain⟨c1,c2,c3,c4⟩:=hc;have hb:∀(len cap:Nat),len=es.length->len<=cap->(Instr.sliceBounds true len cap a' Z none).run P w=.ok ((lo.getD 0).toNat,(hi.getD es.length).toNat,cap) w:=by
     intro len cap hl p';subst hl
     cases lo with
     | none =>
      cases k'.2 rfl
      cases hi with
      | none=>cases d'.2 rfl;simp[Instr.sliceBounds]
      | some h =>
       obtain⟨k,e⟩:=d'.1 h rfl;subst e;simp only[P3,Option.getD_none]at c1 c2 c3 ⊢;simp[Instr.sliceBounds,RM w k h cap _ om om]
     | some l =>
      obtain⟨kl,e⟩:=k'.1 l rfl;subst e
      cases hi with
      | none =>
       cases d'.2 rfl
       simp only[P3,Option.getD_none]at c1 c2 c3 ⊢;simp[Instr.sliceBounds,RM w kl l es.length _ om om]
      | some h =>
       obtain⟨k,e⟩:=d'.1 h rfl;subst e;simp only[P3,Option.getD_none]at c1 c2 c3 ⊢;simp[Instr.sliceBounds,RM w k h cap _ om om,RM w kl l h.toNat _ om om]
    have run:∀(A:Option Addr)(len cap:Nat),len=es.length->len<=cap->(Instr.sliceAt t (.slice A len cap) a' Z none).run P w =
      .ok (.slice (if cap=(lo.getD 0).toNat then A else A.map (·.add ((lo.getD 0).toNat*i.size))) ((hi.getD es.length).toNat-(lo.getD 0).toNat) (cap-(lo.getD 0).toNat)) w:=by
     intro A len cap h1 h2;simp[Instr.sliceAt,Instr.slice,Pu ht,hb len cap h1 h2,cZ n']
    generalize lo.getD 0=l at *;generalize hi.getD es.length=h at *
    cases hx
    by_cases g':l=h
    ·rw[OG g'];subst g';have key:∀(A:Option Addr)(len cap:Nat),len=es.length->len<=cap->cap<=maxLen->∃u,(Instr.sliceAt t (.slice A len cap) a' Z none).run P w=.ok u w/\Rp F w (.lst false []) u:=fun A len cap h1 h2 h3=>by
      refine⟨_,run A len cap h1 h2,?_⟩;rw[Rx];exact .nil _ _ (OP (Nat.sub_le _ _) h3)
     cases hr with
     | «at» =>
      unfold rX at I
      split at I
      ·rename_i e;cases e
      ·rename_i e
       cases e;cases I
       have:=run none 0 0 rfl (OI _);rw[show l.toNat=0 by simp at c3;omega]at this;exact⟨_,this,.at _⟩
      ·cases I
     | nil a cap hm=>cases I;exact key _ _ _ rfl (OO _) hm
     | lst full es A o cap k g hk i' hg hr hf hle hm=>cases I;exact key _ _ _ rfl hle hm
     | _=>cases I
    ·rw[OF g']
     cases hr with
     | «at» =>
      unfold rX at I
      split at I
      ·rename_i e;cases e
      ·rename_i e;cases e;cases I;simp at c3;omega
      ·cases I
     | nil a cap=>cases I;simp at c3;omega
     | lst full es A o cap k g hk i' hg hr hf hle hm =>
      cases I
      obtain⟨J,rfl⟩:∃n:Nat,l=n:=⟨l.toNat,by omega⟩;obtain⟨hn,rfl⟩:∃n:Nat,h=n:=⟨h.toNat,by omega⟩;have h':J<es.length:=by omega
      have l':i.size=k:=by
       have h1:=List.all_eq_true.1 c4 _ (OX h');rw[<-hk _ (OX h')];simpa using (beq_iff_eq.1 h1).symm
      have j':∀e∈es.drop J,e.cells.length=k:=fun e he=>hk e (Q9 he)
      have m':aO ((es.drop J).take (hn-J))=((aO es).drop (J*k)).take ((hn-J)*k):=by rw[vG _ j',nC _ hk]
      have hlen:((es.drop J).take (hn-J)).length=hn-J:=by simp;omega
      have c':∀j t,(aO ((es.drop J).take (hn-J)))[j]?=some t->(aO es)[J*k+j]?=some t:=fun j t ht=>by
       rw[m',Qt]at ht
       split at ht
       ·rwa [Qa]at ht
       ·cases ht
      have f':=run (some ⟨A,o,none⟩) es.length cap rfl hle;rw[OF om]at f';simp only[R2,PD,AY,l']at f';refine⟨_,f',?_⟩;have hd:((hn:Int)-(J:Int)).toNat=hn-J:=by omega
      simp only[R2,hd];have:=Rp.lst (F:=F) (w:=w) (AE (.lst full es)&&((hn:Int)==(es.length:Int))) ((es.drop J).take (hn-J)) A (o+J*k) (cap-J) k (fun j=>g (J*k+j))
       (fun e he=>j' e (Ra he)) (fun t ht=>by
        obtain⟨j,hj,e⟩:=QO ht;exact i' t (Pb (c' j t (by rw[<-e];exact OH hj))))
       (fun j hj=>by
        have:=hg _ (List.getElem?_eq_some_iff.1 (c' j _ (OH hj))).1
        rwa [<-PP]at this)
       (fun j t ht=>hr _ t (c' j t ht)) (fun e=>by
        simp only[AE,ON,Pa]at e;have:=hf e.1;rw[hlen];omega) (by rw[hlen];omega) om
      rwa [hlen]at this
     | _=>cases I
   ·cases hx
  ·cases hx
 ·cases hx
theorem jc(l:List UInt8):aO (l.map gx)=l.map gx:=by
 simp only[aO]
 induction l with
 | nil=>rfl
 | cons x l h=>simp only[OU,O8,h];rfl
theorem Of{t' ty:TypeId}{dst src:V}(h:SR gl n0 M w σ S)(I:apS P σ t t' dst src=some (r,σ'))(hu:Rv M w dst u)(hv:Rv M w src v) :
  ∃M' w' q,(Builtin.append_ #[t,t'] ty #[u,v]).run P w=.ok q w'/\Below n0 w w'/\Ff n0 (nx σ.obs) (nx σ'.obs) M w M' w'/\SR gl n0 M' w' σ' S/\Rv M' w' r q:=by
 unfold apS at I
 split at I
 ·rename_i e s J l' hs
  obtain rfl:=dJ hv hs
  split at I
  ·rename_i i hi
   split at I
   ·rename_i hz
    split at I
    ·rename_i hc
     simp only[]at I;have key:∀(τ:Sg)(es:List Tr)(xs:List Value),SR gl n0 M w τ S->(if es.length+s.size<=140737488355328 then some (V.ref (nm σ),τ.new (nm σ) (.row e 1 (es++s.data.toList.map gx) false)) else none)=some (r,σ') ->
       w.ownsRow n0 e 1 u es.length xs->(∀t∈es,t.cells.length=1)->(∀t∈aO es,t.cell=true)->(∀(j:Nat)(t:Tr)(u:Value),(aO es)[j]?=some t->xs[j]?=some u->Rp M.F w t u)->(∀g,dj u=some g->M.F g=0) ->
       (∀m x g,m≠nm σ->gt τ.obs m=some x->dj (M.h m)=some g->dj u≠some g) ->
       ∃M' w' q,(Builtin.append_ #[t,t'] ty #[u,.string s]).run P w=.ok q w'/\Below n0 w w'/\Ff n0 (nx σ.obs) (nx σ'.obs) M w M' w'/\SR gl n0 M' w' σ' S/\Rv M' w' r q:=by
      intro τ es xs hsr I hown c' hec hr hF hap
      split at I
      ·rename_i hb
       cases I
       obtain⟨v',w',h',ho,Z,k'⟩:=IQ (P:=P) w n0 t t' ty e i J l' hi hz hc.1 hc.2 u es.length xs hown s hb h.size;have d':∀g,dj u=some g->g<w.heap.size/\n0<=g/\∃c e fz,w.heap[g]?=some (.cells c e fz):=fun g Z=>by
        rcases hown.2 with ⟨rfl,-⟩|⟨g',cap,cur,rfl,hb,hh,-⟩
        ·cases Z
        ·cases Z;exact⟨(Array.getElem?_eq_some_iff.1 hh).1,hb,_,_,_,hh⟩
       have j':s.data.toList.length=s.size:=by simp
       have f':∀x∈s.data.toList.map gx,x.cells.length=1/\x.cell=true:=fun x I=>by obtain⟨b,-,rfl⟩:=List.mem_map.1 I;exact⟨rfl,rfl⟩
       obtain⟨M',m1,m2,m3,m4⟩:=ja (n:=nm σ) (N:=nm σ) (e:=e) (k:=1) (zs:=es++s.data.toList.map gx) hsr (OI _) om (by rw[OM,OL,j'];exact ho) Z
        (fun g Z=>⟨hF g Z,(d' g Z).2,fun m x hm I e=>hap m x g hm I e Z⟩)
        (fun g m'=>(k' g m').imp (fun e=>⟨e.symm,(d' g e).1⟩) id)
        (fun t J=>(List.mem_append.1 J).elim (c' t) (fun J=>(f' t J).1)) (fun t J=>by rw[mG,jc]at J;exact (List.mem_append.1 J).elim (hec t) (fun J=>(f' t J).2))
        (qU (k:=0) (by rw[gq c',hown.1]) hr (fun j t u J hu=>by
         rw[jc,OQ]at J;unfold Lib.strCells at hu;rw[OQ]at hu
         cases hj:s.data.toList[j]? with
         | none=>rw[hj]at J;cases J
         | some b=>rw[hj]at J hu;cases J;cases hu;exact .at _))
       exact⟨M',w',v',h',m1,m2,m3,m4⟩
      ·cases I
     split at I
     ·cases hu with
      | p _ _ i' =>
       cases i'
       exact key _ [] [] h I ⟨by simp,.inl ⟨rfl,rfl⟩⟩ jS jS jS (fun g Z=>by cases Z) (fun m x g _ _ _ e=>by cases e)
     ·rename_i n
      split at I
      ·rename_i e' k es hn
       split at I
       ·rename_i c'
        obtain⟨rfl,rfl⟩:=c'
        cases hu with
        | ref _ p' =>
         obtain⟨g1,g2,xs,g3,g4,g5,g6,g7⟩:=h.ob n _ hn;exact key _ es xs (h.rm n) I g3 g4 g5 g6 (fun g Z=>by have:=g7 g Z;rwa [OF jS]at this) (fun m x g hm I Z e=>(by
          have a':gt (rm σ.obs n) m=some x:=I;rw[yD]at a'
          split at a'
          ·cases a'
          ·rename_i n';exact h.apart m n x _ g (Pc n') a' hn Z e))
       ·cases I
      ·cases I
     ·cases I
    ·cases I
   ·cases I
  ·cases I
 ·cases I
theorem zS:∀{es:List Tr}{l:List UInt8},bys es=some l->es=l.map gx
 | [],l,h=>by cases h;rfl
 | x::es,l,h=>by
  unfold bys at h
  split at h
  ·rename_i e;cases e
  ·rename_i i m e
   cases e
   split at h
   ·rename_i J
    cases I:bys es with
    | none=>rw[I]at h;cases h
    | some Z =>
     rw[I]at h;cases h;rw[OU,<-zS I,gx,J]
   ·cases h
  ·cases h
theorem Nx{src:TypeId}{y:V}(h:SR gl n0 M w σ S)(I:bst P σ src dst x=some y)(hu:Rv M w x u):∃q,(convert src dst u).run P w=.ok q w/\Rv M w y q:=by
 unfold bst at I
 split at I
 ·rename_i e hs hd
  split at I
  ·rename_i d he
   split at I
   ·rename_i h8
    have j':d=.int .u8:=by
     unfold JK at h8
     split at h8
     ·rfl
     ·cases h8
    subst j';have back:∀(A:Option Addr)(cap:Nat)(l:List UInt8),(∀j b,l[j]?=some b->∃a,A=some a/\w.cell? (a.add j)=some (.int .u8 b.toNat))->(convert src dst (.slice A l.length cap)).run P w=.ok (.string ⟨l.toArray⟩) w:=by
     intro A cap l hc
     cases A with
     | none =>
      have:l=[]:=by
       cases l with
       | nil=>rfl
       | cons b l=>obtain⟨a,e,-⟩:=hc 0 b rfl;cases e
      subst this;show (convert src dst (.slice none 0 cap)).run P w=_;rw[run_convert_bytes_string w src dst e none 0 cap hs he hd];rfl
     | some a =>
      refine run_convert_bytes_back (P:=P) w src dst e a cap l hs he hd fun j J=>?_
      obtain⟨a',e',c'⟩:=hc j _ (OH J)
      cases e';exact c'
    split at I
    ·rename_i full es
     cases Z:bys es with
     | none=>rw[Z]at I;cases I
     | some l =>
      rw[Z]at I;cases I;have k':=zS Z
      cases hu with
      | p _ _ h1 =>
       cases h1 with
       | nil a cap =>
        cases Z
        exact⟨_,back a cap [] (fun j b J=>by simp at J),.p _ _ (.at _)⟩
       | lst _ _ A o cap k g hk n' hg hr hf hle hm =>
        subst k';refine⟨_,?_,.p _ _ (.at _)⟩;have:=back (some ⟨A,o,none⟩) cap l (fun j b J=>by
         have f':(aO (l.map gx))[j]?=some (gx b):=by rw[jc,OQ,J];rfl
         have h2:=hg j (List.getElem?_eq_some_iff.1 f').1;have h3:=hr j _ f';refine⟨_,rfl,?_⟩;rw[cY,h2.1];generalize g j=z at h3
         cases h3;rfl)
        rwa [OL]
    ·rename_i n
     split at I
     ·rename_i e' k es fz hn
      split at I
      ·rename_i h'
       subst h'
       cases Z:bys es with
       | none=>rw[Z]at I;cases I
       | some l =>
        rw[Z]at I;cases I;have:=zS Z;subst this
        cases hu with
        | ref _ m' =>
         obtain⟨g1,g2,xs,g3,g4,g5,g6,g7⟩:=h.ob n _ hn;refine⟨_,?_,.p _ _ (.at _)⟩;have g':xs.length=l.length:=by rw[g3.1];simp
         have key:∀j b,l[j]?=some b->∃a cap,M.h n=.slice (some a) (l.map gx).length cap/\w.cell? (a.add j)=some (.int .u8 b.toNat):=fun j b J=>by
          have d':j<xs.length:=by rw[g'];exact (List.getElem?_eq_some_iff.1 J).1
          obtain⟨A,cap,e1,e2⟩:=dw g3 (OH d');have h6:=g6 j _ _ (by rw[jc,OQ,J];rfl) (OH d');refine⟨_,cap,e1,?_⟩;rw[cY,e2];generalize xs[j]=z at h6
          cases h6;rfl
         rcases g3.2 with ⟨hv,i'⟩|⟨g,cap,cur,hv,-⟩
         ·rw[hv];have:l=[]:=Po (jQ i');subst this;exact back none 0 [] (fun j b J=>by simp at J)
         ·rw[hv];have:=back (some ⟨g,0,none⟩) cap l (fun j b J=>by
           obtain⟨a,l',e1,e2⟩:=key j b J;rw[hv]at e1
           cases e1;exact⟨_,rfl,e2⟩)
          rwa [OL]
      ·cases I
     ·cases I
    ·cases I
   ·cases I
  ·cases I
 ·cases I
theorem km(h:SR gl n0 M w σ (rf a ρ::S)){x:Option Operand}{r:Option Int}(I:evo gl σ x=some r):(∀l,r=some l->∃k,x.map a.eval=some (.int k l))/\(r=none->x.map a.eval=none):=by
 cases x with
 | none=>cases I;exact⟨fun l e=>(by cases e),fun _=>rfl⟩
 | some y =>
  simp only[evo]at I
  cases hy:evl gl σ y with
  | none=>rw[hy]at I;cases I
  | some v =>
   rw[hy,OY]at I
   cases J:v.int? with
   | none=>rw[J]at I;cases I
   | some n =>
    rw[J]at I;cases I;obtain⟨k,e⟩:=oc (aH h hy) J;exact⟨fun l e'=>(by cases e';exact⟨k,by simp[e]⟩),fun e'=>(by cases e')⟩
end Go.Proofs.YteemngnialjaiaaGreatDoor
