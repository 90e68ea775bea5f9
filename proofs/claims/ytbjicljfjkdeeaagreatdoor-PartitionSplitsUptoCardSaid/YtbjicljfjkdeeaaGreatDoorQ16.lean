/- Part. -/
import Derived.Test.YtbjicljfjkdeeaaGreatDoorQ15
import Derived.Laws.IdiomStrings
import Derived.Laws.MakeOwn
set_option maxRecDepth 100000
set_option maxHeartbeats 16000000
set_option linter.unusedVariables false
set_option linter.unusedSimpArgs false
namespace Go.Proofs.YtbjicljfjkdeeaaGreatDoor
open Go.Proofs.Tryz Go.RowKit
section
def vL (es:List (Value × V × Nat)):List MapEntry:=es.map fun x=>⟨x.1,undef,0⟩
def fnd (P:Program) (k:TypeId) (es:List (Value × V × Nat)) (kv:Value) (empty:Bool):Option (Option Nat) :=
 match dX P (Instr.checkKey empty 10000 k kv),dX P (Instr.findKey k kv (vL es)) with
 | some _,some r=>some (r.map (·.1))
 | _,_=>none
def If (σ:Sg):V->Option (List (Value × V × Nat))
 | .ref n=>match gt σ.obs n with|some (.map es _)=>some es|_=>none
 | .p (.at (.map none))=>some []
 | _=>none
def lkp (P:Program) (σ:Sg) (t:TypeId) (x ix:V) (ok:Bool):Option V :=
 match P.underlying t,If σ x,ix.toVal with
 | some (.map k e),some es,some kv=>match fnd P k es kv es.isEmpty with
  | some (some i)=>match es[i]? with
   | some y=>some (if ok then V.mkTup [y.2.1,.p (.at (.bool true))] else y.2.1)
   | none=>none
  | some none=>match (P.info? e).bind (·.zero) with
   | some z=>some (if ok then V.mkTup [.p (.at z),.p (.at (.bool false))] else .p (.at z))
   | none=>none
  | none=>none
 | _,_,_=>none
def mup (P:Program) (σ:Sg) (t:TypeId) (m k x:V):Option (V × Sg) :=
 match P.underlying t,m,k.toVal with
 | some (.map kt _),.ref n,some kv=>match gt σ.obs n with
  | some (.map es Z)=>match fnd P kt es kv false with
   | some (some i)=>match es[i]? with
    | some y=>if Instr.sameBits 10000 y.1 kv=true then some (.p (.at undef),⟨pt σ.obs n (.map (es.set i (kv,x,y.2.2)) Z),σ.stk,σ.lps⟩) else none
    | none=>none
   | some none=>some (.p (.at undef),⟨pt σ.obs n (.map (es++[(kv,x,Z)]) (Z+1)),σ.stk,σ.lps⟩)
   | none=>none
  | _=>none
 | _,_,_=>none
def men (P:Program) (σ:Sg) (t:TypeId) (m k:V):Option (V × Sg) :=
 match P.underlying t,m,k.toVal with
 | some (.map kt et),.ref n,some kv=>match gt σ.obs n with
  | some (.map es Z)=>match fnd P kt es kv false with
   | some (some i)=>match es[i]? with
    | some y=>if Instr.sameBits 10000 y.1 kv=true then some (V.mkTup [y.2.1,.p (.at (goInt y.2.2))],⟨pt σ.obs n (.map (es.set i (kv,y.2.1,y.2.2)) Z),σ.stk,σ.lps⟩) else none
    | none=>none
   | some none=>match (P.info? et).bind (·.zero) with
    | some z=>some (V.mkTup [.p (.at z),.p (.at (goInt Z))],⟨pt σ.obs n (.map (es++[(kv,.p (.at z),Z)]) (Z+1)),σ.stk,σ.lps⟩)
    | none=>none
   | none=>none
  | _=>none
 | _,_,_=>none
def mst (σ:Sg) (m s x:V):Option (V × Sg) :=
 match m,s.int? with
 | .ref n,some b=>match gt σ.obs n with
  | some (.map es Z)=>match es.findIdx? (fun y=>(y.2.2:Int)==b) with
   | some i=>match es[i]? with
    | some y=>some (.p (.at undef),⟨pt σ.obs n (.map (es.set i (y.1,x,y.2.2)) Z),σ.stk,σ.lps⟩)
    | none=>none
   | none=>none
  | _=>none
 | _,_=>none
def xu (σ:Sg):V × Sg:=let n:=nm σ;(.ref n,σ.new n (.map [] 0))
section
variable {P : Program} {gl : Nat -> Option (List Tr)} {n0 : Nat} {M M' : Mem} {w w' : World} {σ σ' : Sg} {S : List Rf} {a : Act} {o : Oper}
theorem lQ {α β:Type} {s:Sem α} {f:α->Sem β} {b:β} (h:dX P (s >>= f)=some b):∃a,dX P s=some a/\dX P (f a)=some b:=by
 induction s with
 | pure c=>exact⟨c,rfl,h⟩
 | program k ih=>exact ih P h
 | mark m k ih=>exact ih h
 | _=>cases h
theorem jb {d:TypeDesc} {kv:Value}:∀{l m:List MapEntry} {i:Nat},l.map (·.key)=m.map (·.key)->(Instr.findNow d kv l i).map (·.map (·.1))=(Instr.findNow d kv m i).map (·.map (·.1))
 | [],[],i,_=>rfl
 | [],_::_,i,h=>by cases h
 | _::_,[],i,h=>by cases h
 | x::l,y::m,i,h=>by
  simp only[MF,Nf]at h;simp only[Instr.findNow,h.1]
  cases hs:Instr.sameNow d kv y.key with
  | none=>rfl
  | some b=>cases b with
   | true=>rfl
   | false=>exact jb h.2
theorem qK {d:TypeDesc} {kv:Value}:∀{l:List MapEntry} {i:Nat} {r:Nat × Value},Instr.findNow d kv l i=some (some r)->∃e,l[r.1-i]?=some e/\i<=r.1/\r.2=e.val
 | [],i,r,h=>by cases h
 | x::l,i,r,h=>by
  simp only[Instr.findNow]at h
  cases hs:Instr.sameNow d kv x.key with
  | none=>rw[hs]at h;cases h
  | some b=>cases b with
   | true=>rw[hs]at h;cases h;exact⟨x,by simp,Mt _,rfl⟩
   | false =>
    rw[hs]at h;obtain⟨e,h1,h2,h3⟩:=qK h;exact⟨e,by rw[show r.1-i=(r.1-(i+1))+1 by omega];simpa using h1,by omega,h3⟩
theorem lX {k:TypeId} {kv:Value}:∀{l m:List MapEntry} {i:Nat} {r:Option (Nat × Value)},l.map (·.key)=m.map (·.key)->dX P (Instr.findAsking k kv m i)=some r ->
  ∃r',dX P (Instr.findAsking k kv l i)=some r'/\r'.map (·.1)=r.map (·.1)/\∀q,r'=some q->∃e,l[q.1-i]?=some e/\i<=q.1/\q.2=e.val
 | [],[],i,r,_,hr=>⟨r,hr,rfl,fun q e=>by cases hr;cases e⟩
 | [],_::_,i,r,h,_=>by cases h
 | _::_,[],i,r,h,_=>by cases h
 | x::l,y::m,i,r,h,hr=>by
  simp only[MF,Nf]at h;rw[Instr.findAsking]at hr;obtain⟨b,h1,h2⟩:=lQ hr;rw[<-h.1]at h1;have hb:∀{β:Type} (f:Bool->Sem β),dX P (Op.equal k kv x.key >>= f)=dX P (f b):=by
   intro β f;generalize Op.equal k kv x.key=s at h1
   induction s with
   | pure c=>cases h1;rfl
   | program k ih=>exact ih P h1
   | mark m k ih=>exact ih h1
   | _=>cases h1
  rw[Instr.findAsking,hb]
  cases b with
  | true=>cases h2;exact⟨_,rfl,rfl,fun q e=>by cases e;exact⟨x,by simp,Mt _,rfl⟩⟩
  | false =>
   obtain⟨r',g1,g2,g3⟩:=lX h.2 h2;refine⟨r',g1,g2,fun q e=>?_⟩;obtain⟨e',q1,q2,q3⟩:=g3 q e;exact⟨e',by rw[show q.1-i=(q.1-(i+1))+1 by omega];simpa using q1,by omega,q3⟩
theorem nr {k:TypeId} {es:List (Value × V × Nat)} {kv:Value} {empty:Bool} {r:Option Nat} (h:fnd P k es kv empty=some r) {G:List MapEntry} (hk:G.map (·.key)=es.map (·.1)) (w:World) :
  (Instr.checkKey empty 10000 k kv).run P w=.ok () w/\∃r',(Instr.findKey k kv G).run P w=.ok r' w/\r'.map (·.1)=r/\∀q,r'=some q->∃e,G[q.1]?=some e/\q.2=e.val:=by
 unfold fnd at h
 split at h
 ·rename_i u r0 h1 h2
  refine⟨iT h1 w,?_⟩;have hr:r0.map (·.1)=r:=jQ h;subst hr;unfold Instr.findKey at h2;obtain⟨d,h3,h4⟩:=lQ h2;have hd:(underlying k).run P w=.ok d w:=iT h3 w;have J:G.map (·.key)=(vL es).map (·.key):=by rw[hk,vL,Oa];rfl
  unfold Instr.findKey;rw[MP,hd,M9]
  cases hf:Instr.findNow d kv (vL es) 0 with
  | some q =>
   rw[hf]at h4;have h5:=jb (d:=d) (kv:=kv) (i:=0) J;rw[hf]at h5
   cases h':Instr.findNow d kv G 0 with
   | none=>rw[h']at h5;cases h5
   | some q' =>
    rw[h']at h5
    cases h4
    refine⟨q',rfl,jQ h5,fun s e=>?_⟩;subst e;obtain⟨e,g1,g2,g3⟩:=qK h';exact⟨e,jQ g1,g3⟩
  | none =>
   rw[hf]at h4;have h5:=jb (d:=d) (kv:=kv) (i:=0) J;rw[hf]at h5
   cases h':Instr.findNow d kv G 0 with
   | some q'=>rw[h']at h5;cases h5
   | none =>
    obtain⟨r',g1,g2,g3⟩:=lX J h4;refine⟨r',iT g1 w,g2,fun q e=>?_⟩;obtain⟨e',q1,q2,q3⟩:=g3 q e;exact⟨e',jQ q1,q3⟩
 ·cases h
theorem pg {x y:V} {u v:Value} (h:Rv M w x u) (k:Rv M w y v):Rvs M w [x,y] [u,v]:=⟨rfl,fun j t q ht hq=>by
 cases j with
 | zero=>cases ht;cases hq;exact h
 | succ j =>
  cases j with
  | zero=>cases ht;cases hq;exact k
  | succ j=>simp at ht⟩
theorem uba {p:Prop} (h:p:=by
  apply OZ;intro i;rw[MA,MA]
  cases hi:es[i]? with
  | none=>rw[NZ (by rw[Oh,h4];exact List.getElem?_eq_none_iff.1 hi)];rfl
  | some x =>
   have O:i<G.size:=by rw[h4];exact (List.getElem?_eq_some_iff.1 hi).1
   have:=(h5 i x _ hi (MJ O)).1;rw[N6,MJ O];simp[this]):p:=h
theorem FQ (h:SR gl n0 M w σ S) {t:TypeId} {x ix y:V} {u v:Value} {ok:Bool} (I:lkp P σ t x ix ok=some y) (hu:Rv M w x u) (hv:Rv M w ix v):∃q,(Instr.lookup t u v ok).run P w=.ok q w/\Rv M w y q:=by
 unfold lkp at I
 split at I
 ·rename_i k e es kv ht hm i'
  obtain rfl:=dF hv i';have s':∃G:Array MapEntry,(u=.map none/\G=#[]\/∃r Z,u=.map (some r)/\(getObj r).run P w=.ok (.map G Z) w)/\G.size=es.length/\G.toList.map (·.key)=es.map (·.1) /\
    ∀(i:Nat) (x:Value × V × Nat) (e:MapEntry),es[i]?=some x->G[i]?=some e->Rv M w x.2.1 e.val:=by
   cases hu with
   | p _ _ h1 =>
    cases h1 with
    | «at» =>
     unfold If at hm
     split at hm
     ·rename_i e;cases e
     ·rename_i e;cases e;cases hm
      exact⟨#[],.inl ⟨rfl,rfl⟩,rfl,rfl,fun i x e h=>by simp at h⟩
     ·cases hm
    | _=>cases hm
   | ref n hc =>
    simp only[If]at hm
    split at hm
    ·rename_i es' Z he
     cases hm
     obtain⟨r,G,h1,h2,h3,h4,h5⟩:=h.ob n _ he;refine⟨G,.inr ⟨r,Z,h1,by simp[getObj,Sem.run,h3]⟩,h4,?_,fun i x e I he=>(h5 i x e I he).2.1⟩;exact uba
    ·cases hm
   | _=>cases hm
  obtain⟨G,e1,e2,e3,e4⟩:=s';have m':G.isEmpty=es.isEmpty:=by
   cases es with
   | nil=>have:G=#[]:=Array.eq_empty_of_size_eq_zero (jQ e2);subst this;rfl
   | cons x l=>(have:G.size≠0:=by rw[e2];simp);simp[Array.isEmpty,this]
  split at I
  ·rename_i i hf
   split at I
   ·rename_i yy hy
    obtain⟨f1,r',f2,f3,f4⟩:=nr hf e3 w
    cases hr:r' with
    | none=>rw[hr]at f3;cases f3
    | some q =>
     rw[hr]at f3;have hq:q.1=i:=jQ f3;obtain⟨en,g1,g2⟩:=f4 q hr;rw[hq]at g1;have x':=e4 i yy en hy (jQ g1);refine⟨if ok then .tuple #[en.val,.bool true] else en.val,?_,?_⟩
     ·rw[<-m']at f1;rcases e1 with ⟨rfl,rfl⟩|⟨r,Z,rfl,hg⟩
      ·simp at g1
      ·simp[Instr.lookup,M6 ht,hg,f1,f2,hr,g2]
     ·cases I
      cases ok
      ·exact x'
      ·exact Rv.mkTup (pg x' (.p _ _ (.at (.bool true))))
   ·cases I
  ·rename_i hf
   split at I
   ·rename_i z hz
    cases hi:P.info? e with
    | none=>rw[hi]at hz;cases hz
    | some ie =>
     rw[hi,MR]at hz;obtain⟨f1,r',f2,f3,f4⟩:=nr hf e3 w
     cases hr:r' with
     | some q=>rw[hr]at f3;cases f3
     | none =>
      have k':(zeroValue e).run P w=.ok z w:=by simp[zeroValue,typeInfo,hi,hz]
      refine⟨if ok then .tuple #[z,.bool false] else z,?_,?_⟩
      ·rw[<-m']at f1;rw[hr]at f2;rcases e1 with ⟨rfl,rfl⟩|⟨r,Z,rfl,hg⟩
       ·have F':(Instr.checkKey true 10000 k v).run P w=.ok () w:=f1;have C':(Instr.findKey k v []).run P w=.ok none w:=f2;simp[Instr.lookup,M6 ht,F',C',k']
       ·simp[Instr.lookup,M6 ht,hg,f1,f2,k']
      ·cases I
       cases ok
       ·exact .p _ _ (.at _)
       ·exact Rv.mkTup (pg (.p _ _ (.at z)) (.p _ _ (.at (.bool false))))
   ·cases I
  ·cases I
 ·cases I
theorem E5 (h:SR gl n0 M w σ S):∃M',Below n0 w (w.alloc (.map #[] 0))/\Ff n0 (nx σ.obs) (nx (xu σ).2.obs) M w M' (w.alloc (.map #[] 0))/\SR gl n0 M' (w.alloc (.map #[] 0)) (xu σ).2 S/\Rv M' (w.alloc (.map #[] 0)) (xu σ).1 (.map (some w.heap.size)):=by
 obtain⟨h1,h2,h3⟩:=h.new (n:=nm σ) (φ:=0) (k:=0) (v:=.map (some w.heap.size)) (ob:=.map [] 0) (o:=.map #[] 0)
  ⟨w.heap.size,#[],by simp[Mem.new],h.size,Nr w _,rfl,fun i x e h=>by simp at h⟩ (fun g hg=>by cases hg;rfl) (Mt _)
 refine⟨_,h2,h3,h1,?_⟩;have:=Rv.ref (M:=M.new (nm σ) w.heap.size 0 (.map (some w.heap.size)) 0) (w:=w.alloc (.map #[] 0)) (nm σ) (by simp[Mem.new,Value.oneCell'])
 simpa [Mem.new,xu] using this
theorem ui (h:SR gl n0 M w σ S) {n:Nat} {es:List (Value × V × Nat)} {Z:Nat} (he:gt σ.obs n=some (.map es Z)):∃b G,M.h n=.map (some b)/\(getObj b).run P w=.ok (.map G Z) w/\G.size=es.length /\
  G.toList.map (·.key)=es.map (·.1)/\(∀(i:Nat) (x:Value × V × Nat) (e:MapEntry),es[i]?=some x->G[i]?=some e->e.key=x.1/\Rv M w x.2.1 e.val/\e.born=x.2.2) /\
  ∀(c':Array MapEntry) (es':List (Value × V × Nat)) (f':Nat),c'.size=es'.length ->
   (∀(i:Nat) (x:Value × V × Nat) (e:MapEntry),es'[i]?=some x->c'[i]?=some e->e.key=x.1/\Rv M w x.2.1 e.val/\e.born=x.2.2) ->
   ∃w',(setObj b (.map c' f')).run P w=.ok () w'/\Below n0 w w'/\SR gl n0 M w' ⟨pt σ.obs n (.map es' f'),σ.stk,σ.lps⟩ S/\(∀t v,Rv M w t v->Rv M w' t v)/\Ff n0 (nx σ.obs) (nx (pt σ.obs n (.map es' f'))) M w M w':=by
 obtain⟨b,G,h1,h2,h3,h4,h5⟩:=h.ob n _ he;have J:G.toList.map (·.key)=es.map (·.1):=by
  exact uba
 have z':b<w.heap.size:=(Array.getElem?_eq_some_iff.1 h3).1;refine⟨b,G,h1,by simp[getObj,Sem.run,h3],h4,J,h5,fun c' es' f' hs hr=>?_⟩
 let w':World:={ w with heap:=w.heap.setIfInBounds b (.map c' f') }
 have g':∀g,g≠b->w'.heap[g]?=w.heap[g]?:=fun g hg=>PA (MT hg)
 have E':w'.heap[b]?=some (.map c' f'):=by simp[w',z']
 have t':w'.heap.size=w.heap.size:=by simp[w']
 have kp:Kept M.F w M.F w':=fun c j u hj hc=>by
  have D':c≠b:=fun e=>by rw[e]at hc;simp[World.cell?,h3]at hc
  exact⟨by rw[ML (a:=⟨c,j,none⟩) (g' c D')];exact hc,hj⟩
 have hκ:∀t v,Rv M w t v->Rv M w' t v:=fun t v hv=>hv.kept kp rfl rfl
 refine⟨w',by simp[setObj,Sem.run,h3,w'],⟨rfl,rfl,rfl,N2 t'.symm,fun g hg=>g' g om⟩,?_,hκ,.put kp⟩;have hh:=h.upd (M':=M) (w':=w') (κ:=id) (n:=n) (ob:=.map es' f') hκ kp (N2 t'.symm) (fun m _=>⟨rfl,rfl⟩)
  (fun m x g hm I hg=>⟨g' g (fun e=>h.apart n m _ x b (MT hm) he I (by rw[h1];rfl) (e▸hg)),rfl⟩)
  ⟨b,c',h1,h2,E',hs,fun i x e I he=>let ⟨q1,q2,q3⟩:=hr i x e I he;⟨q1,hκ _ _ q2,q3⟩⟩
  (fun m x g hm I hg B'=>h.apart n m _ x g (MT hm) he I hg B') (fun i hi=>by
   have A':i<σ.lps.length:=by rw[h.nl];exact hi
   obtain⟨fid,T,k1,⟨ds,k2⟩,-⟩:=h.lps i _ (Mq A');exact⟨g' _ fun e=>(by rw[e,h3]at k1;cases k1),g' _ fun e=>(by rw[e,h3]at k2;cases k2)⟩)
 rwa [BZ]at hh
theorem ua {G:Array MapEntry} {es:List (Value × V × Nat)} (hl:G.size=es.length) (h:∀(i:Nat) (x:Value × V × Nat) (e:MapEntry),es[i]?=some x->G[i]?=some e->e.key=x.1/\Rv M w x.2.1 e.val/\e.born=x.2.2)
  {i:Nat} {f:MapEntry->MapEntry} {y:Value × V × Nat} (hy:∀e,G[i]?=some e->(f e).key=y.1/\Rv M w y.2.1 (f e).val/\(f e).born=y.2.2) :
  ∀(j:Nat) (x:Value × V × Nat) (e:MapEntry),(es.set i y)[j]?=some x->(G.modify i f)[j]?=some e->e.key=x.1/\Rv M w x.2.1 e.val/\e.born=x.2.2:=by
 intro j z e hz a';rw[O5]at a';rw[OR]at hz
 by_cases u':i=j
 ·subst u';rw[Mp rfl]at a' hz
  split at hz
  ·rename_i O
   have n':i<G.size:=by rw[hl];exact O
   rw[MJ n']at a'
   cases hz;cases a'
   exact hy _ (MJ n')
  ·cases hz
 ·rw[Mo u']at a' hz;exact h j z e hz a'
theorem xK {G:Array MapEntry} {es:List (Value × V × Nat)} (hl:G.size=es.length) (h:∀(i:Nat) (x:Value × V × Nat) (e:MapEntry),es[i]?=some x->G[i]?=some e->e.key=x.1/\Rv M w x.2.1 e.val/\e.born=x.2.2)
  {q:MapEntry} {y:Value × V × Nat} (hy:q.key=y.1/\Rv M w y.2.1 q.val/\q.born=y.2.2) :
  ∀(j:Nat) (x:Value × V × Nat) (e:MapEntry),(es++[y])[j]?=some x->(G.push q)[j]?=some e->e.key=x.1/\Rv M w x.2.1 e.val/\e.born=x.2.2:=by
 intro j z e hz a';rw[Array.getElem?_push]at a'
 by_cases hj:j=G.size
 ·rw[Mp hj]at a';rw[M7 om,hj,hl,Nat.sub_self]at hz
  cases a';cases hz
  exact hy
 ·rw[Mo hj]at a';have O:=(Array.getElem?_eq_some_iff.1 a').1;rw[MQ om]at hz;exact h j z e hz a'
theorem Hf {t:TypeId} {m k x r:V} {u v q:Value} (h:SR gl n0 M w σ S) (I:mup P σ t m k x=some (r,σ')) (hu:Rv M w m u) (hv:Rv M w k v) (hq:Rv M w x q) :
  ∃M' w',(Instr.mapUpdate t u v q).run P w=.ok () w'/\Below n0 w w'/\Ff n0 (nx σ.obs) (nx σ'.obs) M w M' w'/\SR gl n0 M' w' σ' S/\r=.p (.at undef):=by
 unfold mup at I
 split at I
 ·rename_i kt et n kv ht i'
  obtain rfl:=dF hv i'
  split at I
  ·rename_i es Z he
   obtain⟨b,G,h1,hg,h4,J,h5,put⟩:=ui (P:=P) h he;have j':u=.map (some b):=by cases hu with|ref _ _=>exact h1
   subst j'
   split at I
   ·rename_i i hf
    split at I
    ·rename_i y hy
     split at I
     ·rename_i p'
      cases I
      obtain⟨c1,r',c2,c3,c4⟩:=nr hf J w
      cases hr:r' with
      | none=>rw[hr]at c3;cases c3
      | some s =>
       rw[hr]at c3;have l':s.1=i:=jQ c3;have O:i<G.size:=by rw[h4];exact (List.getElem?_eq_some_iff.1 hy).1
       have d':=h5 i y _ hy (MJ O);obtain⟨w',p1,p2,p3,-,p5⟩:=put (G.modify i fun e=>{ e with key:=v,val:=q }) (es.set i (v,x,y.2.2)) Z (by simp[h4]) (ua h4 h5 fun e he=>by
        rw[MJ O]at he;cases he;exact⟨rfl,hq,d'.2.2⟩)
       refine⟨M,w',?_,p2,p5,p3,rfl⟩;unfold Instr.mapUpdate;rw[MP,M6 ht,M9];simp only[MP,hg,M9,c1,c2,hr,l',MJ O,NR,NS,Instr.keyThatStays,d'.1,p',M5,NE,p1]
     ·cases I
    ·cases I
   ·rename_i hf
    cases I
    obtain⟨c1,r',c2,c3,c4⟩:=nr hf J w
    cases hr:r' with
    | some s=>rw[hr]at c3;cases c3
    | none =>
     obtain⟨w',p1,p2,p3,-,p5⟩:=put (G.push { key:=v,val:=q,born:=Z }) (es++[(v,x,Z)]) (Z+1) (by simp[h4]) (xK h4 h5 ⟨rfl,hq,rfl⟩);refine⟨M,w',?_,p2,p5,p3,rfl⟩;unfold Instr.mapUpdate;rw[MP,M6 ht,M9];simp only[MP,hg,M9,c1,c2,hr,p1]
   ·cases I
  ·cases I
 ·cases I
theorem L0 {t:TypeId} {m k r:V} {u v:Value} (h:SR gl n0 M w σ S) (I:men P σ t m k=some (r,σ')) (hu:Rv M w m u) (hv:Rv M w k v) :
  ∃w' q,(Instr.mapEntry t u v).run P w=.ok q w'/\Below n0 w w'/\Ff n0 (nx σ.obs) (nx σ'.obs) M w M w'/\SR gl n0 M w' σ' S/\Rv M w' r q:=by
 unfold men at I
 split at I
 ·rename_i kt et n kv ht i'
  obtain rfl:=dF hv i'
  split at I
  ·rename_i es Z he
   obtain⟨b,G,h1,hg,h4,J,h5,put⟩:=ui (P:=P) h he;have j':u=.map (some b):=by cases hu with|ref _ _=>exact h1
   subst j'
   split at I
   ·rename_i i hf
    split at I
    ·rename_i y hy
     split at I
     ·rename_i p'
      cases I
      obtain⟨c1,r',c2,c3,c4⟩:=nr hf J w
      cases hr:r' with
      | none=>rw[hr]at c3;cases c3
      | some s =>
       rw[hr]at c3;have l':s.1=i:=jQ c3;have O:i<G.size:=by rw[h4];exact (List.getElem?_eq_some_iff.1 hy).1
       have d':=h5 i y _ hy (MJ O);obtain⟨en,d1,d2⟩:=c4 s hr;rw[l']at d1;have y':G[i]?=some en:=jQ d1;have s':G[i]=en:=by rw[MJ O]at y';exact MX y'
       obtain⟨w',p1,p2,p3,p4,p5⟩:=put (G.modify i fun e=>{ e with key:=v }) (es.set i (v,y.2.1,y.2.2)) Z (by simp[h4]) (ua h4 h5 fun e he=>by
        rw[MJ O]at he;cases he;exact⟨rfl,d'.2⟩)
       refine⟨w',.tuple #[s.2,goInt y.2.2],?_,p2,p5,p3,Rv.mkTup (pg (p4 _ _ (by rw[d2,<-s'];exact d'.2.1)) (.p _ _ (.at _)))⟩;unfold Instr.mapEntry;rw[MP,M6 ht,M9];simp only[MP,hg,M9,c1,c2,hr,l',MJ O,NR,NS,Instr.keyThatStays,d'.1,p',M5,NE,p1,d'.2.2]
     ·cases I
    ·cases I
   ·rename_i hf
    split at I
    ·rename_i z hz
     cases I
     cases hi:P.info? et with
     | none=>rw[hi]at hz;cases hz
     | some ie =>
      rw[hi,MR]at hz;have k':(zeroValue et).run P w=.ok z w:=by simp[zeroValue,typeInfo,hi,hz]
      obtain⟨c1,r',c2,c3,c4⟩:=nr hf J w
      cases hr:r' with
      | some s=>rw[hr]at c3;cases c3
      | none =>
       obtain⟨w',p1,p2,p3,p4,p5⟩:=put (G.push { key:=v,val:=z,born:=Z }) (es++[(v,.p (.at z),Z)]) (Z+1) (by simp[h4]) (xK h4 h5 ⟨rfl,.p _ _ (.at z),rfl⟩);refine⟨w',.tuple #[z,goInt Z],?_,p2,p5,p3,Rv.mkTup (pg (.p _ _ (.at z)) (.p _ _ (.at _)))⟩;unfold Instr.mapEntry;rw[MP,M6 ht,M9];simp only[MP,hg,M9,c1,c2,hr,k',p1,NE]
    ·cases I
   ·cases I
  ·cases I
 ·cases I
theorem xZ {G:Array MapEntry} {es:List (Value × V × Nat)} (hl:G.size=es.length) (h:∀(i:Nat) (x:Value × V × Nat) (e:MapEntry),es[i]?=some x->G[i]?=some e->e.born=x.2.2) (b:Int) :
  G.findIdx? (fun e=>(e.born:Int)==b)=es.findIdx? (fun y=>(y.2.2:Int)==b):=by
 rw[show G.findIdx? (fun e=>(e.born:Int)==b)=G.toList.findIdx? (fun e=>(e.born:Int)==b) by cases G;simp];have:(G.toList.map fun e=>(e.born:Int))=es.map fun y=>(y.2.2:Int):=by
  apply OZ;intro i;rw[MA,MA]
  cases hi:es[i]? with
  | none=>rw[NZ (by rw[Oh,hl];exact List.getElem?_eq_none_iff.1 hi)];rfl
  | some x =>
   have O:i<G.size:=by rw[hl];exact (List.getElem?_eq_some_iff.1 hi).1
   have:=h i x _ hi (MJ O);rw[N6,MJ O];simp[this]
 have e1:G.toList.findIdx? (fun e=>(e.born:Int)==b)=(G.toList.map fun e=>(e.born:Int)).findIdx? (fun y=>y==b):=by rw[List.findIdx?_map];rfl
 have e2:es.findIdx? (fun y=>(y.2.2:Int)==b)=(es.map fun y=>(y.2.2:Int)).findIdx? (fun y=>y==b):=by rw[List.findIdx?_map];rfl
 rw[e1,e2,this]
theorem KL {t:TypeId} {m s x r:V} {u v q:Value} (h:SR gl n0 M w σ S) (I:mst σ m s x=some (r,σ')) (hu:Rv M w m u) (hv:Rv M w s v) (hq:Rv M w x q) :
  ∃w',(Instr.entryStore t u v q).run P w=.ok () w'/\Below n0 w w'/\Ff n0 (nx σ.obs) (nx σ'.obs) M w M w'/\SR gl n0 M w' σ' S/\r=.p (.at undef):=by
 unfold mst at I
 split at I
 ·rename_i n b hb
  obtain⟨kb,rfl⟩:=qX hv hb
  split at I
  ·rename_i es Z he
   obtain⟨c,G,h1,hg,h4,J,h5,put⟩:=ui (P:=P) h he;have j':u=.map (some c):=by cases hu with|ref _ _=>exact h1
   subst j'
   split at I
   ·rename_i i hf
    split at I
    ·rename_i y hy
     cases I
     have O:i<G.size:=by rw[h4];exact (List.getElem?_eq_some_iff.1 hy).1
     have d':=h5 i y _ hy (MJ O);rw[<-xZ h4 (fun i x e I he=>(h5 i x e I he).2.2) b]at hf;obtain⟨w',p1,p2,p3,-,p5⟩:=put (G.modify i fun e=>{ e with val:=q }) (es.set i (y.1,x,y.2.2)) Z (by simp[h4]) (ua h4 h5 fun e he=>by
      rw[MJ O]at he;cases he;exact⟨d'.1,hq,d'.2.2⟩)
     refine⟨w',?_,p2,p5,p3,rfl⟩;unfold Instr.entryStore;simp only[MP,hg,M9,asInt,asIntOf,NE,hf,p1]
    ·cases I
   ·cases I
  ·cases I
 ·cases I
end
end
section
def ga (b:UInt8):Tr:=.at (.int .u8 b.toNat)
def I2:TypeDesc->Bool
 | .int .u8=>true
 | _=>false
def J1 (P:Program) (src dst:TypeId) (x:V):Option V :=
 match P.underlying src,P.underlying dst,x.toVal with
 | some .string,some (.slice e),some (.string s)=>match P.underlying e with
  | some d=>if I2 d=true/\s.size<=maxLen then some (.p (.lst false (s.data.toList.map ga))) else none
  | none=>none
 | _,_,_=>none
def mks (P:Program) (σ:Sg) (t:TypeId) (l c:V):Option (V × Sg) :=
 match P.underlying t,l.int?,c.int? with
 | some (.slice e),some l,some c=>match P.info? e with
  | some i=>match i.zero with
   | some z=>if z.cells.size=i.size/\0<i.size/\0<=l/\l<=c/\(i.bytes:Int)*c<=281474976710656/\c<=9223372036854775807/\z.cells.all (·.oneCell')=true then
     some (.ref (nm σ),σ.new (nm σ) (.row e i.size (List.replicate l.toNat (.at z)) false)) else none
   | none=>none
  | none=>none
 | _,_,_=>none
section
variable {P : Program} {gl : Nat -> Option (List Tr)} {n0 : Nat} {M M' : Mem} {w w' : World} {σ σ' : Sg} {S : List Rf} {a : Act} {o : Oper}
theorem I7 {src dst:TypeId} {x y:V} {u:Value} (h:SR gl n0 M w σ S) (z:J1 P src dst x=some y) (hu:Rv M w x u) :
  ∃F v w',(convert src dst u).run P w=.ok v w'/\Mm w w'/\(∀b,b<w.heap.size->F b=M.F b)/\Rv { M with F:=F } w' y v:=by
 unfold J1 at z
 split at z
 ·rename_i e s hs hd hv
  obtain rfl:=dF hu hv
  split at z
  ·rename_i d he
   split at z
   ·rename_i hc
    cases z
    have f':d=.int .u8:=by
     unfold I2 at hc
     split at hc
     ·rfl
     ·cases hc.1
    subst f';have Z:=run_bytes_of_string (P:=P) w src dst e s hs hd he;have a':=grownCap_ge w s.size 0 e;have c':=grownCap_le_maxLen w s.size 0 e hc.2
    let F:Nat->Nat:=fun b=>if b=w.heap.size then s.size else M.F b
    refine⟨F,_,_,Z,(Mr _ _).drew.alloc (Mt _) _,fun b hb=>by simp only[F];rw[Mo om],.p _ _ ?_⟩;have I:aO (s.data.toList.map ga)=s.data.toList.map ga:=by
     simp only[aO]
     induction s.data.toList with
     | nil=>rfl
     | cons x l ih=>simp only[MF,MM,ih];rfl
    have hlen:(s.data.toList.map ga).length=s.size:=by simp
    have:=Rp.lst (F:=F) (w:=w.drew.alloc (.cells (bytesRow s (grownCap w s.size 0 e)) e ((bytesRow s (grownCap w s.size 0 e)).size,(bytesRow s (grownCap w s.size 0 e)).size+1))) false (s.data.toList.map ga) w.heap.size 0 (grownCap w s.size 0 e) 1
     (fun j=>(bytesRow s (grownCap w s.size 0 e)).getD j undef) (fun x z=>by obtain⟨b,-,rfl⟩:=List.mem_map.1 z;rfl) (fun x z=>by rw[I]at z;obtain⟨b,-,rfl⟩:=List.mem_map.1 z;rfl)
     (fun j G=>by
      rw[I,hlen]at G;have hb:=bytesRow_at s (grownCap w s.size 0 e) j G;refine⟨?_,by show 0+j<F w.heap.size;have:F w.heap.size=s.size:=Mp rfl;omega⟩;have hn:=Nr w.drew (.cells (bytesRow s (grownCap w s.size 0 e)) e ((bytesRow s (grownCap w s.size 0 e)).size,(bytesRow s (grownCap w s.size 0 e)).size+1));rw[show w.drew.heap.size=w.heap.size from rfl]at hn;unfold World.cell?;rw[hn,MC];simp only[Option.isSome_none,Bool.false_eq_true,NJ,PH,hb,NS])
     (fun j t O=>by
      rw[I,MA]at O
      cases G:s.data.toList[j]? with
      | none=>rw[G]at O;cases O
      | some b =>
       rw[G]at O;cases O;have J:j<s.data.size:=by have:=(List.getElem?_eq_some_iff.1 G).1;simpa using this
       have hb:=bytesRow_at s (grownCap w s.size 0 e) j J;have d':s.data[j]=b:=by rw[N6,MJ J]at G;exact MX G
       simp only[PH,hb,NS,d'];exact .at _) (fun e=>by cases e) (by rw[hlen];exact a') c'
    rwa [hlen]at this
   ·cases z
  ·cases z
 ·cases z
theorem iH (z:Value):(Tr.at z).cells=z.cells.toList.map .at:=by cases z<;>rfl
theorem qc {x:Tr} {k:Nat} (hk:x.cells.length=k) (h0:0<k):∀(l j:Nat),j<l*k->(aO (List.replicate l x))[j]?=x.cells[j%k]?
 | 0,j,h=>by omega
 | l+1,j,h=>by
  simp only[List.replicate_succ,aO,MM]
  by_cases z:j<k
  ·rw[MQ om,Nat.mod_eq_of_lt z]
  ·rw[M7 om,hk];have:=qc hk h0 l (j-k) (by rw[OF]at h;omega);rw[aO]at this;rw[this,show j%k=(j-k)%k by rw[Nat.mod_eq_sub_mod om]]
theorem KY {t:TypeId} {l c r:V} {u v:Value} (h:SR gl n0 M w σ S) (I:mks P σ t l c=some (r,σ')) (hu:Rv M w l u) (hv:Rv M w c v) :
  ∃M' w' q,(Instr.makeSlice t u v).run P w=.ok q w'/\Below n0 w w'/\Ff n0 (nx σ.obs) (nx σ'.obs) M w M' w'/\SR gl n0 M' w' σ' S/\Rv M' w' r q:=by
 unfold mks at I
 split at I
 ·rename_i e l' c' J hl i'
  obtain⟨kl,rfl⟩:=qX hu hl;obtain⟨kc,rfl⟩:=qX hv i'
  split at I
  ·rename_i i hi
   split at I
   ·rename_i z hz
    split at I
    ·rename_i hc
     cases I
     obtain⟨c1,c2,c3,c4,c5,c6,c7⟩:=hc;have g':=run_make (P:=P) w t e i z J hi hz kl kc l' c' c3 c4 c5 c6;have d':(Tr.at z).cells.length=i.size:=by rw[iH];simpa using c1
     have a':∀t∈List.replicate l'.toNat (Tr.at z),t.cells.length=i.size:=fun t J=>by rw[(List.mem_replicate.1 J).2];exact d'
     have f':=size_madeCells z.cells (c'.toNat*i.size);have hle:l'.toNat*i.size<=c'.toNat*i.size:=Ov _ om;have O:∀x∈z.cells.toList,x.oneCell'=true:=fun x I=>(Array.all_eq_true_iff_forall_mem.1 c7) x (jQ I)
     obtain⟨M',m1,m2,m3,m4⟩:=iG (n:=nm σ) (N:=nm σ) (e:=e) (k:=i.size) (zs:=List.replicate l'.toNat (.at z)) (row:=none) (v':=.slice (some ⟨w.heap.size,0,none⟩) l'.toNat c'.toNat) (xs:=(madeCells z.cells (c'.toNat*i.size)).toList.take (l'.toNat*i.size)) h (Mt _) c2
      ⟨by simp[f',hle],.inr ⟨w.heap.size,c'.toNat,_,by simp,h.size,Nr w _,by simp;omega,by rw[gI];omega,f',by simp⟩⟩
      (World.grownBy_alloc w _ none) (fun g hg=>by cases hg) (fun g hg=>by cases hg;exact .inr rfl) a'
      (fun t J=>by
       obtain⟨s,hs,h'⟩:=List.mem_flatMap.1 J;rw[(List.mem_replicate.1 hs).2,iH]at h';obtain⟨y,hy,rfl⟩:=List.mem_map.1 h';exact O y hy)
      (fun j t u J hu=>by
       have hj:=(List.getElem?_eq_some_iff.1 J).1;rw[ij a',List.length_replicate]at hj;rw[qc d' c2 _ _ hj,iH,MA]at J;have Z:j%i.size<z.cells.size:=by rw[c1];exact Nat.mod_lt _ c2
       rw[NP,Mp hj]at hu;have G:(madeCells z.cells (c'.toNat*i.size))[j]?=some u:=jQ hu;unfold madeCells at G;rw[Array.getElem?_map,Array.getElem?_range]at G;rw[Mp om]at G;simp only[NR,Ol]at G;rw[N6,MJ Z]at J
       cases J
       have e1:z.cells[j%z.cells.size]! = z.cells[j%i.size]:=by simp only[c1];exact getElem!_pos z.cells _ Z
       rw[e1]at G;exact G▸.at _)
     exact⟨M',_,_,g',m1,m2,m3,m4⟩
    ·cases I
   ·cases I
  ·cases I
 ·cases I
end
end
end Go.Proofs.YtbjicljfjkdeeaaGreatDoor
