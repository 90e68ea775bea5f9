/- Part. -/
import Derived.Test.YteemngnialjaiaaGreatDoorQ01
import Derived.OrdersIn
import Derived.ProofKit
set_option maxRecDepth 100000
set_option maxHeartbeats 16000000
set_option linter.unusedVariables false
set_option linter.unusedSimpArgs false
namespace Go.Proofs.YteemngnialjaiaaGreatDoor
open Go.Proofs.Tryz Go.RowKit
variable {P:Program}{ops:Array Oper}{Q:Exit->Act->World->Prop}{md:Region.Mode}{S F:World->Prop}{row:String}{w b:World}{R:Value->World->Prop}{o oi:Oper}{a:Act}{K:Act->World->Prop}{r:Result Next}{i j k s d fuel id:Nat}{v:Value}{p:Prop}{listed L:Array Bool}{l:List Value}{ds:List Deferred}{c:Code}{f:FuncId}{x y:Int}
section
section
variable {n:Nat}
theorem Eu{args:Array Value}(h:Rows P row args w R):RowsIn Fence.wide n P row args w R :=
 fun c cs _=>let ⟨v,w',r,s⟩:=h c cs;⟨v,w',r,stepsIn_wide.2 s⟩
theorem E9(h:o.upon P a K Q r):o.uponIn Fence.wide n P a K Q r:=by
 have I:Fence.wide.depth.isSome=true->1<=n:=fun e=>by simp[Fence.wide]at e
 cases r with
 | ok x w' =>
  cases x<;>simp only[Oper.upon,Oper.uponIn]at h ⊢<;>first|exact h|exact⟨I,callsIn_wide.2 h⟩|exact⟨I,Eu h⟩|exact h.elim
 | halt x w'=>cases x<;>simp only[Oper.upon,Oper.uponIn]at h ⊢<;>exact h
theorem Cd(h:o.wp P a w K Q):o.wpIn Fence.wide n P a w K Q :=
 ⟨fun _ _=>trivial,E9 h⟩
theorem oO(Z:ops[i]?=some o)(hy:YieldsIf P ops S o v a)(J:S w)(h:K (a.put o.dst v) w):wpOpIn Fence.wide n P ops Q i K a w:=by
 unfold Go.wpOpIn;simp only[Z];rcases hy with ⟨hw,I⟩|⟨hw,rfl⟩
 ·simp only[hw,Ps];exact Cd (by simp only[Oper.wp,I w J,Oper.upon];exact h)
 ·simp only[hw,Bool.false_eq_true,Qb];exact⟨fun _ _=>trivial,h⟩
theorem uaa(h:p:=by
  cases e with
  | returned u=>exact⟨I a hy u,by rw[<-Rt a v u Z];exact he⟩
  | panicked c=>exact hQ _ _ _ he
  | outgrown=>exact he):p:=h
theorem uK{J:Oper}(hj:ops[j]?=some J)(f':oi.apart ops J=true)(g':∀cs b,oi.op≠.select cs b)(h':∀cs b,J.op≠.select cs b)(hQ:∀c a w,Q (.panic c) (a.put oi.dst v) w->Q (.panic c) a w)(hy:YieldsIf P ops S oi v a)(h:wpOpIn Fence.wide n P ops Q j K (a.put oi.dst v) w) :
  wpOpIn Fence.wide n P ops Q j (fun a' w'=>YieldsIf P ops S oi v a'/\K (a'.put oi.dst v) w') a w:=by
 obtain⟨h1,Z,h3⟩:=Oper.apart_spec f';have I:∀(a:Act),YieldsIf P ops S oi v a->∀u,YieldsIf P ops S oi v (a.put J.dst u):=fun a hy u=>hy.of_same (execOp_put oi g' a J.dst u h3) (wanted_put oi a J.dst u h3)
 have c':∀d,YieldsIf P ops S oi v { a with defers:=d::a.defers }:=fun d=>hy.of_same rfl rfl
 unfold wpOpIn at *;simp only[hj]at *;rw[wanted_put J a oi.dst v h1]at h
 split
 ·rename_i hw
  simp only[hw,Ps]at h;unfold Oper.wpIn at *;refine⟨fun _ _=>trivial,?_⟩;have h:=h.2;rw[show Fence.wide.round=none from rfl,Oper.semAt_none,execOp_put J h' a oi.dst v h1]at h;rw[show Fence.wide.round=none from rfl,Oper.semAt_none];generalize (execOp a.eval J).run P w=r at *
  cases r with
  | ok x w' =>
   cases x<;>simp only[Oper.uponIn]at h ⊢
   case value u=>exact⟨I a hy u,by rw[<-Rt a v u Z];exact h⟩
   case skip=>exact⟨I a hy _,by rw[<-Rt a v undef Z];exact h⟩
   case defer d =>
    refine⟨I _ (c' d) _,?_⟩;rw[<-Rt _ v undef Z,<-Act.put_defers];exact h
   case enter f args =>
    refine⟨h.1,CallsIn.mono h.2 fun e d' he=>?_⟩
    exact uaa
   case row row args=>exact⟨h.1,RowsIn.mono h.2 fun u d' he=>⟨I a hy u,by rw[<-Rt a v u Z];exact he⟩⟩
   case round l f tmps assign body =>
    refine⟨h.1,RoundIn.mono h.2 fun e d' he=>?_⟩
    exact uaa
  | halt x w' =>
   cases x<;>simp only[Oper.uponIn]at h ⊢
   case panic u=>exact hQ _ _ _ h
 ·rename_i hw
  simp only[hw]at h;exact⟨fun _ _=>trivial,I a hy _,by rw[<-Rt a v undef Z];exact h.2⟩
def su(md:Region.Mode)(ops:Array Oper):Nat->Nat->Nat->Bool
 | 0,_,_=>false
 | f+1,s,i=>((ops[s]?).map fun o=>o.after.any fun e=>Region.binds md e&&(e.on==i || su md ops f e.on i)).getD false
def ClosedL(md:Region.Mode)(ops:Array Oper)(listed:Array Bool):Prop:=∀(j:Nat)(o:Oper),ops[j]?=some o->listed.getD j false=true->∀e∈o.after,Region.binds md e=true->listed.getD e.on false=true
def pq(md:Region.Mode)(ops:Array Oper)(listed:Array Bool):Bool:=(List.range ops.size).all fun j=>!(listed.getD j false) || ((ops[j]?).map fun o=>o.after.all fun e=>!(Region.binds md e) || listed.getD e.on false).getD true
theorem By(h:pq md ops listed=true):ClosedL md ops listed:=fun j o I Z e he hb=>by
 unfold pq at h;rw[Re]at h;have h1:=h j (List.mem_range.2 (Array.getElem?_eq_some_iff.1 I).1);rw[Z,I]at h1;simp only[PH,Rg,PD,P3,Array.all_eq_true]at h1;obtain⟨k,hk,rfl⟩:=Array.mem_iff_getElem.1 he;have J:=h1 k hk;rw[hb]at J
 simpa using J
theorem tj(h:listed.getD k false=true):(listed.setIfInBounds j true).getD k false=true:=by
 by_cases e:j=k
 ·subst e;have J:j<listed.size:=by
   rcases PT j listed.size with I|I
   ·exact I
   ·simp[QR I]at h
  simp[J]
 ·rw[Q2 false e];exact h
theorem ClosedL.next(h:ClosedL md ops listed)(hj:j∈Region.ready md ops listed):ClosedL md ops (listed.setIfInBounds j true):=fun k o Z hk e he hb=>by
 by_cases ek:j=k
 ·subst ek;obtain⟨_,o',J,I⟩:=mem_ready.1 hj;rw[Z]at J
  cases J
  exact tj (I e he hb)
 ·rw[Q2 false ek]at hk;exact tj (h k o Z hk e he hb)
theorem qy{listed:Array Bool}(hc:ClosedL md ops listed):∀(f s i:Nat)(o:Oper),ops[s]?=some o->(∀e∈o.after,Region.binds md e=true->listed.getD e.on false=true)->su md ops f s i=true->listed.getD i false=true
 | 0,s,i,o,_,_,h=>by simp[su]at h
 | f+1,s,i,o,ho,hall,h=>by
  rw[su,ho]at h;simp only[PD,P3,Array.any_eq_true]at h;obtain⟨k,hk,h⟩:=h;simp only[ON,Pi,Pa]at h;have h1:=hall _ (Array.getElem_mem hk) h.1;rcases h.2 with J|J
  ·rw[<-J];exact h1
  ·cases I:ops[o.after[k].on]? with
   | none =>
    cases f with
    | zero=>simp[su]at J
    | succ f=>rw[su,I]at J;simp at J
   | some Z=>exact qy hc f _ i Z I (hc _ Z I h1) J
theorem od(Z:ClosedL md ops listed)(hw:su md ops ops.size s i=true)(hi:listed.getD i false=false):s∉Region.ready md ops listed:=fun h=>by
 obtain⟨_,o,J,I⟩:=mem_ready.1 h;have:=qy Z _ s i o J I hw;rw[hi]at this
 cases this
def iP(n:Nat)(P:Program)(md:Region.Mode)(ops:Array Oper)(Q:Exit->Act->World->Prop)(S:World->Prop)(s:Nat):Nat->Array Bool->Act->World->Prop
 | 0,listed,a,w=>wpAnyIn Fence.wide n P md ops Q 0 listed a w
 | fuel+1,listed,a,w =>
  (listed.getD s false=true->wpAnyIn Fence.wide n P md ops Q (fuel+1) listed a w) /\
  (listed.getD s false=false->(Region.ready md ops listed=[]->Q .normal a w) /\
   ∀i∈Region.ready md ops listed,wpOpIn Fence.wide n P ops Q i (fun h w'=>(i≠s->S w')/\iP n P md ops Q S s fuel (listed.setIfInBounds i true) h w') a w)
theorem mA:∀(fuel:Nat)(listed:Array Bool)(a:Act)(w:World),iP n P md ops Q S s fuel listed a w->wpAnyIn Fence.wide n P md ops Q fuel listed a w
 | 0,_,_,_,h=>h
 | fuel+1,listed,a,w,h=>by
  cases hs:listed.getD s false
  ·have I:=h.2 hs;exact⟨I.1,fun i hi=>wpOpIn_mono (fun Z w' J=>mA fuel _ Z w' J.2) (I.2 i hi)⟩
  ·exact h.1 hs
theorem uE(hi:ops[i]?=some oi)(d':∀(j:Nat)(o:Oper) cs b,ops[j]?=some o->o.op≠.select cs b)(hQ:∀c a w,Q (.panic c) (a.put oi.dst v) w->Q (.panic c) a w)(hw:su md ops ops.size s i=true)(s':i≠s) :
  ∀(fuel:Nat)(listed:Array Bool)(a:Act)(w:World),
   (∀j oj,ops[j]?=some oj->j≠i->listed.getD j true=false->(∀e∈oj.after,Region.binds md e=true->e.on≠i)->oi.apart ops oj=true) ->
   i∈Region.ready md ops listed->ClosedL md ops listed->listed.getD s false=false->YieldsIf P ops S oi v a->S w ->
   iP n P md ops Q S s fuel (listed.setIfInBounds i true) (a.put oi.dst v) w->iP n P md ops Q S s (fuel+1) listed a w:=by
 intro fuel
 induction fuel with
 | zero =>
  intro listed a w _ hr j' hls hy hS H;refine⟨fun h=>(by rw[h]at hls;cases hls),fun _=>⟨fun h=>(by rw[h]at hr;cases hr),fun j hj=>?_⟩⟩
  by_cases I:j=i
  ·subst I;exact oO hi hy hS ⟨fun _=>hS,H⟩
  ·have:=ready_mono hj I;rw[H.1]at this
   cases this
 | succ fuel ih =>
  intro listed a w J hr j' hls hy hS H;refine⟨fun h=>(by rw[h]at hls;cases hls),fun _=>⟨fun h=>(by rw[h]at hr;cases hr),fun j hj=>?_⟩⟩
  by_cases I:j=i
  ·subst I;exact oO hi hy hS ⟨fun _=>hS,H⟩
  ·have k':(listed.setIfInBounds i true).getD s false=false:=by rw[Q2 false s'];exact hls
   have h1:=(H.2 k').2 j (ready_mono hj I);obtain⟨c',oj,i',p'⟩:=mem_ready.1 hj;have f':listed.getD i false=false:=by
    have h0:=(mem_ready.1 hr).1;rcases PT i listed.size with h'|h'
    ·simpa [h'] using h0
    ·simp[QR h']at h0
   have g':j≠s:=fun e=>od j' hw f' (e▸(show j∈Region.ready md ops listed from hj))
   have m':∀e∈oj.after,Region.binds md e=true->e.on≠i:=fun e he hb heq=>by
    have h1:=p' e he hb;rw[heq,f']at h1
    cases h1
   have h2:=uK i' (J j oj i' I c' m') (fun cs b=>d' i oi cs b hi) (fun cs b=>d' j oj cs b i') hQ hy h1;have Z:∀k ok,ops[k]?=some ok->k≠i->(listed.setIfInBounds j true).getD k true=false ->
     (∀e∈ok.after,Region.binds md e=true->e.on≠i)->oi.apart ops ok=true:=fun k ok hk r' n' q'=>by
    refine J k ok hk r' ?_ q'
    by_cases l':j=k
    ·subst l';exact c'
    ·rw[Q2 true l']at n';exact n'
   refine wpOpIn_mono (fun a' w' h3=>⟨fun _=>h3.2.1 g',ih (listed.setIfInBounds j true) a' w' Z (ready_mono hr (Pc I)) (j'.next hj) (by rw[Q2 false g'];exact hls) h3.1 (h3.2.1 g') ?_⟩) h2;rw[Array.setIfInBounds_comm _ _ I];exact h3.2.2
theorem vO{rest:List Oper}(J:ops.toList.drop i=oi::rest)(I:oi.dst=some d)(hL:listed.setIfInBounds i true=L)(hs:Region.noSelect ops=true)(hf:Region.free md ops listed i=true)(hr:(Region.ready md ops listed).contains i=true)(hws:(su md ops ops.size s i&&pq md ops listed&&i != s&&!listed.getD s false)=true)(Z:∀c a w,Q (.panic c) (a.put (some d) v) w->Q (.panic c) a w)(hw:Region.wanted oi (yielded ops l.toArray)=true)(hy:∀w,S w->(execOp (Act.eval ⟨l.toArray,ds⟩) oi).run P w=.ok (.value v) w)(hS:S w)(h:iP n P md ops Q S s fuel L ⟨(l.set d v).toArray,ds⟩ w):iP n P md ops Q S s (fuel+1) listed ⟨l.toArray,ds⟩ w:=by
 subst hL;simp only[ON,P5,PG,Pj]at hws;refine uE (ky J) (Region.noSelect_spec hs) (by rw[I];exact Z) hws.1.1.1 hws.1.2 fuel listed _ w (Region.free_spec (ky J) hf) (jQ hr) (By hws.1.1.2) hws.2 (Or.inl ⟨hw,hy⟩) hS ?_;rw[I]
 simpa [Act.put] using h
theorem An{rest:List Oper}(ho:ops.toList.drop s=o::rest)(hL:listed.setIfInBounds s true=L)(hr:Region.ready md ops listed=[s])(hls:listed.getD s false=false)(I:L.getD s false=true)(hw:Region.wanted o (yielded ops l.toArray)=true)(h:∀K':Act->World->Prop,Shut (∀a w,wpAnyIn Fence.wide n P md ops Q fuel L a w->K' a w)->Oper.uponIn Fence.wide n P o ⟨l.toArray,ds⟩ K' Q ((execOp (Act.eval ⟨l.toArray,ds⟩) o).run P w)):iP n P md ops Q S s (fuel+1) listed ⟨l.toArray,ds⟩ w:=by
 subst hL;refine⟨fun h0=>(by rw[h0]at hls;cases hls),fun _=>⟨fun h0=>(by rw[h0]at hr;cases hr),fun j Z=>?_⟩⟩;rw[hr]at Z;obtain rfl:j=s:=jQ Z;refine wpOpIn_step (ky ho) (fun K' hK=>?_);rw[OG hw];refine⟨fun _ _=>trivial,h K' (fun a w J=>hK a w ⟨fun e=>absurd rfl e,?_⟩)⟩
 cases fuel with
 | zero=>exact J
 | succ fuel=>exact⟨fun _=>J,fun h0=>(by rw[I]at h0;cases h0)⟩
theorem oC{rest:List Oper}(Z:ops.toList.drop i=oi::rest)(J:oi.dst=some d)(hL:listed.setIfInBounds i true=L)(hr:Region.ready md ops listed=[i])(hw:Region.wanted oi (yielded ops l.toArray)=true)(hy:(execOp (Act.eval ⟨l.toArray,ds⟩) oi).run P w=.ok (.value v) w)(h:wpAnyIn Fence.wide n P md ops Q fuel L ⟨(l.set d v).toArray,ds⟩ w):wpAnyIn Fence.wide n P md ops Q (fuel+1) listed ⟨l.toArray,ds⟩ w:=by
 subst hL;refine⟨fun h0=>(by rw[h0]at hr;cases hr),fun j I=>?_⟩;rw[hr]at I;obtain rfl:j=i:=jQ I;unfold Go.wpOpIn;simp only[ky Z,hw,Ps];refine Cd ?_;simp only[Oper.wp,hy,Oper.upon,J]
 simpa [Act.put] using h
theorem zC(S:World->Prop)(s:Nat)(hm:P.follows .mixedOrders=true)(I:S w.drew)(h:S w.drew->iP n P .any ops Q S s ops.size (Array.replicate ops.size false) a w.drew):(Code.region id ops true).wpIn Fence.wide n P Q a w :=
 wpIn_region_any hm (mA _ _ _ _ (h I))
theorem uF{F:Fence}(h:c.wpIn F n P (NoPanic Q) a w):c.wpIn F n P Q a w:=wpIn_mono h NoPanic.imp
end
end
section
section
variable {n:Nat}
theorem ord_Y{is:List Nat}{rest:List Oper}(hi:ops.toList.drop i=oi::rest)(jD:oi.dst=some d)(hL:listed.setIfInBounds i true=L)(hs:Region.noSelect ops=true)(hf:Region.free md ops listed i=true)(hr:(Region.ready md ops listed).contains i=true)(hws:(su md ops ops.size s i&&pq md ops listed&&i != s&&!listed.getD s false)=true)(hQ:∀c a w,Q (.panic c) (a.put (some d) v) w->Q (.panic c) a w)(hw:Region.wanted oi (yielded ops l.toArray)=true)(hy:∀w,S w->(execOp (Act.eval ⟨l.toArray,ds⟩) oi).run P w=.ok (.value v) w)(hS:S w)(h:Ord is (iP n P md ops Q S s fuel L ⟨(l.set d v).toArray,ds⟩ w)):Ord (i::is) (iP n P md ops Q S s (fuel+1) listed ⟨l.toArray,ds⟩ w) :=
 vO hi jD hL hs hf hr hws hQ hw hy hS h
theorem tkY{q:Prop}(is:List Nat)(h:q)(hq:Bw q->Ord is p:=by
  intro hk
  repeat (focus (refine ord_Y (v:=?_) rfl rfl rfl (by kernel_rfl) (by kernel_rfl) (by kernel_rfl) (by kernel_rfl) (fun _ _ _ h=>h) (by kernel_rfl) ?_ (by assumption) ?_;rotate_left 1;(focus (intro wS hSw;(try dsimp only at hSw);go_simp<;>with_reducible rfl));simp only[O9,O6,O4]))
  exact pc hk):p:=hq ⟨h⟩
end
end
section
structure Bnd where
 v:Int
 t:Int
 s:Int
 n:Int
structure Ety where
 q:Int
 bs:List Bnd
 n:Int
structure Chg where
 sg:Int
 q:Int
 bs:List Bnd
instance bndDec:DecidableEq Bnd:=fun a b=>decidable_of_iff (a.v=b.v/\a.t=b.t/\a.s=b.s/\a.n=b.n) (by cases a;cases b;simp)
instance entDec:DecidableEq Ety:=fun a b=>decidable_of_iff (a.q=b.q/\a.bs=b.bs/\a.n=b.n) (by cases a;cases b;simp)
instance chgDec:DecidableEq Chg:=fun a b=>decidable_of_iff (a.sg=b.sg/\a.q=b.q/\a.bs=b.bs) (by cases a;cases b;simp)
def bC(a b:Int):Int:=if a<b then -1 else if b<a then 1 else 0
def orI(a b:Int):Int:=if a=0 then b else a
structure PC{α:Type}(c:α->α->Int):Prop where
 anti:∀a b,c b a=- c a b
 lt:∀a b d,c a b<0->c b d<0->c a d<0
 cong:∀a b d,c a b=0->c a d=c b d
theorem lh:PC bC:=by
 refine⟨fun a b=>?_,fun a b d=>?_,fun a b d=>?_⟩<;>unfold bC<;>(repeat' split)<;>omega
theorem iA{a b:Int}:bC a b=0↔a=b:=by unfold bC;(repeat' split)<;>omega
section
variable {α β:Type}{c d:α->α->Int}
theorem PC.refl(h:PC c)(a:α):c a a=0:=by have:=h.anti a a;omega
theorem PC.congr(h:PC c)(a b e:α)(he:c a b=0):c e a=c e b:=by
 have h1:=h.cong a b e he;have I:=h.anti a e;have J:=h.anti b e;omega
theorem PC.or(h:PC c)(k:PC d):PC (fun a b=>orI (c a b) (d a b)):=by
 refine⟨fun a b=>?_,fun a b e=>?_,fun a b e=>?_⟩
 ·have h1:=h.anti a b;have I:=k.anti a b;simp only[orI]
  split<;>split<;>omega
 ·simp only[orI]
  by_cases h1:c a b=0
  ·by_cases I:c b e=0
   ·have J:c a e=0:=by rw[h.cong a b e h1];exact I
    rw[OG h1,OG I,OG J];exact k.lt a b e
   ·have J:c a e=c b e:=h.cong a b e h1;rw[OG h1,OF I,OF om,J];exact fun _ h=>h
  ·by_cases I:c b e=0
   ·have J:c a b=c a e:=h.congr b e a I;rw[OF h1,OG I,OF om,J];exact fun h _=>h
   ·rw[OF h1,OF I];intro J Z;have:=h.lt a b e J Z;rw[OF om];exact this
 ·simp only[orI];intro h0
  by_cases h1:c a b=0
  ·rw[OG h1]at h0;rw[h.cong a b e h1,k.cong a b e h0]
  ·rw[OF h1]at h0;omega
theorem PC.of{c:β->β->Int}(h:PC c)(f:α->β):PC (fun a b=>c (f a) (f b)) :=
 ⟨fun _ _=>h.anti _ _,fun _ _ _=>h.lt _ _ _,fun _ _ _=>h.cong _ _ _⟩
theorem ik{a b:Int}:orI a b=0↔a=0/\b=0:=by unfold orI;split<;>omega
def fQ(c:α->α->Int):List α->List α->Int
 | [],[]=>0
 | [],_::_=>-1
 | _::_,[]=>1
 | a::l,b::m=>orI (c a b) (fQ c l m)
theorem PC.list(h:PC c):PC (fQ c):=by
 refine⟨?_,?_,?_⟩
 ·intro a
  induction a with
  | nil=>intro b;cases b<;>simp[fQ]
  | cons x a Z =>
   intro b
   cases b with
   | nil=>simp[fQ]
   | cons y b =>
    have h1:=h.anti x y;have I:=Z b;simp only[fQ,orI]
    split<;>split<;>omega
 ·intro a
  induction a with
  | nil=>intro b d;cases b<;>cases d<;>simp[fQ]
  | cons x a Z =>
   intro b d
   cases b with
   | nil=>cases d<;>simp[fQ]
   | cons y b =>
    cases d with
    | nil=>simp[fQ]
    | cons z d =>
     simp only[fQ,orI]
     by_cases h1:c x y=0
     ·by_cases I:c y z=0
      ·have J:c x z=0:=by rw[h.cong x y z h1];exact I
       rw[OG h1,OG I,OG J];exact Z b d
      ·have J:c x z=c y z:=h.cong x y z h1;rw[OG h1,OF I,OF om,J];exact fun _ h=>h
     ·by_cases I:c y z=0
      ·have J:c x y=c x z:=h.congr y z x I;rw[OF h1,OG I,OF om,J];exact fun h _=>h
      ·rw[OF h1,OF I];intro J h4;have:=h.lt x y z J h4;rw[OF om];exact this
 ·intro a
  induction a with
  | nil=>intro b d;cases b<;>simp[fQ]
  | cons x a Z =>
   intro b d
   cases b with
   | nil=>simp[fQ]
   | cons y b =>
    intro h0;simp only[fQ]at h0;obtain⟨h1,I⟩:=ik.1 h0
    cases d with
    | nil=>rfl
    | cons z d=>simp only[fQ];rw[h.cong x y z h1,Z b d I]
theorem yn(he:∀a b,c a b=0->a=b):∀l m:List α,fQ c l m=0->l=m
 | [],[],_=>rfl
 | [],_::_,h=>by simp[fQ]at h
 | _::_,[],h=>by simp[fQ]at h
 | a::l,b::m,h=>by
  simp only[fQ]at h;obtain⟨h1,I⟩:=ik.1 h;rw[he a b h1,yn he l m I]
end
def dA(a b:Bnd):Int:=orI (orI (bC a.t b.t) (bC a.s b.s)) (bC a.n b.n)
def ss(a b:Bnd):Int:=orI (dA a b) (bC a.v b.v)
def bsC(a b:List Bnd):Int:=fQ ss a b
def entC(a b:Ety):Int:=orI (bC a.q b.q) (bsC a.bs b.bs)
theorem mz:PC dA:=(((lh.of Bnd.t).or (lh.of Bnd.s)).or (lh.of Bnd.n))
theorem JF:PC ss:=mz.or (lh.of Bnd.v)
theorem ga:PC bsC:=JF.list
theorem I5(a b:Bnd)(h:ss a b=0):a=b:=by
 unfold ss dA at h;simp only[ik,iA]at h
 cases a;cases b
 simp only[Bnd.mk.injEq]at *;omega
theorem ui{a b:List Bnd}:bsC a b=0↔a=b:=⟨yn I5 a b,fun h=>h▸ga.refl a⟩
def Led(l:List Ety):Prop:=l.Pairwise (fun a b=>entC a b<0)/\∀x∈l,x.n≠0
theorem Led.nil:Led []:=⟨List.Pairwise.nil,by simp⟩
theorem Led.tail{x:Ety}{l:List Ety}(h:Led (x::l)):Led l:=⟨(List.pairwise_cons.1 h.1).2,fun y hy=>h.2 y (OS _ hy)⟩
end
def LJ(w:World)(b p:Nat)(x:Bnd):Prop :=
 w.cell? ⟨b,p,none⟩=some (OB x.v)/\w.cell? ⟨b,p+1,none⟩=some (OB x.t)/\w.cell? ⟨b,p+2,none⟩=some (OB x.s)/\w.cell? ⟨b,p+3,none⟩=some (OB x.n)
theorem dx:jU LJ:=fun _ _ _ _ _ I ⟨h0,h1,J,h3⟩=>⟨aa I h0,aa I h1,aa I J,aa I h3⟩
abbrev cP(w:World)(v:Value)(l:List Bnd):Prop:=Sl LJ 4 w v l
def Mf(w:World)(b p:Nat)(x:List Bnd):Prop:=∃v,cP w v x/\w.cell? ⟨b,p,none⟩=some v
theorem oR:jU Mf:=fun _ _ _ _ _ I ⟨v,hv,h0⟩=>⟨v,hv.stays dx I,aa I h0⟩
abbrev kC(w:World)(v:Value)(l:List (List Bnd)):Prop:=Sl Mf 1 w v l
def DX(x:Bnd):Value:=.agg #[OB x.v,OB x.t,OB x.s,OB x.n]
def zu(v:Value):Value:=.agg #[v]
structure Gr(w w':World):Prop where
 below:OD w w'
 drawn:w.drawn<=w'.drawn
theorem Gr.refl(w:World):Gr w w:=⟨OK _ _,OI _⟩
theorem Gr.trans{a c:World}(h:Gr a b)(k:Gr b c):Gr a c:=⟨ae h.below k.below,OP h.drawn k.drawn⟩
theorem Gr.alloc{a:World}(h:Gr a b)(o:Obj):Gr a (b.alloc o):=⟨bA h.below o,h.drawn⟩
theorem Gr.drew{a:World}(h:Gr a b):Gr a b.drew:=⟨h.below.drew,OP h.drawn (Nat.le_succ _)⟩
theorem Gr.set{a:World}(h:Gr a b){g:Nat}(I:a.heap.size<=g)(v:Value):Gr a (b.setCell ⟨g,i,none⟩ v):=⟨aj h.below I v,h.drawn⟩
theorem wh{w':World}{cs ds:Array Value}{t u:TypeId}(I:Below ((w.alloc (.cells cs t)).alloc (.cells ds u)).heap.size ((w.alloc (.cells cs t)).alloc (.cells ds u)) w') :
  (∀i,w'.cell? ⟨w.heap.size,i,none⟩=cs[i]?)/\(∀i,w'.cell? ⟨w.heap.size+1,i,none⟩=ds[i]?)/\OD w w':=by
 have h:=(iW (ae (ay _ _) I)).1;have k:=(iW I).1;simp only[World.size_alloc]at k;exact⟨h,k,ae (ay _ _) (ae (ay _ _) I)⟩
theorem IM{args:Array Value}{a r:Int}(h:Calls P f args w fun e w'=>e=.returned (OB a)/\Gr w w')(hr:a=r):Calls P f args w fun e w'=>e=.returned (OB r)/\OD w w' :=
 h.mono fun e w' ⟨h1,J⟩=>⟨h1.trans (by rw[hr]),J.below⟩
theorem aJ{args:Array Value}{Q:Ending->World->Prop}(h:∀W:World,W=w->Calls P f args W Q):Calls P f args w Q:=h w rfl
theorem Grows.to(hG:Grows F){Z w2:World}(I:OD Z w2)(h:F Z):F w2:=hG _ _ I h
theorem nI(x:Int)(w:World):Calls prog 119 #[OB x] w fun e w'=>e=.returned (.bool false)/\w=w':=by
 go_enter func119,ntmps119;go_wp2;go_ret;exact⟨by simp,rfl⟩
theorem uac(h:p:=by
  go_enter func62,ntmps62;go_wp2_with (go_at_call 119;refine (nI _ _).mono ?_;rintro e w' ⟨rfl,rfl⟩);go_ret;exact⟨rfl,rfl⟩):p:=h
theorem ge(x y:Int)(w:World):Calls prog 62 #[OB x,OB y] w fun e w'=>e=.returned (OB (bC x y))/\w=w':=by
 unfold bC;rcases RU x y with h|h|h
 ·rw[OG h];exact uac
 ·subst h;rw[OF om,OF om];exact uac
 ·rw[OF om,OG h];exact uac
def orL:List Int->Int
 | []=>0
 | x::l=>if x=0 then orL l else x
theorem Ft{l:List Int}(h:∀x∈l,x=0):orL l=0:=by
 induction l with
 | nil=>rfl
 | cons x l I=>simp only[orL];rw[OG (h x (OR ..))];exact I fun y hy=>h y (OS _ hy)
theorem NT{l:List Int}(h:l[k]?=some x)(hx:x≠0)(I:∀(j:Nat)(y:Int),l[j]?=some y->j<k->y=0):orL l=x:=by
 induction l generalizing k with
 | nil=>simp at h
 | cons y l Z =>
  cases k with
  | zero=>simp at h;subst h;simp only[orL];rw[OF hx]
  | succ k =>
   simp only[orL];rw[OG (I 0 y rfl om)];exact Z (jQ h) fun j z J a'=>I (j+1) z (jQ J) om
theorem FB(l:List Int)(v:Value)(w:World)(hl:BE w v l) :
  Calls prog 60 #[v] w fun e w'=>e=.returned (OB (orL l))/\w=w':=by
 obtain⟨A,c,rfl,h1,h2,c'⟩:=hl;have hn:=aP h1 h2;have HL:=jD c';clear c' h1 h2;go_enter func60,ntmps60;go_wp2_with fail
 go_loopw [8] (fun i wr=>wr=w/\∃k:Nat,k<=l.length/\i=OB k/\Hid (∀(j:Nat)(y:Int),l[j]?=some y->j<k->y=0)) (fun i _=>l.length-(intOf i).toNat)
 case atStart=>exact⟨rfl,0,OO _,rfl,fun _ _ _ h=>absurd h om⟩
 case round =>
  obtain⟨rfl,k,hk,rfl,hi⟩:=hrel
  by_cases a':k<l.length
  ·obtain⟨b,o,rfl,c0⟩:=HL.out k l[k] (OH a');unfold LG at c0;simp only[P7]at c0;have I:=jD (OH a');obtain⟨x,hx⟩:=jF (l[k]);rw[<-hx]at I c0;clear hx;have g':(k:Int)<(l.length:Int):=by omega
   by_cases J:x=0
   ·subst J;go_wp2_with fail
    go_roundw
    case rel =>
     refine⟨by trivial,k+1,by omega,by go_num,?_⟩;intro j y Z d';rcases Nat.lt_or_eq_of_le (Nat.le_of_lt_succ d') with h|h
     ·exact hi.out j y Z h
     ·subst h;rw[I.out]at Z;injection Z with Z;exact Z.symm
    case measure=>simp[intOf];omega
   ·have f':(x != 0)=true:=jQ J;have HX:=jD J;clear J;go_wp2;go_ret;rw[NT I.out HX.out hi.out];exact⟨rfl,rfl⟩
  ·go_wp2;go_ret;rw[Ft fun x hx=>by
    obtain⟨j,Z⟩:=List.mem_iff_getElem?.1 hx;exact hi.out j x Z (by have:=(List.getElem?_eq_some_iff.1 Z).1;omega)]
   exact⟨rfl,rfl⟩
theorem Kw(x y:Int):orL [x,y]=orI x y:=by
 simp only[orL,orI]
 by_cases h:x=0
 ·by_cases hy:y=0<;>simp[h,hy]
 ·simp[h]
theorem DL(x y z:Int):orL [x,y,z]=orI (orI x y) z:=by
 simp only[orL,orI]
 by_cases h:x=0
 ·by_cases hy:y=0
  ·by_cases I:z=0<;>simp[h,hy,I]
  ·simp[h,hy]
 ·simp[h]
theorem Ga{b:Nat}(h0:w.cell? ⟨b,0,none⟩=some (OB x))(h1:w.cell? ⟨b,1,none⟩=some (OB y)):BE w (.slice (some ⟨b,0,none⟩) 2 2) [x,y] :=
 ⟨_,2,rfl,OI _,by decide,fun k u hk=>⟨b,0,rfl,by
  match k,hk with
  | 0,hk=>simp at hk;subst hk;exact h0
  | 1,hk=>simp at hk;subst hk;exact h1
  | k+2,hk=>simp at hk⟩⟩
theorem zN{b:Nat}{z:Int}(h0:w.cell? ⟨b,0,none⟩=some (OB x))(h1:w.cell? ⟨b,1,none⟩=some (OB y))(h:w.cell? ⟨b,2,none⟩=some (OB z)):BE w (.slice (some ⟨b,0,none⟩) 3 3) [x,y,z] :=
 ⟨_,3,rfl,OI _,by decide,fun k u hk=>⟨b,0,rfl,by
  match k,hk with
  | 0,hk=>simp at hk;subst hk;exact h0
  | 1,hk=>simp at hk;subst hk;exact h1
  | 2,hk=>simp at hk;subst hk;exact h
  | k+3,hk=>simp at hk⟩⟩
theorem No(b:Nat)(x y:Int)(w:World)(h0:w.cell? ⟨b,0,none⟩=some (OB x))(h1:w.cell? ⟨b,1,none⟩=some (OB y)) :
  Calls prog 60 #[.slice (some ⟨b,0,none⟩) 2 2] w fun e w'=>e=.returned (OB (orI x y))/\w=w':=by
 have:=FB _ _ w (Ga h0 h1)
 rwa [Kw]at this
theorem yV(b:Nat)(x y z:Int)(w:World)(h0:w.cell? ⟨b,0,none⟩=some (OB x))(h1:w.cell? ⟨b,1,none⟩=some (OB y))(h:w.cell? ⟨b,2,none⟩=some (OB z)) :
  Calls prog 60 #[.slice (some ⟨b,0,none⟩) 3 3] w fun e w'=>e=.returned (OB (orI (orI x y) z))/\w=w':=by
 have:=FB _ _ w (zN h0 h1 h)
 rwa [DL]at this
theorem Gb(t1 s1 n1 t2 s2 h:Int)(w:World) :
  Calls prog 61 #[.agg #[OB t1,OB s1,OB n1],.agg #[OB t2,OB s2,OB h]] w fun e w' =>
   e=.returned (OB (orI (orI (bC t1 t2) (bC s1 s2)) (bC n1 h)))/\Gr w w':=by
 go_enter func61,ntmps61;go_wp2
 go_region_held3 (fun w'=>w'.cell? ⟨w.heap.size,0,none⟩=some (OB t1)/\w'.cell? ⟨w.heap.size,1,none⟩=some (OB s1)/\w'.cell? ⟨w.heap.size,2,none⟩=some (OB n1)/\w'.cell? ⟨w.heap.size+1,0,none⟩=some (OB t2)/\w'.cell? ⟨w.heap.size+1,1,none⟩=some (OB s2)/\w'.cell? ⟨w.heap.size+1,2,none⟩=some (OB h)) (go_keep)
  (first|(go_at_call 62;refine (ge _ _ _).mono ?_;rintro e w' ⟨rfl,rfl⟩)|(go_at_call 60;refine (yV _ (bC t1 t2) (bC s1 s2) (bC n1 h) _ ?_ ?_ ?_).mono ?_;(go_simp);(go_simp);(go_simp);rintro e w' ⟨rfl,rfl⟩))
 go_wp2;go_ret;exact⟨rfl,jC⟩
theorem IG(a b:Bnd)(w:World) :
  Calls prog 61 #[.agg #[OB a.t,OB a.s,OB a.n],.agg #[OB b.t,OB b.s,OB b.n]] w fun e w'=>e=.returned (OB (dA a b))/\Gr w w':=Gb _ _ _ _ _ _ w
theorem GW(a b:Bnd)(w:World) :
  Calls prog 59 #[DX a,DX b] w fun e w'=>e=.returned (OB (ss a b))/\Gr w w':=by
 unfold DX;go_enter func59,ntmps59;go_wp2
 refine bV fun w2 I=>?_;have h:Hid ((fun w'=>w'.cell? ⟨w.heap.size,0,none⟩=some (OB a.v)/\w'.cell? ⟨w.heap.size,1,none⟩=some (OB a.t)/\w'.cell? ⟨w.heap.size,2,none⟩=some (OB a.s)/\w'.cell? ⟨w.heap.size,3,none⟩=some (OB a.n)/\w'.cell? ⟨w.heap.size+1,0,none⟩=some (OB b.v)/\w'.cell? ⟨w.heap.size+1,1,none⟩=some (OB b.t)/\w'.cell? ⟨w.heap.size+1,2,none⟩=some (OB b.s)/\w'.cell? ⟨w.heap.size+1,3,none⟩=some (OB b.n)) w2):=jD (by subst I;(first|exact⟨‹_›,‹_›⟩|(go_simp;done)|(simp[*];done)));have J:Hid (Grows (fun w'=>w'.cell? ⟨w.heap.size,0,none⟩=some (OB a.v)/\w'.cell? ⟨w.heap.size,1,none⟩=some (OB a.t)/\w'.cell? ⟨w.heap.size,2,none⟩=some (OB a.s)/\w'.cell? ⟨w.heap.size,3,none⟩=some (OB a.n)/\w'.cell? ⟨w.heap.size+1,0,none⟩=some (OB b.v)/\w'.cell? ⟨w.heap.size+1,1,none⟩=some (OB b.t)/\w'.cell? ⟨w.heap.size+1,2,none⟩=some (OB b.s)/\w'.cell? ⟨w.heap.size+1,3,none⟩=some (OB b.n))):=(by repeat (first|exact aN _ _ _|exact aM|refine aT ?_ ?_));have c':Gr w w2:=(by subst I;exact jC);clear I;have Z:=h.out;go_region_held3 (fun w'=>w'.cell? ⟨w.heap.size,0,none⟩=some (OB a.v)/\w'.cell? ⟨w.heap.size,1,none⟩=some (OB a.t)/\w'.cell? ⟨w.heap.size,2,none⟩=some (OB a.s)/\w'.cell? ⟨w.heap.size,3,none⟩=some (OB a.n)/\w'.cell? ⟨w.heap.size+1,0,none⟩=some (OB b.v)/\w'.cell? ⟨w.heap.size+1,1,none⟩=some (OB b.t)/\w'.cell? ⟨w.heap.size+1,2,none⟩=some (OB b.s)/\w'.cell? ⟨w.heap.size+1,3,none⟩=some (OB b.n)) (with_reducible exact J.out.to (Gr.below (by repeat (first|with_reducible exact Gr.refl _|assumption|with_reducible refine Gr.drew ?_|with_reducible refine Gr.alloc ?_ _|with_reducible refine Gr.trans ?_ (by assumption)))) h.out) (first|(go_at_call 61;refine (IG a b _).mono ?_;rintro e w3 ⟨rfl,a'⟩)|(go_at_call 62;refine (ge _ _ _).mono ?_;rintro e w' ⟨rfl,rfl⟩)|(go_at_call 60;refine (No _ (dA a b) (bC a.v b.v) _ ?_ ?_).mono ?_;(go_simp);(go_simp);rintro e w' ⟨rfl,rfl⟩))
 go_wp2;go_ret;exact⟨rfl,jC⟩
theorem mi{l m:List Bnd}{x y:Bnd}(I:l[k]?=some x)(hy:m[k]?=some y):bsC (l.drop k) (m.drop k)=orI (ss x y) (bsC (l.drop (k+1)) (m.drop (k+1))):=by
 obtain⟨h1,rfl⟩:=List.getElem?_eq_some_iff.1 I;obtain⟨h,rfl⟩:=List.getElem?_eq_some_iff.1 hy;rw[PE h1,PE h];rfl
theorem xc{l m:List Bnd}{x:Bnd}(h:l[k]?=some x)(hy:m.length<=k):bsC (l.drop k) (m.drop k)=1:=by
 obtain⟨h1,rfl⟩:=List.getElem?_eq_some_iff.1 h;rw[PE h1,RD hy];rfl
theorem Ca{l m:List Bnd}(I:l.length<=k):bsC (l.drop k) (m.drop k)=if k<m.length then -1 else 0:=by
 rw[RD I]
 by_cases h:k<m.length
 ·rw[OG h,PE h];rfl
 ·rw[OF h,RD om];rfl
theorem oW(l m:List Bnd)(v1 v2:Value)(w:World)(hl:cP w v1 l)(hm:cP w v2 m) :
  Calls prog 58 #[v1,v2,.func (.func 59) #[] #[]] w fun e w'=>e=.returned (OB (bsC l m))/\Gr w w':=by
 obtain⟨A,c,rfl,h1,h2,Z⟩:=hl;have hn:=aP h1 h2;have HL:=jD Z;clear Z h1 h2;obtain⟨B,d,rfl,h1,h2,Z⟩:=hm;have t':=aP h1 h2;have HM:=jD Z;clear Z h1 h2;go_enter func58,ntmps58;go_wp2_with fail
 go_loopw [13] (fun i wr=>∃k:Nat,k<=l.length/\k<=m.length/\i=OB k/\Hid (bsC (l.drop k) (m.drop k)=bsC l m)/\Gr w wr) (fun i _=>l.length-(intOf i).toNat)
 case atStart=>exact⟨0,OO _,OO _,rfl,by exact jD rfl,Gr.refl _⟩
 case round =>
  obtain⟨k,hk,p',rfl,hi,J⟩:=hrel
  by_cases d':k<l.length
  ·obtain⟨b,o,rfl,c0,c1,c2,c3⟩:=HL.out k l[k] (OH d');replace c0:=aa J.below c0;replace c1:=aa J.below c1;replace c2:=aa J.below c2;replace c3:=aa J.below c3;have I:=jD (OH d');obtain⟨x,hx⟩:=jF (l[k]);rw[<-hx]at I c0 c1 c2 c3;clear hx;have s':(k:Int)<(l.length:Int):=by omega
   by_cases a':k<m.length
   ·obtain⟨b2,o2,rfl,d0,d1,d2,d3⟩:=HM.out k m[k] (OH a');replace d0:=aa J.below d0;replace d1:=aa J.below d1;replace d2:=aa J.below d2;replace d3:=aa J.below d3;have h:=jD (OH a');obtain⟨y,hy⟩:=jF (m[k]);rw[<-hy]at h d0 d1 d2 d3;clear hy;have k':b2<wr.heap.size:=OV wr ⟨b2,_,none⟩ d0;have l':b2≠wr.heap.size:=by omega
    have j':wr.heap.size≠b2:=by omega
    have n':b2≠wr.heap.size+1:=by omega
    have m':wr.heap.size+1≠b2:=by omega
    have h':¬((m.length:Int)<=(k:Int)):=by omega
    have u':(k:Int)<(m.length:Int):=by omega
    obtain⟨r,HR⟩:=eh (ss x y);go_wp2_with fail;refine (GW x y _).mono ?_;rw[HR.out];rintro e w' ⟨rfl,hg⟩;have f':Gr w w':=J.trans (Gr.trans jC hg)
    by_cases c':r=0
    ·subst c';go_wp2_with fail
     go_roundw
     case rel =>
      refine⟨k+1,by omega,by omega,by go_num,?_,f'⟩;have:=hi.out;rw[mi I.out h.out,HR.out]at this;exact jD this
     case measure=>simp[intOf];omega
    ·have q':(r != 0)=true:=jQ c';have i':=jD c';clear c';go_wp2;go_ret;have:=hi.out;rw[mi I.out h.out,HR.out,orI,OF i'.out]at this;rw[<-this];exact⟨rfl,f'⟩
   ·have h':(m.length:Int)<=(k:Int):=by omega
    go_wp2;go_ret;have:=hi.out;rw[xc I.out om]at this;rw[<-this];exact⟨rfl,J.trans jC⟩
  ·have he:=hi.out;rw[Ca om]at he;have HE:=jD he;clear he;have r':l.length=k:=by omega
   by_cases a':k<m.length
   ·have g':(l.length:Int)<(m.length:Int):=by omega
    go_wp2;go_ret;have:=HE.out;rw[OG a']at this;rw[<-this];exact⟨rfl,J⟩
   ·have g':¬((l.length:Int)<(m.length:Int)):=by omega
    go_wp2;go_ret;have:=HE.out;rw[OF a']at this;rw[<-this];exact⟨rfl,J⟩
theorem uA(l m:List Bnd)(v1 v2:Value)(w:World)(h:cP w v1 l)(hm:cP w v2 m) :
  Calls prog 25 #[zu v1,zu v2] w fun e w'=>e=.returned (OB (bsC l m))/\Gr w w':=by
 unfold zu;have Z:=jD h;have J:=jD hm;obtain⟨A,c,rfl,-,-,-⟩:=h;obtain⟨B,d,rfl,-,-,-⟩:=hm;go_enter func25,ntmps25;go_wp2_with (go_at_call 58;refine (oW l m _ _ _ (Z.out.stays dx (Gr.below jC)) (J.out.stays dx (Gr.below jC))).mono ?_;rintro e w2 ⟨rfl,I⟩);go_ret;exact⟨rfl,jC⟩
theorem orI_c(a b:Int):orI a b=if a=0 then b else a:=rfl
theorem de{a b:Int}(h:a=b):Ending.returned (OB a)=.returned (OB b):=by rw[h]
theorem uaf(h:p:=by
  rw[hr];clear hr;go_enter func78,ntmps78;go_wp2;go_ret;exact⟨rfl,jC⟩):p:=h
theorem iR(a b:Bnd)(w:World) :
  Calls prog 78 #[.agg #[OB a.t,OB a.s,OB a.n],.agg #[OB b.t,OB b.s,OB b.n]] w fun e w'=>e=.returned (OB (dA a b))/\Gr w w':=by
 obtain⟨v1,t1,s1,n1⟩:=a;obtain⟨v2,t2,s2,I⟩:=b;simp only[dA];rcases RU t1 t2 with h|h|h
 ·have J:(t1 != t2)=true:=by simp;omega
  have hr:orI (orI (bC t1 t2) (bC s1 s2)) (bC n1 I)=-1:=by simp[orI,bC,h]
  exact uaf
 ·subst h;rcases RU s1 s2 with h|h|h
  ·have J:(s1 != s2)=true:=by simp;omega
   have hr:orI (orI (bC t1 t1) (bC s1 s2)) (bC n1 I)=-1:=by simp[orI,bC,h]
   exact uaf
  ·subst h;have hr:orI (orI (bC t1 t1) (bC s1 s1)) (bC n1 I)=bC n1 I:=by simp[orI,bC]
   rw[hr];clear hr;rcases RU n1 I with h|h|h
   ·have hr:bC n1 I=-1:=by simp[bC,h]
    exact uaf
   ·subst h;have hr:bC n1 n1=0:=by simp[bC]
    exact uaf
   ·have hr:bC n1 I=1:=by unfold bC;rw[OF om,OG h]
    rw[hr];clear hr;have Z:¬n1<I:=by omega
    go_enter func78,ntmps78;go_wp2;go_ret;exact⟨rfl,jC⟩
  ·have J:(s1 != s2)=true:=by simp;omega
   have hr:orI (orI (bC t1 t1) (bC s1 s2)) (bC n1 I)=1:=by
    have h1:bC t1 t1=0:=by simp[bC]
    have h2:bC s1 s2=1:=by unfold bC;rw[OF om,OG h]
    rw[h1,h2];rfl
   rw[hr];clear hr;have Z:¬s1<s2:=by omega
   go_enter func78,ntmps78;go_wp2;go_ret;exact⟨rfl,jC⟩
 ·have J:(t1 != t2)=true:=by simp;omega
  have hr:orI (orI (bC t1 t2) (bC s1 s2)) (bC n1 I)=1:=by
   have h1:bC t1 t2=1:=by unfold bC;rw[OF om,OG h]
   rw[h1];rfl
  rw[hr];clear hr;have Z:¬t1<t2:=by omega
  go_enter func78,ntmps78;go_wp2;go_ret;exact⟨rfl,jC⟩
theorem uae(h:p:=by
  go_enter func38,ntmps38;go_wp2_with (go_at_call 78;refine (iR a b _).mono ?_;rw[J.out];rintro e Z ⟨rfl,I⟩;obtain⟨hz,hy,-⟩:=wh I.below);go_ret;exact⟨rfl,jC⟩):p:=h
theorem Eh(a b:Bnd)(w:World) :
  Calls prog 38 #[DX a,DX b] w fun e w'=>e=.returned (OB (ss a b))/\Gr w w':=by
 unfold DX ss;obtain⟨r,hr⟩:=jE (dA a b);have J:=jD hr;rw[hr,orI_c];clear hr
 by_cases h0:r=0
 ·subst h0;rw[OG rfl];rcases RU a.v b.v with h|h|h
  ·have hr:bC a.v b.v=-1:=by simp[bC,h]
   rw[hr];clear hr;exact uae
  ·have hr:bC a.v b.v=0:=by simp[bC,h]
   rw[hr];clear hr;exact uae
  ·have hr:bC a.v b.v=1:=by unfold bC;rw[OF om,OG h]
   rw[hr];clear hr;have h':¬a.v<b.v:=by omega
   exact uae
 ·rw[OF h0];have a':(r != 0)=true:=jQ h0;go_enter func38,ntmps38;go_wp2_with (go_at_call 78;refine (iR a b _).mono ?_;rw[J.out];rintro e Z ⟨rfl,I⟩);go_ret;exact⟨rfl,jC⟩
theorem nr(l m:List Bnd)(v1 v2:Value)(w:World)(hl:cP w v1 l)(hm:cP w v2 m) :
  Calls prog 16 #[zu v1,zu v2] w fun e w'=>e=.returned (OB (bsC l m))/\Gr w w':=by
 unfold zu;obtain⟨A,c,rfl,h1,h2,d'⟩:=hl;have hn:=aP h1 h2;have HL:=jD d';clear d' h1 h2;obtain⟨B,d,rfl,h1,h2,d'⟩:=hm;have B':=aP h1 h2;have HM:=jD d';clear d' h1 h2;go_enter func16,ntmps16;go_wp2_with fail;refine bV fun w0 e0=>?_
 have h:Gr w w0:=by rw[e0];exact jC
 have x0:OC w0 w.heap.size 0 (.slice A l.length c):=jG e0;have y0:OC w0 (w.heap.size+1) 0 (.slice B m.length d):=jG e0;have HX:=jD x0;have HY:=jD y0;clear e0 x0 y0
 go_loopw [5] (fun i wr=>∃k:Nat,k<=l.length/\k<=m.length/\i=OB k/\Hid (bsC (l.drop k) (m.drop k)=bsC l m)/\Gr w0 wr) (fun i _=>l.length-(intOf i).toNat)
 case atStart=>exact⟨0,OO _,OO _,rfl,by exact jD rfl,Gr.refl _⟩
 case round =>
  obtain⟨k,hk,y',rfl,hi,Z⟩:=hrel;have x0:=aa Z.below HX.out;have y0:=aa Z.below HY.out
  by_cases g':k<l.length
  ·have m':(k:Int)<(l.length:Int):=by omega
   by_cases c':k<m.length
   ·obtain⟨b,o,rfl,c0,c1,c2,c3⟩:=HL.out k l[k] (OH g');replace c0:=aa (h.trans Z).below c0;replace c1:=aa (h.trans Z).below c1;replace c2:=aa (h.trans Z).below c2;replace c3:=aa (h.trans Z).below c3;have a':=jD (OH g');obtain⟨x,hx⟩:=jF (l[k]);rw[<-hx]at a' c0 c1 c2 c3;clear hx;obtain⟨b2,I,rfl,d0,d1,d2,d3⟩:=HM.out k m[k] (OH c');replace d0:=aa (h.trans Z).below d0;replace d1:=aa (h.trans Z).below d1;replace d2:=aa (h.trans Z).below d2;replace d3:=aa (h.trans Z).below d3;have J:=jD (OH c');obtain⟨y,hy⟩:=jF (m[k]);rw[<-hy]at J d0 d1 d2 d3;clear hy;have p':(k:Int)<(m.length:Int):=by omega
    obtain⟨r,HR⟩:=eh (ss x y);go_wp2_with fail;refine bV fun w2 e2=>?_
    have n':wr=w2:=e2.symm;subst n';clear e2;have r':Gr wr wr:=Gr.refl _
    have j':Hid ((fun W=>W.cell? ⟨w.heap.size,0,none⟩=some (.slice (some ⟨b,o,none⟩) l.length c)/\W.cell? ⟨w.heap.size+1,0,none⟩=some (.slice (some ⟨b2,I,none⟩) m.length d)/\W.cell? ⟨b,o+k*4,none⟩=some (OB x.v)/\W.cell? ⟨b,o+k*4+1,none⟩=some (OB x.t)/\W.cell? ⟨b,o+k*4+2,none⟩=some (OB x.s)/\W.cell? ⟨b,o+k*4+3,none⟩=some (OB x.n)/\W.cell? ⟨b2,I+k*4,none⟩=some (OB y.v)/\W.cell? ⟨b2,I+k*4+1,none⟩=some (OB y.t)/\W.cell? ⟨b2,I+k*4+2,none⟩=some (OB y.s)/\W.cell? ⟨b2,I+k*4+3,none⟩=some (OB y.n)) wr):=jD (by (first|exact⟨‹_›,‹_›⟩|(go_simp;done)|(simp[*];done)));have q':Hid (Grows (fun W=>W.cell? ⟨w.heap.size,0,none⟩=some (.slice (some ⟨b,o,none⟩) l.length c)/\W.cell? ⟨w.heap.size+1,0,none⟩=some (.slice (some ⟨b2,I,none⟩) m.length d)/\W.cell? ⟨b,o+k*4,none⟩=some (OB x.v)/\W.cell? ⟨b,o+k*4+1,none⟩=some (OB x.t)/\W.cell? ⟨b,o+k*4+2,none⟩=some (OB x.s)/\W.cell? ⟨b,o+k*4+3,none⟩=some (OB x.n)/\W.cell? ⟨b2,I+k*4,none⟩=some (OB y.v)/\W.cell? ⟨b2,I+k*4+1,none⟩=some (OB y.t)/\W.cell? ⟨b2,I+k*4+2,none⟩=some (OB y.s)/\W.cell? ⟨b2,I+k*4+3,none⟩=some (OB y.n))):=(by repeat (first|exact aN _ _ _|exact aM|refine aT ?_ ?_));have s':=j'.out;go_region_held3 (fun W=>W.cell? ⟨w.heap.size,0,none⟩=some (.slice (some ⟨b,o,none⟩) l.length c)/\W.cell? ⟨w.heap.size+1,0,none⟩=some (.slice (some ⟨b2,I,none⟩) m.length d)/\W.cell? ⟨b,o+k*4,none⟩=some (OB x.v)/\W.cell? ⟨b,o+k*4+1,none⟩=some (OB x.t)/\W.cell? ⟨b,o+k*4+2,none⟩=some (OB x.s)/\W.cell? ⟨b,o+k*4+3,none⟩=some (OB x.n)/\W.cell? ⟨b2,I+k*4,none⟩=some (OB y.v)/\W.cell? ⟨b2,I+k*4+1,none⟩=some (OB y.t)/\W.cell? ⟨b2,I+k*4+2,none⟩=some (OB y.s)/\W.cell? ⟨b2,I+k*4+3,none⟩=some (OB y.n)) (with_reducible exact q'.out.to (Gr.below (by repeat (first|with_reducible exact Gr.refl _|assumption|with_reducible refine Gr.drew ?_|with_reducible refine Gr.alloc ?_ _|with_reducible refine Gr.trans ?_ (by assumption)))) j'.out) (first|(go_at_call 38;refine (Eh x y _).mono ?_;rw[HR.out];rintro e w3 ⟨rfl,z'⟩))
    have h':Gr w0 w3:=Z.trans jC;clear r'
    by_cases f':r=0
    ·subst f';go_wp2_with fail
     go_roundw
     case rel =>
      refine⟨k+1,by omega,by omega,by go_num,?_,h'⟩;have:=hi.out;rw[mi a'.out J.out,HR.out]at this;exact jD this
     case measure=>simp[intOf];omega
    ·have u':(r != 0)=true:=jQ f';have l':=jD f';clear f';go_wp2;go_ret;have:=hi.out;rw[mi a'.out J.out,HR.out,orI,OF l'.out]at this;rw[<-this];exact⟨rfl,h.trans h'⟩
   ·have x':¬((k:Int)<(m.length:Int)):=by omega
    have p':¬((l.length:Int)<(m.length:Int)):=by omega
    have A':(m.length:Int)<(l.length:Int):=by omega
    go_wp2;go_ret;have:=hi.out;rw[xc (OH g') om]at this;rw[<-this];exact⟨rfl,h.trans Z⟩
  ·have he:=hi.out;rw[Ca om]at he;have HE:=jD he;clear he;have k':l.length=k:=by omega
   have m':¬((k:Int)<(l.length:Int)):=by omega
   have HK:=jD k';clear k'
   by_cases c':k<m.length
   ·have i':(l.length:Int)<(m.length:Int):=by have:=HK.out;omega
    go_wp2;go_ret;have:=HE.out;rw[OG c']at this;rw[<-this];exact⟨rfl,h.trans Z⟩
   ·have i':¬((l.length:Int)<(m.length:Int)):=by have:=HK.out;omega
    have t':¬((m.length:Int)<(l.length:Int)):=by have:=HK.out;omega
    go_wp2;go_ret;have:=HE.out;rw[OF c']at this;rw[<-this];exact⟨rfl,h.trans Z⟩
structure Vl where
 kind:Int
 num:Int
 text:ByteArray
structure Evt where
 src:Int
 sq:Int
 ty:Int
 tm:Int
 vals:List Vl
def dC(e:Evt):Bnd:=⟨0,e.tm,e.src,e.sq⟩
def bY(e:Evt):Bool:=decide (0<=e.tm/\e.tm<=1099511627776/\0<=e.src/\e.src<8/\0<=e.sq/\e.sq<=1099511627776)
def dS(a b:Evt):Bool:=decide (a.src=b.src/\a.sq=b.sq)
def iD(pre:List Evt)(x:Evt):Bool:=match pre.getLast? with
 | some p=>decide (0<=dA (dC p) (dC x))
 | none=>false
def evE(pre:List Evt)(x:Evt):Int :=
 if bY x=false then 2 else if iD pre x=true then 14 else if pre.any (dS x)=true then 7 else 0
def cO:List Evt->List Evt->Int
 | _,[]=>0
 | pre,x::l=>if evE pre x=0 then cO (pre++[x]) l else evE pre x
def bN(l:List Evt):Int:=if 4096<l.length then 5 else cO [] l
theorem xV{pre:List Evt}{x:Evt}(h:evE pre x=0):bY x=true/\(∀p,pre.getLast?=some p->dA (dC p) (dC x)<0)/\pre.any (dS x)=false:=by
 unfold evE at h
 by_cases h1:bY x=false
 ·rw[OG h1]at h;exact absurd h dc
 ·rw[OF h1]at h
  by_cases I:iD pre x=true
  ·rw[OG I]at h;exact absurd h dc
  ·rw[OF I]at h
   by_cases J:pre.any (dS x)=true
   ·rw[OG J]at h;exact absurd h dc
   ·refine⟨jQ h1,fun p hp=>?_,Bool.eq_false_iff.2 J⟩;unfold iD at I;rw[hp]at I;simp at I;omega
structure CJ(l:List Evt):Prop where
 asc:l.Pairwise fun a b=>dA (dC a) (dC b)<0
 placed:∀e∈l,bY e=true
theorem rq:∀(l pre:List Evt),CJ pre->cO pre l=0->CJ (pre++l)
 | [],pre,h,_=>by rw[Qf];exact h
 | x::l,pre,h,h0=>by
  unfold cO at h0
  by_cases e:evE pre x=0
  ·rw[OG e]at h0;obtain⟨e1,e2,-⟩:=xV e;have hx:CJ (pre++[x]):=by
    refine⟨?_,fun y hy=>?_⟩
    ·rw[RE];refine⟨h.asc,List.pairwise_singleton ..,fun a Z b hb=>?_⟩;simp at hb;subst hb
     cases hp:pre.getLast? with
     | none=>rw[List.getLast?_eq_none_iff]at hp;rw[hp]at Z;simp at Z
     | some p =>
      have h2:=e2 p hp;obtain⟨ys,I⟩:=List.getLast?_eq_some_iff.1 hp;rw[I]at Z;rcases List.mem_append.1 Z with J|J
      ·have h4:=h.asc;rw[I,RE]at h4;exact mz.lt _ _ _ (h4.2.2 a J p jS) h2
      ·simp at J;subst J;exact h2
    ·rcases List.mem_append.1 hy with hy|hy
     ·exact h.placed y hy
     ·simp at hy;subst hy;exact e1
   have:=rq l (pre++[x]) hx h0
   rwa [QH]at this
  ·rw[OF e]at h0;exact absurd h0 e
theorem nU{l:List Evt}(h:bN l=0):CJ l/\l.length<=4096:=by
 unfold bN at h
 split at h
 ·exact absurd h dc
 ·exact⟨by simpa using rq l [] ⟨List.Pairwise.nil,by simp⟩ h,by omega⟩
def mC(w:World)(b p:Nat)(x:Vl):Prop :=
 w.cell? ⟨b,p,none⟩=some (OB x.kind)/\w.cell? ⟨b,p+1,none⟩=some (OB x.num)/\w.cell? ⟨b,p+2,none⟩=some (.string x.text)
theorem aG:jU mC:=fun _ _ _ _ _ hb ⟨h0,h1,h⟩=>⟨aa hb h0,aa hb h1,aa hb h⟩
abbrev bh(w:World)(v:Value)(l:List Vl):Prop:=Sl mC 3 w v l
def pP(w:World)(b p:Nat)(x:Evt):Prop:=∃v,bh w v x.vals /\
 w.cell? ⟨b,p,none⟩=some (OB x.src)/\w.cell? ⟨b,p+1,none⟩=some (OB x.sq)/\w.cell? ⟨b,p+2,none⟩=some (OB x.ty)/\w.cell? ⟨b,p+3,none⟩=some (OB x.tm)/\w.cell? ⟨b,p+4,none⟩=some v
theorem bX:jU pP:=fun _ _ _ _ _ hb ⟨v,h,h0,h1,I,Z,J⟩=>⟨v,h.stays aG hb,aa hb h0,aa hb h1,aa hb I,aa hb Z,aa hb J⟩
abbrev cH(w:World)(v:Value)(l:List Evt):Prop:=Sl pP 5 w v l
def sB(w:World)(b p:Nat)(x:List Evt):Prop:=∃v,cH w v x/\w.cell? ⟨b,p,none⟩=some v
theorem cz:jU sB:=fun _ _ _ _ _ hb ⟨v,h,h0⟩=>⟨v,h.stays bX hb,aa hb h0⟩
abbrev dU(w:World)(v:Value)(l:List (List Evt)):Prop:=Sl sB 1 w v l
def cM(x:Evt)(v:Value):Value:=.agg #[OB x.src,OB x.sq,OB x.ty,OB x.tm,v]
def EU(x:Bnd):Value:=.agg #[OB x.t,OB x.s,OB x.n]
end Go.Proofs.YteemngnialjaiaaGreatDoor
