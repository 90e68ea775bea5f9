/- Part. -/
import Derived.Test.YtbjicljfjkdeeaaGreatDoorQ01
import Derived.Deep.RegionHeld3
import Derived.OrdersIn
import Derived.ProofKit
set_option maxRecDepth 100000
set_option maxHeartbeats 16000000
set_option linter.unusedVariables false
set_option linter.unusedSimpArgs false
namespace Go.Proofs.YtbjicljfjkdeeaaGreatDoor
open Go.Proofs.Tryz Go.RowKit
section
section
variable {P : Program} {ops : Array Oper} {Q : Exit -> Act -> World -> Prop} {md : Region.Mode} {S : World -> Prop}
theorem ord_H {i d fuel:Nat} {is:List Nat} {l:List Value} {ds:List Deferred} {listed L:Array Bool} {oi:Oper} {rest:List Oper} {v:Value} {w:World}
  (hi:ops.toList.drop i=oi::rest) (jD:oi.dst=some d) (hL:listed.setIfInBounds i true=L)
  (hs:Region.noSelect ops=true) (hf:Region.free md ops listed i=true) (hr:(Region.ready md ops listed).contains i=true)
  (hQ:∀c a w,Q (.panic c) (a.put (some d) v) w->Q (.panic c) a w) (hw:Region.wanted oi (yielded ops l.toArray)=true)
  (hy:∀w,S w->(execOp (Act.eval ⟨l.toArray,ds⟩) oi).run P w=.ok (.value v) w) (hS:S w)
  (h:Ord is (wpAnyH P md ops Q S fuel L ⟨(l.set d v).toArray,ds⟩ w)):Ord (i::is) (wpAnyH P md ops Q S (fuel+1) listed ⟨l.toArray,ds⟩ w) :=
 vI hi jD hL hs hf hr hQ hw hy hS h
theorem ord_P {s i d fuel:Nat} {is:List Nat} {l:List Value} {ds:List Deferred} {listed L:Array Bool} {oi:Oper} {rest:List Oper} {v:Value} {w:World}
  (hi:ops.toList.drop i=oi::rest) (jD:oi.dst=some d) (hL:listed.setIfInBounds i true=L)
  (hs:Region.noSelect ops=true) (hf:Region.free md ops listed i=true) (hr:(Region.ready md ops listed).contains i=true) (hws:(sE md ops s i&&i != s&&!listed.getD s false)=true)
  (hQ:∀c a w,Q (.panic c) (a.put (some d) v) w->Q (.panic c) a w) (hw:Region.wanted oi (yielded ops l.toArray)=true)
  (hy:∀w,S w->(execOp (Act.eval ⟨l.toArray,ds⟩) oi).run P w=.ok (.value v) w) (hS:S w)
  (h:Ord is (dj P md ops Q S s fuel L ⟨(l.set d v).toArray,ds⟩ w)):Ord (i::is) (dj P md ops Q S s (fuel+1) listed ⟨l.toArray,ds⟩ w) :=
 uB hi jD hL hs hf hr hws hQ hw hy hS h
theorem tkH {p q:Prop} (is:List Nat) (h:q) (hq:AS q->Ord is p:=by
  intro hk
  repeat (focus (refine ord_H (v:=?_) rfl rfl rfl (by kernel_rfl) (by kernel_rfl) (by kernel_rfl) (fun _ _ _ h=>h) (by kernel_rfl) ?_ (by assumption) ?_;rotate_left 1;(focus (intro wS hSw;(try dsimp only at hSw);go_simp<;>with_reducible rfl));simp only[List.setIfInBounds_toArray,List.set_cons_zero,List.set_cons_succ]))
  exact oU hk):p:=hq ⟨h⟩
theorem ord_S {i d fuel:Nat} {is:List Nat} {l:List Value} {ds:List Deferred} {listed L:Array Bool} {oi:Oper} {rest:List Oper} {w:World}
  (hi:ops.toList.drop i=oi::rest) (jD:oi.dst=some d) (hL:listed.setIfInBounds i true=L)
  (hs:Region.noSelect ops=true) (hf:Region.free md ops listed i=true) (hr:(Region.ready md ops listed).contains i=true)
  (hQ:∀c a w,Q (.panic c) (a.put (some d) undef) w->Q (.panic c) a w) (hw:Region.wanted oi (yielded ops l.toArray)=false) (hS:S w)
  (h:Ord is (wpAnyH P md ops Q S fuel L ⟨(l.set d undef).toArray,ds⟩ w)):Ord (i::is) (wpAnyH P md ops Q S (fuel+1) listed ⟨l.toArray,ds⟩ w) :=
 vz hi jD hL hs hf hr hQ hw hS h
theorem tkS {p q:Prop} (is:List Nat) (h:q) (hq:AS q->Ord is p:=by
  intro hk
  repeat (focus (refine ord_S rfl rfl rfl (by kernel_rfl) (by kernel_rfl) (by kernel_rfl) (fun _ _ _ h=>h) (by kernel_rfl) (by assumption) ?_;simp only[List.setIfInBounds_toArray,List.set_cons_zero,List.set_cons_succ]))
  exact oU hk):p:=hq ⟨h⟩
theorem tkP {p q:Prop} (is:List Nat) (h:q) (hq:AS q->Ord is p:=by
  intro hk
  repeat (focus (refine ord_P (v:=?_) rfl rfl rfl (by kernel_rfl) (by kernel_rfl) (by kernel_rfl) (by kernel_rfl) (fun _ _ _ h=>h) (by kernel_rfl) ?_ (by assumption) ?_;rotate_left 1;(focus (intro wS hSw;(try dsimp only at hSw);go_simp<;>with_reducible rfl));simp only[List.setIfInBounds_toArray,List.set_cons_zero,List.set_cons_succ]))
  exact oU hk):p:=hq ⟨h⟩
theorem nxH (i:Nat) {fuel:Nat} {l:List Value} {ds:List Deferred} {listed L:Array Bool} {oi:Oper} {rest:List Oper} {w:World}
  (h:∀K':Act->World->Prop,Shut (∀a w,S w->(S w->wpAnyH P md ops Q S fuel L a w)->K' a w)->Oper.wp P oi ⟨l.toArray,ds⟩ w K' Q)
  (hi:ops.toList.drop i=oi::rest:=by rfl) (hL:listed.setIfInBounds i true=L:=by rfl) (hr:Region.ready md ops listed=[i]:=by kernel_rfl) (hw:Region.wanted oi (yielded ops l.toArray)=true:=by kernel_rfl):wpAnyH P md ops Q S (fuel+1) listed ⟨l.toArray,ds⟩ w :=
 ym hi hL hr hw h
theorem nxP (i:Nat) {s fuel:Nat} {l:List Value} {ds:List Deferred} {listed L:Array Bool} {oi:Oper} {rest:List Oper} {w:World}
  (h:∀K':Act->World->Prop,Shut (∀a w,S w->(S w->dj P md ops Q S s fuel L a w)->K' a w)->Oper.wp P oi ⟨l.toArray,ds⟩ w K' Q)
  (hi:ops.toList.drop i=oi::rest:=by rfl) (hL:listed.setIfInBounds i true=L:=by rfl) (hr:Region.ready md ops listed=[i]:=by kernel_rfl) (hls:listed.getD s false=false:=by kernel_rfl) (hw:Region.wanted oi (yielded ops l.toArray)=true:=by kernel_rfl):dj P md ops Q S s (fuel+1) listed ⟨l.toArray,ds⟩ w :=
 wC hi hL hr hls hw h
end
theorem dn {P:Program} {ops:Array Oper} {Q:Exit->Act->World->Prop} {md:Region.Mode} {S:World->Prop} {fuel:Nat} {listed:Array Bool} {a:Act} {w:World} (h:Q .normal a w) (hr:Region.ready md ops listed=[]:=by kernel_rfl):wpAnyH P md ops (NoPanic Q) S fuel listed a w:=wpAnyH_done hr (NoPanic.normal h) fuel
theorem rgn {P:Program} {id:Nat} {ops:Array Oper} {Q:Exit->Act->World->Prop} {a:Act} {w:World} (S B:World->Prop) (mk:∀W,B W->S W) (h0:B w.drew)
  (h:(∀W,B W->S W)->S w.drew->wpAnyH P .any ops (NoPanic Q) S ops.size (Array.replicate ops.size false) a w.drew) (hm:P.follows .mixedOrders=true:=by kernel_rfl):(Code.region id ops true).wp P Q a w :=
 wp_region_noPanic (wp_region_held_drew hm (mk _ h0) (h mk))
theorem c5 {W W':World} {b b':Nat} {t:TypeId} {v0 v1 v2 v3 v4:Value} (e:W=W') (f:b=b') (h:W'.heap[b']?=some (.cells #[v0,v1,v2,v3,v4] t (0,0)):=by
  first
  | exact ax _ _ _ (by simp)
  | exact am (af _ _) (ax _ _ _ (by simp))
  | exact am (af _ _) (am (af _ _) (ax _ _ _ (by simp)))
  | exact am (af _ _) (am (af _ _) (am (af _ _) (ax _ _ _ (by simp))))):W.cell? ⟨b,0,none⟩=some v0/\W.cell? ⟨b,1,none⟩=some v1/\W.cell? ⟨b,2,none⟩=some v2/\W.cell? ⟨b,3,none⟩=some v3/\W.cell? ⟨b,4,none⟩=some v4:=by
 rw[e,f]
 exact⟨ae h 0,ae h 1,ae h 2,ae h 3,ae h 4⟩
theorem c8 {W W':World} {b b':Nat} {t:TypeId} {v0 v1 v2 v3 v4 v5 v6 v7:Value} (e:W=W') (f:b=b') (h:W'.heap[b']?=some (.cells #[v0,v1,v2,v3,v4,v5,v6,v7] t (0,0)):=by
  first
  | exact ax _ _ _ (by simp)
  | exact am (af _ _) (ax _ _ _ (by simp))
  | exact am (af _ _) (am (af _ _) (ax _ _ _ (by simp)))
  | exact am (af _ _) (am (af _ _) (am (af _ _) (ax _ _ _ (by simp))))):W.cell? ⟨b,0,none⟩=some v0/\W.cell? ⟨b,1,none⟩=some v1/\W.cell? ⟨b,2,none⟩=some v2/\W.cell? ⟨b,3,none⟩=some v3/\W.cell? ⟨b,4,none⟩=some v4/\W.cell? ⟨b,5,none⟩=some v5/\W.cell? ⟨b,6,none⟩=some v6/\W.cell? ⟨b,7,none⟩=some v7:=by
 rw[e,f]
 exact⟨ae h 0,ae h 1,ae h 2,ae h 3,ae h 4,ae h 5,ae h 6,ae h 7⟩
theorem c14 {W W':World} {b b':Nat} {t:TypeId} {v0 v1 v2 v3 v4 v5 v6 v7 v8 v9 v10 v11 v12 v13:Value} (e:W=W') (f:b=b') (h:W'.heap[b']?=some (.cells #[v0,v1,v2,v3,v4,v5,v6,v7,v8,v9,v10,v11,v12,v13] t (0,0)):=by
  first
  | exact ax _ _ _ (by simp)
  | exact am (af _ _) (ax _ _ _ (by simp))
  | exact am (af _ _) (am (af _ _) (ax _ _ _ (by simp)))
  | exact am (af _ _) (am (af _ _) (am (af _ _) (ax _ _ _ (by simp))))):W.cell? ⟨b,0,none⟩=some v0/\W.cell? ⟨b,1,none⟩=some v1/\W.cell? ⟨b,2,none⟩=some v2/\W.cell? ⟨b,3,none⟩=some v3/\W.cell? ⟨b,4,none⟩=some v4/\W.cell? ⟨b,5,none⟩=some v5/\W.cell? ⟨b,6,none⟩=some v6/\W.cell? ⟨b,7,none⟩=some v7/\W.cell? ⟨b,8,none⟩=some v8/\W.cell? ⟨b,9,none⟩=some v9/\W.cell? ⟨b,10,none⟩=some v10/\W.cell? ⟨b,11,none⟩=some v11/\W.cell? ⟨b,12,none⟩=some v12/\W.cell? ⟨b,13,none⟩=some v13:=by
 rw[e,f]
 exact⟨ae h 0,ae h 1,ae h 2,ae h 3,ae h 4,ae h 5,ae h 6,ae h 7,ae h 8,ae h 9,ae h 10,ae h 11,ae h 12,ae h 13⟩
end
section
section
variable {n : Nat} {P : Program} {ops : Array Oper} {Q : Exit -> Act -> World -> Prop} {md : Region.Mode} {S : World -> Prop}
theorem DL {row:String} {args:Array Value} {w:World} {R:Value->World->Prop} (h:Rows P row args w R):RowsIn Fence.wide n P row args w R :=
 fun c cs _=>let ⟨v,w',r,s⟩:=h c cs;⟨v,w',r,stepsIn_wide.2 s⟩
theorem Ey {o:Oper} {a:Act} {K:Act->World->Prop} {r:Result Next} (h:o.upon P a K Q r):o.uponIn Fence.wide n P a K Q r:=by
 have z:Fence.wide.depth.isSome=true->1<=n:=fun e=>by simp[Fence.wide]at e
 cases r with
 | ok x w' =>
  cases x<;>simp only[Oper.upon,Oper.uponIn]at h ⊢<;>first|exact h|exact⟨z,callsIn_wide.2 h⟩|exact⟨z,DL h⟩|exact h.elim
 | halt x w'=>cases x<;>simp only[Oper.upon,Oper.uponIn]at h ⊢<;>exact h
theorem un {o:Oper} {a:Act} {K:Act->World->Prop} {w:World} (h:o.wp P a w K Q):o.wpIn Fence.wide n P a w K Q :=
 ⟨fun _ _=>trivial,Ey h⟩
theorem oD {i:Nat} {o:Oper} {v:Value} {a:Act} (I:ops[i]?=some o) (hy:YieldsIf P ops S o v a) {K:Act->World->Prop} {w:World} (G:S w) (h:K (a.put o.dst v) w):wpOpIn Fence.wide n P ops Q i K a w:=by
 unfold Go.wpOpIn;simp only[I];rcases hy with ⟨hw,z⟩|⟨hw,rfl⟩
 ·simp only[hw,M5];exact un (by simp only[Oper.wp,z w G,Oper.upon];exact h)
 ·simp only[hw,Bool.false_eq_true,NJ];exact⟨fun _ _=>trivial,h⟩
theorem uaa {p:Prop} (h:p:=by
  cases e with
  | returned u=>exact⟨z a hy u,by rw[<-OU a v u I];exact he⟩
  | panicked c=>exact Z _ _ _ he
  | outgrown=>exact he):p:=h
theorem uG {j:Nat} {oi G:Oper} {v:Value} (hj:ops[j]?=some G) (c':oi.apart ops G=true) (d':∀cs b,oi.op≠.select cs b) (f':∀cs b,G.op≠.select cs b)
  (Z:∀c a w,Q (.panic c) (a.put oi.dst v) w->Q (.panic c) a w) {K:Act->World->Prop} {a:Act} {w:World} (hy:YieldsIf P ops S oi v a) (h:wpOpIn Fence.wide n P ops Q j K (a.put oi.dst v) w) :
  wpOpIn Fence.wide n P ops Q j (fun a' w'=>YieldsIf P ops S oi v a'/\K (a'.put oi.dst v) w') a w:=by
 obtain⟨h1,I,h3⟩:=Oper.apart_spec c';have z:∀(a:Act),YieldsIf P ops S oi v a->∀u,YieldsIf P ops S oi v (a.put G.dst u):=fun a hy u=>hy.of_same (execOp_put oi d' a G.dst u h3) (wanted_put oi a G.dst u h3)
 have J:∀d,YieldsIf P ops S oi v { a with defers:=d::a.defers }:=fun d=>hy.of_same rfl rfl
 unfold wpOpIn at *;simp only[hj]at *;rw[wanted_put G a oi.dst v h1]at h
 split
 ·rename_i hw
  simp only[hw,M5]at h;unfold Oper.wpIn at *;refine⟨fun _ _=>trivial,?_⟩;have h:=h.2;rw[show Fence.wide.round=none from rfl,Oper.semAt_none,execOp_put G f' a oi.dst v h1]at h;rw[show Fence.wide.round=none from rfl,Oper.semAt_none];generalize (execOp a.eval G).run P w=r at *
  cases r with
  | ok x w' =>
   cases x<;>simp only[Oper.uponIn]at h ⊢
   case value u=>exact⟨z a hy u,by rw[<-OU a v u I];exact h⟩
   case skip=>exact⟨z a hy _,by rw[<-OU a v undef I];exact h⟩
   case defer d =>
    refine⟨z _ (J d) _,?_⟩;rw[<-OU _ v undef I,<-Act.put_defers];exact h
   case enter f args =>
    refine⟨h.1,CallsIn.mono h.2 fun e O he=>?_⟩
    exact uaa
   case row row args=>exact⟨h.1,RowsIn.mono h.2 fun u O he=>⟨z a hy u,by rw[<-OU a v u I];exact he⟩⟩
   case round l f tmps assign body =>
    refine⟨h.1,RoundIn.mono h.2 fun e O he=>?_⟩
    exact uaa
  | halt x w' =>
   cases x<;>simp only[Oper.uponIn]at h ⊢
   case panic u=>exact Z _ _ _ h
 ·rename_i hw
  simp only[hw]at h;exact⟨fun _ _=>trivial,z a hy _,by rw[<-OU a v undef I];exact h.2⟩
def rU (md:Region.Mode) (ops:Array Oper):Nat->Nat->Nat->Bool
 | 0,_,_=>false
 | f+1,s,i=>((ops[s]?).map fun o=>o.after.any fun e=>Region.binds md e&&(e.on==i || rU md ops f e.on i)).getD false
def ClosedL (md:Region.Mode) (ops:Array Oper) (listed:Array Bool):Prop:=∀(j:Nat) (o:Oper),ops[j]?=some o->listed.getD j false=true->∀e∈o.after,Region.binds md e=true->listed.getD e.on false=true
def pc (md:Region.Mode) (ops:Array Oper) (listed:Array Bool):Bool:=(List.range ops.size).all fun j=>!(listed.getD j false) || ((ops[j]?).map fun o=>o.after.all fun e=>!(Region.binds md e) || listed.getD e.on false).getD true
theorem AU {listed:Array Bool} (h:pc md ops listed=true):ClosedL md ops listed:=fun j o G J e he O=>by
 unfold pc at h;rw[Pi]at h;have z:=h j (List.mem_range.2 (Array.getElem?_eq_some_iff.1 G).1);rw[J,G]at z;simp only[Nk,On,NR,NS,Array.all_eq_true]at z;obtain⟨k,hk,rfl⟩:=Array.mem_iff_getElem.1 he;have I:=z k hk;rw[O]at I
 simpa using I
theorem td {listed:Array Bool} {j k:Nat} (h:listed.getD k false=true):(listed.setIfInBounds j true).getD k false=true:=by
 by_cases e:j=k
 ·subst e;have G:j<listed.size:=by
   rcases Ny j listed.size with z|z
   ·exact z
   ·simp[Ot z]at h
  simp[G]
 ·rw[Oz false e];exact h
theorem ClosedL.next {listed:Array Bool} (h:ClosedL md ops listed) {j:Nat} (Z:j∈Region.ready md ops listed):ClosedL md ops (listed.setIfInBounds j true):=fun k o I hk e he O=>by
 by_cases J:j=k
 ·subst J;obtain⟨_,o',G,z⟩:=mem_ready.1 Z;rw[I]at G
  cases G
  exact td (z e he O)
 ·rw[Oz false J]at hk;exact td (h k o I hk e he O)
theorem qg {listed:Array Bool} (O:ClosedL md ops listed):∀(f s i:Nat) (o:Oper),ops[s]?=some o->(∀e∈o.after,Region.binds md e=true->listed.getD e.on false=true)->rU md ops f s i=true->listed.getD i false=true
 | 0,s,i,o,_,_,h=>by simp[rU]at h
 | f+1,s,i,o,ho,hall,h=>by
  rw[rU,ho]at h;simp only[NR,NS,Array.any_eq_true]at h;obtain⟨k,hk,h⟩:=h;simp only[My,MU,MO]at h;have J:=hall _ (Array.getElem_mem hk) h.1;rcases h.2 with G|G
  ·rw[<-G];exact J
  ·cases z:ops[o.after[k].on]? with
   | none =>
    cases f with
    | zero=>simp[rU]at G
    | succ f=>rw[rU,z]at G;simp at G
   | some I=>exact qg O f _ i I z (O _ I z J) G
theorem nG {s i:Nat} {listed:Array Bool} (I:ClosedL md ops listed) (hw:rU md ops ops.size s i=true) (J:listed.getD i false=false):s∉Region.ready md ops listed:=fun h=>by
 obtain⟨_,o,G,z⟩:=mem_ready.1 h;have:=qg I _ s i o G z hw;rw[J]at this
 cases this
def fZ (n:Nat) (P:Program) (md:Region.Mode) (ops:Array Oper) (Q:Exit->Act->World->Prop) (S:World->Prop) (s:Nat):Nat->Array Bool->Act->World->Prop
 | 0,listed,a,w=>wpAnyIn Fence.wide n P md ops Q 0 listed a w
 | fuel+1,listed,a,w =>
  (listed.getD s false=true->wpAnyIn Fence.wide n P md ops Q (fuel+1) listed a w) /\
  (listed.getD s false=false->(Region.ready md ops listed=[]->Q .normal a w) /\
   ∀i∈Region.ready md ops listed,wpOpIn Fence.wide n P ops Q i (fun h w'=>(i≠s->S w')/\fZ n P md ops Q S s fuel (listed.setIfInBounds i true) h w') a w)
variable {s : Nat}
theorem ma:∀(fuel:Nat) (listed:Array Bool) (a:Act) (w:World),fZ n P md ops Q S s fuel listed a w->wpAnyIn Fence.wide n P md ops Q fuel listed a w
 | 0,_,_,_,h=>h
 | fuel+1,listed,a,w,h=>by
  cases hs:listed.getD s false
  ·have z:=h.2 hs;exact⟨z.1,fun i J=>wpOpIn_mono (fun I w' G=>ma fuel _ I w' G.2) (z.2 i J)⟩
  ·exact h.1 hs
theorem uC {i:Nat} {oi:Oper} {v:Value} (hi:ops[i]?=some oi) (O:∀(j:Nat) (o:Oper) cs b,ops[j]?=some o->o.op≠.select cs b)
  (hQ:∀c a w,Q (.panic c) (a.put oi.dst v) w->Q (.panic c) a w) (hw:rU md ops ops.size s i=true) (p':i≠s) :
  ∀(fuel:Nat) (listed:Array Bool) (a:Act) (w:World),
   (∀j oj,ops[j]?=some oj->j≠i->listed.getD j true=false->(∀e∈oj.after,Region.binds md e=true->e.on≠i)->oi.apart ops oj=true) ->
   i∈Region.ready md ops listed->ClosedL md ops listed->listed.getD s false=false->YieldsIf P ops S oi v a->S w ->
   fZ n P md ops Q S s fuel (listed.setIfInBounds i true) (a.put oi.dst v) w->fZ n P md ops Q S s (fuel+1) listed a w:=by
 intro fuel
 induction fuel with
 | zero =>
  intro listed a w _ hr f' hls hy hS H;refine⟨fun h=>(by rw[h]at hls;cases hls),fun _=>⟨fun h=>(by rw[h]at hr;cases hr),fun j hj=>?_⟩⟩
  by_cases z:j=i
  ·subst z;exact oD hi hy hS ⟨fun _=>hS,H⟩
  ·have:=ready_mono hj z;rw[H.1]at this
   cases this
 | succ fuel ih =>
  intro listed a w G hr f' hls hy hS H;refine⟨fun h=>(by rw[h]at hls;cases hls),fun _=>⟨fun h=>(by rw[h]at hr;cases hr),fun j hj=>?_⟩⟩
  by_cases z:j=i
  ·subst z;exact oD hi hy hS ⟨fun _=>hS,H⟩
  ·have g':(listed.setIfInBounds i true).getD s false=false:=by rw[Oz false p'];exact hls
   have h1:=(H.2 g').2 j (ready_mono hj z);obtain⟨J,oj,d',l'⟩:=mem_ready.1 hj;have Z:listed.getD i false=false:=by
    have h0:=(mem_ready.1 hr).1;rcases Ny i listed.size with h'|h'
    ·simpa [h'] using h0
    ·simp[Ot h']at h0
   have c':j≠s:=fun e=>nG f' hw Z (e▸(show j∈Region.ready md ops listed from hj))
   have j':∀e∈oj.after,Region.binds md e=true->e.on≠i:=fun e he hb heq=>by
    have h1:=l' e he hb;rw[heq,Z]at h1
    cases h1
   have h2:=uG d' (G j oj d' z J j') (fun cs b=>O i oi cs b hi) (fun cs b=>O j oj cs b d') hQ hy h1;have I:∀k ok,ops[k]?=some ok->k≠i->(listed.setIfInBounds j true).getD k true=false ->
     (∀e∈ok.after,Region.binds md e=true->e.on≠i)->oi.apart ops ok=true:=fun k ok hk n' k' m'=>by
    refine G k ok hk n' ?_ m'
    by_cases i':j=k
    ·subst i';exact J
    ·rw[Oz true i']at k';exact k'
   refine wpOpIn_mono (fun a' w' h3=>⟨fun _=>h3.2.1 c',ih (listed.setIfInBounds j true) a' w' I (ready_mono hr (MT z)) (f'.next hj) (by rw[Oz false c'];exact hls) h3.1 (h3.2.1 c') ?_⟩) h2;rw[Array.setIfInBounds_comm _ _ z];exact h3.2.2
theorem vC {i d fuel:Nat} {l:List Value} {ds:List Deferred} {listed L:Array Bool} {oi:Oper} {rest:List Oper} {v:Value} {w:World}
  (G:ops.toList.drop i=oi::rest) (z:oi.dst=some d) (hL:listed.setIfInBounds i true=L)
  (hs:Region.noSelect ops=true) (hf:Region.free md ops listed i=true) (hr:(Region.ready md ops listed).contains i=true) (hws:(rU md ops ops.size s i&&pc md ops listed&&i != s&&!listed.getD s false)=true)
  (I:∀c a w,Q (.panic c) (a.put (some d) v) w->Q (.panic c) a w) (hw:Region.wanted oi (yielded ops l.toArray)=true)
  (hy:∀w,S w->(execOp (Act.eval ⟨l.toArray,ds⟩) oi).run P w=.ok (.value v) w) (J:S w)
  (h:fZ n P md ops Q S s fuel L ⟨(l.set d v).toArray,ds⟩ w):fZ n P md ops Q S s (fuel+1) listed ⟨l.toArray,ds⟩ w:=by
 subst hL;simp only[My,ND,ne_eq,M4]at hws;refine uC (iA G) (Region.noSelect_spec hs) (by rw[z];exact I) hws.1.1.1 hws.1.2 fuel listed _ w (Region.free_spec (iA G) hf) (jQ hr) (AU hws.1.1.2) hws.2 (Or.inl ⟨hw,hy⟩) J ?_;rw[z]
 simpa [Act.put] using h
theorem nW {i fuel:Nat} {l:List Value} {ds:List Deferred} {listed L:Array Bool} {oi:Oper} {rest:List Oper} {w:World}
  (O:ops.toList.drop i=oi::rest) (hL:listed.setIfInBounds i true=L) (hr:Region.ready md ops listed=[i]) (hls:listed.getD s false=false) (hw:Region.wanted oi (yielded ops l.toArray)=true)
  (h:∀K':Act->World->Prop,Shut (∀a w,S w->(S w->fZ n P md ops Q S s fuel L a w)->K' a w)->Oper.wp P oi ⟨l.toArray,ds⟩ w K' Q):fZ n P md ops Q S s (fuel+1) listed ⟨l.toArray,ds⟩ w:=by
 subst hL;refine⟨fun h0=>(by rw[h0]at hls;cases hls),fun _=>⟨fun h0=>(by rw[h0]at hr;cases hr),fun j z=>?_⟩⟩;rw[hr]at z;obtain rfl:j=i:=jQ z;refine wpOpIn_step (iA O) (fun K' J=>?_);rw[Mp hw];exact un (h K' (fun a w G I=>J a w ⟨fun _=>G,I G⟩))
theorem pN {fuel:Nat} {l:List Value} {ds:List Deferred} {listed L:Array Bool} {o:Oper} {rest:List Oper} {w:World}
  (O:ops.toList.drop s=o::rest) (hL:listed.setIfInBounds s true=L) (hr:Region.ready md ops listed=[s]) (hls:listed.getD s false=false) (z:L.getD s false=true) (hw:Region.wanted o (yielded ops l.toArray)=true)
  (h:∀K':Act->World->Prop,Shut (∀a w,wpAnyIn Fence.wide n P md ops Q fuel L a w->K' a w)->Oper.uponIn Fence.wide n P o ⟨l.toArray,ds⟩ K' Q ((execOp (Act.eval ⟨l.toArray,ds⟩) o).run P w)):fZ n P md ops Q S s (fuel+1) listed ⟨l.toArray,ds⟩ w:=by
 subst hL;refine⟨fun h0=>(by rw[h0]at hls;cases hls),fun _=>⟨fun h0=>(by rw[h0]at hr;cases hr),fun j I=>?_⟩⟩;rw[hr]at I;obtain rfl:j=s:=jQ I;refine wpOpIn_step (iA O) (fun K' J=>?_);rw[Mp hw];refine⟨fun _ _=>trivial,h K' (fun a w G=>J a w ⟨fun e=>absurd rfl e,?_⟩)⟩
 cases fuel with
 | zero=>exact G
 | succ fuel=>exact⟨fun _=>G,fun h0=>(by rw[z]at h0;cases h0)⟩
theorem eP {i d fuel:Nat} {l:List Value} {ds:List Deferred} {listed L:Array Bool} {oi:Oper} {rest:List Oper} {v:Value} {w:World}
  (I:ops.toList.drop i=oi::rest) (G:oi.dst=some d) (hL:listed.setIfInBounds i true=L) (hr:Region.ready md ops listed=[i]) (hw:Region.wanted oi (yielded ops l.toArray)=true)
  (hy:(execOp (Act.eval ⟨l.toArray,ds⟩) oi).run P w=.ok (.value v) w)
  (h:wpAnyIn Fence.wide n P md ops Q fuel L ⟨(l.set d v).toArray,ds⟩ w):wpAnyIn Fence.wide n P md ops Q (fuel+1) listed ⟨l.toArray,ds⟩ w:=by
 subst hL;refine⟨fun h0=>(by rw[h0]at hr;cases hr),fun j z=>?_⟩;rw[hr]at z;obtain rfl:j=i:=jQ z;unfold Go.wpOpIn;simp only[iA I,hw,M5];refine un ?_;simp only[Oper.wp,hy,Oper.upon,G]
 simpa [Act.put] using h
theorem oH (S:World->Prop) (s:Nat) {id:Nat} {a:Act} {w:World} (hm:P.follows .mixedOrders=true) (z:S w.drew)
  (h:S w.drew->fZ n P .any ops Q S s ops.size (Array.replicate ops.size false) a w.drew):(Code.region id ops true).wpIn Fence.wide n P Q a w :=
 wpIn_region_any hm (ma _ _ _ _ (h z))
theorem mh {F:Fence} {c:Code} {a:Act} {w:World} (h:c.wpIn F n P (NoPanic Q) a w):c.wpIn F n P Q a w:=wpIn_mono h NoPanic.imp
end
end
section
section
variable {n : Nat} {P : Program} {ops : Array Oper} {Q : Exit -> Act -> World -> Prop} {md : Region.Mode} {S : World -> Prop} {s : Nat}
theorem ord_Y {i d fuel:Nat} {is:List Nat} {l:List Value} {ds:List Deferred} {listed L:Array Bool} {oi:Oper} {rest:List Oper} {v:Value} {w:World}
  (hi:ops.toList.drop i=oi::rest) (jD:oi.dst=some d) (hL:listed.setIfInBounds i true=L)
  (hs:Region.noSelect ops=true) (hf:Region.free md ops listed i=true) (hr:(Region.ready md ops listed).contains i=true) (hws:(rU md ops ops.size s i&&pc md ops listed&&i != s&&!listed.getD s false)=true)
  (hQ:∀c a w,Q (.panic c) (a.put (some d) v) w->Q (.panic c) a w) (hw:Region.wanted oi (yielded ops l.toArray)=true)
  (hy:∀w,S w->(execOp (Act.eval ⟨l.toArray,ds⟩) oi).run P w=.ok (.value v) w) (hS:S w)
  (h:Ord is (fZ n P md ops Q S s fuel L ⟨(l.set d v).toArray,ds⟩ w)):Ord (i::is) (fZ n P md ops Q S s (fuel+1) listed ⟨l.toArray,ds⟩ w) :=
 vC hi jD hL hs hf hr hws hQ hw hy hS h
theorem tkY {p q:Prop} (is:List Nat) (h:q) (hq:AS q->Ord is p:=by
  intro hk
  repeat (focus (refine ord_Y (v:=?_) rfl rfl rfl (by kernel_rfl) (by kernel_rfl) (by kernel_rfl) (by kernel_rfl) (fun _ _ _ h=>h) (by kernel_rfl) ?_ (by assumption) ?_;rotate_left 1;(focus (intro wS hSw;(try dsimp only at hSw);go_simp<;>with_reducible rfl));simp only[NA,MZ,MY]))
  exact oU hk):p:=hq ⟨h⟩
end
end
section
structure Bnd where
 v:Int
 t:Int
 s:Int
 n:Int
structure Ety where
 q:Int
 bs:List Bnd
 n:Int
structure Chg where
 sg:Int
 q:Int
 bs:List Bnd
instance bndDec:DecidableEq Bnd:=fun a b=>decidable_of_iff (a.v=b.v/\a.t=b.t/\a.s=b.s/\a.n=b.n) (by cases a;cases b;simp)
instance entDec:DecidableEq Ety:=fun a b=>decidable_of_iff (a.q=b.q/\a.bs=b.bs/\a.n=b.n) (by cases a;cases b;simp)
instance chgDec:DecidableEq Chg:=fun a b=>decidable_of_iff (a.sg=b.sg/\a.q=b.q/\a.bs=b.bs) (by cases a;cases b;simp)
def bx (a b:Int):Int:=if a<b then -1 else if b<a then 1 else 0
def orI (a b:Int):Int:=if a=0 then b else a
structure PC {α:Type} (c:α->α->Int):Prop where
 anti:∀a b,c b a=- c a b
 lt:∀a b d,c a b<0->c b d<0->c a d<0
 cong:∀a b d,c a b=0->c a d=c b d
theorem kP:PC bx:=by
 refine⟨fun a b=>?_,fun a b d=>?_,fun a b d=>?_⟩<;>unfold bx<;>(repeat' split)<;>omega
theorem gU {a b:Int}:bx a b=0↔a=b:=by unfold bx;(repeat' split)<;>omega
section
variable {α β : Type} {c d : α -> α -> Int}
theorem PC.refl (h:PC c) (a:α):c a a=0:=by have:=h.anti a a;omega
theorem PC.congr (h:PC c) (a b e:α) (he:c a b=0):c e a=c e b:=by
 have G:=h.cong a b e he;have z:=h.anti a e;have I:=h.anti b e;omega
theorem PC.or (h:PC c) (k:PC d):PC (fun a b=>orI (c a b) (d a b)):=by
 refine⟨fun a b=>?_,fun a b e=>?_,fun a b e=>?_⟩
 ·have z:=h.anti a b;have G:=k.anti a b;simp only[orI]
  split<;>split<;>omega
 ·simp only[orI]
  by_cases z:c a b=0
  ·by_cases G:c b e=0
   ·have I:c a e=0:=by rw[h.cong a b e z];exact G
    rw[Mp z,Mp G,Mp I];exact k.lt a b e
   ·have I:c a e=c b e:=h.cong a b e z;rw[Mp z,Mo G,Mo om,I];exact fun _ h=>h
  ·by_cases G:c b e=0
   ·have I:c a b=c a e:=h.congr b e a G;rw[Mo z,Mp G,Mo om,I];exact fun h _=>h
   ·rw[Mo z,Mo G];intro I J;have:=h.lt a b e I J;rw[Mo om];exact this
 ·simp only[orI];intro h0
  by_cases z:c a b=0
  ·rw[Mp z]at h0;rw[h.cong a b e z,k.cong a b e h0]
  ·rw[Mo z]at h0;omega
theorem PC.of {c:β->β->Int} (h:PC c) (f:α->β):PC (fun a b=>c (f a) (f b)) :=
 ⟨fun _ _=>h.anti _ _,fun _ _ _=>h.lt _ _ _,fun _ _ _=>h.cong _ _ _⟩
theorem gL {a b:Int}:orI a b=0↔a=0/\b=0:=by unfold orI;split<;>omega
def fC (c:α->α->Int):List α->List α->Int
 | [],[]=>0
 | [],_::_=>-1
 | _::_,[]=>1
 | a::l,b::m=>orI (c a b) (fC c l m)
theorem PC.list (h:PC c):PC (fC c):=by
 refine⟨?_,?_,?_⟩
 ·intro a
  induction a with
  | nil=>intro b;cases b<;>simp[fC]
  | cons x a O =>
   intro b
   cases b with
   | nil=>simp[fC]
   | cons y b =>
    have I:=h.anti x y;have G:=O b;simp only[fC,orI]
    split<;>split<;>omega
 ·intro a
  induction a with
  | nil=>intro b d;cases b<;>cases d<;>simp[fC]
  | cons x a O =>
   intro b d
   cases b with
   | nil=>cases d<;>simp[fC]
   | cons y b =>
    cases d with
    | nil=>simp[fC]
    | cons z d =>
     simp only[fC,orI]
     by_cases I:c x y=0
     ·by_cases G:c y z=0
      ·have J:c x z=0:=by rw[h.cong x y z I];exact G
       rw[Mp I,Mp G,Mp J];exact O b d
      ·have J:c x z=c y z:=h.cong x y z I;rw[Mp I,Mo G,Mo om,J];exact fun _ h=>h
     ·by_cases G:c y z=0
      ·have J:c x y=c x z:=h.congr y z x G;rw[Mo I,Mp G,Mo om,J];exact fun h _=>h
      ·rw[Mo I,Mo G];intro J Z;have:=h.lt x y z J Z;rw[Mo om];exact this
 ·intro a
  induction a with
  | nil=>intro b d;cases b<;>simp[fC]
  | cons x a O =>
   intro b d
   cases b with
   | nil=>simp[fC]
   | cons y b =>
    intro h0;simp only[fC]at h0;obtain⟨I,G⟩:=gL.1 h0
    cases d with
    | nil=>rfl
    | cons z d=>simp only[fC];rw[h.cong x y z I,O b d G]
theorem xR (he:∀a b,c a b=0->a=b):∀l m:List α,fC c l m=0->l=m
 | [],[],_=>rfl
 | [],_::_,h=>by simp[fC]at h
 | _::_,[],h=>by simp[fC]at h
 | a::l,b::m,h=>by
  simp only[fC]at h;obtain⟨G,z⟩:=gL.1 h;rw[he a b G,xR he l m z]
end
def cJ (a b:Bnd):Int:=orI (orI (bx a.t b.t) (bx a.s b.s)) (bx a.n b.n)
def rR (a b:Bnd):Int:=orI (cJ a b) (bx a.v b.v)
def bsC (a b:List Bnd):Int:=fC rR a b
def entC (a b:Ety):Int:=orI (bx a.q b.q) (bsC a.bs b.bs)
theorem lY:PC cJ:=(((kP.of Bnd.t).or (kP.of Bnd.s)).or (kP.of Bnd.n))
theorem IZ:PC rR:=lY.or (kP.of Bnd.v)
theorem gF:PC bsC:=IZ.list
theorem Iw (a b:Bnd) (h:rR a b=0):a=b:=by
 unfold rR cJ at h;simp only[gL,gU]at h
 cases a;cases b
 simp only[Bnd.mk.injEq]at *;omega
theorem Fe {a b:List Bnd}:bsC a b=0↔a=b:=⟨xR Iw a b,fun h=>h▸gF.refl a⟩
def Led (l:List Ety):Prop:=l.Pairwise (fun a b=>entC a b<0)/\∀x∈l,x.n≠0
theorem Led.nil:Led []:=⟨List.Pairwise.nil,by simp⟩
theorem Led.tail {x:Ety} {l:List Ety} (h:Led (x::l)):Led l:=⟨(List.pairwise_cons.1 h.1).2,fun y hy=>h.2 y (MD _ hy)⟩
theorem Led.head {x:Ety} {l:List Ety} (h:Led (x::l)):∀y∈l,entC x y<0:=(List.pairwise_cons.1 h.1).1
end
def wE (w:World) (b p:Nat) (x:Bnd):Prop :=
 w.cell? ⟨b,p,none⟩=some (Mk x.v)/\w.cell? ⟨b,p+1,none⟩=some (Mk x.t)/\w.cell? ⟨b,p+2,none⟩=some (Mk x.s)/\w.cell? ⟨b,p+3,none⟩=some (Mk x.n)
theorem bL:jp wE:=fun _ _ _ _ _ z ⟨h0,O,J,Z⟩=>⟨aa z h0,aa z O,aa z J,aa z Z⟩
abbrev bD (w:World) (v:Value) (l:List Bnd):Prop:=Sl wE 4 w v l
def KA (w:World) (b p:Nat) (x:List Bnd):Prop:=∃v,bD w v x/\w.cell? ⟨b,p,none⟩=some v
theorem ku:jp KA:=fun _ _ _ _ _ z ⟨v,hv,h0⟩=>⟨v,hv.stays bL z,aa z h0⟩
abbrev il (w:World) (v:Value) (l:List (List Bnd)):Prop:=Sl KA 1 w v l
def pM (x:Bnd):Value:=.agg #[Mk x.v,Mk x.t,Mk x.s,Mk x.n]
def rT (v:Value):Value:=.agg #[v]
def entV (q:Int) (v:Value) (n:Int):Value:=.agg #[Mk q,v,Mk n]
def chgV (s q:Int) (v:Value):Value:=.agg #[Mk s,Mk q,v]
structure Gr (w w':World):Prop where
 below:Mm w w'
 drawn:w.drawn<=w'.drawn
theorem Gr.refl (w:World):Gr w w:=⟨Mr _ _,Mt _⟩
theorem Gr.trans {a b c:World} (h:Gr a b) (k:Gr b c):Gr a c:=⟨ab h.below k.below,Mx h.drawn k.drawn⟩
theorem Gr.alloc {a b:World} (h:Gr a b) (o:Obj):Gr a (b.alloc o):=⟨bt h.below o,h.drawn⟩
theorem Gr.drew {a b:World} (h:Gr a b):Gr a b.drew:=⟨h.below.drew,Mx h.drawn (Nat.le_succ _)⟩
theorem Gr.set {a b:World} (h:Gr a b) {g i:Nat} (z:a.heap.size<=g) (v:Value):Gr a (b.setCell ⟨g,i,none⟩ v):=⟨aq h.below z v,h.drawn⟩
theorem vQ {w w':World} {cs ds:Array Value} {t u:TypeId} (z:Below ((w.alloc (.cells cs t)).alloc (.cells ds u)).heap.size ((w.alloc (.cells cs t)).alloc (.cells ds u)) w') :
  (∀i,w'.cell? ⟨w.heap.size,i,none⟩=cs[i]?)/\(∀i,w'.cell? ⟨w.heap.size+1,i,none⟩=ds[i]?)/\Mm w w':=by
 have h:=(bE (ab (af _ _) z)).1;have k:=(bE z).1;simp only[Oo]at k;exact⟨h,k,ab (af _ _) (ab (af _ _) z)⟩
theorem aI {P:Program} {f:FuncId} {args:Array Value} {w:World} {Q:Ending->World->Prop} (h:∀W:World,W=w->Calls P f args W Q):Calls P f args w Q:=h w rfl
theorem Grows.to {F:World->Prop} (hG:Grows F) {G I:World} (z:Mm G I) (h:F G):F I:=hG _ _ z h
theorem mW (x:Int) (w:World):Calls prog 84 #[Mk x] w fun e w'=>e=.returned (.bool false)/\w=w':=by
 go_enter func84,ntmps84;go_wp2;go_ret;exact⟨by simp,rfl⟩
theorem uac {p:Prop} (h:p:=by
  go_enter func50,ntmps50;go_wp2_with (go_at_call 84;refine (mW _ _).mono ?_;rintro e w' ⟨rfl,rfl⟩);go_ret;exact⟨rfl,rfl⟩):p:=h
theorem fL (x y:Int) (w:World):Calls prog 50 #[Mk x,Mk y] w fun e w'=>e=.returned (Mk (bx x y))/\w=w':=by
 unfold bx;rcases Pj x y with h|h|h
 ·rw[Mp h];exact uac
 ·subst h;rw[Mo om,Mo om];exact uac
 ·rw[Mo om,Mp h];exact uac
def orL:List Int->Int
 | []=>0
 | x::l=>if x=0 then orL l else x
theorem ER {l:List Int} (h:∀x∈l,x=0):orL l=0:=by
 induction l with
 | nil=>rfl
 | cons x l z=>simp only[orL];rw[Mp (h x (Mz ..))];exact z fun y hy=>h y (MD _ hy)
theorem LX {l:List Int} {k:Nat} {x:Int} (h:l[k]?=some x) (Z:x≠0) (G:∀(j:Nat) (y:Int),l[j]?=some y->j<k->y=0):orL l=x:=by
 induction l generalizing k with
 | nil=>simp at h
 | cons y l J =>
  cases k with
  | zero=>simp at h;subst h;simp only[orL];rw[Mo Z]
  | succ k =>
   simp only[orL];rw[Mp (G 0 y rfl om)];exact J (jQ h) fun j z I O=>G (j+1) z (jQ I) om
theorem E4 (l:List Int) (v:Value) (w:World) (hl:AY w v l) :
  Calls prog 48 #[v] w fun e w'=>e=.returned (Mk (orL l))/\w=w':=by
 obtain⟨A,c,rfl,h1,h2,O⟩:=hl;have hn:=ay h1 h2;have HL:=jD O;clear O h1 h2;go_enter func48,ntmps48;go_wp2_with fail
 go_loopw [8] (fun i wr=>wr=w/\∃k:Nat,k<=l.length/\i=Mk k/\Hid (∀(j:Nat) (y:Int),l[j]?=some y->j<k->y=0)) (fun i _=>l.length-(intOf i).toNat)
 case atStart=>exact⟨rfl,0,Mu _,rfl,fun _ _ _ h=>absurd h om⟩
 case round =>
  obtain⟨rfl,k,hk,rfl,hi⟩:=hrel
  by_cases J:k<l.length
  ·obtain⟨b,o,rfl,c0⟩:=HL.out k l[k] (Mq J);unfold Kg at c0;simp only[NF]at c0;have z:=jD (Mq J);obtain⟨x,Z⟩:=jF (l[k]);rw[<-Z]at z c0;clear Z;have d':(k:Int)<(l.length:Int):=by omega
   by_cases G:x=0
   ·subst G;go_wp2_with fail
    go_roundw
    case rel =>
     refine⟨by trivial,k+1,by omega,by go_num,?_⟩;intro j y I a';rcases Pk (Pm a') with h|h
     ·exact hi.out j y I h
     ·subst h;rw[z.out]at I;injection I with I;exact I.symm
    case measure=>simp[intOf];omega
   ·have c':(x != 0)=true:=jQ G;have HX:=jD G;clear G;go_wp2;go_ret;rw[LX z.out HX.out hi.out];exact⟨rfl,rfl⟩
  ·go_wp2;go_ret;rw[ER fun x Z=>by
    obtain⟨j,I⟩:=List.mem_iff_getElem?.1 Z;exact hi.out j x I (by have:=(List.getElem?_eq_some_iff.1 I).1;omega)]
   exact⟨rfl,rfl⟩
theorem JD (x y:Int):orL [x,y]=orI x y:=by
 simp only[orL,orI]
 by_cases h:x=0
 ·by_cases hy:y=0<;>simp[h,hy]
 ·simp[h]
theorem CX (x y z:Int):orL [x,y,z]=orI (orI x y) z:=by
 simp only[orL,orI]
 by_cases h:x=0
 ·by_cases hy:y=0
  ·by_cases G:z=0<;>simp[h,hy,G]
  ·simp[h,hy]
 ·simp[h]
theorem FH {b:Nat} {x y:Int} {w:World} (h0:w.cell? ⟨b,0,none⟩=some (Mk x)) (h:w.cell? ⟨b,1,none⟩=some (Mk y)):AY w (.slice (some ⟨b,0,none⟩) 2 2) [x,y] :=
 ⟨_,2,rfl,Mt _,by decide,fun k u hk=>⟨b,0,rfl,by
  match k,hk with
  | 0,hk=>simp at hk;subst hk;exact h0
  | 1,hk=>simp at hk;subst hk;exact h
  | k+2,hk=>simp at hk⟩⟩
theorem yZ {b:Nat} {x y z:Int} {w:World} (h0:w.cell? ⟨b,0,none⟩=some (Mk x)) (G:w.cell? ⟨b,1,none⟩=some (Mk y)) (h:w.cell? ⟨b,2,none⟩=some (Mk z)):AY w (.slice (some ⟨b,0,none⟩) 3 3) [x,y,z] :=
 ⟨_,3,rfl,Mt _,by decide,fun k u hk=>⟨b,0,rfl,by
  match k,hk with
  | 0,hk=>simp at hk;subst hk;exact h0
  | 1,hk=>simp at hk;subst hk;exact G
  | 2,hk=>simp at hk;subst hk;exact h
  | k+3,hk=>simp at hk⟩⟩
theorem Lz (b:Nat) (x y:Int) (w:World) (h0:w.cell? ⟨b,0,none⟩=some (Mk x)) (h:w.cell? ⟨b,1,none⟩=some (Mk y)) :
  Calls prog 48 #[.slice (some ⟨b,0,none⟩) 2 2] w fun e w'=>e=.returned (Mk (orI x y))/\w=w':=by
 have:=E4 _ _ w (FH h0 h)
 rwa [JD]at this
theorem yq (b:Nat) (x y z:Int) (w:World) (h0:w.cell? ⟨b,0,none⟩=some (Mk x)) (G:w.cell? ⟨b,1,none⟩=some (Mk y)) (h:w.cell? ⟨b,2,none⟩=some (Mk z)) :
  Calls prog 48 #[.slice (some ⟨b,0,none⟩) 3 3] w fun e w'=>e=.returned (Mk (orI (orI x y) z))/\w=w':=by
 have:=E4 _ _ w (yZ h0 G h)
 rwa [CX]at this
theorem FK (t1 s1 n1 t2 s2 h:Int) (w:World) :
  Calls prog 49 #[.agg #[Mk t1,Mk s1,Mk n1],.agg #[Mk t2,Mk s2,Mk h]] w fun e w' =>
   e=.returned (Mk (orI (orI (bx t1 t2) (bx s1 s2)) (bx n1 h)))/\Gr w w':=by
 go_enter func49,ntmps49;go_wp2
 go_region_held3 (fun w'=>w'.cell? ⟨w.heap.size,0,none⟩=some (Mk t1)/\w'.cell? ⟨w.heap.size,1,none⟩=some (Mk s1)/\w'.cell? ⟨w.heap.size,2,none⟩=some (Mk n1)/\w'.cell? ⟨w.heap.size+1,0,none⟩=some (Mk t2)/\w'.cell? ⟨w.heap.size+1,1,none⟩=some (Mk s2)/\w'.cell? ⟨w.heap.size+1,2,none⟩=some (Mk h)) (go_keep)
  (first|(go_at_call 50;refine (fL _ _ _).mono ?_;rintro e w' ⟨rfl,rfl⟩)|(go_at_call 48;refine (yq _ (bx t1 t2) (bx s1 s2) (bx n1 h) _ ?_ ?_ ?_).mono ?_;(go_simp);(go_simp);(go_simp);rintro e w' ⟨rfl,rfl⟩))
 go_wp2;go_ret;exact⟨rfl,jC⟩
theorem Id (a b:Bnd) (w:World) :
  Calls prog 49 #[.agg #[Mk a.t,Mk a.s,Mk a.n],.agg #[Mk b.t,Mk b.s,Mk b.n]] w fun e w'=>e=.returned (Mk (cJ a b))/\Gr w w':=FK _ _ _ _ _ _ w
theorem GB (a b:Bnd) (w:World) :
  Calls prog 47 #[pM a,pM b] w fun e w'=>e=.returned (Mk (rR a b))/\Gr w w':=by
 unfold pM;go_enter func47,ntmps47;go_wp2
 refine bg fun J z=>?_;have h:Hid ((fun w'=>w'.cell? ⟨w.heap.size,0,none⟩=some (Mk a.v)/\w'.cell? ⟨w.heap.size,1,none⟩=some (Mk a.t)/\w'.cell? ⟨w.heap.size,2,none⟩=some (Mk a.s)/\w'.cell? ⟨w.heap.size,3,none⟩=some (Mk a.n)/\w'.cell? ⟨w.heap.size+1,0,none⟩=some (Mk b.v)/\w'.cell? ⟨w.heap.size+1,1,none⟩=some (Mk b.t)/\w'.cell? ⟨w.heap.size+1,2,none⟩=some (Mk b.s)/\w'.cell? ⟨w.heap.size+1,3,none⟩=some (Mk b.n)) J):=jD (by subst z;(first|exact⟨‹_›,‹_›⟩|(go_simp;done)|(simp[*];done)));have G:Hid (Grows (fun w'=>w'.cell? ⟨w.heap.size,0,none⟩=some (Mk a.v)/\w'.cell? ⟨w.heap.size,1,none⟩=some (Mk a.t)/\w'.cell? ⟨w.heap.size,2,none⟩=some (Mk a.s)/\w'.cell? ⟨w.heap.size,3,none⟩=some (Mk a.n)/\w'.cell? ⟨w.heap.size+1,0,none⟩=some (Mk b.v)/\w'.cell? ⟨w.heap.size+1,1,none⟩=some (Mk b.t)/\w'.cell? ⟨w.heap.size+1,2,none⟩=some (Mk b.s)/\w'.cell? ⟨w.heap.size+1,3,none⟩=some (Mk b.n))):=(by repeat (first|exact aX _ _ _|exact aW|refine bw ?_ ?_));have Z:Gr w J:=(by subst z;exact jC);clear z;have I:=h.out;go_region_held3 (fun w'=>w'.cell? ⟨w.heap.size,0,none⟩=some (Mk a.v)/\w'.cell? ⟨w.heap.size,1,none⟩=some (Mk a.t)/\w'.cell? ⟨w.heap.size,2,none⟩=some (Mk a.s)/\w'.cell? ⟨w.heap.size,3,none⟩=some (Mk a.n)/\w'.cell? ⟨w.heap.size+1,0,none⟩=some (Mk b.v)/\w'.cell? ⟨w.heap.size+1,1,none⟩=some (Mk b.t)/\w'.cell? ⟨w.heap.size+1,2,none⟩=some (Mk b.s)/\w'.cell? ⟨w.heap.size+1,3,none⟩=some (Mk b.n)) (with_reducible exact G.out.to (Gr.below (by repeat (first|with_reducible exact Gr.refl _|assumption|with_reducible refine Gr.drew ?_|with_reducible refine Gr.alloc ?_ _|with_reducible refine Gr.trans ?_ (by assumption)))) h.out) (first|(go_at_call 49;refine (Id a b _).mono ?_;rintro e w3 ⟨rfl,O⟩)|(go_at_call 50;refine (fL _ _ _).mono ?_;rintro e w' ⟨rfl,rfl⟩)|(go_at_call 48;refine (Lz _ (cJ a b) (bx a.v b.v) _ ?_ ?_).mono ?_;(go_simp);(go_simp);rintro e w' ⟨rfl,rfl⟩))
 go_wp2;go_ret;exact⟨rfl,jC⟩
structure Vl where
 kind:Int
 num:Int
 text:ByteArray
structure Evt where
 src:Int
 sq:Int
 ty:Int
 tm:Int
 vals:List Vl
def cF (e:Evt):Bnd:=⟨0,e.tm,e.src,e.sq⟩
def bN (e:Evt):Bool:=decide (0<=e.tm/\e.tm<=1099511627776/\0<=e.src/\e.src<8/\0<=e.sq/\e.sq<=1099511627776)
def dv (a b:Evt):Bool:=decide (a.src=b.src/\a.sq=b.sq)
def gX (pre:List Evt) (x:Evt):Bool:=match pre.getLast? with
 | some p=>decide (0<=cJ (cF p) (cF x))
 | none=>false
def evE (pre:List Evt) (x:Evt):Int :=
 if bN x=false then 2 else if gX pre x=true then 14 else if pre.any (dv x)=true then 7 else 0
def cC:List Evt->List Evt->Int
 | _,[]=>0
 | pre,x::l=>if evE pre x=0 then cC (pre++[x]) l else evE pre x
def bH (l:List Evt):Int:=if 4096<l.length then 5 else cC [] l
theorem xE {pre:List Evt} {x:Evt} (h:evE pre x=0):bN x=true/\(∀p,pre.getLast?=some p->cJ (cF p) (cF x)<0)/\pre.any (dv x)=false:=by
 unfold evE at h
 by_cases G:bN x=false
 ·rw[Mp G]at h;exact absurd h dc
 ·rw[Mo G]at h
  by_cases z:gX pre x=true
  ·rw[Mp z]at h;exact absurd h dc
  ·rw[Mo z]at h
   by_cases I:pre.any (dv x)=true
   ·rw[Mp I]at h;exact absurd h dc
   ·refine⟨jQ G,fun p hp=>?_,Bool.eq_false_iff.2 I⟩;unfold gX at z;rw[hp]at z;simp at z;omega
structure B7 (l:List Evt):Prop where
 asc:l.Pairwise fun a b=>cJ (cF a) (cF b)<0
 placed:∀e∈l,bN e=true
theorem qT:∀(l pre:List Evt),B7 pre->cC pre l=0->B7 (pre++l)
 | [],pre,h,_=>by rw[OV];exact h
 | x::l,pre,h,h0=>by
  unfold cC at h0
  by_cases e:evE pre x=0
  ·rw[Mp e]at h0;obtain⟨e1,e2,-⟩:=xE e;have hx:B7 (pre++[x]):=by
    refine⟨?_,fun y hy=>?_⟩
    ·rw[Po];refine⟨h.asc,List.pairwise_singleton ..,fun a I b O=>?_⟩;simp at O;subst O
     cases hp:pre.getLast? with
     | none=>rw[List.getLast?_eq_none_iff]at hp;rw[hp]at I;simp at I
     | some p =>
      have J:=e2 p hp;obtain⟨ys,z⟩:=List.getLast?_eq_some_iff.1 hp;rw[z]at I;rcases List.mem_append.1 I with G|G
      ·have Z:=h.asc;rw[z,Po]at Z;exact lY.lt _ _ _ (Z.2.2 a G p jS) J
      ·simp at G;subst G;exact J
    ·rcases List.mem_append.1 hy with hy|hy
     ·exact h.placed y hy
     ·simp at hy;subst hy;exact e1
   have:=qT l (pre++[x]) hx h0
   rwa [OC]at this
  ·rw[Mo e]at h0;exact absurd h0 e
theorem kJ {l:List Evt} (h:bH l=0):B7 l/\l.length<=4096:=by
 unfold bH at h
 split at h
 ·exact absurd h dc
 ·exact⟨by simpa using qT l [] ⟨List.Pairwise.nil,by simp⟩ h,by omega⟩
def me (w:World) (b p:Nat) (x:Vl):Prop :=
 w.cell? ⟨b,p,none⟩=some (Mk x.kind)/\w.cell? ⟨b,p+1,none⟩=some (Mk x.num)/\w.cell? ⟨b,p+2,none⟩=some (.string x.text)
theorem aD:jp me:=fun _ _ _ _ _ hb ⟨h0,h,z⟩=>⟨aa hb h0,aa hb h,aa hb z⟩
abbrev aV (w:World) (v:Value) (l:List Vl):Prop:=Sl me 3 w v l
def pz (w:World) (b p:Nat) (x:Evt):Prop:=∃v,aV w v x.vals /\
 w.cell? ⟨b,p,none⟩=some (Mk x.src)/\w.cell? ⟨b,p+1,none⟩=some (Mk x.sq)/\w.cell? ⟨b,p+2,none⟩=some (Mk x.ty)/\w.cell? ⟨b,p+3,none⟩=some (Mk x.tm)/\w.cell? ⟨b,p+4,none⟩=some v
theorem aG:jp pz:=fun _ _ _ _ _ hb ⟨v,h,h0,I,z,J,G⟩=>⟨v,h.stays aD hb,aa hb h0,aa hb I,aa hb z,aa hb J,aa hb G⟩
abbrev bh (w:World) (v:Value) (l:List Evt):Prop:=Sl pz 5 w v l
def nS (w:World) (b p:Nat) (x:List Evt):Prop:=∃v,bh w v x/\w.cell? ⟨b,p,none⟩=some v
theorem dT:jp nS:=fun _ _ _ _ _ hb ⟨v,h,h0⟩=>⟨v,h.stays aG hb,aa hb h0⟩
abbrev fW (w:World) (v:Value) (l:List (List Evt)):Prop:=Sl nS 1 w v l
def cP (x:Evt) (v:Value):Value:=.agg #[Mk x.src,Mk x.sq,Mk x.ty,Mk x.tm,v]
def vA (x:Bnd):Value:=.agg #[Mk x.t,Mk x.s,Mk x.n]
end Go.Proofs.YtbjicljfjkdeeaaGreatDoor
