/- Part. -/
import Derived.Test.YtokconodddedhaaGreatDoorQ04
import Derived.RangeFuncBox
import Derived.Laws.Concat
import Derived.RangeFuncLeaves
import Derived.TacticsInMore
import Derived.LoopIn
import Derived.BigFrameIn
import Derived.BigGuardIn
import Derived.BigGuardPartIn
import Derived.BigRegionIn
set_option maxRecDepth 100000
set_option maxHeartbeats 16000000
set_option linter.unusedVariables false
set_option linter.unusedSimpArgs false
namespace Go.Proofs.YtokconodddedhaaGreatDoor
open Go.Proofs.Tryz Go.RowKit
section
open Go.RowKit Go.Lib
theorem cD {β:Type} {J:β->World->Prop} {B:Nat} (D:AbidesFrom B J) {s:β} {W W':World} (h:J s W) (z:KY W W'):J s W' :=
 D s W W' none h ⟨z.os,z.tape,z.output,z.size,fun k hk _=>z.block k hk⟩ (fun r e=>by cases e)
theorem bZ {α:Type} {l:List α} {k:Nat} {x:α} (h:l[k]?=some x):l.take (k+1)=l.take k++[x]:=by
 rw[List.take_add_one,h];rfl
theorem AT {k m:Nat} (h:k<m):m-(((k+1:Nat):Int)).toNat<m-((k:Int)).toNat:=by omega
theorem gy {n:Nat} {P:Program} {o:Oper} {a:Act} {K:Act->World->Prop} {Q:Exit->Act->World->Prop} {l:Nat} {args:Array Value} {W:World} {X Y:World->Prop}
  (hy:YieldAt Fence.wide (n-1) P l args W (fun e W'=>(e=.returned (.bool true)/\X W')\/(e=.returned (.bool false)/\Y W')))
  (z:∀W',X W'->K (a.put o.dst (.bool true)) W') (F:∀W',Y W'->K (a.put o.dst (.bool false)) W'):Oper.uponIn Fence.wide n P o a K Q ((Instr.yield l args).run P W):=by
 obtain⟨fn,tmps,assign,body,hy,D⟩:=hy;rw[hy];refine⟨fun h=>by simp[Fence.wide]at h,D.mono ?_⟩;rintro e W' (⟨rfl,h⟩|⟨rfl,h⟩)
 ·exact z W' h
 ·exact F W' h
theorem ep {F:Fence} {m:Nat} {P:Program} {l:Nat} {args:Array Value} {W:World} {R z:Ending->World->Prop} (h:YieldAt F m P l args W R) (hr:∀e w',R e w'->z e w'):YieldAt F m P l args W z:=by
 obtain⟨fn,tmps,assign,body,hy,D⟩:=h;exact⟨fn,tmps,assign,body,hy,D.mono hr⟩
def SeqC {β:Type} (g:Nat) (lb:Array Value) (L:List β) (In:β->Array Value->World->Prop) (D:World->World->Prop) (w:World):Prop :=
 ∀(l:Nat) (J z:Nat->World->Prop) (W:World),KY w W->AbidesFrom W.heap.size J->AbidesFrom W.heap.size z ->
  (∀(m k:Nat) (x:β) (a:Array Value) (h:World),L[k]?=some x->J k h->In x a h->YieldAt Fence.wide m prog l a h fun e W' =>
   (e=.returned (.bool true)/\J (k+1) W'/\D h W')\/(e=.returned (.bool false)/\z (k+1) W')) ->
  J 0 W->Calls prog g (#[.func (.yield l) #[] #[]]++lb) W fun e W'=>(∃v,e=.returned v)/\(J L.length W'\/∃k,k<L.length/\z (k+1) W')
def Jn (B:Nat) (z:World->World->Prop) (I:Nat->World->Prop) (h:Code->Nat->World->Prop) (k:Nat) (W:World):Exit->Act->World->Prop
 | .normal,_,W'=>KeepsFrom B W W'/\z W W'/\I k W'
 | .ret,_,W'=>KeepsFrom B W W'/\h .ret k W'
 | .exit id,_,W'=>KeepsFrom B W W'/\h (.exit id) k W'
 | .goto t,_,W'=>KeepsFrom B W W'/\h (.goto t) k W'
 | .panic _,_,_=>False
 | .outgrown,_,_=>False
theorem nO {β:Type} {n:Nat} {g:Operand} {ps:Array Tmp} {assign body:Code} {Q:Exit->Act->World->Prop} {a:Act} {w:World}
  {gf:Nat} {lb:Array Value} (hg:a.eval g=.func (.func gf) #[] lb) (eg:∀args w,(callFunc gf args).run prog w=.ok (.enter gf args) w)
  {L:List β} {In:β->Array Value->World->Prop} {Kp:World->World->Prop} {w0:World} (x':SeqC gf lb L In Kp w0)
  (q':∀{A B C:World},Kp A B->Kp B C->Kp A C) (p':∀(W:World) (l:Nat) (o o':Obj),w.heap.size<=l->W.heap[l]?=some o->o.isCells=false->o.isWalk=false->Kp W (W.putObj l o'))
  (u':KY w0 w) (hIn:∀x v,OwnFrom w.heap.size (fun (_:Unit) W=>In x v W)) (E':∀x v W,In x v W->v.size=ps.size)
  (I:Nat->World->Prop) (Ix:Code->Nat->World->Prop) (hI:OwnFrom w.heap.size I) (e':∀c,OwnFrom w.heap.size (Ix c)) (h0:I 0 w)
  (Ax:β->Array Value->Act->World->Prop) (y':∀x v a',OwnFrom w.heap.size (fun (_:Unit) W=>Ax x v a' W))
  (O:∀(m l k:Nat) (x:β) (v:Array Value) (W:World) (K:Act->World->Prop),w.heap.size<=l->L[k]?=some x->I k W->In x v W ->
   (∀a' W',KeepsFrom w.heap.size W W'->Kp W W'->I k W'->In x v W'->Ax x v a' W'->K a' W') ->
   assign.wpIn (Fence.wide.inRound l) m prog (Exit.then K (fun _ _ _=>False)) { tmps:=(ps.zip v).foldl (fun t (p,u)=>t.setIfInBounds p u) a.tmps,defers:=[] } W)
  (j':∀(m l k:Nat) (x:β) (v:Array Value) (a':Act) (W:World),w.heap.size<=l->(∃r,W.heap[l]?=some (.loop r))->L[k]?=some x->I k W->In x v W->Ax x v a' W ->
   body.wpIn (Fence.wide.inRound l) m prog (Jn w.heap.size Kp I Ix (k+1) W) a' W)
  (i':∀(D:Nat) (W:World),w.heap.size<=D->I L.length W->W.heap[D]?=some (.deferred (some []))->Q .normal { a with defers:={ target:=.collected D,args:=#[] }::a.defers } W)
  (h':∀(D:Nat) (c:Code) (k:Nat) (W:World),w.heap.size<=D->k<L.length->Ix c (k+1) W->W.heap[D]?=some (.deferred (some []))->c.wpIn Fence.wide n prog Q { a with defers:={ target:=.collected D,args:=#[] }::a.defers } W) :
  (Code.rangeFunc g ps assign body).wpIn Fence.wide n prog Q a w:=by
 refine wpIn_rangeFunc fun fn J'=>?_
 obtain⟨rec,z⟩:∃rec:LoopState->Option Code->Loop,rec=fun st pe=>{ state:=st,pending:=pe,fn,tmps:=a.tmps,params:=ps,assign,body,defers:=w.heap.size }:=⟨_,rfl⟩
 obtain⟨S,hS⟩:=jF w.heap.size;obtain⟨W1,Z⟩:=jF ((w.alloc (.deferred (some []))).alloc (.loop (rec .ready none)));have L':W1.heap[S+1]?=some (.loop (rec .ready none)):=by
  have:=World.alloc_heap_new (w.alloc (.deferred (some []))) (.loop (rec .ready none));rw[L4,<-hS]at this;rw[Z];exact this
 have N':W1.heap[S]?=some (.deferred (some [])):=by
  rw[Z,hS];exact (Mq _ _ _ jS).trans (World.alloc_heap_new w _)
 have O':S<=W1.heap.size:=by rw[Z,hS];simp;omega
 have F':I 0 W1:=by rw[Z];exact hI.alloc _ (hI.alloc _ h0)
 have G':KY w0 W1:=by
  rw[Z];exact u'.trans ((((La _ w).alloc (Ld _) _).alloc jS _).mono u'.size)
 have t':(Instr.enterLoop fn a.tmps ps assign body Fence.wide.round).run prog w=.ok (S+1,[{ target:=.collected S,args:=#[] }]) W1:=by
  rw[Z,z,hS];exact run_enterLoop_outer _ _ _ _ _
 rw[<-hS]at hI e' hIn y' j' O i' h' p';clear Z;refine⟨S+1,[{ target:=.collected S,args:=#[] }],W1,{ target:=.fn (.func gf) lb,args:=#[.func (.yield (S+1)) #[] #[]] },W1,gf,
  #[.func (.yield (S+1)) #[] #[]]++lb,W1,t',?_,fun f' P'=>trivial,?_,fun h=>by simp[Fence.wide]at h,callsIn_wide.2 ?_⟩
 ·simp only[resolve,hg];simp[go_sem]
 ·simp[invoke,go_sem,eg]
 have n':∀{A B:World} {row:Option Nat},(∀r,row=some r->W1.heap.size<=r/\∃o:Obj,A.heap[r]?=some o/\o.isWalk=true)->(∀r,row=some r->S<=r/\∃o:Obj,A.heap[r]?=some o/\o.isCells=false) :=
  fun hr r e=>by obtain⟨hB,o,ho,hw⟩:=hr r e;exact⟨by omega,o,ho,Obj.not_cells_of_walk hw⟩
 refine (x' (S+1) (fun k W=>I k W/\W.heap[S+1]?=some (.loop (rec .ready none))/\W.heap[S]?=some (.deferred (some [])))
  (fun k W=>∃c,Ix c k W/\W.heap[S+1]?=some (.loop (rec .done (some c)))/\W.heap[S]?=some (.deferred (some []))) W1 G'
  (fun s A B row hs c' hr=>⟨hI s A B row hs.1 c' (n' (B:=B) hr),(grownBy_keeps c' (fun r e=>(hr r e).2) hs.2.1 rfl).trans hs.2.1,(grownBy_keeps c' (fun r e=>(hr r e).2) hs.2.2 rfl).trans hs.2.2⟩)
  (fun s A B row hs c' hr=>by
   obtain⟨c,hc,G,hk⟩:=hs;exact⟨c,e' c s A B row hc c' (n' (B:=B) hr),(grownBy_keeps c' (fun r e=>(hr r e).2) G rfl).trans G,(grownBy_keeps c' (fun r e=>(hr r e).2) hk rfl).trans hk⟩)
  ?_ ⟨F',L',N'⟩).mono ?_
 ·rintro m k x v W hx ⟨hi,G,hk⟩ g';have hy:=run_yield (P:=prog) (args:=v) G (by rw[z];exact E' x v W g');rw[z]at hy;refine⟨fn,_,assign,body,hy,roundIn_of_wpIn J' (O _ _ k x v W _ om hx hi g' ?_)⟩;clear hy hi g';intro a' Wa k' A' hi g' s';replace G:=k'.same _ _ om G rfl;replace hk:=k'.same _ _ (Ld _) hk rfl;have l':S+1<Wa.heap.size:=(Array.getElem?_eq_some_iff.1 G).1;clear k';refine⟨_,run_beginRound G (by rw[z]),?_⟩;obtain⟨W2,J⟩:∃W2,W2=Wa.putObj (S+1) (.loop { rec .ready none with state:=.busy }):=⟨_,rfl⟩;have z':W2.heap[S+1]?=some (.loop { rec .ready none with state:=.busy }):=by rw[J];exact World.putObj_heap_same l'
  have D':W2.heap[S]?=some (.deferred (some [])):=by rw[J];exact (World.putObj_heap_other om).trans hk
  have H':Kp Wa W2:=by rw[J];exact p' _ _ _ _ om G rfl rfl
  have I':I k W2:=by rw[J];exact hI.putObj _ hi om G rfl
  have C':In x v W2:=by rw[J];exact (hIn x v).putObj (s:=()) _ g' om G rfl
  have B':Ax x v a' W2:=by rw[J];exact (y' x v a').putObj (s:=()) _ s' om G rfl
  rw[<-J];clear J hi g' s' G hk l';refine wpIn_mono (j' _ _ k x v a' W2 om ⟨_,z'⟩ hx I' C' B') ?_;have fin:∀(jump:Option Code) (W3:World),KeepsFrom S W2 W3 ->
    (Instr.endRound (S+1) jump).run prog W3=.ok (.bool jump.isNone) (W3.putObj (S+1) (.loop (rec (if jump.isNone then .ready else .done) jump))) /\
    W3.heap[S+1]?=some (.loop { rec .ready none with state:=.busy }) /\
    (W3.putObj (S+1) (.loop (rec (if jump.isNone then .ready else .done) jump))).heap[S+1]?=some (.loop (rec (if jump.isNone then .ready else .done) jump)) /\
    (W3.putObj (S+1) (.loop (rec (if jump.isNone then .ready else .done) jump))).heap[S]?=some (.deferred (some [])):=fun jump W3 m'=>by
   have F:=m'.same _ _ om z' rfl;have hr:=run_endRound (P:=prog) jump F;rw[z]at hr F ⊢;exact⟨hr,F,World.putObj_heap_same (Array.getElem?_eq_some_iff.1 F).1,(World.putObj_heap_other om).trans (m'.same _ _ (Ld _) D' rfl)⟩
  rintro e a3 W3 hp
  cases e with
  | normal =>
   obtain⟨m',r',M'⟩:=hp;obtain⟨hr,F,d',b'⟩:=fin none W3 m';exact⟨_,_,hr,.inl ⟨rfl,⟨hI.putObj _ M' om F rfl,d',b'⟩,q' A' (q' (q' H' r') (p' _ _ _ _ om F rfl rfl))⟩⟩
  | ret =>
   obtain⟨hr,F,d',b'⟩:=fin (some .ret) W3 hp.1;exact⟨_,_,hr,.inr ⟨rfl,.ret,(e' _).putObj _ hp.2 om F rfl,d',b'⟩⟩
  | exit id =>
   obtain⟨hr,F,d',b'⟩:=fin (some (.exit id)) W3 hp.1;exact⟨_,_,hr,.inr ⟨rfl,.exit id,(e' _).putObj _ hp.2 om F rfl,d',b'⟩⟩
  | goto t =>
   obtain⟨hr,F,d',b'⟩:=fin (some (.goto t)) W3 hp.1;exact⟨_,_,hr,.inr ⟨rfl,.goto t,(e' _).putObj _ hp.2 om F rfl,d',b'⟩⟩
  | panic ch=>exact hp.elim
  | outgrown=>exact hp.elim
 ·rintro e W2 ⟨⟨v,rfl⟩,(⟨hi,G,hk⟩|⟨k,l',c,hi,G,hk⟩)⟩
  ·have hr:=run_endLoop (P:=prog) G (by rw[z];simp);rw[z]at hr;exact⟨none,_,hr,i' _ _ (Ld _) (hI.putObj _ hi om G rfl) ((World.putObj_heap_other om).trans hk)⟩
  ·have hr:=run_endLoop (P:=prog) G (by rw[z];simp);rw[z]at hr;exact⟨some c,_,hr,h' _ c k _ (Ld _) l' ((e' c).putObj _ hi om G rfl) ((World.putObj_heap_other om).trans hk)⟩
end
end Go.Proofs.YtokconodddedhaaGreatDoor
