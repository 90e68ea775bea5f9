/- Part. -/
import Derived.RangeFuncBox
import Derived.Laws.Concat
import Derived.RangeFuncLeaves
import Derived.TacticsInMore
import Derived.LoopIn
import Derived.BigFrameIn
import Derived.BigGuardIn
import Derived.BigGuardPartIn
import Derived.BigRegionIn
import Derived.Lib.ItoaLen
import Derived.Lib.Join
import Derived.Test.YteemngnialjaiaaGreatDoorQ06
import Derived.HandedShaped
import Derived.OwnWalkIn
import Derived.LoopNIn
set_option maxRecDepth 100000
set_option maxHeartbeats 16000000
set_option linter.unusedVariables false
set_option linter.unusedSimpArgs false
namespace Go.Proofs.YteemngnialjaiaaGreatDoor
open Go.Proofs.Tryz Go.RowKit
variable {β α H:Type}{B k m gf base fuel d b p:Nat}{W X Y w w0 wf:World}{P:Program}{o:Oper}{a:Act}{K:Act->World->Prop}{Q:Exit->Act->World->Prop}{l:List ByteArray}{F:Fence}{R I:Ending->World->Prop}{g:Operand}{ps:Array Tmp}{lb:Array Value}{Kp:World->World->Prop}{row:Option Nat}{e t:TypeId}{v:Value}{xs:List Value}{spare:Nat->Bool}{held:Bool}{c:Code}{pre:List (ByteArray×Int)}
section
open Go.RowKit Go.Lib
theorem lV{J:β->World->Prop}(Z:AbidesFrom B J){s:β}{W':World}(h:J s W)(I:OD W W'):J s W' :=
 Z s W W' none h ⟨I.os,I.tape,I.output,I.size,fun k hk _=>I.block k hk⟩ (fun r e=>by cases e)
theorem ef{l:List α}{x:α}(h:l[k]?=some x):l.take (k+1)=l.take k++[x]:=by
 rw[PW,h];rfl
theorem zL{n:Nat}{l:Nat}{args:Array Value}{X Y:World->Prop}(hy:YieldAt Fence.wide (n-1) P l args W (fun e W'=>(e=.returned (.bool true)/\X W')\/(e=.returned (.bool false)/\Y W')))(h1:∀W',X W'->K (a.put o.dst (.bool true)) W')(I:∀W',Y W'->K (a.put o.dst (.bool false)) W'):Oper.uponIn Fence.wide n P o a K Q ((Instr.yield l args).run P W):=by
 obtain⟨fn,tmps,assign,body,hy,J⟩:=hy;rw[hy];refine⟨fun h=>by simp[Fence.wide]at h,J.mono ?_⟩;rintro e W' (⟨rfl,h⟩|⟨rfl,h⟩)
 ·exact h1 W' h
 ·exact I W' h
theorem mS{l:Nat}{args:Array Value}(h:YieldAt F m P l args W R)(hr:∀e w',R e w'->I e w'):YieldAt F m P l args W I:=by
 obtain⟨fn,tmps,assign,body,hy,J⟩:=h;exact⟨fn,tmps,assign,body,hy,J.mono hr⟩
def SeqC{β:Type}(g:Nat)(lb:Array Value)(L:List β)(In:β->Array Value->World->Prop)(Z:World->World->Prop)(w:World):Prop :=
 ∀(l:Nat)(J I:Nat->World->Prop)(W:World),OD w W->AbidesFrom W.heap.size J->AbidesFrom W.heap.size I ->
  (∀(m k:Nat)(x:β)(a:Array Value)(h:World),L[k]?=some x->J k h->In x a h->YieldAt Fence.wide m prog l a h fun e W' =>
   (e=.returned (.bool true)/\J (k+1) W'/\Z h W')\/(e=.returned (.bool false)/\I (k+1) W')) ->
  J 0 W->Calls prog g (#[.func (.yield l) #[] #[]]++lb) W fun e W'=>(∃v,e=.returned v)/\(J L.length W'\/∃k,k<L.length/\I (k+1) W')
def postC(B:Nat)(J:World->World->Prop)(I:Nat->World->Prop)(h:Code->Nat->World->Prop)(k:Nat)(W:World):Exit->Act->World->Prop
 | .normal,_,W'=>KeepsFrom B W W'/\J W W'/\I k W'
 | .ret,_,W'=>KeepsFrom B W W'/\h .ret k W'
 | .exit id,_,W'=>KeepsFrom B W W'/\h (.exit id) k W'
 | .goto t,_,W'=>KeepsFrom B W W'/\h (.goto t) k W'
 | .panic _,_,_=>False
 | .outgrown,_,_=>False
theorem MY{n:Nat}{assign body:Code}(hg:a.eval g=.func (.func gf) #[] lb)(eg:∀args w,(callFunc gf args).run prog w=.ok (.enter gf args) w){L:List β}{In:β->Array Value->World->Prop}(G':SeqC gf lb L In Kp w0)(x':∀{A B C:World},Kp A B->Kp B C->Kp A C)(u':∀(W:World)(l:Nat)(o o':Obj),w.heap.size<=l->W.heap[l]?=some o->o.isCells=false->o.isWalk=false->Kp W (W.putObj l o'))(A':OD w0 w)(hIn:∀x v,OwnFrom w.heap.size (fun(_:Unit) W=>In x v W))(Q':∀x v W,In x v W->v.size=ps.size)(I:Nat->World->Prop)(Ix:Code->Nat->World->Prop)(hI:OwnFrom w.heap.size I)(k':∀c,OwnFrom w.heap.size (Ix c))(h0:I 0 w)(Ax:β->Array Value->Act->World->Prop)(H':∀x v a',OwnFrom w.heap.size (fun(_:Unit) W=>Ax x v a' W))(c':∀(m l k:Nat)(x:β)(v:Array Value)(W:World)(K:Act->World->Prop),w.heap.size<=l->L[k]?=some x->I k W->In x v W ->
   (∀a' W',KeepsFrom w.heap.size W W'->Kp W W'->I k W'->In x v W'->Ax x v a' W'->K a' W') ->
   assign.wpIn (Fence.wide.inRound l) m prog (Exit.then K (fun _ _ _=>False)) { tmps:=(ps.zip v).foldl (fun t (p,u)=>t.setIfInBounds p u) a.tmps,defers:=[] } W)(m':∀(m l k:Nat)(x:β)(v:Array Value)(a':Act)(W:World),w.heap.size<=l->(∃r,W.heap[l]?=some (.loop r))->L[k]?=some x->I k W->In x v W->Ax x v a' W ->
   body.wpIn (Fence.wide.inRound l) m prog (postC w.heap.size Kp I Ix (k+1) W) a' W)(n':∀(D:Nat)(W:World),w.heap.size<=D->I L.length W->W.heap[D]?=some (.deferred (some []))->Q .normal { a with defers:={ target:=.collected D,args:=#[] }::a.defers } W)(p':∀(D:Nat)(c:Code)(k:Nat)(W:World),w.heap.size<=D->k<L.length->Ix c (k+1) W->W.heap[D]?=some (.deferred (some []))->c.wpIn Fence.wide n prog Q { a with defers:={ target:=.collected D,args:=#[] }::a.defers } W) :
  (Code.rangeFunc g ps assign body).wpIn Fence.wide n prog Q a w:=by
 refine wpIn_rangeFunc fun fn T'=>?_
 obtain⟨rec,J⟩:∃rec:LoopState->Option Code->Loop,rec=fun st pe=>{ state:=st,pending:=pe,fn,tmps:=a.tmps,params:=ps,assign,body,defers:=w.heap.size }:=⟨_,rfl⟩
 obtain⟨S,hS⟩:=jF w.heap.size;obtain⟨W1,h'⟩:=jF ((w.alloc (.deferred (some []))).alloc (.loop (rec .ready none)));have P':W1.heap[S+1]?=some (.loop (rec .ready none)):=by
  have:=World.alloc_heap_new (w.alloc (.deferred (some []))) (.loop (rec .ready none));rw[World.size_alloc,<-hS]at this;rw[h'];exact this
 have R':W1.heap[S]?=some (.deferred (some [])):=by
  rw[h',hS];exact (Qe _ _ _ jS).trans (World.alloc_heap_new w _)
 have Z':S<=W1.heap.size:=by rw[h',hS];simp;omega
 have J':I 0 W1:=by rw[h'];exact hI.alloc _ (hI.alloc _ h0)
 have V':OD w0 W1:=by
  rw[h'];exact A'.trans ((((OK _ w).alloc (OI _) _).alloc jS _).mono A'.size)
 have D':(Instr.enterLoop fn a.tmps ps assign body Fence.wide.round).run prog w=.ok (S+1,[{ target:=.collected S,args:=#[] }]) W1:=by
  rw[h',J,hS];exact run_enterLoop_outer _ _ _ _ _
 rw[<-hS]at hI k' hIn H' m' c' n' p' u';clear h';refine⟨S+1,[{ target:=.collected S,args:=#[] }],W1,{ target:=.fn (.func gf) lb,args:=#[.func (.yield (S+1)) #[] #[]] },W1,gf,
  #[.func (.yield (S+1)) #[] #[]]++lb,W1,D',?_,fun f' Y'=>trivial,?_,fun h=>by simp[Fence.wide]at h,callsIn_wide.2 ?_⟩
 ·simp only[resolve,hg];simp[go_sem]
 ·simp[invoke,go_sem,eg]
 have t':∀{A B:World}{row:Option Nat},(∀r,row=some r->W1.heap.size<=r/\∃o:Obj,A.heap[r]?=some o/\o.isWalk=true)->(∀r,row=some r->S<=r/\∃o:Obj,A.heap[r]?=some o/\o.isCells=false) :=
  fun hr r e=>by obtain⟨hB,o,ho,hw⟩:=hr r e;exact⟨by omega,o,ho,Obj.not_cells_of_walk hw⟩
 refine (G' (S+1) (fun k W=>I k W/\W.heap[S+1]?=some (.loop (rec .ready none))/\W.heap[S]?=some (.deferred (some [])))
  (fun k W=>∃c,Ix c k W/\W.heap[S+1]?=some (.loop (rec .done (some c)))/\W.heap[S]?=some (.deferred (some []))) W1 V'
  (fun s A B row hs g' hr=>⟨hI s A B row hs.1 g' (t' (B:=B) hr),(grownBy_keeps g' (fun r e=>(hr r e).2) hs.2.1 rfl).trans hs.2.1,(grownBy_keeps g' (fun r e=>(hr r e).2) hs.2.2 rfl).trans hs.2.2⟩)
  (fun s A B row hs g' hr=>by
   obtain⟨c,hc,hl,hk⟩:=hs;exact⟨c,k' c s A B row hc g' (t' (B:=B) hr),(grownBy_keeps g' (fun r e=>(hr r e).2) hl rfl).trans hl,(grownBy_keeps g' (fun r e=>(hr r e).2) hk rfl).trans hk⟩)
  ?_ ⟨J',P',R'⟩).mono ?_
 ·rintro m k x v W hx ⟨hi,hl,hk⟩ l';have hy:=run_yield (P:=prog) (args:=v) hl (by rw[J];exact Q' x v W l');rw[J]at hy;refine⟨fn,_,assign,body,hy,roundIn_of_wpIn T' (c' _ _ k x v W _ om hx hi l' ?_)⟩;clear hy hi l';intro a' Wa q' z' hi l' B';replace hl:=q'.same _ _ om hl rfl;replace hk:=q'.same _ _ (OI _) hk rfl;have r':S+1<Wa.heap.size:=(Array.getElem?_eq_some_iff.1 hl).1;clear q';refine⟨_,run_beginRound hl (by rw[J]),?_⟩;obtain⟨W2,d'⟩:∃W2,W2=Wa.putObj (S+1) (.loop { rec .ready none with state:=.busy }):=⟨_,rfl⟩;have E':W2.heap[S+1]?=some (.loop { rec .ready none with state:=.busy }):=by rw[d'];exact World.putObj_heap_same r'
  have N':W2.heap[S]?=some (.deferred (some [])):=by rw[d'];exact (Ru om).trans hk
  have S':Kp Wa W2:=by rw[d'];exact u' _ _ _ _ om hl rfl rfl
  have I':I k W2:=by rw[d'];exact hI.putObj _ hi om hl rfl
  have y':In x v W2:=by rw[d'];exact (hIn x v).putObj (s:=()) _ l' om hl rfl
  have F':Ax x v a' W2:=by rw[d'];exact (H' x v a').putObj (s:=()) _ B' om hl rfl
  rw[<-d'];clear d' hi l' B' hl hk r';refine wpIn_mono (m' _ _ k x v a' W2 om ⟨_,E'⟩ hx I' y' F') ?_;have fin:∀(jump:Option Code)(W3:World),KeepsFrom S W2 W3 ->
    (Instr.endRound (S+1) jump).run prog W3=.ok (.bool jump.isNone) (W3.putObj (S+1) (.loop (rec (if jump.isNone then .ready else .done) jump))) /\
    W3.heap[S+1]?=some (.loop { rec .ready none with state:=.busy }) /\
    (W3.putObj (S+1) (.loop (rec (if jump.isNone then .ready else .done) jump))).heap[S+1]?=some (.loop (rec (if jump.isNone then .ready else .done) jump)) /\
    (W3.putObj (S+1) (.loop (rec (if jump.isNone then .ready else .done) jump))).heap[S]?=some (.deferred (some [])):=fun jump W3 s'=>by
   have Z:=s'.same _ _ om E' rfl;have hr:=run_endRound (P:=prog) jump Z;rw[J]at hr Z ⊢;exact⟨hr,Z,World.putObj_heap_same (Array.getElem?_eq_some_iff.1 Z).1,(Ru om).trans (s'.same _ _ (OI _) N' rfl)⟩
  rintro e a3 W3 hp
  cases e with
  | normal =>
   obtain⟨s',C',U'⟩:=hp;obtain⟨hr,Z,i',j'⟩:=fin none W3 s';exact⟨_,_,hr,.inl ⟨rfl,⟨hI.putObj _ U' om Z rfl,i',j'⟩,x' z' (x' (x' S' C') (u' _ _ _ _ om Z rfl rfl))⟩⟩
  | ret =>
   obtain⟨hr,Z,i',j'⟩:=fin (some .ret) W3 hp.1;exact⟨_,_,hr,.inr ⟨rfl,.ret,(k' _).putObj _ hp.2 om Z rfl,i',j'⟩⟩
  | exit id =>
   obtain⟨hr,Z,i',j'⟩:=fin (some (.exit id)) W3 hp.1;exact⟨_,_,hr,.inr ⟨rfl,.exit id,(k' _).putObj _ hp.2 om Z rfl,i',j'⟩⟩
  | goto t =>
   obtain⟨hr,Z,i',j'⟩:=fin (some (.goto t)) W3 hp.1;exact⟨_,_,hr,.inr ⟨rfl,.goto t,(k' _).putObj _ hp.2 om Z rfl,i',j'⟩⟩
  | panic ch=>exact hp.elim
  | outgrown=>exact hp.elim
 ·rintro e W2 ⟨⟨v,rfl⟩,(⟨hi,hl,hk⟩|⟨k,r',c,hi,hl,hk⟩)⟩
  ·have hr:=run_endLoop (P:=prog) hl (by rw[J];simp);rw[J]at hr;exact⟨none,_,hr,n' _ _ (OI _) (hI.putObj _ hi om hl rfl) ((Ru om).trans hk)⟩
  ·have hr:=run_endLoop (P:=prog) hl (by rw[J];simp);rw[J]at hr;exact⟨some c,_,hr,p' _ c k _ (OI _) r' ((k' c).putObj _ hi om hl rfl) ((Ru om).trans hk)⟩
end
section
open Go.RowKit Go.Lib
structure Nv where
 name:ByteArray
 ty:Int
def MP(w:World)(b p:Nat)(x:Nv):Prop:=w.cell? ⟨b,p,none⟩=some (.string x.name)/\w.cell? ⟨b,p+1,none⟩=some (OB x.ty)
theorem Bd:jU MP:=fun _ _ _ _ _ hb ⟨h0,h1⟩=>⟨aa hb h0,aa hb h1⟩
abbrev LH(w:World)(v:Value)(l:List Nv):Prop:=Sl MP 2 w v l
def N7:ByteArray:=⟨#[]⟩
end
section
open Go.RowKit Go.Lib
theorem Aq(h:wf.grownBy X (some B))(k:X.grownBy Y row)(hr:∀r,row=some r->r=B\/wf.heap.size<=r):wf.grownBy Y (some B):=by
 refine⟨k.os.trans h.os,k.tape.trans h.tape,k.output.trans h.output,OP h.size k.size,fun j J I=>?_⟩;refine (k.block j (OT J h.size) fun e=>?_).trans (h.block j J I);rcases hr j e.symm with rfl|h1
 ·exact I rfl
 ·omega
theorem aS(I:OD w wf)(h:wf.grownBy X (some B))(J:w.heap.size<=B):OD w X :=
 I.grown h I.size (fun k e=>by cases e;exact J)
theorem Mi{e size:Nat}(h:W.ownsRow base e size v k xs){g:Nat}(I:v.ownBlock=some g):base<=g/\∃cur,W.heap[g]?=some (.cells cur e (0,0)):=by
 rcases h.2 with ⟨rfl,_⟩|⟨g',cap,cur,rfl,h1,h2,_⟩
 ·simp[Value.ownBlock]at I
 ·have:g'=g:=by simpa [Value.ownBlock] using I
  subst this;exact⟨h1,cur,h2⟩
def Out(wf:World)(B:Nat)(t e:TypeId)(l:List ByteArray)(W:World):Prop :=
 wf.grownBy W (some B)/\∃v,Boxed W B t v/\W.ownsRow wf.heap.size e 1 v l.length (l.map Value.string)
theorem Out.own(hB:B<wf.heap.size)(h:Out wf B t e l X)(I:X.grownBy Y row)(hr:∀r,row=some r->wf.heap.size<=r/\∃o:Obj,X.heap[r]?=some o/\o.isCells=false):Out wf B t e l Y:=by
 obtain⟨h1,v,h2,Z⟩:=h;refine⟨Aq h1 I (fun r e=>.inr (hr r e).1),v,h2.kept I (fun e=>?_),Z.kept I ?_⟩
 ·have:=(hr B e.symm).1;omega
 ·cases hv:v.ownBlock with
  | none =>
   rcases Z.2 with ⟨rfl,_⟩|⟨g,cap,cur,rfl,_⟩
   ·exact .inl rfl
   ·simp[Value.ownBlock]at hv
  | some g =>
   refine .inr fun e=>?_
   obtain⟨_,cur,hc⟩:=Mi Z hv;obtain⟨_,o,ho,J⟩:=hr g e.symm;rw[hc]at ho;cases ho;cases J
end
section
open Go.ChangeShapes Go.WideShapes Go.ChangeAt Go.RowKit Go.Deep
theorem Iu{l:List α}(h:l.length=5):∃a b c d e,l=[a,b,c,d,e]:=by
 match l,h with
 | [a,b,c,d,e],_=>exact⟨a,b,c,d,e,rfl⟩
theorem fJ:prog.cellsOf 9=1:=kr
theorem D0:prog.cellsOf 59=1:=kr
theorem pI:prog.cellsOf 27=3:=kr
theorem D7:prog.cellsOf 71=5:=kr
theorem Ir:prog.cellsOf 125=2:=kr
section
variable {enc:TypeId×Value->H}
theorem Jy(n b o:Nat)(cs:List Value)(y:DataW H × List MemPlace)(hl:cs.length=3)(J:∀(j:Nat)(u:Value),cs[j]?=some u->w.cell? ⟨b,o+j,none⟩=some u)(h:DataW.trod enc prog w base spare held n 27 cs=some y):∃x,mC w b o x:=by
 obtain⟨c0,c1,c2,rfl⟩:=sG hl;obtain⟨xs,m,_,_,_,I,hf⟩:=Qz underlying27 h;obtain⟨x0,x1,x2,rfl⟩:=sG (jQ I);have f0:=hf 0 _ rfl;have f1:=hf 1 _ rfl;have f2:=hf 2 _ rfl;simp[dP,fJ]at f0 f1 f2;obtain⟨k0,Z,_⟩:=Pm underlying3 f0;obtain⟨k1,e1,_⟩:=Pm underlying3 f1;obtain⟨k2,e2,_⟩:=RW underlying9 f2;simp only[PJ,PU]at Z e1 e2;subst Z e1 e2;exact⟨⟨k0,k1,k2⟩,J 0 _ rfl,J 1 _ rfl,J 2 _ rfl⟩
theorem JP(n b o:Nat)(cs:List Value)(y:DataW H × List MemPlace)(hl:cs.length=2)(Z:∀(j:Nat)(u:Value),cs[j]?=some u->w.cell? ⟨b,o+j,none⟩=some u)(h:DataW.trod enc prog w base spare held n 125 cs=some y):∃x,MP w b o x:=by
 obtain⟨c0,c1,rfl⟩:=B2 hl;obtain⟨xs,m,_,_,_,I,hf⟩:=Qz underlying125 h;obtain⟨x0,x1,rfl⟩:=B2 (jQ I);have f0:=hf 0 _ rfl;have f1:=hf 1 _ rfl;simp[dP,fJ]at f0 f1;obtain⟨k0,J,_⟩:=RW underlying9 f0;obtain⟨k1,e1,_⟩:=Pm underlying3 f1;simp only[PJ,PU]at J e1;subst J e1;exact⟨⟨k0,k1⟩,Z 0 _ rfl,Z 1 _ rfl⟩
theorem Hb{y:DataW H×List MemPlace}(h:DataW.trod enc prog w base spare held fuel 22 [v]=some y):∃l,LH w v l :=
 pr underlying22 Ir dc (fun n b o cs y h1 I J=>JP n b o cs y h1 I J) h
end
section
variable {enc:TypeId×Value->H}
end
end
section
open Go.ChangeShapes Go.WideShapes Go.ChangeAt Go.RowKit Go.Deep
inductive Ex
 | mk (op:Int) (args:List Ex) (vr fl kd:Int) (val:Vl)
def Ex.op:Ex->Int|.mk a _ _ _ _ _=>a
def Ex.args:Ex->List Ex|.mk _ a _ _ _ _=>a
def Ex.vr:Ex->Int|.mk _ _ a _ _ _=>a
def Ex.fl:Ex->Int|.mk _ _ _ a _ _=>a
def Ex.kd:Ex->Int|.mk _ _ _ _ a _=>a
def Ex.val:Ex->Vl|.mk _ _ _ _ _ a=>a
mutual
def aC:Ex->Nat
 | .mk _ l _ _ _ _=>1+bJ l
def bJ:List Ex->Nat
 | []=>0
 | a::r=>aC a+bJ r
end
theorem kR(x:Ex):aC x=1+bJ x.args:=by cases x;rw[aC];rfl
theorem qE(l:List Ex):bJ l=(l.map aC).sum:=by
 induction l with
 | nil=>rw[bJ];rfl
 | cons a r h=>rw[bJ,h];rfl
def rS:Nat->World->Nat->Nat->Ex->Prop
 | 0=>fun _ _ _ _=>False
 | d+1=>fun w b p x=>∃v,Sl (rS d) 8 w v x.args/\w.cell? ⟨b,p,none⟩=some (OB x.op)/\w.cell? ⟨b,p+1,none⟩=some v /\
   w.cell? ⟨b,p+2,none⟩=some (OB x.vr)/\w.cell? ⟨b,p+3,none⟩=some (OB x.fl)/\w.cell? ⟨b,p+4,none⟩=some (OB x.kd)/\mC w b (p+5) x.val
theorem bi(d:Nat):jU (rS d):=by
 induction d with
 | zero=>exact fun _ _ _ _ _ _ h=>h
 | succ d I=>exact fun _ _ _ _ _ hb ⟨v,J,h0,h1,Z,h3,h4,h5⟩=>⟨v,J.stays I hb,aa hb h0,aa hb h1,aa hb Z,aa hb h3,aa hb h4,aG _ _ _ _ _ hb h5⟩
theorem pi{R S:World->Nat->Nat->α->Prop}{sz:Nat}{l:List α}(I:∀b p x,R w b p x->S w b p x)(h:Sl R sz w v l):Sl S sz w v l:=by
 obtain⟨A,c,e,h1,J,Z⟩:=h;exact⟨A,c,e,h1,J,fun k x hk=>by obtain⟨b,o,e,hr⟩:=Z k x hk;exact⟨b,o,e,I _ _ _ hr⟩⟩
theorem sD(d:Nat):∀(w:World)(b p:Nat)(x:Ex),rS d w b p x->rS (d+1) w b p x:=by
 induction d with
 | zero=>exact fun _ _ _ _ h=>h.elim
 | succ d I=>exact fun w b p x ⟨v,J,h⟩=>⟨v,pi (fun b p x=>I w b p x) J,h⟩
theorem JM{e:Nat}(h:d<=e){x:Ex}(J:rS d w b p x):rS e w b p x:=by
 induction h with
 | refl=>exact J
 | step _ I=>exact sD _ _ _ _ _ I
abbrev bZ(d:Nat)(w:World)(v:Value)(l:List Ex):Prop:=Sl (rS d) 8 w v l
def exV(x:Ex)(v:Value):Value:=.agg #[OB x.op,v,OB x.vr,OB x.fl,OB x.kd,OB x.val.kind,OB x.val.num,.string x.val.text]
theorem mg:prog.cellsOf 29=8:=kr
theorem oz:prog.cellsOf 25=1:=kr
theorem BX{l:List α}(h:l.length=6):∃a b c d e f,l=[a,b,c,d,e,f]:=by
 match l,h with
 | [a,b,c,d,e,f],_=>exact⟨a,b,c,d,e,f,rfl⟩
theorem LQ{l:List α}(h:l.length=8):∃a b c d e f g i,l=[a,b,c,d,e,f,g,i]:=by
 match l,h with
 | [a,b,c,d,e,f,g,i],_=>exact⟨a,b,c,d,e,f,g,i,rfl⟩
theorem GA(d:DataW H):1<=Rows.uptoBulk d:=by
 cases d with
 | lit l=>cases l<;>simp[Rows.uptoBulk]
 | nil=>simp[Rows.uptoBulk]
 | ptr d=>simp[Rows.uptoBulk]
 | slice elems spare=>simp[Rows.uptoBulk]
 | agg parts=>simp[Rows.uptoBulk]
 | iface t d=>simp[Rows.uptoBulk]
 | map entries=>simp[Rows.uptoBulk]
 | held h=>simp[Rows.uptoBulk]
theorem nT{d:DataW H}{l:List (DataW H)}(h:d∈l):Rows.uptoBulk d<=Rows.uptoBulkAll l:=by
 induction l with
 | nil=>cases h
 | cons x r I =>
  simp only[Rows.uptoBulkAll]
  cases List.mem_cons.1 h with
  | inl e=>subst e;omega
  | inr e=>have:=I e;omega
theorem zy{H α:Type}(m:α->Nat):∀(l:List α)(ds:List (DataW H)),l.length=ds.length->(∀(k:Nat)(x:α)(d:DataW H),l[k]?=some x->ds[k]?=some d->m x<=Rows.uptoBulk d)->(l.map m).sum<=Rows.uptoBulkAll ds
 | [],_,_,_=>by simp
 | a::l,[],h,_=>by simp at h
 | a::l,d::ds,h,hk=>by
  have h1:=zy m l ds (jQ h) (fun k x d J I=>hk (k+1) x d (jQ J) (jQ I));have Z:=hk 0 a d rfl rfl;simp only[Rows.uptoBulkAll,OU,QB];omega
section
variable {enc:TypeId×Value->H}
theorem mx{R:World->Nat->Nat->α->Prop}{m:α->Nat}{sz:Nat}(ht:P.underlying t=some (.slice e))(k':P.cellsOf e=sz)(h':0<sz)(hR:∀(n b o:Nat)(cs:List Value)(y:DataW H × List MemPlace),n<fuel->cs.length=sz->(∀(j:Nat)(u:Value),cs[j]?=some u->w.cell? ⟨b,o+j,none⟩=some u)->DataW.trod enc P w base spare held n e cs=some y->∃x,R w b o x/\m x<=Rows.uptoBulk y.1){y:DataW H×List MemPlace}(h:DataW.trod enc P w base spare held fuel t [v]=some y):∃l:List α,Sl R sz w v l/\(l.map m).sum+1<=Rows.uptoBulk y.1:=by
 rcases DataW.trod_slice ht h with ⟨Z,hy⟩|⟨a,len,cap,elems,rest,n,rfl,Z,hy,_,hl,hm,hlen,hi,_⟩
 ·simp only[PJ,PU]at Z;subst Z;exact⟨[],Sl.nil _ _ _ _ _ (OO _),GA _⟩
 ·simp only[PJ,PU]at Z;subst Z;subst hy;have hb:∀l:List α,l.length=len->(∀(k:Nat)(x:α)(d:DataW H × List MemPlace),l[k]?=some x->elems[k]?=some d->m x<=Rows.uptoBulk d.1)->(l.map m).sum+1<=Rows.uptoBulk (DataW.slice (elems.map (·.1)) (rest.map (·.1))):=by
   intro l hl hk;have:=zy m l (elems.map (·.1)) (by simp[hl,hlen]) (fun k x d hx hd=>by
    rw[OQ,Option.map_eq_some_iff]at hd;obtain⟨d',a',rfl⟩:=hd;exact hk k x d' hx a')
   simp only[Rows.uptoBulk];omega
  rcases QS len with h0|h0
  ·subst h0;exact⟨[],Sl.nil _ _ _ _ _ hm,hb [] rfl (fun k x d hx=>by simp at hx)⟩
  ·have J:∀i,i<len->∃I d,elems[i]?=some d/\w.cells? base (a.add (i*sz)) sz=some I/\DataW.trod enc P w base spare held n e I=some d:=by
    intro i f';have h1:=hi i f';rw[OH om,Option.bind_eq_some_iff]at h1;obtain⟨I,h2,h3⟩:=h1;rw[k']at h2;exact⟨I,_,OH om,h2,h3⟩
   have c':∃b o,a=⟨b,o,none⟩:=by
    obtain⟨I,_,_,hc,_⟩:=J 0 h0;obtain⟨_,j',J⟩:=World.cells?_some hc;have h2:=J 0 h';rw[OH om]at h2;have h3:=World.cell?_spot h2;obtain⟨b,o,sp⟩:=a;simp only[Addr.add,P1,Ps]at h3;exact⟨b,o,jQ h3⟩
   obtain⟨b,o,rfl⟩:=c';obtain⟨l,g',i'⟩:=kf (fun k x=>R w b (o+k*sz) x/\∀d,elems[k]?=some d->m x<=Rows.uptoBulk d.1) len (fun i f'=>by
    obtain⟨I,d,hd,hc,l'⟩:=J i f';obtain⟨_,j',J⟩:=World.cells?_some hc;obtain⟨x,hx,hm⟩:=hR n b (o+i*sz) I _ (Nat.lt_succ_self _) j' (fun j u hj=>by
     have h4:=J j (by have:=(List.getElem?_eq_some_iff.1 hj).1;omega);rw[cY,cY,hj]at h4;exact h4) l'
    exact⟨x,hx,fun d' a'=>by rw[hd]at a';cases a';exact hm⟩)
   exact⟨l,⟨some ⟨b,o,none⟩,cap,by rw[g'],by omega,hm,fun k x hk=>⟨b,o,rfl,(i' k x hk).1⟩⟩,hb l g' (fun k x d hx hd=>(i' k x hx).2 d hd)⟩
end
section
variable {enc:TypeId×Value->H}
theorem Dw(fuel:Nat):∀(n:Nat),n<=fuel->∀(b o:Nat)(cs:List Value)(y:DataW H × List MemPlace),cs.length=8->(∀(j:Nat)(u:Value),cs[j]?=some u->w.cell? ⟨b,o+j,none⟩=some u) ->
  DataW.trod enc prog w base spare held n 29 cs=some y->∃x,rS fuel w b o x/\aC x<=Rows.uptoBulk y.1:=by
 induction fuel with
 | zero =>
  intro n hn b o cs y hl I h;obtain⟨xs,m,hm,_⟩:=Qz underlying29 h;omega
 | succ fuel ih =>
  intro n hn b o cs y hl I h;obtain⟨c0,c1,c2,c3,c4,c5,c6,c7,rfl⟩:=LQ hl;obtain⟨xs,m,hm,hy,_,J,hf⟩:=Qz underlying29 h;obtain⟨x0,x1,x2,x3,x4,x5,rfl⟩:=BX (jQ J);have f0:=hf 0 _ rfl;have f1:=hf 1 _ rfl;have f2:=hf 2 _ rfl;have f3:=hf 3 _ rfl;have f4:=hf 4 _ rfl;have f5:=hf 5 _ rfl;simp[dP,oz,pI]at f0 f1 f2 f3 f4 f5;obtain⟨k0,e0,_⟩:=Pm underlying3 f0;obtain⟨k2,e2,_⟩:=Pm underlying3 f2;obtain⟨k3,e3,_⟩:=Pm underlying3 f3;obtain⟨k4,e4,_⟩:=Pm underlying3 f4;obtain⟨vl,Z⟩:=Jy m b (o+5) _ x5 rfl (fun j u hj=>by have:=I (j+5) u (jQ hj);rw[PP,Nat.add_comm 5 j];exact this) f5;obtain⟨l,a',c'⟩:=mx (m:=aC) underlying25 mg dc (fun n b o cs y hn h1 h2 h3=>ih n om b o cs y h1 h2 h3) f1;simp only[PJ,PU]at e0 e2 e3 e4;subst e0 e2 e3 e4;refine⟨.mk k0 l k2 k3 k4 vl,⟨c1,a',I 0 _ rfl,I 1 _ rfl,I 2 _ rfl,I 3 _ rfl,I 4 _ rfl,Z⟩,?_⟩;subst hy;rw[kR,show (Ex.mk k0 l k2 k3 k4 vl).args=l from rfl,qE];have h1:=nT (d:=x1.1) (l:=[x0.1,x1.1,x2.1,x3.1,x4.1,x5.1]) jS;simp only[Rows.uptoBulk,OU,P6];omega
theorem xF{y:DataW H×List MemPlace}(h:DataW.trod enc prog w base spare held fuel 25 [v]=some y):∃l,bZ fuel w v l/\(l.map aC).sum+1<=Rows.uptoBulk y.1 :=
 mx (m:=aC) underlying25 mg dc (fun n b o cs y Z h1 I J=>Dw fuel n om b o cs y h1 I J) h
end
end
theorem eR{n:Nat}(h:n<=1099511627776):IntKind.i64.wrap (n:Int)=(n:Int):=by
 simp[IntKind.wrap,IntKind.bits,IntKind.signed];omega
mutual
def cS(lim:Nat):Ex->Nat
 | .mk _ l _ _ _ _=>eK lim 1 l
def eK(lim:Nat)(n:Nat):List Ex->Nat
 | []=>n
 | a::r=>if n<=lim then eK lim (n+cS lim a) r else n
end
mutual
def bD:Ex->Nat
 | .mk _ l _ _ _ _=>cI l+1
def cI:List Ex->Nat
 | []=>0
 | a::r=>max (bD a) (cI r)
end
theorem kP(x:Ex):bD x=cI x.args+1:=by cases x;rw[bD];rfl
mutual
theorem ow(lim:Nat):∀x,cS lim x<=aC x
 | .mk o l a b c v=>by
  have:=tf lim 1 l;rw[cS,aC];exact this
theorem tf(lim n:Nat):∀l,eK lim n l<=n+bJ l
 | []=>by rw[eK];omega
 | a::r=>by
  rw[eK,bJ]
  split
  ·have:=ow lim a;have:=tf lim (n+cS lim a) r;omega
  ·omega
end
theorem tc(lim:Nat):∀(l:List Ex)(n:Nat),n<=eK lim n l
 | [],n=>by rw[eK];omega
 | a::r,n=>by
  rw[eK]
  split
  ·have:=tc lim r (n+cS lim a);omega
  ·omega
mutual
theorem pX(lim:Nat):∀x,cS lim x<=lim->cS lim x=aC x
 | .mk o l a b c v=>by
  have:=ro lim 1 l;rw[cS,aC];exact this
theorem ro(lim n:Nat):∀l,eK lim n l<=lim->eK lim n l=n+bJ l
 | []=>by rw[eK,bJ];omega
 | a::r=>by
  rw[eK,bJ]
  split
  ·intro h;have h1:=tc lim r (n+cS lim a);have:=pX lim a om;have:=ro lim (n+cS lim a) r h;omega
  ·omega
end
theorem rQ(lim:Nat)(x:Ex):cS lim x<=lim↔aC x<=lim:=by
 constructor
 ·intro h;rw[<-pX lim x h];exact h
 ·intro h;exact OP (ow lim x) h
mutual
theorem oA:∀x,bD x<=aC x
 | .mk o l a b c v=>by
  have:=kV l;rw[bD,aC];omega
theorem kV:∀l,cI l<=bJ l
 | []=>by rw[cI];omega
 | a::r=>by
  have:=oA a;have:=kV r;rw[cI,bJ];omega
end
theorem vN{x:Ex}(h:rS d w b p x):∃I v,d=I+1/\bZ I w v x.args/\w.cell? ⟨b,p,none⟩=some (OB x.op)/\w.cell? ⟨b,p+1,none⟩=some v /\
  w.cell? ⟨b,p+2,none⟩=some (OB x.vr)/\w.cell? ⟨b,p+3,none⟩=some (OB x.fl)/\w.cell? ⟨b,p+4,none⟩=some (OB x.kd) /\
  w.cell? ⟨b,p+5,none⟩=some (OB x.val.kind)/\w.cell? ⟨b,p+6,none⟩=some (OB x.val.num)/\w.cell? ⟨b,p+7,none⟩=some (.string x.val.text):=by
 cases d with
 | zero=>exact h.elim
 | succ d =>
  obtain⟨v,Z,h0,h1,h2,h3,h4,h5,J,h7⟩:=h;exact⟨d,v,rfl,Z,h0,h1,h2,h3,h4,h5,J,h7⟩
def arN(op:Int):Int:=if op<0\/12<op then -1 else if op<5 then 0 else if op=12 then 1 else 2
def arP(op:Int):Int × Bool:=if op<0\/12<op then (0,false) else (arN op,true)
def lj(op:Int):Bool × Bool:=if op=1\/op=4 then (true,true) else if op=2\/op=3 then (true,false) else (false,false)
def ls(x:Ex):Int:=if cQ x.val≠0 then cQ x.val else if x.op=4/\(dZ x.kd x.val=false\/x.kd=1/\bI x.val au=false) then 9 else 0
def iC(x:Ex):Int :=
 if arN x.op<0 then 1
 else if (x.args.length:Int)≠arN x.op then 15
 else if (lj x.op).1=true/\(x.vr<0\/16<=x.vr)\/(lj x.op).2=true/\(x.fl<0\/8<=x.fl) then 2
 else if x.op=4/\(x.kd<1\/5<x.kd) then 1
 else if (x.op=4\/x.op=0)/\ls x≠0 then ls x
 else if (lj x.op).1=false/\x.vr≠0\/(lj x.op).2=false/\x.fl≠0\/x.op≠4/\x.kd≠0\/(x.op≠4/\x.op≠0)/\bI x.val au=false then 3 else 0
mutual
def bL:Ex->Int
 | .mk o l a b c v=>if iC (.mk o l a b c v)≠0 then iC (.mk o l a b c v) else cT l
def cT:List Ex->Int
 | []=>0
 | a::r=>if bL a≠0 then bL a else cT r
end
theorem D9(x:Ex):bL x=if iC x≠0 then iC x else cT x.args:=by cases x;rw[bL];rfl
theorem mW{l:List Ex}{a:Ex}(h:l[k]?=some a):cT (l.drop k)=if bL a≠0 then bL a else cT (l.drop (k+1)):=by
 obtain⟨h1,rfl⟩:=List.getElem?_eq_some_iff.1 h;rw[PE h1,cT]
theorem eU:∀l:List Ex,l.length<=bJ l
 | []=>by simp
 | a::r=>by
  have:=eU r;have:=kR a;rw[bJ,Pk];omega
section
open Go.RowKit Go.Lib
attribute [local go_sem] Oper.semAt_some
def Left(w:World)(I h:Nat)(c:Code)(pre:List (ByteArray × Int))(W:World):Prop :=
 c=.ret/\∃p J e,pre=p++[(J,e)]/\(∀x∈p,x.2=0)/\e≠0/\Boxed W I 9 (.string N7)/\Boxed W h 38 (OB e)/\OD w W
theorem Left.own{Z J:Nat}(h4:Z<B)(h5:J<B)(hw:w.heap.size<=B)(h:Left w Z J c pre X)(hg:X.grownBy Y row)(hr:∀r,row=some r->B<=r/\∃o:Obj,X.heap[r]?=some o/\o.isCells=false):Left w Z J c pre Y:=by
 obtain⟨hc,p,tx,e,h1,h2,h3,b4,b5,hb⟩:=h;refine⟨hc,p,tx,e,h1,h2,h3,b4.kept hg (fun I=>?_),b5.kept hg (fun I=>?_),hb.grown hg hb.size (fun k I=>?_)⟩
 ·have:=(hr Z I.symm).1;omega
 ·have:=(hr J I.symm).1;omega
 ·have:=(hr k I).1;omega
end
end Go.Proofs.YteemngnialjaiaaGreatDoor
