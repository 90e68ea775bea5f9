/- Part. -/
import Derived.Test.YtbjicljfjkdeeaaGreatDoorQ30
import Derived.Lib.ItoaNum
import Derived.Test.YtbjicljfjkdeeaaGreatDoorQ31
import Derived.Lib.AppendStr
import Derived.Shelf.Strconv.Itoa1
set_option maxRecDepth 100000
set_option maxHeartbeats 16000000
set_option linter.unusedVariables false
set_option linter.unusedSimpArgs false
namespace Go.Proofs.YtbjicljfjkdeeaaGreatDoor
open Go.Proofs.Tryz Go.RowKit
def uq (x:Ex):Bool:=decide (aF x<=200)&&decide (dA x<=100)
theorem Dt (d:Nat) (x:Ex) (v:Value) (w:World) (hx:aK d w v x.args) (hN:aF x<=1048576) :
  Mn 90 #[exV x v] w (.bool (uq x)):=by
 have J:Hid (∀W:World,Mm w W->Mn 138 #[exV x v,Mk 200] W (Mk (cR 200 x))):=jD (fun W hW=>qt 200 dc d x v W (hx.stays (ai d) hW) hN);have O:=jD (fun (W:World) (hW:Mm w W)=>qy d x v W (hx.stays (ai d) hW) hN);obtain⟨R,hR⟩:=jE (uq x);obtain⟨p,hp⟩:=jE (cR 200 x);obtain⟨q,hq⟩:=jE (dA x);have HR:Hid (R=(decide (p<=200)&&decide (q<=100))):=jD (by rw[<-hR,<-hp,<-hq];unfold uq;have:=rA 200 x;simp only[this]);rw[hR];rw[hp]at J;rw[hq]at O;obtain⟨op,l,vr,fl,kd,⟨k0,n0,t0⟩⟩:=x;obtain⟨A,c,rfl,-⟩:=hx;unfold exV at *;simp only[Ex.args,Ex.op,Ex.vr,Ex.fl,Ex.kd,Ex.val]at *;clear hR hp hq hN;go_enter func90,ntmps90;go_wp2_with fail;refine (J.out _ (af _ _)).mono ?_;rintro e z ⟨rfl,I⟩;have h:=(bE I).1;have y0:z.cell? ⟨w.heap.size,0,none⟩=some (Mk op):=by rw[h];rfl
 have y1:z.cell? ⟨w.heap.size,1,none⟩=some (.slice A l.length c):=by rw[h];rfl
 have y2:z.cell? ⟨w.heap.size,2,none⟩=some (Mk vr):=by rw[h];rfl
 have y3:z.cell? ⟨w.heap.size,3,none⟩=some (Mk fl):=by rw[h];rfl
 have y4:z.cell? ⟨w.heap.size,4,none⟩=some (Mk kd):=by rw[h];rfl
 have y5:z.cell? ⟨w.heap.size,5,none⟩=some (Mk k0):=by rw[h];rfl
 have y6:z.cell? ⟨w.heap.size,6,none⟩=some (Mk n0):=by rw[h];rfl
 have y7:z.cell? ⟨w.heap.size,7,none⟩=some (.string t0):=by rw[h];rfl
 have G:=jD (ab (af w _) I);clear h I
 by_cases Z:p<=200
 case neg =>
  obtain rfl:R=false:=by rw[HR.out];simp[Z]
  have a':¬(p:Int)<=(200:Int):=by omega
  clear Z HR;exact fi G.out
 have a':(p:Int)<=(200:Int):=by omega
 have HP:=jD Z;clear Z;go_wp2_with fail;refine (O.out _ G.out).mono ?_;rintro e w3 ⟨rfl,c'⟩;go_wp2;go_ret;exact⟨by rw[HR.out];simp[HP.out];omega,ab G.out c'⟩
section
open Go.RowKit Go.Lib
theorem gJ {β:Type} {J:β->World->Prop} {B:Nat} (h:OwnFrom B J):AbidesFrom B J:=fun s W W' row hs I hr=>h s W W' row hs I fun r e=>by
 obtain⟨G,o,z,hw⟩:=hr r e;exact⟨G,o,z,Obj.not_cells_of_walk hw⟩
def JS {β:Type} (g:Nat) (lb:Array Value) (L:List β) (In:β->Array Value->World->Prop) (G:World->World->Prop) (w:World):Prop :=
 ∀(l:Nat) (J z:Nat->World->Prop) (W:World),Mm w W->OwnFrom W.heap.size J->OwnFrom W.heap.size z ->
  (∀(m k:Nat) (x:β) (a:Array Value) (h:World),L[k]?=some x->J k h->In x a h->YieldAt Fence.wide m prog l a h fun e W' =>
   (e=.returned (.bool true)/\J (k+1) W'/\G h W'/\KeepsFrom W.heap.size h W')\/(e=.returned (.bool false)/\z (k+1) W'/\KeepsFrom W.heap.size h W')) ->
  J 0 W->Calls prog g (#[.func (.yield l) #[] #[]]++lb) W fun e W'=>(∃v,e=.returned v)/\(J L.length W'\/∃k,k<L.length/\z (k+1) W')
theorem SeqC.own {β:Type} {g:Nat} {lb:Array Value} {L:List β} {In:β->Array Value->World->Prop} {I:World->World->Prop} {w:World} (h:SeqC g lb L In I w):JS g lb L In I w :=
 fun l J Z W hW hJ G hY h0=>h l J Z W hW (gJ hJ) (gJ G) (fun m k x a W1 hx hj hi=>cg (hY m k x a W1 hx hj hi) fun e W'=>by
  rintro (⟨e,z,O,-⟩|⟨e,z,-⟩)
  ·exact .inl ⟨e,z,O⟩
  ·exact .inr ⟨e,z⟩) h0
theorem cQ {A B:Nat} {W W':World} (h:KeepsFrom A W W') (hle:A<=B):KeepsFrom B W W':=⟨h.size,fun k o hk=>h.same k o om⟩
theorem ei {A l:Nat} (W:World) (o:Obj) (h:l<A):KeepsFrom A W (W.putObj l o):=⟨(grownBy_putObj' W l o).size,fun k o' hk e _=>(World.putObj_heap_other om).trans e⟩
theorem Hy {β:Type} {n:Nat} {g:Operand} {ps:Array Tmp} {assign body:Code} {Q:Exit->Act->World->Prop} {a:Act} {w:World}
  {gf:Nat} {lb:Array Value} (hg:a.eval g=.func (.func gf) #[] lb) (eg:∀args w,(callFunc gf args).run prog w=.ok (.enter gf args) w)
  {L:List β} {In:β->Array Value->World->Prop} {Kp:World->World->Prop} {w0:World} (I':JS gf lb L In Kp w0)
  (z':∀{A B C:World},Kp A B->Kp B C->Kp A C) (y':∀(W:World) (l:Nat) (o o':Obj),w.heap.size<=l->W.heap[l]?=some o->o.isCells=false->o.isWalk=false->Kp W (W.putObj l o'))
  (C':Mm w0 w) (hIn:∀x v,OwnFrom w.heap.size (fun (_:Unit) W=>In x v W)) (R':∀x v W,In x v W->v.size=ps.size)
  (I:Nat->World->Prop) (Ix:Code->Nat->World->Prop) (hI:OwnFrom w.heap.size I) (j':∀c,OwnFrom w.heap.size (Ix c)) (h0:I 0 w)
  (Ax:β->Array Value->Act->World->Prop) (J':∀x v a',OwnFrom w.heap.size (fun (_:Unit) W=>Ax x v a' W))
  (Z:∀(m l k:Nat) (x:β) (v:Array Value) (W:World) (K:Act->World->Prop),w.heap.size<=l->L[k]?=some x->I k W->In x v W ->
   (∀a' W',KeepsFrom w.heap.size W W'->Kp W W'->I k W'->In x v W'->Ax x v a' W'->K a' W') ->
   assign.wpIn (Fence.wide.inRound l) m prog (Exit.then K (fun _ _ _=>False)) { tmps:=(ps.zip v).foldl (fun t (p,u)=>t.setIfInBounds p u) a.tmps,defers:=[] } W)
  (m':∀(m l k:Nat) (x:β) (v:Array Value) (a':Act) (W:World),w.heap.size<=l->(∃r,W.heap[l]?=some (.loop r))->L[k]?=some x->I k W->In x v W->Ax x v a' W ->
   body.wpIn (Fence.wide.inRound l) m prog (Kx w.heap.size Kp I Ix (k+1) W) a' W)
  (n':∀(D:Nat) (W:World),w.heap.size<=D->I L.length W->W.heap[D]?=some (.deferred (some []))->Q .normal { a with defers:={ target:=.collected D,args:=#[] }::a.defers } W)
  (s':∀(D:Nat) (c:Code) (k:Nat) (W:World),w.heap.size<=D->k<L.length->Ix c (k+1) W->W.heap[D]?=some (.deferred (some []))->c.wpIn Fence.wide n prog Q { a with defers:={ target:=.collected D,args:=#[] }::a.defers } W) :
  (Code.rangeFunc g ps assign body).wpIn Fence.wide n prog Q a w:=by
 refine wpIn_rangeFunc fun fn U'=>?_
 obtain⟨rec,z⟩:∃rec:LoopState->Option Code->Loop,rec=fun st pe=>{ state:=st,pending:=pe,fn,tmps:=a.tmps,params:=ps,assign,body,defers:=w.heap.size }:=⟨_,rfl⟩
 obtain⟨S,hS⟩:=jF w.heap.size;obtain⟨W1,d'⟩:=jF ((w.alloc (.deferred (some []))).alloc (.loop (rec .ready none)));have k':W1.heap[S+1]?=some (.loop (rec .ready none)):=by
  have:=World.alloc_heap_new (w.alloc (.deferred (some []))) (.loop (rec .ready none));rw[Oo,<-hS]at this;rw[d'];exact this
 have S':W1.heap[S]?=some (.deferred (some [])):=by
  rw[d',hS];exact (Nz _ _ _ jS).trans (World.alloc_heap_new w _)
 have p':S<=W1.heap.size:=by rw[d',hS];simp;omega
 have O':I 0 W1:=by rw[d'];exact hI.alloc _ (hI.alloc _ h0)
 have Y':Mm w0 W1:=by
  rw[d'];exact C'.trans ((((Mr _ w).alloc (Mt _) _).alloc jS _).mono C'.size)
 have F':(Instr.enterLoop fn a.tmps ps assign body Fence.wide.round).run prog w=.ok (S+1,[{ target:=.collected S,args:=#[] }]) W1:=by
  rw[d',z,hS];exact run_enterLoop_outer _ _ _ _ _
 rw[<-hS]at hI j' hIn J' m' Z n' s' y';clear d';refine⟨S+1,[{ target:=.collected S,args:=#[] }],W1,{ target:=.fn (.func gf) lb,args:=#[.func (.yield (S+1)) #[] #[]] },W1,gf,
  #[.func (.yield (S+1)) #[] #[]]++lb,W1,F',?_,fun f' Z'=>trivial,?_,fun h=>by simp[Fence.wide]at h,callsIn_wide.2 ?_⟩
 ·simp only[resolve,hg];simp[go_sem]
 ·simp[invoke,go_sem,eg]
 have t':∀{A B:World} {row:Option Nat},(∀r,row=some r->W1.heap.size<=r/\∃o:Obj,A.heap[r]?=some o/\o.isCells=false)->(∀r,row=some r->S<=r/\∃o:Obj,A.heap[r]?=some o/\o.isCells=false) :=
  fun hr r e=>by obtain⟨hB,o,ho,hw⟩:=hr r e;exact⟨by omega,o,ho,hw⟩
 refine (I' (S+1) (fun k W=>I k W/\W.heap[S+1]?=some (.loop (rec .ready none))/\W.heap[S]?=some (.deferred (some [])))
  (fun k W=>∃c,Ix c k W/\W.heap[S+1]?=some (.loop (rec .done (some c)))/\W.heap[S]?=some (.deferred (some []))) W1 Y'
  (fun s A B row hs c' hr=>⟨hI s A B row hs.1 c' (t' (B:=B) hr),(c'.block _ (Array.getElem?_eq_some_iff.1 hs.2.1).1 (fun e=>by have:=(hr _ e.symm).1;have:=(Array.getElem?_eq_some_iff.1 k').1;omega)).trans hs.2.1,(c'.block _ (Array.getElem?_eq_some_iff.1 hs.2.2).1 (fun e=>by have:=(hr _ e.symm).1;have:=(Array.getElem?_eq_some_iff.1 k').1;omega)).trans hs.2.2⟩)
  (fun s A B row hs c' hr=>by
   obtain⟨c,hc,O,hk⟩:=hs;exact⟨c,j' c s A B row hc c' (t' (B:=B) hr),(c'.block _ (Array.getElem?_eq_some_iff.1 O).1 (fun e=>by have:=(hr _ e.symm).1;have:=(Array.getElem?_eq_some_iff.1 k').1;omega)).trans O,(c'.block _ (Array.getElem?_eq_some_iff.1 hk).1 (fun e=>by have:=(hr _ e.symm).1;have:=(Array.getElem?_eq_some_iff.1 k').1;omega)).trans hk⟩)
  ?_ ⟨O',k',S'⟩).mono ?_
 ·rintro m k x v W hx ⟨hi,O,hk⟩ l';have hy:=run_yield (P:=prog) (args:=v) O (by rw[z];exact R' x v W l');rw[z]at hy;refine⟨fn,_,assign,body,hy,roundIn_of_wpIn U' (Z _ _ k x v W _ om hx hi l' ?_)⟩;clear hy hi l';intro a' Wa i' B' hi l' D';replace O:=i'.same _ _ om O rfl;replace hk:=i'.same _ _ (Mt _) hk rfl;have u':S+1<Wa.heap.size:=(Array.getElem?_eq_some_iff.1 O).1;have r':S+1<W1.heap.size:=(Array.getElem?_eq_some_iff.1 k').1;have V':KeepsFrom W1.heap.size W Wa:=cQ i' p';clear i';refine⟨_,run_beginRound O (by rw[z]),?_⟩;obtain⟨W2,J⟩:∃W2,W2=Wa.putObj (S+1) (.loop { rec .ready none with state:=.busy }):=⟨_,rfl⟩;have G':W2.heap[S+1]?=some (.loop { rec .ready none with state:=.busy }):=by rw[J];exact World.putObj_heap_same u'
  have P':W2.heap[S]?=some (.deferred (some [])):=by rw[J];exact (World.putObj_heap_other om).trans hk
  have T':Kp Wa W2:=by rw[J];exact y' _ _ _ _ om O rfl rfl
  have N':I k W2:=by rw[J];exact hI.putObj _ hi om O rfl
  have A':In x v W2:=by rw[J];exact (hIn x v).putObj (s:=()) _ l' om O rfl
  have H':Ax x v a' W2:=by rw[J];exact (J' x v a').putObj (s:=()) _ D' om O rfl
  have x':KeepsFrom W1.heap.size W W2:=V'.trans (by rw[J];exact ei _ _ r');rw[<-J];clear J hi l' D' O hk u';refine wpIn_mono (m' _ _ k x v a' W2 om ⟨_,G'⟩ hx N' A' H') ?_;have fin:∀(jump:Option Code) (W3:World),KeepsFrom S W2 W3 ->
    (Instr.endRound (S+1) jump).run prog W3=.ok (.bool jump.isNone) (W3.putObj (S+1) (.loop (rec (if jump.isNone then .ready else .done) jump))) /\
    W3.heap[S+1]?=some (.loop { rec .ready none with state:=.busy }) /\
    (W3.putObj (S+1) (.loop (rec (if jump.isNone then .ready else .done) jump))).heap[S+1]?=some (.loop (rec (if jump.isNone then .ready else .done) jump)) /\
    (W3.putObj (S+1) (.loop (rec (if jump.isNone then .ready else .done) jump))).heap[S]?=some (.deferred (some [])):=fun jump W3 q'=>by
   have G:=q'.same _ _ om G' rfl;have hr:=run_endRound (P:=prog) jump G;rw[z]at hr G ⊢;exact⟨hr,G,World.putObj_heap_same (Array.getElem?_eq_some_iff.1 G).1,(World.putObj_heap_other om).trans (q'.same _ _ (Mt _) P' rfl)⟩
  rintro e a3 W3 hp
  cases e with
  | normal =>
   obtain⟨q',E',X'⟩:=hp;obtain⟨hr,G,g',h'⟩:=fin none W3 q';exact⟨_,_,hr,.inl ⟨rfl,⟨hI.putObj _ X' om G rfl,g',h'⟩,z' B' (z' (z' T' E') (y' _ _ _ _ om G rfl rfl)),x'.trans ((cQ q' p').trans (ei _ _ r'))⟩⟩
  | ret =>
   obtain⟨hr,G,g',h'⟩:=fin (some .ret) W3 hp.1;exact⟨_,_,hr,.inr ⟨rfl,⟨.ret,(j' _).putObj _ hp.2 om G rfl,g',h'⟩,x'.trans ((cQ hp.1 p').trans (ei _ _ r'))⟩⟩
  | exit id =>
   obtain⟨hr,G,g',h'⟩:=fin (some (.exit id)) W3 hp.1;exact⟨_,_,hr,.inr ⟨rfl,⟨.exit id,(j' _).putObj _ hp.2 om G rfl,g',h'⟩,x'.trans ((cQ hp.1 p').trans (ei _ _ r'))⟩⟩
  | goto t =>
   obtain⟨hr,G,g',h'⟩:=fin (some (.goto t)) W3 hp.1;exact⟨_,_,hr,.inr ⟨rfl,⟨.goto t,(j' _).putObj _ hp.2 om G rfl,g',h'⟩,x'.trans ((cQ hp.1 p').trans (ei _ _ r'))⟩⟩
  | panic ch=>exact hp.elim
  | outgrown=>exact hp.elim
 ·rintro e W2 ⟨⟨v,rfl⟩,(⟨hi,O,hk⟩|⟨k,u',c,hi,O,hk⟩)⟩
  ·have hr:=run_endLoop (P:=prog) O (by rw[z];simp);rw[z]at hr;exact⟨none,_,hr,n' _ _ (Mt _) (hI.putObj _ hi om O rfl) ((World.putObj_heap_other om).trans hk)⟩
  ·have hr:=run_endLoop (P:=prog) O (by rw[z];simp);rw[z]at hr;exact⟨some c,_,hr,s' _ c k _ (Mt _) u' ((j' c).putObj _ hi om O rfl) ((World.putObj_heap_other om).trans hk)⟩
theorem ic {n0 n1:Nat} {B row:Option Nat} {W W':World} (Z:n0<=W.heap.size) (z:W.grownBy W' row) (hr:∀r,row=some r->n0<=r/\B≠some r/\(r<n1\/∃o:Obj,W.heap[r]?=some o/\o.isCells=false)) (O:∀b,B=some b->b<W.heap.size):aE n0 n1 B W W':=by
 have G:∀b,B=some b->W'.heap[b]?=W.heap[b]?:=fun b I=>z.block b (O b I) (fun e=>by have:=(hr b e.symm).2.1;rw[I]at this;exact this rfl)
 refine⟨⟨z.os,z.tape,z.output,z.size,fun k hk=>z.block k om (fun e=>by have:=(hr k e.symm).1;omega)⟩,fun s k hk=>ME (s k ((eJ G k).1 hk)) z.size,fun k o hk e c r=>⟨?_,fun h=>r ((eJ G k).1 h)⟩⟩;refine (z.block k (Array.getElem?_eq_some_iff.1 e).1 (fun J=>?_)).trans e;rcases (hr k J.symm).2.2 with h|⟨o2,h1,h2⟩
 ·omega
 ·rw[e]at h1;cases h1;rw[c]at h2;cases h2
theorem Ca {n1 S:Nat} {B:Option Nat} (O:∀b,B=some b->b<n1/\b<S) (x:Bs) (v:Array Value):OwnFrom S (fun (_:Unit) W=>InS n1 B x v W):=fun _ W W' row ⟨u,e,hs⟩ hg hr=>by
 refine⟨u,e,?_⟩;obtain⟨b,o,c,rfl,h1,h2,J,G,I⟩:=hs;obtain⟨z,r,hz⟩:∃z r,x=z::r:=by
  cases x with
  | nil=>exact absurd rfl J
  | cons z r=>exact⟨z,r,rfl⟩
 have Z:b<W.heap.size:=Ms W ⟨b,_,none⟩ (I 0 z (by rw[hz];rfl)).1;have hk:aE 0 n1 B W W':=ic (Mu _) hg (fun r e=>⟨Mu _,fun e2=>by have:=(hr r e).1;have:=(O r e2).2;omega,.inr (hr r e).2⟩) (fun b' h=>by have:=(O b' h).1;have:=G.1;omega);exact SetIn.keepO hk ⟨b,o,c,rfl,h1,h2,J,G,I⟩
theorem yf {n1:Nat} {B:Option Nat} {x:Bs} {v:Array Value} {W:World} (h:InS n1 B x v W):v.size=1:=by
 obtain⟨u,rfl,-⟩:=h;rfl
def Ju (L:List Bs) (W0 w:World) (e:Ending) (W:World):Prop:=∃gf lb,e=.returned (.func (.func gf) #[] lb)/\(∀args w,(callFunc gf args).run prog w=.ok (.enter gf args) w)/\Mm w W /\
 ∀n1 B,W0.heap.size<=n1->n1<=w.heap.size->fA w B->(∀k,B=some k->k<n1)->JS gf lb L (InS n1 B) (aE W0.heap.size n1 B) W
def vP (g:Nat) (l:List Evt) (x:Pt) (b:Bs) (i:Nat):Prop:=∀(d e C:Nat) (v vc vl u:Value) (W0 w:World),ScnAt l W0 C vl->aU d W0 v x.args->aK e W0 vc x.cond.args->fo W0 u b->Mm W0 w ->
 Calls prog g #[.pointer (some ⟨C,0,none⟩),ptV x v vc,u,Mk (i:Int)] w (Ju (fO l x b i) W0 w)
theorem FinderK.own {g:Nat} {l:List Evt} {x:Pt} {b:Bs} {i:Nat} (h:FinderK g l x b i):vP g l x b i:=fun d e C v vc vl u W0 w I z Z G J =>
 (h d e C v vc vl u W0 w I z Z G J).mono fun _ _ ⟨gf,lb,e1,O,e3,e4⟩=>⟨gf,lb,e1,O,e3,fun n1 B a1 a2 a3 a4=>(e4 n1 B a1 a2 a3 a4).own⟩
end
section
open Go.Lib
theorem nC (u:Nat):∀c∈decDigits u,48<=c.toNat/\c.toNat<=57:=by
 induction u using Nat.strongRecOn with
 | _ u z =>
  intro c h;rw[decDigits]at h
  split at h
  ·simp only[NK]at h;subst h;rw[PO];omega
  ·rcases List.mem_append.1 h with h|h
   ·exact z _ om c h
   ·simp only[NK]at h;subst h;rw[PO];omega
theorem Lu (u:Nat):decDigits u≠[]:=by
 rw[decDigits]
 split<;>simp
def L3 (l:List UInt8):Nat:=l.foldl (fun a c=>10*a+(c.toNat-48)) 0
theorem yF (u:Nat):L3 (decDigits u)=u:=by
 induction u using Nat.strongRecOn with
 | _ u z =>
  rw[decDigits]
  split
  ·simp only[L3,N4,List.foldl_nil];rw[PO];omega
  ·have h:=z (u / 10) om;simp only[L3,Pc,N4,List.foldl_nil]at *;rw[h,PO];omega
theorem BL {u v:Nat} (h:decDigits u=decDigits v):u=v:=by rw[<-yF u,h,yF]
theorem yR {m n:Int} (h:itoa m=itoa n):m=n:=by
 have z:∀u v:Nat,(45:UInt8)::decDigits u≠decDigits v:=fun u v e=>by
  have:=nC v 45 (by rw[<-e];exact Mz ..);simp at this
 unfold itoa at h
 split at h
 ·split at h
  ·have:=BL (List.cons.inj h).2;omega
  ·exact absurd h (z _ _)
 ·split at h
  ·exact absurd h.symm (z _ _)
  ·have:=BL h;omega
end
section
open Go.Lib
theorem A0 (n:Int):∀c∈itoa n,c=45\/(48<=c.toNat/\c.toNat<=57):=by
 intro c h;unfold itoa at h
 split at h
 ·rcases List.mem_cons.1 h with rfl|h
  ·exact .inl rfl
  ·exact .inr (nC _ c h)
 ·exact .inr (nC _ c h)
theorem pm (n:Int) (d:UInt8) (z:d≠45) (I:d.toNat<48\/57<d.toNat):∀c∈itoa n,c≠d:=by
 rintro c G rfl;rcases A0 n c G with h|h
 ·exact z h
 ·omega
theorem Kw {d:UInt8} {a b s t:List UInt8} (G:∀c∈a,c≠d) (I:∀c∈b,c≠d) (h:a++d::s=b++d::t):a=b/\s=t:=by
 induction a generalizing b with
 | nil =>
  cases b with
  | nil=>simpa using h
  | cons y b=>simp at h;exact absurd h.1.symm (I y (Mz ..))
 | cons x a J =>
  cases b with
  | nil=>simp at h;exact absurd h.1 (G x (Mz ..))
  | cons y b =>
   simp only[Oi,Nf]at h;obtain⟨Z,O⟩:=J (fun c z=>G c (MD _ z)) (fun c z=>I c (MD _ z)) h.2;exact⟨by rw[h.1,Z],O⟩
end
section
open Go.RowKit Go.Lib
def fb:Bs->List UInt8
 | []=>[]
 | x::r=>itoa x.1++64::(itoa (x.2:Int)++32::fb r)
theorem ky (l:Bs) (x:Int × Nat):fb (l++[x])=fb l++itoa x.1++[64]++itoa (x.2:Int)++[32]:=by
 induction l with
 | nil=>simp[fb]
 | cons a l h=>rw[Oi,fb,h,fb];simp
theorem xl:∀{l m:Bs},fb l=fb m->l=m
 | [],[],_=>rfl
 | [],_::_,h=>by simp[fb]at h
 | _::_,[],h=>by simp[fb]at h
 | a::l,b::m,h=>by
  rw[fb,fb]at h;obtain⟨J,G⟩:=Kw (pm a.1 64 dc dc) (pm b.1 64 dc dc) h;obtain⟨O,I⟩:=Kw (pm (a.2:Int) 32 dc dc) (pm (b.2:Int) 32 dc dc) G;have z:=yR J;have Z:=yR O;rw[xl I,Prod.ext z om]
theorem yP (n:Int):0<(itoa n).length:=by
 rcases OT (itoa n).length with h|h
 ·exfalso
  have h0:=M8 h;unfold itoa at h0
  split at h0
  ·simp at h0
  ·exact Lu _ h0
 ·exact h
theorem jP {n:Nat} (h:n<100):(itoa (n:Int)).length<=2:=by
 rw[itoa_nonneg,decDigits_length]
 by_cases z:n<10
 ·rw[nDigits_small z];omega
 ·rw[nDigits_big z,nDigits_small (show n / 10<10 by omega)];omega
theorem wy:(prog.info? 5).map (fun i=>(i.zero,i.size,i.bytes))=some (some (.int .u8 0),1,1):=kr
theorem Af (u:Nat) (hu:u<100) (W:World):Calls prog 271 #[Mk u] W fun e w'=>e=.returned (.string ⟨(decDigits u).toArray⟩)/\w'=W:=Any.internal_strconv_small { Tryz.laysM176 with } u hu W
def zW (w:World) (B n:Nat) (v:Value) (xs:List Value) (u:Nat) (e:Ending) (W:World):Prop :=
 ∃v',e=.returned v'/\W.ownsRow B 5 1 v' (n+(itoa (u:Int)).length) (xs++Lib.byteCells (itoa (u:Int)))/\w.grownBy W v.ownBlock
theorem DY (B n u:Nat) (hu:u<100) (v:Value) (xs:List Value) (w:World) (h:w.ownsRow B 5 1 v n xs) (hB:B<=w.heap.size) (hn:n<=1099511627776) :
  Calls prog 254 #[v,.int .u64 u,Mk 10] w (zW w B n v xs u):=by
 have I:=jD (fun W=>Af u hu W);have hlen:=jP hu;have HD:=jD (itoa_nonneg u);rw[itoa_nonneg]at hlen;obtain⟨i0,hi,J,Z,a'⟩:=Np wy;have G:(⟨(decDigits u).toArray⟩:ByteArray).size=(decDigits u).length:=by simp[ByteArray.size]
 have f':(u:Int)<100:=by omega
 have hw:IntKind.i64.wrap (u:Int)=u:=bM om;obtain⟨D,hD⟩:=jF (decDigits u);rw[<-hD]at I hlen G HD;clear hD;have d':=jD h;obtain⟨A,c,rfl⟩:=aH h;clear h;go_enter func254,ntmps254;go_wp2_with fail;refine (I.out _).mono ?_;rintro e w' ⟨rfl,rfl⟩;go_wp2_with (at_builtin;refine Lib.wpList_append_own_string _ rfl _ _ 219 9 rfl B 5 i0 underlying219 underlying9 hi J Z a' _ _ _ rfl d'.out ⟨D.toArray⟩ rfl (by rw[G];unfold maxLen;omega) (by rw[G];omega) hB ?_;intro v7 w7 z O c');go_ret;refine⟨_,rfl,?_,O⟩;rw[HD.out];rw[G]at z;exact z
theorem ub8 {p:Prop} (h:p:=by
  go_wp2_with fail;refine I.out.mono ?_;rintro e w' ⟨v7,rfl,z,G⟩;have O:=jD (And.intro z G);clear z G;go_wp2;go_ret;exact⟨_,rfl,O.out.1,O.out.2⟩):p:=h
theorem DU (B n u:Nat) (hu:u<100) (v:Value) (xs:List Value) (w:World) (h:w.ownsRow B 5 1 v n xs) (Z:B<=w.heap.size) (J:n<=1099511627776) :
  Calls prog 210 #[v,Mk u,Mk 10] w (zW w B n v xs u):=by
 have I:=jD (DY B n u hu v xs w h Z J);have hw:IntKind.u64.wrap (u:Int)=u:=by simp[IntKind.wrap,IntKind.bits,IntKind.signed];omega
 have a':¬(u:Int)<0:=by omega
 obtain⟨A,c,rfl⟩:=aH h;clear h Z J hu;go_enter func210,ntmps210;exact ub8
theorem mP {K:Act->World->Prop} {a:Act} {w:World} (h:∀W:World,W=w->K a W):K a w:=h w rfl
theorem jY (B n u:Nat) (hu:u<100) (v:Value) (xs:List Value) (w:World) (h:w.ownsRow B 5 1 v n xs) (Z:B<=w.heap.size) (J:n<=1099511627776) :
  Calls prog 137 #[v,Mk u,Mk 10] w (zW w B n v xs u):=by
 have I:=jD (DU B n u hu v xs w h Z J);obtain⟨A,c,rfl⟩:=aH h;clear h Z J hu;go_enter func137,ntmps137;exact ub8
structure KS (w X:World) (v:Value) (T:List UInt8) (ks:List (Nat × Int)):Prop where
 bel:Mm w X
 row:X.ownsRow w.heap.size 5 1 v T.length (Lib.byteCells T)
 blk:∀p∈ks,X.heap[p.1]?=some (.cells [Value.int .u8 p.2].toArray 5 (0,0))/\v.ownBlock≠some p.1
section
variable {w X Y : World} {v v' : Value} {T U : List UInt8} {ks : List (Nat × Int)}
theorem KS.alloc (h:KS w X v T ks) (c:Int):KS w (X.alloc (.cells [Value.int .u8 c].toArray 5)) v T ((X.heap.size,c)::ks) :=
 ⟨bt h.bel _,ao h.row (af X _),fun p hp=>by
  rcases List.mem_cons.1 hp with rfl|hp
  ·exact⟨Nr X _,fun e=>by have:=(ag h.row e).2;simp at this⟩
  ·exact⟨(Nz X _ p.1 (bC (h.blk p hp).1)).trans (h.blk p hp).1,(h.blk p hp).2⟩⟩
theorem KS.drew (h:KS w X v T ks):KS w X.drew v T ks:=⟨h.bel.drew,h.row,h.blk⟩
theorem KS.nil (h:KS w X v T ks):KS w X v T []:=⟨h.bel,h.row,by simp⟩
theorem KS.src (h:KS w X v T ks) {k:Nat} {c:Int} (hk:(k,c)∈ks):Src X (some ⟨k,0,none⟩) 1 1 [.int .u8 c] :=
 Iv (h.blk _ hk).1 rfl (by simp[Value.oneCell'])
theorem KS.grown (h:KS w X v T ks) (J:X.grownBy Y v.ownBlock) {n:Nat} {xs:List Value} (I:Y.ownsRow w.heap.size 5 1 v' n xs) (hn:n=U.length) (hx:xs=Lib.byteCells U) (hU:2<=U.length):KS w Y v' U ks:=by
 subst hn hx;exact⟨h.bel.trans (au J h.bel.size (fun g e=>(ag h.row e).1)),I,fun p hp=>by
  have G:=h.blk p hp;have O:=(J.block p.1 (bC G.1) (fun e=>G.2 e.symm)).trans G.1;refine⟨O,fun e=>?_⟩;rcases I.2 with ⟨_,h0⟩|⟨g,cap,cur,hv,_,z,hnc,hcm,hcs,htake⟩
  ·omega
  ·rw[hv]at e;have Z:g=p.1:=by simpa [Value.ownBlock] using e
   subst Z;rw[O]at z;injection z with z;injection z with z _ _;rw[<-z]at hcs;simp at hcs;omega⟩
theorem KS.other (h:KS w X v T ks) (O:X.grownBy Y v.ownBlock) {b:Nat} {cs:Array Value} {t:TypeId} (I:X.heap[b]?=some (.cells cs t (0,0))) (Z:t≠5):Y.heap[b]?=some (.cells cs t (0,0)):=by
 refine (O.block b (bC I) (fun e=>?_)).trans I;rcases h.row.2 with ⟨G,_⟩|⟨g,cap,cur,G,_,z,_⟩
 ·rw[G]at e;simp[Value.ownBlock]at e
 ·rw[G]at e;have:b=g:=by simpa [Value.ownBlock] using e
  subst this;rw[I]at z;injection z with z;injection z with _ J _;exact Z J
end
theorem ub7 {p:Prop} (h:p:=by
  refine hK.out _ _ (by exact ae X5.out 1) (fun z=>?_);clear hK K;refine tkH [8] ?_;refine wpAnyH_done kr (NoPanic.normal ?_) _;have hK:=K5.out.nil;clear z;go_wp2_with fail
  go_roundw
  case rel =>
   have e1:fb (s.take (k+1))=(((U++[(64:UInt8)])++N)++[(32:UInt8)]):=by rw[bK HX.out,ky,HU.out,HT.out,HN.out]
   refine⟨k+1,by omega,by go_num,jD ⟨by rw[e1];exact hK,?_⟩⟩;rw[e1];have:=G.out;simp only[Mw,MH];omega
  case measure=>simp[RowKit.intOf];omega):p:=h
theorem Bf (s:Bs) (v:Value) (w:World) (hs:fo w v s) (V':∀x∈s,(0<=x.1/\x.1<16)/\x.2<100) (hn:s.length<=1048576) (S':s≠[]) :
  Mn 86 #[v] w (.string ⟨(fb s).toArray⟩):=by
 obtain⟨A,c,rfl,h1,h2,P0⟩:=hs;have G1:=ay h1 h2;have HL:=jD P0;have A1:=jD V';have X':=List.length_pos_iff.2 S';clear P0 h1 h2 V' S';obtain⟨i0,hi,x',A',z'⟩:=Np wy;go_enter func86,ntmps86;go_wp2_with fail
 go_loopw [3,8] (fun out i wr=>∃k:Nat,k<=s.length/\i=Mk k/\Hid (KS w wr out (fb (s.take k)) []/\(fb (s.take k)).length<=6*k)) (fun _ i _=>s.length-(RowKit.intOf i).toNat)
 case atStart=>exact⟨0,Mu _,rfl,jD ⟨⟨Mr _ _,⟨rfl,.inl ⟨rfl,rfl⟩⟩,by simp⟩,by simp[fb]⟩⟩
 case round =>
  obtain⟨k,hk,rfl,hI⟩:=hrel
  by_cases Y0:k<s.length
  ·have U0:(k:Int)<(s.length:Int):=by omega
   obtain⟨x,hx⟩:∃x,s[k]?=some x:=⟨_,Mq Y0⟩;obtain⟨b,o,rfl,c0,c1⟩:=HL.out k x hx;have N':=hI.out.1.bel;replace c0:=aa N' c0;replace c1:=aa N' c1;have Q0:=A1.out x (MI hx);obtain⟨j,hj⟩:∃j:Nat,x.1=(j:Int):=⟨x.1.toNat,by omega⟩;obtain⟨q,hq⟩:=jF x.2;have HX:=jD (show s[k]?=some ((j:Int),q) by rw[hx,<-hj,hq]);rw[hj]at c0;rw[<-hq]at c1;have H':j<100:=by omega
   have j':q<100:=by omega
   have R1:b<wr.heap.size:=Ms wr ⟨b,_,none⟩ c0;have S0:b≠wr.heap.size:=by omega
   have R0:wr.heap.size≠b:=by omega
   clear hx Q0 hj hq;obtain⟨Ao,co,Z0⟩:=aH hI.out.1.row;subst Z0;obtain⟨T,hT⟩:=jF (fb (s.take k));have t':=hI.out;rw[<-hT]at t' ⊢;have HI:=jD t';have M1:=t'.2;have HT:=jD hT;clear hI t' hT;obtain⟨tl,U1⟩:∃n,n=T.length:=⟨_,rfl⟩;go_wp2_with fail;refine aI fun W9 e9=>?_
   have J':Mm wr W9:=gb e9;obtain⟨X,hX⟩:=jF wr.heap.size;have T':W9.heap[X]?=some (.cells [Value.int .i64 (j:Int),.int .i64 (q:Int)].toArray 124 (0,0)):=by rw[e9,hX];exact ax _ _ _ rfl
   have s':=ao HI.out.1.row J';have Z':KS w W9 (.slice Ao T.length co) T []:=⟨ab N' J',s',by simp⟩;have F':=jD Z';rw[<-hX];have V1:=jD hX;clear e9 J' c0 c1 S0 R0 hX;refine (jY w.heap.size T.length j H' _ _ W9 s' F'.out.bel.size om).mono ?_;rintro e w3 ⟨v3,rfl,D',I'⟩;have P1:=jP H';have E1:=jP j';have T1:=yP (j:Int);have F1:=yP (q:Int);obtain⟨U,hU⟩:=jF (T++itoa (j:Int));have H0:U.length=T.length+(itoa (j:Int)).length:=by rw[hU];exact Mw
   have R':=F'.out.other I' T' dc;have O':KS w w3 v3 U []:=⟨F'.out.bel.trans (au I' F'.out.bel.size (fun g e=>(ag s' e).1)),by rw[H0,hU,Lib.byteCells_append];exact D',by simp⟩;obtain⟨A3,c3,h3⟩:=aH O'.row;subst h3;have K0:=jD O';have X0:Hid (w3.heap[X]?=some (.cells [Value.int .i64 (j:Int),.int .i64 (q:Int)].toArray 124 (0,0))):=jD R';have q1:w3.cell? ⟨X,1,none⟩=some (Mk (q:Int)):=by rw[ae R'];rfl
   have HU:=jD hU;obtain⟨N,hN⟩:=jF (itoa (q:Int));rw[<-hN]at E1 F1;have HN:=jD hN;clear I' D' s' T' R' O' hU Z' hN;obtain⟨ul,P'⟩:∃n,n=U.length:=⟨_,rfl⟩;have S1:1<=ul/\ul<=6*k+2:=by omega
   rw[<-P']at K0 ⊢;have G:=jD P';clear P' H0;go_wp2_with fail;refine wp_region_noPanic ?_;refine wp_region_held_drew (S:=(fun W:World=>W.cell? ⟨X,1,none⟩=some (Mk (q:Int)))) kr (by rw[show w3.drew.cell? ⟨X,1,none⟩=w3.cell? ⟨X,1,none⟩ from rfl];exact q1) (fun z=>?_);refine tkH [0,3,4] ?_;refine wpAnyH_ready (rs:=[1,6]) kr jS ?_;refine AllReadyH.cons rfl (fun K hK=>?_) ?_
   focus
    rw[Mp kr]
    go_simp;refine mP fun g' r'=>?_;have K1:Hid (KS w g' (.slice A3 ul c3) U ((w3.heap.size,64)::[])):=jD (by rw[r'];first|exact (K0.out.alloc 64).drew|exact K0.out.alloc 64);have X1:Hid (g'.heap[X]?=some (.cells [Value.int .i64 (j:Int),.int .i64 (q:Int)].toArray 124 (0,0))):=jD (by rw[r'];exact (Nz _ _ X (bC X0.out)).trans X0.out);clear r'
    refine hK.out _ _ (by exact ae X1.out 1) (fun z=>?_);clear hK K
    try simp only[Act.put,NA,MZ,MY]
    refine wpAnyH_ready (rs:=[2,6]) kr jS ?_;refine AllReadyH.cons rfl (fun K hK=>?_) ?_
    focus
     rw[Mp kr]
     focus ((try (change Oper.wp _ _ _ _ _ _));refine eG _ (.tmp 16) (.tmp 17) 219 rfl w.heap.size 5 i0 _ 1 1 underlying219 hi x' A' z' rfl dc (.slice A3 ul c3) ul (Lib.byteCells U) jR (by have h:=K1.out.row;rw[show (U).length=ul by have:=G.out;(try simp only[Mw,MH]);omega]at h;exact h) (some ⟨w3.heap.size,0,none⟩) 1 1 [.int .u8 64] jR (K1.out.src jS) (by unfold maxLen;omega) om K1.out.bel.size ?_;intro G' h' u' y' C';have K2:Hid (KS w h' G' (U++[(64:UInt8)]) ((w3.heap.size,64)::[])):=jD (K1.out.grown y' u' (by have:=G.out;(try simp only[Mw,MH]);omega) (by simp only[Lib.byteCells_append];rfl) (by have:=G.out;(try simp only[Mw,MH]);omega));have X2:Hid (h'.heap[X]?=some (.cells [Value.int .i64 (j:Int),.int .i64 (q:Int)].toArray 124 (0,0))):=jD (K1.out.other y' X1.out dc);clear u' y' C')
     refine hK.out _ _ (by exact ae X2.out 1) (fun z=>?_);clear hK K
     try simp only[Act.put,NA,MZ,MY]
     refine wpAnyH_ready (rs:=[5,6]) kr jS ?_;refine AllReadyH.cons rfl (fun K hK=>?_) ?_
     focus
      rw[Mp kr]
      focus (go_simp;refine (jY w.heap.size (ul+1) q j' _ (Lib.byteCells (U++[(64:UInt8)])) h' (by have h:=K2.out.row;rw[show ((U++[(64:UInt8)])).length=(ul+1) by have:=G.out;(try simp only[Mw,MH]);omega]at h;exact h) K2.out.bel.size om).mono ?_;rintro e f' ⟨p',rfl,Z,c'⟩;rw[<-HN.out]at Z;have K3:Hid (KS w f' p' ((U++[(64:UInt8)])++N) ((w3.heap.size,64)::[])):=jD (K2.out.grown c' Z (by have:=G.out;(try simp only[Mw,MH]);omega) (by simp only[Lib.byteCells_append]) (by have:=G.out;(try simp only[Mw,MH]);omega));have X3:Hid (f'.heap[X]?=some (.cells [Value.int .i64 (j:Int),.int .i64 (q:Int)].toArray 124 (0,0))):=jD (K2.out.other c' X2.out dc);clear Z c')
      refine hK.out _ _ (by exact ae X3.out 1) (fun z=>?_);clear hK K
      try simp only[Act.put,NA,MZ,MY]
      refine nxH 6 (fun K hK=>?_)
      go_simp;refine mP fun q' E'=>?_;have K4:Hid (KS w q' (p') ((U++[(64:UInt8)])++N) ((f'.heap.size,32)::((w3.heap.size,64)::[]))):=jD (by rw[E'];first|exact (K3.out.alloc 32).drew|exact K3.out.alloc 32);have X4:Hid (q'.heap[X]?=some (.cells [Value.int .i64 (j:Int),.int .i64 (q:Int)].toArray 124 (0,0))):=jD (by rw[E'];exact (Nz _ _ X (bC X3.out)).trans X3.out);clear E'
      refine hK.out _ _ (by exact ae X4.out 1) (fun z=>?_);clear hK K;refine nxH 7 (fun K hK=>?_)
      focus ((try (change Oper.wp _ _ _ _ _ _));refine eG _ (.tmp 21) (.tmp 22) 219 rfl w.heap.size 5 i0 _ 1 1 underlying219 hi x' A' z' rfl dc (p') ((ul+1)+N.length) (Lib.byteCells ((U++[(64:UInt8)])++N)) jR (by have h:=K4.out.row;rw[show (((U++[(64:UInt8)])++N)).length=((ul+1)+N.length) by have:=G.out;(try simp only[Mw,MH]);omega]at h;exact h) (some ⟨f'.heap.size,0,none⟩) 1 1 [.int .u8 32] jR (K4.out.src jS) (by unfold maxLen;omega) om K4.out.bel.size ?_;intro n' k' I O d';have K5:Hid (KS w k' n' (((U++[(64:UInt8)])++N)++[(32:UInt8)]) ((f'.heap.size,32)::((w3.heap.size,64)::[]))):=jD (K4.out.grown O I (by have:=G.out;(try simp only[Mw,MH]);omega) (by simp only[Lib.byteCells_append];rfl) (by have:=G.out;(try simp only[Mw,MH]);omega));have X5:Hid (k'.heap[X]?=some (.cells [Value.int .i64 (j:Int),.int .i64 (q:Int)].toArray 124 (0,0))):=jD (K4.out.other O X4.out dc);clear I O d')
      exact ub7
     refine AllReadyH.cons rfl (fun K hK=>?_) ?_
     focus
      rw[Mp kr]
      go_simp;refine mP fun f' B'=>?_;have K3:Hid (KS w f' (G') (U++[(64:UInt8)]) ((h'.heap.size,32)::((w3.heap.size,64)::[]))):=jD (by rw[B'];first|exact (K2.out.alloc 32).drew|exact K2.out.alloc 32);have X3:Hid (f'.heap[X]?=some (.cells [Value.int .i64 (j:Int),.int .i64 (q:Int)].toArray 124 (0,0))):=jD (by rw[B'];exact (Nz _ _ X (bC X2.out)).trans X2.out);clear B'
      refine hK.out _ _ (by exact ae X3.out 1) (fun z=>?_);clear hK K
      try simp only[Act.put,NA,MZ,MY]
      refine nxH 5 (fun K hK=>?_)
      focus (go_simp;refine (jY w.heap.size (ul+1) q j' _ (Lib.byteCells (U++[(64:UInt8)])) f' (by have h:=K3.out.row;rw[show ((U++[(64:UInt8)])).length=(ul+1) by have:=G.out;(try simp only[Mw,MH]);omega]at h;exact h) K3.out.bel.size om).mono ?_;rintro e q' ⟨i',rfl,J,a'⟩;rw[<-HN.out]at J;have K4:Hid (KS w q' i' ((U++[(64:UInt8)])++N) ((h'.heap.size,32)::((w3.heap.size,64)::[]))):=jD (K3.out.grown a' J (by have:=G.out;(try simp only[Mw,MH]);omega) (by simp only[Lib.byteCells_append]) (by have:=G.out;(try simp only[Mw,MH]);omega));have X4:Hid (q'.heap[X]?=some (.cells [Value.int .i64 (j:Int),.int .i64 (q:Int)].toArray 124 (0,0))):=jD (K3.out.other a' X3.out dc);clear J a')
      refine hK.out _ _ (by exact ae X4.out 1) (fun z=>?_);clear hK K;refine nxH 7 (fun K hK=>?_)
      focus ((try (change Oper.wp _ _ _ _ _ _));refine eG _ (.tmp 21) (.tmp 22) 219 rfl w.heap.size 5 i0 _ 1 1 underlying219 hi x' A' z' rfl dc (i') ((ul+1)+N.length) (Lib.byteCells ((U++[(64:UInt8)])++N)) jR (by have h:=K4.out.row;rw[show (((U++[(64:UInt8)])++N)).length=((ul+1)+N.length) by have:=G.out;(try simp only[Mw,MH]);omega]at h;exact h) (some ⟨h'.heap.size,0,none⟩) 1 1 [.int .u8 32] jR (K4.out.src jS) (by unfold maxLen;omega) om K4.out.bel.size ?_;intro n' k' I O d';have K5:Hid (KS w k' n' (((U++[(64:UInt8)])++N)++[(32:UInt8)]) ((h'.heap.size,32)::((w3.heap.size,64)::[]))):=jD (K4.out.grown O I (by have:=G.out;(try simp only[Mw,MH]);omega) (by simp only[Lib.byteCells_append];rfl) (by have:=G.out;(try simp only[Mw,MH]);omega));have X5:Hid (k'.heap[X]?=some (.cells [Value.int .i64 (j:Int),.int .i64 (q:Int)].toArray 124 (0,0))):=jD (K4.out.other O X4.out dc);clear I O d')
      exact ub7
     exact AllReadyH.nil
    refine AllReadyH.cons rfl (fun K hK=>?_) ?_
    focus
     rw[Mp kr]
     go_simp;refine mP fun h' l'=>?_;have K2:Hid (KS w h' (.slice A3 ul c3) U ((g'.heap.size,32)::((w3.heap.size,64)::[]))):=jD (by rw[l'];first|exact (K1.out.alloc 32).drew|exact K1.out.alloc 32);have X2:Hid (h'.heap[X]?=some (.cells [Value.int .i64 (j:Int),.int .i64 (q:Int)].toArray 124 (0,0))):=jD (by rw[l'];exact (Nz _ _ X (bC X1.out)).trans X1.out);clear l'
     refine hK.out _ _ (by exact ae X2.out 1) (fun z=>?_);clear hK K
     try simp only[Act.put,NA,MZ,MY]
     refine nxH 2 (fun K hK=>?_)
     focus ((try (change Oper.wp _ _ _ _ _ _));refine eG _ (.tmp 16) (.tmp 17) 219 rfl w.heap.size 5 i0 _ 1 1 underlying219 hi x' A' z' rfl dc (.slice A3 ul c3) ul (Lib.byteCells U) jR (by have h:=K2.out.row;rw[show (U).length=ul by have:=G.out;(try simp only[Mw,MH]);omega]at h;exact h) (some ⟨w3.heap.size,0,none⟩) 1 1 [.int .u8 64] jR (K2.out.src jS) (by unfold maxLen;omega) om K2.out.bel.size ?_;intro p' f' Z c' m';have K3:Hid (KS w f' p' (U++[(64:UInt8)]) ((g'.heap.size,32)::((w3.heap.size,64)::[]))):=jD (K2.out.grown c' Z (by have:=G.out;(try simp only[Mw,MH]);omega) (by simp only[Lib.byteCells_append];rfl) (by have:=G.out;(try simp only[Mw,MH]);omega));have X3:Hid (f'.heap[X]?=some (.cells [Value.int .i64 (j:Int),.int .i64 (q:Int)].toArray 124 (0,0))):=jD (K2.out.other c' X2.out dc);clear Z c' m')
     refine hK.out _ _ (by exact ae X3.out 1) (fun z=>?_);clear hK K;refine nxH 5 (fun K hK=>?_)
     focus (go_simp;refine (jY w.heap.size (ul+1) q j' _ (Lib.byteCells (U++[(64:UInt8)])) f' (by have h:=K3.out.row;rw[show ((U++[(64:UInt8)])).length=(ul+1) by have:=G.out;(try simp only[Mw,MH]);omega]at h;exact h) K3.out.bel.size om).mono ?_;rintro e q' ⟨i',rfl,J,a'⟩;rw[<-HN.out]at J;have K4:Hid (KS w q' i' ((U++[(64:UInt8)])++N) ((g'.heap.size,32)::((w3.heap.size,64)::[]))):=jD (K3.out.grown a' J (by have:=G.out;(try simp only[Mw,MH]);omega) (by simp only[Lib.byteCells_append]) (by have:=G.out;(try simp only[Mw,MH]);omega));have X4:Hid (q'.heap[X]?=some (.cells [Value.int .i64 (j:Int),.int .i64 (q:Int)].toArray 124 (0,0))):=jD (K3.out.other a' X3.out dc);clear J a')
     refine hK.out _ _ (by exact ae X4.out 1) (fun z=>?_);clear hK K;refine nxH 7 (fun K hK=>?_)
     focus ((try (change Oper.wp _ _ _ _ _ _));refine eG _ (.tmp 21) (.tmp 22) 219 rfl w.heap.size 5 i0 _ 1 1 underlying219 hi x' A' z' rfl dc (i') ((ul+1)+N.length) (Lib.byteCells ((U++[(64:UInt8)])++N)) jR (by have h:=K4.out.row;rw[show (((U++[(64:UInt8)])++N)).length=((ul+1)+N.length) by have:=G.out;(try simp only[Mw,MH]);omega]at h;exact h) (some ⟨g'.heap.size,0,none⟩) 1 1 [.int .u8 32] jR (K4.out.src jS) (by unfold maxLen;omega) om K4.out.bel.size ?_;intro n' k' I O d';have K5:Hid (KS w k' n' (((U++[(64:UInt8)])++N)++[(32:UInt8)]) ((g'.heap.size,32)::((w3.heap.size,64)::[]))):=jD (K4.out.grown O I (by have:=G.out;(try simp only[Mw,MH]);omega) (by simp only[Lib.byteCells_append];rfl) (by have:=G.out;(try simp only[Mw,MH]);omega));have X5:Hid (k'.heap[X]?=some (.cells [Value.int .i64 (j:Int),.int .i64 (q:Int)].toArray 124 (0,0))):=jD (K4.out.other O X4.out dc);clear I O d')
     exact ub7
    exact AllReadyH.nil
   refine AllReadyH.cons rfl (fun K hK=>?_) ?_
   focus
    rw[Mp kr]
    go_simp;refine mP fun g' r'=>?_;have K1:Hid (KS w g' (.slice A3 ul c3) U ((w3.heap.size,32)::[])):=jD (by rw[r'];first|exact (K0.out.alloc 32).drew|exact K0.out.alloc 32);have X1:Hid (g'.heap[X]?=some (.cells [Value.int .i64 (j:Int),.int .i64 (q:Int)].toArray 124 (0,0))):=jD (by rw[r'];exact (Nz _ _ X (bC X0.out)).trans X0.out);clear r'
    refine hK.out _ _ (by exact ae X1.out 1) (fun z=>?_);clear hK K
    try simp only[Act.put,NA,MZ,MY]
    refine nxH 1 (fun K hK=>?_)
    go_simp;refine mP fun h' l'=>?_;have K2:Hid (KS w h' (.slice A3 ul c3) U ((g'.heap.size,64)::((w3.heap.size,32)::[]))):=jD (by rw[l'];first|exact (K1.out.alloc 64).drew|exact K1.out.alloc 64);have X2:Hid (h'.heap[X]?=some (.cells [Value.int .i64 (j:Int),.int .i64 (q:Int)].toArray 124 (0,0))):=jD (by rw[l'];exact (Nz _ _ X (bC X1.out)).trans X1.out);clear l'
    refine hK.out _ _ (by exact ae X2.out 1) (fun z=>?_);clear hK K;refine nxH 2 (fun K hK=>?_)
    focus ((try (change Oper.wp _ _ _ _ _ _));refine eG _ (.tmp 16) (.tmp 17) 219 rfl w.heap.size 5 i0 _ 1 1 underlying219 hi x' A' z' rfl dc (.slice A3 ul c3) ul (Lib.byteCells U) jR (by have h:=K2.out.row;rw[show (U).length=ul by have:=G.out;(try simp only[Mw,MH]);omega]at h;exact h) (some ⟨g'.heap.size,0,none⟩) 1 1 [.int .u8 64] jR (K2.out.src jS) (by unfold maxLen;omega) om K2.out.bel.size ?_;intro p' f' Z c' m';have K3:Hid (KS w f' p' (U++[(64:UInt8)]) ((g'.heap.size,64)::((w3.heap.size,32)::[]))):=jD (K2.out.grown c' Z (by have:=G.out;(try simp only[Mw,MH]);omega) (by simp only[Lib.byteCells_append];rfl) (by have:=G.out;(try simp only[Mw,MH]);omega));have X3:Hid (f'.heap[X]?=some (.cells [Value.int .i64 (j:Int),.int .i64 (q:Int)].toArray 124 (0,0))):=jD (K2.out.other c' X2.out dc);clear Z c' m')
    refine hK.out _ _ (by exact ae X3.out 1) (fun z=>?_);clear hK K;refine nxH 5 (fun K hK=>?_)
    focus (go_simp;refine (jY w.heap.size (ul+1) q j' _ (Lib.byteCells (U++[(64:UInt8)])) f' (by have h:=K3.out.row;rw[show ((U++[(64:UInt8)])).length=(ul+1) by have:=G.out;(try simp only[Mw,MH]);omega]at h;exact h) K3.out.bel.size om).mono ?_;rintro e q' ⟨i',rfl,J,a'⟩;rw[<-HN.out]at J;have K4:Hid (KS w q' i' ((U++[(64:UInt8)])++N) ((g'.heap.size,64)::((w3.heap.size,32)::[]))):=jD (K3.out.grown a' J (by have:=G.out;(try simp only[Mw,MH]);omega) (by simp only[Lib.byteCells_append]) (by have:=G.out;(try simp only[Mw,MH]);omega));have X4:Hid (q'.heap[X]?=some (.cells [Value.int .i64 (j:Int),.int .i64 (q:Int)].toArray 124 (0,0))):=jD (K3.out.other a' X3.out dc);clear J a')
    refine hK.out _ _ (by exact ae X4.out 1) (fun z=>?_);clear hK K;refine nxH 7 (fun K hK=>?_)
    focus ((try (change Oper.wp _ _ _ _ _ _));refine eG _ (.tmp 21) (.tmp 22) 219 rfl w.heap.size 5 i0 _ 1 1 underlying219 hi x' A' z' rfl dc (i') ((ul+1)+N.length) (Lib.byteCells ((U++[(64:UInt8)])++N)) jR (by have h:=K4.out.row;rw[show (((U++[(64:UInt8)])++N)).length=((ul+1)+N.length) by have:=G.out;(try simp only[Mw,MH]);omega]at h;exact h) (some ⟨w3.heap.size,0,none⟩) 1 1 [.int .u8 32] jR (K4.out.src jS) (by unfold maxLen;omega) om K4.out.bel.size ?_;intro n' k' I O d';have K5:Hid (KS w k' n' (((U++[(64:UInt8)])++N)++[(32:UInt8)]) ((g'.heap.size,64)::((w3.heap.size,32)::[]))):=jD (K4.out.grown O I (by have:=G.out;(try simp only[Mw,MH]);omega) (by simp only[Lib.byteCells_append];rfl) (by have:=G.out;(try simp only[Mw,MH]);omega));have X5:Hid (k'.heap[X]?=some (.cells [Value.int .i64 (j:Int),.int .i64 (q:Int)].toArray 124 (0,0))):=jD (K4.out.other O X4.out dc);clear I O d')
    exact ub7
   exact AllReadyH.nil
  ·have U0:¬(k:Int)<(s.length:Int):=by omega
   have Y':k=s.length:=by omega
   have t':=hI.out;rw[Y',Nq]at t';have HI:=jD t';clear hI t' Y';have V0:0<(fb s).length:=by
    cases s with
    | nil=>simp at X'
    | cons a r=>rw[fb];simp;omega
   obtain⟨g,cap,spare,rfl,-,U',-,-⟩:=mr HI.out.1.row V0;have Q1:=run_convert_bytes_back (P:=prog) wr 219 9 5 ⟨g,0,none⟩ cap (fb s) underlying219 underlying5 underlying9 (fun j hj=>by
    rw[cN,MC,ae U',MQ (by simpa [Lib.byteCells] using hj)];simp[Lib.byteCells,hj])
   clear U';go_wp2;go_ret;exact⟨rfl,HI.out.1.bel⟩
end
end Go.Proofs.YtbjicljfjkdeeaaGreatDoor
