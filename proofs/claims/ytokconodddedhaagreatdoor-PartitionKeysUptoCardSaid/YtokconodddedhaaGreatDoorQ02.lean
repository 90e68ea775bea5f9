/- Part. -/
import Derived.WalkSpells
import Derived.WalkLawsBesides
import Derived.Deep.QuietTactic
import Derived.BigQuiet
import Derived.Maps.AppendAt
import Derived.ProofKit
import Derived.Test.YtokconodddedhaaGreatDoorQ01
set_option maxRecDepth 100000
set_option maxHeartbeats 16000000
set_option linter.unusedVariables false
set_option linter.unusedSimpArgs false
namespace Go.Proofs.YtokconodddedhaaGreatDoor
open Go.Proofs.Tryz Go.RowKit
section
theorem aJ {w W:World} (h:KY w W) (o:Obj):KY w (W.alloc o):=h.alloc h.size o
theorem ab {w W w':World} (h:KY w W) (z:KY W w'):KY w w':=h.trans (z.mono h.size)
theorem aA {w W:World} (h:KY w W) {b i:Nat} (z:w.heap.size<=b) (v:Value):KY w (W.setCell ⟨b,i,none⟩ v):=h.setCell (p:=⟨b,i,none⟩) z v
abbrev Ent:=Nat × List Value × TypeId
structure St (w0 w:World) (L:List Ent):Prop where
 below:KY w0 w
 own:∀e∈L,w.heap[e.1]?=some (.cells e.2.1.toArray e.2.2 (0,0))/\w0.heap.size<=e.1
 apart:L.Pairwise (fun a b=>a.1≠b.1)
section
variable {w0 w w' : World} {L : List Ent}
theorem St.start (w:World):St w w []:=⟨La _ _,by simp,by simp⟩
theorem St.lt (h:St w0 w L) {e:Ent} (he:e∈L):e.1<w.heap.size:=by
 have:=(h.own e he).1;rcases LY e.1 w.heap.size with z|z
 ·exact z
 ·rw[MY z]at this;cases this
theorem St.alloc (h:St w0 w L) (cs:List Value) (t:TypeId):St w0 (w.alloc (.cells cs.toArray t)) ((w.heap.size,cs,t)::L):=by
 refine⟨h.below.alloc h.below.size _,?_,?_⟩
 ·intro e he;rcases List.mem_cons.1 he with rfl|he
  ·exact⟨Mp w _,h.below.size⟩
  ·exact⟨(Mq w _ e.1 (h.lt he)).trans (h.own e he).1,(h.own e he).2⟩
 ·refine List.Pairwise.cons ?_ h.apart;intro e he;have:=h.lt he;simp only[LP];omega
theorem St.drew (h:St w0 w L):St w0 w.drew L:=⟨h.below.drew,h.own,h.apart⟩
theorem St.call (h:St w0 w L) (z:KY w w'):St w0 w' L :=
 ⟨h.below.trans (z.mono h.below.size),fun e he=>⟨(z.block e.1 (h.lt he)).trans (h.own e he).1,(h.own e he).2⟩,h.apart⟩
theorem St.cell (h:St w0 w L) {b:Nat} {cs:List Value} {t:TypeId} (he:(b,cs,t)∈L) (i:Nat):w.cell? ⟨b,i,none⟩=cs[i]?:=by
 have:=(h.own _ he).1;simp[World.cell?,this]
theorem St.frozen (h:St w0 w L) {b:Nat} {cs:List Value} {t:TypeId} (he:(b,cs,t)∈L) (i:Nat):w.frozen? ⟨b,i,none⟩=false:=by
 have:=(h.own _ he).1;simp[World.frozen?,this]
theorem St.set (h:St w0 w L) (k:Nat) {b:Nat} {cs:List Value} {t:TypeId} (he:L[k]?=some (b,cs,t)) (i:Nat) (v:Value) :
  St w0 (w.setCell ⟨b,i,none⟩ v) (L.set k (b,cs.set i v,t)):=by
 have hk:k<L.length:=(List.getElem?_eq_some_iff.1 he).1;have hm:(b,cs,t)∈L:=Li he;refine⟨h.below.setCell (h.own _ hm).2 v,?_,?_⟩
 ·intro e F;rcases List.mem_iff_getElem?.1 F with ⟨j,z⟩;rw[List.getElem?_set]at z
  by_cases D:k=j
  ·subst D;simp only[Mo,hk]at z;injection z with z;subst z;refine⟨?_,(h.own _ hm).2⟩;have:=(h.own _ hm).1;simp[World.setCell,Nx,this]
  ·rw[K6 D]at z;have Z:e∈L:=Li z;have a':e.1≠b:=by
    have hp:=List.pairwise_iff_getElem.1 h.apart;obtain⟨J,O⟩:=List.getElem?_eq_some_iff.1 z;obtain⟨_,I⟩:=List.getElem?_eq_some_iff.1 he;rcases Nat.lt_or_gt_of_ne D with G|G
    ·have:=hp k j hk J G;rw[I,O]at this;exact fun x=>this x.symm
    ·have:=hp j k J hk G;rw[I,O]at this;exact this
   exact⟨(LB w _ v e.1 a').trans (h.own e Z).1,(h.own e Z).2⟩
 ·have:∀(M:List Ent) (k:Nat),M[k]?=some (b,cs,t)->M.Pairwise (fun a b=>a.1≠b.1)->(M.set k (b,cs.set i v,t)).Pairwise (fun a b=>a.1≠b.1):=by
   intro M
   induction M with
   | nil=>intro k hk _;simp at hk
   | cons x M ih =>
    intro k hk hp;rw[MZ]at hp
    cases k with
    | zero =>
     simp only[LE,Nn]at hk;subst hk;simp only[Lj];exact List.pairwise_cons.2 hp
    | succ k =>
     simp only[LC]at hk;simp only[Lk];refine List.pairwise_cons.2 ⟨?_,ih k hk hp.2⟩;intro e F;rcases List.mem_iff_getElem?.1 F with ⟨j,z⟩;rw[List.getElem?_set]at z
     by_cases D:k=j
     ·subst D;have b':k<M.length:=(List.getElem?_eq_some_iff.1 hk).1;simp only[Mo,b']at z;injection z with z;subst z;exact (hp.1 _ (Li hk):x.1≠b)
     ·rw[K6 D]at z;exact hp.1 _ (Li z)
  exact this L k he h.apart
theorem St.sub (h:St w0 w L) {M:List Ent} (hs:List.Sublist M L):St w0 w M :=
 ⟨h.below,fun e he=>h.own e (hs.subset he),h.apart.sublist hs⟩
end
theorem aa {w w':World} (z:KY w w') {b p:Nat} {v:Value} (h:w.cell? ⟨b,p,none⟩=some v):w'.cell? ⟨b,p,none⟩=some v :=
 (z.cell (p:=⟨b,p,none⟩) (K8 w ⟨b,p,none⟩ h)).trans h
structure Cls (w:World) (F:World->Prop) where
 W:World
 bel:KY w W
 has:F W
def Grows (F:World->Prop):Prop:=∀h z:World,KY h z->F h->F z
theorem bF {P:Program} {id:Nat} {Q:Exit->Act->World->Prop} {a:Act} {w:World} {l:List Oper} (F:World->Prop) (G:Grows F) (hm:P.follows .mixedOrders=true) (z:Region.lexB .any l.toArray=true)
  (hF:F w) (h:Nonempty (Cls w F)->(∀x:Cls w F,F x.W)->wpQuiet P l.toArray (fun w'=>∃x:Cls w F,w'=x.W) (fun D=>∀w',(∃x:Cls w F,w'=x.W)->Q .normal D w') l a):(Code.region id l.toArray true).wp P Q a w :=
 wp_region_quiet (C:=fun w'=>∃x:Cls w F,w'=x.W) hm z ⟨⟨w.drew,(La _ w).drew,G _ _ (La _ w).drew hF⟩,rfl⟩ (by simpa using h ⟨w,La _ _,hF⟩ fun x=>x.has)
theorem fj {P:Program} {f:FuncId} {args:Array Value} {w:World} {F:World->Prop} (G:Grows F) {x:Cls w F} {v:Value}
  (h:Calls P f args x.W fun e w'=>e=.returned v/\Below x.W.heap.size x.W w'):Calls P f args x.W fun e z=>e=.returned v/\∃y:Cls w F,z=y.W :=
 h.mono fun _ z ⟨he,D⟩=>⟨he,⟨z,ab x.bel D,G _ _ D x.has⟩,rfl⟩
theorem aG (b p:Nat) (v:Value):Grows fun w=>w.cell? ⟨b,p,none⟩=some v:=fun _ _ z h=>aa z h
theorem aN {F G:World->Prop} (hF:Grows F) (D:Grows G):Grows fun w=>F w/\G w:=fun _ _ z h=>⟨hF _ _ z h.1,D _ _ z h.2⟩
theorem aH:Grows fun _=>True:=fun _ _ _ h=>h
end
section
def Cells (w:World) (b o:Nat) (cs:List Value):Prop:=∀(j:Nat) (u:Value),cs[j]?=some u->w.cell? ⟨b,o+j,none⟩=some u
theorem Cells.stays {w w':World} {b o:Nat} {cs:List Value} (h:Cells w b o cs) (D:KY w w'):Cells w' b o cs:=fun j u z=>aa D (h j u z)
def Src (w:World) (A:Option Addr) (n sz:Nat) (cs:List Value):Prop :=
 cs.length=n*sz/\(∀u∈cs,u.oneCell'=true)/\(0<n->∃b o,A=some ⟨b,o,none⟩/\Cells w b o cs)
theorem Src.stays {w w':World} {A:Option Addr} {n sz:Nat} {cs:List Value} (h:Src w A n sz cs) (G:KY w w'):Src w' A n sz cs :=
 ⟨h.1,h.2.1,fun z=>by obtain⟨b,o,F,D⟩:=h.2.2 z;exact⟨b,o,F,D.stays G⟩⟩
theorem Src.nil (w:World) (A:Option Addr) (sz:Nat):Src w A 0 sz []:=⟨by simp,by simp,fun h=>absurd h om⟩
theorem fZ (b o j:Nat):(⟨b,o,none⟩:Addr).add j=⟨b,o+j,none⟩:=by unfold Addr.add;split<;>simp_all
section
variable {P : Program} (w : World)
theorem lG (base:Nat) (t ty e:TypeId) (i:TypeInfo) (z:Value) (size bytes:Nat) (ht:P.underlying t=some (.slice e)) (hi:P.info? e=some i) (hz:i.zero=some z)
  (G:i.size=size) (b':i.bytes=bytes) (c':z.cells.size=size) (O:0<size)
  (v:Value) (n:Nat) (xs:List Value) (D:w.ownsRow base e size v n xs) (A:Option Addr) (m c:Nat) (news:List Value) (hs:Src w A m size news)
  (Z:n+m<=maxLen) (F:(n+m)*bytes<=140737488355328) (I:base<=w.heap.size) :
  ∃v' w',(Builtin.append_ #[t,t] ty #[v,.slice A m c]).run P w=.ok v' w'/\w'.ownsRow base e size v' (n+m) (xs++news)/\w.grownBy w' v.ownBlock /\
   (v'.ownBlock=v.ownBlock\/v'.ownBlock=some w.heap.size):=by
 obtain⟨h1,h2,h3⟩:=hs
 cases A with
 | none =>
  have hm:m=0:=by
   rcases No m with h|h
   ·exact h
   ·obtain⟨b,o,J,_⟩:=h3 h;cases J
  subst hm;have hn:news=[]:=L3 (jQ h1);subst hn;refine⟨v,w,?_,jQ D,World.grownBy.refl w _,.inl rfl⟩;rcases D.2 with ⟨rfl,rfl⟩|⟨g,cap,cur,rfl,_,_,hnc,_⟩
  ·simp[Builtin.append_,Ny ht,sizeOf,typeInfo,hi,Builtin.lenOf,Builtin.firstCells]
  ·simp[Builtin.append_,Ny ht,sizeOf,typeInfo,hi,Builtin.lenOf,Builtin.firstCells,hnc,storeCells]
 | some ad =>
  have hc:∀(j:Nat) (u:Value),news[j]?=some u->w.cell? (ad.add j)=some u:=by
   intro j u hj;rcases No m with h|h
   ·subst h;have hn:news=[]:=L3 (jQ h1);subst hn;simp at hj
   ·obtain⟨b,o,J,a'⟩:=h3 h;injection J with J;subst J;rw[fZ];exact a' j u hj
  obtain⟨v',w',hr,ho,hg,_,hl⟩:=run_append_own_at (P:=P) w base t ty e i z size bytes ht hi hz G b' c' O v n xs D ad m c news h1 hc h2 Z F I;exact⟨v',w',hr,ho,hg,hl⟩
theorem aR {ops:Array Oper} {rest:List Oper} {o:Oper} {a:Act} {Q:Exit->Act->World->Prop} (b':o.guard=none) (s x:Operand) (t:TypeId)
  (ho:o.op=.call { callee:=.builtin .append,args:=#[s,x],argTypes:=#[t,t] })
  (base:Nat) (e:TypeId) (i:TypeInfo) (z:Value) (size bytes:Nat) (ht:P.underlying t=some (.slice e)) (hi:P.info? e=some i) (hz:i.zero=some z)
  (F:i.size=size) (c':i.bytes=bytes) (d':z.cells.size=size) (Z:0<size)
  (v:Value) (n:Nat) (xs:List Value) (hs:a.eval s=v) (O:w.ownsRow base e size v n xs)
  (A:Option Addr) (m c:Nat) (news:List Value) (hx:a.eval x=.slice A m c) (J:Src w A m size news)
  (a':n+m<=maxLen) (D:(n+m)*bytes<=140737488355328) (G:base<=w.heap.size)
  (h:∀v' w',w'.ownsRow base e size v' (n+m) (xs++news)->w.grownBy w' v.ownBlock->(v'.ownBlock=v.ownBlock\/v'.ownBlock=some w.heap.size)->wpList P ops Q rest (a.put o.dst v') w'):wpList P ops Q (o::rest) a w :=
 wpList_plain b' fun _ hK=>by
  obtain⟨v',w',I,h2,h3,h4⟩:=lG (P:=P) w base t o.type e i z size bytes ht hi hz F c' d' Z v n xs O A m c news J a' D G;unfold Oper.wp execOp;simp only[ho,resolve,invoke,builtin,Sem.run_bind,Sem.run_pure,Result.andThen_ok,List.map_toArray,LF,MD,hs,hx,I];exact hK _ _ (h v' w' h2 h3 h4)
end
theorem rN (w:World) (base:Nat) (e:TypeId) (size:Nat) (h:base<=w.heap.size):(w.alloc (.cells #[] e)).ownsRow base e size (.slice (some ⟨w.heap.size,0,none⟩) 0 0) 0 [] :=
 ⟨by simp,.inr ⟨w.heap.size,0,#[],rfl,h,Mp w _,Ld _,Lb _,by simp,by simp⟩⟩
theorem mE {w:World} {base z:Nat} {e:TypeId} {size:Nat} {v:Value} {n:Nat} {xs:List Value} (h:w.ownsRow base e size v n xs) (F:z<=base):w.ownsRow z e size v n xs:=by
 refine⟨h.1,?_⟩;rcases h.2 with D|⟨g,cap,cur,hv,hg,r⟩
 ·exact .inl D
 ·exact .inr ⟨g,cap,cur,hv,by omega,r⟩
theorem aT {w w':World} {base:Nat} {e:TypeId} {size:Nat} {v:Value} {n:Nat} {xs:List Value} (h:w.ownsRow base e size v n xs) (hk:∀g,v.ownBlock=some g->w'.heap[g]?=w.heap[g]?):w'.ownsRow base e size v n xs:=by
 refine⟨h.1,?_⟩;rcases h.2 with z|⟨g,cap,cur,hv,hg,hh,r⟩
 ·exact .inl z
 ·exact .inr ⟨g,cap,cur,hv,hg,by rw[hk g (by rw[hv];rfl)];exact hh,r⟩
theorem ah {w:World} {base:Nat} {e:TypeId} {size:Nat} {v:Value} {n:Nat} {xs:List Value} (h:w.ownsRow base e size v n xs) {g:Nat} (D:v.ownBlock=some g):base<=g/\g<w.heap.size:=by
 rcases h.2 with ⟨rfl,_⟩|⟨g',cap,cur,rfl,hb,hh,_⟩
 ·simp[Value.ownBlock]at D
 ·have:g'=g:=by simpa [Value.ownBlock] using D
  subst this;refine⟨hb,?_⟩;rcases LY g' w.heap.size with z|z
  ·exact z
  ·rw[MY z]at hh;cases hh
theorem aj {w w':World} {base:Nat} {e:TypeId} {size:Nat} {v:Value} {n:Nat} {xs:List Value} (h:w.ownsRow base e size v n xs) (D:KY w w'):w'.ownsRow base e size v n xs :=
 aT h fun g z=>D.block g (ah h z).2
theorem cU {w:World} {base:Nat} {e:TypeId} {size:Nat} {v:Value} {n:Nat} {xs:List Value} (h:w.ownsRow base e size v n xs) (D:∀u∈xs,u.oneCell'=true) :
  ∃A c,v=.slice A n c/\n<=c/\c<=maxLen/\Src w A n size xs:=by
 rcases h.2 with ⟨rfl,rfl⟩|⟨g,cap,cur,rfl,hb,hh,hn,hm,hcs,ht⟩
 ·have:xs=[]:=L3 (jQ h.1);subst this;exact⟨none,0,rfl,Ld _,Lb _,Src.nil _ _ _⟩
 ·refine⟨_,_,rfl,hn,hm,h.1,D,fun _=>⟨g,0,rfl,fun j u z=>?_⟩⟩;have:=h.cells (g:=g) rfl j u z
  rwa [fZ]at this
theorem am {w w':World} {row:Option Nat} (h:w.grownBy w' row) {B:Nat} (z:B<=w.heap.size) (hr:∀g,row=some g->B<=g):Below B w w' :=
 ⟨h.os,h.tape,h.output,h.size,fun k hk=>h.block k om (fun e=>by have:=hr k e.symm;omega)⟩
end
section
def Sl {α:Type} (R:World->Nat->Nat->α->Prop) (sz:Nat) (w:World) (v:Value) (l:List α):Prop :=
 ∃A c,v=.slice A l.length c/\l.length<=c/\c<=maxLen/\∀k x,l[k]?=some x->∃b o,A=some ⟨b,o,none⟩/\R w b (o+k*sz) x
def gG {α:Type} (R:World->Nat->Nat->α->Prop):Prop:=∀w w' b p x,KY w w'->R w b p x->R w' b p x
theorem Sl.stays {α:Type} {R:World->Nat->Nat->α->Prop} {sz:Nat} {w w':World} {v:Value} {l:List α} (h:Sl R sz w v l) (O:gG R) (G:KY w w'):Sl R sz w' v l:=by
 obtain⟨A,c,J,F,Z,D⟩:=h;refine⟨A,c,J,F,Z,fun k x hk=>?_⟩;obtain⟨b,o,I,z⟩:=D k x hk;exact⟨b,o,I,O _ _ _ _ _ G z⟩
theorem Sl.nil {α:Type} (R:World->Nat->Nat->α->Prop) (sz:Nat) (w:World) (A:Option Addr) (c:Nat) (h:c<=maxLen):Sl R sz w (.slice A 0 c) ([]:List α) :=
 ⟨A,c,rfl,by simp,h,by simp⟩
def Ju (w:World) (b p:Nat) (x:Int):Prop:=w.cell? ⟨b,p,none⟩=some (KW x)
abbrev yQ (w:World) (v:Value) (l:List Int):Prop:=Sl Ju 1 w v l
def SlAt {α:Type} (R:World->Nat->Nat->α->Prop) (sz:Nat) (w:World) (b o:Nat) (l:List α):Prop:=∀(k:Nat) (x:α),l[k]?=some x->R w b (o+k*sz) x
def Means {α:Type} (R:World->Nat->Nat->α->Prop) (sz:Nat) (w:World) (cs:List Value) (l:List α):Prop :=
 cs.length=l.length*sz/\(∀u∈cs,u.oneCell'=true)/\∀(W:World) (b o:Nat),KY w W->Cells W b o cs->SlAt R sz W b o l
def pi {α:Type} (R:World->Nat->Nat->α->Prop) (sz:Nat):Prop :=
 ∀(w:World) (b p:Nat) (x:α),R w b p x->∃cs:List Value,cs.length=sz/\(∀u∈cs,u.oneCell'=true)/\Cells w b p cs/\∀(W:World) (h z:Nat),KY w W->Cells W h z cs->R W h z x
section
variable {α : Type} {R : World -> Nat -> Nat -> α -> Prop} {sz : Nat} {w : World}
theorem Cells.left {b o:Nat} {cs ds:List Value} (h:Cells w b o (cs++ds)):Cells w b o cs:=fun j u z =>
 h j u (by rw[LR (List.getElem?_eq_some_iff.1 z).1];exact z)
theorem Cells.right {b o:Nat} {cs ds:List Value} (h:Cells w b o (cs++ds)):Cells w b (o+cs.length) ds:=fun j u z=>by
 have:=h (cs.length+j) u (by rw[Mf om];simpa using z)
 rwa [show o+cs.length+j=o+(cs.length+j) by omega]
theorem Cells.app {b o:Nat} {cs ds:List Value} (D:Cells w b o cs) (F:Cells w b (o+cs.length) ds):Cells w b o (cs++ds):=fun j u z=>by
 rcases LY j cs.length with h|h
 ·rw[LR h]at z;exact D j u z
 ·rw[Mf h]at z;have:=F (j-cs.length) u z
  rwa [show o+cs.length+(j-cs.length)=o+j by omega]at this
theorem Means.nil:Means R sz w [] ([]:List α):=⟨by simp,by simp,fun _ _ _ _ _ k x h=>by simp at h⟩
theorem Means.app {cs ds:List Value} {l m:List α} (z:Means R sz w cs l) (D:Means R sz w ds m):Means R sz w (cs++ds) (l++m):=by
 refine⟨by rw[Le,z.1,D.1,Le,Nat.add_mul],?_,?_⟩
 ·intro u hu;rcases List.mem_append.1 hu with h|h
  ·exact z.2.1 u h
  ·exact D.2.1 u h
 ·intro W b o G F k x hk;rcases LY k l.length with h|h
  ·rw[LR h]at hk;exact z.2.2 W b o G F.left k x hk
  ·rw[Mf h]at hk;have:=D.2.2 W b _ G F.right (k-l.length) x hk;rw[z.1]at this
   rwa [show o+l.length*sz+(k-l.length)*sz=o+k*sz by rw[LJ,<-Nat.add_mul];congr 2;omega]at this
theorem SlAt.tail {b o:Nat} {x:α} {l:List α} (h:SlAt R sz w b o (x::l)):SlAt R sz w b (o+sz) l:=fun k y hk=>by
 have:=h (k+1) y (jQ hk)
 rwa [show o+(k+1)*sz=o+sz+k*sz by rw[Nat.add_mul];omega]at this
theorem oc (D:pi R sz) {b:Nat}:∀(l:List α) (o:Nat),SlAt R sz w b o l->∃cs,Means R sz w cs l/\Cells w b o cs
 | [],_,_=>⟨[],Means.nil,fun j u h=>by simp at h⟩
 | x::l,o,h=>by
  obtain⟨cs,F,h2,O,h4⟩:=D w b o x (by simpa using h 0 x rfl);obtain⟨ds,I,z⟩:=oc D l (o+sz) h.tail;have J:Means R sz w cs [x]:=⟨by simp[F],h2,fun W Z o' hb G k y hk=>by
   cases k with
   | zero=>simp at hk;subst hk;simpa using h4 W Z o' hb G
   | succ k=>simp at hk⟩
  exact⟨cs++ds,J.app I,O.app (by rw[F];exact z)⟩
theorem im (O:pi R sz) {A:Option Addr} {n c:Nat} {l:List α} (h:Sl R sz w (.slice A n c) l):∃cs,Means R sz w cs l/\Src w A n sz cs/\n=l.length:=by
 obtain⟨A',c',hv,h1,h2,I⟩:=h;injection hv with D G Z;subst D G Z
 cases l with
 | nil=>exact⟨[],Means.nil,Src.nil _ _ _,rfl⟩
 | cons x l =>
  obtain⟨b,o,z,_⟩:=I 0 x rfl;subst z;have F:SlAt R sz w b o (x::l):=fun k y hk=>by
   obtain⟨b',o',z,hR⟩:=I k y hk;injection z with z;injection z with D G;subst D G;exact hR
  obtain⟨cs,hm,J⟩:=oc O _ o F;exact⟨cs,hm,⟨hm.1,hm.2.1,fun _=>⟨b,o,rfl,J⟩⟩,rfl⟩
theorem dC {W:World} {base e:Nat} {v:Value} {cs:List Value} {l:List α} (hm:Means R sz w cs l) (J:KY w W) (G:W.ownsRow base e sz v l.length cs):Sl R sz W v l:=by
 obtain⟨A,c,rfl,D,I,z⟩:=cU G hm.2.1;refine⟨A,c,rfl,D,I,fun k x hk=>?_⟩;obtain⟨b,o,F,h⟩:=z.2.2 (by have:=(List.getElem?_eq_some_iff.1 hk).1;omega);exact⟨b,o,F,hm.2.2 W b o J h k x hk⟩
theorem Means.later {w':World} {cs:List Value} {l:List α} (hm:Means R sz w cs l) (h:KY w w'):Means R sz w' cs l :=
 ⟨hm.1,hm.2.1,fun W b o D z=>hm.2.2 W b o (ab h D) z⟩
end
theorem fK {α:Type} {R:World->Nat->Nat->α->Prop} {sz:Nat} {w:World} {v:Value} {l:List α} (h:Sl R sz w v l):v.oneCell'=true:=by
 obtain⟨A,c,rfl,_⟩:=h;rfl
theorem af {W:World} {g t:Nat} {cs:List Value} (h:W.heap[g]?=some (.cells cs.toArray t (0,0))) (i:Nat):W.cell? ⟨g,i,none⟩=cs[i]?:=by simp[World.cell?,h]
theorem aq {W:World} {g t:Nat} {cs:List Value} (h:W.heap[g]?=some (.cells cs.toArray t (0,0))) (i:Nat):W.frozen? ⟨g,i,none⟩=false:=by simp[World.frozen?,h]
theorem aD {W:World} {g t:Nat} {cs:Array Value} (h:W.heap[g]?=some (.cells cs t (0,0))):g<W.heap.size:=by
 rcases LY g W.heap.size with z|z
 ·exact z
 ·rw[MY z]at h;cases h
theorem fx {W:World} {g t:Nat} {cs:List Value} (h:W.heap[g]?=some (.cells cs.toArray t (0,0))) (i:Nat) (v:Value):(W.setCell ⟨g,i,none⟩ v).heap[g]?=some (.cells (cs.set i v).toArray t (0,0)):=by
 simp[World.setCell,Nx,h]
theorem ag (w:World) (o:Obj):KY w (w.alloc o):=aJ (La _ _) o
theorem aY {w w':World} {cs:Array Value} {t:TypeId} (z:Below (w.alloc (.cells cs t)).heap.size (w.alloc (.cells cs t)) w'):(∀i,w'.cell? ⟨w.heap.size,i,none⟩=cs[i]?)/\(∀i,w'.frozen? ⟨w.heap.size,i,none⟩=false):=by
 have h:=(z.block w.heap.size jS).trans (Mp w _);exact⟨fun i=>by simp[World.cell?,h],fun i=>by simp[World.frozen?,h]⟩
theorem Bc (w:World) (cs:List Value) (t n sz:Nat) (h:cs.length=n*sz) (D:∀u∈cs,u.oneCell'=true):Src (w.alloc (.cells cs.toArray t)) (some ⟨w.heap.size,0,none⟩) n sz cs :=
 ⟨h,D,fun _=>⟨w.heap.size,0,rfl,fun j u z=>by rw[Lu,af (Mp w _)];exact z⟩⟩
theorem ay {w:World} {base e sz n:Nat} {v:Value} {xs:List Value} (h:w.ownsRow base e sz v n xs):∃A c,v=.slice A n c:=by
 rcases h.2 with ⟨rfl,rfl⟩|⟨g,cap,cur,rfl,_⟩
 ·exact⟨none,0,rfl⟩
 ·exact⟨_,_,rfl⟩
theorem aX {α:Type} {l:List α} {k:Nat} {x:α} (h:l[k]?=some x):l.take (k+1)=l.take k++[x]:=by
 obtain⟨hk,rfl⟩:=List.getElem?_eq_some_iff.1 h;rw[List.take_succ_eq_append_getElem hk]
theorem bE (w:World) (cs:List Value) (t n sz k:Nat) (hk:k=w.heap.size) (h:cs.length=n*sz) (z:∀u∈cs,u.oneCell'=true):Src (w.alloc (.cells cs.toArray t)) (some ⟨k,0,none⟩) n sz cs:=by
 subst hk;exact Bc w cs t n sz h z
theorem ax {n c:Nat} (h:n<=c) (z:c<=maxLen):(n:Int)<=9223372036854775807:=by unfold maxLen at z;omega
theorem lH {w:World} {base e sz n:Nat} {v:Value} {xs:List Value} (h:w.ownsRow base e sz v n xs) (z:0<n) :
  ∃g cap spare,v=.slice (some ⟨g,0,none⟩) n cap/\base<=g/\w.heap[g]?=some (.cells (xs++spare).toArray e (0,0))/\n<=cap/\cap<=maxLen:=by
 rcases h.2 with ⟨_,h0⟩|⟨g,cap,cur,hv,hg,hh,hnc,hcm,hcs,htake⟩
 ·omega
 ·exact⟨g,cap,cur.toList.drop (n*sz),hv,hg,by rw[hh,<-htake,M8],hnc,hcm⟩
theorem aP {P:Program} {c:Code} {Q:Exit->Act->World->Prop} {a:Act} {w:World} (h:∀W:World,W=w->c.wp P Q a W):c.wp P Q a w:=h w rfl
theorem GU {P:Program} (w:World) {ops:Array Oper} {o:Oper} {a:Act} {K:Act->World->Prop} {Q:Exit->Act->World->Prop} {E:Prop} (b':o.guard=none) (s x:Operand) (t:TypeId)
  (ho:o.op=.call { callee:=.builtin .append,args:=#[s,x],argTypes:=#[t,t] })
  (base:Nat) (e:TypeId) (i:TypeInfo) (z:Value) (size bytes:Nat) (ht:P.underlying t=some (.slice e)) (hi:P.info? e=some i) (hz:i.zero=some z)
  (F:i.size=size) (c':i.bytes=bytes) (d':z.cells.size=size) (Z:0<size)
  (v:Value) (n:Nat) (xs:List Value) (hs:a.eval s=v) (O:w.ownsRow base e size v n xs)
  (A:Option Addr) (m c:Nat) (news:List Value) (hx:a.eval x=.slice A m c) (J:Src w A m size news)
  (a':n+m<=maxLen) (D:(n+m)*bytes<=140737488355328) (G:base<=w.heap.size)
  (h:∀v' w',w'.ownsRow base e size v' (n+m) (xs++news)->w.grownBy w' v.ownBlock->(v'.ownBlock=v.ownBlock\/v'.ownBlock=some w.heap.size)->K (a.put o.dst v') w') :
  if Region.wanted o (yielded ops a.tmps)=true then Oper.wp P o a w K Q else E:=by
 have hw:Region.wanted o (yielded ops a.tmps)=true:=by simp[Region.wanted,b']
 rw[K7 hw];obtain⟨v',w',I,h2,h3,h4⟩:=lG (P:=P) w base t o.type e i z size bytes ht hi hz F c' d' Z v n xs O A m c news J a' D G;unfold Oper.wp execOp;simp only[ho,resolve,invoke,builtin,Sem.run_bind,Sem.run_pure,Result.andThen_ok,List.map_toArray,LF,MD,hs,hx,I];exact h v' w' h2 h3 h4
theorem Iq {w:World} {k t n sz:Nat} {cs:List Value} (h:w.heap[k]?=some (.cells cs.toArray t (0,0))) (D:cs.length=n*sz) (F:∀u∈cs,u.oneCell'=true):Src w (some ⟨k,0,none⟩) n sz cs :=
 ⟨D,F,fun _=>⟨k,0,rfl,fun j u z=>by rw[Lu,af h];exact z⟩⟩
theorem ap (W:World) (k:Nat) (o:Obj) (hk:k=W.heap.size):(W.alloc o).heap[k]?=some o:=by subst hk;exact Mp W o
theorem iH {P:Program} {f:FuncId} {args:Array Value} {w:World} {F:World->Prop} (D:Grows F) {x:Cls w F} {v:Value}
  (h:∀W:World,KY w W->Calls P f args W fun e w'=>e=.returned v/\KY W w'):Calls P f args x.W fun e z=>e=.returned v/\∃y:Cls w F,z=y.W :=
 fj D (h x.W x.bel)
end
section
structure Bnd where
 v:Int
 t:Int
 s:Int
 n:Int
structure Ety where
 q:Int
 bs:List Bnd
 n:Int
structure Chg where
 sg:Int
 q:Int
 bs:List Bnd
instance bndDec:DecidableEq Bnd:=fun a b=>decidable_of_iff (a.v=b.v/\a.t=b.t/\a.s=b.s/\a.n=b.n) (by cases a;cases b;simp)
instance entDec:DecidableEq Ety:=fun a b=>decidable_of_iff (a.q=b.q/\a.bs=b.bs/\a.n=b.n) (by cases a;cases b;simp)
instance chgDec:DecidableEq Chg:=fun a b=>decidable_of_iff (a.sg=b.sg/\a.q=b.q/\a.bs=b.bs) (by cases a;cases b;simp)
def bL (a b:Int):Int:=if a<b then -1 else if b<a then 1 else 0
def orI (a b:Int):Int:=if a=0 then b else a
structure PC {α:Type} (c:α->α->Int):Prop where
 anti:∀a b,c b a=- c a b
 lt:∀a b d,c a b<0->c b d<0->c a d<0
 cong:∀a b d,c a b=0->c a d=c b d
theorem ku:PC bL:=by
 refine⟨fun a b=>?_,fun a b d=>?_,fun a b d=>?_⟩<;>unfold bL<;>(repeat' split)<;>omega
theorem ii {a b:Int}:bL a b=0↔a=b:=by unfold bL;(repeat' split)<;>omega
section
variable {α β : Type} {c d : α -> α -> Int}
theorem PC.refl (h:PC c) (a:α):c a a=0:=by have:=h.anti a a;omega
theorem PC.congr (h:PC c) (a b e:α) (he:c a b=0):c e a=c e b:=by
 have z:=h.cong a b e he;have D:=h.anti a e;have F:=h.anti b e;omega
theorem PC.lt_eq (h:PC c) {a b e:α} (D:c a b<0) (z:c b e=0):c a e<0:=by
 have:=h.congr b e a z;omega
theorem PC.or (h:PC c) (k:PC d):PC (fun a b=>orI (c a b) (d a b)):=by
 refine⟨fun a b=>?_,fun a b e=>?_,fun a b e=>?_⟩
 ·have z:=h.anti a b;have D:=k.anti a b;simp only[orI]
  split<;>split<;>omega
 ·simp only[orI]
  by_cases z:c a b=0
  ·by_cases D:c b e=0
   ·have F:c a e=0:=by rw[h.cong a b e z];exact D
    rw[K7 z,K7 D,K7 F];exact k.lt a b e
   ·have F:c a e=c b e:=h.cong a b e z;rw[K7 z,K6 D,K6 om,F];exact fun _ h=>h
  ·by_cases D:c b e=0
   ·have F:c a b=c a e:=h.congr b e a D;rw[K6 z,K7 D,K6 om,F];exact fun h _=>h
   ·rw[K6 z,K6 D];intro F G;have:=h.lt a b e F G;rw[K6 om];exact this
 ·simp only[orI];intro h0
  by_cases z:c a b=0
  ·rw[K7 z]at h0;rw[h.cong a b e z,k.cong a b e h0]
  ·rw[K6 z]at h0;omega
theorem PC.of {c:β->β->Int} (h:PC c) (f:α->β):PC (fun a b=>c (f a) (f b)) :=
 ⟨fun _ _=>h.anti _ _,fun _ _ _=>h.lt _ _ _,fun _ _ _=>h.cong _ _ _⟩
theorem gJ {a b:Int}:orI a b=0↔a=0/\b=0:=by unfold orI;split<;>omega
def fC (c:α->α->Int):List α->List α->Int
 | [],[]=>0
 | [],_::_=>-1
 | _::_,[]=>1
 | a::l,b::m=>orI (c a b) (fC c l m)
theorem PC.list (h:PC c):PC (fC c):=by
 refine⟨?_,?_,?_⟩
 ·intro a
  induction a with
  | nil=>intro b;cases b<;>simp[fC]
  | cons x a I =>
   intro b
   cases b with
   | nil=>simp[fC]
   | cons y b =>
    have F:=h.anti x y;have D:=I b;simp only[fC,orI]
    split<;>split<;>omega
 ·intro a
  induction a with
  | nil=>intro b d;cases b<;>cases d<;>simp[fC]
  | cons x a I =>
   intro b d
   cases b with
   | nil=>cases d<;>simp[fC]
   | cons y b =>
    cases d with
    | nil=>simp[fC]
    | cons z d =>
     simp only[fC,orI]
     by_cases F:c x y=0
     ·by_cases D:c y z=0
      ·have G:c x z=0:=by rw[h.cong x y z F];exact D
       rw[K7 F,K7 D,K7 G];exact I b d
      ·have G:c x z=c y z:=h.cong x y z F;rw[K7 F,K6 D,K6 om,G];exact fun _ h=>h
     ·by_cases D:c y z=0
      ·have G:c x y=c x z:=h.congr y z x D;rw[K6 F,K7 D,K6 om,G];exact fun h _=>h
      ·rw[K6 F,K6 D];intro G J;have:=h.lt x y z G J;rw[K6 om];exact this
 ·intro a
  induction a with
  | nil=>intro b d;cases b<;>simp[fC]
  | cons x a I =>
   intro b d
   cases b with
   | nil=>simp[fC]
   | cons y b =>
    intro h0;simp only[fC]at h0;obtain⟨F,D⟩:=gJ.1 h0
    cases d with
    | nil=>rfl
    | cons z d=>simp only[fC];rw[h.cong x y z F,I b d D]
theorem vQ (he:∀a b,c a b=0->a=b):∀l m:List α,fC c l m=0->l=m
 | [],[],_=>rfl
 | [],_::_,h=>by simp[fC]at h
 | _::_,[],h=>by simp[fC]at h
 | a::l,b::m,h=>by
  simp only[fC]at h;obtain⟨z,D⟩:=gJ.1 h;rw[he a b z,vQ he l m D]
end
def bJ (a b:Bnd):Int:=orI (orI (bL a.t b.t) (bL a.s b.s)) (bL a.n b.n)
def yu (a b:Bnd):Int:=orI (bJ a b) (bL a.v b.v)
def bsC (a b:List Bnd):Int:=fC yu a b
def entC (a b:Ety):Int:=orI (bL a.q b.q) (bsC a.bs b.bs)
theorem it:PC bJ:=(((ku.of Bnd.t).or (ku.of Bnd.s)).or (ku.of Bnd.n))
theorem G9:PC yu:=it.or (ku.of Bnd.v)
theorem jc:PC bsC:=G9.list
theorem Jh (a b:Bnd) (h:yu a b=0):a=b:=by
 unfold yu bJ at h;simp only[gJ,ii]at h
 cases a;cases b
 simp only[Bnd.mk.injEq]at *;omega
theorem Fp {a b:List Bnd}:bsC a b=0↔a=b:=⟨vQ Jh a b,fun h=>h▸jc.refl a⟩
def Led (l:List Ety):Prop:=l.Pairwise (fun a b=>entC a b<0)/\∀x∈l,x.n≠0
theorem Led.nil:Led []:=⟨List.Pairwise.nil,by simp⟩
theorem Led.tail {x:Ety} {l:List Ety} (h:Led (x::l)):Led l:=⟨(List.pairwise_cons.1 h.1).2,fun y hy=>h.2 y (Lh _ hy)⟩
theorem Led.head {x:Ety} {l:List Ety} (h:Led (x::l)):∀y∈l,entC x y<0:=(List.pairwise_cons.1 h.1).1
end
def Jo (w:World) (b p:Nat) (x:Bnd):Prop :=
 w.cell? ⟨b,p,none⟩=some (KW x.v)/\w.cell? ⟨b,p+1,none⟩=some (KW x.t)/\w.cell? ⟨b,p+2,none⟩=some (KW x.s)/\w.cell? ⟨b,p+3,none⟩=some (KW x.n)
theorem cE:gG Jo:=fun _ _ _ _ _ hb ⟨h0,D,h,z⟩=>⟨aa hb h0,aa hb D,aa hb h,aa hb z⟩
abbrev bQ (w:World) (v:Value) (l:List Bnd):Prop:=Sl Jo 4 w v l
def Jz (w:World) (b p:Nat) (x:List Bnd):Prop:=∃v,bQ w v x/\w.cell? ⟨b,p,none⟩=some v
theorem xh:gG Jz:=fun _ _ _ _ _ hb ⟨v,h,h0⟩=>⟨v,h.stays cE hb,aa hb h0⟩
abbrev qk (w:World) (v:Value) (l:List (List Bnd)):Prop:=Sl Jz 1 w v l
def Kq (x:Bnd):Value:=.agg #[KW x.v,KW x.t,KW x.s,KW x.n]
def rY (v:Value):Value:=.agg #[v]
structure Gr (w w':World):Prop where
 below:KY w w'
 drawn:w.drawn<=w'.drawn
theorem Gr.refl (w:World):Gr w w:=⟨La _ _,Ld _⟩
theorem Gr.trans {a b c:World} (h:Gr a b) (k:Gr b c):Gr a c:=⟨ab h.below k.below,Lf h.drawn k.drawn⟩
theorem Gr.alloc {a b:World} (h:Gr a b) (o:Obj):Gr a (b.alloc o):=⟨aJ h.below o,h.drawn⟩
theorem Gr.drew {a b:World} (h:Gr a b):Gr a b.drew:=⟨h.below.drew,Lf h.drawn (Nat.le_succ _)⟩
theorem Gr.set {a b:World} (h:Gr a b) {g i:Nat} (z:a.heap.size<=g) (v:Value):Gr a (b.setCell ⟨g,i,none⟩ v):=⟨aA h.below z v,h.drawn⟩
theorem aw {P:Program} {f:FuncId} {args:Array Value} {w:World} {Q:Ending->World->Prop} (h:∀W:World,W=w->Calls P f args W Q):Calls P f args w Q:=h w rfl
theorem Grows.to {F:World->Prop} (I:Grows F) {D z:World} (G:KY D z) (h:F D):F z:=I _ _ G h
theorem ni (x:Int) (w:World):Calls prog 138 #[KW x] w fun e w'=>e=.returned (.bool false)/\w=w':=by
 go_enter func138,ntmps138;go_wp2;go_ret;exact⟨by simp,rfl⟩
theorem eS (x y:Int) (w:World):Calls prog 84 #[KW x,KW y] w fun e w'=>e=.returned (KW (bL x y))/\w=w':=by
 unfold bL;rcases Int.lt_trichotomy x y with h|h|h
 ·rw[K7 h];go_enter func84,ntmps84;go_wp2_with (go_at_call 138;refine (ni _ _).mono ?_;rintro e w' ⟨rfl,rfl⟩);go_ret;exact⟨rfl,rfl⟩
 ·subst h;rw[K6 om,K6 om];go_enter func84,ntmps84;go_wp2_with (go_at_call 138;refine (ni _ _).mono ?_;rintro e w' ⟨rfl,rfl⟩);go_ret;exact⟨rfl,rfl⟩
 ·rw[K6 om,K7 h];go_enter func84,ntmps84;go_wp2_with (go_at_call 138;refine (ni _ _).mono ?_;rintro e w' ⟨rfl,rfl⟩);go_ret;exact⟨rfl,rfl⟩
def orL:List Int->Int
 | []=>0
 | x::l=>if x=0 then orL l else x
theorem F3 {l:List Int} (h:∀x∈l,x=0):orL l=0:=by
 induction l with
 | nil=>rfl
 | cons x l z=>simp only[orL];rw[K7 (h x (Lg ..))];exact z fun y hy=>h y (Lh _ hy)
theorem Kb {l:List Int} {k:Nat} {x:Int} (h:l[k]?=some x) (I:x≠0) (D:∀(j:Nat) (y:Int),l[j]?=some y->j<k->y=0):orL l=x:=by
 induction l generalizing k with
 | nil=>simp at h
 | cons y l J =>
  cases k with
  | zero=>simp at h;subst h;simp only[orL];rw[K6 I]
  | succ k =>
   simp only[orL];rw[K7 (D 0 y rfl om)];exact J (jQ h) fun j z F G=>D (j+1) z (jQ F) om
theorem F6 (l:List Int) (v:Value) (w:World) (hl:yQ w v l) :
  Calls prog 82 #[v] w fun e w'=>e=.returned (KW (orL l))/\w=w':=by
 obtain⟨A,c,rfl,h1,h2,G⟩:=hl;have hn:=ax h1 h2;have HL:=jD G;clear G h1 h2;go_enter func82,ntmps82;go_wp2_with fail
 go_loopw [8] (fun i wr=>wr=w/\∃k:Nat,k<=l.length/\i=KW k/\Hid (∀(j:Nat) (y:Int),l[j]?=some y->j<k->y=0)) (fun i _=>l.length-(intOf i).toNat)
 case atStart=>exact⟨rfl,0,Lb _,rfl,fun _ _ _ h=>absurd h om⟩
 case round =>
  obtain⟨rfl,k,hk,rfl,hi⟩:=hrel
  by_cases I:k<l.length
  ·obtain⟨b,o,rfl,O⟩:=HL.out k l[k] (K9 I);unfold Ju at O;simp only[LL]at O;have z:=jD (K9 I);obtain⟨x,J⟩:=jF (l[k]);rw[<-J]at z O;clear J;have a':(k:Int)<(l.length:Int):=by omega
   by_cases D:x=0
   ·subst D;go_wp2_with fail
    go_roundw
    case rel =>
     refine⟨by trivial,k+1,by omega,by go_num,?_⟩;intro j y F Z;rcases Nat.lt_or_eq_of_le (Nat.le_of_lt_succ Z) with h|h
     ·exact hi.out j y F h
     ·subst h;rw[z.out]at F;injection F with F;exact F.symm
    case measure=>simp[intOf];omega
   ·have b':(x != 0)=true:=jQ D;have HX:=jD D;clear D;go_wp2;go_ret;rw[Kb z.out HX.out hi.out];exact⟨rfl,rfl⟩
  ·go_wp2;go_ret;rw[F3 fun x J=>by
    obtain⟨j,F⟩:=List.mem_iff_getElem?.1 J;exact hi.out j x F (by have:=(List.getElem?_eq_some_iff.1 F).1;omega)]
   exact⟨rfl,rfl⟩
theorem G7 (x y:Int):orL [x,y]=orI x y:=by
 simp only[orL,orI]
 by_cases h:x=0
 ·by_cases hy:y=0<;>simp[h,hy]
 ·simp[h]
theorem CB (x y z:Int):orL [x,y,z]=orI (orI x y) z:=by
 simp only[orL,orI]
 by_cases h:x=0
 ·by_cases hy:y=0
  ·by_cases D:z=0<;>simp[h,hy,D]
  ·simp[h,hy]
 ·simp[h]
theorem FH {b:Nat} {x y:Int} {w:World} (h0:w.cell? ⟨b,0,none⟩=some (KW x)) (h:w.cell? ⟨b,1,none⟩=some (KW y)):yQ w (.slice (some ⟨b,0,none⟩) 2 2) [x,y] :=
 ⟨_,2,rfl,Ld _,by decide,fun k u hk=>⟨b,0,rfl,by
  match k,hk with
  | 0,hk=>simp at hk;subst hk;exact h0
  | 1,hk=>simp at hk;subst hk;exact h
  | k+2,hk=>simp at hk⟩⟩
theorem zI {b:Nat} {x y z:Int} {w:World} (h0:w.cell? ⟨b,0,none⟩=some (KW x)) (h:w.cell? ⟨b,1,none⟩=some (KW y)) (D:w.cell? ⟨b,2,none⟩=some (KW z)):yQ w (.slice (some ⟨b,0,none⟩) 3 3) [x,y,z] :=
 ⟨_,3,rfl,Ld _,by decide,fun k u hk=>⟨b,0,rfl,by
  match k,hk with
  | 0,hk=>simp at hk;subst hk;exact h0
  | 1,hk=>simp at hk;subst hk;exact h
  | 2,hk=>simp at hk;subst hk;exact D
  | k+3,hk=>simp at hk⟩⟩
theorem Km (b:Nat) (x y:Int) (w:World) (h0:w.cell? ⟨b,0,none⟩=some (KW x)) (h:w.cell? ⟨b,1,none⟩=some (KW y)) :
  Calls prog 82 #[.slice (some ⟨b,0,none⟩) 2 2] w fun e w'=>e=.returned (KW (orI x y))/\w=w':=by
 have:=F6 _ _ w (FH h0 h)
 rwa [G7]at this
theorem rD (b:Nat) (x y z:Int) (w:World) (h0:w.cell? ⟨b,0,none⟩=some (KW x)) (h:w.cell? ⟨b,1,none⟩=some (KW y)) (D:w.cell? ⟨b,2,none⟩=some (KW z)) :
  Calls prog 82 #[.slice (some ⟨b,0,none⟩) 3 3] w fun e w'=>e=.returned (KW (orI (orI x y) z))/\w=w':=by
 have:=F6 _ _ w (zI h0 h D)
 rwa [CB]at this
theorem Fo (t1 s1 n1 t2 s2 h:Int) (w:World) :
  Calls prog 83 #[.agg #[KW t1,KW s1,KW n1],.agg #[KW t2,KW s2,KW h]] w fun e w' =>
   e=.returned (KW (orI (orI (bL t1 t2) (bL s1 s2)) (bL n1 h)))/\Gr w w':=by
 go_enter func83,ntmps83;go_wp2
 go_region_held3 (fun w'=>w'.cell? ⟨w.heap.size,0,none⟩=some (KW t1)/\w'.cell? ⟨w.heap.size,1,none⟩=some (KW s1)/\w'.cell? ⟨w.heap.size,2,none⟩=some (KW n1)/\w'.cell? ⟨w.heap.size+1,0,none⟩=some (KW t2)/\w'.cell? ⟨w.heap.size+1,1,none⟩=some (KW s2)/\w'.cell? ⟨w.heap.size+1,2,none⟩=some (KW h)) (go_keep)
  (first|(go_at_call 84;refine (eS _ _ _).mono ?_;rintro e w' ⟨rfl,rfl⟩)|(go_at_call 82;refine (rD _ (bL t1 t2) (bL s1 s2) (bL n1 h) _ ?_ ?_ ?_).mono ?_;(go_simp);(go_simp);(go_simp);rintro e w' ⟨rfl,rfl⟩))
 go_wp2;go_ret;exact⟨rfl,jC⟩
theorem wh (a b:Bnd) (w:World) :
  Calls prog 83 #[.agg #[KW a.t,KW a.s,KW a.n],.agg #[KW b.t,KW b.s,KW b.n]] w fun e w'=>e=.returned (KW (bJ a b))/\Gr w w':=Fo _ _ _ _ _ _ w
theorem GD (a b:Bnd) (w:World) :
  Calls prog 81 #[Kq a,Kq b] w fun e w'=>e=.returned (KW (yu a b))/\Gr w w':=by
 unfold Kq;go_enter func81,ntmps81;go_wp2
 refine aP fun F D=>?_;have h:Hid ((fun w'=>w'.cell? ⟨w.heap.size,0,none⟩=some (KW a.v)/\w'.cell? ⟨w.heap.size,1,none⟩=some (KW a.t)/\w'.cell? ⟨w.heap.size,2,none⟩=some (KW a.s)/\w'.cell? ⟨w.heap.size,3,none⟩=some (KW a.n)/\w'.cell? ⟨w.heap.size+1,0,none⟩=some (KW b.v)/\w'.cell? ⟨w.heap.size+1,1,none⟩=some (KW b.t)/\w'.cell? ⟨w.heap.size+1,2,none⟩=some (KW b.s)/\w'.cell? ⟨w.heap.size+1,3,none⟩=some (KW b.n)) F):=jD (by subst D;(first|exact⟨‹_›,‹_›⟩|(go_simp;done)|(simp[*];done)));have z:Hid (Grows (fun w'=>w'.cell? ⟨w.heap.size,0,none⟩=some (KW a.v)/\w'.cell? ⟨w.heap.size,1,none⟩=some (KW a.t)/\w'.cell? ⟨w.heap.size,2,none⟩=some (KW a.s)/\w'.cell? ⟨w.heap.size,3,none⟩=some (KW a.n)/\w'.cell? ⟨w.heap.size+1,0,none⟩=some (KW b.v)/\w'.cell? ⟨w.heap.size+1,1,none⟩=some (KW b.t)/\w'.cell? ⟨w.heap.size+1,2,none⟩=some (KW b.s)/\w'.cell? ⟨w.heap.size+1,3,none⟩=some (KW b.n))):=(by repeat (first|exact aG _ _ _|exact aH|refine aN ?_ ?_));have J:Gr w F:=(by subst D;exact jC);clear D;have G:=h.out;go_region_held3 (fun w'=>w'.cell? ⟨w.heap.size,0,none⟩=some (KW a.v)/\w'.cell? ⟨w.heap.size,1,none⟩=some (KW a.t)/\w'.cell? ⟨w.heap.size,2,none⟩=some (KW a.s)/\w'.cell? ⟨w.heap.size,3,none⟩=some (KW a.n)/\w'.cell? ⟨w.heap.size+1,0,none⟩=some (KW b.v)/\w'.cell? ⟨w.heap.size+1,1,none⟩=some (KW b.t)/\w'.cell? ⟨w.heap.size+1,2,none⟩=some (KW b.s)/\w'.cell? ⟨w.heap.size+1,3,none⟩=some (KW b.n)) (with_reducible exact z.out.to (Gr.below (by repeat (first|with_reducible exact Gr.refl _|assumption|with_reducible refine Gr.drew ?_|with_reducible refine Gr.alloc ?_ _|with_reducible refine Gr.trans ?_ (by assumption)))) h.out) (first|(go_at_call 83;refine (wh a b _).mono ?_;rintro e O ⟨rfl,I⟩)|(go_at_call 84;refine (eS _ _ _).mono ?_;rintro e w' ⟨rfl,rfl⟩)|(go_at_call 82;refine (Km _ (bJ a b) (bL a.v b.v) _ ?_ ?_).mono ?_;(go_simp);(go_simp);rintro e w' ⟨rfl,rfl⟩))
 go_wp2;go_ret;exact⟨rfl,jC⟩
theorem xz {l m:List Bnd} {k:Nat} {x y:Bnd} (z:l[k]?=some x) (hy:m[k]?=some y):bsC (l.drop k) (m.drop k)=orI (yu x y) (bsC (l.drop (k+1)) (m.drop (k+1))):=by
 obtain⟨h,rfl⟩:=List.getElem?_eq_some_iff.1 z;obtain⟨D,rfl⟩:=List.getElem?_eq_some_iff.1 hy;rw[Lr h,Lr D];rfl
theorem FV {l m:List Bnd} {k:Nat} {x:Bnd} (z:l[k]?=some x) (hy:m.length<=k):bsC (l.drop k) (m.drop k)=1:=by
 obtain⟨h,rfl⟩:=List.getElem?_eq_some_iff.1 z;rw[Lr h,Nz hy];rfl
theorem G6 {l m:List Bnd} {k:Nat} (z:l.length<=k):bsC (l.drop k) (m.drop k)=if k<m.length then -1 else 0:=by
 rw[Nz z]
 by_cases h:k<m.length
 ·rw[K7 h,Lr h];rfl
 ·rw[K6 h,Nz om];rfl
theorem oY (l m:List Bnd) (v1 v2:Value) (w:World) (hl:bQ w v1 l) (hm:bQ w v2 m) :
  Calls prog 80 #[v1,v2,.func (.func 81) #[] #[]] w fun e w'=>e=.returned (KW (bsC l m))/\Gr w w':=by
 obtain⟨A,c,rfl,Z,h2,G⟩:=hl;have hn:=ax Z h2;have HL:=jD G;clear G Z h2;obtain⟨B,d,rfl,Z,h2,G⟩:=hm;have l':=ax Z h2;have HM:=jD G;clear G Z h2;go_enter func80,ntmps80;go_wp2_with fail
 go_loopw [13] (fun i wr=>∃k:Nat,k<=l.length/\k<=m.length/\i=KW k/\Hid (bsC (l.drop k) (m.drop k)=bsC l m)/\Gr w wr) (fun i _=>l.length-(intOf i).toNat)
 case atStart=>exact⟨0,Lb _,Lb _,rfl,by exact jD rfl,Gr.refl _⟩
 case round =>
  obtain⟨k,hk,k',rfl,hi,D⟩:=hrel
  by_cases a':k<l.length
  ·obtain⟨b,o,rfl,c0,c1,c2,c3⟩:=HL.out k l[k] (K9 a');replace c0:=aa D.below c0;replace c1:=aa D.below c1;replace c2:=aa D.below c2;replace c3:=aa D.below c3;have z:=jD (K9 a');obtain⟨x,hx⟩:=jF (l[k]);rw[<-hx]at z c0 c1 c2 c3;clear hx;have n':(k:Int)<(l.length:Int):=by omega
   by_cases F:k<m.length
   ·obtain⟨J,o2,rfl,d0,d1,d2,d3⟩:=HM.out k m[k] (K9 F);replace d0:=aa D.below d0;replace d1:=aa D.below d1;replace d2:=aa D.below d2;replace d3:=aa D.below d3;have h:=jD (K9 F);obtain⟨y,hy⟩:=jF (m[k]);rw[<-hy]at h d0 d1 d2 d3;clear hy;have h':J<wr.heap.size:=K8 wr ⟨J,_,none⟩ d0;have i':J≠wr.heap.size:=by omega
    have f':wr.heap.size≠J:=by omega
    have e':J≠wr.heap.size+1:=by omega
    have g':wr.heap.size+1≠J:=by omega
    have c':¬((m.length:Int)<=(k:Int)):=by omega
    have p':(k:Int)<(m.length:Int):=by omega
    obtain⟨r,HR⟩:=eh (yu x y);go_wp2_with fail;refine (GD x y _).mono ?_;rw[HR.out];rintro e w' ⟨rfl,hg⟩;have b':Gr w w':=D.trans (Gr.trans jC hg)
    by_cases I:r=0
    ·subst I;go_wp2_with fail
     go_roundw
     case rel =>
      refine⟨k+1,by omega,by omega,by go_num,?_,b'⟩;have:=hi.out;rw[xz z.out h.out,HR.out]at this;exact jD this
     case measure=>simp[intOf];omega
    ·have j':(r != 0)=true:=jQ I;have d':=jD I;clear I;go_wp2;go_ret;have:=hi.out;rw[xz z.out h.out,HR.out,orI,K6 d'.out]at this;rw[<-this];exact⟨rfl,b'⟩
   ·have c':(m.length:Int)<=(k:Int):=by omega
    go_wp2;go_ret;have:=hi.out;rw[FV z.out om]at this;rw[<-this];exact⟨rfl,D.trans jC⟩
  ·have he:=hi.out;rw[G6 om]at he;have HE:=jD he;clear he;have m':l.length=k:=by omega
   by_cases F:k<m.length
   ·have O:(l.length:Int)<(m.length:Int):=by omega
    go_wp2;go_ret;have:=HE.out;rw[K7 F]at this;rw[<-this];exact⟨rfl,D⟩
   ·have O:¬((l.length:Int)<(m.length:Int)):=by omega
    go_wp2;go_ret;have:=HE.out;rw[K6 F]at this;rw[<-this];exact⟨rfl,D⟩
theorem uh (l m:List Bnd) (v1 v2:Value) (w:World) (h:bQ w v1 l) (hm:bQ w v2 m) :
  Calls prog 40 #[rY v1,rY v2] w fun e w'=>e=.returned (KW (bsC l m))/\Gr w w':=by
 unfold rY;have z:=jD h;have F:=jD hm;obtain⟨A,c,rfl,-,-,-⟩:=h;obtain⟨B,d,rfl,-,-,-⟩:=hm;go_enter func40,ntmps40;go_wp2_with (go_at_call 80;refine (oY l m _ _ _ (z.out.stays cE (Gr.below jC)) (F.out.stays cE (Gr.below jC))).mono ?_;rintro e G ⟨rfl,D⟩);go_ret;exact⟨rfl,jC⟩
structure Vl where
 kind:Int
 num:Int
 text:ByteArray
structure Evt where
 src:Int
 sq:Int
 ty:Int
 tm:Int
 vals:List Vl
def bK (e:Evt):Bnd:=⟨0,e.tm,e.src,e.sq⟩
def bV (e:Evt):Bool:=decide (0<=e.tm/\e.tm<=1099511627776/\0<=e.src/\e.src<8/\0<=e.sq/\e.sq<=1099511627776)
def dA (a b:Evt):Bool:=decide (a.src=b.src/\a.sq=b.sq)
def gY (pre:List Evt) (x:Evt):Bool:=match pre.getLast? with
 | some p=>decide (0<=bJ (bK p) (bK x))
 | none=>false
def evE (pre:List Evt) (x:Evt):Int :=
 if bV x=false then 2 else if gY pre x=true then 14 else if pre.any (dA x)=true then 7 else 0
def cN:List Evt->List Evt->Int
 | _,[]=>0
 | pre,x::l=>if evE pre x=0 then cN (pre++[x]) l else evE pre x
def bC (l:List Evt):Int:=if 4096<l.length then 5 else cN [] l
theorem xu {pre:List Evt} {x:Evt} (h:evE pre x=0):bV x=true/\(∀p,pre.getLast?=some p->bJ (bK p) (bK x)<0)/\pre.any (dA x)=false:=by
 unfold evE at h
 by_cases D:bV x=false
 ·rw[K7 D]at h;exact absurd h dc
 ·rw[K6 D]at h
  by_cases z:gY pre x=true
  ·rw[K7 z]at h;exact absurd h dc
  ·rw[K6 z]at h
   by_cases F:pre.any (dA x)=true
   ·rw[K7 F]at h;exact absurd h dc
   ·refine⟨jQ D,fun p hp=>?_,Bool.eq_false_iff.2 F⟩;unfold gY at z;rw[hp]at z;simp at z;omega
structure Bv (l:List Evt):Prop where
 asc:l.Pairwise fun a b=>bJ (bK a) (bK b)<0
 placed:∀e∈l,bV e=true
theorem qD:∀(l pre:List Evt),Bv pre->cN pre l=0->Bv (pre++l)
 | [],pre,h,_=>by rw[Mz];exact h
 | x::l,pre,h,h0=>by
  unfold cN at h0
  by_cases e:evE pre x=0
  ·rw[K7 e]at h0;obtain⟨O,e2,-⟩:=xu e;have Z:Bv (pre++[x]):=by
    refine⟨?_,fun y hy=>?_⟩
    ·rw[Np];refine⟨h.asc,NJ ..,fun a F b G=>?_⟩;simp at G;subst G
     cases hp:pre.getLast? with
     | none=>rw[List.getLast?_eq_none_iff]at hp;rw[hp]at F;simp at F
     | some p =>
      have J:=e2 p hp;obtain⟨ys,z⟩:=List.getLast?_eq_some_iff.1 hp;rw[z]at F;rcases List.mem_append.1 F with D|D
      ·have I:=h.asc;rw[z,Np]at I;exact it.lt _ _ _ (I.2.2 a D p jS) J
      ·simp at D;subst D;exact J
    ·rcases List.mem_append.1 hy with hy|hy
     ·exact h.placed y hy
     ·simp at hy;subst hy;exact O
   have:=qD l (pre++[x]) Z h0
   rwa [L7]at this
  ·rw[K6 e]at h0;exact absurd h0 e
theorem gx {l:List Evt} (h:bC l=0):Bv l/\l.length<=4096:=by
 unfold bC at h
 split at h
 ·exact absurd h dc
 ·exact⟨by simpa using qD l [] ⟨List.Pairwise.nil,by simp⟩ h,by omega⟩
def mr (l:List Evt) (r:Bnd):Nat:=(l.takeWhile fun e=>decide (bJ (bK e) r<0)).length
theorem Gn:∀{l:List Evt} {r:Bnd},(l.Pairwise fun a b=>bJ (bK a) (bK b)<0)->∀{i:Nat} {e:Evt},l[i]?=some e->(bJ (bK e) r<0↔i<mr l r)
 | [],_,_,_,_,h=>by simp at h
 | x::l,r,ha,i,e,h=>by
  obtain⟨G,I⟩:=List.pairwise_cons.1 ha;unfold mr
  by_cases D:bJ (bK x) r<0
  ·rw[List.takeWhile_cons_of_pos (jQ D)]
   cases i with
   | zero=>simp at h;subst h;exact⟨fun _=>by simp,fun _=>D⟩
   | succ i =>
    have F:=Gn (r:=r) I (i:=i) (e:=e) (jQ h);unfold mr at F;rw[F,Lt];omega
  ·rw[List.takeWhile_cons_of_neg (jQ D)]
   cases i with
   | zero=>simp at h;subst h;exact⟨fun z=>absurd z D,fun z=>by simp at z⟩
   | succ i =>
    refine⟨fun z=>?_,fun z=>by simp at z⟩;have J:=G e (Li (jQ h));exact absurd (it.lt _ _ _ J z) D
theorem KR (l:List Evt) (r:Bnd):mr l r<=l.length:=(List.takeWhile_sublist _).length_le
theorem vG {l:List Evt} {r:Bnd} (F:l.Pairwise fun a b=>bJ (bK a) (bK b)<0):(l.find? fun e=>decide (bJ (bK e) r=0))=(l[mr l r]?).filter fun e=>decide (bJ (bK e) r=0):=by
 induction l with
 | nil=>rfl
 | cons x l h =>
  obtain⟨I,h2⟩:=List.pairwise_cons.1 F;have h:=h h2;unfold mr at h ⊢
  by_cases z:bJ (bK x) r<0
  ·rw[List.takeWhile_cons_of_pos (jQ z),Lt,LC,<-h,List.find?_cons_of_neg (by simp;omega)]
  ·rw[List.takeWhile_cons_of_neg (jQ z)]
   by_cases h0:bJ (bK x) r=0
   ·rw[List.find?_cons_of_pos (jQ h0)];simp[Option.filter,h0]
   ·rw[List.find?_cons_of_neg (jQ h0)];have D:l.find? (fun e=>decide (bJ (bK e) r=0))=none:=by
     rw[List.find?_eq_none];intro e he O;have Z:=I e he;have G:bJ (bK e) r=0:=jQ O;have J:=it.lt_eq Z G;exact z J
    rw[D];simp[Option.filter,h0]
end Go.Proofs.YtokconodddedhaaGreatDoor
