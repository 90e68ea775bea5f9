/- Part. -/
import Derived.Test.YtbjicljfjkdeeaaGreatDoorQ25
set_option maxRecDepth 100000
set_option maxHeartbeats 16000000
set_option linter.unusedVariables false
set_option linter.unusedSimpArgs false
namespace Go.Proofs.YtbjicljfjkdeeaaGreatDoor
open Go.Proofs.Tryz Go.RowKit
theorem BF {d e:Nat} (h:d<=e) {w:World} {b p:Nat} {x:Pt} (G:kR d w b p x):kR e w b p x:=by
 induction h with
 | refl=>exact G
 | step _ z=>exact Ed _ _ _ _ _ z
theorem kn {d e:Nat} (h:d<=e) {w:World} {v:Value} {l:List Pt} (z:aU d w v l):aU e w v l:=oW (fun _ _ _=>BF h) z
theorem gE {d e:Nat} (h:d<=e) {w:World} {v:Value} {l:List Ex} (z:aK d w v l):aK e w v l:=oW (fun _ _ _=>I4 h) z
def aM (x:Pt) (v vc:Value):List Value:=[Mk x.op,v,Mk x.ty,Mk x.vr,Mk x.sc,Mk x.sp,Mk x.cond.op,vc,Mk x.cond.vr,Mk x.cond.fl,Mk x.cond.kd,Mk x.cond.val.kind,Mk x.cond.val.num,.string x.cond.val.text]
theorem cU {w:World} {b p:Nat} {x:Pt} {v vc:Value} (c0:w.cell? ⟨b,p,none⟩=some (Mk x.op)) (c1:w.cell? ⟨b,p+1,none⟩=some v) (c2:w.cell? ⟨b,p+2,none⟩=some (Mk x.ty)) (c3:w.cell? ⟨b,p+3,none⟩=some (Mk x.vr)) (c4:w.cell? ⟨b,p+4,none⟩=some (Mk x.sc)) (c5:w.cell? ⟨b,p+5,none⟩=some (Mk x.sp)) (c6:w.cell? ⟨b,p+6,none⟩=some (Mk x.cond.op)) (Z:w.cell? ⟨b,p+7,none⟩=some vc) (c8:w.cell? ⟨b,p+8,none⟩=some (Mk x.cond.vr)) (O:w.cell? ⟨b,p+9,none⟩=some (Mk x.cond.fl)) (I:w.cell? ⟨b,p+10,none⟩=some (Mk x.cond.kd)) (G:w.cell? ⟨b,p+11,none⟩=some (Mk x.cond.val.kind)) (z:w.cell? ⟨b,p+12,none⟩=some (Mk x.cond.val.num)) (J:w.cell? ⟨b,p+13,none⟩=some (.string x.cond.val.text)):Cells w b p (aM x v vc):=fun j u h=>by
  match j,h with
  | 0,h=>simp[aM]at h;subst h;exact c0
  | 1,h=>simp[aM]at h;subst h;exact c1
  | 2,h=>simp[aM]at h;subst h;exact c2
  | 3,h=>simp[aM]at h;subst h;exact c3
  | 4,h=>simp[aM]at h;subst h;exact c4
  | 5,h=>simp[aM]at h;subst h;exact c5
  | 6,h=>simp[aM]at h;subst h;exact c6
  | 7,h=>simp[aM]at h;subst h;exact Z
  | 8,h=>simp[aM]at h;subst h;exact c8
  | 9,h=>simp[aM]at h;subst h;exact O
  | 10,h=>simp[aM]at h;subst h;exact I
  | 11,h=>simp[aM]at h;subst h;exact G
  | 12,h=>simp[aM]at h;subst h;exact z
  | 13,h=>simp[aM]at h;subst h;exact J
  | j+14,h=>simp[aM]at h
theorem H8 {W:World} {e b p:Nat} {x:Pt} {v vc:Value} (G:aU (e+1) W v x.args) (z:aK e W vc x.cond.args) (h:Cells W b p (aM x v vc)):kR (e+2) W b p x :=
 ⟨v,G,h 0 _ rfl,h 1 _ rfl,h 2 _ rfl,h 3 _ rfl,h 4 _ rfl,h 5 _ rfl,vc,z,h 6 _ rfl,h 7 _ rfl,h 8 _ rfl,h 9 _ rfl,h 10 _ rfl,h 11 _ rfl,h 12 _ rfl,h 13 _ rfl⟩
theorem CV {x:Pt} {v vc:Value} (z:v.oneCell'=true) (h:vc.oneCell'=true):∀u∈aM x v vc,u.oneCell'=true:=by
 intro u hu;simp only[aM,MN,Nh,Ni]at hu;rcases hu with rfl|rfl|rfl|rfl|rfl|rfl|rfl|rfl|rfl|rfl|rfl|rfl|rfl|rfl<;>first|assumption|rfl
theorem zU {w:World} {e:Nat} {x:Pt} {v vc:Value} (z:aU (e+1) w v x.args) (h:aK e w vc x.cond.args):Means (kR (e+2)) 14 w (aM x v vc) [x] :=
 ⟨rfl,CV (fD z) (fD h),fun W b o G I k y hk=>by
  cases k with
  | zero =>
   simp at hk;subst hk;rw[Nn,Nc];exact H8 (z.stays (aB _) G) (h.stays (ai _) G) I
  | succ k=>simp at hk⟩
theorem FX:(prog.info? 31).map (fun i=>(i.zero,i.size,i.bytes))=some (some (.agg #[Mk 0,.slice none 0 0,Mk 0,Mk 0,Mk 0,Mk 0,Mk 0,.slice none 0 0,Mk 0,Mk 0,Mk 0,Mk 0,Mk 0,.string ⟨#[]⟩]),14,152):=kr
section
open Go.RowKit Go.Lib
def iu (W:World) (B:Option Nat) (k:Nat):Prop:=∃b v,B=some b/\W.cell? ⟨b,0,none⟩=some v/\v.ownBlock=some k
def fA (W:World) (B:Option Nat):Prop:=∀k,iu W B k->k<W.heap.size
theorem py (W:World) (k:Nat):¬iu W none k:=fun ⟨_,_,h,_⟩=>by cases h
theorem lE (W:World):fA W none:=fun k h=>(py W k h).elim
theorem eJ {W W':World} {B:Option Nat} (h:∀b,B=some b->W'.heap[b]?=W.heap[b]?) (k:Nat):iu W' B k↔iu W B k:=by
 constructor<;>rintro⟨b,v,z,G,hk⟩
 ·exact⟨b,v,z,(ML (a:=⟨b,0,none⟩) (h b z)).symm.trans G,hk⟩
 ·exact⟨b,v,z,(ML (a:=⟨b,0,none⟩) (h b z)).trans G,hk⟩
structure aE (n0 n1:Nat) (B:Option Nat) (W W':World):Prop where
 below:Below n0 W W'
 safe:fA W B->fA W' B
 cells:∀(k:Nat) (o:Obj),n1<=k->W.heap[k]?=some o->o.isCells=true->¬iu W B k->W'.heap[k]?=some o/\¬iu W' B k
theorem eO (n0 n1:Nat) (B:Option Nat) (W:World):aE n0 n1 B W W:=⟨Mr _ _,id,fun _ _ _ h _ r=>⟨h,r⟩⟩
theorem aR {n0 n1:Nat} {B:Option Nat} {X Y Z:World} (h:aE n0 n1 B X Y) (k:aE n0 n1 B Y Z):aE n0 n1 B X Z :=
 ⟨h.below.trans k.below,fun s=>k.safe (h.safe s),fun i o z e c r=>k.cells i o z (h.cells i o z e c r).1 c (h.cells i o z e c r).2⟩
theorem kO {n0 n1:Nat} {B:Option Nat} {w:World} (Z:n0<=w.heap.size) (hB:∀b,B=some b->b<w.heap.size) (W:World) (l:Nat) (o o':Obj) (O:w.heap.size<=l) (h:W.heap[l]?=some o) (G:o.isCells=false) (hw:o.isWalk=false):aE n0 n1 B W (W.putObj l o'):=by
 have hr:=fun k=>eJ (W:=W) (W':=W.putObj l o') (B:=B) (fun b J=>by
  have h1:=hB b J
  by_cases z:b<W.heap.size
  ·exact (grownBy_putObj' W l o').block b z (by simp;omega)
  ·have h2:l<W.heap.size:=(Array.getElem?_eq_some_iff.1 h).1;omega) k
 refine⟨belowK_b Z W l o o' O h G hw,fun s k hk=>ME (s k ((hr k).1 hk)) (grownBy_putObj' W l o').size,fun k o2 _ e c r=>⟨?_,fun h=>r ((hr k).1 h)⟩⟩;exact (grownBy_keeps_cells (grownBy_putObj' W l o') (fun r I=>by cases I;exact⟨o,h,G⟩) e c).trans e
theorem cf {n0 n1:Nat} {B:Option Nat} {W W':World} (h:Mm W W') (I:n0<=W.heap.size) (G:∀b,B=some b->b<W.heap.size):aE n0 n1 B W W' :=
 ⟨h.mono I,fun s k hk=>ME (s k ((eJ (fun b z=>h.block b (G b z)) k).1 hk)) h.size,
  fun k _ _ e _ r=>⟨(h.block k (Array.getElem?_eq_some_iff.1 e).1).trans e,fun hk=>r ((eJ (fun b z=>h.block b (G b z)) k).1 hk)⟩⟩
def C2 (n0 n1:Nat) (B:Option Nat) (W:World) (b:Nat):Prop:=b<n0\/(n1<=b/\¬iu W B b)
theorem gG {n0 n1:Nat} {B:Option Nat} {X Y:World} (h:aE n0 n1 B X Y) {b o:Nat} (J:n1<=b) (hr:¬iu X B b) {v:Value} (c:X.cell? ⟨b,o,none⟩=some v):Y.cell? ⟨b,o,none⟩=some v/\¬iu Y B b:=by
 obtain⟨ob,z,G⟩:=cells_of_cell c;obtain⟨O,I⟩:=h.cells b ob J z G hr;exact⟨(ML (a:=⟨b,o,none⟩) (O.trans z.symm)).trans c,I⟩
theorem gy {n0 n1:Nat} {B:Option Nat} {X Y:World} (h:aE n0 n1 B X Y) {b o:Nat} (hm:C2 n0 n1 B X b) {v:Value} (c:X.cell? ⟨b,o,none⟩=some v):Y.cell? ⟨b,o,none⟩=some v/\C2 n0 n1 B Y b:=by
 rcases hm with hm|⟨h1,h2⟩
 ·exact⟨(h.below.cell (p:=⟨b,o,none⟩) hm).trans c,.inl hm⟩
 ·exact⟨(gG h h1 h2 c).1,.inr ⟨h1,(gG h h1 h2 c).2⟩⟩
theorem tH {W W':World} {B:Option Nat} (hs:fA W B) (h:Mm W W') (z:∀b,B=some b->b<W.heap.size) {k:Nat} (hk:W.heap.size<=k):¬iu W' B k :=
 fun hr=>absurd (hs k ((eJ (fun b G=>h.block b (z b G)) k).1 hr)) om
theorem sD {n0 n1:Nat} {B:Option Nat} (W:World) {b i:Nat} (h0:n0<=b) (I:b<n1) (z:B≠some b) (v:Value):aE n0 n1 B W (W.setCell ⟨b,i,none⟩ v):=by
 have hr:=fun k=>eJ (W:=W) (W':=W.setCell ⟨b,i,none⟩ v) (B:=B) (fun c G=>Nj _ _ _ c (fun e=>z (by rw[G];exact congrArg some e))) k
 exact⟨(Mr n0 W).setCell (p:=⟨b,i,none⟩) h0 v,fun s k hk=>by have:=s k ((hr k).1 hk);simpa using this,
  fun k _ hk e _ r=>⟨(Nj _ _ _ k (by simp;omega)).trans e,fun h=>r ((hr k).1 h)⟩⟩
theorem D7 {n0 n1 b:Nat} {W J:World} {v v':Value} (h0:n0<=b) (h1:b<n1) (hv:W.cell? ⟨b,0,none⟩=some v) (hn:n1<=W.heap.size) (G:W.grownBy J v.ownBlock) (hb:v.ownBlock≠some b)
  (c':∀g,v.ownBlock=some g->n1<=g) (hw:v'.ownBlock=v.ownBlock\/v'.ownBlock=some W.heap.size) (a':∀g,v'.ownBlock=some g->g<J.heap.size):aE n0 n1 (some b) W (J.setCell ⟨b,0,none⟩ v'):=by
 have Z:b<W.heap.size:=by omega
 have O:Ml J b 0 v:=(ML (a:=⟨b,0,none⟩) (G.block b Z (fun e=>hb e.symm))).trans hv;have z:(J.setCell ⟨b,0,none⟩ v').cell? ⟨b,0,none⟩=some v':=World.cell?_setCell_same' _ _ _ (by rw[O];rfl);have h:Below n0 W J:=⟨G.os,G.tape,G.output,G.size,fun k hk=>G.block k om (fun e=>by have:=c' k e.symm;omega)⟩;refine⟨h.setCell (p:=⟨b,0,none⟩) h0 v',fun _ k ⟨c,u,hc,hu,hk⟩=>?_,fun k o hk e _ r=>⟨?_,fun ⟨c,u,hc,hu,I⟩=>?_⟩⟩
 ·cases hc
  rw[z]at hu
  cases hu
  have:=a' k hk
  simpa using this
 ·refine (Nj _ _ _ k (by simp;omega)).trans ((G.block k (Array.getElem?_eq_some_iff.1 e).1 (fun e2=>r ⟨b,v,rfl,hv,e2.symm⟩)).trans e)
 ·cases hc
  rw[z]at hu
  cases hu
  rcases hw with hw|hw
  ·exact r ⟨b,v,rfl,hv,by rw[<-hw];exact I⟩
  ·rw[hw]at I
   cases I
   have:=(Array.getElem?_eq_some_iff.1 e).1;omega
end
section
open Go.RowKit Go.Lib
def vY (w:World) (b p:Nat) (x:Int × Nat):Prop:=w.cell? ⟨b,p,none⟩=some (Mk x.1)/\w.cell? ⟨b,p+1,none⟩=some (Mk (x.2:Int))
theorem aL:jp vY:=fun _ _ _ _ _ hb ⟨h0,h⟩=>⟨aa hb h0,aa hb h⟩
abbrev fo (w:World) (v:Value) (s:Bs):Prop:=Sl vY 2 w v s
theorem mB:oV vY 2:=fun w b p x ⟨h0,G⟩ =>
 ⟨[Mk x.1,Mk (x.2:Int)],rfl,by simp[Value.oneCell'],fun j u h=>by
  match j,h with
  | 0,h=>simp at h;subst h;exact h0
  | 1,h=>simp at h;subst h;exact G
  | j+2,h=>simp at h,fun W b' I _ z=>⟨z 0 _ rfl,z 1 _ rfl⟩⟩
def SetIn (Q:Nat->Prop) (w:World) (v:Value) (s:Bs):Prop:=∃b o c,v=.slice (some ⟨b,o,none⟩) s.length c/\s.length<=c/\c<=maxLen/\s≠[]/\Q b/\∀(k:Nat) x,s[k]?=some x->vY w b (o+k*2) x
theorem SetIn.is {Q:Nat->Prop} {w:World} {v:Value} {s:Bs} (h:SetIn Q w v s):fo w v s:=by
 obtain⟨b,o,c,rfl,G,z,_,_,I⟩:=h;exact⟨_,c,rfl,G,z,fun k x hk=>⟨b,o,rfl,I k x hk⟩⟩
theorem SetIn.mono {Q Q':Nat->Prop} (hq:∀b,Q b->Q' b) {w:World} {v:Value} {s:Bs} (h:SetIn Q w v s):SetIn Q' w v s:=by
 obtain⟨b,o,c,rfl,I,z,O,G,J⟩:=h;exact⟨b,o,c,rfl,I,z,O,hq b G,J⟩
theorem SetIn.stays {Q:Nat->Prop} {w W:World} {v:Value} {s:Bs} (h:SetIn Q w v s) (G:Mm w W):SetIn Q W v s:=by
 obtain⟨b,o,c,rfl,J,z,Z,I,O⟩:=h;exact⟨b,o,c,rfl,J,z,Z,I,fun k x hk=>aL _ _ _ _ _ G (O k x hk)⟩
theorem SetIn.keep {n0 n1:Nat} {B:Option Nat} {X Y:World} (hk:aE n0 n1 B X Y) {v:Value} {s:Bs} (h:SetIn (C2 n0 n1 B X) X v s):SetIn (C2 n0 n1 B Y) Y v s:=by
 obtain⟨b,o,c,rfl,Z,O,J,G,I⟩:=h;refine⟨b,o,c,rfl,Z,O,J,?_,fun k x z=>⟨(gy hk G (I k x z).1).1,(gy hk G (I k x z).2).1⟩⟩
 cases s with
 | nil=>exact absurd rfl J
 | cons x r=>exact (gy hk G (I 0 x rfl).1).2
def SetsIn (Q:Nat->Prop) (w:World) (v:Value) (L:List Bs):Prop:=∃A c,v=.slice A L.length c/\L.length<=c/\c<=maxLen /\
 ∀(k:Nat) s,L[k]?=some s->∃b o u,A=some ⟨b,o,none⟩/\Q b/\w.cell? ⟨b,o+k,none⟩=some u/\SetIn Q w u s
theorem SetsIn.mono {Q Q':Nat->Prop} (hq:∀b,Q b->Q' b) {w:World} {v:Value} {L:List Bs} (h:SetsIn Q w v L):SetsIn Q' w v L:=by
 obtain⟨A,c,rfl,I,z,J⟩:=h;refine⟨A,c,rfl,I,z,fun k s hk=>?_⟩;obtain⟨b,o,u,e,G,O,hs⟩:=J k s hk;exact⟨b,o,u,e,hq b G,O,hs.mono hq⟩
theorem SetsIn.stays {Q:Nat->Prop} {w W:World} {v:Value} {L:List Bs} (h:SetsIn Q w v L) (z:Mm w W):SetsIn Q W v L:=by
 obtain⟨A,c,rfl,I,G,J⟩:=h;refine⟨A,c,rfl,I,G,fun k s hk=>?_⟩;obtain⟨b,o,u,e,hq,O,hs⟩:=J k s hk;exact⟨b,o,u,e,hq,aa z O,hs.stays z⟩
theorem SetsIn.keep {n0 n1:Nat} {B:Option Nat} {X Y:World} (hk:aE n0 n1 B X Y) {v:Value} {L:List Bs} (h:SetsIn (C2 n0 n1 B X) X v L):SetsIn (C2 n0 n1 B Y) Y v L:=by
 obtain⟨A,c,rfl,J,I,O⟩:=h;refine⟨A,c,rfl,J,I,fun k s z=>?_⟩;obtain⟨b,o,u,e,hq,G,hs⟩:=O k s z;exact⟨b,o,u,e,(gy hk hq G).2,(gy hk hq G).1,hs.keep hk⟩
def InS (n1:Nat) (B:Option Nat) (s:Bs) (a:Array Value) (W:World):Prop:=∃v,a=#[v]/\SetIn (fun b=>n1<=b/\¬iu W B b) W v s
end
def prV (x:Int × Nat):Value:=.agg #[Mk x.1,Mk (x.2:Int)]
def jw {α:Type} (p:α->Bool) (l:List α):Int:=if l.any p=true then (l.findIdx p:Int) else -1
theorem C7 {α:Type} {p:α->Bool} {l:List α} {k:Nat} {x:α} (h:l[k]?=some x) (hp:p x=true) (z:∀(j:Nat) (y:α),l[j]?=some y->j<k->p y=false):jw p l=k:=by
 unfold jw;obtain⟨hk,rfl⟩:=List.getElem?_eq_some_iff.1 h;rw[Mp (List.any_eq_true.2 ⟨_,Nu hk,hp⟩)];congr 1;rw[List.findIdx_eq hk];exact⟨hp,fun j G=>z j _ (Mq om) G⟩
theorem yA {α:Type} {p:α->Bool} {l:List α} (h:∀(j:Nat) (y:α),l[j]?=some y->p y=false):jw p l=-1:=by
 unfold jw;rw[Mo];rw[O6,OO];intro x G;obtain⟨j,z⟩:=List.mem_iff_getElem?.1 G
 simpa using h j x z
theorem Da {α:Type} (p:α->Bool) (l:List α):decide (0<=jw p l)=l.any p:=by
 unfold jw
 cases h:l.any p with
 | true=>rw[Mp rfl];simp
 | false=>rw[Mo jS];rfl
theorem vX (g:FuncId) (J:List Value) (p:Int × Nat->Bool) (l:Bs) (v:Value) (w:World) (hl:fo w v l) (eg:∀args W,(callFunc g args).run prog W=.ok (.enter g args) W)
  (hp:∀(W:World) (x:Int × Nat),Mm w W->x∈l->Calls prog g (prV x::J).toArray W fun e W'=>e=.returned (.bool (p x))/\Mm W W') :
  Mn 288 #[v,.func (.func g) #[] J.toArray] w (Mk (jw p l)):=by
 obtain⟨A,c,rfl,h1,h2,a'⟩:=hl;have hn:=ay h1 h2;have HL:=jD a';have HP:=jD hp;clear a' h1 h2 hp;go_enter func288,ntmps288;go_wp2_with fail
 go_loopw [8] (fun i wr=>∃k:Nat,k<=l.length/\i=Mk k/\Hid (∀(j:Nat) (y:Int × Nat),l[j]?=some y->j<k->p y=false)/\Mm w wr) (fun i _=>l.length-(intOf i).toNat)
 case atStart=>exact⟨0,Mu _,rfl,fun _ _ _ h=>absurd h om,Mr _ _⟩
 case round =>
  obtain⟨k,hk,rfl,hi,hb⟩:=hrel
  by_cases O:k<l.length
  ·obtain⟨b,o,rfl,c0,c1⟩:=HL.out k l[k] (Mq O);replace c0:=aa hb c0;replace c1:=aa hb c1;have z:=jD (Mq O);have G:Hid (l[k]∈l):=jD (Nu O);obtain⟨x,hx⟩:=jF (l[k]);rw[<-hx]at z G c0 c1;have HC:=jD (HP.out wr x hb G.out);unfold prV at HC;clear hx;have d':(k:Int)<(l.length:Int):=by omega
   obtain⟨bb,HB⟩:=eh (p x)
   cases bb with
   | true =>
    go_wp2_with fail;refine HC.out.mono ?_;rw[HB.out];rintro e w' ⟨rfl,Z⟩;go_wp2;go_ret;rw[C7 z.out HB.out hi.out];exact⟨rfl,ab hb Z⟩
   | false =>
    go_wp2_with fail;refine HC.out.mono ?_;rw[HB.out];rintro e w' ⟨rfl,Z⟩;go_wp2_with fail
    go_roundw
    case rel =>
     refine⟨k+1,by omega,by go_num,?_,ab hb Z⟩;intro j y I c';rcases Pk (Pm c') with h|h
     ·exact hi.out j y I h
     ·subst h;rw[z.out]at I;injection I with I;subst I;exact HB.out
    case measure=>simp[intOf];omega
  ·go_wp2;go_ret;rw[yA (fun j y I=>hi.out j y I (by have:=(List.getElem?_eq_some_iff.1 I).1;omega))];exact⟨rfl,hb⟩
theorem jl (g:FuncId) (h:List Value) (p:Int × Nat->Bool) (l:Bs) (v:Value) (w:World) (I:fo w v l) (J:∀args W,(callFunc g args).run prog W=.ok (.enter g args) W)
  (hp:∀(W:World) (x:Int × Nat),Mm w W->x∈l->Calls prog g (prV x::h).toArray W fun e W'=>e=.returned (.bool (p x))/\Mm W W') :
  Mn 268 #[v,.func (.func g) #[] h.toArray] w (.bool (l.any p)):=by
 have Z:=jD hp;have O:=jD I;obtain⟨A,c,rfl,-,-,-⟩:=I;clear hp;obtain⟨r,G⟩:=eh (jw p l);go_enter func268,ntmps268;go_wp2_with (go_at_call 288;refine (vX g h p l _ w O.out J Z.out).mono ?_;rw[G.out];rintro e w1 ⟨rfl,z⟩);go_ret;rw[<-Da,G.out];exact⟨rfl,z⟩
def mA (s:Bs) (i:Nat):Bool:=s.any fun y=>decide (y.2=i)
theorem zY (s t:Bs):(!eD s t)=s.any fun y=>mA t y.2:=by
 unfold eD mA
 induction s with
 | nil=>rfl
 | cons a l h=>rw[List.all_cons,List.any_cons,Bool.not_and,Bool.not_not,h]
theorem yx (s:Bs) (v:Value) (w:World) (hs:fo w v s) (h:s≠[]) :
  Mn 251 #[v] w (Mk (bW s:Int)):=by
 obtain⟨A,c,rfl,J,I,z⟩:=hs;have Z:=ay J I;obtain⟨m,hm⟩:∃m,s.length=m+1:=⟨s.length-1,by have:=List.length_pos_iff.2 h;omega⟩;obtain⟨x,G⟩:∃x,s[m]?=some x:=⟨_,Mq om⟩;obtain⟨b,o,rfl,c0,c1⟩:=z m x G;have O:bW s=x.2:=by
  unfold bW;rw[PF,hm,PM,G];rfl
 rw[O,hm];rw[hm]at Z;clear z J I O G h hm;have hw:IntKind.i64.wrap (((m+1:Nat):Int)-1)=(m:Int):=by simp[IntKind.wrap,IntKind.bits,IntKind.signed];omega
 go_enter func251,ntmps251;go_wp2;go_ret;exact⟨rfl,Mr _ _⟩
theorem He (x:Int × Nat) (i:Nat) (B:Nat) (w:World) (G:w.cell? ⟨B,0,none⟩=some (Mk (i:Int))) :
  Mn 270 #[prV x,.pointer (some ⟨B,0,none⟩)] w (.bool (decide (x.2=i))):=by
 obtain⟨a,k⟩:=x;have z:B<w.heap.size:=Ms w ⟨B,_,none⟩ G;unfold prV;simp only
 by_cases h:k=i
 ·subst h;go_enter func270,ntmps270;go_wp2;go_ret;exact⟨by simp,jB⟩
 ·have I:((k:Int)==(i:Int))=false:=by rw[Nl];omega
  rw[Nb h];go_enter func270,ntmps270;go_wp2;go_ret;exact⟨rfl,jB⟩
theorem Cg (s:Bs) (i:Nat) (v:Value) (w:World) (hs:fo w v s) :
  Mn 253 #[v,Mk (i:Int)] w (.bool (mA s i)):=by
 have J:=jD hs;obtain⟨A,c,rfl,-⟩:=hs;unfold mA;obtain⟨r,hr⟩:∃r,(s.any fun y=>decide (y.2=i))=r:=⟨_,rfl⟩;have G:=jD (fun (W:World) (I:Mm w W) (O:W.cell? ⟨w.heap.size,0,none⟩=some (Mk (i:Int))) =>
  jl 270 [.pointer (some ⟨w.heap.size,0,none⟩)] (fun y=>decide (y.2=i)) s _ W (J.out.stays aL I) (fun args W=>by rfl) (fun W' x h _=>He x i w.heap.size W' (aa h O)))
 rw[hr]at G ⊢;clear hr;go_enter func253,ntmps253;go_wp2_with fail;refine (G.out _ jB (by go_simp)).mono ?_;rintro e Z ⟨rfl,z⟩;go_wp2;go_ret;exact⟨rfl,ab (af w _) z⟩
theorem AM (x:Int × Nat) (t:Bs) (u:Value) (B:Nat) (w:World) (z:fo w u t) (O:w.cell? ⟨B,0,none⟩=some u) :
  Mn 269 #[prV x,.pointer (some ⟨B,0,none⟩)] w (.bool (mA t x.2)):=by
 obtain⟨a,k⟩:=x;have G:=jD (fun (W:World) (J:Mm w W)=>Cg t k u W (z.stays aL J));obtain⟨A,c,rfl,-⟩:=z;have I:B<w.heap.size:=Ms w ⟨B,_,none⟩ O;obtain⟨r,hr⟩:=jE (mA t k);simp only;rw[hr]at G ⊢;clear hr;unfold prV;simp only;go_enter func269,ntmps269;go_wp2_with fail;refine (G.out _ jB).mono ?_;rintro e Z ⟨rfl,h⟩;go_wp2;go_ret;exact⟨rfl,ab (af w _) h⟩
theorem DP (s t:Bs) (v u:Value) (w:World) (hs:fo w v s) (G:fo w u t) :
  Mn 252 #[v,u] w (.bool (!eD s t)):=by
 have HS:=jD hs;have HT:=jD G;obtain⟨A,c,rfl,-⟩:=hs;obtain⟨Z,O,rfl,-⟩:=G;have he:=zY s t;obtain⟨r,hr⟩:=jE (s.any fun y=>mA t y.2);have J:=jD (fun (W:World) (I:Mm w W) (hB:W.cell? ⟨w.heap.size,0,none⟩=some (.slice Z t.length O)) =>
  jl 269 [.pointer (some ⟨w.heap.size,0,none⟩)] (fun y=>mA t y.2) s _ W (HS.out.stays aL I) (fun args W=>by rfl) (fun W' x h _=>AM x t _ w.heap.size W' (HT.out.stays aL (ab I h)) (aa h hB)))
 rw[hr]at J;rw[he,hr];clear hr he;go_enter func252,ntmps252;go_wp2_with fail;refine (J.out _ jB (by go_simp)).mono ?_;rintro e w1 ⟨rfl,z⟩;go_wp2;go_ret;exact⟨rfl,ab (af w _) z⟩
section
open Go.RowKit Go.Lib
def InP (W0:World) (x:Pt) (a:Array Value) (_:World):Prop:=∃d v vc,a=#[ptV x v vc]/\aU d W0 v x.args/\aK d W0 vc x.cond.args
theorem vd (W0:World) (B:Nat) (x:Pt) (a:Array Value):OwnFrom B (fun (_:Unit) W=>InP W0 x a W):=fun _ _ _ _ h _ _=>h
theorem qp {W0:World} {x:Pt} {a:Array Value} {W:World} (h:InP W0 x a W):a.size=1:=by
 obtain⟨d,v,vc,rfl,-⟩:=h;rfl
def Cq (W0:World) (n1:Nat) (G:Option Nat) (I:List Pt) (l:Nat) (J z:Nat->World->Prop):Prop :=
 ∀(m k:Nat) (x:Pt) (a:Array Value) (h:World),I[k]?=some x->J k h->InP W0 x a h->YieldAt Fence.wide m prog l a h fun e W' =>
  (e=.returned (.bool true)/\J (k+1) W'/\aE W0.heap.size n1 G h W')\/(e=.returned (.bool false)/\z (k+1) W')
def JU (n0 n1:Nat) (z:Option Nat) (J G:Nat->World->Prop) (h n:Nat) (W:World) (e:Ending) (W':World):Prop :=
 (e=.returned (.bool true)/\J (h+n) W'/\aE n0 n1 z W W')\/(e=.returned (.bool false)/\∃k,k<h+n/\G (k+1) W')
def AtL (h P:List Pt) (z:Nat):Prop:=∀(j:Nat) y,P[j]?=some y->h[z+j]?=some y
theorem tT {l:List Pt} {k:Nat} {a:Pt} (h:l[k]?=some a):bI (l.take (k+1))=bI (l.take k)+ptN a:=by
 induction l generalizing k with
 | nil=>simp at h
 | cons b r z =>
  cases k with
  | zero=>simp at h;subst h;simp[bI]
  | succ k=>rw[Oc,Oc,bI,bI,z (jQ h)];omega
theorem Hd {l:List Pt} {k:Nat} {a:Pt} (h:l[k]?=some a):AtL (cE l) (aY a) (bI (l.take k)):=by
 induction l generalizing k with
 | nil=>simp at h
 | cons b r G =>
  intro j y z;rw[cE]
  cases k with
  | zero =>
   simp at h;subst h;simp only[List.take_zero,bI,MC];rw[MQ (List.getElem?_eq_some_iff.1 z).1];exact z
  | succ k =>
   rw[Oc,bI,M7 (by rw[fS];omega),fS];have:=G (jQ h) j y z;rw[<-this];congr 1;omega
theorem AtL.arg {G:List Pt} {x a:Pt} {z k:Nat} (h:AtL G (aY x) z) (J:x.args[k]?=some a):AtL G (aY a) (z+1+bI (x.args.take k)):=by
 intro j y I;have:=h (1+(bI (x.args.take k)+j)) y (by rw[eC,Nat.add_comm 1,OA];exact Hd J j y I);rw[<-this];congr 1;omega
theorem AtL.head {z:List Pt} {x:Pt} {G:Nat} (h:AtL z (aY x) G):z[G]?=some x:=by
 have:=h 0 x (by rw[eC];rfl)
 simpa using this
theorem mj (l:List Pt) (k:Nat):bI (l.take k)<=bI l:=by
 induction l generalizing k with
 | nil=>simp
 | cons b r h =>
  cases k with
  | zero=>simp[bI]
  | succ k=>rw[Oc,bI,bI];have:=h k;omega
def Bd (W0:World) (n1:Nat) (z:Option Nat) (I:List Pt) (l:Nat) (J G:Nat->World->Prop) (d:Nat):Prop :=
 ∀(x:Pt) (v vc:Value) (h:Nat) (W:World) (e:Nat),aU d W0 v x.args->aK e W0 vc x.cond.args->AtL I (aY x) h->Mm W0 W->n1<=W.heap.size->fA W z->J h W ->
  Calls prog 187 #[ptV x v vc,.func (.yield l) #[] #[]] W (JU W0.heap.size n1 z J G h (ptN x) W)
theorem sB (W0:World) (n1:Nat) (O:Option Nat) (x':∀b,O=some b->b<n1) (Ls:List Pt) (l:Nat) (J Jx:Nat->World->Prop) (S:Nat) (hJ:AbidesFrom S J) (hY:Cq W0 n1 O Ls l J Jx)
  (d:Nat) (g':∀d',d=d'+1->Bd W0 n1 O Ls l J Jx d'):Bd W0 n1 O Ls l J Jx d:=by
 intro x v vc I W ec hx u' k' hW hn hs n';have s':W0.heap.size<=W.heap.size:=hW.size;have c':∀b,O=some b->b<W.heap.size:=fun b z=>by have:=x' b z;omega
 have p':=kn (Nat.le_max_left d ec) hx;have F':=gE (Nat.le_max_right d ec) u';obtain⟨A,c,rfl,h1,h2,z'⟩:=hx;obtain⟨Ac,cc,rfl,-⟩:=u';have hlen:=ay h1 h2;have hN:=cX x;have HR:Hid (∀Z,Mm W Z->Z.cell? ⟨W.heap.size,1,none⟩=some (.slice A x.args.length c)->YieldAt Fence.wide (5-1) prog l #[ptV x (.slice A x.args.length c) (.slice Ac x.cond.args.length cc)] Z fun e W' =>
   (e=.returned (.bool true)/\J (I+1) W'/\W'.cell? ⟨W.heap.size,1,none⟩=some (.slice A x.args.length c)/\aE W0.heap.size n1 O W W')\/(e=.returned (.bool false)/\Jx (I+1) W')):=by
  refine jD fun Z i' c9=>?_
  refine cg (hY (5-1) I x _ Z k'.head (aS hJ n' i') ⟨max d ec,_,_,rfl,p',F'⟩) ?_;rintro e W' (⟨rfl,h1,h2⟩|⟨rfl,h1⟩)
  ·exact .inl ⟨rfl,h1,(gG h2 hn (tH hs i' c' (Mt _)) c9).1,aR (cf i' s' c') h2⟩
  ·exact .inr ⟨rfl,h1⟩
 have HC:Hid (∀(k:Nat) a,x.args[k]?=some a->∃Av cv Ac nc cc b o,A=some ⟨b,o,none⟩/\b<W0.heap.size/\(∀wr,Mm W0 wr->wr.cell? ⟨b,o+k*14,none⟩=some (Mk a.op)/\wr.cell? ⟨b,o+k*14+1,none⟩=some (.slice Av a.args.length cv) /\
    wr.cell? ⟨b,o+k*14+2,none⟩=some (Mk a.ty)/\wr.cell? ⟨b,o+k*14+3,none⟩=some (Mk a.vr)/\wr.cell? ⟨b,o+k*14+4,none⟩=some (Mk a.sc)/\wr.cell? ⟨b,o+k*14+5,none⟩=some (Mk a.sp) /\
    wr.cell? ⟨b,o+k*14+6,none⟩=some (Mk a.cond.op)/\wr.cell? ⟨b,o+k*14+7,none⟩=some (.slice Ac nc cc)/\wr.cell? ⟨b,o+k*14+8,none⟩=some (Mk a.cond.vr)/\wr.cell? ⟨b,o+k*14+9,none⟩=some (Mk a.cond.fl)/\wr.cell? ⟨b,o+k*14+10,none⟩=some (Mk a.cond.kd) /\
    wr.cell? ⟨b,o+k*14+11,none⟩=some (Mk a.cond.val.kind)/\wr.cell? ⟨b,o+k*14+12,none⟩=some (Mk a.cond.val.num)/\wr.cell? ⟨b,o+k*14+13,none⟩=some (.string a.cond.val.text)) /\
   ∀wr Z,J (I+1+bI (x.args.take k)) wr->aE W0.heap.size n1 O W wr->Mm wr Z->Calls prog 187 #[ptV a (.slice Av a.args.length cv) (.slice Ac nc cc),.func (.yield l) #[] #[]] Z fun e W' =>
    (e=.returned (.bool true)/\J (I+1+bI (x.args.take (k+1))) W'/\aE W0.heap.size n1 O W W')\/(e=.returned (.bool false)/\∃j,j<I+ptN x/\Jx (j+1) W')):=by
  refine jD fun k a ha=>?_
  obtain⟨b,o,rfl,O'⟩:=z' k a ha;obtain⟨d',e',v',Z',I',U',D',h',p0,p1,p2,p3,p4,p5,p6,p7,p8,p9,m',E',C',q'⟩:=eo O';have P':=D';have l':=h';obtain⟨Av,cv,rfl,-⟩:=D';obtain⟨Ae,ce,rfl,-⟩:=h';refine⟨Av,cv,Ae,_,ce,b,o,rfl,Ms W0 ⟨b,_,none⟩ p0,fun wr z=>⟨aa z p0,aa z p1,aa z p2,aa z p3,aa z p4,aa z p5,aa z p6,aa z p7,aa z p8,aa z p9,aa z m',aa z E',aa z C',aa z q'⟩,fun wr Z hj hk z=>?_⟩;have H':W0.heap.size<=wr.heap.size:=by have:=hk.below.size;omega
  have R':∀b,O=some b->b<wr.heap.size:=fun b z=>by have:=c' b z;have:=hk.below.size;omega
  have a':aE W0.heap.size n1 O W Z:=aR hk (cf z H' R');have ht:=tT ha;have P0:=mj x.args (k+1);refine (g' d' I' a _ _ _ Z e' P' l' (k'.arg ha) (hW.trans a'.below) (by have:=a'.below.size;omega) (a'.safe hs) (aS hJ hj z)).mono ?_;rintro e W' (⟨rfl,h4,h5⟩|⟨rfl,j,hj,h4⟩)
  ·exact .inl ⟨rfl,by rw[ht,<-NT];exact h4,aR a' h5⟩
  ·exact .inr ⟨rfl,j,by omega,h4⟩
 have HF:Hid (I+1+bI (x.args.take x.args.length)=I+ptN x/\I<I+ptN x):=jD (by rw[Nq];omega);have HW:=jD hW;obtain⟨m,hm⟩:=jF x.args.length;obtain⟨nc,A'⟩:=jF x.cond.args.length;have HM:Hid (m=x.args.length):=jD hm;have K0:Hid (n1<=W.heap.size):=jD hn;rw[<-hm]at HR HF hlen ⊢;rw[<-A']at HR ⊢;clear z' k' hY hJ x' g' hW hn hs n' s' c' p' F' h1 h2 hN hm A';unfold ptV at HR ⊢;go_enter func187,ntmps187;refine (Ok (n:=5)).1 ?_;gi_wp2;refine dx (HR.out _ jB (by go_simp)) ?_ ?_
 ·intro W5 h5;obtain⟨r',y1,y'⟩:=h5;have B':Hid (J (I+1) W5/\aE W0.heap.size n1 O W W5):=jD ⟨r',y'⟩;clear r' y';gi_wp2
  gi_loopw [14] (fun i wr=>∃k:Nat,k<=m/\i=Mk k/\Hid (J (I+1+bI (x.args.take k)) wr/\aE W0.heap.size n1 O W wr)) (fun i _=>m-(RowKit.intOf i).toNat)
  case atStart=>exact⟨0,Mu _,rfl,jD ⟨by simpa [bI] using B'.out.1,B'.out.2⟩⟩
  case round =>
   obtain⟨k,hk,rfl,hi⟩:=hrel
   by_cases J':k<m
   ·have G':(k:Int)<(m:Int):=by omega
    obtain⟨a,ha⟩:∃a,x.args[k]?=some a:=⟨_,Mq (by have:=HM.out;omega)⟩;obtain⟨Av,cv,X',V',H0,b,o,rfl,t',f',G⟩:=HC.out k a ha;unfold ptV at G;have N':=jD G;have j':=HW.out.trans hi.out.2.below;obtain⟨p0,p1,p2,p3,p4,p5,p6,p7,p8,p9,m',E',C',q'⟩:=f' wr j';have Y':b<wr.heap.size:=ME t' j'.size;have T':b≠wr.heap.size:=by omega
    have S':wr.heap.size≠b:=by omega
    clear f' G j' t' ha;gi_wp2;refine⟨trivial,callsIn_wide.2 ?_⟩;refine (N'.out wr _ hi.out.1 hi.out.2 jB).mono ?_;rintro e W6 (⟨rfl,h4,h5⟩|⟨rfl,h4⟩)
    ·have H6:=jD (And.intro h4 h5);clear h4 h5;gi_wp2
     go_roundw
     case rel=>exact⟨k+1,by omega,rfl,H6⟩
     case measure=>exact jh J'
    ·have H6:=jD h4;clear h4;gi_wp2;go_ret;exact Or.inr ⟨rfl,H6.out⟩
   ·have G':¬(k:Int)<(m:Int):=by omega
    have HE:Hid (J (I+ptN x) wr/\aE W0.heap.size n1 O W wr):=jD ⟨by have h:=hi.out.1;rw[show k=m by omega,HF.out.1]at h;exact h,hi.out.2⟩;gi_wp2;go_ret;exact Or.inl ⟨rfl,HE.out⟩
 ·intro W5 h5;have H5:=jD h5;clear h5;gi_wp2;go_ret;exact Or.inr ⟨rfl,I,HF.out.2,H5.out⟩
theorem Iq (W0:World) (n1:Nat) (G:Option Nat) (z:∀b,G=some b->b<n1) (O:List Pt) (l:Nat) (J I:Nat->World->Prop) (S:Nat) (Z:AbidesFrom S J) (hY:Cq W0 n1 G O l J I) (d:Nat):Bd W0 n1 G O l J I d:=by
 induction d with
 | zero=>exact sB W0 n1 G z O l J I S Z hY 0 (fun d' h=>by omega)
 | succ d ih=>exact sB W0 n1 G z O l J I S Z hY (d+1) (fun d' h=>NU h▸ih)
theorem dU {w:World} {x:Pt} {v vc:Value} {b:Nat} (h:Cells w b 0 (aM x v vc)):w.cell? ⟨b,0,none⟩=some (Mk x.op)/\w.cell? ⟨b,1,none⟩=some v/\w.cell? ⟨b,2,none⟩=some (Mk x.ty)/\w.cell? ⟨b,3,none⟩=some (Mk x.vr)/\w.cell? ⟨b,4,none⟩=some (Mk x.sc)/\w.cell? ⟨b,5,none⟩=some (Mk x.sp) /\
  w.cell? ⟨b,6,none⟩=some (Mk x.cond.op)/\w.cell? ⟨b,7,none⟩=some vc/\w.cell? ⟨b,8,none⟩=some (Mk x.cond.vr)/\w.cell? ⟨b,9,none⟩=some (Mk x.cond.fl)/\w.cell? ⟨b,10,none⟩=some (Mk x.cond.kd)/\w.cell? ⟨b,11,none⟩=some (Mk x.cond.val.kind)/\w.cell? ⟨b,12,none⟩=some (Mk x.cond.val.num)/\w.cell? ⟨b,13,none⟩=some (.string x.cond.val.text) :=
 ⟨h 0 _ rfl,h 1 _ rfl,h 2 _ rfl,h 3 _ rfl,h 4 _ rfl,h 5 _ rfl,h 6 _ rfl,h 7 _ rfl,h 8 _ rfl,h 9 _ rfl,h 10 _ rfl,h 11 _ rfl,h 12 _ rfl,h 13 _ rfl⟩
def KF (w:World) (x:Pt) (v vc:Value) (e:Ending) (W:World):Prop:=e=.returned (.func (.func 186) #[] #[.pointer (some ⟨w.heap.size,0,none⟩)])/\W=w.alloc (.cells (aM x v vc).toArray 31)
theorem iK (x:Pt) (A:Option Addr) (n c:Nat) (Ac:Option Addr) (z h:Nat) (w:World):Calls prog 121 #[ptV x (.slice A n c) (.slice Ac z h)] w (KF w x (.slice A n c) (.slice Ac z h)):=by
 unfold ptV;go_enter func121,ntmps121;go_wp2;go_ret;exact⟨rfl,rfl⟩
theorem iO {w:World} {x:Pt} {v vc:Value}:Cells (w.alloc (.cells (aM x v vc).toArray 31)) w.heap.size 0 (aM x v vc):=fun j u z=>by
 have h:(w.alloc (.cells (aM x v vc).toArray 31)).heap[w.heap.size]?=some (.cells (aM x v vc).toArray 31):=Nr w _;rw[MC];simp only[World.cell?,h];exact (OY ..).trans z
theorem iX (W0 w:World) (n1:Nat) (O:Option Nat) (z:∀b,O=some b->b<n1) (d:Nat) (x:Pt) (v vc:Value) (C:Nat) (hx:aU d W0 v x.args) (Z:aK d W0 vc x.cond.args) (hb:Mm W0 w) (hn:n1<=w.heap.size) (hs:fA w O) (hC:Cells w C 0 (aM x v vc)) :
  SeqC 186 #[.pointer (some ⟨C,0,none⟩)] (aY x) (InP W0) (aE W0.heap.size n1 O) w:=by
 intro l J Jx W G hJ f' hY h0;have I:∀b,O=some b->b<w.heap.size:=fun b h=>by have:=z b h;omega
 have d':fA W O:=(cf (n1:=n1) G (hb.size) I).safe hs;have c':Cells W C 0 (aM x v vc):=fun j u hj=>aa G (hC j u hj)
 have a':=jD (fun (W9:World) (h9:Mm W W9)=>Iq W0 n1 O z (aY x) l J Jx W.heap.size hJ hY d x v vc 0 W9 d hx Z (fun j y hj=>by rw[MC];exact hj) (ab (ab hb G) h9) (by have:=G.size;have:=h9.size;omega)
  ((cf (n1:=n1) h9 (by have:=hb.size;have:=G.size;omega) (fun b h=>by have:=I b h;have:=G.size;omega)).safe d') (aS hJ h0 h9))
 have HL:=jD (fS x);obtain⟨A,c,rfl,-⟩:=hx;obtain⟨Ac,cc,rfl,-⟩:=Z;obtain⟨p0,p1,p2,p3,p4,p5,p6,p7,p8,p9,j',i',h',g'⟩:=dU c';have k':C<W.heap.size:=Ms W ⟨C,_,none⟩ p0;clear c' hC hY hJ f' h0 d' hs G hb I z hn;unfold ptV at a';show Calls prog 186 #[.func (.yield l) #[] #[],.pointer (some ⟨C,0,none⟩)] W _;go_enter func186,ntmps186;go_wp2_with fail;refine (a'.out _ jB).mono ?_;rintro e W6 (⟨rfl,h4,h5⟩|⟨rfl,h4⟩)
 ·have H6:=jD h4;clear h4 h5;go_wp2;refine OI (NI rfl _ _ _) rfl ?_;exact⟨⟨_,rfl⟩,.inl (by rw[HL.out];simpa using H6.out)⟩
 ·have H6:=jD h4;clear h4;go_wp2;refine OI (NI rfl _ _ _) rfl ?_;obtain⟨k,hk,h⟩:=H6.out;exact⟨⟨_,rfl⟩,.inr ⟨k,by rw[HL.out];omega,h⟩⟩
end
theorem GV (w:World) (base:Nat) (e:TypeId) (sz:Nat) (xs:List Value) (h:base<=w.heap.size) (z:xs.length=sz):(w.alloc (.cells xs.toArray e)).ownsRow base e sz (.slice (some ⟨w.heap.size,0,none⟩) 1 1) 1 xs :=
 ⟨by simp[z],.inr ⟨w.heap.size,1,xs.toArray,rfl,h,Nr w _,Mt _,by decide,by simp[z],by rw[Oq,<-z];exact Nq⟩⟩
def NdsRet (W0 w:World) (D:Nat) (l:List Pt) (e:Ending) (W:World):Prop :=
 ∃v xs,e=.returned v/\W.ownsRow w.heap.size 31 14 v l.length xs/\Means (kR D) 14 W0 xs l/\Mm w W
theorem NdsRet.is {W0 w:World} {D:Nat} {l:List Pt} {e:Ending} {W:World} (h:NdsRet W0 w D l e W) (J:Mm W0 w):∃v,e=.returned v/\aU D W v l/\Mm w W:=by
 obtain⟨v,xs,rfl,I,G,z⟩:=h;exact⟨v,rfl,dr G (ab J z) I,z⟩
theorem FJ {D E:Nat} (h:D<=E) {w:World} {xs:List Value} {l:List Pt} (hm:Means (kR D) 14 w xs l):Means (kR E) 14 w xs l :=
 ⟨hm.1,hm.2.1,fun W b o z G k x hk=>BF h (hm.2.2 W b o z G k x hk)⟩
theorem AL {l:List Pt} {k:Nat} {a:Pt} (h:l[k]?=some a):cE (l.take (k+1))=cE (l.take k)++aY a:=by
 induction l generalizing k with
 | nil=>simp at h
 | cons b r z =>
  cases k with
  | zero=>simp at h;subst h;simp[cE]
  | succ k=>rw[Oc,Oc,cE,cE,z (jQ h),OC]
def Ip (W0:World) (d:Nat):Prop:=∀(x:Pt) (v vc:Value) (w:World),aU d W0 v x.args->aK d W0 vc x.cond.args->ptN x<=1048576->Mm W0 w ->
 Calls prog 89 #[ptV x v vc] w (NdsRet W0 w (d+3) (aY x))
theorem qb (W0:World) (d:Nat) (c':∀d',d=d'+1->Ip W0 d'):Ip W0 d:=by
 intro x v vc w hx y' hN hW;have HX:=jD (zU (kn (show d<=d+1+1 by omega) hx) (gE (show d<=d+1 by omega) y'));obtain⟨A,c,rfl,h1,h2,z'⟩:=hx;obtain⟨Ac,cc,rfl,-⟩:=y';obtain⟨i0,hi,H',Y',U'⟩:=Np FX;have hlen:=ay h1 h2;have HC:Hid (∀(k:Nat) a,x.args[k]?=some a->∃Av cv Ac nc cc b o,A=some ⟨b,o,none⟩/\b<W0.heap.size/\(∀wr,Mm W0 wr->wr.cell? ⟨b,o+k*14,none⟩=some (Mk a.op)/\wr.cell? ⟨b,o+k*14+1,none⟩=some (.slice Av a.args.length cv) /\
    wr.cell? ⟨b,o+k*14+2,none⟩=some (Mk a.ty)/\wr.cell? ⟨b,o+k*14+3,none⟩=some (Mk a.vr)/\wr.cell? ⟨b,o+k*14+4,none⟩=some (Mk a.sc)/\wr.cell? ⟨b,o+k*14+5,none⟩=some (Mk a.sp) /\
    wr.cell? ⟨b,o+k*14+6,none⟩=some (Mk a.cond.op)/\wr.cell? ⟨b,o+k*14+7,none⟩=some (.slice Ac nc cc)/\wr.cell? ⟨b,o+k*14+8,none⟩=some (Mk a.cond.vr)/\wr.cell? ⟨b,o+k*14+9,none⟩=some (Mk a.cond.fl)/\wr.cell? ⟨b,o+k*14+10,none⟩=some (Mk a.cond.kd) /\
    wr.cell? ⟨b,o+k*14+11,none⟩=some (Mk a.cond.val.kind)/\wr.cell? ⟨b,o+k*14+12,none⟩=some (Mk a.cond.val.num)/\wr.cell? ⟨b,o+k*14+13,none⟩=some (.string a.cond.val.text)) /\
   ∀w9,Mm W0 w9->Calls prog 89 #[ptV a (.slice Av a.args.length cv) (.slice Ac nc cc)] w9 (NdsRet W0 w9 (d+3) (aY a))):=by
  refine jD fun k a ha=>?_
  obtain⟨b,o,rfl,R'⟩:=z' k a ha;obtain⟨d',e',v',X0,E',P0,B',g',p0,p1,p2,p3,p4,p5,p6,p7,p8,p9,i',q',p',k'⟩:=eo R';have T':=B';have t':=g';obtain⟨Av,cv,rfl,-⟩:=B';obtain⟨Ae,ce,rfl,-⟩:=g';have F':ptN a<=1048576:=by have:=oQ ha;have:=cX x;omega
  refine⟨Av,cv,Ae,_,ce,b,o,rfl,Ms W0 ⟨b,_,none⟩ p0,fun wr z=>⟨aa z p0,aa z p1,aa z p2,aa z p3,aa z p4,aa z p5,aa z p6,aa z p7,aa z p8,aa z p9,aa z i',aa z q',aa z p',aa z k'⟩,fun w9 h9=>(c' d' E' a _ _ w9 T' (gE om t') F' h9).mono ?_⟩;rintro e W ⟨v,xs,rfl,g1,g2,g3⟩;exact⟨v,xs,rfl,g1,FJ om g2,g3⟩
 have HW:=jD hW;have HN:=jD hN;obtain⟨m,hm⟩:=jF x.args.length;obtain⟨nc,m'⟩:=jF x.cond.args.length;have HM:Hid (m=x.args.length):=jD hm;rw[<-hm]at hlen ⊢;rw[<-hm,<-m']at HX;rw[<-m'];clear z' c' hW hN h1 h2 hm m';unfold ptV;go_enter func89,ntmps89;go_wp2;refine bg fun w2 e2=>?_
 have y1:Ml w2 w.heap.size 1 (.slice A m c):=jG e2;have f':w2.ownsRow (w.heap.size+1) 31 14 (.slice (some ⟨w.heap.size+1,0,none⟩) 1 1) 1 (aM x (.slice A m c) (.slice Ac nc cc)):=by
  rw[e2];have h:=GV (w.alloc (.cells (aM x (.slice A m c) (.slice Ac nc cc)).toArray 31)) (w.heap.size+1) 31 14 (aM x (.slice A m c) (.slice Ac nc cc)) jS rfl;rw[Oo]at h;exact h
 have j':w2.heap.size=w.heap.size+2:=by rw[e2];simp
 have N':Hid (Mm w w2):=jD (gb e2);clear e2;have V':=jD f';have I':=jD j';clear f' j'
 go_loopw [3,4] (fun o i wr=>∃(k n:Nat) (xs:List Value),k<=m/\i=Mk k/\Hid (wr.ownsRow (w.heap.size+1) 31 14 o n xs)/\Hid (n=1+bI (x.args.take k)/\Means (kR (d+3)) 14 W0 xs (x::cE (x.args.take k))/\Below (w.heap.size+1) w2 wr)) (fun _ i _=>m-(intOf i).toNat)
 case atStart=>exact⟨0,1,_,Mu _,rfl,V',jD ⟨by simp[bI],by simpa [cE] using HX.out,Mr _ _⟩⟩
 case round =>
  obtain⟨k,n,xs,hk,rfl,I,hI⟩:=hrel;have z:=hI.out.2.2;have z1:Ml wr w.heap.size 1 (.slice A m c):=(z.cell (p:=⟨w.heap.size,1,none⟩) (Nat.lt_succ_self _)).trans y1;have Z:Mm w wr:=N'.out.trans (z.mono om);obtain⟨Ar,cr,rfl⟩:=aH I.out
  by_cases Q0:k<m
  ·have C':(k:Int)<(m:Int):=by omega
   obtain⟨a,ha⟩:∃a,x.args[k]?=some a:=⟨_,Mq (by have:=HM.out;omega)⟩;obtain⟨Av,cv,U0,S0,Y0,b,o,rfl,P',a',G⟩:=HC.out k a ha;unfold ptV at G;have J':=jD G;have l':=ab HW.out Z;obtain⟨p0,p1,p2,p3,p4,p5,p6,p7,p8,p9,i',q',p',k'⟩:=a' wr l';have Z':=jD l';have HA:=jD ha;have E1:=jD Z;have x':=z.size;clear a' G l' P' ha Z z;go_wp2_with fail;refine (J'.out wr Z'.out).mono ?_;rintro e w4 ⟨v4,ys,rfl,r',h',s'⟩;obtain⟨A4,c4,rfl,-,-,O⟩:=dQ r' h'.2.1;obtain⟨p,hp⟩:=jF ((aY a).length);rw[<-hp]at O r' ⊢;have u':=s'.size;have J:Hid (n+p=1+bI (x.args.take (k+1))/\n+p<=1048576/\w.heap.size+1<=w4.heap.size/\w.heap.size+1<=wr.heap.size/\w.heap.size+1<=w2.heap.size):=jD (by
    have Z0:=tT HA.out;have hle:=mj x.args (k+1);have K0:=cX x;have A1:=HN.out;have R0:=hI.out.1;have V0:(aY a).length=ptN a:=fS a;have j':=I'.out;omega)
   clear hp u' x';have X':=jD O;have S':=jD h';have A':=jD s';clear O h' r' s' p0 p1 p2 p3 p4 p5 p6 p7 p8 p9 i' q' p' k';go_wp2_with (at_builtin;refine bA _ rfl (.tmp 14) (.tmp 20) 24 rfl (w.heap.size+1) 31 i0 _ 14 152 underlying24 hi H' Y' U' rfl dc (.slice Ar n cr) n xs rfl (ao I.out A'.out) A4 p c4 ys rfl X'.out (by have:=J.out;unfold maxLen;omega) (by have:=J.out;omega) (by have:=J.out;omega) ?_;intro v8 w8 n' H0 O');have D':Below (w.heap.size+1) w2 w8:=(hI.out.2.2.trans (A'.out.mono (by have:=J.out;omega))).trans (au H0 (by have:=J.out;omega) (fun g h=>(ag I.out h).1));refine⟨⟨k+1,n+p,xs++ys,by omega,by go_num,jD n',jD ⟨J.out.1,?_,D'⟩⟩,by simp[intOf];omega⟩;rw[AL HA.out,<-Oi];exact hI.out.2.1.app S'.out
  ·have C':¬(k:Int)<(m:Int):=by omega
   have G':k=m:=by omega
   have HF:Hid (NdsRet W0 w (d+3) (aY x) (.returned (.slice Ar n cr)) wr):=jD (by
    have h1:=hI.out;rw[G',HM.out,Nq]at h1;refine⟨_,xs,rfl,?_,?_,Z⟩
    ·rw[fS,cX,<-h1.1];exact uf I.out om
    ·rw[eC];exact h1.2.1)
   go_wp2;go_ret;exact HF.out
theorem ni (W0:World) (d:Nat):Ip W0 d:=by
 induction d with
 | zero=>exact qb W0 0 (fun G h=>by omega)
 | succ d z=>exact qb W0 (d+1) (fun G h=>NU h▸z)
end Go.Proofs.YtbjicljfjkdeeaaGreatDoor
