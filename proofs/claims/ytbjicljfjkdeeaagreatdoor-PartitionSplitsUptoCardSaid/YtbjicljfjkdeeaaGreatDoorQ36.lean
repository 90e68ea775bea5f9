/- Part. -/
import Derived.Test.YtbjicljfjkdeeaaGreatDoorQ32
set_option maxRecDepth 100000
set_option maxHeartbeats 16000000
set_option linter.unusedVariables false
set_option linter.unusedSimpArgs false
namespace Go.Proofs.YtbjicljfjkdeeaaGreatDoor
open Go.Proofs.Tryz Go.RowKit
section
open Go.RowKit Go.Lib
def PartsIn (Q:Nat->Prop) (w:World) (v:Value) (h:List (List Bs)):Prop:=∃A c,v=.slice A h.length c/\h.length<=c/\c<=maxLen /\
 ∀(k:Nat) p,h[k]?=some p->∃b o u,A=some ⟨b,o,none⟩/\Q b/\w.cell? ⟨b,o+k,none⟩=some u/\SetsIn Q w u p
theorem PartsIn.keepO {n0 n1:Nat} {B:Option Nat} {X Y:World} {v:Value} {G:List (List Bs)} (hk:aE n0 n1 B X Y) (h:PartsIn (Own n1 B X) X v G):PartsIn (Own n1 B Y) Y v G:=by
 obtain⟨A,c,rfl,O,J,Z⟩:=h;refine⟨A,c,rfl,O,J,fun k s z=>?_⟩;obtain⟨b,o,u,e,hq,I,hs⟩:=Z k s z;exact⟨b,o,u,e,(bQ hk hq I).2,(bQ hk hq I).1,hs.keepO hk⟩
theorem PartsIn.tail {Q:Nat->Prop} {w:World} {b o n c:Nat} {p:List Bs} {ps:List (List Bs)} (h:PartsIn Q w (.slice (some ⟨b,o,none⟩) n c) (p::ps)):PartsIn Q w (.slice (if c=1 then some ⟨b,o,none⟩ else some ⟨b,o+1,none⟩) (n-1) (c-1)) ps:=by
 obtain⟨A,c',e,J,h2,O⟩:=h;injection e with G z Z;subst G z Z;rw[MG]at J;refine⟨_,c-1,by rw[MG,PM],by omega,by omega,fun k q hq=>?_⟩;have hl:=(List.getElem?_eq_some_iff.1 hq).1;obtain⟨b',o',u,e,I,hc,hs⟩:=O (k+1) q (by rw[OA];exact hq);injection e with e;injection e with G z;subst G z;exact⟨b,o+1,u,by rw[Mo om],I,by rw[show o+1+k=o+(k+1) by omega];exact hc,hs⟩
def WithIn (Q:Nat->Prop) (w:World) (v:Value) (s:Bs):Prop:=(s=[]/\v=.slice none 0 0)\/SetIn Q w v s
theorem WithIn.is {Q:Nat->Prop} {w:World} {v:Value} {s:Bs} (h:WithIn Q w v s):fo w v s:=by
 rcases h with ⟨rfl,rfl⟩|h
 ·exact Sl.nil _ _ _ _ _ (Mu _)
 ·exact h.is
theorem WithIn.form {Q:Nat->Prop} {w:World} {v:Value} {s:Bs} (h:WithIn Q w v s):∃A c,v=.slice A s.length c:=by
 rcases h with ⟨rfl,rfl⟩|h
 ·exact⟨_,_,rfl⟩
 ·exact h.form
def AtB (h P:List Bs) (z:Nat):Prop:=∀(j:Nat) y,P[j]?=some y->h[z+j]?=some y
def AZ (ps:List (List Bs)) (w s:Bs):List Bs:=if eD w s=true then fh ps (aA w s) else []
theorem sY (p:List Bs) (ps:List (List Bs)) (w:Bs):fh (p::ps) w=p.flatMap (AZ ps w):=by
 rw[fh];unfold AZ
 induction p with
 | nil=>rfl
 | cons a p z =>
  rw[List.filter_cons,MM]
  by_cases h:eD w a=true
  ·rw[Mp h,Mp h,MM,z]
  ·rw[Mo h,Mo h,z];rfl
theorem AtB.part {G p:List Bs} {ps:List (List Bs)} {w s:Bs} {z k:Nat} (h:AtB G (fh (p::ps) w) z) (hs:p[k]?=some s) (O:eD w s=true):AtB G (fh ps (aA w s)) (z+dE (AZ ps w) p k 0):=fun j y I=>by
 rw[sY]at h;have J:=h _ y (oO (F:=AZ ps w) (j:=j) hs (by unfold AZ;rw[Mp O];exact I));rw[<-J];unfold dE;congr 1;omega
def zt (n0 n1:Nat) (B:Option Nat) (J z:Nat->World->Prop) (h n:Nat) (W:World) (e:Ending) (W':World):Prop :=
 ∃t,e=.returned (.bool t)/\(t=true->J (h+n) W'/\aE n0 n1 B W W')/\(t=false->∃k,k<h+n/\z (k+1) W')
def Cc (V:List Int) (i m n0 n1:Nat) (B:Option Nat) (Z:List Bs) (l:Nat) (J O:Nat->World->Prop) (h:List (List Bs)):Prop:=∀(w:Bs) (G I:Value) (z:Nat) (W:World),PartsIn (Own n1 B W) W G h->WithIn (Own n1 B W) W I w->(w≠[]->SetV V i m w)->(w≠[]\/h≠[]) ->
 AtB Z (fh h w) z->n0<=n1->n1<=W.heap.size->fA W B->J z W->Calls prog 205 #[G,I,.func (.yield l) #[] #[]] W (zt n0 n1 B J O z (fh h w).length W)
theorem qF (V:List Int) (i m n0 n1:Nat) (B:Option Nat) (Z':∀k,B=some k->k<n1) (A1:dR V m) (Ls:List Bs) (l:Nat) (J Jx:Nat->World->Prop) (S:Nat) (hJ:AbidesFrom S J)
  (hY:∀(q k:Nat) (x:Bs) (a:Array Value) (W1:World),Ls[k]?=some x->J k W1->InS n1 B x a W1->YieldAt Fence.wide q prog l a W1 fun e W'=>(e=.returned (.bool true)/\J (k+1) W'/\aE n0 n1 B W1 W')\/(e=.returned (.bool false)/\Jx (k+1) W'))
  (PS:List (List Bs)) (D':∀p∈PS,∀s∈p,SetV V i m s) (g':∀p ps,PS=p::ps->Cc V i m n0 n1 B Ls l J Jx ps):Cc V i m n0 n1 B Ls l J Jx PS:=by
 intro w vp vw k0 W hp hw F' z' p' h0 hn E' k'
 cases PS with
 | nil =>
  obtain⟨A,c,rfl,-⟩:=hp;have s':w≠[]:=z'.resolve_right jS;have hws:SetIn (Own n1 B W) W vw w:=by
   rcases hw with ⟨h,-⟩|h
   ·exact absurd h s'
   ·exact h
  have R':=jD (fun (h:Unit)=>hY (5-1) k0 w #[vw] W (by have:=p' 0 w rfl;simpa using this) k' ⟨vw,rfl,hws⟩);obtain⟨Aw,cw,rfl⟩:=hws.form;have HK:Hid ((fh [] w).length=1):=jD rfl;obtain⟨nw,a'⟩:∃n,n=w.length:=⟨_,rfl⟩;rw[<-a']at R' ⊢;clear hw F' z' p' E' k' hY hJ g' D' s' hws a' Z';rw[HK.out];go_enter func205,ntmps205;refine (Ok (n:=5)).1 ?_;gi_wp2;refine dx (R'.out ()) (fun W7 h7=>?_) (fun W7 h7=>?_)
  ·have H7:=jD h7;clear h7;gi_wp2;go_ret;exact⟨true,rfl,fun _=>H7.out,fun h=>by cases h⟩
  ·have H7:=jD h7;clear h7;gi_wp2;go_ret;exact⟨false,rfl,fun h=>(by cases h),fun _=>⟨k0,by omega,H7.out⟩⟩
 | cons p ps =>
  have t':=g' p ps rfl;have Y0:=jD t';have HW:=jD hw;have P0:=jD F';have U0:=jD p';have E1:Hid (∀s∈p,SetV V i m s):=jD (D' p (Mz ..));have HJ:=jD hJ;have Z:=jD (And.intro h0 (And.intro hn (And.intro E' Z')));have Y':Hid (∀b o n c,vp=.slice (some ⟨b,o,none⟩) n c->∀wr,aE n0 n1 B W wr->PartsIn (Own n1 B wr) wr (.slice (if c=1 then some ⟨b,o,none⟩ else some ⟨b,o+1,none⟩) (n-1) (c-1)) ps):=jD fun b o n c e wr hk=>by
   subst e;exact PartsIn.tail (PartsIn.keepO hk hp)
  obtain⟨A,c,rfl,c1,c2,U'⟩:=hp;obtain⟨pb,po,up,rfl,V0,y',B'⟩:=U' 0 p rfl;rw[Nc]at y';have H':=jD B';obtain⟨A4,c4,rfl,X0⟩:=B'.form;obtain⟨Aw,cw,rfl⟩:=hw.form;obtain⟨nw,a'⟩:∃n,n=w.length:=⟨_,rfl⟩;obtain⟨n,c'⟩:=jF ((p::ps).length);obtain⟨n4,C'⟩:∃n,n=p.length:=⟨_,rfl⟩;have M1:(n==0)=false:=by rw[c',MG];simp
  have T1:((n:Int)==0)=false:=by rw[Nl,c',MG];omega
  have Y1:(0:Int)<(n:Int):=by rw[c',MG];omega
  have S1:0<n:=by omega
  have U1:(1:Int)<=(n:Int):=by omega
  have X1:1<=n:=by omega
  have P1:n<=c:=by omega
  have K1:(n:Int)<=(c:Int):=by omega
  have O':=jD C';have G':=ay c1 c2;rw[<-a']at HW;rw[<-c']at G' Y';rw[<-C']at H' X0 y';have V1:=Ms W ⟨pb,_,none⟩ y';have S0:Hid (J k0 W):=jD k';obtain⟨F,hF⟩:=jF (AZ ps w);have HF:=jD hF;have T':Hid ((fh (p::ps) w).length=(p.flatMap F).length):=jD (by rw[sY,hF]);rw[T'.out];obtain⟨Z0,f'⟩:∃t,t=(p.flatMap F).length:=⟨_,rfl⟩;have u':=jD f';rw[<-f',<-a',<-c'];obtain⟨vw,P'⟩:∃t,t=Value.slice Aw nw cw:=⟨_,rfl⟩;rw[<-P']at HW ⊢;clear g' t' hw F' p' D' hJ z' h0 hn E' U' V0 B' c1 c2 a' c' C' k' hF f' P' hY;go_enter func205,ntmps205;refine (Ok (n:=5)).1 ?_;gi_wp2
  gi_loopw [19] (fun t wr=>∃k:Nat,k<=n4/\t=Mk k/\Hid (J (k0+dE F p k 0) wr/\aE n0 n1 B W wr)) (fun t _=>n4-(RowKit.intOf t).toNat)
  case atStart=>exact⟨0,Mu _,rfl,jD ⟨by rw[yW];exact S0.out,eO _ _ _ _⟩⟩
  case round =>
   obtain⟨k,hk,rfl,O⟩:=hrel
   by_cases N':k<n4
   ·have R0:(k:Int)<(n4:Int):=by omega
    obtain⟨s,hs⟩:∃s,p[k]?=some s:=⟨_,Mq (by have:=O'.out;omega)⟩;have J':=MI hs;have G:=E1.out s J';have HS:=jD (And.intro hs G);obtain⟨sb,so,us,rfl,S',r'⟩:=(SetsIn.keepO O.out.2 H'.out).at hs;have R1:=Ms wr ⟨sb,_,none⟩ S';have I':Hid (WithIn (Own n1 B wr) wr vw w):=jD (by rcases HW.out with h|h;exact .inl h;exact .inr (SetIn.keepO O.out.2 h));have q':=jD (fun (W9:World) (h9:Mm wr W9)=>DP w s vw us W9 (I'.out.is.stays aL h9) (r'.is.stays aL h9));have h':Hid (eD w s=true->∀W9,Mm wr W9->Calls prog 250 #[vw,us] W9 (mz W9 (aA w s))):=by
     refine jD fun ha W9 h9=>?_
     have h6:=A1.len;have Q1:=G.n63;have H0:w.length<=m/\zX w/\∀y∈w,y.2<m:=by
      by_cases i':w=[]
      ·subst i';exact⟨Mu _,List.Pairwise.nil,fun y hy=>by simp at hy⟩
      ·have:=P0.out i';exact⟨this.n63,this.ok.2.1,fun y hy=>(this.ok.2.2 y hy).2⟩
     refine lR w s vw us W9 (I'.out.is.stays aL h9) (r'.is.stays aL h9) H0.2.1 G.ok.2.1 (qW ha) G.ok.1 (fun y hy=>?_) om;rcases List.mem_append.1 hy with hy|hy
     ·have:=H0.2.2 y hy;omega
     ·have:=(G.ok.2.2 y hy).2;omega
    have d':n1<=wr.heap.size/\fA wr B:=⟨by have:=O.out.2.below.size;have:=Z.out.2.1;omega,O.out.2.safe Z.out.2.2.1⟩;have n':Hid (eD w s=true->∀(w6:World) (v6:Value) {W5:World},Mm wr w6->wr.heap.size<=W5.heap.size->SetIn (fun q=>W5.heap.size<=q) w6 v6 (aA w s)->Calls prog 205 #[.slice (if c=1 then some ⟨pb,po,none⟩ else some ⟨pb,po+1,none⟩) (n-1) (c-1),v6,.func (.yield l) #[] #[]] w6
      (zt n0 n1 B J Jx (k0+dE F p k 0) (fh ps (aA w s)).length w6)):=by
     refine jD fun ha w6 v6 W5 h6 h5 j'=>?_
     have l':aE n0 n1 B wr w6:=cf h6 (by have:=d'.1;have:=Z.out.1;omega) (fun b hb=>by have:=Z.out.2.2.2 b hb;have:=d'.1;omega);have X':SetV V i m (aA w s):=by
      by_cases i':w=[]
      ·subst i';rw[lF];exact G
      ·exact (P0.out i').mergeP G (qW ha)
     refine Y0.out (aA w s) _ v6 _ w6 (Y'.out _ _ _ _ rfl w6 (aR O.out.2 l')) (.inr (j'.mono fun q hq=>?_)) (fun _=>X') (.inl X'.ok.1) (by rw[HF.out];exact U0.out.part hs ha) Z.out.1 (by have:=h6.size;omega) (l'.safe d'.2) (aS HJ.out O.out.1 h6);exact iQ d'.1 d'.2 h6 Z.out.2.2.2 om
    have m':Hid (dE F p (k+1) 0=dE F p k 0+(if eD w s=true then fh ps (aA w s) else []).length):=jD (by rw[nj hs,HF.out];unfold dE AZ;omega);have F1:=jD (I3 F p (k+1));obtain⟨Au,cu,rfl⟩:=r'.form;obtain⟨ns,Q0⟩:∃n,n=s.length:=⟨_,rfl⟩;obtain⟨q,hq⟩:=jF (eD w s);rw[<-Q0]at q' h' S';rw[<-hq]at q' h' n' m';clear hs J' G r' Q0 hq d';gi_wp2
    cases q with
    | false =>
     refine wpIn_wide.2 ?_;refine wp_region_noPanic ?_;refine wp_region_held_drew (S:=(fun _:World=>True)) kr (trivial) (fun z=>?_);refine tkH [0,1] ?_;refine nxH 2 (fun K hK=>?_)
     focus (go_simp;refine (q'.out _ (Mr _ _).drew).mono ?_;rintro e w5 ⟨rfl,I⟩)
     refine hK.out _ _ (trivial) (fun z=>?_);clear hK K;refine tkH [3,4] ?_;refine tkS [5,6,7,8,9,10,11,12] ?_;refine tkH [13] ?_;refine dn ?_;gi_wp2
     go_roundw
     case rel=>exact⟨k+1,by omega,by go_num,jD ⟨by rw[m'.out,Mo jS,Og,Nc];exact aS HJ.out O.out.1 (ab (Mr _ _).drew I),aR O.out.2 (cf (ab (Mr _ _).drew I) (by have:=O.out.2.below.size;have:=Z.out.1;have:=Z.out.2.1;omega) (fun b hb=>by have:=Z.out.2.2.2 b hb;have:=O.out.2.below.size;have:=Z.out.2.1;omega))⟩⟩
     case measure=>exact jh N'
    | true =>
     have x':Hid (dE F p (k+1) 0=dE F p k 0+(fh ps (aA w s)).length):=jD (by rw[m'.out,Mp rfl]);clear m';replace h':=jD (h'.out rfl);replace n':=jD (fun w6 v6 {W5} h1 h2 h3=>n'.out rfl w6 v6 (W5:=W5) h1 h2 h3);refine wpIn_wide.2 ?_;refine wp_region_noPanic ?_;refine wp_region_held_drew (S:=(fun _:World=>True)) kr (trivial) (fun z=>?_);refine tkH [0,1] ?_;refine nxH 2 (fun K hK=>?_)
     focus (go_simp;refine (q'.out _ (Mr _ _).drew).mono ?_;rintro e w5 ⟨rfl,I⟩)
     refine hK.out _ _ (trivial) (fun z=>?_);clear hK K;refine tkH [3,4,5,6,7,8,10] ?_;refine nxH 9 (fun K hK=>?_)
     focus (go_simp;refine (h'.out _ (ab (Mr _ _).drew I)).mono ?_;rintro e w6 ⟨v6,rfl,j',A'⟩)
     refine hK.out _ _ (trivial) (fun z=>?_);clear hK K;refine nxH 11 (fun K hK=>?_)
     focus (go_simp;refine (n'.out w6 v6 (ab (ab (Mr _ _).drew I) A') (ab (Mr _ _).drew I).size j').mono ?_;rintro e w7 ⟨t7,rfl,hT,hF⟩)
     refine hK.out _ _ (trivial) (fun z=>?_);clear hK K;refine tkH [12,13] ?_;refine dn ?_;have V':=ab (ab (Mr _ wr).drew I) A';have HT:=jD hT;have G1:=jD hF;have l':aE n0 n1 B wr w6:=cf V' (by have:=O.out.2.below.size;have:=Z.out.1;have:=Z.out.2.1;omega) (fun b hb=>by have:=Z.out.2.2.2 b hb;have:=O.out.2.below.size;have:=Z.out.2.1;omega);clear hT hF I A' j';obtain⟨tv,K0⟩:∃t,t=Value.slice (if c=1 then some ⟨pb,po,none⟩ else some ⟨pb,po+1,none⟩) (n-1) (c-1):=⟨_,rfl⟩;rw[<-K0];clear K0
     cases t7 with
     | true =>
      gi_wp2
      go_roundw
      case rel=>exact⟨k+1,by omega,by go_num,jD ⟨by rw[x'.out,<-NT];exact (HT.out (by trivial)).1,aR O.out.2 (aR l' (HT.out (by trivial)).2)⟩⟩
      case measure=>exact jh N'
     | false =>
      gi_wp2;go_ret;refine⟨false,rfl,fun h=>(by cases h),fun _=>?_⟩;obtain⟨j,hj,hx⟩:=G1.out (by trivial);exact⟨j,by have:=x'.out;have:=F1.out;rw[u'.out];omega,hx⟩
   ·have R0:¬(k:Int)<(n4:Int):=by omega
    obtain rfl:k=n4:=by omega
    have HE:Hid (J (k0+Z0) wr/\aE n0 n1 B W wr):=jD ⟨by have h:=O.out.1;rw[O'.out,ri,<-u'.out]at h;exact h,O.out.2⟩;gi_wp2;go_ret;exact⟨true,rfl,fun _=>HE.out,fun h=>by cases h⟩
theorem sA (V:List Int) (i m n0 n1:Nat) (B:Option Nat) (z:∀k,B=some k->k<n1) (G:dR V m) (O:List Bs) (l:Nat) (J I:Nat->World->Prop) (S:Nat) (hJ:AbidesFrom S J)
  (hY:∀(q k:Nat) (x:Bs) (a:Array Value) (Z:World),O[k]?=some x->J k Z->InS n1 B x a Z->YieldAt Fence.wide q prog l a Z fun e W'=>(e=.returned (.bool true)/\J (k+1) W'/\aE n0 n1 B Z W')\/(e=.returned (.bool false)/\I (k+1) W')) :
  ∀(PS:List (List Bs)),(∀p∈PS,∀s∈p,SetV V i m s)->Cc V i m n0 n1 B O l J I PS
 | [],hPS=>qF V i m n0 n1 B z G O l J I S hJ hY [] hPS (fun p ps h=>by cases h)
 | p::ps,hPS=>qF V i m n0 n1 B z G O l J I S hJ hY (p::ps) hPS (fun p' a' h=>by
   injection h with h1 h2;subst h1 h2;exact sA V i m n0 n1 B z G O l J I S hJ hY ps (fun q hq=>hPS q (MD _ hq)))
end
section
open Go.RowKit Go.Lib
theorem iU {F:Fence} {n:Nat} {P:Program} (w:World) {ops:Array Oper} {rest:List Oper} {o:Oper} {a:Act} {Q:Exit->Act->World->Prop}
  (hg:o.guard=none) (s x:Operand) (t:TypeId) (h:o.op=Op.call { callee:=Callee.builtin Builtin.append,args:=#[s,x],argTypes:=#[t,t] })
  (base:Nat) (e:TypeId) (i:TypeInfo) (z:Value) (size bytes:Nat) (h1:P.underlying t=some (.slice e)) (h2:P.info? e=some i) (h3:i.zero=some z) (h4:i.size=size) (h5:i.bytes=bytes) (h6:z.cells.size=size) (h7:0<size)
  (v:Value) (k:Nat) (xs:List Value) (hs:a.eval s=v) (G:w.ownsRow base e size v k xs) (A:Option Addr) (m c:Nat) (news:List Value) (hx:a.eval x=.slice A m c) (J:Src w A m size news) (b1:k+m<=maxLen) (b2:(k+m)*bytes<=140737488355328) (b3:base<=w.heap.size)
  (hK:∀v' w',w'.ownsRow base e size v' (k+m) (xs++news)->w.grownBy w' v.ownBlock->(v'.ownBlock=v.ownBlock\/v'.ownBlock=some w.heap.size)->wpListIn F n P ops Q rest (a.put o.dst v') w') :
  wpListIn F n P ops Q (o::rest) a w:=by
 refine wpListIn_plain hg fun K Z=>?_
 obtain⟨v',w',I,r1,r2,r3⟩:=pk (P:=P) w base t o.type e i z size bytes h1 h2 h3 h4 h5 h6 h7 v k xs G A m c news J b1 b2 b3;unfold Oper.wpIn;refine⟨?_,?_⟩
 ·simp[Oper.about,h,resolve,Target.leads,NE]
 ·rw[Oper.semAt_plain F _ _ (by rw[h];intro c O;cases O)];simp[execOp,h,resolve,invoke,builtin,hs,hx,I,Result.andThen];exact Z _ _ (hK v' w' r1 r2 r3)
theorem SetsIn.keepQ {Q Q':Nat->Prop} {w W:World} {v:Value} {L:List Bs} (h:SetsIn Q w v L) (hk:∀b,Q b->b<w.heap.size->W.heap[b]?=w.heap[b]?/\Q' b):SetsIn Q' W v L:=by
 obtain⟨A,c,rfl,J,I,Z⟩:=h;refine⟨A,c,rfl,J,I,fun k s hs=>?_⟩;obtain⟨b,o,u,e,hq,G,hu⟩:=Z k s hs;obtain⟨O,z⟩:=hk b hq (Ms w ⟨b,_,none⟩ G);exact⟨b,o,u,e,z,(ML (a:=⟨b,_,none⟩) O).trans G,hu.keepQ hk⟩
def RowP (base:Nat) (w:World) (v:Value) (h:List (List Bs)):Prop:=∃vs:List Value,w.ownsRow base 119 1 v h.length vs /\
 ∀(k:Nat) p,h[k]?=some p->∃u,vs[k]?=some u/\SetsIn (fun b=>v.ownBlock≠some b/\base<=b) w u p
theorem RowP.nil (base:Nat) (w:World):RowP base w (.slice none 0 0) []:=⟨[],⟨rfl,.inl ⟨rfl,rfl⟩⟩,fun k s h=>by simp at h⟩
theorem RowP.below {base:Nat} {w w':World} {v:Value} {z:List (List Bs)} (h:RowP base w v z) (G:Mm w w'):RowP base w' v z:=by
 obtain⟨vs,J,I⟩:=h;exact⟨vs,ao J G,fun k s hk=>by obtain⟨u,hu,hs⟩:=I k s hk;exact⟨u,hu,hs.stays G⟩⟩
theorem RowP.app {base:Nat} {w w':World} {v v' u:Value} {z:List (List Bs)} {p:List Bs} {vs:List Value} (h2:∀(k:Nat) p,z[k]?=some p->∃u,vs[k]?=some u/\SetsIn (fun b=>v.ownBlock≠some b/\base<=b) w u p) (hlen:vs.length=z.length) (G:w'.ownsRow base 119 1 v' (z.length+1) (vs++[u])) (hg:w.grownBy w' v.ownBlock) (I:v'.ownBlock=v.ownBlock\/v'.ownBlock=some w.heap.size)
  (hs:SetsIn (fun b=>v.ownBlock≠some b/\base<=b) w u p):RowP base w' v' (z++[p]):=by
 have h:∀b,(v.ownBlock≠some b/\base<=b)->b<w.heap.size->w'.heap[b]?=w.heap[b]?/\v'.ownBlock≠some b/\base<=b:=fun b Z hl=>by
  refine⟨hg.block b hl (fun e=>Z.1 e.symm),fun e=>?_,Z.2⟩;rcases I with e2|e2
  ·rw[e2]at e;exact Z.1 e
  ·rw[e2]at e;injection e with e;omega
 refine⟨vs++[u],by rw[Mw];exact G,fun k t hk=>?_⟩;rcases Ny k z.length with J|hge
 ·rw[MQ J]at hk;obtain⟨x,hx,a'⟩:=h2 k t hk;exact⟨x,by rw[MQ om];exact hx,a'.keepQ h⟩
 ·rw[M7 hge]at hk;have O:k=z.length:=by
   have:=(List.getElem?_eq_some_iff.1 hk).1;simp at this;omega
  subst O;simp at hk;subst hk;exact⟨u,by rw[<-hlen];simp,hs.keepQ h⟩
theorem RowP.parts {base:Nat} {w:World} {v:Value} {I:List (List Bs)} (h:RowP base w v I):PartsIn (fun b=>base<=b) w v I:=by
 obtain⟨vs,O,h2⟩:=h
 by_cases hp:I.length=0
 ·have hL:I=[]:=M8 hp;subst hL;rcases O.2 with ⟨rfl,_⟩|⟨g,cap,cur,rfl,J,Z,G,z,_⟩
  ·exact⟨none,0,rfl,Mt _,Mu _,fun k p hk=>by simp at hk⟩
  ·exact⟨_,cap,rfl,G,z,fun k p hk=>by simp at hk⟩
 ·obtain⟨g,cap,spare,rfl,J,Z,G,z⟩:=mr O om;refine⟨_,cap,rfl,G,z,fun k p hk=>?_⟩;obtain⟨u,hu,hs⟩:=h2 k p hk;refine⟨g,0,u,rfl,J,?_,hs.mono fun b hb=>hb.2⟩;rw[MC,ae Z,MQ (List.getElem?_eq_some_iff.1 hu).1];exact hu
theorem PartsIn.mono {Q Q':Nat->Prop} (hq:∀b,Q b->Q' b) {w:World} {v:Value} {z:List (List Bs)} (h:PartsIn Q w v z):PartsIn Q' w v z:=by
 obtain⟨A,c,rfl,J,G,O⟩:=h;refine⟨A,c,rfl,J,G,fun k s hk=>?_⟩;obtain⟨b,o,u,e,I,Z,hs⟩:=O k s hk;exact⟨b,o,u,e,hq b I,Z,hs.mono hq⟩
theorem DQ:(prog.info? 119).map (fun i=>(i.zero,i.size,i.bytes))=some (some (.slice none 0 0),1,24):=kr
theorem IQ {V:List Int} {l:List Evt} {x:Pt} {b:Bs} {i d e C:Nat} {v vc vl u:Value} {W0 w:World} {n1:Nat} {B:Option Nat} {bc bp bo bf:Nat} (H:SeqHyp l x b i d e C v vc vl u W0 w n1 B bc bp bo bf)
  (V':x.op=3) (hG:GoodQ V l.length x) (P':dR V l.length) (hB:BOk i b) (hi:i<=l.length) (hA:∀a∈x.args,fI l a) (F1:x.args.length<=1048576) :
  SeqC 204 #[.pointer (some ⟨bp,0,none⟩),.pointer (some ⟨bc,0,none⟩),.pointer (some ⟨bo,0,none⟩),.pointer (some ⟨bf,0,none⟩)] (fO l x b i) (InS n1 B) (aE W0.heap.size n1 B) w:=by
 obtain⟨F,hF⟩:∃F:Pt->List Bs,F=fun a=>bj l a b i:=⟨_,rfl⟩
 rw[show fO l x b i=fh (x.args.map F) [] from by unfold fO;rw[Mo om,Mo om,Mo om,Mp V',hF]];intro ly J Jx O hW hJ U1 hY z';have H0:=H.next (H.grow hW);have H1:=jD H0;have HJ:=jD hJ;have N':∀p∈x.args.map F,∀s∈p,SetV V i l.length s:=fun p hp s hs=>by
  obtain⟨a,ha,rfl⟩:=List.mem_map.1 hp;rw[hF]at hs;exact eu (hG.arg ha) hs
 have m':x.args≠[]:=by rcases hG.good.self.1 with h|h|h;omega;omega;exact h
 have s':Hid (Cc V i l.length W0.heap.size n1 B (fh (x.args.map F) []) ly J Jx (x.args.map F)):=jD (sA V i l.length W0.heap.size n1 B H.box P' _ ly J Jx O.heap.size hJ hY _ N');have K1:Hid (x.args.map F≠[]):=jD (jQ m');have P0:=jD z';have Z':=jD H0.bs;have F':Hid (∀(k:Nat) a,x.args[k]?=some a->jX l a b i):=jD fun k a ha=>hA a (MI ha) b i hB hi
 have HF:=jD hF;obtain⟨Al,cl,rfl,-⟩:=id H0.scn.is;obtain⟨Ab,cb,rfl,-⟩:=id H0.bs;obtain⟨A,c,rfl,x1,x2,-⟩:=id H0.pts;obtain⟨Ac,cc,rfl,-⟩:=id H0.exs;have x':=ay x1 x2;have l':=H0.caps.p.1 1 _ rfl;rw[MC]at l';have Y1:=Ms O ⟨bp,_,none⟩ l';have D':=jD (fun (k:Nat) (a:Pt) (ha:x.args[k]?=some a)=>mu H1.out rfl ha i b (.slice Ab b.length cb) (F'.out k a ha));obtain⟨nb,G'⟩:∃n,n=b.length:=⟨_,rfl⟩;obtain⟨n,hn⟩:=jF x.args.length;have r':=jD hn;rw[<-G']at H1 D' Z';rw[<-hn]at x' l' F1;obtain⟨Ls,n'⟩:∃L,L=fh (x.args.map F) []:=⟨_,rfl⟩;rw[<-n']at s' ⊢;have H':=jD n';have X1:Hid (n≠0):=jD (by rw[hn];exact fun h=>m' (M8 h));obtain⟨i0,M1,X0,S1,G1⟩:=Np DQ;clear H H0 hW hJ U1 hY z' hB hA x1 x2 G' hn V' hF F' hi N' m' n' hG P';show Calls prog 204 #[.func (.yield ly) #[] #[],.pointer (some ⟨bp,0,none⟩),.pointer (some ⟨bc,0,none⟩),.pointer (some ⟨bo,0,none⟩),.pointer (some ⟨bf,0,none⟩)] O _;go_enter func204,ntmps204;refine (Ok (n:=5)).1 ?_;gi_wp2
 gi_loopw [6,12] (fun vo t wr=>∃k:Nat,k<=n/\t=Mk k/\Hid (RowP O.heap.size wr vo ((x.args.take k).map F)/\Mm O wr)) (fun _ t _=>n-(RowKit.intOf t).toNat)
 case atStart=>exact⟨0,Mu _,rfl,jD ⟨RowP.nil _ _,Mr _ _⟩⟩
 case round =>
  obtain⟨k,hk,rfl,hI⟩:=hrel;have S':=H1.out.grow hI.out.2;have Hr:=H1.out.next S';have q':=jD Hr;have a':=jD Hr.bel;obtain⟨zc,-⟩:=Hr.caps.c;have V1:=Ms wr ⟨bc,_,none⟩ zc;have Q0:=hI.out.2.size
  by_cases S0:k<n
  ·have K0:(k:Int)<(n:Int):=by omega
   obtain⟨zo,-⟩:=Hr.caps.o;obtain⟨zf,-⟩:=Hr.caps.f;obtain⟨a,ha⟩:∃a,x.args[k]?=some a:=⟨_,Mq (by have:=r'.out;omega)⟩;obtain⟨Av,cv,Ae,ne,ce,pb,po,rfl,k',-,G⟩:=D'.out k a ha;unfold ptV at G;have p':=jD G;have J':Hid ((x.args.take (k+1)).map F=(x.args.take k).map F++[F a]):=jD (pO ha);obtain⟨p0,p1,p2,p3,p4,p5,p6,p7,p8,p9,R0,R1,P1,U0⟩:=k' wr a'.out;have B':=Ms wr ⟨pb,_,none⟩ p0;have V0:=Ms wr ⟨bo,_,none⟩ zo;have A1:=Ms wr ⟨bf,_,none⟩ zf;obtain⟨na,C'⟩:∃n,n=a.args.length:=⟨_,rfl⟩;rw[<-C']at p' p1;have U':Hid (F a=bj l a b i):=jD (by rw[HF.out]);obtain⟨PS,t'⟩:=jF ((x.args.take k).map F);have h':PS.length=k:=by rw[t',MB,Nx];have:=r'.out;omega
   rw[<-t']at hI J';have Z1:=jD hI.out.1;obtain⟨vs,z,j'⟩:=hI.out.1;obtain⟨Ao,co,rfl⟩:=aH z;rw[h']at z;have Q1:vs.length=k:=by have:=z.1;simpa using this
   have d':=jD z;have Z0:=jD j';have T1:Hid (vs.length=PS.length):=jD om;have E':=jD h';rw[h'];clear k' G Hr ha C' t' z j' h' Q1 S';gi_wp2;refine⟨trivial,callsIn_wide.2 ?_⟩;refine aI fun w3 e3=>?_
   have I:Mm wr w3:=gb e3;clear e3;refine (p'.out _ (a'.out.trans (I.mono a'.out.size)) (Z'.out.stays aL (a'.out.trans (I.mono a'.out.size)))).mono ?_;rintro e4 w4 ⟨v4,rfl,i',Y'⟩;rw[<-U'.out]at i';have g':=ab I Y';have X':=g'.size;obtain⟨A4,c4,rfl,Y0⟩:=i'.form;have I':Hid (SetsIn (fun q=>(Value.slice Ao k co).ownBlock≠some q/\O.heap.size<=q) w4 (.slice A4 (F a).length c4) (F a)):=jD (i'.mono fun q hq=>⟨fun e=>by have h1:=(ag d'.out e).2;have:=I.size;have:w3.heap.size<=q:=hq;omega,by have:=I.size;have:w3.heap.size<=q:=hq;omega⟩);have Z:=jD g';obtain⟨n4,T'⟩:∃n,n=(F a).length:=⟨_,rfl⟩;rw[<-T']at I' Y0 ⊢;clear i' Y' I T' p0 p1 p2 p3 p4 p5 p6 p7 p8 p9 R0 R1 P1 U0 zc zo zf B' V1 V0 A1 p' U' g';gi_wp2_with (gi_at_builtin;refine iU _ rfl (.tmp 16) (.tmp 22) 259 rfl O.heap.size 119 i0 _ 1 24 underlying259 M1 X0 S1 G1 rfl dc (.slice Ao k co) k vs rfl (ao (ao d'.out Z.out) (af _ _)) (some ⟨w4.heap.size,0,none⟩) 1 1 [.slice A4 n4 c4] rfl (cB _ [.slice A4 n4 c4] _ 1 1 _ jS rfl (by simp[Value.oneCell'])) (by unfold maxLen;omega) om (by simp;omega) ?_;intro v8 w8 f' u' c');have y':RowP O.heap.size w8 v8 (PS++[F a]):=by
    refine RowP.app (w:=w4.alloc (.cells #[.slice A4 n4 c4] 119)) (v:=.slice Ao k co) (u:=.slice A4 n4 c4) (vs:=vs) (fun q p hq=>?_) T1.out (by rw[E'.out];exact f') u' c' (I'.out.stays (af _ _));obtain⟨u,hu,hs⟩:=Z0.out q p hq;rw[E'.out]at hs;exact⟨u,hu,hs.stays (ab Z.out (af _ _))⟩
   have A':Mm O w8:=(hI.out.2.trans ((Z.out.trans ((af w4 (.cells #[.slice A4 n4 c4] 119)).mono X')).mono Q0)).trans (au u' (by simp;omega) (fun g h=>(ag d'.out h).1));have W1:Hid (RowP O.heap.size w8 v8 ((x.args.take (k+1)).map F)/\Mm O w8):=jD ⟨by rw[J'.out];exact y',A'⟩;clear f' u' c' y' A'
   go_roundw
   case rel=>exact⟨k+1,by omega,by go_num,W1⟩
   case measure=>exact jh S0
  ·have K0:¬(k:Int)<(n:Int):=by omega
   obtain rfl:k=n:=by omega
   have zu:=(Hr.scn.stays Hr.bel).fu;have A2:=Ms wr ⟨C,_,none⟩ zu;have hR:RowP O.heap.size wr u6 (x.args.map F):=by have h:=hI.out.1;rw[r'.out,Nq]at h;exact h
   have hP:PartsIn (Own n1 B wr) wr u6 (x.args.map F):=hR.parts.mono fun q hq=>H1.out.new hI.out.2 hq
   have HP:=jD hP;have HC:Hid (Calls prog 205 #[u6,.slice none 0 0,.func (.yield ly) #[] #[]] wr (zt W0.heap.size n1 B J Jx 0 Ls.length wr)):=jD (by
    rw[H'.out];rw[H'.out]at s';exact s'.out [] u6 _ 0 wr hP (.inl ⟨rfl,rfl⟩) (fun h=>absurd rfl h) (.inr K1.out) (fun j y hj=>by rw[MC];exact hj) q'.out.lo q'.out.hi q'.out.safe (aS HJ.out P0.out hI.out.2))
   obtain⟨A6,c6,rfl⟩:∃A c,u6=.slice A (x.args.map F).length c:=by obtain⟨A,c,h,-⟩:=hP;exact⟨A,c,h⟩
   obtain⟨n6,O'⟩:∃n,n=(x.args.map F).length:=⟨_,rfl⟩;rw[<-O']at HC ⊢;clear hR hP HP O' Hr hI;gi_wp2;refine⟨trivial,callsIn_wide.2 ?_⟩;refine HC.out.mono ?_;rintro e w9 ⟨t9,rfl,hT,R'⟩;have HT:=jD hT;have E1:=jD R';clear hT R';gi_wp2;refine OI (NI rfl _ _ _) rfl ?_;refine⟨⟨_,rfl⟩,?_⟩
   cases t9 with
   | true=>exact .inl (by have h:=(HT.out rfl).1;rw[MC]at h;exact h)
   | false =>
    obtain⟨q,hq,hx⟩:=E1.out rfl;exact .inr ⟨q,by omega,hx⟩
theorem J5 (V:List Int) (l:List Evt) (x:Pt) (b:Bs) (i:Nat) (hG:GoodQ V l.length x) (I:dR V l.length) (G:x.op=3) (hB:BOk i b) (hi:i<=l.length) (hA:∀a∈x.args,fI l a) (z:x.args.length<=1048576):FinderK 134 l x b i:=by
 intro d e C v vc vl u W0 w J hx h hu hb;have HQ:=jD (fun (n1:Nat) (B:Option Nat) h1 O h3 Z (tc tp to tf:TypeId)=>IQ (eS (i:=i) (n1:=n1) (B:=B) J hx h hu hb h1 O h3 Z tc tp to tf) G hG I hB hi hA z);obtain⟨A,c,rfl,-⟩:=id hx;obtain⟨Ac,cc,rfl,-⟩:=id h;obtain⟨Ab,cb,rfl,-⟩:=id hu;clear J hx h hu hb hB hA G hG I hi z;unfold ptV;go_enter func134,ntmps134;go_wp2;go_ret;exact⟨_,_,rfl,fun _ _=>rfl,jB,fun n1 B h1 O h3 Z=>HQ.out n1 B h1 O h3 Z _ _ _ _⟩
end
end Go.Proofs.YtbjicljfjkdeeaaGreatDoor
