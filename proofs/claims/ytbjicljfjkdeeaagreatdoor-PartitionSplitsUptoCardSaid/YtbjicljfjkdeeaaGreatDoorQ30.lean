/- Part. -/
import Derived.Test.YtbjicljfjkdeeaaGreatDoorQ29
set_option maxRecDepth 100000
set_option maxHeartbeats 16000000
set_option linter.unusedVariables false
set_option linter.unusedSimpArgs false
namespace Go.Proofs.YtbjicljfjkdeeaaGreatDoor
open Go.Proofs.Tryz Go.RowKit
abbrev zX (s:Bs):Prop:=s.Pairwise fun x y=>x.2<y.2
def dM (l:List Evt) (ty vr:Int) (c:Ex) (b:Bs) (i k:Nat):List Bs :=
 ((List.range k).filter fun k=>decide (i<=k)&&(l[k]?.map fun e=>decide (e.ty=ty)&&cT (cY l b k) vr e c).getD false).map fun k=>[(vr,k)]
theorem qS (l:List Evt) (ty vr:Int) (c:Ex) (b:Bs) (i:Nat):dM l ty vr c b i l.length=eL l ty vr c b i:=rfl
theorem vH (l:List Evt) (ty vr:Int) (c:Ex) (b:Bs) (i:Nat):dM l ty vr c b i i=[]:=by
 unfold dM;rw[List.filter_eq_nil_iff.2]
 ·rfl
 ·intro k hk;rw[List.mem_range]at hk;rw[Nb om];simp
theorem oc {l:List Evt} {ty vr:Int} {c:Ex} {b:Bs} {i k:Nat} {y:Evt} (h:i<=k) (hy:l[k]?=some y) :
  dM l ty vr c b i (k+1)=if y.ty=ty/\cT (cY l b k) vr y c=true then dM l ty vr c b i k++[[(vr,k)]] else dM l ty vr c b i k:=by
 unfold dM;rw[List.range_succ,Oy,NY,List.filter_cons,List.filter_nil,Nm h,hy]
 by_cases z:y.ty=ty
 ·by_cases G:cT (cY l b k) vr y c=true
  ·simp[z,G]
  ·simp[z,G]
 ·simp[z]
structure BOk (i:Nat) (b:Bs):Prop where
 asc:zX b
 ok:∀x∈b,(0<=x.1/\x.1<16)/\x.2<i
theorem CI:∀(b:Bs) (i:Nat),zX b->(∀x∈b,x.2<i)->b.length<=i:=fun b i h I=>by
 have G:(b.map (·.2)).Nodup:=by
  rw[List.nodup_iff_pairwise_ne,List.pairwise_map];exact h.imp fun h=>Pd h
 have z:=iW (m:=List.range i) G fun x hm=>by
  obtain⟨y,hy,rfl⟩:=List.mem_map.1 hm;exact List.mem_range.2 (I y hy)
 simpa using z
theorem BOk.len {i:Nat} {b:Bs} (h:BOk i b):b.length<=i:=CI b i h.asc fun x z=>(h.ok x z).2
section
theorem AF (L:List Bs) (s:Bs):aP (L++[s])=eb (aP L) s:=by unfold aP;rw[Pc];rfl
theorem zq (l:List Evt) (ty vr:Int) (c:Ex) (b:Bs) (i:Nat):(eL l ty vr c b i).Nodup:=by
 unfold eL;refine nH (List.Nodup.sublist (List.filter_sublist ..) List.nodup_range) fun x _ y _ h=>?_
 injection h with h;injection h
def oF (f:Fnd):Prop:=∀b i,(f b i).Nodup
theorem rn:∀(ps:List (List Bs)) (out:List Bs),out.Nodup->(ps.foldl jN out).Nodup
 | [],_,h=>h
 | p::ps,out,_=>rn ps _ (bU _)
theorem GH (l:List Evt) (x:Pt):(∀a∈x.args,oF (im l a))->oF (im l x):=by
 obtain⟨o,z,ty,vr,J,sp,c⟩:=x;intro h;have hL:∀f∈cO l z,oF f:=by
  have:∀z:List Pt,(∀a∈z,oF (im l a))->∀f∈cO l z,oF f:=fun z=>by
   induction z with
   | nil=>intro _ f hf;rw[cO]at hf;simp at hf
   | cons a r I =>
    intro h f hf;rw[cO,MN]at hf;rcases hf with rfl|hf
    ·exact h a (Mz ..)
    ·exact I (fun y hy=>h y (MD _ hy)) f hf
  exact this z h
 have G:oF (hdF (cO l z)):=by
  cases e:cO l z with
  | nil=>intro b i;exact Pe
  | cons f r=>exact hL f (by rw[e];exact Mz ..)
 intro b i;rw[im]
 split
 ·exact zq ..
 split
 ·cases e:cO l z with
  | nil=>rw[jq];exact Pe
  | cons f r =>
   rw[jq]
   split
   ·exact hL f (by rw[e];exact Mz ..) b i
   ·exact bU _
 split
 ·exact bU _
 split
 ·cases e:cO l z with
  | nil=>rw[mO];exact Pe
  | cons f r=>rw[mO];exact rn _ _ (hL f (by rw[e];exact Mz ..) b i)
 split
 ·rw[jg];exact bU _
 ·exact List.Nodup.sublist (List.filter_sublist ..) (G b i)
structure GoodP (V:List Int) (x:Pt):Prop where
 vars:∀v∈evV x,v∈V
 all:∀y∈aY x,(y.op=0\/y.op=2\/y.args≠[])/\aF y.cond<=1048576
theorem wU {a:Pt}:∀{l:List Pt},a∈l->∀v∈evV a,v∈dZ l
 | y::r,h,v,hv=>by
  rw[dZ,NC];rcases List.mem_cons.1 h with rfl|h
  ·exact .inl hv
  ·exact .inr (wU h v hv)
theorem mN {a:Pt}:∀{l:List Pt},a∈l->∀y∈aY a,y∈cE l
 | z::r,h,y,hy=>by
  rw[cE,NC];rcases List.mem_cons.1 h with rfl|h
  ·exact .inl hy
  ·exact .inr (mN h y hy)
theorem pB {a:Pt}:∀{l:List Pt},a∈l->ptN a<=bI l
 | z::r,h=>by
  rw[bI];rcases List.mem_cons.1 h with rfl|h
  ·omega
  ·have:=pB h;omega
theorem GoodP.arg {V:List Int} {x a:Pt} (h:GoodP V x) (z:a∈x.args):GoodP V a:=by
 obtain⟨o,I,ty,vr,J,sp,c⟩:=x;refine⟨fun v G=>h.vars v ?_,fun y hy=>h.all y ?_⟩
 ·rw[evV];exact OE _ (wU z v G)
 ·rw[eC];exact MD _ (mN z y hy)
theorem GoodP.self {V:List Int} {x:Pt} (h:GoodP V x):(x.op=0\/x.op=2\/x.args≠[])/\aF x.cond<=1048576:=h.all x (by rw[eC];exact Mz ..)
structure dR (V:List Int) (n:Nat):Prop where
 var:∀v∈V,0<=v/\v<16
 few:(V.length+1)^n<=1048576
 len:n<=4096
structure FndOk (V:List Int) (n:Nat) (f:Fnd):Prop where
 ok:OkF n f
 var:VarF V f
 once:oF f
structure SetV (V:List Int) (i n:Nat) (s:Bs):Prop where
 ok:SetOk i n s
 var:∀x∈s,x.1∈V
theorem FndOk.set {V:List Int} {n i:Nat} {f:Fnd} {b s:Bs} (h:FndOk V n f) (hs:s∈f b i):SetV V i n s:=⟨h.ok b i s hs,h.var b i s hs⟩
theorem Dw (l:List Evt):∀(n:Nat) (x:Pt),ptN x<=n->oF (im l x):=by
 intro n
 induction n with
 | zero=>intro x h;have:=cX x;omega
 | succ n G =>
  intro x h;refine GH l x fun a z=>G a ?_
  have J:=cX x;have I:=pB z;omega
theorem G4 {V:List Int} {x:Pt} (l:List Evt) (h:GoodP V x):FndOk V l.length (im l x):=⟨qG l x,(uk l x).mono h.vars,Dw l _ x (Mt _)⟩
section
variable {V : List Int} {i n : Nat} {b s : Bs}
theorem SetV.n63 (h:SetV V i n s):s.length<=n:=CI s n h.ok.2.1 fun x z=>(h.ok.2.2 x z).2
theorem SetV.merge (h:SetV V i n s) (I:BOk i b) (O:dR V n):BOk (bW s+1) (aA b s):=by
 have J:=h.ok.last;refine⟨ep b s I.asc h.ok.2.1 fun x z y hy=>?_,fun x z=>?_⟩
 ·have G:=(I.ok x z).2;have Z:=(h.ok.2.2 y hy).1;omega
 ·rcases (cd ..).1 z with z|z
  ·have G:=I.ok x z;exact⟨G.1,by have:=G.2;omega⟩
  ·exact⟨O.var _ (h.var x z),by have:=J.2.2 x z;omega⟩
theorem SetV.behind {t:Bs} (h:SetV V i n s) (G:SetV V (bW s+1) n t):SetV V i n (aA s t) :=
 ⟨h.ok.behind G.ok,fun x z=>by rcases (cd ..).1 z with z|z;exact h.var x z;exact G.var x z⟩
theorem SetV.mergeP {t:Bs} (h:SetV V i n s) (G:SetV V i n t) (I:∀x∈s,∀y∈t,x.2≠y.2):SetV V i n (aA s t) :=
 ⟨h.ok.merge G.ok I,fun x z=>by rcases (cd ..).1 z with z|z;exact h.var x z;exact G.var x z⟩
end
theorem En {α β:Type} {F:α->List β} {l:List α} {k:Nat} {a:α} (h:l[k]?=some a):(l.take (k+1)).flatMap F=(l.take k).flatMap F++F a:=by
 rw[bK h,OK];simp
theorem pO {α β:Type} {F:α->β} {l:List α} {k:Nat} {a:α} (h:l[k]?=some a):(l.take (k+1)).map F=(l.take k).map F++[F a]:=by
 rw[bK h,NY];rfl
section
variable {base n1 : Nat} {w w' : World} {v : Value} {L : List Bs}
end
end
section
theorem px (x:Pt):evV x=(if x.op=0 then [x.vr] else [])++dZ x.args:=by cases x;rw[evV];rfl
theorem lM (x:Pt):eW x=(decide (x.op=4) || eH x.args):=by cases x;rw[eW];rfl
theorem BK {a:Pt}:∀{l:List Pt},a∈l->(evV a).length<=(dZ l).length
 | y::r,h=>by
  rw[dZ,Mw];rcases List.mem_cons.1 h with rfl|h
  ·omega
  ·have:=BK h;omega
theorem qf {a:Pt}:∀{l:List Pt},a∈l->eH l=false->eW a=false
 | y::r,h,z=>by
  rw[eH,Ng]at z;rcases List.mem_cons.1 h with rfl|h
  ·exact z.1
  ·exact qf h z.2
def CapP (n:Nat) (x:Pt):Prop:=((evV x).length+1)^n<=4096\/(eW x=false/\2<=n/\fc n (evV x).length<=4096)
theorem CapP.of {n:Nat} {x y:Pt} (h:CapP n x) (he:(evV y).length<=(evV x).length) (z:eW x=false->eW y=false):CapP n y:=by
 rcases h with h|⟨G,I,J⟩
 ·exact .inl (Mx (OX om n) h)
 ·refine .inr ⟨z G,I,Mx ?_ J⟩;obtain⟨k,hk⟩:=Nat.exists_eq_add_of_le he;rw[hk];exact jr I _ _
structure GoodQ (V:List Int) (n:Nat) (x:Pt):Prop where
 good:GoodP V x
 ops:∀y∈aY x,0<=y.op/\y.op<=7
 cap:CapP n x
theorem GoodQ.arg {V:List Int} {n:Nat} {x a:Pt} (h:GoodQ V n x) (O:a∈x.args):GoodQ V n a:=by
 refine⟨h.good.arg O,fun y hy=>h.ops y ?_,h.cap.of ?_ fun z=>?_⟩
 ·rw[eC];exact MD _ (mN O y hy)
 ·have:=BK O;rw[px x,Mw];omega
 ·rw[lM,Ng]at z;exact qf O z.2
theorem GoodQ.op {V:List Int} {n:Nat} {x:Pt} (h:GoodQ V n x):0<=x.op/\x.op<=7:=h.ops x (by rw[eC];exact Mz ..)
theorem GoodQ.rest {V:List Int} {n:Nat} {x a c:Pt} {r:List Pt} (h:GoodQ V n x) (ho:x.op=1) (Z:x.args=a::c::r):GoodQ V n (gi x (c::r)):=by
 have hp:∀y∈cE (c::r),y∈aY x:=fun y hy=>by rw[eC,Z,cE];exact MD _ (OE _ hy)
 have ev:evV (gi x (c::r))=dZ (c::r):=by rw[px,rg,eI,Mo om];rfl
 have ex:evV x=evV a++dZ (c::r):=by rw[px,Z,Mo om];rfl
 refine⟨⟨fun v hv=>h.good.vars v ?_,fun y hy=>?_⟩,fun y hy=>?_,h.cap.of ?_ fun z=>?_⟩
 ·rw[ex];rw[ev]at hv;exact OE _ hv
 ·rw[eC,eI]at hy;rcases List.mem_cons.1 hy with rfl|hy
  ·exact⟨.inr (.inr (by rw[eI];simp)),h.good.self.2⟩
  ·exact h.good.all y (hp y hy)
 ·rw[eC,eI]at hy;rcases List.mem_cons.1 hy with rfl|hy
  ·exact h.op
  ·exact h.ops y (hp y hy)
 ·rw[ev,ex,Mw];omega
 ·rw[lM,Z,eH,Ng,Ng]at z;rw[lM,eI,rg,z.1,z.2.2];rfl
mutual
theorem Cu:∀x:Pt,(∀y∈aY x,y.op=0\/y.op=2\/y.args≠[])->okA x=true
 | .mk o ar ty vr sc sp c,h=>by
  rw[okA,My];refine⟨?_,xJ ar fun y hy=>h y (by rw[aY];exact MD _ hy)⟩;have G:=h (.mk o ar ty vr sc sp c) (by rw[aY];exact Mz ..);have I:(o=0\/o=2\/ar≠[]):=G
  by_cases J:o=3
  ·have:ar≠[]:=by rcases I with h|h|h;omega;omega;exact h
   cases ar with
   | nil=>exact absurd rfl this
   | cons a r=>simp
  ·simp[J]
theorem xJ:∀l:List Pt,(∀y∈cE l,y.op=0\/y.op=2\/y.args≠[])->vg l=true
 | [],_=>by rw[vg]
 | a::r,h=>by
  rw[vg,My];exact⟨Cu a fun y hy=>h y (by rw[cE];exact OW _ hy),xJ r fun y hy=>h y (by rw[cE];exact OE _ hy)⟩
end
theorem GoodQ.okA {V:List Int} {n:Nat} {x:Pt} (h:GoodQ V n x):okA x=true:=Cu x fun y hy=>(h.good.all y hy).1
section
variable {V : List Int} {l : List Evt} {x : Pt} {b s : Bs} {i : Nat}
theorem rk (h:GoodQ V l.length x):s∈bj l x b i↔s∈im l x b i:=rC l x h.okA b i s
theorem eu (h:GoodQ V l.length x) (hs:s∈bj l x b i):SetV V i l.length s:=(G4 l h.good).set ((rk h).1 hs)
theorem Jp (h:GoodQ V l.length x) (hs:s∈fO l x b i):SetV V i l.length s:=eu (b:=b) h (by rw[pZ l h.okA,ba];exact hs)
theorem wi (h:GoodQ V l.length x) (b:Bs) (i:Nat):(bj l x b i).length<=4096:=by
 rcases h.cap with G|⟨G,I,J⟩
 ·exact Mx (BM l x b i (ll l x b i) fun s hs=>(rk h).1 hs) G
 ·exact Mx (iW (ll l x b i) fun s hs=>(rk h).1 hs) (Mx (uV l I x G b i) J)
end
theorem zh (l:List Bs) (s:Bs):l.length<=(eb l s).length:=by
 unfold eb
 split
 ·exact Mt _
 ·rw[Mw];omega
theorem C4 (L:List Bs) (k:Nat):(aP (L.take k)).length<=(aP L).length:=by
 have h:∀(l o:List Bs),o.length<=(l.foldl eb o).length:=fun l=>by
  induction l with
  | nil=>intro o;exact Mt _
  | cons a l ih=>intro o;exact Mx (zh o a) (ih _)
 have e:aP L=(L.drop k).foldl eb (aP (L.take k)):=by
  show L.foldl eb []=(L.drop k).foldl eb ((L.take k).foldl eb []);rw[<-Pc,OB]
 rw[e];exact h _ _
def dE {α β:Type} (F:α->List β) (S:List α) (k j:Nat):Nat:=((S.take k).flatMap F).length+j
theorem yW {α β:Type} (F:α->List β) (S:List α):dE F S 0 0=0:=by simp[dE]
theorem nj {α β:Type} {F:α->List β} {S:List α} {k:Nat} {s:α} (h:S[k]?=some s):dE F S (k+1) 0=dE F S k (F s).length:=by
 unfold dE;rw[En h,Mw,Nc]
theorem ri {α β:Type} (F:α->List β) (S:List α):dE F S S.length 0=(S.flatMap F).length:=by unfold dE;rw[Nq,Nc]
theorem oO {α β:Type} {F:α->List β} {S:List α} {k j:Nat} {s:α} {y:β} (h:S[k]?=some s) (hy:(F s)[j]?=some y):(S.flatMap F)[dE F S k j]?=some y:=by
 have e:S.flatMap F=(S.take k).flatMap F++(F s++(S.drop (k+1)).flatMap F):=by
  have G:S=S.take k++s::S.drop (k+1):=by
   obtain⟨hk,rfl⟩:=List.getElem?_eq_some_iff.1 h;rw[List.getElem_cons_drop,OB]
  conv=>lhs;rw[G]
  rw[OK,MM]
 unfold dE;rw[e,M7 om,Nat.add_sub_cancel_left,MQ (List.getElem?_eq_some_iff.1 hy).1];exact hy
theorem I5 {α β:Type} {F:α->List β} {S:List α} {k j:Nat} {s:α} (h:S[k]?=some s) (hj:j<(F s).length):dE F S k j<(S.flatMap F).length:=by
 have:=oO h (Mq hj);exact (List.getElem?_eq_some_iff.1 this).1
theorem I3 {α β:Type} (F:α->List β) (S:List α) (k:Nat):dE F S k 0<=(S.flatMap F).length:=by
 unfold dE
 conv=>rhs;rw[<-OB k S]
 rw[OK,Mw];omega
end
section
open Go.RowKit Go.Lib
def gY (w:World) (L:List Bs) (e:Ending) (W:World):Prop:=∃v,e=.returned v/\SetsIn (fun b=>w.heap.size<=b) W v L/\Mm w W
def jX (l:List Evt) (x:Pt) (b:Bs) (i:Nat):Prop:=∀(d e C:Nat) (v vc vl u:Value) (w:World),w.cell? ⟨C,0,none⟩=some vl->w.cell? ⟨C,1,none⟩=some (.bool false)->bh w vl l->aU d w v x.args->aK e w vc x.cond.args->fo w u b ->
 Calls prog 51 #[.pointer (some ⟨C,0,none⟩),ptV x v vc,u,Mk (i:Int)] w (gY w (bj l x b i))
def fI (l:List Evt) (x:Pt):Prop:=∀b i,BOk i b->i<=l.length->jX l x b i
structure ScnAt (l:List Evt) (w:World) (C:Nat) (vl:Value):Prop where
 ev:w.cell? ⟨C,0,none⟩=some vl
 fu:w.cell? ⟨C,1,none⟩=some (.bool false)
 is:bh w vl l
theorem ScnAt.stays {l:List Evt} {w W:World} {C:Nat} {vl:Value} (h:ScnAt l w C vl) (z:Mm w W):ScnAt l W C vl:=⟨aa z h.ev,aa z h.fu,h.is.stays aG z⟩
def Own (n1:Nat) (B:Option Nat) (W:World) (b:Nat):Prop:=n1<=b/\¬iu W B b
section
variable {n0 n1 : Nat} {B : Option Nat} {X Y : World}
theorem bQ {b o:Nat} {v:Value} (hk:aE n0 n1 B X Y) (h:Own n1 B X b) (c:X.cell? ⟨b,o,none⟩=some v):Y.cell? ⟨b,o,none⟩=some v/\Own n1 B Y b :=
 ⟨(gG hk h.1 h.2 c).1,h.1,(gG hk h.1 h.2 c).2⟩
theorem iQ (G:n1<=X.heap.size) (hs:fA X B) (h:Mm X Y) (z:∀b,B=some b->b<n1) {k:Nat} (hk:X.heap.size<=k):Own n1 B Y k :=
 ⟨by omega,tH hs h (fun b e=>by have:=z b e;omega) hk⟩
structure Caps (n1:Nat) (B:Option Nat) (W:World) (bc bp bo bf C:Nat) (x:Pt) (v vc u:Value) (i:Nat):Prop where
 c:W.cell? ⟨bc,0,none⟩=some (.pointer (some ⟨C,0,none⟩))/\Own n1 B W bc
 p:Cells W bp 0 (aM x v vc)/\Own n1 B W bp
 o:W.cell? ⟨bo,0,none⟩=some u/\Own n1 B W bo
 f:W.cell? ⟨bf,0,none⟩=some (Mk (i:Int))/\Own n1 B W bf
variable {bc bp bo bf C : Nat} {x : Pt} {v vc u : Value} {i : Nat}
theorem Caps.keep (h:Caps n1 B X bc bp bo bf C x v vc u i) (hk:aE n0 n1 B X Y):Caps n1 B Y bc bp bo bf C x v vc u i :=
 ⟨bQ hk h.c.2 h.c.1,⟨fun j w z=>(bQ hk h.p.2 (h.p.1 j w z)).1,(bQ hk h.p.2 (h.p.1 0 _ rfl)).2⟩,bQ hk h.o.2 h.o.1,bQ hk h.f.2 h.f.1⟩
end
theorem kA (w:World) (cs:List Value) (t:TypeId):Cells (w.alloc (.cells cs.toArray t)) w.heap.size 0 cs:=fun j u z=>by
 have h:(w.alloc (.cells cs.toArray t)).heap[w.heap.size]?=some (.cells cs.toArray t):=Nr w _;rw[MC];simp only[World.cell?,h];exact (OY ..).trans z
theorem jO (w:World) (u:Value) (t:TypeId):(w.alloc (.cells #[u] t)).cell? ⟨w.heap.size,0,none⟩=some u:=kA w [u] t 0 u rfl
theorem dw {w W:World} {b o:Nat} {cs:List Value} (h:Cells w b o cs) (G:Mm w W):Cells W b o cs:=fun j u z=>aa G (h j u z)
theorem CP {n1:Nat} {B:Option Nat} {w:World} (C:Nat) (x:Pt) (v vc u:Value) (i:Nat) (tc tp to tf:TypeId) (hn:n1<=w.heap.size) (hs:fA w B) (hB:∀b,B=some b->b<n1) :
  Caps n1 B ((((w.alloc (.cells #[.pointer (some ⟨C,0,none⟩)] tc)).alloc (.cells (aM x v vc).toArray tp)).alloc (.cells #[u] to)).alloc (.cells #[.int .i64 (i:Int)] tf)) w.heap.size (w.heap.size+1) (w.heap.size+2) (w.heap.size+3) C x v vc u i:=by
 obtain⟨h,e1⟩:=jF (w.alloc (.cells #[.pointer (some ⟨C,0,none⟩)] tc));obtain⟨G,J⟩:=jF (h.alloc (.cells (aM x v vc).toArray tp));obtain⟨z,e3⟩:=jF (G.alloc (.cells #[u] to));obtain⟨I,e4⟩:=jF (z.alloc (.cells #[.int .i64 (i:Int)] tf));rw[<-e1,<-J,<-e3,<-e4];have s1:h.heap.size=w.heap.size+1:=by rw[e1];simp
 have s2:G.heap.size=w.heap.size+2:=by rw[J];simp[s1]
 have s3:z.heap.size=w.heap.size+3:=by rw[e3];simp[s2]
 have b1:Mm w h:=by rw[e1];exact af w _
 have b2:Mm h G:=by rw[J];exact af h _
 have b3:Mm G z:=by rw[e3];exact af G _
 have O:Mm z I:=by rw[e4];exact af z _
 have hb:Mm w I:=ab (ab (ab b1 b2) b3) O;have c1:h.cell? ⟨w.heap.size,0,none⟩=some (.pointer (some ⟨C,0,none⟩)):=by rw[e1];exact jO w _ _
 have c2:Cells G (w.heap.size+1) 0 (aM x v vc):=by rw[<-s1,J];exact kA h _ _
 have c3:z.cell? ⟨w.heap.size+2,0,none⟩=some u:=by rw[<-s2,e3];exact jO G _ _
 have c4:I.cell? ⟨w.heap.size+3,0,none⟩=some (Mk (i:Int)):=by rw[<-s3,e4];exact jO z _ _
 have Z:∀k,w.heap.size<=k->Own n1 B I k:=fun k hk=>iQ hn hs hb hB hk
 exact⟨⟨aa (ab (ab b2 b3) O) c1,Z _ (Mt _)⟩,⟨dw c2 (ab b3 O),Z _ om⟩,⟨aa O c3,Z _ om⟩,⟨c4,Z _ om⟩⟩
def Ij (L:List Bs) (W0 w:World) (e:Ending) (W:World):Prop:=∃gf lb,e=.returned (.func (.func gf) #[] lb)/\(∀args w,(callFunc gf args).run prog w=.ok (.enter gf args) w)/\Mm w W /\
 ∀n1 B,W0.heap.size<=n1->n1<=w.heap.size->fA w B->(∀k,B=some k->k<n1)->SeqC gf lb L (InS n1 B) (aE W0.heap.size n1 B) W
def FinderK (g:Nat) (l:List Evt) (x:Pt) (b:Bs) (i:Nat):Prop:=∀(d e C:Nat) (v vc vl u:Value) (W0 w:World),ScnAt l W0 C vl->aU d W0 v x.args->aK e W0 vc x.cond.args->fo W0 u b->Mm W0 w ->
 Calls prog g #[.pointer (some ⟨C,0,none⟩),ptV x v vc,u,Mk (i:Int)] w (Ij (fO l x b i) W0 w)
structure SeqHyp (l:List Evt) (x:Pt) (b:Bs) (i d e C:Nat) (v vc vl u:Value) (W0 w:World) (n1:Nat) (B:Option Nat) (bc bp bo bf:Nat):Prop where
 scn:ScnAt l W0 C vl
 pts:aU d W0 v x.args
 exs:aK e W0 vc x.cond.args
 bs:fo W0 u b
 bel:Mm W0 w
 lo:W0.heap.size<=n1
 hi:n1<=w.heap.size
 safe:fA w B
 box:∀k,B=some k->k<n1
 caps:Caps n1 B w bc bp bo bf C x v vc u i
section
variable {l : List Evt} {x : Pt} {b : Bs} {i d e C : Nat} {v vc vl u : Value} {W0 w W : World} {n1 : Nat} {B : Option Nat} {bc bp bo bf : Nat}
theorem SeqHyp.next (h:SeqHyp l x b i d e C v vc vl u W0 w n1 B bc bp bo bf) (hk:aE W0.heap.size n1 B w W):SeqHyp l x b i d e C v vc vl u W0 W n1 B bc bp bo bf :=
 ⟨h.scn,h.pts,h.exs,h.bs,h.bel.trans hk.below,h.lo,by have:=hk.below.size;have:=h.hi;omega,hk.safe h.safe,h.box,h.caps.keep hk⟩
theorem SeqHyp.grow (h:SeqHyp l x b i d e C v vc vl u W0 w n1 B bc bp bo bf) (z:Mm w W):aE W0.heap.size n1 B w W :=
 cf z (by have:=h.lo;have:=h.hi;omega) (fun k hk=>by have:=h.box k hk;have:=h.hi;omega)
theorem SeqHyp.new (h:SeqHyp l x b i d e C v vc vl u W0 w n1 B bc bp bo bf) (z:Mm w W) {k:Nat} (hk:w.heap.size<=k):n1<=k/\¬iu W B k :=
 iQ h.hi h.safe z h.box hk
theorem SeqHyp.inS (h:SeqHyp l x b i d e C v vc vl u W0 w n1 B bc bp bo bf) (G:Mm w W) {n:Nat} (I:w.heap.size<=n) {s:Bs} {t:Value} (z:SetIn (fun k=>n<=k) W t s):InS n1 B s #[t] W :=
 ⟨t,rfl,z.mono fun k hk=>h.new G om⟩
theorem SeqHyp.evs (h:SeqHyp l x b i d e C v vc vl u W0 w n1 B bc bp bo bf):bh w vl l:=h.scn.is.stays aG h.bel
end
theorem eS {l:List Evt} {x:Pt} {b:Bs} {i d e C:Nat} {v vc vl u:Value} {W0 w:World} (Z:ScnAt l W0 C vl) (hx:aU d W0 v x.args) (z:aK e W0 vc x.cond.args) (hu:fo W0 u b) (hb:Mm W0 w)
  {n1:Nat} {B:Option Nat} (h1:W0.heap.size<=n1) (h2:n1<=w.heap.size) (h3:fA w B) (I:∀k,B=some k->k<n1) (G J to O:TypeId) :
  SeqHyp l x b i d e C v vc vl u W0 ((((w.alloc (.cells #[.pointer (some ⟨C,0,none⟩)] G)).alloc (.cells (aM x v vc).toArray J)).alloc (.cells #[u] to)).alloc (.cells #[.int .i64 (i:Int)] O)) n1 B w.heap.size (w.heap.size+1) (w.heap.size+2) (w.heap.size+3):=by
 have h:Mm w ((((w.alloc (.cells #[.pointer (some ⟨C,0,none⟩)] G)).alloc (.cells (aM x v vc).toArray J)).alloc (.cells #[u] to)).alloc (.cells #[.int .i64 (i:Int)] O)) :=
  ab (ab (ab (af w _) (af _ _)) (af _ _)) (af _ _)
 exact⟨Z,hx,z,hu,ab hb h,h1,Mx h2 h.size,(cf (n0:=W0.heap.size) (n1:=n1) h hb.size (fun k hk=>by have:=I k hk;omega)).safe h3,I,CP C x v vc u i G J to O h2 h3 I⟩
section
variable {n0 n1 : Nat} {B : Option Nat} {X Y : World} {v : Value} {L : List Bs}
theorem SetIn.keepO (hk:aE n0 n1 B X Y) {s:Bs} (h:SetIn (Own n1 B X) X v s):SetIn (Own n1 B Y) Y v s:=by
 obtain⟨b,o,c,rfl,Z,O,J,G,I⟩:=h;refine⟨b,o,c,rfl,Z,O,J,?_,fun k x z=>⟨(bQ hk G (I k x z).1).1,(bQ hk G (I k x z).2).1⟩⟩
 cases s with
 | nil=>exact absurd rfl J
 | cons x r=>exact (bQ hk G (I 0 x rfl).1).2
theorem SetsIn.keepO (hk:aE n0 n1 B X Y) (h:SetsIn (Own n1 B X) X v L):SetsIn (Own n1 B Y) Y v L:=by
 obtain⟨A,c,rfl,J,I,O⟩:=h;refine⟨A,c,rfl,J,I,fun k s z=>?_⟩;obtain⟨b,o,u,e,hq,G,hs⟩:=O k s z;exact⟨b,o,u,e,(bQ hk hq G).2,(bQ hk hq G).1,hs.keepO hk⟩
theorem SetsIn.form {Q:Nat->Prop} (h:SetsIn Q X v L):∃A c,v=.slice A L.length c/\(L.length:Int)<=9223372036854775807:=by
 obtain⟨A,c,rfl,G,z,-⟩:=h;exact⟨A,c,rfl,ay G z⟩
theorem SetsIn.at {Q:Nat->Prop} {A:Option Addr} {n c:Nat} (h:SetsIn Q X (.slice A n c) L) {k:Nat} {s:Bs} (hk:L[k]?=some s):∃b o u,A=some ⟨b,o,none⟩/\X.cell? ⟨b,o+k,none⟩=some u/\SetIn Q X u s:=by
 obtain⟨Z,J,e,O,I,z⟩:=h
 cases e
 obtain⟨b,o,u,e,hq,G,hs⟩:=z k s hk;exact⟨b,o,u,e,G,hs⟩
theorem SetIn.form {Q:Nat->Prop} {s:Bs} (h:SetIn Q X v s):∃A c,v=.slice A s.length c:=by
 obtain⟨b,o,c,rfl,-⟩:=h;exact⟨_,_,rfl⟩
end
theorem SeqHyp.sets {l:List Evt} {x:Pt} {b:Bs} {i d e C:Nat} {v vc vl u:Value} {W0 w:World} {n1:Nat} {B:Option Nat} {bc bp bo bf:Nat} (h:SeqHyp l x b i d e C v vc vl u W0 w n1 B bc bp bo bf)
  {G z:World} {t:Value} {L:List Bs} (I:Mm w G) (hs:SetsIn (fun q=>G.heap.size<=q) z t L) (J:Mm G z):SetsIn (Own n1 B z) z t L :=
 hs.mono fun q hq=>h.new (ab I J) (by have:=I.size;omega)
theorem tq {l:List Evt} {d C:Nat} {vl:Value} {W0:World} (O:ScnAt l W0 C vl) {A:Option Addr} {n c:Nat} {ar:List Pt} (hx:aU d W0 (.slice A n c) ar) {k:Nat} {a:Pt} (ha:ar[k]?=some a) (j:Nat) (t:Bs) (ut:Value) (hS:jX l a t j) :
   ∃Av cv Ac nc cc G z,A=some ⟨G,z,none⟩/\(∀wr,Mm W0 wr->wr.cell? ⟨G,z+k*14,none⟩=some (Mk a.op)/\wr.cell? ⟨G,z+k*14+1,none⟩=some (.slice Av a.args.length cv) /\
   wr.cell? ⟨G,z+k*14+2,none⟩=some (Mk a.ty)/\wr.cell? ⟨G,z+k*14+3,none⟩=some (Mk a.vr)/\wr.cell? ⟨G,z+k*14+4,none⟩=some (Mk a.sc)/\wr.cell? ⟨G,z+k*14+5,none⟩=some (Mk a.sp) /\
   wr.cell? ⟨G,z+k*14+6,none⟩=some (Mk a.cond.op)/\wr.cell? ⟨G,z+k*14+7,none⟩=some (.slice Ac nc cc)/\wr.cell? ⟨G,z+k*14+8,none⟩=some (Mk a.cond.vr)/\wr.cell? ⟨G,z+k*14+9,none⟩=some (Mk a.cond.fl)/\wr.cell? ⟨G,z+k*14+10,none⟩=some (Mk a.cond.kd) /\
   wr.cell? ⟨G,z+k*14+11,none⟩=some (Mk a.cond.val.kind)/\wr.cell? ⟨G,z+k*14+12,none⟩=some (Mk a.cond.val.num)/\wr.cell? ⟨G,z+k*14+13,none⟩=some (.string a.cond.val.text)) /\
   (∃d' e',aU d' W0 (.slice Av a.args.length cv) a.args/\aK e' W0 (.slice Ac nc cc) a.cond.args) /\
   ∀Z,Mm W0 Z->fo Z ut t->Calls prog 51 #[.pointer (some ⟨C,0,none⟩),ptV a (.slice Av a.args.length cv) (.slice Ac nc cc),ut,Mk (j:Int)] Z (gY Z (bj l a t j)):=by
 obtain⟨A',c',e',h1,h2,k'⟩:=hx
 cases e'
 obtain⟨G,z,rfl,i'⟩:=k' k a ha;obtain⟨d',e',v',n',p',m',a',J,p0,p1,p2,p3,p4,p5,p6,p7,p8,p9,l',j',h',g'⟩:=eo i';have f':=a';have I:=J;obtain⟨Av,cv,rfl,-⟩:=a';obtain⟨Ae,ce,rfl,-⟩:=J;refine⟨Av,cv,Ae,_,ce,G,z,rfl,fun wr h=>⟨aa h p0,aa h p1,aa h p2,aa h p3,aa h p4,aa h p5,aa h p6,aa h p7,aa h p8,aa h p9,aa h l',aa h j',aa h h',aa h g'⟩,⟨d',e',f',I⟩,fun Z h hu=>?_⟩;exact hS d' e' C _ _ vl ut Z (aa h O.ev) (aa h O.fu) (O.is.stays aG h) (f'.stays (aB d') h) (I.stays (ai e') h) hu
theorem mu {l:List Evt} {x:Pt} {b:Bs} {i d e C:Nat} {v vc vl u:Value} {W0 w:World} {n1:Nat} {B:Option Nat} {bc bp bo bf:Nat} (h:SeqHyp l x b i d e C v vc vl u W0 w n1 B bc bp bo bf)
  {A:Option Addr} {n c:Nat} (hv:v=.slice A n c) {k:Nat} {a:Pt} (ha:x.args[k]?=some a) (j:Nat) (t:Bs) (ut:Value) (hS:jX l a t j) :
   ∃J Z Ac nc O G z,A=some ⟨G,z,none⟩/\(∀wr,Mm W0 wr->wr.cell? ⟨G,z+k*14,none⟩=some (Mk a.op)/\wr.cell? ⟨G,z+k*14+1,none⟩=some (.slice J a.args.length Z) /\
   wr.cell? ⟨G,z+k*14+2,none⟩=some (Mk a.ty)/\wr.cell? ⟨G,z+k*14+3,none⟩=some (Mk a.vr)/\wr.cell? ⟨G,z+k*14+4,none⟩=some (Mk a.sc)/\wr.cell? ⟨G,z+k*14+5,none⟩=some (Mk a.sp) /\
   wr.cell? ⟨G,z+k*14+6,none⟩=some (Mk a.cond.op)/\wr.cell? ⟨G,z+k*14+7,none⟩=some (.slice Ac nc O)/\wr.cell? ⟨G,z+k*14+8,none⟩=some (Mk a.cond.vr)/\wr.cell? ⟨G,z+k*14+9,none⟩=some (Mk a.cond.fl)/\wr.cell? ⟨G,z+k*14+10,none⟩=some (Mk a.cond.kd) /\
   wr.cell? ⟨G,z+k*14+11,none⟩=some (Mk a.cond.val.kind)/\wr.cell? ⟨G,z+k*14+12,none⟩=some (Mk a.cond.val.num)/\wr.cell? ⟨G,z+k*14+13,none⟩=some (.string a.cond.val.text)) /\
   (∃d' e',aU d' W0 (.slice J a.args.length Z) a.args/\aK e' W0 (.slice Ac nc O) a.cond.args) /\
   ∀I,Mm W0 I->fo I ut t->Calls prog 51 #[.pointer (some ⟨C,0,none⟩),ptV a (.slice J a.args.length Z) (.slice Ac nc O),ut,Mk (j:Int)] I (gY I (bj l a t j)):=by
 subst hv;exact tq h.scn h.pts ha j t ut hS
end
theorem zw:(prog.info? 124).map (fun i=>(i.zero,i.size,i.bytes))=some (some (.agg #[Mk 0,Mk 0]),2,16):=kr
theorem Ku:∀{S T:Bs},S.Pairwise (fun x y=>x.2<y.2)->T.Pairwise (fun x y=>x.2<y.2)->(∀k,k∈S↔k∈T)->S=T
 | [],[],_,_,_=>rfl
 | [],y::T,_,_,h=>absurd ((h y).2 (Mz ..)) jS
 | x::S,[],_,_,h=>absurd ((h x).1 (Mz ..)) jS
 | x::S,y::T,hs,ht,h=>by
  rw[OJ]at hs ht;have I:x=y:=by
   have G:=(h x).1 (Mz ..);have z:=(h y).2 (Mz ..);rcases List.mem_cons.1 G with G|G
   ·exact G
   ·rcases List.mem_cons.1 z with z|z
    ·exact z.symm
    ·have:=ht.1 x G;have:=hs.1 y z;omega
  subst I;rw[Ku hs.2 ht.2 fun k=>⟨fun hk=>?_,fun hk=>?_⟩]
  ·rcases List.mem_cons.1 ((h k).1 (MD _ hk)) with e|e
   ·have:=hs.1 k hk;subst e;omega
   ·exact e
  ·rcases List.mem_cons.1 ((h k).2 (MD _ hk)) with e|e
   ·have:=ht.1 k hk;subst e;omega
   ·exact e
theorem BT:∀(s:Bs),(∀x∈s,x.2<=1048576)->∃es:List PX,es.map (·.1)=s
 | [],_=>⟨[],rfl⟩
 | x::r,h=>by
  obtain⟨es,he⟩:=BT r fun y hy=>h y (MD _ hy)
  exact⟨⟨x,h x (Mz ..)⟩::es,by rw[MF,he]⟩
theorem vD {es es':List PX} {s t:Bs} (he:es.map (·.1)=s++t) (hp:es'.Perm es) (G:es'.Pairwise (fun a b=>¬pxC b a<0)) (hs:zX s) (O:zX t) (I:∀x∈s,∀y∈t,x.2≠y.2):es'.map (·.1)=aA s t:=by
 refine Ku ?_ (ep s t hs O I) fun k=>?_
 ·have z:(es.map (·.1)).Pairwise (fun x y=>x.2≠y.2):=by
   rw[he,Po];exact⟨hs.imp fun h=>Pd h,O.imp fun h=>Pd h,I⟩
  have J:(es'.map (·.1)).Pairwise (fun x y=>x.2≠y.2):=(List.Perm.pairwise_iff (fun h=>MT h) (hp.map _)).2 z;rw[List.pairwise_map]at J ⊢;exact (G.and J).imp fun ⟨a,b⟩=>by unfold pxC at a;omega
 ·rw[(hp.map _).mem_iff,he,NC,cd]
def mz (w:World) (L:Bs) (e:Ending) (W:World):Prop:=∃v,e=.returned v/\SetIn (fun b=>w.heap.size<=b) W v L/\Mm w W
theorem lR (s t:Bs) (u v:Value) (w:World) (hu:fo w u s) (hv:fo w v t) (hs:zX s) (ht:zX t) (hd:∀x∈s,∀y∈t,x.2≠y.2) (r':t≠[]) (hb:∀x∈s++t,x.2<=1048576) (hl:s.length+t.length<=1048576) :
  Calls prog 250 #[u,v] w (mz w (aA s t)):=by
 obtain⟨es,d'⟩:=BT (s++t) hb;have E':=jD (fun (es':List PX) (hp:es'.Perm es) (O:es'.Pairwise (fun a b=>¬pxC b a<0))=>vD d' hp O hs ht hd);obtain⟨As,c1,rfl,h1,h2,-⟩:=id hu;obtain⟨At,c2,rfl,k1,k2,-⟩:=id hv;obtain⟨cs,z',j',-⟩:=gR mB hu;obtain⟨ds,y',i',-⟩:=gR mB hv;have F':=ay h1 h2;have S':=ay k1 k2;have u':=List.length_pos_iff.2 r';have I':=jD (z'.app y');have P':=jD d';have c':es.length=s.length+t.length:=by have:=congrArg List.length d';simpa using this
 have l':Hid ((s++t).length=s.length+t.length):=jD Mw;obtain⟨n,hn⟩:=jF s.length;obtain⟨m,hm⟩:=jF t.length;rw[<-hn]at j' F' hl c' l' ⊢;rw[<-hm]at i' S' hl c' u' l' ⊢;obtain⟨N,hN⟩:=jF (n+m);have hw:IntKind.i64.wrap ((n:Int)+(m:Int))=(N:Int):=by rw[hN];simp[IntKind.wrap,IntKind.bits,IntKind.signed];omega
 have R':=jD j';have T':=jD i';clear j' i' z' y' h1 h2 k1 k2 d' hu hv hs ht hd r' hb hn hm;obtain⟨i0,hi,h',p',m'⟩:=Np zw;have V':(N:Int)<=9223372036854775807:=by omega
 have U':N<=1048576:=by omega
 clear hN;go_enter func250,ntmps250;go_wp2_with (first
  | (at_make;refine wpList_make_own _ rfl (.const (Mk 0)) (.tmp 10) 122 rfl w.heap.size 124 i0 _ 2 underlying122 hi h' p' .i64 .i64 (N:Int) N rfl rfl rfl (by rw[m'];omega) (by unfold maxLen;omega) (Mt _) ?_;intro w7 G x';have Z:Mm w w7:=au x' (Mt _) (fun g h=>by cases h))
  | (at_builtin;refine bA _ rfl (.tmp 11) (.tmp 12) 122 rfl w.heap.size 124 i0 _ 2 16 underlying122 hi h' p' m' rfl dc (.slice (some ⟨w.heap.size,0,none⟩) 0 N) 0 [] rfl G As n c1 cs rfl (R'.out.stays Z) (by unfold maxLen;omega) om Z.size ?_;intro v8 w8 I D' k';have J:Mm w w8:=Z.trans (au D' Z.size (fun g h=>(ag G h).1)))
  | (at_builtin;refine bA _ rfl (.tmp 13) (.tmp 14) 122 rfl w.heap.size 124 i0 _ 2 16 underlying122 hi h' p' m' rfl dc v8 (0+n) ([]++cs) rfl I At m c2 ds rfl (T'.out.stays J) (by unfold maxLen;omega) om J.size ?_;intro v9 w9 z C' n';have a':Mm w w9:=J.trans (au C' J.size (fun g h=>(ag I h).1))))
 have e0:0+n+m=es.length:=by omega
 rw[e0]at z;obtain⟨g,cap,spare,rfl,hg,s',N',J'⟩:=mr z om;have t':Sl vY 2 w9 (.slice (some ⟨g,0,none⟩) es.length cap) (s++t):=dr I'.out a' (by rw[l'.out,<-c'];exact z);have A':∀(k:Nat) (x:PX),es[k]?=some x->vY w9 g (0+k*2) x.1:=fun k x hx=>by
  obtain⟨A,c,hA,-,-,h3⟩:=t';obtain⟨b,o,H',hp⟩:=h3 k x.1 (by rw[<-P'.out,MA,hx];rfl);rw[H']at hA;injection hA with hA;injection hA with hA;injection hA with e1 e2;subst e1 e2;exact hp
 refine (vE es g cap _ w9 s' A' om).mono ?_;rintro e O' ⟨rfl,es',hp,O,f',B'⟩;have hm:=E'.out es' hp (by first|exact O|exact O.imp fun h=>Int.not_lt.1 h);have g':Mm w O':=a'.trans (au B' a'.size (fun k e=>by cases e;exact hg));have G':=jD f';have HM:=jD hm;have HB:=jD g';have HP:=jD hp;clear A' f' hm g' hp O B' G I z Z J a' x' D' C' k' n' s' t';go_wp2;go_ret;refine⟨_,rfl,?_,HB.out⟩;rw[<-HM.out];have q':=HP.out.length_eq;refine⟨g,0,cap,by rw[MB,q',c'];rfl,by rw[MB,q'];exact N',J',fun e=>?_,hg,fun k x hk=>?_⟩
 ·have:=congrArg List.length e;rw[MB,q',Og]at this;omega
 ·rw[MA]at hk;obtain⟨y,hy,rfl⟩:=Option.map_eq_some_iff.1 hk;exact G'.out k y hy
section
open Go.RowKit Go.Lib
theorem AA {n0 n1:Nat} {B:Option Nat} {w:World} {L:List Bs} {v:Value} {bv:Nat} (hn:n0<=w.heap.size) (f':n1<=w.heap.size) (hB:∀k,B=some k->k<n1) (hv:w.cell? ⟨bv,0,none⟩=some v) (ho:Own n1 B w bv) (hs:SetsIn (Own n1 B w) w v L) :
  SeqC 248 #[.pointer (some ⟨bv,0,none⟩)] L (InS n1 B) (aE n0 n1 B) w:=by
 intro ly J Jx W hW hJ g' hY c';have HY:=jD hY;have hK:aE n0 n1 B w W:=cf hW hn (fun k hk=>by have:=hB k hk;omega);replace hv:=(bQ hK ho hv).1;replace hs:=SetsIn.keepO hK hs;have HS:Hid (J 0 W/\SetsIn (Own n1 B W) W v L):=jD ⟨c',hs⟩;obtain⟨A,c,rfl,I⟩:=hs.form;have i':=Ms W ⟨bv,_,none⟩ hv;obtain⟨n,hn⟩:=jF L.length;have HN:=jD hn;rw[<-hn]at HS I hv;clear hW hJ g' hY c' hK ho hs hn f' hB;show Calls prog 248 #[.func (.yield ly) #[] #[],.pointer (some ⟨bv,0,none⟩)] W _;go_enter func248,ntmps248;refine (Ok (n:=5)).1 ?_;gi_wp2
 gi_loopw [7] (fun t wr=>∃j:Nat,j<=n/\t=Mk j/\Hid (J j wr/\SetsIn (Own n1 B wr) wr (.slice A n c) L)) (fun t _=>n-(RowKit.intOf t).toNat)
 case atStart=>exact⟨0,Mu _,rfl,HS⟩
 case round =>
  obtain⟨j,hj,rfl,hI⟩:=hrel
  by_cases G:j<n
  ·have h':(j:Int)<(n:Int):=by omega
   obtain⟨s,z⟩:∃s,L[j]?=some s:=⟨_,Mq (by have:=HN.out;omega)⟩;obtain⟨sb,so,us,rfl,d',h⟩:=hI.out.2.at z;obtain⟨Au,cu,rfl⟩:=h.form;have j':=Ms wr ⟨sb,_,none⟩ d';have O:Hid (YieldAt Fence.wide (5-1) prog ly #[.slice Au s.length cu] wr fun e W'=>(e=.returned (.bool true)/\J (j+1) W'/\SetsIn (Own n1 B W') W' (.slice (some ⟨sb,so,none⟩) n c) L)\/(e=.returned (.bool false)/\Jx (j+1) W')):=by
    refine jD (cg (HY.out _ j s _ wr z hI.out.1 ⟨_,rfl,h⟩) ?_);rintro e W' (⟨rfl,g1,g2⟩|⟨rfl,g1⟩)
    ·exact .inl ⟨rfl,g1,SetsIn.keepO g2 hI.out.2⟩
    ·exact .inr ⟨rfl,g1⟩
   obtain⟨ns,a'⟩:∃n,n=s.length:=⟨_,rfl⟩;rw[<-a']at O d';clear z h a';gi_wp2;refine dx O.out (fun W7 Z=>?_) (fun W7 Z=>?_)
   ·have H7:=jD Z;clear Z;gi_wp2
    go_roundw
    case rel=>exact⟨j+1,by omega,by go_num,H7⟩
    case measure=>exact jh G
   ·have H7:=jD Z;clear Z;gi_wp2;refine Mv (v:=.tuple #[]) (NI rfl _ _ _) rfl ?_;exact⟨⟨_,rfl⟩,.inr ⟨j,by rw[<-HN.out];exact G,H7.out⟩⟩
  ·have h':¬(j:Int)<(n:Int):=by omega
   obtain rfl:j=n:=by omega
   have HE:Hid (J L.length wr):=jD (by rw[<-HN.out];exact hI.out.1);gi_wp2;refine OI (NI rfl _ _ _) rfl ?_;exact⟨⟨_,rfl⟩,.inl HE.out⟩
def LF (w:World) (v:Value) (e:Ending) (W:World):Prop:=e=.returned (.func (.func 248) #[] #[.pointer (some ⟨w.heap.size,0,none⟩)])/\W=w.alloc (.cells #[v] 119)
theorem zN (A:Option Addr) (n c:Nat) (w:World):Calls prog 200 #[.slice A n c] w (LF w (.slice A n c)):=by
 go_enter func200,ntmps200;go_wp2;go_ret;exact⟨rfl,rfl⟩
end
section
open Go.RowKit Go.Lib
theorem JY {l:List Evt} {x:Pt} {b:Bs} {i d e C:Nat} {v vc vl u:Value} {W0 w:World} {n1:Nat} {B:Option Nat} {bc bp bo bf:Nat} (H:SeqHyp l x b i d e C v vc vl u W0 w n1 B bc bp bo bf)
  (E':x.op=2) (hB:BOk i b) (hi:i<=l.length) (hA:∀a∈x.args,fI l a) :
  SeqC 203 #[.pointer (some ⟨bp,0,none⟩),.pointer (some ⟨bc,0,none⟩),.pointer (some ⟨bo,0,none⟩),.pointer (some ⟨bf,0,none⟩)] (fO l x b i) (InS n1 B) (aE W0.heap.size n1 B) w:=by
 obtain⟨F,hF⟩:∃F:Pt->List Bs,F=fun a=>bj l a b i:=⟨_,rfl⟩
 rw[show fO l x b i=x.args.flatMap F from by unfold fO;rw[Mo om,Mo om,Mp E',hF]];intro ly J Jx W hW hJ V' hY r';have H0:=H.next (H.grow hW);have H1:=jD H0;have HJ:=jD hJ;have HY:=jD hY;have I':=jD r';have G':=jD H0.bs;have z':Hid (∀(k:Nat) a,x.args[k]?=some a->jX l a b i):=jD fun k a ha=>hA a (MI ha) b i hB hi
 have HF:=jD hF;obtain⟨Al,cl,rfl,-⟩:=id H0.scn.is;obtain⟨Ab,cb,rfl,-⟩:=id H0.bs;obtain⟨A,c,rfl,x1,x2,-⟩:=id H0.pts;obtain⟨Ac,cc,rfl,-⟩:=id H0.exs;have n':=ay x1 x2;have d':=H0.caps.p.1 1 _ rfl;rw[MC]at d';have Z':=Ms W ⟨bp,_,none⟩ d';have y':=jD (fun (k:Nat) (a:Pt) (ha:x.args[k]?=some a)=>mu H1.out rfl ha i b (.slice Ab b.length cb) (z'.out k a ha));obtain⟨nb,B'⟩:∃n,n=b.length:=⟨_,rfl⟩;obtain⟨n,hn⟩:=jF x.args.length;have D':=jD hn;rw[<-B']at H1 y' G';rw[<-hn]at n' d';clear H H0 hW hJ V' hY r' hB hA x1 x2 B' hn E' hF z' hi;show Calls prog 203 #[.func (.yield ly) #[] #[],.pointer (some ⟨bp,0,none⟩),.pointer (some ⟨bc,0,none⟩),.pointer (some ⟨bo,0,none⟩),.pointer (some ⟨bf,0,none⟩)] W _;go_enter func203,ntmps203;refine (Ok (n:=5)).1 ?_;gi_wp2
 gi_loopw [13] (fun t wr=>∃k:Nat,k<=n/\t=Mk k/\Hid (J (dE F x.args k 0) wr/\aE W0.heap.size n1 B W wr)) (fun t _=>n-(RowKit.intOf t).toNat)
 case atStart=>exact⟨0,Mu _,rfl,jD ⟨by rw[yW];exact I'.out,eO _ _ _ _⟩⟩
 case round =>
  obtain⟨k,hk,rfl,G⟩:=hrel
  by_cases N':k<n
  ·have H':(k:Int)<(n:Int):=by omega
   obtain⟨wk,p'⟩:=jF wr;rw[<-p']at G ⊢;clear p';have Hr:=H1.out.next G.out.2;have i':=jD Hr;have z:=jD Hr.bel;obtain⟨zc,-⟩:=Hr.caps.c;obtain⟨zo,-⟩:=Hr.caps.o;obtain⟨zf,-⟩:=Hr.caps.f;obtain⟨a,ha⟩:∃a,x.args[k]?=some a:=⟨_,Mq (by have:=D'.out;omega)⟩;obtain⟨Av,cv,Ae,ne,ce,pb,po,rfl,a',-,h⟩:=y'.out k a ha;unfold ptV at h;have h':=jD h;have HA:=jD ha;obtain⟨p0,p1,p2,p3,p4,p5,p6,p7,p8,p9,J',U',T',O'⟩:=a' wk z.out;have s':=Ms wk ⟨pb,_,none⟩ p0;have Y':=Ms wk ⟨bc,_,none⟩ zc;have R':=Ms wk ⟨bo,_,none⟩ zo;have S':=Ms wk ⟨bf,_,none⟩ zf;obtain⟨na,t'⟩:∃n,n=a.args.length:=⟨_,rfl⟩;rw[<-t']at h' p1;clear a' h Hr ha t';gi_wp2;refine⟨trivial,callsIn_wide.2 ?_⟩;refine aI fun w3 e3=>?_
   have I:Mm wk w3:=gb e3;clear e3;refine (h'.out _ (z.out.trans (I.mono z.out.size)) (G'.out.stays aL (z.out.trans (I.mono z.out.size)))).mono ?_;rintro e4 w4 ⟨v4,rfl,C',m'⟩;have k':=i'.out.sets I C' m';have O:=ab I m';have q':=aR G.out.2 (i'.out.grow O);have f':Hid (J (dE F x.args k 0) w4/\aE W0.heap.size n1 B W w4/\SetsIn (Own n1 B w4) w4 v4 (bj l a b i)):=jD ⟨aS HJ.out G.out.1 O,q',k'⟩;obtain⟨A4,c4,rfl,x'⟩:=k'.form;have Z:Hid (bj l a b i=F a):=jD (by rw[HF.out]);obtain⟨L,hL⟩:=jF (bj l a b i);rw[<-hL]at f' Z x' ⊢;obtain⟨n4,j'⟩:∃n,n=L.length:=⟨_,rfl⟩;have g':=jD j';rw[<-j']at f' x' ⊢;clear C' m' k' O q' I hL j' p0 p1 p2 p3 p4 p5 p6 p7 p8 p9 J' U' T' O' zc zo zf s' Y' R' S' h' i' z G;gi_wp2
   gi_loopw [23] (fun t wr=>∃j:Nat,j<=n4/\t=Mk j/\Hid (J (dE F x.args k j) wr/\aE W0.heap.size n1 B W wr/\SetsIn (Own n1 B wr) wr (.slice A4 n4 c4) L)) (fun t _=>n4-(RowKit.intOf t).toNat)
   case atStart=>exact⟨0,Mu _,rfl,f'⟩
   case round =>
    obtain⟨j,hj,rfl,G⟩:=hrel
    by_cases c':j<n4
    ·have X':(j:Int)<(n4:Int):=by omega
     obtain⟨s,hs⟩:∃s,L[j]?=some s:=⟨_,Mq (by have:=g'.out;omega)⟩;obtain⟨sb,so,us,rfl,A',l'⟩:=G.out.2.2.at hs;obtain⟨Au,cu,rfl⟩:=l'.form;have K0:=Ms wr ⟨sb,_,none⟩ A';have u':Hid (YieldAt Fence.wide (5-1) prog ly #[.slice Au s.length cu] wr fun e W'=>(e=.returned (.bool true)/\J (dE F x.args k (j+1)) W'/\aE W0.heap.size n1 B W W'/\SetsIn (Own n1 B W') W' (.slice (some ⟨sb,so,none⟩) n4 c4) L)\/(e=.returned (.bool false)/\Jx (dE F x.args k j+1) W')):=by
      refine jD (cg (HY.out _ (dE F x.args k j) s _ wr (oO HA.out (by rw[<-Z.out];exact hs)) G.out.1 ⟨_,rfl,l'⟩) ?_);rintro e W' (⟨rfl,g1,g2⟩|⟨rfl,g1⟩)
      ·exact .inl ⟨rfl,g1,aR G.out.2.1 g2,SetsIn.keepO g2 G.out.2.2⟩
      ·exact .inr ⟨rfl,g1⟩
     have P':Hid (dE F x.args k j<(x.args.flatMap F).length):=jD (I5 HA.out (by rw[<-Z.out,<-g'.out];exact c'));obtain⟨ns,F'⟩:∃n,n=s.length:=⟨_,rfl⟩;rw[<-F']at u' A';clear hs l' F';gi_wp2;refine dx u'.out (fun W7 h7=>?_) (fun W7 h7=>?_)
     ·have H7:=jD h7;clear h7;gi_wp2
      go_roundw
      case rel=>exact⟨j+1,by omega,by go_num,H7⟩
      case measure=>exact jh c'
     ·have H7:=jD h7;clear h7;gi_wp2;refine Mv (v:=.tuple #[]) (NI rfl _ _ _) rfl ?_;exact⟨⟨_,rfl⟩,.inr ⟨_,P'.out,H7.out⟩⟩
    ·have X':¬(j:Int)<(n4:Int):=by omega
     obtain rfl:j=n4:=by omega
     have HE:Hid (J (dE F x.args (k+1) 0) wr/\aE W0.heap.size n1 B W wr):=jD ⟨by rw[nj HA.out,<-Z.out,<-g'.out];exact G.out.1,G.out.2.1⟩;gi_wp2
     go_roundw
     case rel=>exact⟨k+1,by omega,by go_num,HE⟩
     case measure=>exact jh N'
  ·have H':¬(k:Int)<(n:Int):=by omega
   obtain rfl:k=n:=by omega
   have HE:Hid (J (x.args.flatMap F).length wr):=jD (by rw[<-ri,<-D'.out];exact G.out.1);gi_wp2;refine OI (NI rfl _ _ _) rfl ?_;exact⟨⟨_,rfl⟩,.inl (by have:=HE.out;rw[Pw]at this;exact this)⟩
theorem J7 (l:List Evt) (x:Pt) (b:Bs) (i:Nat) (z:x.op=2) (hB:BOk i b) (hi:i<=l.length) (hA:∀a∈x.args,fI l a):FinderK 133 l x b i:=by
 intro d e C v vc vl u W0 w G hx h hu hb;have HQ:=jD (fun (n1:Nat) (B:Option Nat) O I Z J (tc tp to tf:TypeId)=>JY (eS (i:=i) (n1:=n1) (B:=B) G hx h hu hb O I Z J tc tp to tf) z hB hi hA);obtain⟨A,c,rfl,-⟩:=id hx;obtain⟨Ac,cc,rfl,-⟩:=id h;obtain⟨Ab,cb,rfl,-⟩:=id hu;clear G hx h hu hb hB hA z;unfold ptV;go_enter func133,ntmps133;go_wp2;go_ret;exact⟨_,_,rfl,fun _ _=>rfl,jB,fun n1 B O I Z J=>HQ.out n1 B O I Z J _ _ _ _⟩
end
theorem Em {s:Bs} {p:Nat} (h:s.length=p+1):∃x,s[p]?=some x/\x.2=bW s:=by
 refine⟨s[p]'om,Mq om,?_⟩;have e:s.getLast?=some (s[p]'om):=by
  rw[PF,show s.length-1=p by omega];exact Mq _
 unfold bW;rw[e];rfl
theorem EU {Q:Nat->Prop} {w:World} {v:Value} {s:Bs} (h:SetIn Q w v s):∃b o c p,v=.slice (some ⟨b,o,none⟩) (p+1) c/\s.length=p+1/\b<w.heap.size/\w.cell? ⟨b,o+p*2+1,none⟩=some (Mk (bW s:Int)):=by
 obtain⟨b,o,c,rfl,h1,O,I,Z,G⟩:=h;obtain⟨p,hp⟩:∃p,s.length=p+1:=⟨s.length-1,by have:=List.length_pos_iff.2 I;omega⟩;obtain⟨x,J,he⟩:=Em hp;have z:=(G p x J).2;rw[he]at z;exact⟨b,o,c,p,by rw[hp],hp,Ms w ⟨b,_,none⟩ z,z⟩
def nE (s:Bs):Nat:=(s.head?.map (·.2)).getD 0
def dS (l:List Evt) (ty vr:Int) (c:Ex) (b s:Bs) (k:Nat):Bool:=!(decide (nE s<=k)&&!(mA s k)&&(l[k]?.map fun e=>decide (e.ty=ty)&&cT (cY l (aA b s) k) vr e c).getD false)
def vZ (l:List Evt) (ty vr:Int) (c:Ex) (b s:Bs):Bool:=(List.range (bW s)).all (dS l ty vr c b s)
theorem AQ {l:List Evt} {ty vr:Int} {c:Ex} {b s:Bs} {k:Nat} (hk:k<bW s) (h:dS l ty vr c b s k=false):vZ l ty vr c b s=false:=by
 unfold vZ;rw[List.all_eq_false];exact⟨k,List.mem_range.2 hk,by rw[h];simp⟩
theorem iY {l:List Evt} {ty vr:Int} {c:Ex} {b s:Bs} {k:Nat} (h:(List.range k).all (dS l ty vr c b s)=true) (hk:dS l ty vr c b s k=true):(List.range (k+1)).all (dS l ty vr c b s)=true:=by
 rw[List.range_succ,List.all_append,h];simp[hk]
theorem wd (l:List Evt) (ty vr:Int) (c:Ex) (b s:Bs):(List.range (nE s)).all (dS l ty vr c b s)=true:=by
 rw[Pi];intro k hk;rw[List.mem_range]at hk;unfold dS;rw[Nb om];rfl
theorem Eu {l:List Evt} {ty vr:Int} {c:Ex} {b s:Bs} {k:Nat} {y:Evt} (h:nE s<=k) (hy:l[k]?=some y):dS l ty vr c b s k=!(!(mA s k)&&(decide (y.ty=ty)&&cT (cY l (aA b s) k) vr y c)):=by
 unfold dS;rw[Nm h,hy];rfl
theorem Er {Q:Nat->Prop} {w:World} {b o n c:Nat} {s:Bs} (h:SetIn Q w (.slice (some ⟨b,o,none⟩) n c) s):w.cell? ⟨b,o+1,none⟩=some (Mk (nE s:Int)):=by
 obtain⟨b',o',c',e,-,-,O,-,J⟩:=h;injection e with G e2 e3;injection G with G;injection G with G Z;subst G Z;obtain⟨z,r,I⟩:∃z r,s=z::r:=by
  cases s with
  | nil=>exact absurd rfl O
  | cons z r=>exact⟨z,r,rfl⟩
 have h:=(J 0 z (by rw[I];rfl)).2;rw[Nn,Nc]at h;rw[h,I];rfl
end Go.Proofs.YtbjicljfjkdeeaaGreatDoor
