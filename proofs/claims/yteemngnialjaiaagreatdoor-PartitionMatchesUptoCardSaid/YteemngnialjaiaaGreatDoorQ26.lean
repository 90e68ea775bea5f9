/- Part. -/
import Derived.Test.YteemngnialjaiaaGreatDoorQ23
import Derived.RangeFuncCalls
import Derived.Test.YteemngnialjaiaaGreatDoorQ25
import Derived.Test.YteemngnialjaiaaGreatDoorQ24
set_option maxRecDepth 100000
set_option maxHeartbeats 16000000
set_option linter.unusedVariables false
set_option linter.unusedSimpArgs false
namespace Go.Proofs.YteemngnialjaiaaGreatDoor
open Go.Proofs.Tryz Go.RowKit
variable {w W W' X Y w':World}{B row:Option Nat}{t b s:Bs}{v u vl vc:Value}{F:Fence}{P:Program}{c:Ex}{Q:Nat->Prop}{a y x:Pt}{l:List Evt}{k n1 base I g i o p C n0 bc bp bo:Nat}{L:List Bs}{vs cs:List Value}{f:Fnd}{r:List Pt}{e:Ending}{A:Option Addr}
def lA:Nat->List Value
 | 0=>[OB 0,OB 0,.bool true,.bool true,.bool false,.bool false]
 | 1=>[OB 2,OB 64,.bool false,.bool false,.bool false,.bool false]
 | 2=>[OB 2,OB 64,.bool false,.bool false,.bool false,.bool false]
 | 3=>[OB 2,OB 64,.bool false,.bool false,.bool false,.bool false]
 | 4=>[OB 1,OB 1,.bool false,.bool false,.bool false,.bool false]
 | 5=>[OB 1,OB 1,.bool true,.bool true,.bool true,.bool false]
 | 6=>[OB 1,OB 1,.bool false,.bool false,.bool true,.bool true]
 | 7=>[OB 1,OB 1,.bool false,.bool true,.bool false,.bool false]
 | 8=>[OB 2,OB 2,.bool false,.bool false,.bool false,.bool false]
 | 9=>[OB 1,OB 1,.bool true,.bool true,.bool true,.bool false]
 | _=>[OB 1,OB 1,.bool false,.bool false,.bool true,.bool true]
def Shp(w:World):Prop:=∀k:Nat,k<11->Cells w 0 (k*6) (lA k)
theorem Shp.stays(h:Shp w)(J:OD w W):Shp W:=fun k hk j u I=>aa J (h k hk j u I)
section
open Go.RowKit Go.Lib
attribute [local go_sem] Oper.semAt_some
theorem lB{B:Nat}(h:OD W W'):KeepsFrom B W W':=⟨h.size,fun k _ _ hk _=>(h.block k (Array.getElem?_eq_some_iff.1 hk).1).trans hk⟩
theorem gY{B:Nat}{t:TypeId}(h:Boxed W B t v)(J:W.grownBy W' row)(hr:∀r,row=some r->∃o:Obj,W.heap[r]?=some o/\o.isCells=false):Boxed W' B t v :=
 h.kept J (fun e=>by obtain⟨o,I,Z⟩:=hr B e.symm;rw[show W.heap[B]?=_ from h]at I;cases I;cases Z)
theorem Cy{n:Nat}(h:Below n w X)(J:n<=X.heap.size)(I:X.grownBy Y row)(hr:∀r,row=some r->n<=r):Below n w Y:=h.grown I J (fun k e=>hr k e)
theorem Hm{n:Nat}{c:Code}{Q:Exit->Act->World->Prop}{a:Act}(h:∀a0,a0=a->c.wpIn F n P Q a0 w):c.wpIn F n P Q a w:=h a rfl
mutual
theorem mP:∀(x:Pt) y,y∈aV x->ptB y<=ptB x
 | .mk o l a b c d e,y,h=>by
  rw[aV,O7]at h;rcases h with rfl|h
  ·exact OI _
  ·have:=tN l y h;rw[lK (.mk o l a b c d e)];show ptB y<=1+ll l+aC e;omega
theorem tN:∀(l:List Pt) y,y∈dq l->ptB y<=ll l
 | [],y,h=>by rw[dq]at h;cases h
 | a::r,y,h=>by
  rw[dq,Qg]at h;rw[ll];rcases h with h|h
  ·have:=mP a y h;omega
  ·have:=tN r y h;omega
end
mutual
theorem B0:∀(x:Pt) y,y∈aV x->ptN y<=ptN x
 | .mk o l a b c d e,y,h=>by
  rw[aV,O7]at h;rcases h with rfl|h
  ·exact OI _
  ·have:=sY l y h;rw[cK (.mk o l a b c d e)];show ptN y<=1+cE l;omega
theorem sY:∀(l:List Pt) y,y∈dq l->ptN y<=cE l
 | [],y,h=>by rw[dq]at h;cases h
 | a::r,y,h=>by
  rw[dq,Qg]at h;rw[cE];rcases h with h|h
  ·have:=B0 a y h;omega
  ·have:=sY r y h;omega
end
theorem qb:∀l:List Pt,l.length<=cE l
 | []=>OO _
 | a::r=>by rw[Pk,cE];have:=qb r;have:=cK a;omega
theorem Ij(x:Pt):x.args.length<=ptN x:=by have:=qb x.args;have:=cK x;omega
theorem mD(x:Pt):aC x.cond<=ptB x:=by have:=lK x;omega
end
section
open Go.RowKit Go.Lib
attribute [local go_sem] Oper.semAt_some
def kH(y:Pt):Int:=if 8<=y.op then 1 else 0
def fU(x:Pt):Int:=if dB x≠0 then dB x else fy ((aV x).map kH)
theorem oH:∀l:List Pt,fy (l.map kH)=if l.any (fun y=>decide (8<=y.op)) then 1 else 0
 | []=>rfl
 | a::r=>by
  rw[OU,fy,oH r,List.any_cons];unfold kH
  by_cases h:8<=a.op<;>simp[h]
theorem ED(x:Pt):fU x=if dB x≠0 then dB x else if (aV x).any (fun y=>decide (8<=y.op)) then 1 else 0:=by unfold fU;rw[oH]
end
section
open Go.RowKit Go.Lib
attribute [local go_sem] Oper.semAt_some
abbrev Cn:=Int × Int × Bool
def ec(st:Cn)(y:Pt):Cn:=(if ee y.op then st.1+1 else st.1,if iq y.op then st.2.1+1 else st.2.1,(if ee y.op then st.2.2&&decide (y.vr=st.1) else st.2.2)&&(!iq y.op || decide (y.sc=st.2.1)))
def iK(l:List Pt):Cn:=l.foldl ec (0,0,true)
theorem pQ:∀(l:List Pt)(v s:Int)(o:Bool),(l.foldl ec (v,s,o)).2.2=(o&&cR v s l)
 | [],v,s,o=>by simp[cR]
 | y::r,v,s,o=>by
  rw[PR];show (r.foldl ec (_,_,_)).2.2=_;rw[pQ r,cR]
  cases h1:ee y.op<;>cases h:iq y.op<;>simp[Bool.and_assoc]
theorem KG(l:List Pt):(iK l).2.2=cR 0 0 l:=by unfold iK;rw[pQ];simp
theorem EQ{l:List Pt}(h:l[k]?=some y):iK (l.take (k+1))=ec (iK (l.take k)) y:=by
 unfold iK;rw[ef h,Qm];rfl
theorem B9:∀(l:List Pt)(v s:Int)(o:Bool),v<=(l.foldl ec (v,s,o)).1/\(l.foldl ec (v,s,o)).1<=v+l.length/\s<=(l.foldl ec (v,s,o)).2.1/\(l.foldl ec (v,s,o)).2.1<=s+l.length
 | [],v,s,o=>by simp
 | y::r,v,s,o=>by
  rw[PR];have h:=B9 r (ec (v,s,o) y).1 (ec (v,s,o) y).2.1 (ec (v,s,o) y).2.2;have e1:(ec (v,s,o) y).1=v\/(ec (v,s,o) y).1=v+1:=by simp only[ec];split<;>simp
  have J:(ec (v,s,o) y).2.1=s\/(ec (v,s,o) y).2.1=s+1:=by simp only[ec];split<;>simp
  have I:((ec (v,s,o) y).1,(ec (v,s,o) y).2.1,(ec (v,s,o) y).2.2)=ec (v,s,o) y:=rfl;rw[I]at h;rw[Pk];omega
def Bx3(W:World)(B:Nat)(st:Cn):Prop:=Boxed W B 3 (OB st.1)/\Boxed W (B+1) 3 (OB st.2.1)/\Boxed W (B+1+1) 4 (.bool st.2.2)
section
variable {B:Nat}{st:Cn}
theorem Bx3.alloc(h:Bx3 W B st)(o:Obj):Bx3 (W.alloc o) B st:=⟨h.1.alloc o,h.2.1.alloc o,h.2.2.alloc o⟩
end
end
theorem ku:∀{l:List Int},fy l=0->∀a∈l,a=0
 | [],_,_,h=>by cases h
 | b::r,h,a,ha=>by
  rw[fy]at h
  by_cases I:b=0
  ·rw[OF (jQ I)]at h;rcases List.mem_cons.1 ha with rfl|ha
   ·exact I
   ·exact ku h a ha
  ·rw[OG I]at h;exact absurd h I
theorem Mw(h:ptE y=0):0<=y.op/\y.op<=10:=by
 by_cases I:y.op<0\/10<y.op
 ·unfold ptE at h;rw[OG I]at h;exact absurd h dc
 ·omega
theorem D3(h:dB x=0):∀y∈aV x,0<=y.op/\y.op<=10:=fun y hy=>by
 unfold dB at h
 split at h
 ·exact absurd h dc
 ·split at h
  ·exact absurd h dc
  ·exact Mw (ku h _ (List.mem_map.2 ⟨y,hy,rfl⟩))
theorem AU(h:fU x=0):∀y∈aV x,0<=y.op/\y.op<=10:=D3 (by
 unfold fU at h
 by_cases h0:dB x=0
 ·exact h0
 ·rw[OG h0]at h;exact h)
theorem A0(x:Pt):fx x=if fU x≠0 then fU x else if (iK (aV x)).2.2 then 0 else 14:=by
 rw[KG,ED];unfold fx
 by_cases h0:dB x=0
 ·have e:¬dB x≠0:=fun h=>h h0
  simp only[OF e]
  cases I:(aV x).any (fun y=>decide (8<=y.op))<;>simp
 ·rw[OG h0,OG h0,OG h0]
theorem DV(a:Bs):ah a []=a:=by cases a<;>rw[ah]
theorem BR(a:Bs):ah [] a=a:=by rw[ah]
theorem Fx{x y:Int×Nat}{a:Bs}(h:x.2<y.2):ah (x::a) (y::b)=x::ah a (y::b):=by rw[ah,OG h]
theorem F8{x y:Int×Nat}{a:Bs}(h:¬x.2<y.2):ah (x::a) (y::b)=y::ah (x::a) b:=by rw[ah,OF h]
theorem gL(a b:Bs):(ah a b).length=a.length+b.length:=by
 match a,b with
 | [],b=>rw[BR];simp
 | x::a,[]=>rw[DV];simp
 | x::a,y::b =>
  by_cases h:x.2<y.2
  ·rw[Fx h,Pk,gL a (y::b)];simp;omega
  ·rw[F8 h,Pk,gL (x::a) b];simp;omega
termination_by a.length+b.length
theorem SetIn.keepQ{Q':Nat->Prop}(h:SetIn Q w v s)(hk:∀b,Q b->b<w.heap.size->W.heap[b]?=w.heap[b]?/\Q' b):SetIn Q' W v s:=by
 obtain⟨b,o,c,rfl,h1,h2,J,h4,I⟩:=h;have hb:b<w.heap.size:=by
  cases s with
  | nil=>exact absurd rfl J
  | cons x r=>exact OV w ⟨b,_,none⟩ (I 0 x rfl).1
 obtain⟨e,hq⟩:=hk b h4 hb;exact⟨b,o,c,rfl,h1,h2,J,hq,fun k x Z=>⟨(Pf (a:=⟨b,_,none⟩) e).trans (I k x Z).1,(Pf (a:=⟨b,_,none⟩) e).trans (I k x Z).2⟩⟩
def StAt(w:World)(b p:Nat)(s:Bs):Prop:=∃u,SetIn (fun _=>True) w u s/\w.cell? ⟨b,p,none⟩=some u
abbrev IsSts(w:World)(v:Value)(L:List Bs):Prop:=Sl StAt 1 w v L
def RowV(base:Nat)(w:World)(v:Value)(L:List Bs)(vs:List Value):Prop :=
 w.ownsRow base 140 1 v L.length vs/\∀(k:Nat)(s:Bs),L[k]?=some s->∃u,vs[k]?=some u/\SetIn (fun b=>v.ownBlock≠some b/\base<=b) w u s
def RowB(base:Nat)(w:World)(v:Value)(L:List Bs):Prop:=∃vs:List Value,RowV base w v L vs
theorem RowB.nil(base:Nat)(w:World):RowB base w (.slice none 0 0) []:=⟨[],⟨rfl,.inl ⟨rfl,rfl⟩⟩,fun k s h=>by simp at h⟩
theorem RowB.below(h:RowB base w v L)(I:OD w w'):RowB base w' v L:=by
 obtain⟨vs,h1,J⟩:=h;exact⟨vs,aF h1 I,fun k s hk=>by obtain⟨u,hu,hs⟩:=J k s hk;exact⟨u,hu,hs.stays I⟩⟩
theorem RowB.more(h:RowB base w v L)(Z:I<=base):RowB I w v L:=by
 obtain⟨vs,h1,J⟩:=h;exact⟨vs,tY h1 Z,fun k s hk=>by obtain⟨u,hu,hs⟩:=J k s hk;exact⟨u,hu,hs.mono fun b h=>⟨h.1,by omega⟩⟩⟩
theorem RowB.form(h:RowB base w v L):∃A c,v=.slice A L.length c:=by
 obtain⟨vs,h1,_⟩:=h;exact bw h1
theorem RowB.n63(h:RowB base w v L):(L.length:Int)<=9223372036854775807:=by
 obtain⟨vs,h1,_⟩:=h;rcases h1.2 with ⟨_,h0⟩|⟨g,cap,cur,hv,hg,hh,hnc,hcm,_⟩
 ·omega
 ·exact aP hnc hcm
theorem RowB.lt(h:RowB base w v L)(I:v.ownBlock=some g):base<=g/\g<w.heap.size:=by
 obtain⟨vs,h1,_⟩:=h;exact ao h1 I
theorem RowB.is(h:RowB base w v L):IsSts w v L:=by
 by_cases hp:L.length=0
 ·obtain⟨A,c,rfl⟩:=h.form;obtain⟨vs,h1,_⟩:=h;have hL:L=[]:=Po hp;subst hL;rcases h1.2 with ⟨hv,_⟩|⟨g,cap,cur,hv,hg,hh,J,I,_⟩
  ·injection hv with e1 e2 Z;subst e1 Z;exact Sl.nil _ _ _ _ _ (OO _)
  ·injection hv with e1 e2 Z;subst Z;exact Sl.nil _ _ _ _ _ I
 ·obtain⟨vs,h1,h2⟩:=h;obtain⟨g,cap,spare,rfl,hg,hh,J,I⟩:=qw h1 om;refine⟨_,cap,rfl,J,I,fun k s hk=>⟨g,0,rfl,?_⟩⟩;obtain⟨u,hu,hs⟩:=h2 k s hk;refine⟨u,hs.mono (fun _ _=>trivial),?_⟩;rw[Pd,P7,ab hh,Ph (List.getElem?_eq_some_iff.1 hu).1];exact hu
theorem RowV.app(h:RowV base w v L vs){v':Value}(J:w'.ownsRow base 140 1 v' (L.length+1) (vs++[u]))(hg:w.grownBy w' v.ownBlock)(Z:v'.ownBlock=v.ownBlock\/v'.ownBlock=some w.heap.size)(hs:SetIn (fun b=>v.ownBlock≠some b/\base<=b) w u s):RowB base w' v' (L++[s]):=by
 obtain⟨h1,h2⟩:=h;have I:∀b,(v.ownBlock≠some b/\base<=b)->b<w.heap.size->w'.heap[b]?=w.heap[b]?/\v'.ownBlock≠some b/\base<=b:=fun b hb hl=>by
  refine⟨hg.block b hl (fun e=>hb.1 e.symm),fun e=>?_,hb.2⟩;rcases Z with e2|e2
  ·rw[e2]at e;exact hb.1 e
  ·rw[e2]at e;injection e with e;omega
 refine⟨vs++[u],by rw[OM];exact J,fun k t hk=>?_⟩;have hlen:vs.length=L.length:=by have:=h1.1;simpa using this
 rcases PT k L.length with a'|hge
 ·rw[Ph a']at hk;obtain⟨x,hx,d'⟩:=h2 k t hk;exact⟨x,by rw[Ph om];exact hx,d'.keepQ I⟩
 ·rw[Pz hge]at hk;have c':k=L.length:=by
   have:=(List.getElem?_eq_some_iff.1 hk).1;simp at this;omega
  subst c';simp at hk;subst hk;exact⟨u,by rw[<-hlen];simp,hs.keepQ I⟩
theorem RowV.below(h:RowV base w v L vs)(I:OD w w'):RowV base w' v L vs :=
 ⟨aF h.1 I,fun k s hk=>by obtain⟨u,hu,hs⟩:=h.2 k s hk;exact⟨u,hu,hs.stays I⟩⟩
def SubRet(w:World)(L:List Bs)(e:Ending)(W:World):Prop:=∃v,e=.returned v/\RowB w.heap.size W v L/\OD w W
structure BOk(i:Nat)(b:Bs):Prop where
 asc:uR b
 ok:∀x∈b,(0<=x.1/\x.1<16)/\x.2<i
theorem DB:∀(b:Bs)(i:Nat),uR b->(∀x∈b,x.2<i)->b.length<=i:=fun b i h J=>by
 have h1:(b.map (·.2)).Nodup:=by
  rw[List.nodup_iff_pairwise_ne,List.pairwise_map];exact h.imp fun h=>Q7 h
 have I:=kU (m:=List.range i) h1 fun x hm=>by
  obtain⟨y,hy,rfl⟩:=List.mem_map.1 hm;exact List.mem_range.2 (J y hy)
 simpa using I
theorem BOk.len(h:BOk i b):b.length<=i:=DB b i h.asc fun x I=>(h.ok x I).2
section
theorem zZ(l:List Evt)(ty vr:Int)(c:Ex)(b:Bs)(i:Nat):(em l ty vr c b i).Nodup:=by
 unfold em;refine kX (List.Nodup.sublist (List.filter_sublist ..) List.nodup_range) fun x _ y _ h=>?_
 injection h with h;injection h
def kF(f:Fnd):Prop:=∀b i,(f b i).Nodup
theorem rJ:∀(ps:List (List Bs))(out:List Bs),out.Nodup->(ps.foldl fO out).Nodup
 | [],_,h=>h
 | p::ps,out,_=>rJ ps _ (bG _)
theorem G5(l:List Evt)(x:Pt):(∀a∈x.args,kF (bl l a))->kF (bl l x):=by
 obtain⟨o,ar,ty,vr,J,sp,c⟩:=x;intro h;have hL:∀f∈aR l ar,kF f:=by
  have:∀ar:List Pt,(∀a∈ar,kF (bl l a))->∀f∈aR l ar,kF f:=fun ar=>by
   induction ar with
   | nil=>intro _ f hf;rw[aR]at hf;simp at hf
   | cons a r I =>
    intro h f hf;rw[aR,O7]at hf;rcases hf with rfl|hf
    ·exact h a (OR ..)
    ·exact I (fun y hy=>h y (OS _ hy)) f hf
  exact this ar h
 have hH:kF (hdF (aR l ar)):=by
  cases e:aR l ar with
  | nil=>intro b i;exact Rr
  | cons f r=>exact hL f (by rw[e];exact OR ..)
 intro b i;rw[bl]
 split
 ·exact zZ ..
 split
 ·cases e:aR l ar with
  | nil=>rw[dT];exact Rr
  | cons f r =>
   rw[dT]
   split
   ·exact hL f (by rw[e];exact OR ..) b i
   ·exact bG _
 split
 ·exact bG _
 split
 ·cases e:aR l ar with
  | nil=>rw[iQ];exact Rr
  | cons f r=>rw[iQ];exact rJ _ _ (hL f (by rw[e];exact OR ..) b i)
 split
 ·rw[df];exact bG _
 ·exact List.Nodup.sublist (List.filter_sublist ..) (hH b i)
structure GoodP(V:List Int)(x:Pt):Prop where
 vars:∀v∈evV x,v∈V
 all:∀y∈aV x,(y.op=0\/y.op=2\/y.args≠[])/\aC y.cond<=1048576
theorem xi{a:Pt}:∀{l:List Pt},a∈l->∀v∈evV a,v∈eF l
 | y::r,h,v,hv=>by
  rw[eF,Qg];rcases List.mem_cons.1 h with rfl|h
  ·exact .inl hv
  ·exact .inr (xi h v hv)
theorem nA{a:Pt}:∀{l:List Pt},a∈l->∀y∈aV a,y∈dq l
 | z::r,h,y,hy=>by
  rw[dq,Qg];rcases List.mem_cons.1 h with rfl|h
  ·exact .inl hy
  ·exact .inr (nA h y hy)
theorem mo{a:Pt}:∀{l:List Pt},a∈l->ptN a<=cE l
 | z::r,h=>by
  rw[cE];rcases List.mem_cons.1 h with rfl|h
  ·omega
  ·have:=mo h;omega
theorem GoodP.arg{V:List Int}(h:GoodP V x)(I:a∈x.args):GoodP V a:=by
 obtain⟨o,ar,ty,vr,Z,sp,c⟩:=x;refine⟨fun v J=>h.vars v ?_,fun y hy=>h.all y ?_⟩
 ·rw[evV];exact Q0 _ (xi I v J)
 ·rw[fG];exact OS _ (nA I y hy)
theorem GoodP.self{V:List Int}(h:GoodP V x):(x.op=0\/x.op=2\/x.args≠[])/\aC x.cond<=1048576:=h.all x (by rw[fG];exact OR ..)
structure cX(V:List Int)(n:Nat):Prop where
 var:∀v∈V,0<=v/\v<16
 few:(V.length+1)^n<=1048576
 len:n<=4096
structure FndOk(V:List Int)(n:Nat)(f:Fnd):Prop where
 ok:OkF n f
 var:VarF V f
 once:kF f
structure SetV(V:List Int)(i n:Nat)(s:Bs):Prop where
 ok:SetOk i n s
 var:∀x∈s,x.1∈V
theorem FndOk.set{V:List Int}{n:Nat}(h:FndOk V n f)(hs:s∈f b i):SetV V i n s:=⟨h.ok b i s hs,h.var b i s hs⟩
theorem yN{V:List Int}{n:Nat}(Z:cX V n)(h1:L.Nodup)(J:∀s∈L,∃i,SetV V i n s):L.length<=1048576:=by
 refine OP ?_ Z.few;rw[<-nB V n];refine kU h1 fun s hs=>?_
 obtain⟨i,h⟩:=J s hs;exact kY V n s h.ok.2.1 fun x I=>⟨(h.ok.2.2 x I).2,h.var x I⟩
theorem Ec(l:List Evt):∀(n:Nat)(x:Pt),ptN x<=n->kF (bl l x):=by
 intro n
 induction n with
 | zero=>intro x h;have:=cK x;omega
 | succ n J =>
  intro x h;refine G5 l x fun a I=>J a ?_
  have h1:=cK x;have Z:=mo I;omega
theorem mR{V:List Int}(l:List Evt)(h:GoodP V x):FndOk V l.length (bl l x):=⟨qX l x,(ug l x).mono h.vars,Ec l _ x (OI _)⟩
section
variable {V:List Int}{n:Nat}
theorem SetV.n63(h:SetV V i n s):s.length<=n:=DB s n h.ok.2.1 fun x I=>(h.ok.2.2 x I).2
theorem SetV.merge(h:SetV V i n s)(J:BOk i b)(hB:cX V n):BOk (aK s+1) (ah b s):=by
 have Z:=h.ok.last;refine⟨eO b s J.asc h.ok.2.1 fun x I y hy=>?_,fun x I=>?_⟩
 ·have h1:=(J.ok x I).2;have h2:=(h.ok.2.2 y hy).1;omega
 ·rcases (cG ..).1 I with I|I
  ·have h1:=J.ok x I;exact⟨h1.1,by have:=h1.2;omega⟩
  ·exact⟨hB.var _ (h.var x I),by have:=Z.2.2 x I;omega⟩
theorem SetV.behind(h:SetV V i n s)(J:SetV V (aK s+1) n t):SetV V i n (ah s t) :=
 ⟨h.ok.behind J.ok,fun x I=>by rcases (cG ..).1 I with I|I;exact h.var x I;exact J.var x I⟩
theorem SetV.mergeP(h:SetV V i n s)(J:SetV V i n t)(Z:∀x∈s,∀y∈t,x.2≠y.2):SetV V i n (ah s t) :=
 ⟨h.ok.merge J.ok Z,fun x I=>by rcases (cG ..).1 I with I|I;exact h.var x I;exact J.var x I⟩
end
theorem xf{α β:Type}{F:α->β}{l:List α}{a:α}(h:l[k]?=some a):(l.take (k+1)).map F=(l.take k).map F++[F a]:=by
 rw[ef h,Pq];rfl
theorem RowB.keep{r:Option Nat}(h:RowB base w v L)(hg:w.grownBy w' r)(hr:∀g,r=some g->g<base):RowB base w' v L:=by
 obtain⟨vs,h1,h2⟩:=h;have hk:∀b,base<=b->b<w.heap.size->w'.heap[b]?=w.heap[b]?:=fun b J Z=>hg.block b Z (fun e=>by have:=hr b e.symm;omega)
 refine⟨vs,?_,fun k s hs=>?_⟩
 ·refine⟨h1.1,?_⟩;rcases h1.2 with h0|⟨g,cap,cur,hv,hgb,hh,hrest⟩
  ·exact .inl h0
  ·exact .inr ⟨g,cap,cur,hv,hgb,by rw[hk g hgb (aX hh)];exact hh,hrest⟩
 ·obtain⟨u,hu,I⟩:=h2 k s hs;exact⟨u,hu,I.keepQ fun b J Z=>⟨hk b J.2 Z,J⟩⟩
end
theorem En{r:List Fnd}(hr:r≠[])(b:Bs)(i:Nat):dT (f::r) b i=bO ((f b i).flatMap fun s=>(dT r (ah b s) (aK s+1)).map (ah s)):=by
 rw[dT,OF];intro h;exact hr (List.isEmpty_iff.1 h)
theorem II(h:r≠[]):aR l r≠[]:=fun e=>h (by have:=oB l r;rw[e]at this;exact Po this.symm)
theorem rh(f:Fnd)(k:Nat)(b:Bs)(i:Nat):df f (k+1) b i=bO ((f b i).flatMap fun s=>s::(df f k (ah b s) (aK s+1)).map (ah s)):=by rw[df]
def sa(l:List Evt)(a:Pt)(r:List Pt)(b:Bs)(i k:Nat):List Bs:=(r.take k).foldl (fun o g=>fO o (bl l g b i)) (bl l a b i)
theorem oy(h:r[k]?=some y):sa l a r b i (k+1)=fO (sa l a r b i k) (bl l y b i):=by
 unfold sa;rw[ef h,Qm];rfl
theorem Gl(l:List Evt)(a:Pt)(r:List Pt)(b:Bs)(i:Nat):sa l a r b i r.length=iQ (aR l (a::r)) b i:=by
 unfold sa;rw[Pp,aR,iQ,kN];dsimp only;rw[PZ,List.foldl_map];rfl
theorem xT{V:List Int}{n:Nat}{o p:List Bs}(I:∀s∈o,SetV V i n s)(hp:∀s∈p,SetV V i n s):∀s∈fO o p,SetV V i n s:=fun s hs=>by
 unfold fO at hs;rw[aW,PV]at hs;obtain⟨x,J,hs⟩:=hs;obtain⟨t,h,rfl⟩:=List.mem_map.1 hs;rw[Rb]at h;exact (I x J).mergeP (hp t h.1) (zc h.2)
def sk(s:Bs):Nat:=(s.head?.map (·.2)).getD 0
def eN(l:List Evt)(ty vr:Int)(c:Ex)(b s:Bs)(k:Nat):Bool:=!(decide (sk s<=k)&&!(jl s k)&&(l[k]?.map fun e=>decide (e.ty=ty)&&cg (dy l (ah b s) k) vr e c).getD false)
def lY(l:List Evt)(ty vr:Int)(c:Ex)(b s:Bs):Bool:=(List.range (aK s)).all (eN l ty vr c b s)
theorem vz(l:List Evt)(ty vr sp:Int)(c:Ex)(b s:Bs):cL l 5 ty vr sp c b s=lY l ty vr c b s:=rfl
theorem BB{ty vr:Int}(h:(List.range k).all (eN l ty vr c b s)=true)(hk:eN l ty vr c b s k=true):(List.range (k+1)).all (eN l ty vr c b s)=true:=by
 rw[List.range_succ,RS,h];simp[hk]
theorem jN(l:List Evt)(ty vr:Int)(c:Ex)(b s:Bs):(List.range (sk s)).all (eN l ty vr c b s)=true:=by
 rw[Re];intro k hk;rw[List.mem_range]at hk;unfold eN;rw[OZ om];rfl
theorem lc{ty vr:Int}{y:Evt}(h:sk s<=k)(hy:l[k]?=some y):eN l ty vr c b s k=!(!(jl s k)&&(decide (y.ty=ty)&&cg (dy l (ah b s) k) vr y c)):=by
 unfold eN;rw[O3 h,hy];rfl
theorem J3(l:List Evt)(x:Pt)(b:Bs)(i:Nat):bl l x b i=if x.op=0 then em l x.ty x.vr x.cond b i else if x.op=1 then dT (aR l x.args) b i else if x.op=2 then jI (aR l x.args) b i else if x.op=3 then iQ (aR l x.args) b i
  else if x.op=4 then df (hdF (aR l x.args)) (l.length+1) b i else (hdF (aR l x.args) b i).filter (cL l x.op x.ty x.vr x.sp x.cond b):=by
 obtain⟨o,ar,ty,vr,Z,sp,c⟩:=x;rw[bl]
 by_cases h0:o=0
 ·rw[OG h0];exact (OG h0).symm
 rw[OF h0];refine Eq.trans ?_ (OF h0).symm
 by_cases h1:o=1
 ·rw[OG h1];exact (OG h1).symm
 rw[OF h1];refine Eq.trans ?_ (OF h1).symm
 by_cases h:o=2
 ·rw[OG h];exact (OG h).symm
 rw[OF h];refine Eq.trans ?_ (OF h).symm
 by_cases J:o=3
 ·rw[OG J];exact (OG J).symm
 rw[OF J];refine Eq.trans ?_ (OF J).symm
 by_cases I:o=4
 ·rw[OG I];exact (OG I).symm
 rw[OF I];exact (OF I).symm
theorem SubRet.box(J:OD w W)(h:SubRet W L e W'):SubRet w L e W':=by
 obtain⟨v,rfl,Z,I⟩:=h;exact⟨v,rfl,Z.more J.size,ae J I⟩
section
section
open Go.RowKit Go.Shelf
open Go.Sort (SWO PermIn SortedIn HoldsK grow)
instance vlInh:Inhabited Vl:=⟨au⟩
theorem AA(args:Array Value)(W:World):(callFunc 106 args).run prog W=.ok (.enter 106 args) W:=enters_of func106 kr rfl args W
theorem DP(x:Vl)(h:mC w g p x){r:Nat}(hr:r<3):w.cell? ⟨g,p+r,none⟩=(eA x)[r]?:=by
 obtain⟨h0,h1,I⟩:=h
 match r,hr with
 | 0,_=>exact h0
 | 1,_=>exact h1
 | 2,_=>exact I
theorem vf(es:List Vl)(g cap:Nat)(cur:List Value)(w:World)(hg:w.heap[g]?=some (.cells cur.toArray 27 (0,0)))(hc:∀(k:Nat)(x:Vl),es[k]?=some x->mC w g (0+k*3) x)(h':es.length<=1048576) :
  Calls prog 105 #[.slice (some ⟨g,0,none⟩) es.length cap,.func (.func 106) #[] #[]] w fun e W=>e=.returned (.tuple #[])/\∃es':List Vl,es'.Perm es/\es'.Pairwise (fun a b=>¬vlC b a<0)/\(∀(k:Nat)(x:Vl),es'[k]?=some x->mC W g (0+k*3) x)/\w.grownBy W (some g):=by
 have hH:HoldsK eA 3 w g 0 es.toArray:=by
  intro t ht;rw[Go.Sort.size_flatK]at ht;rw[Go.Sort.get_flatK _ _ _ _ ht];simp only[Rm]at ht;have hq:t / 3<es.length:=by omega
  have hx:es.toArray[t / 3]! = es[t / 3]:=by simp[hq]
  rw[hx];refine⟨?_,af hg _⟩;have h1:=DP es[t / 3] (hc (t / 3) es[t / 3] (OH hq)) (r:=t%3) om;have h2:0+t / 3*3+t%3=0+t:=by omega
  rw[h2]at h1;rw[h1];have h3:t%3<(eA es[t / 3]).length:=by simp[eA];omega
  rw[OH h3,getElem!_pos (eA es[t / 3]) (t%3) h3];rfl
 have a':CmpLays prog 106 #[] eA 3 vlC g 0 es.toArray.size w:=by
  intro m os dk _ x y;refine (KK x y _).mono ?_;rintro e w' ⟨rfl,h2⟩;exact⟨rfl,uL h2⟩
 have hlen:es.toArray.size=es.length:=by simp
 have h:=AnyQ.slices_SortFunc Tryz.sortVal 3 Tryz.isAgg27 Tryz.sizeOf27 eA (fun _=>rfl) (fun x v hv=>by
   simp only[eA,O7,Pw,Px]at hv;rcases hv with rfl|rfl|rfl<;>rfl) vlC (uP lM) 106 #[] g 0 cap es.toArray w AA a' hH (aX hg) (by rw[hlen];omega)
 change Calls prog 105 _ _ _ at h
 rw[hlen]at h;refine h.mono ?_;rintro e W ⟨rfl,I,n,os,⟨hs,_,hp⟩,g',rfl⟩;rw[hlen]at hs;have hex:∀d:Array Vl,d.size=es.length->(d.extract 0 es.length).toList=d.toList:=fun d hd=>by rw[<-hd];simp
 rw[hex I hs,hex es.toArray hlen]at hp;have Z:HoldsK eA 3 (sortWorldK eA 3 w g 0 n I os) g 0 I:=holdsK_sortWorldK_c eA 3 w g 0 es.toArray I n os hH (aX hg) (by rw[hs,hlen]);have hW:=iB eA 3 w g 0 n I os;refine⟨rfl,I.toList,jQ hp,?_,?_,hW⟩
 ·rw[Sr];intro i j hi hj c';have:=g' i j (OO _) c' (by rw[<-hs];simpa using hj);simp only[QN]at hi hj;rw[getElem!_pos I i hi,getElem!_pos I j hj]at this;unfold ltOf at this
  simpa only [PK,Sn] using this
 ·intro k x hx;have J:k<I.size:=by have:=(List.getElem?_eq_some_iff.1 hx).1;simpa using this
  have hz:I[k]! = I[k]:=getElem!_pos I k J;have f':I[k]=x:=by
   rw[Qo,O5 J]at hx;exact Pn hx
  have q0:=(Z.cell (c:=0) J dc).1;have q1:=(Z.cell (c:=1) J dc).1;have q2:=(Z.cell (c:=2) J dc).1;rw[hz,f']at q0 q1 q2;refine⟨?_,?_,?_⟩
  ·simpa [eA] using q0
  ·simpa [eA] using q1
  ·simpa [eA] using q2
end
end
section
section
open Go.RowKit Go.Shelf
open Go.Sort (SWO PermIn SortedIn HoldsK grow pdq pdq_sorts)
abbrev PX:Type:={ x:Int × Nat // x.2<=1048576 }
instance pxInh:Inhabited PX:=⟨⟨(0,0),Nat.zero_le _⟩⟩
def pxC(x y:PX):Int:=(x.1.2:Int)-(y.1.2:Int)
def iz(x:PX):List Value:=[OB x.1.1,OB (x.1.2:Int)]
theorem Ha:PC pxC:=⟨fun a b=>by unfold pxC;omega,fun a b d h1 I=>by unfold pxC at *;omega,fun a b d h=>by unfold pxC at *;omega⟩
theorem xr(args:Array Value)(W:World):(callFunc 365 args).run prog W=.ok (.enter 365 args) W:=enters_of func365 kr rfl args W
theorem Bj(args:Array Value)(W:World):(callFunc 387 args).run prog W=.ok (.enter 387 args) W:=enters_of func387 kr rfl args W
theorem GY(x y:PX)(w:World):Calls prog 365 #[prV x.1,prV y.1] w fun e w'=>e=.returned (OB (pxC x y))/\Gr w w':=by
 obtain⟨⟨xv,h⟩,J⟩:=x;obtain⟨⟨Z,I⟩,hy⟩:=y;unfold pxC prV;simp only at J hy ⊢;have hw:IntKind.i64.wrap ((h:Int)-(I:Int))=(h:Int)-(I:Int):=by simp[IntKind.wrap,IntKind.bits,IntKind.signed];omega
 go_enter func365,ntmps365;go_wp2;go_ret;exact⟨rfl,jC⟩
theorem G6(x:PX)(h:wy w g p x.1){r:Nat}(hr:r<2):w.cell? ⟨g,p+r,none⟩=(iz x)[r]?:=by
 obtain⟨h0,h1⟩:=h
 match r,hr with
 | 0,_=>exact h0
 | 1,_=>exact h1
def Nh(w:World)(g:Nat)(es:List PX)(e:Ending)(W:World):Prop:=e=.returned (.tuple #[])/\∃es':List PX,es'.Perm es/\es'.Pairwise (fun a b=>¬pxC b a<0)/\(∀(k:Nat)(x:PX),es'[k]?=some x->wy W g (0+k*2) x.1)/\w.grownBy W (some g)
theorem vT(es:List PX)(g cap:Nat)(cur:List Value)(w:World)(hg:w.heap[g]?=some (.cells cur.toArray 183 (0,0)))(hc:∀(k:Nat)(x:PX),es[k]?=some x->wy w g (0+k*2) x.1)(m':es.length<=1048576) :
  Calls prog 364 #[.slice (some ⟨g,0,none⟩) es.length cap,.func (.func 365) #[] #[]] w (Nh w g es):=by
 have hH:HoldsK iz 2 w g 0 es.toArray:=by
  intro t ht;rw[Go.Sort.size_flatK]at ht;rw[Go.Sort.get_flatK _ _ _ _ ht];simp only[Rm]at ht;have hq:t / 2<es.length:=by omega
  have hx:es.toArray[t / 2]! = es[t / 2]:=by simp[hq]
  rw[hx];refine⟨?_,af hg _⟩;have h1:=G6 es[t / 2] (hc (t / 2) es[t / 2] (OH hq)) (r:=t%2) om;have h2:0+t / 2*2+t%2=0+t:=by omega
  rw[h2]at h1;rw[h1];have h3:t%2<(iz es[t / 2]).length:=by simp[iz];omega
  rw[OH h3,getElem!_pos (iz es[t / 2]) (t%2) h3];rfl
 have a':CmpLays prog 365 #[] iz 2 pxC g 0 es.toArray.size w:=by
  intro m os dk _ x y;refine (GY x y _).mono ?_;rintro e w' ⟨rfl,h2⟩;exact⟨rfl,uL h2⟩
 have hlen:es.toArray.size=es.length:=by simp
 have Z:Lib.bitLen es.toArray.size<4611686018427387904:=Nat.lt_of_le_of_lt (Lib.bitLen_le es.toArray.size 62 om om) om;have hp:=AnyQ.pdqsortCmpFunc_all Tryz.pdqSet 2 Tryz.isAgg183 Tryz.sizeOf183 iz pxC 365 #[] (uP Ha) g 0 cap es.toArray w xr a' ⟨fun _=>rfl,fun x v hv=>by
   simp only[iz,O7,Pw,Px]at hv;rcases hv with rfl|rfl<;>rfl,hH,aX hg⟩ (es.toArray.size+1) 0 es.toArray.size (Lib.bitLen es.toArray.size) es.toArray w om rfl (SWK.start hH) (OO _) (OI _) om Z (Or.inl rfl)
 change Calls prog 387 _ _ _ at hp
 have hl:Calls prog 57 #[.int .u64 (es.toArray.size:Int)] w fun e w'=>e=.returned (OB (Lib.bitLen es.toArray.size:Nat))/\w'=w:=by
  have h:=Any.bits_Len (SlLaysF0.n15.bits (P:=prog) (ρ:=Tryz.sortVal_ren) { Tryz.sortVal with }) (es.toArray.size:Int) w om om
  rwa [R2]at h
 rw[hlen]at hp hl;have wr:IntKind.u64.wrap (es.length:Int)=es.length:=by simp[IntKind.wrap,IntKind.bits,IntKind.signed];omega
 have l':=Bj;have HH:=jD hH;have HG:=jD hg;have HQ:=jD (pdq_sorts (ltOf pxC) (uP Ha) es.toArray 0 es.toArray.size (Lib.bitLen es.toArray.size) true true (OO _) (OI _) (Or.inl rfl));rw[hlen]at HQ;clear hH a' hc Z hg;go_enter func364,ntmps364;go_wp2_with (first|(go_at_call 57;refine hl.mono ?_;rintro e w' ⟨rfl,c'⟩;rw[c'];clear c' w')|(go_at_call 387;refine hp.mono ?_;rintro e w' ⟨rfl,n,os,rfl⟩))
 go_end0
 obtain⟨I,j'⟩:=jF (pdq (ltOf pxC) es.toArray 0 es.length (Lib.bitLen es.length) true true);have hQ:=HQ.out;rw[<-j']at hQ ⊢;obtain⟨⟨hs,-,f'⟩,k'⟩:=hQ;have hg:=HG.out;rw[hlen]at hs;have hex:∀d:Array PX,d.size=es.length->(d.extract 0 es.length).toList=d.toList:=fun d hd=>by rw[<-hd];simp
 rw[hex I hs,hex es.toArray hlen]at f';have g':HoldsK iz 2 (sortWorldK iz 2 w g 0 n I os) g 0 I:=holdsK_sortWorldK_c iz 2 w g 0 es.toArray I n os HH.out (aX hg) (by rw[hs,hlen]);have hW:=iB iz 2 w g 0 n I os;refine⟨rfl,I.toList,jQ f',?_,?_,hW⟩
 ·rw[Sr];intro i j hi hj h';have:=k' i j (OO _) h' (by rw[<-hs];simpa using hj);simp only[QN]at hi hj;rw[getElem!_pos I i hi,getElem!_pos I j hj]at this;unfold ltOf at this
  simpa only [PK,Sn] using this
 ·intro k x hx;have J:k<I.size:=by have:=(List.getElem?_eq_some_iff.1 hx).1;simpa using this
  have hz:I[k]! = I[k]:=getElem!_pos I k J;have i':I[k]=x:=by
   rw[Qo,O5 J]at hx;exact Pn hx
  have q0:=(g'.cell (c:=0) J dc).1;have q1:=(g'.cell (c:=1) J dc).1;rw[hz,i']at q0 q1;refine⟨?_,?_⟩
  ·simpa [iz] using q0
  ·simpa [iz] using q1
end
end
theorem Ad:(prog.info? 183).map (fun i=>(i.zero,i.size,i.bytes))=some (some (.agg #[OB 0,OB 0]),2,16):=kr
theorem LT:∀{S T:Bs},S.Pairwise (fun x y=>x.2<y.2)->T.Pairwise (fun x y=>x.2<y.2)->(∀k,k∈S↔k∈T)->S=T
 | [],[],_,_,_=>rfl
 | [],y::T,_,_,h=>absurd ((h y).2 (OR ..)) jS
 | x::S,[],_,_,h=>absurd ((h x).1 (OR ..)) jS
 | x::S,y::T,hs,ht,h=>by
  rw[Q4]at hs ht;have J:x=y:=by
   have h1:=(h x).1 (OR ..);have I:=(h y).2 (OR ..);rcases List.mem_cons.1 h1 with h1|h1
   ·exact h1
   ·rcases List.mem_cons.1 I with I|I
    ·exact I.symm
    ·have:=ht.1 x h1;have:=hs.1 y I;omega
  subst J;rw[LT hs.2 ht.2 fun k=>⟨fun hk=>?_,fun hk=>?_⟩]
  ·rcases List.mem_cons.1 ((h k).1 (OS _ hk)) with e|e
   ·have:=hs.1 k hk;subst e;omega
   ·exact e
  ·rcases List.mem_cons.1 ((h k).2 (OS _ hk)) with e|e
   ·have:=ht.1 k hk;subst e;omega
   ·exact e
theorem CA:∀(s:Bs),(∀x∈s,x.2<=1048576)->∃es:List PX,es.map (·.1)=s
 | [],_=>⟨[],rfl⟩
 | x::r,h=>by
  obtain⟨es,he⟩:=CA r fun y hy=>h y (OS _ hy)
  exact⟨⟨x,h x (OR ..)⟩::es,by rw[OU,he]⟩
theorem vQ{es es':List PX}(he:es.map (·.1)=s++t)(hp:es'.Perm es)(J:es'.Pairwise (fun a b=>¬pxC b a<0))(hs:uR s)(ht:uR t)(Z:∀x∈s,∀y∈t,x.2≠y.2):es'.map (·.1)=ah s t:=by
 refine LT ?_ (eO s t hs ht Z) fun k=>?_
 ·have I:(es.map (·.1)).Pairwise (fun x y=>x.2≠y.2):=by
   rw[he,RE];exact⟨hs.imp fun h=>Q7 h,ht.imp fun h=>Q7 h,Z⟩
  have h1:(es'.map (·.1)).Pairwise (fun x y=>x.2≠y.2):=(List.Perm.pairwise_iff (fun h=>Pc h) (hp.map _)).2 I;rw[List.pairwise_map]at h1 ⊢;exact (J.and h1).imp fun⟨a,b⟩=>by unfold pxC at a;omega
 ·rw[(hp.map _).mem_iff,he,Qg,cG]
def Kx(w:World)(L:Bs)(e:Ending)(W:World):Prop:=∃v,e=.returned v/\SetIn (fun b=>w.heap.size<=b) W v L/\OD w W
theorem FC(s t:Bs)(u v:Value)(w:World)(hu:gN w u s)(hv:gN w v t)(hs:uR s)(ht:uR t)(hd:∀x∈s,∀y∈t,x.2≠y.2)(u':t≠[])(hb:∀x∈s++t,x.2<=1048576)(hl:s.length+t.length<=1048576) :
  Calls prog 345 #[u,v] w (Kx w (ah s t)):=by
 obtain⟨es,h'⟩:=CA (s++t) hb;have H':=jD (fun(es':List PX)(hp:es'.Perm es)(c':es'.Pairwise (fun a b=>¬pxC b a<0))=>vQ h' hp c' hs ht hd);obtain⟨As,c1,rfl,h1,h2,-⟩:=id hu;obtain⟨At,c2,rfl,k1,k2,-⟩:=id hv;obtain⟨cs,C',m',-⟩:=jY mT hu;obtain⟨ds,B',l',-⟩:=jY mT hv;have I':=aP h1 h2;have V':=aP k1 k2;have z':=List.length_pos_iff.2 u';have P':=jD (C'.app B');have T':=jD h';have g':es.length=s.length+t.length:=by have:=congrArg List.length h';simpa using this
 have p':Hid ((s++t).length=s.length+t.length):=jD OM;obtain⟨n,hn⟩:=jF s.length;obtain⟨m,hm⟩:=jF t.length;rw[<-hn]at m' I' hl g' p' ⊢;rw[<-hm]at l' V' hl g' z' p' ⊢;obtain⟨N,hN⟩:=jF (n+m);have hw:IntKind.i64.wrap ((n:Int)+(m:Int))=(N:Int):=by rw[hN];simp[IntKind.wrap,IntKind.bits,IntKind.signed];omega
 have U':=jD m';have Y':=jD l';clear m' l' C' B' h1 h2 k1 k2 h' hu hv hs ht hd u' hb hn hm;obtain⟨i0,hi,k',s',q'⟩:=Ql Ad;have C0:(N:Int)<=9223372036854775807:=by omega
 have Z':N<=1048576:=by omega
 clear hN;go_enter func345,ntmps345;go_wp2_with (first
  | (at_make;refine wpList_make_own _ rfl (.const (OB 0)) (.tmp 10) 181 rfl w.heap.size 183 i0 _ 2 underlying181 hi k' s' .i64 .i64 (N:Int) N rfl rfl rfl (by rw[q'];omega) (by unfold maxLen;omega) (OI _) ?_;intro w7 J A';have d':OD w w7:=aB A' (OI _) (fun g h=>by cases h))
  | (at_builtin;refine fb _ rfl (.tmp 11) (.tmp 12) 181 rfl w.heap.size 183 i0 _ 2 16 underlying181 hi k' s' q' rfl dc (.slice (some ⟨w.heap.size,0,none⟩) 0 N) 0 [] rfl J As n c1 cs rfl (U'.out.stays d') (by unfold maxLen;omega) om d'.size ?_;intro v8 w8 Z G' n';have a':OD w w8:=d'.trans (aB G' d'.size (fun g h=>(ao J h).1)))
  | (at_builtin;refine fb _ rfl (.tmp 13) (.tmp 14) 181 rfl w.heap.size 183 i0 _ 2 16 underlying181 hi k' s' q' rfl dc v8 (0+n) ([]++cs) rfl Z At m c2 ds rfl (Y'.out.stays a') (by unfold maxLen;omega) om a'.size ?_;intro v9 w9 I F' r';have f':OD w w9:=a'.trans (aB F' a'.size (fun g h=>(ao Z h).1))))
 have e0:0+n+m=es.length:=by omega
 rw[e0]at I;obtain⟨g,cap,spare,rfl,hg,x',R',Q'⟩:=qw I om;have y':Sl wy 2 w9 (.slice (some ⟨g,0,none⟩) es.length cap) (s++t):=fj P'.out f' (by rw[p'.out,<-g'];exact I);have D':∀(k:Nat)(x:PX),es[k]?=some x->wy w9 g (0+k*2) x.1:=fun k x hx=>by
  obtain⟨A,c,hA,-,-,h3⟩:=y';obtain⟨b,o,N',hp⟩:=h3 k x.1 (by rw[<-T'.out,OQ,hx];rfl);rw[N']at hA;injection hA with hA;injection hA with hA;injection hA with e1 e2;subst e1 e2;exact hp
 refine (vT es g cap _ w9 x' D' om).mono ?_;rintro e S' ⟨rfl,es',hp,c',i',E'⟩;have hm:=H'.out es' hp (by first|exact c'|exact c'.imp fun h=>Int.not_lt.1 h);have j':OD w S':=f'.trans (aB E' f'.size (fun k e=>by cases e;exact hg));have J':=jD i';have HM:=jD hm;have HB:=jD j';have HP:=jD hp;clear D' i' hm j' hp c' E' J Z I d' a' f' A' G' F' n' r' x' y';go_wp2;go_ret;refine⟨_,rfl,?_,HB.out⟩;rw[<-HM.out];have t':=HP.out.length_eq;refine⟨g,0,cap,by rw[OL,t',g'];rfl,by rw[OL,t'];exact R',Q',fun e=>?_,hg,fun k x hk=>?_⟩
 ·have:=congrArg List.length e;rw[OL,t',Ri]at this;omega
 ·rw[OQ]at hk;obtain⟨y,hy,rfl⟩:=Option.map_eq_some_iff.1 hk;exact J'.out k y hy
section
theorem pJ(x:Pt):evV x=(if x.op=0 then [x.vr] else [])++eF x.args:=by cases x;rw[evV];rfl
theorem me(x:Pt):fk x=(decide (x.op=4) || eZ x.args):=by cases x;rw[fk];rfl
theorem Cm{a:Pt}:∀{l:List Pt},a∈l->(evV a).length<=(eF l).length
 | y::r,h=>by
  rw[eF,OM];rcases List.mem_cons.1 h with rfl|h
  ·omega
  ·have:=Cm h;omega
theorem qv{a:Pt}:∀{l:List Pt},a∈l->eZ l=false->fk a=false
 | y::r,h,I=>by
  rw[eZ,PL]at I;rcases List.mem_cons.1 h with rfl|h
  ·exact I.1
  ·exact qv h I.2
def CapP(n:Nat)(x:Pt):Prop:=((evV x).length+1)^n<=4096\/(fk x=false/\2<=n/\ft n (evV x).length<=4096)
theorem CapP.of{n:Nat}(h:CapP n x)(he:(evV y).length<=(evV x).length)(I:fk x=false->fk y=false):CapP n y:=by
 rcases h with h|⟨h1,J,Z⟩
 ·exact .inl (OP (RQ om n) h)
 ·refine .inr ⟨I h1,J,OP ?_ Z⟩;obtain⟨k,hk⟩:=Nat.exists_eq_add_of_le he;rw[hk];exact jX J _ _
structure GoodQ(V:List Int)(n:Nat)(x:Pt):Prop where
 good:GoodP V x
 ops:∀y∈aV x,0<=y.op/\y.op<=7
 cap:CapP n x
theorem GoodQ.arg{V:List Int}{n:Nat}(h:GoodQ V n x)(ha:a∈x.args):GoodQ V n a:=by
 refine⟨h.good.arg ha,fun y hy=>h.ops y ?_,h.cap.of ?_ fun I=>?_⟩
 ·rw[fG];exact OS _ (nA ha y hy)
 ·have:=Cm ha;rw[pJ x,OM];omega
 ·rw[me,PL]at I;exact qv ha I.2
theorem GoodQ.op{V:List Int}{n:Nat}(h:GoodQ V n x):0<=x.op/\x.op<=7:=h.ops x (by rw[fG];exact OR ..)
theorem GoodQ.rest{V:List Int}{n:Nat}{c:Pt}(h:GoodQ V n x)(ho:x.op=1)(hx:x.args=a::c::r):GoodQ V n (ii x (c::r)):=by
 have hp:∀y∈dq (c::r),y∈aV x:=fun y hy=>by rw[fG,hx,dq];exact OS _ (Q0 _ hy)
 have ev:evV (ii x (c::r))=eF (c::r):=by rw[pJ,rD,fa,OF om];rfl
 have ex:evV x=evV a++eF (c::r):=by rw[pJ,hx,OF om];rfl
 refine⟨⟨fun v hv=>h.good.vars v ?_,fun y hy=>?_⟩,fun y hy=>?_,h.cap.of ?_ fun I=>?_⟩
 ·rw[ex];rw[ev]at hv;exact Q0 _ hv
 ·rw[fG,fa]at hy;rcases List.mem_cons.1 hy with rfl|hy
  ·exact⟨.inr (.inr (by rw[fa];simp)),h.good.self.2⟩
  ·exact h.good.all y (hp y hy)
 ·rw[fG,fa]at hy;rcases List.mem_cons.1 hy with rfl|hy
  ·exact h.op
  ·exact h.ops y (hp y hy)
 ·rw[ev,ex,OM];omega
 ·rw[me,hx,eZ,PL,PL]at I;rw[me,fa,rD,I.1,I.2.2];rfl
mutual
theorem Dh:∀x:Pt,(∀y∈aV x,y.op=0\/y.op=2\/y.args≠[])->okA x=true
 | .mk o ar ty vr sc sp c,h=>by
  rw[okA,ON];refine⟨?_,yc ar fun y hy=>h y (by rw[aV];exact OS _ hy)⟩;have h1:=h (.mk o ar ty vr sc sp c) (by rw[aV];exact OR ..);have J:(o=0\/o=2\/ar≠[]):=h1
  by_cases Z:o=3
  ·have:ar≠[]:=by rcases J with h|h|h;omega;omega;exact h
   cases ar with
   | nil=>exact absurd rfl this
   | cons a r=>simp
  ·simp[Z]
theorem yc:∀l:List Pt,(∀y∈dq l,y.op=0\/y.op=2\/y.args≠[])->vA l=true
 | [],_=>by rw[vA]
 | a::r,h=>by
  rw[vA,ON];exact⟨Dh a fun y hy=>h y (by rw[dq];exact Rl _ hy),yc r fun y hy=>h y (by rw[dq];exact Q0 _ hy)⟩
end
theorem GoodQ.okA{V:List Int}{n:Nat}{x:Pt}(h:GoodQ V n x):okA x=true:=Dh x fun y hy=>(h.good.all y hy).1
section
variable {V:List Int}
theorem rI(h:GoodQ V l.length x):s∈aU l x b i↔s∈bl l x b i:=rR l x h.okA b i s
theorem dQ(h:GoodQ V l.length x)(hs:s∈aU l x b i):SetV V i l.length s:=(mR l h.good).set ((rI h).1 hs)
theorem Kf(h:GoodQ V l.length x)(hs:s∈io l x b i):SetV V i l.length s:=dQ (b:=b) h (by rw[xL l h.okA,aW];exact hs)
theorem wF(h:GoodQ V l.length x)(b:Bs)(i:Nat):(aU l x b i).length<=4096:=by
 rcases h.cap with h1|⟨h1,J,Z⟩
 ·exact OP (Cq l x b i (lJ l x b i) fun s hs=>(rI h).1 hs) h1
 ·exact OP (kU (lJ l x b i) fun s hs=>(rI h).1 hs) (OP (vg l J x h1 b i) Z)
end
end
section
open Go.RowKit Go.Lib
def KF(w:World)(L:List Bs)(e:Ending)(W:World):Prop:=∃v,e=.returned v/\SetsIn (fun b=>w.heap.size<=b) W v L/\OD w W
structure ScnAt(l:List Evt)(w:World)(C:Nat)(vl:Value):Prop where
 ev:w.cell? ⟨C,0,none⟩=some vl
 fu:w.cell? ⟨C,1,none⟩=some (.bool false)
 is:cH w vl l
theorem ScnAt.stays(h:ScnAt l w C vl)(I:OD w W):ScnAt l W C vl:=⟨aa I h.ev,aa I h.fu,h.is.stays bX I⟩
def Own(n1:Nat)(B:Option Nat)(W:World)(b:Nat):Prop:=n1<=b/\¬jt W B b
section
theorem ed{b:Nat}(hk:eI n0 n1 B X Y)(h:Own n1 B X b)(c:X.cell? ⟨b,o,none⟩=some v):Y.cell? ⟨b,o,none⟩=some v/\Own n1 B Y b :=
 ⟨(jp hk h.1 h.2 c).1,h.1,(jp hk h.1 h.2 c).2⟩
theorem JV(J:n1<=X.heap.size)(hs:rx X B)(h:OD X Y)(I:∀b,B=some b->b<n1)(hk:X.heap.size<=k):Own n1 B Y k :=
 ⟨by omega,E4 hs h (fun b e=>by have:=I b e;omega) hk⟩
structure Caps(n1:Nat)(B:Option Nat)(W:World)(bc bp bo bf C:Nat)(x:Pt)(v vc u:Value)(i:Nat):Prop where
 c:W.cell? ⟨bc,0,none⟩=some (.pointer (some ⟨C,0,none⟩))/\Own n1 B W bc
 p:Cells W bp 0 (eP x v vc)/\Own n1 B W bp
 o:W.cell? ⟨bo,0,none⟩=some u/\Own n1 B W bo
 f:W.cell? ⟨bf,0,none⟩=some (OB (i:Int))/\Own n1 B W bf
variable {bf:Nat}
theorem Caps.keep(h:Caps n1 B X bc bp bo bf C x v vc u i)(hk:eI n0 n1 B X Y):Caps n1 B Y bc bp bo bf C x v vc u i :=
 ⟨ed hk h.c.2 h.c.1,⟨fun j w I=>(ed hk h.p.2 (h.p.1 j w I)).1,(ed hk h.p.2 (h.p.1 0 _ rfl)).2⟩,ed hk h.o.2 h.o.1,ed hk h.f.2 h.f.1⟩
end
theorem oM{b:Nat}(h:Cells w b o cs)(J:OD w W):Cells W b o cs:=fun j u I=>aa J (h j u I)
def Ok(L:List Bs)(W0 w:World)(e:Ending)(W:World):Prop:=∃gf lb,e=.returned (.func (.func gf) #[] lb)/\(∀args w,(callFunc gf args).run prog w=.ok (.enter gf args) w)/\OD w W /\
 ∀n1 B,W0.heap.size<=n1->n1<=w.heap.size->rx w B->(∀k,B=some k->k<n1)->SeqC gf lb L (InS n1 B) (eI W0.heap.size n1 B) W
def FinderK(g:Nat)(l:List Evt)(x:Pt)(b:Bs)(i:Nat):Prop:=∀(d e C:Nat)(v vc vl u:Value)(W0 w:World),ScnAt l W0 C vl->dg d W0 v x.args->bZ e W0 vc x.cond.args->gN W0 u b->OD W0 w ->
 Calls prog g #[.pointer (some ⟨C,0,none⟩),ptV x v vc,u,OB (i:Int)] w (Ok (io l x b i) W0 w)
structure SeqHyp(l:List Evt)(x:Pt)(b:Bs)(i d e C:Nat)(v vc vl u:Value)(W0 w:World)(n1:Nat)(B:Option Nat)(bc bp bo bf:Nat):Prop where
 scn:ScnAt l W0 C vl
 pts:dg d W0 v x.args
 exs:bZ e W0 vc x.cond.args
 bs:gN W0 u b
 bel:OD W0 w
 lo:W0.heap.size<=n1
 hi:n1<=w.heap.size
 safe:rx w B
 box:∀k,B=some k->k<n1
 caps:Caps n1 B w bc bp bo bf C x v vc u i
section
variable {d e:Nat}{W0:World}{bf:Nat}
theorem SeqHyp.next(h:SeqHyp l x b i d e C v vc vl u W0 w n1 B bc bp bo bf)(hk:eI W0.heap.size n1 B w W):SeqHyp l x b i d e C v vc vl u W0 W n1 B bc bp bo bf :=
 ⟨h.scn,h.pts,h.exs,h.bs,h.bel.trans hk.below,h.lo,by have:=hk.below.size;have:=h.hi;omega,hk.safe h.safe,h.box,h.caps.keep hk⟩
theorem SeqHyp.grow(h:SeqHyp l x b i d e C v vc vl u W0 w n1 B bc bp bo bf)(I:OD w W):eI W0.heap.size n1 B w W :=
 EI I (by have:=h.lo;have:=h.hi;omega) (fun k hk=>by have:=h.box k hk;have:=h.hi;omega)
theorem SeqHyp.new(h:SeqHyp l x b i d e C v vc vl u W0 w n1 B bc bp bo bf)(I:OD w W)(hk:w.heap.size<=k):n1<=k/\¬jt W B k :=
 JV h.hi h.safe I h.box hk
theorem SeqHyp.evs(h:SeqHyp l x b i d e C v vc vl u W0 w n1 B bc bp bo bf):cH w vl l:=h.scn.is.stays bX h.bel
end
theorem SetIn.keepO(hk:eI n0 n1 B X Y)(h:SetIn (Own n1 B X) X v s):SetIn (Own n1 B Y) Y v s:=by
 obtain⟨b,o,c,rfl,h1,h2,h3,J,Z⟩:=h;refine⟨b,o,c,rfl,h1,h2,h3,?_,fun k x I=>⟨(ed hk J (Z k x I).1).1,(ed hk J (Z k x I).2).1⟩⟩
 cases s with
 | nil=>exact absurd rfl h3
 | cons x r=>exact (ed hk J (Z 0 x rfl).1).2
theorem SetsIn.keepO(hk:eI n0 n1 B X Y)(h:SetsIn (Own n1 B X) X v L):SetsIn (Own n1 B Y) Y v L:=by
 obtain⟨A,c,rfl,h1,Z,h3⟩:=h;refine⟨A,c,rfl,h1,Z,fun k s I=>?_⟩;obtain⟨b,o,u,e,hq,J,hs⟩:=h3 k s I;exact⟨b,o,u,e,(ed hk hq J).2,(ed hk hq J).1,hs.keepO hk⟩
theorem SetsIn.form(h:SetsIn Q X v L):∃A c,v=.slice A L.length c/\(L.length:Int)<=9223372036854775807:=by
 obtain⟨A,c,rfl,h1,I,-⟩:=h;exact⟨A,c,rfl,aP h1 I⟩
theorem SetsIn.at{n c:Nat}(h:SetsIn Q X (.slice A n c) L)(hk:L[k]?=some s):∃b o u,A=some ⟨b,o,none⟩/\X.cell? ⟨b,o+k,none⟩=some u/\SetIn Q X u s:=by
 obtain⟨A',c',e,h1,Z,I⟩:=h
 cases e
 obtain⟨b,o,u,e,hq,J,hs⟩:=I k s hk;exact⟨b,o,u,e,J,hs⟩
theorem SetIn.form(h:SetIn Q X v s):∃A c,v=.slice A s.length c:=by
 obtain⟨b,o,c,rfl,-⟩:=h;exact⟨_,_,rfl⟩
end
theorem Bb(h:s≠[]):jl s (sk s)=true:=by
 cases s with
 | nil=>exact absurd rfl h
 | cons z r=>simp[jl,sk]
theorem yC{ty vr:Int}(h:s≠[]):(List.range (sk s+1)).all (eN l ty vr c b s)=true:=by
 refine BB (jN l ty vr c b s) ?_;unfold eN;rw[Bb h];simp
end Go.Proofs.YteemngnialjaiaaGreatDoor
