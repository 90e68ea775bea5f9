/- Part. -/
import Derived.Test.YteemngnialjaiaaGreatDoorQ22
import Derived.Lib.Bytealg
set_option maxRecDepth 100000
set_option maxHeartbeats 16000000
set_option linter.unusedVariables false
set_option linter.unusedSimpArgs false
namespace Go.Proofs.YteemngnialjaiaaGreatDoor
open Go.Proofs.Tryz Go.RowKit
variable {f:Nat->Bool}{fs:List Fnd}{L:List Bs}{v k j N:Nat}{vs:List Nat}{l:List Evt}{x:Evt}{out ms:List (List Bnd)}{m:List Bnd}{p A B C E:Prop}{a b:Vl}{key:List Int}{P:Program}{gl:Nat->Option (List Tr)}{c:Code}{α:Type}{S:List Vl}
theorem kU{α:Type}[DecidableEq α]:∀{l m:List α},l.Nodup->(∀x∈l,x∈m)->l.length<=m.length
 | [],_,_,_=>OO _
 | a::l,m,hl,h=>by
  rw[RN]at hl;have J:=h a (OR ..);have h2:=kU (l:=l) (m:=m.erase a) hl.2 (fun x Z=>by
   have I:=h x (OS _ Z);exact (List.mem_erase_of_ne (fun e=>hl.1 (by rw[<-e];exact Z))).2 I)
  rw[List.length_erase_of_mem J]at h2;have:=List.length_pos_of_mem J;rw[Pk];omega
def pR(V:List Int):Nat->List Bs
 | 0=>[[]]
 | n+1=>(pR V n).flatMap fun s=>s::V.map fun v=>s++[(v,n)]
theorem nB(V:List Int):∀n,(pR V n).length=(V.length+1)^n
 | 0=>rfl
 | n+1=>by
  rw[pR,List.length_flatMap,RP,<-nB V n];generalize pR V n=L
  induction L with
  | nil=>simp
  | cons a L h=>simp only[OU,QB,Pk,OL]at h ⊢;rw[h,Q6];omega
theorem kY(V:List Int):∀(n:Nat)(s:Bs),s.Pairwise (fun x y=>x.2<y.2)->(∀x∈s,x.2<n/\x.1∈V)->s∈pR V n
 | 0,s,_,h=>by
  have:s=[]:=List.eq_nil_iff_forall_not_mem.2 fun x I=>by have:=(h x I).1;omega
  subst this;simp[pR]
 | n+1,s,hp,h=>by
  rw[pR,PV]
  by_cases hl:∃v,(v,n)∈s
  ·obtain⟨v,hv⟩:=hl;have Z:s≠[]:=List.ne_nil_of_mem hv;have J:s.getLast Z=(v,n):=by
    obtain⟨k,hk,he⟩:=QO hv;rw[List.getLast_eq_getElem Z];rcases PT k (s.length-1) with h1|h1
    ·have:=List.pairwise_iff_getElem.1 hp k (s.length-1) hk om h1;rw[he]at this;have:=(h _ (OX (show s.length-1<s.length by omega))).1;simp only at *;omega
    ·have:k=s.length-1:=by omega
     subst this;exact he
   have hs:s=s.dropLast++[(v,n)]:=by rw[<-J,List.dropLast_concat_getLast]
   refine⟨s.dropLast,kY V n _ (hp.sublist (List.dropLast_sublist s)) fun x I=>?_,?_⟩
   ·have a':=List.dropLast_subset s I;refine⟨?_,(h x a').2⟩;rw[hs,RE]at hp;exact hp.2.2 x I (v,n) (List.mem_singleton.2 rfl)
   ·exact OS _ (List.mem_map.2 ⟨v,(h _ hv).2,hs.symm⟩)
  ·refine⟨s,kY V n s hp fun x I=>⟨?_,(h x I).2⟩,OR ..⟩;have h1:=(h x I).1;rcases PT x.2 n with h2|h2
   ·exact h2
   ·exfalso
    refine hl ⟨x.1,?_⟩;have e:n=x.2:=by omega
    rw[e];exact I
mutual
def evV:Pt->List Int
 | .mk o ar _ vr _ _ _=>(if o=0 then [vr] else [])++eF ar
def eF:List Pt->List Int
 | []=>[]
 | a::r=>evV a++eF r
end
def VarF(V:List Int)(f:Fnd):Prop:=∀b i s,s∈f b i->∀x∈s,x.1∈V
theorem VarF.mono{V W:List Int}{f:Fnd}(h:VarF V f)(hs:∀v∈V,v∈W):VarF W f:=fun b i s hm x I=>hs _ (h b i s hm x I)
theorem vq{V:List Int}:∀{fs:List Fnd},(∀f∈fs,VarF V f)->VarF V (dT fs)
 | [],_=>fun b i s hs=>by rw[dT]at hs;simp at hs
 | f::r,h=>fun b i s hs=>by
  have hf:=h f (OR ..);have hr:=vq (fs:=r) fun g Z=>h g (OS _ Z)
  rw[dT]at hs
  split at hs
  ·exact hf b i s hs
  ·rw[aW,PV]at hs;obtain⟨y,hy,hs⟩:=hs;obtain⟨t,J,rfl⟩:=List.mem_map.1 hs;intro x I;rcases (cG _ _ _).1 I with I|I
   ·exact hf b i y hy x I
   ·exact hr _ _ t J x I
theorem tE{V:List Int}:∀{ps:List (List Bs)}{out:List Bs},(∀s∈out,∀x∈s,x.1∈V)->(∀p∈ps,∀s∈p,∀x∈s,x.1∈V)->∀s∈ps.foldl fO out,∀x∈s,x.1∈V
 | [],_,ho,_=>ho
 | p::ps,out,ho,hp=>by
  rw[PR];refine tE (fun s hs=>?_) fun q hq=>hp q (OS _ hq)
  unfold fO at hs;rw[aW,PV]at hs;obtain⟨y,hy,hs⟩:=hs;obtain⟨t,I,rfl⟩:=List.mem_map.1 hs;rw[Rb]at I;intro x h;rcases (cG _ _ _).1 h with h|h
  ·exact ho y hy x h
  ·exact hp p (OR ..) t I.1 x h
theorem pN{V:List Int}{f:Fnd}(h:VarF V f):∀k,VarF V (df f k)
 | 0=>fun b i s hs=>by rw[df]at hs;simp at hs
 | k+1=>fun b i s hs=>by
  rw[df,aW,PV]at hs;obtain⟨y,hy,hs⟩:=hs;rcases List.mem_cons.1 hs with rfl|hs
  ·exact h b i s hy
  ·obtain⟨t,J,rfl⟩:=List.mem_map.1 hs;intro x I;rcases (cG _ _ _).1 I with I|I
   ·exact h b i y hy x I
   ·exact pN h k _ _ t J x I
theorem Hh{V:List Int}(h:∀f∈fs,VarF V f):VarF V (hdF fs):=by
 cases fs with
 | nil=>exact fun b i s hs=>by simp[hdF]at hs
 | cons f fs=>exact h f (OR ..)
mutual
theorem ug(l:List Evt):∀p,VarF (evV p) (bl l p)
 | .mk o ar ty vr Z sp c=>by
  have hL:∀f∈aR l ar,VarF (evV (.mk o ar ty vr Z sp c)) f:=fun f hf=>(zG l ar f hf).mono fun v J=>by rw[evV];exact Q0 _ J
  rw[bl]
  split
  ·next h0 =>
   intro b i s hs x h;unfold em at hs;obtain⟨k,_,rfl⟩:=List.mem_map.1 hs;rw[QA]at h;subst h;rw[evV,OG h0];simp
  ·split
   ·exact vq hL
   ·split
    ·intro b i s hs;unfold jI at hs;rw[aW,PV]at hs;obtain⟨f,hf,hs⟩:=hs;exact hL f hf b i s hs
    ·split
     ·intro b i s hs
      revert hs hL
      cases aR l ar with
      | nil=>intro _ hs;rw[iQ]at hs;simp at hs
      | cons f fs =>
       intro hL hs;rw[iQ]at hs;refine tE (fun s hs=>hL f (OR ..) b i s hs) (fun p hp s hs=>?_) s hs;obtain⟨g,I,rfl⟩:=List.mem_map.1 hp;exact hL g (OS _ I) b i s hs
     ·split
      ·exact pN (Hh hL) _
      ·exact fun b i s hs=>Hh hL b i s (List.mem_filter.1 hs).1
theorem zG(l:List Evt):∀ar,∀f∈aR l ar,VarF (eF ar) f
 | [],f,hf=>by rw[aR]at hf;simp at hf
 | a::r,f,hf=>by
  rw[aR]at hf;rcases List.mem_cons.1 hf with rfl|hf
  ·exact (ug l a).mono fun v h=>by rw[eF];exact Rl _ h
  ·exact (zG l r f hf).mono fun v h=>by rw[eF];exact Q0 _ h
end
theorem Cq(l:List Evt)(p:Pt)(b:Bs)(i:Nat)(I:L.Nodup)(hL:∀s∈L,s∈bl l p b i):L.length<=((evV p).length+1)^l.length:=by
 rw[<-nB (evV p) l.length];refine kU I fun s hs=>?_
 have h1:=qX l p b i s (hL s hs);exact kY _ _ s h1.2.1 fun x h=>⟨(h1.2.2 x h).2,ug l p b i s (hL s hs) x h⟩
theorem Ei(l:List Bs)(s:Bs):(cN l s).length<=l.length+1:=by
 unfold cN
 split
 ·omega
 ·rw[OM,O0];omega
theorem nH(l:List Bs):(bO l).length<=l.length:=by
 have:∀(l o:List Bs),(l.foldl cN o).length<=o.length+l.length:=fun l=>by
  induction l with
  | nil=>intro o;simp
  | cons a l h=>intro o;rw[PR,Pk];have:=h (cN o a);have:=Ei o a;omega
 have:=this l []
 simpa [bO] using this
theorem pS{α β:Type}{f:α->List β}{m:Nat}:∀(l:List α),(∀x∈l,(f x).length<=m)->(l.flatMap f).length<=l.length*m
 | [],_=>by simp
 | a::l,h=>by
  have h1:=h a (OR ..);have J:=pS l fun x I=>h x (OS _ I)
  rw[O8,OM,Pk,Q6,QM];omega
def ft(n v:Nat):Nat:=if v=0 then 0 else n^v
theorem C6{n:Nat}(I:2<=n)(h:v≠0):2<=n^v:=by
 obtain⟨k,rfl⟩:∃k,v=k+1:=⟨v-1,by omega⟩;rw[RP];have:1<=n^k:=by have:=RQ (show 1<=n by omega) k;rwa [Nat.one_pow]at this
 calc 2<=1*n:=by omega
  _<=n^k*n:=Q1 n this
theorem wo(n a b:Nat):ft n a*ft n b<=ft n (a+b):=by
 unfold ft
 by_cases h:a=0
 ·rw[OG h,P1];exact OO _
 by_cases I:b=0
 ·rw[OG I,Nat.mul_zero];exact OO _
 rw[OF h,OF I,OF om,Nat.pow_add];exact OI _
theorem vh{n:Nat}(Z:2<=n)(a b:Nat):ft n a+ft n b<=ft n (a+b):=by
 by_cases I:a=0
 ·subst I;unfold ft;rw[OG rfl,Pd,Pd];exact OI _
 by_cases J:b=0
 ·subst J;unfold ft;rw[OG (c:=(0:Nat)=0) rfl,P9,P9];exact OI _
 refine OP ?_ (wo n a b);unfold ft;rw[OF I,OF J];have h1:=C6 Z I;have h2:=C6 Z J;generalize n^a=x at *;generalize n^b=y at *;have:=Sc h1 (OI y);have h3:=Sc (OI x) h2;have h4:x*y=x*y:=rfl;rcases Nat.le_total x y with h|h
 ·omega
 ·omega
theorem jX{n:Nat}(h:2<=n)(a b:Nat):ft n a<=ft n (a+b):=by have:=vh h a b;omega
def DD(m:Nat)(f:Fnd):Prop:=∀b i,(f b i).length<=m
mutual
def fk:Pt->Bool
 | .mk o ar _ _ _ _ _=>decide (o=4) || eZ ar
def eZ:List Pt->Bool
 | []=>false
 | a::r=>fk a || eZ r
end
def yE(n:Nat):List Fnd->List Nat->Prop
 | [],[]=>True
 | f::fs,v::vs=>DD (ft n v) f/\yE n fs vs
 | _,_=>False
theorem CV{n:Nat}(I:2<=n):∀{fs:List Fnd}{vs:List Nat},yE n fs vs->DD (ft n vs.sum) (dT fs)
 | [],[],_=>fun b i=>by rw[dT];exact OO _
 | [],_::_,h=>h.elim
 | _::_,[],h=>h.elim
 | f::r,v::vs,h=>fun b i=>by
  have J:=CV I h.2;rw[QB,dT]
  split
  ·exact OP (h.1 b i) (jX I _ _)
  ·refine OP (nH _) (OP (pS (m:=ft n vs.sum) _ fun s _=>by rw[OL];exact J _ _) ?_);exact OP (Q1 _ (h.1 b i)) (wo n v vs.sum)
theorem Lg{n:Nat}(J:2<=n)(h:yE n fs vs):DD (ft n vs.sum) (jI fs):=fun b i=>by
 have:∀{fs:List Fnd}{vs:List Nat},yE n fs vs->(fs.flatMap fun f=>f b i).length<=ft n vs.sum:=fun {fs}=>by
  induction fs with
  | nil=>intro vs h;exact OO _
  | cons f fs I =>
   intro vs h
   cases vs with
   | nil=>exact h.elim
   | cons v vs =>
    rw[O8,OM,QB];have h1:=h.1 b i;have Z:=I h.2;have:=vh J v vs.sum;omega
 exact OP (nH _) (this h)
theorem FN(out s:List Bs):(fO out s).length<=out.length*s.length:=by
 refine OP (nH _) (pS _ fun x _=>?_);rw[OL];exact QF _ _
theorem tt{n:Nat}{b:Bs}{i:Nat}:∀{fs:List Fnd}{vs:List Nat}{out:List Bs}{v:Nat},yE n fs vs->out.length<=ft n v->((fs.map fun g=>g b i).foldl fO out).length<=ft n (v+vs.sum)
 | [],[],out,v,_,ho=>jQ ho
 | [],_::_,_,_,h,_=>h.elim
 | _::_,[],_,_,h,_=>h.elim
 | f::fs,w::vs,out,v,h,ho=>by
  rw[OU,PR,QB,<-PP];refine tt h.2 (OP (FN _ _) (OP (Sc ho (h.1 b i)) (wo n v w)))
theorem Lr{n:Nat}(h:yE n fs vs):DD (ft n vs.sum) (iQ fs):=fun b i=>by
 cases fs with
 | nil=>rw[iQ];exact OO _
 | cons f fs =>
  cases vs with
  | nil=>exact h.elim
  | cons v vs =>
   rw[iQ,QB];exact tt h.2 (h.1 b i)
theorem Mv{n:Nat}(I:2<=n)(h:yE n fs vs):DD (ft n vs.sum) (hdF fs):=fun b i=>by
 cases fs with
 | nil=>exact OO _
 | cons f fs =>
  cases vs with
  | nil=>exact h.elim
  | cons v vs=>rw[QB];exact OP (h.1 b i) (jX I _ _)
theorem yI:∀ar:List Pt,(eF ar).length=(ar.map fun a=>(evV a).length).sum
 | []=>by rw[eF];rfl
 | a::r=>by rw[eF,OM,yI r,OU,QB]
mutual
theorem vg(l:List Evt)(h:2<=l.length):∀p,fk p=false->DD (ft l.length (evV p).length) (bl l p)
 | .mk o ar ty vr sc sp c,hit=>by
  rw[fk,PL]at hit;have J:=of_decide_eq_false hit.1;have hL:=xj l h ar hit.2;have I:ft l.length (eF ar).length<=ft l.length (evV (.mk o ar ty vr sc sp c)).length:=by
   rw[evV,OM,Nat.add_comm];exact jX h _ _
  rw[yI]at I;rw[bl]
  split
  ·next h0 =>
   intro b i;have h1:(em l ty vr c b i).length<=l.length:=by
    unfold em;rw[OL];refine OP (QF _ _) ?_;rw[QE];exact OI _
   refine OP h1 ?_;rw[evV,OG h0,OM,O0];refine OP ?_ (jX h 1 _);unfold ft;rw[OF dc,Nat.pow_one];exact OI _
  ·split
   ·exact fun b i=>OP (CV h hL b i) I
   ·split
    ·exact fun b i=>OP (Lg h hL b i) I
    ·split
     ·exact fun b i=>OP (Lr hL b i) I
     ·exact fun b i=>OP (QF _ _) (OP (Mv h hL b i) I)
theorem xj(l:List Evt)(h:2<=l.length):∀ar,eZ ar=false->yE l.length (aR l ar) (ar.map fun a=>(evV a).length)
 | [],_=>by rw[aR];trivial
 | a::r,hit=>by
  rw[eZ,PL]at hit;rw[aR,OU];exact⟨vg l h a hit.1,xj l h r hit.2⟩
end
def bOf(l:List Evt)(x:Int × Nat):Bnd:=⟨x.1,((l[x.2]?).getD kw).tm,((l[x.2]?).getD kw).src,((l[x.2]?).getD kw).sq⟩
def mOf(l:List Evt)(s:Bs):List Bnd:=s.map (bOf l)
def Eo(l:List Evt):Prop:=l.Pairwise fun a b=>dA (dC a) (dC b)<0
theorem KX(h:Eo l){x y:Int×Nat}(I:x.2<l.length)(hy:y.2<l.length)(e:bOf l x=bOf l y):x=y:=by
 unfold bOf at e;rw[OH I,OH hy]at e;simp only[P3,Bnd.mk.injEq]at e;obtain⟨e1,e2,J,Z⟩:=e;have hr:dA (dC l[x.2]) (dC l[y.2])=0:=lL.2 ⟨e2,J,Z⟩;have hk:x.2=y.2:=by
  rcases R7 x.2 y.2 with h1|h1|h1
  ·have:=List.pairwise_iff_getElem.1 h x.2 y.2 I hy h1;omega
  ·exact h1
  ·have:=List.pairwise_iff_getElem.1 h y.2 x.2 hy I h1;have:=mz.anti (dC l[x.2]) (dC l[y.2]);omega
 exact Prod.ext e1 hk
theorem uN{l:List Evt}(h:Eo l):∀{s t:Bs},(∀x∈s,x.2<l.length)->(∀x∈t,x.2<l.length)->mOf l s=mOf l t->s=t
 | [],[],_,_,_=>rfl
 | [],_::_,_,_,e=>by simp[mOf]at e
 | _::_,[],_,_,e=>by simp[mOf]at e
 | x::s,y::t,hs,ht,e=>by
  simp only[mOf,OU,PJ]at e;rw[KX h (hs x (OR ..)) (ht y (OR ..)) e.1,uN h (fun z I=>hs z (OS _ I)) (fun z I=>ht z (OS _ I)) e.2]
theorem kX{α β:Type}{f:α->β}:∀{l:List α},l.Nodup->(∀x∈l,∀y∈l,f x=f y->x=y)->(l.map f).Nodup
 | [],_,_=>by simp
 | a::l,h,hf=>by
  rw[RN]at h;rw[OU,RN];refine⟨fun hm=>?_,kX h.2 fun x I y hy=>hf x (OS _ I) y (OS _ hy)⟩;obtain⟨y,hy,e⟩:=List.mem_map.1 hm;exact h.1 (hf y (OS _ hy) a (OR ..) e▸hy)
def ij(out:List (List Bnd))(m:List Bnd):List (List Bnd) :=
 let k:=out.length-(out.reverse.takeWhile fun e=>decide (bsC m e<0)).length
 out.take k++m::out.drop k
theorem xp{x:List Bnd}:x∈ij out m↔x=m\/x∈out:=by
 unfold ij;simp only;generalize out.length-(out.reverse.takeWhile fun e=>decide (bsC m e<0)).length=k;rw[Qg,O7];have:=QT k out;constructor
 ·rintro (h|h|h)
  ·exact .inr (Ra h)
  ·exact .inl h
  ·exact .inr (Q9 h)
 ·rintro (h|h)
  ·exact .inr (.inl h)
  ·rw[<-this,Qg]at h;rcases h with h|h
   ·exact .inl h
   ·exact .inr (.inr h)
theorem ni{α:Type}{p:α->Bool}:∀(l:List α),(∀x∈l.takeWhile p,p x=true)/\∀x,l[(l.takeWhile p).length]?=some x->p x=false
 | []=>by simp
 | a::l=>by
  have J:=ni (p:=p) l;rw[List.takeWhile_cons]
  split
  ·next h =>
   refine⟨fun x I=>?_,fun x I=>J.2 x (jQ I)⟩;rcases List.mem_cons.1 I with rfl|I
   ·exact h
   ·exact J.1 x I
  ·next h=>exact⟨fun x I=>by simp at I,fun x I=>by simp at I;subst I;simpa using h⟩
theorem Hd(h:out.Pairwise fun a b=>bsC a b<0)(hm:m∉out):(ij out m).Pairwise fun a b=>bsC a b<0:=by
 obtain⟨h1,h2⟩:=ni (p:=fun e=>decide (bsC m e<0)) out.reverse;obtain⟨T,hT⟩:=jE (out.reverse.takeWhile (fun e=>decide (bsC m e<0)));rw[hT]at h1 h2;have f':T.length<=out.length:=by have:=(List.takeWhile_prefix (l:=out.reverse) (fun e=>decide (bsC m e<0))).length_le;rw[hT,List.length_reverse]at this;exact this
 have d':T=out.reverse.take T.length:=by have:=List.prefix_iff_eq_take.1 (List.takeWhile_prefix (l:=out.reverse) (fun e=>decide (bsC m e<0)));rwa [hT]at this
 unfold ij;simp only[hT];obtain⟨k,hk⟩:=jF (out.length-T.length);rw[<-hk];have I:∀x∈out.drop k,bsC m x<0:=fun x Z=>by
  have:x∈T:=by
   rw[d',List.take_reverse];rw[List.mem_reverse,<-hk];exact Z
  exact Pe (h1 x this)
 have J:∀x∈out.take k,bsC x m<0:=fun x Z=>by
  obtain⟨j,hj,rfl⟩:=QO Z;rw[PB]at hj;rw[List.getElem_take];have c':¬bsC m (out[k-1]'om)<0:=by
   have:=h2 (out[k-1]'om) (by
    rw[List.getElem?_reverse om,OH om];congr 2;omega)
   exact of_decide_eq_false this
  have a':∀y∈out,bsC y m≠0:=fun y hy e=>hm (ui.1 e▸hy)
  have hl:bsC (out[k-1]'om) m<0:=by
   have:=ga.anti (out[k-1]'om) m;have:=a' _ (OX (show k-1<out.length by omega));omega
  rcases PT j (k-1) with h3|h3
  ·exact ga.lt _ _ _ (List.pairwise_iff_getElem.1 h j (k-1) om om h3) hl
  ·have:j=k-1:=by omega
   subst this;exact hl
 have hp:=List.pairwise_append.1 ((QT k out).symm▸h);rw[RE,Q4];refine⟨hp.1,⟨I,hp.2.1⟩,fun x Z y hy=>?_⟩;rcases List.mem_cons.1 hy with rfl|hy
 ·exact J x Z
 ·exact hp.2.2 x Z y hy
theorem zI:∀(ms out:List (List Bnd)),out.Pairwise (fun a b=>bsC a b<0)->ms.Nodup->(∀m∈ms,m∉out)->(ms.foldl ij out).Pairwise (fun a b=>bsC a b<0)/\∀x,x∈ms.foldl ij out↔x∈ms\/x∈out
 | [],out,h,_,_=>⟨h,fun x=>by simp⟩
 | m::ms,out,h,hn,hd=>by
  rw[RN]at hn;obtain⟨J,i2⟩:=zI ms (ij out m) (Hd h (hd m (OR ..))) hn.2 (fun x I hm=>by
   rcases xp.1 hm with rfl|hm
   ·exact hn.1 I
   ·exact hd x (OS _ I) hm)
  rw[PR];refine⟨J,fun x=>?_⟩;rw[i2,xp,O7];constructor
  ·rintro (h|h|h)
   ·exact .inl (.inr h)
   ·exact .inl (.inl h)
   ·exact .inr h
  ·rintro ((h|h)|h)
   ·exact .inr (.inl h)
   ·exact .inl h
   ·exact .inr (.inr h)
theorem Hp(J:ms.Nodup):ms.foldl ij []=fq ms:=by
 obtain⟨h1,I⟩:=zI ms [] List.Pairwise.nil J (fun _ _ h=>by simp at h);exact np h1 fun k=>by rw[I];simp
def dF(l:List Evt)(p:Pt):List (List Bnd):=fq ((bl l p [] 0).map (mOf l))
theorem zW(l:List Evt){p:Pt}(h:okA p=true):fq ((aU l p [] 0).map (mOf l))=dF l p :=
 np (dY _).1 fun k=>by
  rw[(dY _).2,List.mem_map,List.mem_map];constructor
  ·rintro⟨s,hs,rfl⟩;exact⟨s,(rR l p h [] 0 s).1 hs,rfl⟩
  ·rintro⟨s,hs,rfl⟩;exact⟨s,(rR l p h [] 0 s).2 hs,rfl⟩
def bj(p:Pt)(ps:List (List Evt)):List (List Bnd):=ps.flatMap fun s=>dF s p
theorem sU{l:List (List Bnd)}:(fq l).length<=l.length :=
 kU ((dY l).1.imp fun {a b} h e=>by subst e;have:=ga.anti a a;omega) fun x I=>((dY l).2 x).1 I
theorem Bc(l:List Evt)(p:Pt):dF l p=fq ((bO (bl l p [] 0)).map (mOf l)) :=
 np (dY _).1 fun k=>by
  rw[show dF l p=fq ((bl l p [] 0).map (mOf l)) from rfl,(dY _).2,List.mem_map,List.mem_map];constructor
  ·rintro⟨s,hs,rfl⟩;exact⟨s,aW.2 hs,rfl⟩
  ·rintro⟨s,hs,rfl⟩;exact⟨s,aW.1 hs,rfl⟩
theorem lP(l:List Evt)(p:Pt):(dF l p).length<=((evV p).length+1)^l.length:=by
 rw[Bc];refine OP sU ?_;rw[OL];exact Cq l p [] 0 (bG _) fun s hs=>aW.1 hs
theorem AG(l:List Evt)(p:Pt)(I:2<=l.length)(h:fk p=false):(dF l p).length<=ft l.length (evV p).length:=by
 refine OP sU ?_;rw[OL];exact vg l I p h [] 0
theorem Ja{x a b:Nat}(Z:2<=x)(I:a≠0)(J:b≠0):x^a+x^b<=x^(a+b):=by
 have h:=vh Z a b;unfold ft at h;rw[OF I,OF J,OF om]at h;exact h
theorem pH(p:Pt)(I:(evV p).length≠0):∀ps:List (List Evt),(∀s∈ps,s≠[])->ps≠[]->(bj p ps).length<=((evV p).length+1)^(ps.map List.length).sum
 | [],_,h=>absurd rfl h
 | [s],h,_=>by
  unfold bj;rw[O8,List.flatMap_nil,Qf,OU,P6,QB,List.sum_nil,P9];exact lP s p
 | s::t::ps,h,_=>by
  have ih:=pH p I (t::ps) (fun x Z=>h x (OS _ Z)) jS;have h1:=lP s p;have hs:s.length≠0:=fun e=>h s (OR ..) (Po e)
  have J:((t::ps).map List.length).sum≠0:=fun e=>by
   rw[OU,QB]at e;exact h t jS (Po om)
  unfold bj at *;rw[O8,OM,OU,QB];have:=Ja (x:=(evV p).length+1) om hs J;omega
theorem Bz(h:v≠0)(a b:Nat):a^v+b^v<=(a+b)^v:=by
 obtain⟨k,rfl⟩:∃k,v=k+1:=⟨v-1,by omega⟩;rw[RP,RP,RP,Nat.mul_add];exact Nat.add_le_add (Q1 a (RQ om k)) (Q1 b (RQ om k))
theorem qN(p:Pt)(I:(evV p).length≠0)(Z:fk p=false):∀ps:List (List Evt),(∀s∈ps,s≠[])->(bj p ps).length<=(ps.map List.length).sum^(evV p).length+ps.length*((evV p).length+1)
 | [],_=>by simp[bj]
 | s::ps,h=>by
  have ih:=qN p I Z ps fun x hx=>h x (OS _ hx)
  unfold bj at *;rw[O8,OM,OU,QB,Pk,Q6,QM];have hp:=Bz I s.length (ps.map List.length).sum;rcases PT s.length 2 with h1|h1
  ·have J:=lP s p;have h3:((evV p).length+1)^s.length<=(evV p).length+1:=by
    rcases PT s.length 1 with h4|h4
    ·have:s.length=0:=by omega
     rw[this,Nat.pow_zero];omega
    ·have:s.length=1:=by omega
     rw[this,Nat.pow_one];omega
   omega
  ·have J:=AG s p h1 Z;unfold ft at J;rw[OF I]at J;omega
theorem EC(p:Pt)(Z:(evV p).length≠0)(J:(evV p).length<=64)(ps:List (List Evt))(I:∀s∈ps,s≠[])(hl:(ps.map List.length).sum<=10)(hs:((evV p).length+1)^(ps.map List.length).sum<=1500\/(fk p=false/\(ps.map List.length).sum^(evV p).length<=1500)):(bj p ps).length<=4096:=by
 have hlen:ps.length<=(ps.map List.length).sum:=by
  clear hl hs
  induction ps with
  | nil=>simp
  | cons s ps ih =>
   have h1:=ih fun x hx=>I x (OS _ hx)
   have h2:s.length≠0:=fun e=>I s (OR ..) (Po e)
   rw[Pk,OU,QB];omega
 rcases hs with h|⟨hi,h⟩
 ·rcases List.eq_nil_or_concat ps with rfl|_
  ·simp[bj]
  ·by_cases e:ps=[]
   ·subst e;simp[bj]
   ·have:=pH p Z ps I e;omega
 ·have h1:=qN p Z hi ps I;have h2:ps.length*((evV p).length+1)<=10*65:=Sc om om;omega
theorem DT{l:List (List Bnd)}(h:l.Pairwise fun a b=>bsC a b<0):l.Nodup:=h.imp fun {a b} h e=>by subst e;have:=ga.anti a a;omega
theorem sN{p:Pt}(h:m∈dF l p):∃s,s∈bl l p [] 0/\m=mOf l s/\SetOk 0 l.length s:=by
 obtain⟨s,hs,rfl⟩:=List.mem_map.1 (((dY _).2 m).1 h);exact⟨s,hs,rfl,qX l p [] 0 s hs⟩
theorem Ag{k:List Evt}{p:Pt}(h1:m∈dF l p)(Z:m∈dF k p):∃a,a∈l/\∃b,b∈k/\dA (dC a) (dC b)=0:=by
 obtain⟨s,_,rfl,hs⟩:=sN h1;obtain⟨t,_,e,I⟩:=sN Z
 match s,t,hs,I,e with
 | [],_,hs,_,_=>exact absurd rfl hs.1
 | _::_,[],_,I,_=>exact absurd rfl I.1
 | x::s,y::t,hs,I,e =>
  simp only[mOf,OU,PJ]at e;have J:=(hs.2.2 x (OR ..)).2;have hy:=(I.2.2 y (OR ..)).2;have h:=e.1;unfold bOf at h;rw[OH J,OH hy]at h;simp only[P3,Bnd.mk.injEq]at h;exact⟨l[x.2],OX J,k[y.2],OX hy,lL.2 ⟨h.2.1,h.2.2.1,h.2.2.2⟩⟩
def zR(l k:List Evt):Prop:=∀a∈l,∀b∈k,dA (dC a) (dC b)≠0
theorem oE(p:Pt):∀ps:List (List Evt),ps.Pairwise zR->(bj p ps).Nodup
 | [],_=>by simp[bj]
 | s::ps,h=>by
  rw[Q4]at h;have J:=oE p ps h.2;unfold bj at *;rw[O8,List.nodup_append];refine⟨DT (dY _).1,J,fun a Z b I e=>?_⟩;subst e;obtain⟨t,ht,I⟩:=List.mem_flatMap.1 I;obtain⟨x,hx,y,hy,e⟩:=Ag Z I;exact h.1 t ht x hx y hy e
theorem uQ(h:Eo l){q r:Evt->Bool}(I:∀e,q e=true->r e=true->False):zR (l.filter q) (l.filter r):=by
 intro a J b hb e;rw[Rb]at J hb;have Z:a=b:=by
  obtain⟨i,hi,rfl⟩:=QO J.1;obtain⟨j,hj,rfl⟩:=QO hb.1;rcases R7 i j with h1|h1|h1
  ·have:=List.pairwise_iff_getElem.1 h i j hi hj h1;omega
  ·subst h1;rfl
  ·have:=List.pairwise_iff_getElem.1 h j i hj hi h1;have:=mz.anti (dC l[i]) (dC l[j]);omega
 subst Z;exact I a J.2 hb.2
def cW:List UInt8->List UInt8->Int
 | [],[]=>0
 | [],_::_=>-1
 | _::_,[]=>1
 | a::x,b::y=>if a<b then -1 else if b<a then 1 else cW x y
theorem tL:∀a b:List UInt8,Op.bytesLess a b=decide (cW a b<0)
 | [],[]=>by simp[Op.bytesLess,cW]
 | [],_::_=>by simp[Op.bytesLess,cW]
 | _::_,[]=>by simp[Op.bytesLess,cW]
 | a::x,b::y=>by
  have ih:=tL x y;rw[Op.bytesLess,cW,ih]
  by_cases h1:a<b
  ·simp[h1]
  ·by_cases I:b<a
   ·have:a≠b:=fun e=>by subst e;exact h1 I
    simp[h1,I,this]
   ·have:a=b:=UInt8.le_antisymm (UInt8.not_lt.1 I) (UInt8.not_lt.1 h1);simp[this]
theorem oY:∀{a b:List UInt8},cW a b=0↔a=b
 | [],[]=>by simp[cW]
 | [],_::_=>by simp[cW]
 | _::_,[]=>by simp[cW]
 | a::x,b::y=>by
  rw[cW]
  by_cases h1:a<b
  ·rw[OG h1];have:a≠b:=fun e=>by subst e;exact absurd h1 (UInt8.lt_irrefl a)
   simp[this]
  ·by_cases I:b<a
   ·rw[OF h1,OG I];have:a≠b:=fun e=>by subst e;exact h1 I
    simp[this]
   ·have:a=b:=UInt8.le_antisymm (UInt8.not_lt.1 I) (UInt8.not_lt.1 h1);rw[OF h1,OF I,oY,this];simp
theorem tC:∀a b:List UInt8,cW b a=- cW a b
 | [],[]=>by simp[cW]
 | [],_::_=>by simp[cW]
 | _::_,[]=>by simp[cW]
 | a::x,b::y=>by
  rw[cW,cW]
  by_cases h1:a<b
  ·have I:¬b<a:=fun h=>UInt8.lt_irrefl a (UInt8.lt_trans h1 h)
   rw[OF I,OG h1,OG h1];rfl
  ·by_cases I:b<a
   ·rw[OG I,OF h1,OG I]
   ·rw[OF h1,OF I,OF I,OF h1,tC x y]
theorem BW:∀a b c:List UInt8,cW a b<0->cW b c<0->cW a c<0
 | _,[],[],_,h=>by simp[cW]at h
 | [],[],_::_,h,_=>by simp[cW]at h
 | _::_,[],_::_,h,_=>by simp[cW]at h
 | [],_::_,[],_,h=>by simp[cW]at h
 | [],_::_,_::_,_,_=>by simp[cW]
 | _::_,_::_,[],_,h=>by simp[cW]at h
 | a::x,b::y,c::z,h1,I=>by
  rw[cW]at h1 I ⊢
  by_cases J:a<b
  ·by_cases Z:b<c
   ·rw[OG (UInt8.lt_trans J Z)];decide
   ·by_cases d':c<b
    ·rw[OF Z,OG d']at I;exact absurd I dc
    ·have:b=c:=UInt8.le_antisymm (UInt8.not_lt.1 d') (UInt8.not_lt.1 Z);subst this;rw[OG J];decide
  ·by_cases c':b<a
   ·rw[OF J,OG c']at h1;exact absurd h1 dc
   ·have:a=b:=UInt8.le_antisymm (UInt8.not_lt.1 c') (UInt8.not_lt.1 J);subst this;rw[OF J,OF c']at h1
    by_cases a':a<c
    ·rw[OG a'];decide
    ·by_cases f':c<a
     ·rw[OF a',OG f']at I;exact absurd I dc
     ·rw[OF a',OF f']at I ⊢;exact BW x y z h1 I
def vlC(a b:Vl):Int:=orI (orI (bC a.kind b.kind) (bC a.num b.num)) (cW a.text.toList b.text.toList)
theorem Ik:vlC a b=0↔a.kind=b.kind/\a.num=b.num/\a.text.toList=b.text.toList:=by
 unfold vlC;rw[ik,ik,iA,iA,oY,and_assoc]
theorem NJ:bI a b=decide (vlC a b=0):=by
 rw[Qc,OW,Ik];simp[bI]
def bW(key:List Int)(e:Evt):Vl × Bool × Int :=
 if key.length=0 then (au,true,0) else if e.ty<0\/(key.length:Int)<=e.ty then (au,false,1)
 else if key.getD e.ty.toNat 0 < -1\/(e.vals.length:Int)<=key.getD e.ty.toNat 0 then (au,false,2)
 else if key.getD e.ty.toNat 0=-1 then (au,false,0) else (e.vals.getD (key.getD e.ty.toNat 0).toNat au,true,0)
def dH(key:List Int)(v:Vl)(e:Evt):Bool:=(bW key e).2.1&&bI (bW key e).1 v
def gc(l:List Vl)(v:Vl):List Vl:=match l with
 | []=>[v]
 | x::r=>if vlC x v<0 then x::gc r v else if bI x v then x::r else v::x::r
def dO(key:List Int)(l:List Evt):List Vl:=l.foldl (fun S e=>if (bW key e).2.1 then gc S (bW key e).1 else S) []
def eJ(key:List Int)(l:List Evt):List (List Evt):=(dO key l).map fun v=>l.filter (dH key v)
def gu(key:List Int)(l:List Evt):Int:=if bN l≠0 then bN l else eu (fun _ e=>(bW key e).2.2) none l
def Bi(w:World)(r:Vl × Bool × Int)(e:Ending)(W:World):Prop:=e=.returned (.tuple #[vlV r.1,.bool r.2.1,OB r.2.2])/\OD w W
theorem Ht(x:Evt)(h:key.length=0):bW key x=(au,true,0):=by unfold bW;rw[OG h]
theorem Ii(h:key.length≠0)(h1:x.ty<0\/(key.length:Int)<=x.ty):bW key x=(au,false,1):=by unfold bW;rw[OF h,OG h1]
theorem GU{k:Int}(h:x.ty=(j:Int))(hk:key[j]?=some k)(I:k < -1\/(x.vals.length:Int)<=k):bW key x=(au,false,2):=by
 have Z:=(List.getElem?_eq_some_iff.1 hk).1;have J:key.getD x.ty.toNat 0=k:=by rw[h];simp[List.getD,hk]
 unfold bW;rw[OF om,OF om,J,OG I]
theorem GF(h:x.ty=(j:Int))(hk:key[j]?=some (-1)):bW key x=(au,false,0):=by
 have J:=(List.getElem?_eq_some_iff.1 hk).1;have I:key.getD x.ty.toNat 0=-1:=by rw[h];simp[List.getD,hk]
 unfold bW;rw[OF om,OF om,I,OF om,OG rfl]
theorem Hn{v:Vl}(J:x.ty=(j:Int))(hk:key[j]?=some (k:Int))(h:x.vals[k]?=some v):bW key x=(v,true,0):=by
 have hl:=(List.getElem?_eq_some_iff.1 hk).1;have I:=(List.getElem?_eq_some_iff.1 h).1;have Z:key.getD x.ty.toNat 0=(k:Int):=by rw[J];simp[List.getD,hk]
 unfold bW;rw[OF om,OF om,Z,OF om,OF om];simp[List.getD,h]
theorem uaT(h:p:=by
  go_enter func103,ntmps103;go_wp2_with fail
  go_big_region
  go_wp2;exact OJ (v:=.tuple #[vlV au,.bool false,OB 2]) (by simp[results,results103,go_sem,vlV,au]) rfl ⟨rfl,jB⟩):p:=h
theorem uaU(h:p:=by
  clear h1;go_enter func103,ntmps103;go_wp2;exact OJ (v:=.tuple #[vlV au,.bool false,OB 1]) (by simp[results,results103,go_sem,vlV,au]) rfl ⟨rfl,jB⟩):p:=h
theorem EY(key:List Int)(x:Evt)(u vk:Value)(w:World)(hk:iJ w vk key)(hu:bh w u x.vals) :
  Calls prog 103 #[cM x u,vk] w (Bi w (bW key x)):=by
 obtain⟨Ak,ck,rfl,k1,k2,a'⟩:=hk;obtain⟨Au,cu,rfl,u1,u2,c'⟩:=hu;have hn:=aP k1 k2;have hm:=aP u1 u2;have Z:=jD a';have J:=jD c';clear k1 k2 u1 u2 a' c'
 by_cases h0:key.length=0
 ·rw[Ht x h0,h0];unfold cM;clear Z J hn;go_enter func103,ntmps103;go_wp2;exact OJ (v:=.tuple #[vlV au,.bool true,OB 0]) (by simp[results,results103,go_sem,vlV,au]) rfl ⟨rfl,jB⟩
 by_cases h1:x.ty<0\/(key.length:Int)<=x.ty
 ·rw[Ii h0 h1];have h':((key.length:Int)==0)=false:=jQ h0;unfold cM;clear Z J
  by_cases h2:x.ty<0
  ·exact uaU
  ·have h3:(key.length:Int)<=x.ty:=by omega
   exact uaU
 obtain⟨j,hj⟩:∃j:Nat,x.ty=(j:Int):=⟨x.ty.toNat,by omega⟩;have g':j<key.length:=by omega
 obtain⟨k,I⟩:∃k,key[j]?=some k:=⟨_,OH g'⟩;obtain⟨bk,ok,rfl,d'⟩:=Z.out j k I;rw[P7]at d';unfold vH at d';have n':bk<w.heap.size:=OV w ⟨bk,_,none⟩ d';have h':((key.length:Int)==0)=false:=jQ h0;have i':(j:Int)<(key.length:Int):=by omega
 have p':¬(j:Int)<0:=by omega
 have j':¬(key.length:Int)<=(j:Int):=by omega
 by_cases h2:k < -1\/(x.vals.length:Int)<=k
 ·rw[GU hj I h2];obtain⟨m,h⟩:=jF x.vals.length;rw[<-h]at hm h2 ⊢;unfold cM;rw[hj];clear Z J h1 I h h0
  by_cases h3:k < -1
  ·clear h2;exact uaT
  ·have h4:(m:Int)<=k:=by omega
   have hd:decide (k < -1)=false:=OZ h3;have HH:=jD h3;clear h2 h3;exact uaT
 by_cases h3:k=-1
 ·subst h3;rw[GF hj I];obtain⟨m,h⟩:=jF x.vals.length;rw[<-h]at hm ⊢;have l':decide ((m:Int)<=-1)=false:=OZ om;have m':¬(m:Int)<=-1:=by omega
  unfold cM;rw[hj];clear Z J h1 I h h0 h2;go_enter func103,ntmps103;go_wp2_with fail
  go_big_region
  go_wp2;exact OJ (v:=.tuple #[vlV au,.bool false,OB 0]) (by simp[results,results103,go_sem,vlV,au]) rfl ⟨rfl,jB⟩
 obtain⟨q,hq⟩:∃q:Nat,k=(q:Int):=⟨k.toNat,by omega⟩;subst hq;have f':q<x.vals.length:=by omega
 obtain⟨v,hv⟩:∃v,x.vals[q]?=some v:=⟨_,OH f'⟩;rw[Hn hj I hv];obtain⟨bu,ou,rfl,u0,u1,u2⟩:=J.out q v hv;have k':bu<w.heap.size:=OV w ⟨bu,_,none⟩ u0;obtain⟨m,h⟩:=jF x.vals.length;rw[<-h]at hm f' ⊢;have hd:decide ((q:Int) < -1)=false:=OZ om;have s':¬(m:Int)<=(q:Int):=by omega
 have q':(q:Int)<(m:Int):=by omega
 have r':((q:Int)==-1)=false:=by simp
 unfold cM;rw[hj];clear Z J h1 I h h0 h2 hv h3 f';go_enter func103,ntmps103;go_wp2_with fail
 go_big_region
 go_wp2_with fail
 go_big_region
 go_wp2;exact OJ (v:=.tuple #[vlV v,.bool true,OB 0]) (by simp[results,results103,go_sem,vlV,au]) rfl ⟨rfl,jB⟩
theorem uaV(h:p:=by
  clear h1;go_enter func125,ntmps125;go_wp2;exact OJ (v:=.tuple #[vlV au,.bool false,OB 1]) (by simp[results,results125,go_sem,vlV,au]) rfl ⟨rfl,jB⟩):p:=h
theorem uaW(h:p:=by
  go_enter func125,ntmps125;go_wp2;exact OJ (v:=.tuple #[vlV au,.bool false,OB 2]) (by simp[results,results125,go_sem,vlV,au]) rfl ⟨rfl,jB⟩):p:=h
theorem Hv(key:List Int)(x:Evt)(u vk:Value)(w:World)(hk:iJ w vk key)(hu:bh w u x.vals) :
  Calls prog 125 #[cM x u,vk] w (Bi w (bW key x)):=by
 obtain⟨Ak,ck,rfl,k1,k2,a'⟩:=hk;obtain⟨Au,cu,rfl,u1,u2,c'⟩:=hu;have hn:=aP k1 k2;have hm:=aP u1 u2;have Z:=jD a';have J:=jD c';clear k1 k2 u1 u2 a' c'
 by_cases h0:key.length=0
 ·rw[Ht x h0,h0];unfold cM;clear Z J hn;go_enter func125,ntmps125;go_wp2;exact OJ (v:=.tuple #[vlV au,.bool true,OB 0]) (by simp[results,results125,go_sem,vlV,au]) rfl ⟨rfl,jB⟩
 by_cases h1:x.ty<0\/(key.length:Int)<=x.ty
 ·rw[Ii h0 h1];have h':((key.length:Int)==0)=false:=jQ h0;unfold cM;clear Z J
  by_cases h2:x.ty<0
  ·exact uaV
  ·have h3:(key.length:Int)<=x.ty:=by omega
   exact uaV
 obtain⟨j,hj⟩:∃j:Nat,x.ty=(j:Int):=⟨x.ty.toNat,by omega⟩;have g':j<key.length:=by omega
 obtain⟨k,I⟩:∃k,key[j]?=some k:=⟨_,OH g'⟩;obtain⟨bk,ok,rfl,d'⟩:=Z.out j k I;rw[P7]at d';unfold vH at d';have n':bk<w.heap.size:=OV w ⟨bk,_,none⟩ d';have h':((key.length:Int)==0)=false:=jQ h0;have i':(j:Int)<(key.length:Int):=by omega
 have p':¬(j:Int)<0:=by omega
 have j':¬(key.length:Int)<=(j:Int):=by omega
 by_cases h2:k < -1\/(x.vals.length:Int)<=k
 ·rw[GU hj I h2];obtain⟨m,h⟩:=jF x.vals.length;rw[<-h]at hm h2 ⊢;unfold cM;rw[hj];clear Z J h1 I h h0
  by_cases h3:k < -1
  ·clear h2;exact uaW
  ·have h4:(m:Int)<=k:=by omega
   have hd:decide (k < -1)=false:=OZ h3;have HH:=jD h3;clear h2 h3;exact uaW
 by_cases h3:k=-1
 ·subst h3;rw[GF hj I];obtain⟨m,h⟩:=jF x.vals.length;rw[<-h]at hm ⊢;have l':decide ((m:Int)<=-1)=false:=OZ om;have m':¬(m:Int)<=-1:=by omega
  unfold cM;rw[hj];clear Z J h1 I h h0 h2;go_enter func125,ntmps125;go_wp2;exact OJ (v:=.tuple #[vlV au,.bool false,OB 0]) (by simp[results,results125,go_sem,vlV,au]) rfl ⟨rfl,jB⟩
 obtain⟨q,hq⟩:∃q:Nat,k=(q:Int):=⟨k.toNat,by omega⟩;subst hq;have f':q<x.vals.length:=by omega
 obtain⟨v,hv⟩:∃v,x.vals[q]?=some v:=⟨_,OH f'⟩;rw[Hn hj I hv];obtain⟨bu,ou,rfl,u0,u1,u2⟩:=J.out q v hv;have k':bu<w.heap.size:=OV w ⟨bu,_,none⟩ u0;obtain⟨m,h⟩:=jF x.vals.length;rw[<-h]at hm f' ⊢;have hd:decide ((q:Int) < -1)=false:=OZ om;have s':¬(m:Int)<=(q:Int):=by omega
 have q':(q:Int)<(m:Int):=by omega
 have r':((q:Int)==-1)=false:=by simp
 unfold cM;rw[hj];clear Z J h1 I h h0 h2 hv h3 f';go_enter func125,ntmps125;go_wp2;exact OJ (v:=.tuple #[vlV v,.bool true,OB 0]) (by simp[results,results125,go_sem,vlV,au]) rfl ⟨rfl,jB⟩
section
section
variable {e e1:Exit}{τ τ1:Sg}
theorem LoopP.each(I:Nat->Sg)(n:Nat)(hs:∀k,k<n->LoopP P gl N c (I (k+1)) e τ->LoopP P gl N c (I k) e τ)(h:LoopP P gl N c (I n) e τ):LoopP P gl N c (I 0) e τ:=by
 have:∀r k,k+r=n->LoopP P gl N c (I k) e τ:=by
  intro r
  induction r with
  | zero =>
   intro k hk;obtain rfl:k=n:=by omega
   exact h
  | succ r J=>intro k hk;exact hs k om (J (k+1) om)
 exact this n 0 om
theorem LoopP.any(I:Nat->Sg)(l:List α)(p:α->Bool)(hs:∀k x,l[k]?=some x->p x=false->∀e τ,LoopP P gl N c (I (k+1)) e τ->LoopP P gl N c (I k) e τ)(ht:∀k x,l[k]?=some x->p x=true->LoopP P gl N c (I k) e1 τ1)(h0:LoopP P gl N c (I l.length) e τ) :
  (l.any p=true->LoopP P gl N c (I 0) e1 τ1)/\(l.any p=false->LoopP P gl N c (I 0) e τ):=by
 have:∀r k,k+r=l.length->((l.drop k).any p=true->LoopP P gl N c (I k) e1 τ1)/\((l.drop k).any p=false->LoopP P gl N c (I k) e τ):=by
  intro r
  induction r with
  | zero =>
   intro k hk;obtain rfl:k=l.length:=by omega
   rw[Qn];exact⟨fun h=>(by cases h),fun _=>h0⟩
  | succ r ih =>
   intro k hk;have hx:k<l.length:=by omega
   have J:=OH hx;have Z:=ih (k+1) om;rw[<-List.getElem_cons_drop hx,List.any_cons]
   cases hp:p l[k] with
   | true=>exact⟨fun _=>ht k _ J hp,fun h=>(by simp at h)⟩
   | false=>exact⟨fun h=>hs k _ J hp _ _ (Z.1 (jQ h)),fun h=>hs k _ J hp _ _ (Z.2 (jQ h))⟩
 have h:=this l.length 0 om
 rwa [PN]at h
theorem wr1{n:Nat}(h:k<n)(I:n<=9223372036854775807):IntKind.i64.wrap ((k:Int)+1)=((k+1:Nat):Int):=by rw[Pv];omega
theorem ltM(I:α->Tr){l:List α}(h:k<l.length):decide ((k:Int)<((l.map I).length:Nat))=true:=by simp;omega
theorem dI(h:α->Tr)(l:List α):decide ((l.length:Int)<((l.map h).length:Nat))=false:=by simp
theorem elM(I:α->Tr){l:List α}{x:α}(h:l[k]?=some x):(l.map I)[((k:Int)).toNat]?=some (I x):=by simp[h]
theorem k0(k:Nat):(0:Int)<=(k:Int):=PO k
theorem BC(I:α->Tr){l:List α}{n:Nat}(h:∀x,(I x).cells.length=n):((l.map I).all fun t=>t.cells.length==n)=true:=by
 rw[List.all_map,Re];intro x _;simp[h x]
theorem yT:true=true:=rfl
theorem yF:false=false:=rfl
theorem eT(t:Tr):some t=some t:=rfl
theorem eV(v:V):v=v:=rfl
theorem Jp(h:α->Tr)(x:α)(l:List α):decide ((((x::l).map h).length:Nat) > (0:Int))=true:=by simp
theorem i0:(0:Int)<=0:=Int.le_refl 0
theorem ai3(h:A/\B/\C)(k:E):A/\B/\C/\E:=⟨h.1,h.2.1,h.2.2,k⟩
theorem ai4{D:Prop}(h:A/\B/\C/\D)(k:E):A/\B/\C/\D/\E:=⟨h.1,h.2.1,h.2.2.1,h.2.2.2,k⟩
theorem CG(I:α->Tr)(x:α)(l:List α)(n:Nat)(h:∀x,(I x).cells.length=n):(0:Int)<=1/\(1:Int)<=(((x::l).map I).length:Nat)/\(((x::l).map I).length:Int)<=(((x::l).map I).length:Nat)/\(((x::l).map I).all fun t=>t.cells.length==n)=true :=
 ⟨by omega,by simp;omega,Int.le_refl _,BC I h⟩
theorem app3(I:α->Tr)(x:α)(l:List α)(n b:Nat)(h:∀x,(I x).cells.length=n)(J:(l.length+1)*b<=140737488355328)(Z:0<b):([I x].all fun t=>t.cells.length==n)=true/\(l.map I).length+1<=maxLen/\((l.map I).length+1)*b<=140737488355328 :=
 ⟨by simp[h x],by rw[OL,aQ];have:=Nat.le_mul_of_pos_right (l.length+1) Z;omega,by rw[OL];exact J⟩
theorem sz{l:List α}{x:α}(h:l[k]?=some x):k<l.length:=(List.getElem?_eq_some_iff.1 h).1
theorem tO{a b:Nat}(h0:∀k,k<a->f k=true):(List.range b).all f=!((List.range (b-a)).any fun k=>!f (a+k)):=by
 rw[Qc];simp only[Re,Pj,RO,List.mem_range];constructor
 ·intro h k hk;simp[h (a+k) om]
 ·intro h k hk
  by_cases I:k<a
  ·exact h0 k I
  ·have:=h (k-a) om;rw[show a+(k-a)=k by omega]at this
   simpa using this
theorem Dc(I:α->Tr){l:List α}{z:α}(h:l.getLast?=some z)(J:l.length<=9223372036854775807):(l.map I)[(IntKind.i64.wrap ((((l.map I).length:Nat):Int)-1)).toNat]?=some (I z)/\(0:Int)<=IntKind.i64.wrap ((((l.map I).length:Nat):Int)-1):=by
 have h0:0<l.length:=List.length_pos_iff.2 fun e=>by subst e;cases h
 have e:IntKind.i64.wrap ((((l.map I).length:Nat):Int)-1)=((l.length-1:Nat):Int):=by rw[Pv,OL];omega
 rw[e];refine⟨?_,PO _⟩;rw[R3]at h;simp[h]
theorem sE(I:α->Tr){l:List α}{z:α}(h:l.head?=some z):(l.map I)[(0:Int).toNat]?=some (I z):=by
 cases l with
 | nil=>cases h
 | cons y l=>cases h;rfl
end
end
abbrev uR(s:Bs):Prop:=s.Pairwise fun x y=>x.2<y.2
section
theorem I2:PC cW:=⟨tC,BW,fun a b d h=>by rw[oY.1 h]⟩
theorem lM:PC vlC:=((lh.of Vl.kind).or (lh.of Vl.num)).or (I2.of fun(v:Vl)=>v.text.toList)
theorem MG(h1:a.kind=b.kind)(J:a.num=b.num)(h:a.text.toList=b.text.toList):a=b:=by
 obtain⟨k,n,s⟩:=a;obtain⟨k',Z,I⟩:=b;simp only at h1 J h;subst h1 J;rw[Rh,Rh]at h;have:s=I:=by
  obtain⟨d⟩:=s;obtain⟨d'⟩:=I;simp only at h;rw[Array.toList_inj.1 h]
 rw[this]
theorem rN:vlC a b=0↔a=b:=by
 rw[Ik];exact⟨fun h=>MG h.1 h.2.1 h.2.2,fun h=>by subst h;exact⟨rfl,rfl,rfl⟩⟩
theorem fE:bI a b=true↔a=b:=by rw[NJ,OW,rN]
section
variable {c:α->α->Int}
theorem Ih(h:PC c):∀{S T:List α},S.Pairwise (fun a b=>c a b<0)->T.Pairwise (fun a b=>c a b<0)->(∀k,k∈S↔k∈T)->S=T
 | [],[],_,_,_=>rfl
 | [],b::T,_,_,hm=>absurd ((hm b).2 (OR ..)) jS
 | a::S,[],_,_,hm=>absurd ((hm a).1 (OR ..)) jS
 | a::S,b::T,hs,ht,hm=>by
  rw[Q4]at hs ht;have I:a=b:=by
   rcases List.mem_cons.1 ((hm a).1 (OR ..)) with e|h1
   ·exact e
   ·rcases List.mem_cons.1 ((hm b).2 (OR ..)) with e|h2
    ·exact e.symm
    ·have h3:=ht.1 a h1;have h4:=hs.1 b h2;have:=h.anti a b;omega
  subst I;have J:∀k∈S,k≠a:=fun k hk e=>by subst e;have:=hs.1 k hk;have:=h.refl k;omega
  have Z:∀k∈T,k≠a:=fun k hk e=>by subst e;have:=ht.1 k hk;have:=h.refl k;omega
  rw[Ih h hs.2 ht.2 fun k=>⟨fun hk=>(List.mem_cons.1 ((hm k).1 (OS _ hk))).resolve_left (J k hk),fun hk=>(List.mem_cons.1 ((hm k).2 (OS _ hk))).resolve_left (Z k hk)⟩]
end
theorem rM(v:Vl):∀(l:List Vl)(k:Vl),k∈gc l v↔k=v\/k∈l
 | [],k=>by simp[gc]
 | x::r,k=>by
  have I:=rM v r k;rw[gc]
  split
  ·rw[O7,I,O7];constructor
   ·rintro (h|h|h)
    ·exact .inr (.inl h)
    ·exact .inl h
    ·exact .inr (.inr h)
   ·rintro (h|h|h)
    ·exact .inr (.inl h)
    ·exact .inl h
    ·exact .inr (.inr h)
  ·split
   ·next h =>
    have:=fE.1 h;subst this;simp
   ·simp
theorem xU{v:Vl}:∀{l:List Vl},l.Pairwise (fun a b=>vlC a b<0)->(gc l v).Pairwise fun a b=>vlC a b<0
 | [],_=>by simp[gc]
 | x::r,h=>by
  have h0:=List.pairwise_cons.1 h;rw[gc]
  split
  ·next Z =>
   refine List.pairwise_cons.2 ⟨fun k hk=>?_,xU h0.2⟩;rcases (rM v r k).1 hk with rfl|hk
   ·exact Z
   ·exact h0.1 k hk
  ·split
   ·exact h
   ·next Z I =>
    have hz:vlC x v≠0:=fun e=>I (fE.2 (rN.1 e))
    have J:vlC v x<0:=by have:=lM.anti x v;omega
    refine List.pairwise_cons.2 ⟨fun k hk=>?_,h⟩;rcases List.mem_cons.1 hk with rfl|hk
    ·exact J
    ·exact lM.lt v x k J (h0.1 k hk)
theorem wm(key:List Int):∀(l:List Evt)(S:List Vl),S.Pairwise (fun a b=>vlC a b<0) ->
  (l.foldl (fun S e=>if (bW key e).2.1 then gc S (bW key e).1 else S) S).Pairwise (fun a b=>vlC a b<0) /\
  ∀k,k∈l.foldl (fun S e=>if (bW key e).2.1 then gc S (bW key e).1 else S) S↔k∈S\/∃e,e∈l/\(bW key e).2.1=true/\(bW key e).1=k
 | [],S,h=>⟨h,fun k=>by simp⟩
 | e::l,S,h=>by
  rw[PR]
  by_cases hk:(bW key e).2.1=true
  ·rw[OG hk];obtain⟨Z,i2⟩:=wm key l _ (xU (v:=(bW key e).1) h);refine⟨Z,fun k=>?_⟩;rw[i2,rM];constructor
   ·rintro ((h|h)|⟨x,I,h1,J⟩)
    ·exact .inr ⟨e,OR ..,hk,h.symm⟩
    ·exact .inl h
    ·exact .inr ⟨x,OS _ I,h1,J⟩
   ·rintro (h|⟨x,I,h1,J⟩)
    ·exact .inl (.inr h)
    ·rcases List.mem_cons.1 I with rfl|I
     ·exact .inl (.inl J.symm)
     ·exact .inr ⟨x,I,h1,J⟩
  ·rw[OF hk];obtain⟨Z,i2⟩:=wm key l S h;refine⟨Z,fun k=>?_⟩;rw[i2];constructor
   ·rintro (h|⟨x,I,h1,J⟩)
    ·exact .inl h
    ·exact .inr ⟨x,OS _ I,h1,J⟩
   ·rintro (h|⟨x,I,h1,J⟩)
    ·exact .inl h
    ·rcases List.mem_cons.1 I with rfl|I
     ·exact absurd h1 hk
     ·exact .inr ⟨x,I,h1,J⟩
theorem kT(key:List Int)(l:List Evt):(dO key l).Pairwise (fun a b=>vlC a b<0)/\∀k,k∈dO key l↔∃e,e∈l/\(bW key e).2.1=true/\(bW key e).1=k:=by
 obtain⟨h1,h⟩:=wm key l [] List.Pairwise.nil;exact⟨h1,fun k=>by rw[show dO key l=l.foldl (fun S e=>if (bW key e).2.1 then gc S (bW key e).1 else S) [] from rfl,h];simp⟩
theorem J0(h1:S.Pairwise (fun a b=>vlC a b<0))(h:∀k,k∈S↔∃e,e∈l/\(bW key e).2.1=true/\(bW key e).1=k):S=dO key l :=
 Ih lM h1 (kT key l).1 fun k=>by rw[h,(kT key l).2]
theorem Kb:∀s∈eJ key l,s≠[]:=by
 intro s hs e;obtain⟨v,h,rfl⟩:=List.mem_map.1 hs;obtain⟨x,J,h1,I⟩:=((kT key l).2 v).1 h;have:x∈l.filter (dH key v):=List.mem_filter.2 ⟨J,by unfold dH;rw[h1,I,fE.2 rfl];rfl⟩;rw[e]at this;simp at this
theorem Bt(h:Eo l):(eJ key l).Pairwise zR:=by
 unfold eJ;rw[List.pairwise_map];refine (kT key l).1.imp fun {a b} hab=>uQ h fun e h1 I=>?_
 unfold dH at h1 I;rw[ON]at h1 I;have e1:=fE.1 h1.2;have J:=fE.1 I.2;have:a=b:=e1.symm.trans J;subst this;have:=lM.refl a;omega
end
theorem wE:∀a b:List UInt8,Lib.compareBytes a b=cW a b
 | [],[]=>rfl
 | [],_::_=>rfl
 | _::_,[]=>rfl
 | a::x,b::y=>by rw[Lib.compareBytes,cW,wE x y]
theorem qC:∀a b:List UInt8,cW a b=-1\/cW a b=0\/cW a b=1
 | [],[]=>by simp[cW]
 | [],_::_=>by simp[cW]
 | _::_,[]=>by simp[cW]
 | a::x,b::y=>by
  rw[cW]
  split
  ·simp
  ·split
   ·simp
   ·exact qC x y
theorem uba(h:p:=by
  subst hr;go_enter func260,ntmps260;go_wp2;go_ret;exact⟨rfl,OK _ _⟩):p:=h
theorem xM(a b:Int)(w:World):OE 260 #[OB a,OB b] w (OB (bC a b)):=by
 obtain⟨r,hr⟩:=jE (bC a b);rw[hr];unfold bC at hr
 by_cases h1:a<b
 ·rw[OG h1]at hr;exact uba
 ·rw[OF h1]at hr
  by_cases h:b<a
  ·rw[OG h]at hr;exact uba
  ·rw[OF h]at hr;exact uba
theorem ubb(h:p:=by
  clear I h J;go_enter func183,ntmps183;go_wp2;go_ret;exact⟨rfl,jB⟩):p:=h
theorem Eg(a b:Vl)(w:World):OE 183 #[vlV a,vlV b] w (OB (vlC a b)):=by
 have H1:=jD (fun W=>xM a.kind b.kind W);have H2:=jD (fun W=>xM a.num b.num W);obtain⟨r1,c'⟩:∃r,bC a.kind b.kind=r:=⟨_,rfl⟩;obtain⟨r2,a'⟩:∃r,bC a.num b.num=r:=⟨_,rfl⟩;obtain⟨R,hR⟩:=jF (vlC a b);have HR:Hid (R=if r1≠0 then r1 else if r2≠0 then r2 else cW a.text.toList b.text.toList):=jD (by rw[hR,<-c',<-a'];unfold vlC orI;by_cases e1:bC a.kind b.kind=0<;>by_cases e2:bC a.num b.num=0<;>simp[e1,e2]);have K1:Hid (a.kind=b.kind↔r1=0):=jD (by rw[<-c',iA]);have K2:Hid (a.num=b.num↔r2=0):=jD (by rw[<-a',iA]);rw[c']at H1;rw[a']at H2;rw[<-hR];clear hR c' a';obtain⟨ak,an,Z⟩:=a;obtain⟨bk,bn,ty⟩:=b;unfold vlV at *;simp only at *
 by_cases h1:ak=bk
 ·subst h1;have e1:r1=0:=K1.out.1 rfl;subst e1
  by_cases h2:an=bn
  ·subst h2;have e2:r2=0:=K2.out.1 rfl;subst e2;have I:=tL Z.toList ty.toList;have h:(Z.toList==ty.toList)=decide (cW Z.toList ty.toList=0):=by rw[Qc,OW,oY,Pa]
   obtain⟨q,hq⟩:=jE (cW Z.toList ty.toList);have HQ:q=-1\/q=0\/q=1:=by rw[<-hq];exact qC _ _
   have J:Hid (R=q):=jD (by rw[HR.out,<-hq];simp);rw[hq]at I h;clear HR H1 H2 K1 K2 hq;rcases HQ with rfl|rfl|rfl
   ·obtain rfl:R=-1:=J.out;have f':Op.bytesLess Z.toList ty.toList=true:=by rw[I];rfl
    have d':(Z.toList==ty.toList)=false:=by rw[h];rfl
    exact ubb
   ·obtain rfl:R=0:=J.out;have f':Op.bytesLess Z.toList ty.toList=false:=by rw[I];rfl
    have d':(Z.toList==ty.toList)=true:=by rw[h];rfl
    exact ubb
   ·obtain rfl:R=1:=J.out;have f':Op.bytesLess Z.toList ty.toList=false:=by rw[I];rfl
    have d':(Z.toList==ty.toList)=false:=by rw[h];rfl
    exact ubb
  ·have b2:(an==bn)=false:=jQ h2;have e2:r2≠0:=fun e=>h2 (K2.out.2 e)
   obtain rfl:R=r2:=by rw[HR.out];simp[e2]
   clear HR K1 K2 e2;go_enter func183,ntmps183;go_wp2_with fail;refine (H2.out _).mono ?_;rintro e w1 ⟨rfl,g'⟩;go_wp2;go_ret;exact⟨rfl,jB⟩
 ·have b1:(ak==bk)=false:=jQ h1;have e1:r1≠0:=fun e=>h1 (K1.out.2 e)
  obtain rfl:R=r1:=by rw[HR.out];simp[e1]
  clear HR K1 K2 e1;go_enter func183,ntmps183;go_wp2_with fail;refine (H1.out _).mono ?_;rintro e w1 ⟨rfl,g'⟩;go_wp2;go_ret;exact⟨rfl,jB⟩
theorem zM(a b:ByteArray)(w:World):Calls prog 247 #[.string a,.string b] w fun e w'=>e=.returned (OB (cW a.toList b.toList))/\Gr w w':=by
 obtain⟨r,hr⟩:=jE (cW a.toList b.toList);rw[hr];have h:Lib.compareBytes a.data.toList b.data.toList=r:=by rw[wE,<-hr,Rh,Rh]
 clear hr;go_enter func247,ntmps247;go_wp2;rw[run_callFunc_extern func304 kr kr kr (e:=Extern.BytealgCompare.compare) kr,Lib.run_compareString];simp only[Result.andThen];rw[Oper.upon_value,h];go_wp2;go_ret;exact⟨rfl,Gr.refl _⟩
theorem D1(a b:ByteArray)(w:World):Calls prog 174 #[.string a,.string b] w fun e w'=>e=.returned (OB (cW a.toList b.toList))/\Gr w w':=by
 have h:=jD (fun W=>zM a b W);obtain⟨r,hr⟩:=jE (cW a.toList b.toList);rw[hr]at h ⊢;clear hr;go_enter func174,ntmps174;go_wp2_with fail;refine (h.out _).mono ?_;rintro e J ⟨rfl,I⟩;exact fi I
theorem ube(h:p:=by
  go_wp2_with fail;refine (h.out _).mono ?_;rintro e Z ⟨rfl,rfl⟩;go_wp2;go_ret;exact⟨rfl,jC⟩):p:=h
theorem FJ(a b:Vl)(w:World):Calls prog 172 #[vlV a,vlV b] w fun e w'=>e=.returned (OB (bC a.kind b.kind))/\Gr w w':=by
 have h:=jD (fun W=>ge a.kind b.kind W);obtain⟨r,hr⟩:=jE (bC a.kind b.kind);rw[hr]at h ⊢;clear hr;obtain⟨I,J,tx⟩:=a;obtain⟨bk,bn,ty⟩:=b;unfold vlV;simp only at h ⊢;go_enter func172,ntmps172;exact ube
theorem Hk(a b:Vl)(w:World):Calls prog 173 #[vlV a,vlV b] w fun e w'=>e=.returned (OB (bC a.num b.num))/\Gr w w':=by
 have h:=jD (fun W=>ge a.num b.num W);obtain⟨r,hr⟩:=jE (bC a.num b.num);rw[hr]at h ⊢;clear hr;obtain⟨I,J,tx⟩:=a;obtain⟨bk,bn,ty⟩:=b;unfold vlV;simp only at h ⊢;go_enter func173,ntmps173;exact ube
theorem KK(a b:Vl)(w:World):Calls prog 106 #[vlV a,vlV b] w fun e w'=>e=.returned (OB (vlC a b))/\Gr w w':=by
 have H1:=jD (fun W=>FJ a b W);have H2:=jD (fun W=>Hk a b W);have H3:=jD (fun W=>D1 a.text b.text W);obtain⟨r1,d'⟩:∃r,bC a.kind b.kind=r:=⟨_,rfl⟩;obtain⟨r2,a'⟩:∃r,bC a.num b.num=r:=⟨_,rfl⟩;obtain⟨r3,f'⟩:∃r,cW a.text.toList b.text.toList=r:=⟨_,rfl⟩;obtain⟨R,hR⟩:=jF (vlC a b);have HR:Hid (R=if r1≠0 then r1 else if r2≠0 then r2 else r3):=jD (by rw[hR,<-d',<-a',<-f'];unfold vlC orI;by_cases e1:bC a.kind b.kind=0<;>by_cases e2:bC a.num b.num=0<;>simp[e1,e2]);rw[d']at H1;rw[a']at H2;rw[f']at H3;rw[<-hR];clear hR d' a' f';obtain⟨ak,an,tx⟩:=a;obtain⟨bk,bn,ty⟩:=b;unfold vlV at *;simp only at *;go_enter func106,ntmps106;go_wp2;refine bV fun J e1=>?_
 have y0:OC J w.heap.size 0 (OB ak):=jG e1;have y1:OC J w.heap.size 1 (OB an):=jG e1;have y2:OC J w.heap.size 2 (.string tx):=jG e1;have z0:OC J (w.heap.size+1) 0 (OB bk):=jG e1;have z1:OC J (w.heap.size+1) 1 (OB bn):=jG e1;have z2:OC J (w.heap.size+1) 2 (.string ty):=jG e1;have t0:OC J (w.heap.size+2) 0 (.func (.func 172) #[] #[]):=jG e1;have t1:OC J (w.heap.size+2) 1 (.func (.func 173) #[] #[]):=jG e1;have c':Hid (Gr w J):=jD (by rw[e1];exact jC);clear e1
 go_loopw [10] (fun i wr=>∃k:Nat,k<=2/\i=OB k/\Hid ((1<=k->r1=0)/\(2<=k->r2=0)/\Gr J wr)) (fun i _=>2-(intOf i).toNat)
 case atStart=>exact⟨0,by omega,rfl,jD ⟨by omega,by omega,Gr.refl _⟩⟩
 case round =>
  obtain⟨k,hk,rfl,hi⟩:=hrel;have Z:=hi.out.2.2.below;replace y0:=aa Z y0;replace y1:=aa Z y1;replace y2:=aa Z y2;replace z0:=aa Z z0;replace z1:=aa Z z1;replace z2:=aa Z z2;replace t0:=aa Z t0;replace t1:=aa Z t1;clear Z
  match k,hk with
  | 0,_ =>
   go_wp2_with fail;refine (H1.out _).mono ?_;rintro e w2 ⟨rfl,I⟩
   by_cases h0:r1=0
   ·subst h0;go_wp2_with fail
    go_roundw
    case rel=>exact⟨1,by omega,rfl,jD ⟨by simp,by omega,hi.out.2.2.trans I⟩⟩
    case measure=>simp[intOf]
   ·have b0:(r1==0)=false:=jQ h0;obtain rfl:R=r1:=by rw[HR.out,OG h0]
    clear HR;go_wp2;go_ret;exact⟨rfl,c'.out.trans (hi.out.2.2.trans I)⟩
  | 1,_ =>
   obtain rfl:=hi.out.1 om;go_wp2_with fail;refine (H2.out _).mono ?_;rintro e w2 ⟨rfl,I⟩
   by_cases h0:r2=0
   ·subst h0;go_wp2_with fail
    go_roundw
    case rel=>exact⟨2,by omega,rfl,jD ⟨by simp,by simp,hi.out.2.2.trans I⟩⟩
    case measure=>simp[intOf]
   ·have b0:(r2==0)=false:=jQ h0;obtain rfl:R=r2:=by rw[HR.out,OF jS,OG h0]
    clear HR;go_wp2;go_ret;exact⟨rfl,c'.out.trans (hi.out.2.2.trans I)⟩
  | 2,_ =>
   obtain rfl:=hi.out.1 om;obtain rfl:=hi.out.2.1 om;obtain rfl:R=r3:=by rw[HR.out];simp
   clear HR;go_wp2_with fail;refine (H3.out _).mono ?_;rintro e w2 ⟨rfl,I⟩;go_wp2;go_ret;exact⟨rfl,c'.out.trans (hi.out.2.2.trans I)⟩
  | k+3,h=>exact absurd h om
end Go.Proofs.YteemngnialjaiaaGreatDoor
