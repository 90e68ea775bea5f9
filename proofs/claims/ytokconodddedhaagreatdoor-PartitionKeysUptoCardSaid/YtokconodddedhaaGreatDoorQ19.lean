/- Part. -/
import Derived.Test.YtokconodddedhaaGreatDoorQ14
import Derived.Test.YtokconodddedhaaGreatDoorQ18
import Derived.Lib.SlicesCompact
import Derived.Lib.AppendZerosOnto
import Derived.Sort.OwnSortedInts
set_option maxRecDepth 100000
set_option maxHeartbeats 16000000
set_option linter.unusedVariables false
set_option linter.unusedSimpArgs false
namespace Go.Proofs.YtokconodddedhaaGreatDoor
open Go.Proofs.Tryz Go.RowKit
theorem pw {α:Type} [DecidableEq α]:∀{l m:List α},l.Nodup->(∀x∈l,x∈m)->l.length<=m.length
 | [],_,_,_=>Lb _
 | a::l,m,hl,h=>by
  rw[List.nodup_cons]at hl;have D:=h a (Lg ..);have G:=pw (l:=l) (m:=m.erase a) hl.2 (fun x F=>by
   have z:=h x (Lh _ F);exact (List.mem_erase_of_ne (fun e=>hl.1 (by rw[<-e];exact F))).2 z)
  rw[List.length_erase_of_mem D]at G;have:=List.length_pos_of_mem D;rw[Lt];omega
def qg (V:List Int):Nat->List Bs
 | 0=>[[]]
 | n+1=>(qg V n).flatMap fun s=>s::V.map fun v=>s++[(v,n)]
theorem tK (V:List Int):∀n,(qg V n).length=(V.length+1)^n
 | 0=>rfl
 | n+1=>by
  rw[qg,List.length_flatMap,Nat.pow_succ,<-tK V n];generalize qg V n=L
  induction L with
  | nil=>simp
  | cons a L h=>simp only[LF,MB,Lt,Lm]at h ⊢;rw[h,Nat.add_mul];omega
theorem nj (V:List Int):∀(n:Nat) (s:Bs),s.Pairwise (fun x y=>x.2<y.2)->(∀x∈s,x.2<n/\x.1∈V)->s∈qg V n
 | 0,s,_,h=>by
  have:s=[]:=List.eq_nil_iff_forall_not_mem.2 fun x z=>by have:=(h x z).1;omega
  subst this;simp[qg]
 | n+1,s,hp,h=>by
  rw[qg,L2]
  by_cases O:∃v,(v,n)∈s
  ·obtain⟨v,J⟩:=O;have F:s≠[]:=List.ne_nil_of_mem J;have D:s.getLast F=(v,n):=by
    obtain⟨k,hk,he⟩:=MK J;rw[List.getLast_eq_getElem F];rcases LY k (s.length-1) with G|G
    ·have:=List.pairwise_iff_getElem.1 hp k (s.length-1) hk om G;rw[he]at this;have:=(h _ (Nd (show s.length-1<s.length by omega))).1;simp only at *;omega
    ·have:k=s.length-1:=by omega
     subst this;exact he
   have hs:s=s.dropLast++[(v,n)]:=by rw[<-D,List.dropLast_concat_getLast]
   refine⟨s.dropLast,nj V n _ (hp.sublist (List.dropLast_sublist s)) fun x z=>?_,?_⟩
   ·have I:=List.dropLast_subset s z;refine⟨?_,(h x I).2⟩;rw[hs,Np]at hp;exact hp.2.2 x z (v,n) (List.mem_singleton.2 rfl)
   ·exact Lh _ (List.mem_map.2 ⟨v,(h _ J).2,hs.symm⟩)
  ·refine⟨s,nj V n s hp fun x z=>⟨?_,(h x z).2⟩,Lg ..⟩;have G:=(h x z).1;rcases LY x.2 n with Z|Z
   ·exact Z
   ·exfalso
    refine O ⟨x.1,?_⟩;have e:n=x.2:=by omega
    rw[e];exact z
mutual
def evV:Pt->List Int
 | .mk o h _ vr _ _ _=>(if o=0 then [vr] else [])++ga h
def ga:List Pt->List Int
 | []=>[]
 | a::r=>evV a++ga r
end
def VarF (V:List Int) (f:Fnd):Prop:=∀b i s,s∈f b i->∀x∈s,x.1∈V
theorem VarF.mono {V W:List Int} {f:Fnd} (h:VarF V f) (hs:∀v∈V,v∈W):VarF W f:=fun b i s hm x z=>hs _ (h b i s hm x z)
theorem AN {V:List Int}:∀{fs:List Fnd},(∀f∈fs,VarF V f)->VarF V (jI fs)
 | [],_=>fun b i s hs=>by rw[jI]at hs;simp at hs
 | f::r,h=>fun b i s hs=>by
  have hf:=h f (Lg ..);have hr:=AN (fs:=r) fun g D=>h g (Lh _ D)
  rw[jI]at hs
  split at hs
  ·exact hf b i s hs
  ·rw[bI,L2]at hs;obtain⟨y,hy,hs⟩:=hs;obtain⟨t,F,rfl⟩:=List.mem_map.1 hs;intro x z;rcases (cP _ _ _).1 z with z|z
   ·exact hf b i y hy x z
   ·exact hr _ _ t F x z
theorem su {V:List Int}:∀{ps:List (List Bs)} {out:List Bs},(∀s∈out,∀x∈s,x.1∈V)->(∀p∈ps,∀s∈p,∀x∈s,x.1∈V)->∀s∈ps.foldl kj out,∀x∈s,x.1∈V
 | [],_,ho,_=>ho
 | p::ps,out,ho,hp=>by
  rw[Ms];refine su (fun s hs=>?_) fun q hq=>hp q (Lh _ hq)
  unfold kj at hs;rw[bI,L2]at hs;obtain⟨y,hy,hs⟩:=hs;obtain⟨t,z,rfl⟩:=List.mem_map.1 hs;rw[MR]at z;intro x h;rcases (cP _ _ _).1 h with h|h
  ·exact ho y hy x h
  ·exact hp p (Lg ..) t z.1 x h
theorem xt {V:List Int} {f:Fnd} (h:VarF V f):∀k,VarF V (jg f k)
 | 0=>fun b i s hs=>by rw[jg]at hs;simp at hs
 | k+1=>fun b i s hs=>by
  rw[jg,bI,L2]at hs;obtain⟨y,hy,hs⟩:=hs;rcases List.mem_cons.1 hs with rfl|hs
  ·exact h b i s hy
  ·obtain⟨t,D,rfl⟩:=List.mem_map.1 hs;intro x z;rcases (cP _ _ _).1 z with z|z
   ·exact h b i y hy x z
   ·exact xt h k _ _ t D x z
theorem Ge {V:List Int} {fs:List Fnd} (h:∀f∈fs,VarF V f):VarF V (hdF fs):=by
 cases fs with
 | nil=>exact fun b i s hs=>by simp[hdF]at hs
 | cons f fs=>exact h f (Lg ..)
mutual
theorem uk (l:List Evt):∀p,VarF (evV p) (iU l p)
 | .mk o h ty vr F sp c=>by
  have hL:∀f∈cY l h,VarF (evV (.mk o h ty vr F sp c)) f:=fun f hf=>(xJ l h f hf).mono fun v G=>by rw[evV];exact Nf _ G
  rw[iU]
  split
  ·next h0 =>
   intro b i s hs x z;unfold eJ at hs;obtain⟨k,_,rfl⟩:=List.mem_map.1 hs;rw[Lz]at z;subst z;rw[evV,K7 h0];simp
  ·split
   ·exact AN hL
   ·split
    ·intro b i s hs;unfold rq at hs;rw[bI,L2]at hs;obtain⟨f,hf,hs⟩:=hs;exact hL f hf b i s hs
    ·split
     ·intro b i s hs
      revert hs hL
      cases cY l h with
      | nil=>intro _ hs;rw[nJ]at hs;simp at hs
      | cons f fs =>
       intro hL hs;rw[nJ]at hs;refine su (fun s hs=>hL f (Lg ..) b i s hs) (fun p hp s hs=>?_) s hs;obtain⟨g,D,rfl⟩:=List.mem_map.1 hp;exact hL g (Lh _ D) b i s hs
     ·split
      ·exact xt (Ge hL) _
      ·exact fun b i s hs=>Ge hL b i s (List.mem_filter.1 hs).1
theorem xJ (l:List Evt):∀z,∀f∈cY l z,VarF (ga z) f
 | [],f,hf=>by rw[cY]at hf;simp at hf
 | a::r,f,hf=>by
  rw[cY]at hf;rcases List.mem_cons.1 hf with rfl|hf
  ·exact (uk l a).mono fun v h=>by rw[ga];exact List.mem_append_left _ h
  ·exact (xJ l r f hf).mono fun v h=>by rw[ga];exact Nf _ h
end
theorem Jf (l:List Evt) (p:Pt) (b:Bs) (i:Nat) {L:List Bs} (D:L.Nodup) (hL:∀s∈L,s∈iU l p b i):L.length<=((evV p).length+1)^l.length:=by
 rw[<-tK (evV p) l.length];refine pw D fun s hs=>?_
 have h:=rE l p b i s (hL s hs);exact nj _ _ s h.2.1 fun x z=>⟨(h.2.2 x z).2,uk l p b i s (hL s hs) x z⟩
theorem D5 (l:List Bs) (s:Bs):(eA l s).length<=l.length+1:=by
 unfold eA
 split
 ·omega
 ·rw[Le,Lo];omega
theorem nh (l:List Bs):(bd l).length<=l.length:=by
 have:∀(l o:List Bs),(l.foldl eA o).length<=o.length+l.length:=fun l=>by
  induction l with
  | nil=>intro o;simp
  | cons a l h=>intro o;rw[Ms,Lt];have:=h (eA o a);have:=D5 o a;omega
 have:=this l []
 simpa [bd] using this
theorem pZ {α β:Type} {f:α->List β} {m:Nat}:∀(l:List α),(∀x∈l,(f x).length<=m)->(l.flatMap f).length<=l.length*m
 | [],_=>by simp
 | a::l,h=>by
  have D:=h a (Lg ..);have F:=pZ l fun x z=>h x (Lh _ z)
  rw[Mk,Le,Lt,Nat.add_mul,Nat.one_mul];omega
def fN (n v:Nat):Nat:=if v=0 then 0 else n^v
theorem BL {n v:Nat} (h:2<=n) (z:v≠0):2<=n^v:=by
 obtain⟨k,rfl⟩:∃k,v=k+1:=⟨v-1,by omega⟩;rw[Nat.pow_succ];have:1<=n^k:=by have:=NL (show 1<=n by omega) k;rwa [Nat.one_pow]at this
 calc 2<=1*n:=by omega
  _<=n^k*n:=Nat.mul_le_mul_right n this
theorem ub (n a b:Nat):fN n a*fN n b<=fN n (a+b):=by
 unfold fN
 by_cases h:a=0
 ·rw[K7 h,My];exact Lb _
 by_cases z:b=0
 ·rw[K7 z,Nat.mul_zero];exact Lb _
 rw[K6 h,K6 z,K6 om,Nat.pow_add];exact Ld _
theorem BO {n:Nat} (F:2<=n) (a b:Nat):fN n a+fN n b<=fN n (a+b):=by
 by_cases z:a=0
 ·subst z;unfold fN;rw[K7 rfl,Lu,Lu];exact Ld _
 by_cases D:b=0
 ·subst D;unfold fN;rw[K7 (c:=(0:Nat)=0) rfl,Mc,Mc];exact Ld _
 refine Lf ?_ (ub n a b);unfold fN;rw[K6 z,K6 D];have G:=BL F z;have I:=BL F D;generalize n^a=x at *;generalize n^b=y at *;have:=Nat.mul_le_mul G (Ld y);have J:=Nat.mul_le_mul (Ld x) I;have O:x*y=x*y:=rfl;rcases Nat.le_total x y with h|h
 ·omega
 ·omega
theorem ki {n:Nat} (h:2<=n) (a b:Nat):fN n a<=fN n (a+b):=by have:=BO h a b;omega
def CA (m:Nat) (f:Fnd):Prop:=∀b i,(f b i).length<=m
mutual
def kW:Pt->Bool
 | .mk o h _ _ _ _ _=>decide (o=4) || jO h
def jO:List Pt->Bool
 | []=>false
 | a::r=>kW a || jO r
end
def yb (n:Nat):List Fnd->List Nat->Prop
 | [],[]=>True
 | f::fs,v::vs=>CA (fN n v) f/\yb n fs vs
 | _,_=>False
theorem AX {n:Nat} (z:2<=n):∀{fs:List Fnd} {vs:List Nat},yb n fs vs->CA (fN n vs.sum) (jI fs)
 | [],[],_=>fun b i=>by rw[jI];exact Lb _
 | [],_::_,h=>h.elim
 | _::_,[],h=>h.elim
 | f::r,v::vs,h=>fun b i=>by
  have D:=AX z h.2;rw[MB,jI]
  split
  ·exact Lf (h.1 b i) (ki z _ _)
  ·refine Lf (nh _) (Lf (pZ (m:=fN n vs.sum) _ fun s _=>by rw[Lm];exact D _ _) ?_);exact Lf (Nat.mul_le_mul_right _ (h.1 b i)) (ub n v vs.sum)
theorem IZ {n:Nat} (z:2<=n) {fs:List Fnd} {vs:List Nat} (h:yb n fs vs):CA (fN n vs.sum) (rq fs):=fun b i=>by
 have:∀{fs:List Fnd} {vs:List Nat},yb n fs vs->(fs.flatMap fun f=>f b i).length<=fN n vs.sum:=fun {fs}=>by
  induction fs with
  | nil=>intro vs h;exact Lb _
  | cons f fs D =>
   intro vs h
   cases vs with
   | nil=>exact h.elim
   | cons v vs =>
    rw[Mk,Le,MB];have F:=h.1 b i;have G:=D h.2;have:=BO z v vs.sum;omega
 exact Lf (nh _) (this h)
theorem Fn (out s:List Bs):(kj out s).length<=out.length*s.length:=by
 refine Lf (nh _) (pZ _ fun x _=>?_);rw[Lm];exact MH _ _
theorem sx {n:Nat} {b:Bs} {i:Nat}:∀{fs:List Fnd} {vs:List Nat} {out:List Bs} {v:Nat},yb n fs vs->out.length<=fN n v->((fs.map fun g=>g b i).foldl kj out).length<=fN n (v+vs.sum)
 | [],[],out,v,_,ho=>jQ ho
 | [],_::_,_,_,h,_=>h.elim
 | _::_,[],_,_,h,_=>h.elim
 | f::fs,w::vs,out,v,h,ho=>by
  rw[LF,Ms,MB,<-LJ];refine sx h.2 (Lf (Fn _ _) (Lf (Nat.mul_le_mul ho (h.1 b i)) (ub n v w)))
theorem Hx {n:Nat} {fs:List Fnd} {vs:List Nat} (h:yb n fs vs):CA (fN n vs.sum) (nJ fs):=fun b i=>by
 cases fs with
 | nil=>rw[nJ];exact Lb _
 | cons f fs =>
  cases vs with
  | nil=>exact h.elim
  | cons v vs =>
   rw[nJ,MB];exact sx h.2 (h.1 b i)
theorem JK {n:Nat} (z:2<=n) {fs:List Fnd} {vs:List Nat} (h:yb n fs vs):CA (fN n vs.sum) (hdF fs):=fun b i=>by
 cases fs with
 | nil=>exact Lb _
 | cons f fs =>
  cases vs with
  | nil=>exact h.elim
  | cons v vs=>rw[MB];exact Lf (h.1 b i) (ki z _ _)
theorem wG:∀h:List Pt,(ga h).length=(h.map fun a=>(evV a).length).sum
 | []=>by rw[ga];rfl
 | a::r=>by rw[ga,Le,wG r,LF,MB]
mutual
theorem BG (l:List Evt) (h:2<=l.length):∀p,kW p=false->CA (fN l.length (evV p).length) (iU l p)
 | .mk o ar ty vr sc sp c,hit=>by
  rw[kW,LT]at hit;have F:=of_decide_eq_false hit.1;have hL:=yi l h ar hit.2;have z:fN l.length (ga ar).length<=fN l.length (evV (.mk o ar ty vr sc sp c)).length:=by
   rw[evV,Le,Nb];exact ki h _ _
  rw[wG]at z;rw[iU]
  split
  ·next h0 =>
   intro b i;have D:(eJ l ty vr c b i).length<=l.length:=by
    unfold eJ;rw[Lm];refine Lf (MH _ _) ?_;rw[List.length_range];exact Ld _
   refine Lf D ?_;rw[evV,K7 h0,Le,Lo];refine Lf ?_ (ki h 1 _);unfold fN;rw[K6 dc,Nat.pow_one];exact Ld _
  ·split
   ·exact fun b i=>Lf (AX h hL b i) z
   ·split
    ·exact fun b i=>Lf (IZ h hL b i) z
    ·split
     ·exact fun b i=>Lf (Hx hL b i) z
     ·exact fun b i=>Lf (MH _ _) (Lf (JK h hL b i) z)
theorem yi (l:List Evt) (z:2<=l.length):∀h,jO h=false->yb l.length (cY l h) (h.map fun a=>(evV a).length)
 | [],_=>by rw[cY];trivial
 | a::r,hit=>by
  rw[jO,LT]at hit;rw[cY,LF];exact⟨BG l z a hit.1,yi l z r hit.2⟩
end
def bOf (l:List Evt) (x:Int × Nat):Bnd:=⟨x.1,((l[x.2]?).getD BQ).tm,((l[x.2]?).getD BQ).src,((l[x.2]?).getD BQ).sq⟩
def mOf (l:List Evt) (s:Bs):List Bnd:=s.map (bOf l)
def D3 (l:List Evt):Prop:=l.Pairwise fun a b=>bJ (bK a) (bK b)<0
theorem I7 {l:List Evt} (h:D3 l) {x y:Int × Nat} (D:x.2<l.length) (hy:y.2<l.length) (e:bOf l x=bOf l y):x=y:=by
 unfold bOf at e;rw[K9 D,K9 hy]at e;simp only[M4,Bnd.mk.injEq]at e;obtain⟨G,I,J,F⟩:=e;have hr:bJ (bK l[x.2]) (bK l[y.2])=0:=lq.2 ⟨I,J,F⟩;have hk:x.2=y.2:=by
  rcases Nat.lt_trichotomy x.2 y.2 with z|z|z
  ·have:=List.pairwise_iff_getElem.1 h x.2 y.2 D hy z;omega
  ·exact z
  ·have:=List.pairwise_iff_getElem.1 h y.2 x.2 hy D z;have:=it.anti (bK l[x.2]) (bK l[y.2]);omega
 exact Prod.ext G hk
theorem BN {l:List Evt} (h:D3 l):∀{s t:Bs},(∀x∈s,x.2<l.length)->(∀x∈t,x.2<l.length)->mOf l s=mOf l t->s=t
 | [],[],_,_,_=>rfl
 | [],_::_,_,_,e=>by simp[mOf]at e
 | _::_,[],_,_,e=>by simp[mOf]at e
 | x::s,y::t,hs,ht,e=>by
  simp only[mOf,LF,LS]at e;rw[I7 h (hs x (Lg ..)) (ht y (Lg ..)) e.1,BN h (fun z D=>hs z (Lh _ D)) (fun z D=>ht z (Lh _ D)) e.2]
theorem mX {α β:Type} {f:α->β}:∀{l:List α},l.Nodup->(∀x∈l,∀y∈l,f x=f y->x=y)->(l.map f).Nodup
 | [],_,_=>by simp
 | a::l,h,hf=>by
  rw[List.nodup_cons]at h;rw[LF,List.nodup_cons];refine⟨fun hm=>?_,mX h.2 fun x z y hy=>hf x (Lh _ z) y (Lh _ hy)⟩;obtain⟨y,hy,e⟩:=List.mem_map.1 hm;exact h.1 (hf y (Lh _ hy) a (Lg ..) e▸hy)
def fT (l:List Evt) (p:Pt):List (List Bnd):=iK ((iU l p [] 0).map (mOf l))
theorem Ad (l:List Evt) {p:Pt} (h:okA p=true):iK ((bN l p [] 0).map (mOf l))=fT l p :=
 xj (fS _).1 fun k=>by
  rw[(fS _).2,List.mem_map,List.mem_map];constructor
  ·rintro⟨s,hs,rfl⟩;exact⟨s,(qQ l p h [] 0 s).1 hs,rfl⟩
  ·rintro⟨s,hs,rfl⟩;exact⟨s,(qQ l p h [] 0 s).2 hs,rfl⟩
def ei (p:Pt) (ps:List (List Evt)):List (List Bnd):=ps.flatMap fun s=>fT s p
theorem Cx {l:List (List Bnd)} (h:l.Pairwise fun a b=>bsC a b<0):l.Nodup:=h.imp fun {a b} h e=>by subst e;have:=jc.anti a a;omega
theorem sy {l:List Evt} {p:Pt} {m:List Bnd} (h:m∈fT l p):∃s,s∈iU l p [] 0/\m=mOf l s/\SetOk 0 l.length s:=by
 obtain⟨s,hs,rfl⟩:=List.mem_map.1 (((fS _).2 m).1 h);exact⟨s,hs,rfl,rE l p [] 0 s hs⟩
theorem zM {l k:List Evt} {p:Pt} {m:List Bnd} (F:m∈fT l p) (G:m∈fT k p):∃a,a∈l/\∃b,b∈k/\bJ (bK a) (bK b)=0:=by
 obtain⟨s,_,rfl,hs⟩:=sy F;obtain⟨t,_,e,z⟩:=sy G
 match s,t,hs,z,e with
 | [],_,hs,_,_=>exact absurd rfl hs.1
 | _::_,[],_,z,_=>exact absurd rfl z.1
 | x::s,y::t,hs,z,e =>
  simp only[mOf,LF,LS]at e;have D:=(hs.2.2 x (Lg ..)).2;have hy:=(z.2.2 y (Lg ..)).2;have h:=e.1;unfold bOf at h;rw[K9 D,K9 hy]at h;simp only[M4,Bnd.mk.injEq]at h;exact⟨l[x.2],Nd D,k[y.2],Nd hy,lq.2 ⟨h.2.1,h.2.2.1,h.2.2.2⟩⟩
def zZ (l k:List Evt):Prop:=∀a∈l,∀b∈k,bJ (bK a) (bK b)≠0
theorem oQ (p:Pt):∀ps:List (List Evt),ps.Pairwise zZ->(ei p ps).Nodup
 | [],_=>by simp[ei]
 | s::ps,h=>by
  rw[MZ]at h;have I:=oQ p ps h.2;unfold ei at *;rw[Mk,List.nodup_append];refine⟨Cx (fS _).1,I,fun a D b z e=>?_⟩;subst e;obtain⟨t,G,z⟩:=List.mem_flatMap.1 z;obtain⟨x,F,y,hy,e⟩:=zM D z;exact h.1 t G x F y hy e
theorem uQ {l:List Evt} (h:D3 l) {q r:Evt->Bool} (F:∀e,q e=true->r e=true->False):zZ (l.filter q) (l.filter r):=by
 intro a D b I e;rw[MR]at D I;have G:a=b:=by
  obtain⟨i,O,rfl⟩:=MK D.1;obtain⟨j,J,rfl⟩:=MK I.1;rcases Nat.lt_trichotomy i j with z|z|z
  ·have:=List.pairwise_iff_getElem.1 h i j O J z;omega
  ·subst z;rfl
  ·have:=List.pairwise_iff_getElem.1 h j i J O z;have:=it.anti (bK l[i]) (bK l[j]);omega
 subst G;exact F a D.2 I.2
def cZ:List UInt8->List UInt8->Int
 | [],[]=>0
 | [],_::_=>-1
 | _::_,[]=>1
 | a::x,b::y=>if a<b then -1 else if b<a then 1 else cZ x y
theorem sS:∀a b:List UInt8,Op.bytesLess a b=decide (cZ a b<0)
 | [],[]=>by simp[Op.bytesLess,cZ]
 | [],_::_=>by simp[Op.bytesLess,cZ]
 | _::_,[]=>by simp[Op.bytesLess,cZ]
 | a::x,b::y=>by
  have D:=sS x y;rw[Op.bytesLess,cZ,D]
  by_cases h:a<b
  ·simp[h]
  ·by_cases z:b<a
   ·have:a≠b:=fun e=>by subst e;exact h z
    simp[h,z,this]
   ·have:a=b:=UInt8.le_antisymm (UInt8.not_lt.1 z) (UInt8.not_lt.1 h);simp[this]
theorem pu:∀{a b:List UInt8},cZ a b=0↔a=b
 | [],[]=>by simp[cZ]
 | [],_::_=>by simp[cZ]
 | _::_,[]=>by simp[cZ]
 | a::x,b::y=>by
  rw[cZ]
  by_cases h:a<b
  ·rw[K7 h];have:a≠b:=fun e=>by subst e;exact absurd h (UInt8.lt_irrefl a)
   simp[this]
  ·by_cases z:b<a
   ·rw[K6 h,K7 z];have:a≠b:=fun e=>by subst e;exact h z
    simp[this]
   ·have:a=b:=UInt8.le_antisymm (UInt8.not_lt.1 z) (UInt8.not_lt.1 h);rw[K6 h,K6 z,pu,this];simp
theorem te:∀a b:List UInt8,cZ b a=- cZ a b
 | [],[]=>by simp[cZ]
 | [],_::_=>by simp[cZ]
 | _::_,[]=>by simp[cZ]
 | a::x,b::y=>by
  rw[cZ,cZ]
  by_cases z:a<b
  ·have D:¬b<a:=fun h=>UInt8.lt_irrefl a (UInt8.lt_trans z h)
   rw[K6 D,K7 z,K7 z];rfl
  ·by_cases D:b<a
   ·rw[K7 D,K6 z,K7 D]
   ·rw[K6 z,K6 D,K6 D,K6 z,te x y]
theorem Bh:∀a b c:List UInt8,cZ a b<0->cZ b c<0->cZ a c<0
 | _,[],[],_,h=>by simp[cZ]at h
 | [],[],_::_,h,_=>by simp[cZ]at h
 | _::_,[],_::_,h,_=>by simp[cZ]at h
 | [],_::_,[],_,h=>by simp[cZ]at h
 | [],_::_,_::_,_,_=>by simp[cZ]
 | _::_,_::_,[],_,h=>by simp[cZ]at h
 | a::x,b::y,c::z,h1,h2=>by
  rw[cZ]at h1 h2 ⊢
  by_cases D:a<b
  ·by_cases F:b<c
   ·rw[K7 (UInt8.lt_trans D F)];decide
   ·by_cases J:c<b
    ·rw[K6 F,K7 J]at h2;exact absurd h2 dc
    ·have:b=c:=UInt8.le_antisymm (UInt8.not_lt.1 J) (UInt8.not_lt.1 F);subst this;rw[K7 D];decide
  ·by_cases I:b<a
   ·rw[K6 D,K7 I]at h1;exact absurd h1 dc
   ·have:a=b:=UInt8.le_antisymm (UInt8.not_lt.1 I) (UInt8.not_lt.1 D);subst this;rw[K6 D,K6 I]at h1
    by_cases G:a<c
    ·rw[K7 G];decide
    ·by_cases O:c<a
     ·rw[K6 G,K7 O]at h2;exact absurd h2 dc
     ·rw[K6 G,K6 O]at h2 ⊢;exact Bh x y z h1 h2
def vlC (a b:Vl):Int:=orI (orI (bL a.kind b.kind) (bL a.num b.num)) (cZ a.text.toList b.text.toList)
theorem Gt {a b:Vl}:vlC a b=0↔a.kind=b.kind/\a.num=b.num/\a.text.toList=b.text.toList:=by
 unfold vlC;rw[gJ,gJ,ii,ii,pu,and_assoc]
theorem KP {a b:Vl}:cC a b=decide (vlC a b=0):=by
 rw[LW,Ly,Gt];simp[cC]
def cF (key:List Int) (e:Evt):Vl × Bool × Int :=
 if key.length=0 then (au,true,0) else if e.ty<0\/(key.length:Int)<=e.ty then (au,false,1)
 else if key.getD e.ty.toNat 0 < -1\/(e.vals.length:Int)<=key.getD e.ty.toNat 0 then (au,false,2)
 else if key.getD e.ty.toNat 0=-1 then (au,false,0) else (e.vals.getD (key.getD e.ty.toNat 0).toNat au,true,0)
def gO (key:List Int) (v:Vl) (e:Evt):Bool:=(cF key e).2.1&&cC (cF key e).1 v
def dF (l:List Vl) (v:Vl):List Vl:=match l with
 | []=>[v]
 | x::r=>if vlC x v<0 then x::dF r v else if cC x v then x::r else v::x::r
def cT (key:List Int) (l:List Evt):List Vl:=l.foldl (fun S e=>if (cF key e).2.1 then dF S (cF key e).1 else S) []
def dw (key:List Int) (l:List Evt):List (List Evt):=(cT key l).map fun v=>l.filter (gO key v)
def nF (key:List Int) (l:List Evt):Int:=if bC l≠0 then bC l else dB (fun _ e=>(cF key e).2.2) none l
def unI (a b:List Int):List Int:=((List.range 16).map fun (v:Nat)=>(v:Int)).filter fun v=>a.contains v || b.contains v
def bB (p:Pt):List Int:=unI (evV p) []
mutual
def aS:Pt->List Int
 | .mk o l _ v _ _ _=>if o=2\/o=4 then [] else if o=0 then [v] else gN [] l
def gN (out:List Int):List Pt->List Int
 | []=>out
 | a::r=>gN (unI out (aS a)) r
end
theorem xg (x:Pt):aS x=if x.op=2\/x.op=4 then [] else if x.op=0 then [x.vr] else gN [] x.args:=by cases x;rw[aS];rfl
structure Plc where
 us:List Int
 si:List Int
 fb:Int
def mo:Plc:=⟨[],[],-1⟩
def hdP (l:List Pt):Pt:=l.headD (.mk 0 [] 0 0 0 0 mf)
def iw (op:Int):Bool:=decide (op=0\/op=5\/op=7)
def rP (x:Pt) (h:Plc):Plc :=
 if x.op=0 then ⟨unI h.us [x.vr],unI h.si [x.vr],-1⟩
 else if x.op=5 then ⟨unI (unI h.us (bB (hdP x.args))) [x.vr],unI h.si [x.vr],x.vr⟩
 else ⟨unI h.us (bB (hdP x.args)),unI h.si (aS (hdP x.args)),-1⟩
def jh (op:Int) (a:Pt) (h:Plc):Plc:=if op=1 then ⟨unI h.us (bB a),unI h.si (aS a),-1⟩ else h
mutual
def kK (h:Plc):Pt->List (Pt × Plc)
 | .mk o l a b c d e=>(.mk o l a b c d e,h)::pc o h l
def pc (op:Int) (h:Plc):List Pt->List (Pt × Plc)
 | []=>[]
 | a::r=>kK h a++pc op (jh op a h) r
end
theorem Ii (h:Plc) (x:Pt):kK h x=(x,h)::pc x.op h x.args:=by cases x;rw[kK];rfl
mutual
theorem xP (h:Plc):∀x,(kK h x).map (·.1)=aO x
 | .mk o l a b c d e=>by rw[kK,aO,LF,vH]
theorem vH (op:Int) (h:Plc):∀l,(pc op h l).map (·.1)=bG l
 | []=>by rw[pc,bG];rfl
 | a::r=>by rw[pc,bG,LH,xP h a,vH op _ r]
end
def rJ (x:Ex) (s:Plc):Int :=
 if 1<=x.op/\x.op<=4 then
  if !s.us.contains x.vr then 10
  else if ((x.op=1\/x.op=2)/\!s.si.contains x.vr)\/((x.op=3\/x.op=4)/\x.vr=s.fb) then 11 else 0
 else 0
mutual
def eb (s:Plc):Ex->Int
 | .mk o l a b c v=>if rJ (.mk o l a b c v) s≠0 then rJ (.mk o l a b c v) s else fw s l
def fw (s:Plc):List Ex->Int
 | []=>0
 | a::r=>if eb s a≠0 then eb s a else fw s r
end
theorem Fa (s:Plc) (x:Ex):eb s x=if rJ x s≠0 then rJ x s else fw s x.args:=by cases x;rw[eb];rfl
theorem gK {s:Plc} {l:List Ex} {k:Nat} {a:Ex} (h:l[k]?=some a):fw s (l.drop k)=if eb s a≠0 then eb s a else fw s (l.drop (k+1)):=by
 obtain⟨z,rfl⟩:=List.getElem?_eq_some_iff.1 h;rw[Lr z,fw]
def lX (t:Pt × Plc):Int:=if iw t.1.op then eb (rP t.1 t.2) t.1.cond else 0
def dZ:Nat->List (Pt × Plc)->Int × Int
 | _,[]=>(0,0)
 | k,t::r=>if lX t≠0 then ((k:Int),lX t) else dZ (k+1) r
def iX (p:Pt):Int × Int:=if cK p≠0 then (0,cK p) else dZ 0 (kK mo p)
def jj:Nat->Plc->List Ex->Int × Int
 | _,_,[]=>(0,0)
 | k,s,x::r=>if fJ x≠0 then ((k:Int),fJ x) else if eb s x≠0 then ((k:Int),eb s x) else jj (k+1) s r
def rF (p:Pt) (l:List Ex):Int × Int:=if cK p≠0 then (0,cK p) else if 256<l.length then (0,5) else jj 0 ⟨bB p,aS p,-1⟩ l
theorem JF:∀{S T:List Int},S.Pairwise (·<·)->T.Pairwise (·<·)->(∀k,k∈S↔k∈T)->S=T
 | [],[],_,_,_=>rfl
 | [],y::T,_,_,h=>absurd ((h y).2 (Lg ..)) jS
 | x::S,[],_,_,h=>absurd ((h x).1 (Lg ..)) jS
 | x::S,y::T,hs,ht,h=>by
  rw[MZ]at hs ht;have F:x=y:=by
   have z:=(h x).1 (Lg ..);have D:=(h y).2 (Lg ..);rcases List.mem_cons.1 z with z|z
   ·exact z
   ·rcases List.mem_cons.1 D with D|D
    ·exact D.symm
    ·have:=ht.1 x z;have:=hs.1 y D;omega
  subst F;rw[JF hs.2 ht.2 fun k=>⟨fun hk=>?_,fun hk=>?_⟩]
  ·rcases List.mem_cons.1 ((h k).1 (Lh _ hk)) with e|e
   ·have:=hs.1 k hk;omega
   ·exact e
  ·rcases List.mem_cons.1 ((h k).2 (Lh _ hk)) with e|e
   ·have:=ht.1 k hk;omega
   ·exact e
theorem Dw:((List.range 16).map fun (v:Nat)=>(v:Int)).Pairwise (·<·):=by
 rw[NE];exact List.pairwise_lt_range.imp fun h=>by omega
theorem Jb (a b:List Int):(unI a b).Pairwise (·<·):=Dw.filter _
theorem BP {a b:List Int} {v:Int}:v∈unI a b↔(0<=v/\v<16)/\(v∈a\/v∈b):=by
 unfold unI;rw[MR,List.mem_map];constructor
 ·rintro⟨⟨k,hk,rfl⟩,h⟩;rw[List.mem_range]at hk;exact⟨by omega,jQ h⟩
 ·rintro⟨⟨z,D⟩,h⟩;exact⟨⟨v.toNat,List.mem_range.2 om,by omega⟩,jQ h⟩
theorem tC {z:List Int} (hs:z.Pairwise (·<=·)):∀m,m<=z.length->(Go.Lib.compactUpTo z.toArray m).Pairwise (·<·)/\∀x,x∈Go.Lib.compactUpTo z.toArray m↔x∈z.take m
 | 0,_=>⟨by simp[Go.Lib.compactUpTo],fun x=>by simp[Go.Lib.compactUpTo]⟩
 | m+1,hm=>by
  obtain⟨Z,G⟩:=tC hs m om;have F:z.toArray[m]! =z[m]:=by simp[getElem!_pos,show m<z.length by omega]
  rw[Go.Lib.compactUpTo_succ,List.take_add_one,K9 om,F]
  by_cases h0:m=0
  ·subst h0;have:Go.Lib.keeps z.toArray 0=true:=Go.Lib.keeps_lt_one _ 0 om;rw[this,K7 rfl];simp[Go.Lib.compactUpTo]
  have hp:z.toArray[m-1]! =z[m-1]:=by simp[getElem!_pos,show m-1<z.length by omega]
  by_cases h:z[m]=z[m-1]
  ·have hk:Go.Lib.keeps z.toArray m=false:=Go.Lib.keeps_neg om (by rw[F,hp];exact h);rw[hk,K6 jS,Mz];refine⟨Z,fun x=>?_⟩;rw[G,L0];constructor
   ·exact .inl
   ·rintro (D|D)
    ·exact D
    ·simp only[Option.toList_some,Lz]at D;subst D;rw[h];exact List.mem_iff_getElem.2 ⟨m-1,by rw[Ml];omega,by rw[List.getElem_take]⟩
  ·have hk:Go.Lib.keeps z.toArray m=true:=Go.Lib.keeps_pos (by rw[F,hp];exact h);rw[hk,K7 rfl];refine⟨?_,fun x=>by rw[L0,L0,G];simp⟩;rw[Np];refine⟨Z,NJ ..,fun x J y hy=>?_⟩;rw[Lz]at hy;subst hy;rw[G]at J;obtain⟨j,hj,rfl⟩:=MK J;rw[Ml]at hj;rw[List.getElem_take];have I:=List.pairwise_iff_getElem.1 hs (m-1) m om om om;rcases LY j (m-1) with O|O
   ·have:=List.pairwise_iff_getElem.1 hs j (m-1) om om O;omega
   ·have:j=m-1:=by omega
    subst this;omega
theorem rB {l a b:List Int} (z:∀x,x∈l↔x∈a\/x∈b) (hr:∀x∈l,0<=x/\x<16):Go.Lib.compact (l.mergeSort fun x y=>decide (x<=y))=unI a b:=by
 have hs:(l.mergeSort fun x y=>decide (x<=y)).Pairwise (·<=·):=by
  have:=List.pairwise_mergeSort (le:=fun x y:Int=>decide (x<=y)) (fun a b c=>by simp only[Ly];omega) (fun a b=>by simp only[LQ,Ly];omega) l;exact this.imp fun h=>jQ h
 have h:=tC hs (l.mergeSort fun x y=>decide (x<=y)).length (Ld _);refine JF h.1 (Jb a b) fun k=>?_
 show k∈Go.Lib.compactUpTo _ _↔_;rw[h.2,LX,List.mem_mergeSort,BP,z];constructor
 ·intro hk;exact⟨hr k ((z k).2 hk),hk⟩
 ·exact fun hk=>hk.2
theorem wm {w:World} {base g n cap m:Nat} {e:TypeId} {xs:List Value} (h:w.ownsRow base e 1 (.slice (some ⟨g,0,none⟩) n cap) n xs) (hm:m<=n):w.ownsRow base e 1 (.slice (some ⟨g,0,none⟩) m cap) m (xs.take m):=by
 obtain⟨F,D⟩:=h;rcases D with ⟨D,_⟩|⟨g',cap',cur,hv,hg,hh,hn,hc,hs,ht⟩
 ·cases D
 ·injection hv with z I G;injection z with z;injection z with z;subst z G;refine⟨by rw[Ml,F];omega,.inr ⟨g,cap,cur,rfl,hg,hh,by omega,hc,hs,?_⟩⟩;rw[<-ht,List.take_take];congr 1;omega
theorem DU (n:Nat) (h:n<=1000) (w:World) :
  Calls prog 389 #[.slice none 0 0,KW (n:Int)] w fun e W=>∃v',e=.returned v'/\W.ownsRow w.heap.size 3 1 v' 0 []/\KY w W:=by
 by_cases h0:n=0
 ·subst h0;go_enter func389,ntmps389;go_wp2;go_ret;exact⟨_,rfl,⟨rfl,.inl ⟨rfl,rfl⟩⟩,La _ _⟩
 ·have h1:¬(n:Int)<0:=by omega
  have h2:0<(n:Int):=by omega
  obtain⟨j0,O,J,b',F⟩:=LD iA;have D:∀ty,(Builtin.append_ #[23,3] ty #[.slice none 0 0,KW (n:Int)]).run prog w =
    .ok (.slice (some ⟨w.heap.size,0,none⟩) n (grownCap w n 0 3)) (w.drew.alloc (.cells (#[]++Builtin.zeroCells (KW 0).cells n++Builtin.zeroCells (KW 0).cells (grownCap w n 0 3-n)) 3)):=fun ty=>by
   have h:=Lib.run_append_grow_zeros w 23 3 ty 3 j0 _ .i64 .i64 underlying23 underlying3 O J none 0 0 [] (run_firstCells_none w.drew j0.size 0 0 0) n om om om om (by rw[F];omega) (by rw[Lu];exact growslice_fits om (by rw[F];omega));rw[Lu]at h;exact h
  have I:n<=grownCap w n 0 3:=grownCap_ge w _ _ _;have z:=grownCap_le_maxLen w n 0 3 (by unfold maxLen;omega);obtain⟨G,Z⟩:=jF (grownCap w n 0 3);rw[<-Z]at D I z;have a':G<=9223372036854775807:=by unfold maxLen at z;omega
  clear Z;go_enter func389,ntmps389;go_wp2_with (at_builtin;refine Lib.wpList_append_run _ rfl _ _ _ _ rfl _ _ rfl rfl _ _ (D _) ?_);go_ret;exact⟨_,rfl,World.ownsRow_made w.drew _ G (Ld _) z (by simp[size_zeroCells];omega),aJ (La _ _).drew _⟩
def Ke (w:World) (l:List Int) (e:Ending) (W:World):Prop:=∃v,e=.returned v/\W.ownsRow w.heap.size 3 1 v l.length (bl l)/\KY w W
theorem wW (l:List Int):(bl l).length=l.length:=by simp[bl]
theorem jq (a b:List Int):bl (a++b)=bl a++bl b:=by simp[bl]
theorem wu {w:World} {A:Option Addr} {n c:Nat} {l:List Int} (h:bD w (.slice A n c) l):Src w A n 1 (bl l):=by
 obtain⟨A',c',e,h1,h2,O⟩:=h;injection e with I J e3;subst I J e3;refine⟨by rw[wW];omega,oW l,fun D=>?_⟩;obtain⟨b,o,Z,-⟩:=O 0 l[0] (K9 D);refine⟨b,o,Z,fun j u G=>?_⟩;unfold bl at G;rw[LI]at G;obtain⟨x,hx,rfl⟩:=Option.map_eq_some_iff.1 G;obtain⟨b',o',z,F⟩:=O j x hx;rw[Z]at z;injection z with z;injection z with I J;subst I J;unfold mW at F;rw[LL]at F;exact F
theorem wL (xs G:List Int) (A B:Option Addr) (ca cb k:Nat) (w:World) (hx:bD w (.slice A xs.length ca) xs) (hy:bD w (.slice B G.length cb) G) (u':xs.length+G.length<=1000)
  (h0:w.cell? ⟨k,0,none⟩=some (.slice A xs.length ca)) (h1:w.cell? ⟨k,1,none⟩=some (.slice B G.length cb)) :
  Calls prog 362 #[.slice (some ⟨k,0,none⟩) 2 2] w (Ke w (xs++G)):=by
 have g':=jD (wu hx);have n':=jD (wu hy);obtain⟨j0,p',m',i',j'⟩:=LD iA;clear hx hy;obtain⟨cx,b'⟩:∃c,c=bl xs:=⟨_,rfl⟩;obtain⟨cy,d'⟩:∃c,c=bl G:=⟨_,rfl⟩;have l':Hid (bl (xs++G)=cx++cy/\(xs++G).length=xs.length+G.length):=jD ⟨by rw[jq,b',d'],Le⟩;rw[<-b']at g';rw[<-d']at n';clear b' d';have t':IntKind.i64.wrap ((xs.length:Int)+(G.length:Int))=(xs.length:Int)+(G.length:Int):=IntWalk.i64_in _ om;have x':¬((xs.length:Int)<0):=by omega
 have y':¬((xs.length:Int)+(G.length:Int)<0):=by omega
 go_enter func362,ntmps362;go_wp2_with fail
 go_loopw [3,11] (fun s i wr=>∃k:Nat,k<=2/\i=KW k/\s=KW (((([xs.length,G.length]:List Nat).take k).sum:Nat):Int)/\wr=w) (fun _ i _=>2-(intOf i).toNat)
 case atStart=>exact⟨0,Lb _,rfl,rfl,rfl⟩
 case round =>
  obtain⟨i,hi,rfl,rfl,rfl⟩:=hrel;have f':i=0\/i=1\/i=2:=by omega
  clear hi;rcases f' with rfl|rfl|rfl
  ·go_wp2_with fail
   go_roundw
   case rel=>exact⟨1,by omega,by go_num,by simp,trivial⟩
   case measure=>simp[intOf]
  ·go_wp2_with fail
   go_roundw
   case rel=>exact⟨2,by omega,by go_num,by simp,trivial⟩
   case measure=>simp[intOf]
  ·have h':((([xs.length,G.length]:List Nat).take 2).sum)=xs.length+G.length:=by simp
   rw[h'];obtain⟨w0,q'⟩:∃W,W=wr:=⟨_,rfl⟩;subst q';go_wp2_with fail;have c':=DU (xs.length+G.length) om w0;rw[MF]at c';refine c'.mono ?_;clear c';rintro e w2 ⟨v2,rfl,J,k'⟩;have r':=jD J;have s':=jD k';obtain⟨A2,c2,rfl⟩:=ay J;clear J k' h';go_wp2_with fail
   go_loopw [6,27] (fun v i wr=>∃k:Nat,k<=2/\i=KW k/\Hid (wr.ownsRow w0.heap.size 3 1 v ((([xs.length,G.length]:List Nat).take k).sum) ((([cx,cy]:List (List Value)).take k).flatten)/\KY w0 wr)) (fun _ i _=>2-(intOf i).toNat)
   case atStart=>exact⟨0,Lb _,rfl,jD ⟨r'.out,s'.out⟩⟩
   case round =>
    obtain⟨i,hi,rfl,HI⟩:=hrel;have f':i=0\/i=1\/i=2:=by omega
    clear hi;rcases f' with rfl|rfl|rfl
    ·have z:=HI.out.1;simp only[List.take_zero,List.sum_nil,List.flatten_nil]at z;have O:=jD z;have D:=jD HI.out.2;obtain⟨A3,c3,rfl⟩:=ay z;have q0:=aa D.out h0;clear z HI;go_wp2_with (at_builtin;refine aR _ rfl (.tmp 31) (.tmp 32) 23 rfl w0.heap.size 3 j0 _ 1 8 underlying23 p' m' i' j' rfl dc (.slice A3 0 c3) 0 [] rfl O.out A xs.length ca cx rfl (g'.out.stays D.out) (by unfold maxLen;omega) om D.out.size ?_;intro v6 w6 F Z I;have a':=jD F;have e':Hid (KY w0 w6):=jD (D.out.trans (am Z D.out.size (fun g h=>(ah O.out h).1)));clear F Z I)
     go_roundw
     case rel=>exact⟨1,by omega,by go_num,jD ⟨jQ a'.out,e'.out⟩⟩
     case measure=>simp[intOf]
    ·have z:=HI.out.1;simp only[Mx,List.take_zero,MB,List.sum_nil,Mc,List.flatten_cons,List.flatten_nil,Mz]at z;have O:=jD z;have D:=jD HI.out.2;obtain⟨A3,c3,rfl⟩:=ay z;have q1:=aa D.out h1;clear z HI;go_wp2_with (at_builtin;refine aR _ rfl (.tmp 31) (.tmp 32) 23 rfl w0.heap.size 3 j0 _ 1 8 underlying23 p' m' i' j' rfl dc (.slice A3 xs.length c3) xs.length cx rfl O.out B G.length cb cy rfl (n'.out.stays D.out) (by unfold maxLen;omega) om D.out.size ?_;intro v6 w6 F Z I;have a':=jD F;have e':Hid (KY w0 w6):=jD (D.out.trans (am Z D.out.size (fun g h=>(ah O.out h).1)));clear F Z I)
     go_roundw
     case rel=>exact⟨2,by omega,by go_num,jD ⟨jQ a'.out,e'.out⟩⟩
     case measure=>simp[intOf]
    ·have z:=HI.out.1;simp only[Mx,List.take_zero,MB,List.sum_nil,Mc,List.flatten_cons,List.flatten_nil,Mz]at z;have O:=jD z;have D:=jD HI.out.2;obtain⟨A3,c3,rfl⟩:=ay z;clear z HI;go_wp2;go_ret;exact⟨_,rfl,by rw[l'.out.1,l'.out.2];exact O.out,D.out⟩
theorem vD (w:World):Calls prog 390 #[.slice none 0 0,KW 0,KW 0] w fun e W=>e=.returned (.tuple #[])/\W=w:=by
 go_enter func390,ntmps390;go_wp2_with fail
 go_loopw [6] (fun i wr=>wr=w/\i=KW 1) (fun _ _=>0)
 case atStart=>exact⟨rfl,rfl⟩
 case round =>
  obtain⟨rfl,rfl⟩:=hrel;go_wp2_with fail;exact ML (Mv rfl _ _ _) rfl ⟨rfl,rfl⟩
theorem yX (w:World):Calls prog 137 #[.int .u64 0] w fun e W=>e=.returned (KW 0)/\W=w:=by
 go_enter func137,ntmps137;go_wp2;go_ret;refine⟨?_,rfl⟩;have h:Lib.len8 0=0:=by decide +kernel
 show Ending.returned (KW (wrap64 (wrap64 (Lib.len8 0))))=_;rw[h,show wrap64 (wrap64 0)=0 by decide +kernel]
theorem FM (w:World):Calls prog 79 #[.int .u64 0] w fun e W=>e=.returned (KW 0)/\W=w:=by
 go_enter func79,ntmps79;go_wp2_with (go_at_call 137;refine (yX _).mono ?_;rintro e w' ⟨rfl,rfl⟩);go_ret;exact⟨rfl,rfl⟩
theorem we (w:World):Calls prog 364 #[.slice none 0 0,KW 0,KW 0,KW 0] w fun e W=>e=.returned (.tuple #[])/\W=w:=by
 go_enter func364,ntmps364;go_wp2_with fail
 go_loopw [1,2,3,8,9] (fun a b c d e wr=>wr=w/\a=KW 0/\b=KW 0/\c=KW 0/\d=.bool true/\e=.bool true) (fun _ _ _ _ _ _=>0)
 case atStart=>exact⟨rfl,rfl,rfl,rfl,rfl,rfl⟩
 case round =>
  obtain⟨rfl,rfl,rfl,rfl,rfl,rfl⟩:=hrel;go_wp2_with (go_at_call 390;refine (vD _).mono ?_;rintro e w' ⟨rfl,rfl⟩);exact Lc (v:=.tuple #[]) (Mv rfl _ _ _) rfl ⟨rfl,rfl⟩
theorem uM (w:World):Calls prog 340 #[.slice none 0 0] w fun e W=>e=.returned (.tuple #[])/\W=w:=by
 go_enter func340,ntmps340;go_wp2_with (first|(go_at_call 79;refine (FM _).mono ?_;rintro e w' ⟨rfl,rfl⟩)|(go_at_call 364;refine (we _).mono ?_;rintro e w' ⟨rfl,rfl⟩));exact ML (Mv rfl _ _ _) rfl ⟨rfl,rfl⟩
def uI (l:List Int):List Int:=l.mergeSort fun x y=>decide (x<=y)
theorem ry (l:List Int):(uI l).length=l.length:=List.length_mergeSort ..
def IA (w:World) (B:Nat) (v:Value) (l:List Int) (e:Ending) (W:World):Prop:=e=.returned (.tuple #[])/\W.ownsRow B 3 1 v l.length (bl (uI l))/\w.grownBy W v.ownBlock
theorem ti (l:List Int) (v:Value) (B:Nat) (w:World) (hr:w.ownsRow B 3 1 v l.length (bl l)) (F:l.length<=1000000):Calls prog 340 #[v] w (IA w B v l):=by
 obtain⟨I,G⟩:=id hr;rcases G with ⟨rfl,h0⟩|⟨g,cap,cur,rfl,hg,hh,hn,hc,hs,ht⟩
 ·have D:l=[]:=L3 h0;subst D;refine (uM w).mono ?_;rintro e W ⟨rfl,rfl⟩;exact⟨rfl,⟨by simp[uI,bl],.inl ⟨rfl,rfl⟩⟩,World.grownBy.refl W _⟩
 ·have z:l.length<4611686018427387904:=by omega
  have h:g<w.heap.size:=(Array.getElem?_eq_some_iff.1 hh).1;refine (Tryz.slices_Sort_int g 0 cap l w (holds_of_blockI hh (by rw[LL]at ht;exact ht)) h z).mono ?_;rintro e W ⟨rfl,n,os,rfl⟩;refine⟨rfl,?_,grownBy_sortedI _⟩;exact ownsRow_sortedI (ry l) hg hh hn hc hs
def KF (w:World) (B:Nat) (v:Value) (l:List Int) (e:Ending) (W:World):Prop:=∃v',e=.returned v'/\W.ownsRow B 3 1 v' (Lib.compact l).length (bl (Lib.compact l))/\w.grownBy W v.ownBlock
theorem ww (d:Array Int):∀m,(Lib.compactUpTo d m).length<=m
 | 0=>by simp[Lib.compactUpTo]
 | m+1=>by
  have:=ww d m;rw[Lib.compactUpTo_succ,Le]
  split<;>simp<;>omega
theorem Hz (l:List Int):(Lib.compact l).length<=l.length:=ww l.toArray l.length
theorem tO (l:List Int) (v:Value) (B:Nat) (w:World) (hr:w.ownsRow B 3 1 v l.length (bl l)):Calls prog 341 #[v] w (KF w B v l):=by
 obtain⟨O,J⟩:=id hr;rcases J with ⟨rfl,h0⟩|⟨g,cap,cur,rfl,hg,hh,hn,hc,hs,ht⟩
 ·have z:l=[]:=L3 h0;subst z;refine (Tryz.slices_Compact_int_empty none 0 w).mono ?_;rintro e W ⟨rfl,rfl⟩;exact⟨_,rfl,⟨rfl,.inl ⟨rfl,rfl⟩⟩,World.grownBy.refl W _⟩
 ·have h:l.length<=9223372036854775807:=by unfold maxLen at hc;omega
  refine (Tryz.slices_Compact_int g 0 cap l w (holds_of_blockI hh (by rw[LL]at ht;exact ht)) h hn).mono ?_;rintro e W ⟨rfl,q,rfl⟩;have D:=Hz l;have hlen:(Lib.compact l++List.replicate (l.length-(Lib.compact l).length) (0:Int)).length=l.length:=by simp;omega
  have G:=ownsRow_sortedI (os:=#[]) (n:=q) hlen hg hh hn hc hs;have F:=grownBy_sortedI (w:=w) (g:=g) (n:=q) (os:=#[]) (Lib.compact l++List.replicate (l.length-(Lib.compact l).length) (0:Int)).toArray;rw[Sort.grow_empty]at G F;refine⟨_,rfl,?_,F⟩;have I:=wm G D;rw[LH,List.take_left' jS]at I;exact I
def qh (w:World) (l:List Int) (e:Ending) (W:World):Prop:=∃v,e=.returned v/\bD W v l/\(∀g,v.ownBlock=some g->w.heap.size<=g)/\KY w W
theorem dS (a b:List Int) (va vb:Value) (w:World) (ha:bD w va a) (hb:bD w vb b) (J:∀x∈a,0<=x/\x<16) (a':∀x∈b,0<=x/\x<16) (g':a.length+b.length<=1000) :
  Calls prog 337 #[va,vb] w (qh w (unI a b)):=by
 have i':Hid (Lib.compact (uI (a++b))=unI a b):=jD (rB (fun x=>L0) fun x hx=>(List.mem_append.1 hx).elim (J x) (a' x));have HA:=jD ha;have HB:=jD hb;obtain⟨A,ca,rfl,-⟩:=ha;obtain⟨B,cb,rfl,-⟩:=hb;have b':=jD (fun (W:World) (k:Nat) (hW:KY w W)=>wL a b A B ca cb k W (HA.out.stays aL hW) (HB.out.stays aL hW) g');clear J a';go_enter func337,ntmps337;go_wp2_with fail;refine aw fun w1 e1=>?_
 have q0:KX w1 w.heap.size 0 (.slice A a.length ca):=jG e1;have q1:KX w1 w.heap.size 1 (.slice B b.length cb):=jG e1;have G:KY w w1:=gb e1;clear e1;refine (b'.out _ _ G q0 q1).mono ?_;rintro e w2 ⟨v2,rfl,D,Z⟩;have d':=jD D;have e':=jD (ab G Z);have j':=G.size;clear D Z G q0 q1 b';go_wp2_with fail;refine (ti _ _ _ _ d'.out (by rw[Le];omega)).mono ?_;rintro e w3 ⟨rfl,F,I⟩;have c':Hid (KY w w3):=jD (e'.out.trans (am I e'.out.size (fun g h=>by have:=(ah d'.out h).1;omega)));have f':Hid (w3.ownsRow w1.heap.size 3 1 v2 (uI (a++b)).length (bl (uI (a++b)))):=jD (by rw[ry];exact F);clear F I;go_wp2_with fail;refine (tO _ _ _ _ f'.out).mono ?_;rintro e w4 ⟨v4,rfl,z,O⟩;have h':Hid (KY w w4):=jD (c'.out.trans (am O c'.out.size (fun g h=>by have:=(ah f'.out h).1;omega)));rw[i'.out]at z;have HN:=jD (mc z);have HG:Hid (∀g,v4.ownBlock=some g->w.heap.size<=g):=jD fun g h=>by have:=(ah z h).1;omega
 clear z O;go_wp2;go_ret;exact⟨_,rfl,HN.out,HG.out,h'.out⟩
section
theorem IJ:PC cZ:=⟨te,Bh,fun a b d h=>by rw[pu.1 h]⟩
theorem nM:PC vlC:=((ku.of Vl.kind).or (ku.of Vl.num)).or (IJ.of fun (v:Vl)=>v.text.toList)
theorem J5 {a b:Vl} (D:a.kind=b.kind) (F:a.num=b.num) (h:a.text.toList=b.text.toList):a=b:=by
 obtain⟨k,n,s⟩:=a;obtain⟨I,G,z⟩:=b;simp only at D F h;subst D F;rw[Na,Na]at h;have:s=z:=by
  obtain⟨d⟩:=s;obtain⟨J⟩:=z;simp only at h;rw[Array.toList_inj.1 h]
 rw[this]
theorem qT {a b:Vl}:vlC a b=0↔a=b:=by
 rw[Gt];exact⟨fun h=>J5 h.1 h.2.1 h.2.2,fun h=>by subst h;exact⟨rfl,rfl,rfl⟩⟩
theorem ew {a b:Vl}:cC a b=true↔a=b:=by rw[KP,Ly,qT]
section
variable {α : Type} {c : α -> α -> Int}
theorem Fk (h:PC c):∀{S T:List α},S.Pairwise (fun a b=>c a b<0)->T.Pairwise (fun a b=>c a b<0)->(∀k,k∈S↔k∈T)->S=T
 | [],[],_,_,_=>rfl
 | [],b::T,_,_,hm=>absurd ((hm b).2 (Lg ..)) jS
 | a::S,[],_,_,hm=>absurd ((hm a).1 (Lg ..)) jS
 | a::S,b::T,hs,ht,hm=>by
  rw[MZ]at hs ht;have z:a=b:=by
   rcases List.mem_cons.1 ((hm a).1 (Lg ..)) with e|h1
   ·exact e
   ·rcases List.mem_cons.1 ((hm b).2 (Lg ..)) with e|h2
    ·exact e.symm
    ·have G:=ht.1 a h1;have I:=hs.1 b h2;have:=h.anti a b;omega
  subst z;have D:∀k∈S,k≠a:=fun k hk e=>by subst e;have:=hs.1 k hk;have:=h.refl k;omega
  have F:∀k∈T,k≠a:=fun k hk e=>by subst e;have:=ht.1 k hk;have:=h.refl k;omega
  rw[Fk h hs.2 ht.2 fun k=>⟨fun hk=>(List.mem_cons.1 ((hm k).1 (Lh _ hk))).resolve_left (D k hk),fun hk=>(List.mem_cons.1 ((hm k).2 (Lh _ hk))).resolve_left (F k hk)⟩]
end
theorem qY (v:Vl):∀(l:List Vl) (k:Vl),k∈dF l v↔k=v\/k∈l
 | [],k=>by simp[dF]
 | x::r,k=>by
  have z:=qY v r k;rw[dF]
  split
  ·rw[Lv,z,Lv];constructor
   ·rintro (h|h|h)
    ·exact .inr (.inl h)
    ·exact .inl h
    ·exact .inr (.inr h)
   ·rintro (h|h|h)
    ·exact .inr (.inl h)
    ·exact .inl h
    ·exact .inr (.inr h)
  ·split
   ·next h =>
    have:=ew.1 h;subst this;simp
   ·simp
theorem wJ {v:Vl}:∀{l:List Vl},l.Pairwise (fun a b=>vlC a b<0)->(dF l v).Pairwise fun a b=>vlC a b<0
 | [],_=>by simp[dF]
 | x::r,h=>by
  have h0:=List.pairwise_cons.1 h;rw[dF]
  split
  ·next D =>
   refine List.pairwise_cons.2 ⟨fun k hk=>?_,wJ h0.2⟩;rcases (qY v r k).1 hk with rfl|hk
   ·exact D
   ·exact h0.1 k hk
  ·split
   ·exact h
   ·next D z =>
    have G:vlC x v≠0:=fun e=>z (ew.2 (qT.1 e))
    have F:vlC v x<0:=by have:=nM.anti x v;omega
    refine List.pairwise_cons.2 ⟨fun k hk=>?_,h⟩;rcases List.mem_cons.1 hk with rfl|hk
    ·exact F
    ·exact nM.lt v x k F (h0.1 k hk)
theorem tY (key:List Int):∀(l:List Evt) (S:List Vl),S.Pairwise (fun a b=>vlC a b<0) ->
  (l.foldl (fun S e=>if (cF key e).2.1 then dF S (cF key e).1 else S) S).Pairwise (fun a b=>vlC a b<0) /\
  ∀k,k∈l.foldl (fun S e=>if (cF key e).2.1 then dF S (cF key e).1 else S) S↔k∈S\/∃e,e∈l/\(cF key e).2.1=true/\(cF key e).1=k
 | [],S,h=>⟨h,fun k=>by simp⟩
 | e::l,S,h=>by
  rw[Ms]
  by_cases hk:(cF key e).2.1=true
  ·rw[K7 hk];obtain⟨G,I⟩:=tY key l _ (wJ (v:=(cF key e).1) h);refine⟨G,fun k=>?_⟩;rw[I,qY];constructor
   ·rintro ((h|h)|⟨x,z,D,F⟩)
    ·exact .inr ⟨e,Lg ..,hk,h.symm⟩
    ·exact .inl h
    ·exact .inr ⟨x,Lh _ z,D,F⟩
   ·rintro (h|⟨x,z,D,F⟩)
    ·exact .inl (.inr h)
    ·rcases List.mem_cons.1 z with rfl|z
     ·exact .inl (.inl F.symm)
     ·exact .inr ⟨x,z,D,F⟩
  ·rw[K6 hk];obtain⟨G,I⟩:=tY key l S h;refine⟨G,fun k=>?_⟩;rw[I];constructor
   ·rintro (h|⟨x,z,D,F⟩)
    ·exact .inl h
    ·exact .inr ⟨x,Lh _ z,D,F⟩
   ·rintro (h|⟨x,z,D,F⟩)
    ·exact .inl h
    ·rcases List.mem_cons.1 z with rfl|z
     ·exact absurd D hk
     ·exact .inr ⟨x,z,D,F⟩
theorem pm (key:List Int) (l:List Evt):(cT key l).Pairwise (fun a b=>vlC a b<0)/\∀k,k∈cT key l↔∃e,e∈l/\(cF key e).2.1=true/\(cF key e).1=k:=by
 obtain⟨h,z⟩:=tY key l [] List.Pairwise.nil;exact⟨h,fun k=>by rw[show cT key l=l.foldl (fun S e=>if (cF key e).2.1 then dF S (cF key e).1 else S) [] from rfl,z];simp⟩
theorem IT {key:List Int} {l:List Evt} {S:List Vl} (h:S.Pairwise (fun a b=>vlC a b<0)) (z:∀k,k∈S↔∃e,e∈l/\(cF key e).2.1=true/\(cF key e).1=k):S=cT key l :=
 Fk nM h (pm key l).1 fun k=>by rw[z,(pm key l).2]
theorem zT {key:List Int} {l:List Evt} (h:D3 l):(dw key l).Pairwise zZ:=by
 unfold dw;rw[NE];refine (pm key l).1.imp fun {a b} hab=>uQ h fun e z D=>?_
 unfold gO at z D;rw[Lp]at z D;have F:=ew.1 z.2;have G:=ew.1 D.2;have:a=b:=F.symm.trans G;subst this;have:=nM.refl a;omega
end
abbrev CT (s:Bs):Prop:=s.Pairwise fun x y=>x.2<y.2
end Go.Proofs.YtokconodddedhaaGreatDoor
