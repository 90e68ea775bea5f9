/- Part. -/
import Derived.Test.YtbjicljfjkdeeaaGreatDoorQ24
import Derived.Shelf.GgSortFunc.RowK
set_option maxRecDepth 100000
set_option maxHeartbeats 16000000
set_option linter.unusedVariables false
set_option linter.unusedSimpArgs false
namespace Go.Proofs.YtbjicljfjkdeeaaGreatDoor
open Go.Proofs.Tryz Go.RowKit
abbrev Bs:=List (Int × Nat)
def aA:Bs->Bs->Bs
 | [],b=>b
 | x::a,[]=>x::a
 | x::a,y::b=>if x.2<y.2 then x::aA a (y::b) else y::aA (x::a) b
termination_by a b=>a.length+b.length
def bW (s:Bs):Nat:=(s.getLast?.map (·.2)).getD 0
def eD (a b:Bs):Bool:=a.all fun x=>!(b.any fun y=>decide (y.2=x.2))
def cY (l:List Evt) (s:Bs) (i:Nat):List (List Evt):=(List.range 16).map fun (v:Nat)=>(s.filter fun x=>decide (x.2<i/\x.1=(v:Int))).filterMap fun x=>l[x.2]?
def cT (env:List (List Evt)) (own:Int) (ev:Evt) (c:Ex):Bool:=decide ((ti env own ev c).2=0)&&bY (ti env own ev c).1 (cL true)
def oz:Evt:=⟨0,0,0,0,[]⟩
def eb (l:List Bs) (s:Bs):List Bs:=if l.contains s then l else l++[s]
def aP (l:List Bs):List Bs:=l.foldl eb []
def eL (l:List Evt) (ty vr:Int) (c:Ex) (b:Bs) (i:Nat):List Bs :=
 ((List.range l.length).filter fun k=>decide (i<=k)&&(l[k]?.map fun e=>decide (e.ty=ty)&&cT (cY l b k) vr e c).getD false).map fun k=>[(vr,k)]
def ik (l:List Evt) (op ty vr sp:Int) (c:Ex) (b s:Bs):Bool :=
 if op=5 then (List.range (bW s)).all fun k=>!(decide ((s.head?.map (·.2)).getD 0<=k)&&!(s.any fun y=>decide (y.2=k))&&(l[k]?.map fun e=>decide (e.ty=ty)&&cT (cY l (aA b s) k) vr e c).getD false)
 else if op=6 then decide (IntKind.i64.wrap (((l[bW s]?.map (·.tm)).getD 0)-((l[(s.head?.map (·.2)).getD 0]?.map (·.tm)).getD 0))<=sp)
 else cT (cY l (aA b s) l.length) (-1) oz c
abbrev Fnd:=Bs->Nat->List Bs
def jq:List Fnd->Fnd
 | []=>fun _ _=>[]
 | f::r=>if r.isEmpty then f else fun b i=>aP ((f b i).flatMap fun s=>(jq r (aA b s) (bW s+1)).map (aA s))
def pA (fs:List Fnd):Fnd:=fun b i=>aP (fs.flatMap fun f=>f b i)
def jN (out s:List Bs):List Bs:=aP (out.flatMap fun x=>(s.filter (eD x)).map (aA x))
def mO:List Fnd->Fnd
 | []=>fun _ _=>[]
 | f::fs=>fun b i=>(fs.map fun g=>g b i).foldl jN (f b i)
def jg (f:Fnd):Nat->Fnd
 | 0=>fun _ _=>[]
 | k+1=>fun b i=>aP ((f b i).flatMap fun s=>s::(jg f k (aA b s) (bW s+1)).map (aA s))
def hdF (fs:List Fnd):Fnd:=fs.headD fun _ _=>[]
mutual
def im (l:List Evt):Pt->Fnd
 | .mk o h ty vr _ sp c=>if o=0 then eL l ty vr c else if o=1 then jq (cO l h) else if o=2 then pA (cO l h) else if o=3 then mO (cO l h)
  else if o=4 then jg (hdF (cO l h)) (l.length+1) else fun b i=>(hdF (cO l h) b i).filter (ik l o ty vr sp c b)
def cO (l:List Evt):List Pt->List Fnd
 | []=>[]
 | a::r=>im l a::cO l r
end
def fh:List (List Bs)->Bs->List Bs
 | [],w=>[w]
 | p::ps,w=>(p.filter (eD w)).flatMap fun s=>fh ps (aA w s)
def lU:List Fnd->Fnd
 | []=>fun _ _=>[]
 | f::r=>if r.isEmpty then fun b i=>aP (f b i) else fun b i=>aP ((f b i).flatMap fun s=>(lU r (aA b s) (bW s+1)).map (aA s))
def G6 (fs:List Fnd):Fnd:=fun b i=>aP (fh (fs.map fun g=>g b i) [])
def fP (f:Fnd):Nat->Fnd
 | 0=>fun _ _=>[]
 | k+1=>fun b i=>aP (f b i++(f b i).flatMap fun s=>(fP f k (aA b s) (bW s+1)).map (aA s))
mutual
def bj (l:List Evt):Pt->Fnd
 | .mk o h ty vr _ sp c=>if o=0 then fun b i=>aP (eL l ty vr c b i) else if o=1 then lU (fx l h) else if o=2 then pA (fx l h) else if o=3 then G6 (fx l h)
  else if o=4 then fP (hdF (fx l h)) (l.length+1) else fun b i=>aP ((hdF (fx l h) b i).filter (ik l o ty vr sp c b))
def fx (l:List Evt):List Pt->List Fnd
 | []=>[]
 | a::r=>bj l a::fx l r
end
theorem DI {l:List Bs} {s x:Bs}:x∈eb l s↔x∈l\/x=s:=by
 unfold eb
 split
 ·next h =>
  rw[PG]at h;constructor
  ·exact .inl
  ·rintro (z|rfl)
   ·exact z
   ·exact h
 ·simp
theorem ba {l:List Bs} {x:Bs}:x∈aP l↔x∈l:=by
 have:∀(l o:List Bs),x∈l.foldl eb o↔x∈o\/x∈l:=fun l=>by
  induction l with
  | nil=>intro o;simp
  | cons a l h=>intro o;rw[N4,h,DI,MN,NV]
 unfold aP;rw[this];simp
theorem yp {l:List Bs} {s:Bs} (h:l.Nodup):(eb l s).Nodup:=by
 unfold eb
 split
 ·exact h
 ·next G =>
  rw[PG]at G;rw[List.nodup_append];refine⟨h,by simp,fun a I b z=>?_⟩;rw[NK]at z;subst z;exact fun e=>G (e▸I)
theorem bU (l:List Bs):(aP l).Nodup:=by
 have:∀(l o:List Bs),o.Nodup->(l.foldl eb o).Nodup:=fun l=>by
  induction l with
  | nil=>exact fun o h=>h
  | cons a l z=>exact fun o h=>z _ (yp h)
 exact this l [] Pe
def EqF (f g:Fnd):Prop:=∀b i x,x∈f b i↔x∈g b i
def EqL (fs gs:List Fnd):Prop:=fs.length=gs.length/\∀(k:Nat) f g,fs[k]?=some f->gs[k]?=some g->EqF f g
theorem EqL.cons {f g:Fnd} {fs gs:List Fnd} (h:EqF f g) (hs:EqL fs gs):EqL (f::fs) (g::gs):=by
 refine⟨by rw[MG,MG,hs.1],fun k a b z G=>?_⟩
 cases k with
 | zero=>simp at z G;subst z G;exact h
 | succ k=>exact hs.2 k a b (jQ z) (jQ G)
theorem EqL.inv {f g:Fnd} {fs gs:List Fnd} (h:EqL (f::fs) (g::gs)):EqF f g/\EqL fs gs :=
 ⟨h.2 0 f g rfl rfl,jQ h.1,fun k a b z G=>h.2 (k+1) a b (jQ z) (jQ G)⟩
theorem EqL.ind {P:List Fnd->List Fnd->Prop} (h0:P [] []) (z:∀f g fs gs,EqF f g->EqL fs gs->P fs gs->P (f::fs) (g::gs)):∀{fs gs:List Fnd},EqL fs gs->P fs gs
 | [],[],_=>h0
 | [],_::_,h=>by have:=h.1;simp at this
 | _::_,[],h=>by have:=h.1;simp at this
 | f::fs,g::gs,h=>z f g fs gs h.inv.1 h.inv.2 (EqL.ind h0 z h.inv.2)
theorem Lj {fs gs:List Fnd} (h:EqL fs gs):EqF (lU fs) (jq gs):=by
 refine EqL.ind (P:=fun fs gs=>EqF (lU fs) (jq gs)) (fun b i x=>by rw[lU,jq]) (fun f g fs gs hf O J=>?_) h;intro b i x;rw[lU,jq];have z:fs.isEmpty=gs.isEmpty:=by have:=O.1;cases fs<;>cases gs<;>simp_all
 rw[z]
 split
 ·rw[ba];exact hf b i x
 ·rw[ba,ba,Nw,Nw];constructor
  ·rintro⟨s,hs,I⟩;obtain⟨t,G,rfl⟩:=List.mem_map.1 I;exact⟨s,(hf b i s).1 hs,List.mem_map.2 ⟨t,(J _ _ t).1 G,rfl⟩⟩
  ·rintro⟨s,hs,I⟩;obtain⟨t,G,rfl⟩:=List.mem_map.1 I;exact⟨s,(hf b i s).2 hs,List.mem_map.2 ⟨t,(J _ _ t).2 G,rfl⟩⟩
theorem KM {fs gs:List Fnd} (h:EqL fs gs):EqF (pA fs) (pA gs):=by
 intro b i x;unfold pA;rw[ba,ba];exact EqL.ind (P:=fun fs gs=>(x∈fs.flatMap fun f=>f b i)↔(x∈gs.flatMap fun f=>f b i)) Iff.rfl (fun f g fs gs hf _ z=>by rw[MM,MM,NC,NC,hf b i x,z]) h
theorem Eo {ps:List (List Bs)}:∀{out:List Bs} {x:Bs},x∈ps.foldl jN out↔∃w,w∈out/\x∈fh ps w:=by
 induction ps with
 | nil=>intro out x;simp[fh]
 | cons p ps z =>
  intro out x;rw[N4,z];constructor
  ·rintro⟨w,hw,h⟩;unfold jN at hw;rw[ba,Nw]at hw;obtain⟨y,hy,hw⟩:=hw;obtain⟨s,hs,rfl⟩:=List.mem_map.1 hw;exact⟨y,hy,by rw[fh,Nw];exact⟨s,hs,h⟩⟩
  ·rintro⟨w,hw,h⟩;rw[fh,Nw]at h;obtain⟨s,hs,h⟩:=h;exact⟨aA w s,by unfold jN;rw[ba,Nw];exact⟨w,hw,List.mem_map.2 ⟨s,hs,rfl⟩⟩,h⟩
theorem LB {ps qs:List (List Bs)} (G:ps.length=qs.length) (h:∀(k:Nat) p q,ps[k]?=some p->qs[k]?=some q->∀x,x∈p↔x∈q):∀w x,x∈fh ps w↔x∈fh qs w:=by
 induction ps generalizing qs with
 | nil=>cases qs with
  | nil=>exact fun _ _=>Iff.rfl
  | cons q qs=>simp at G
 | cons p ps Z =>
  cases qs with
  | nil=>simp at G
  | cons q qs =>
   intro w x;have h0:=h 0 p q rfl rfl;have z:=Z (qs:=qs) (jQ G) (fun k a b O J=>h (k+1) a b (jQ O) (jQ J));rw[fh,fh,Nw,Nw];constructor
   ·rintro⟨s,hs,I⟩;rw[ON]at hs;exact⟨s,List.mem_filter.2 ⟨(h0 s).1 hs.1,hs.2⟩,(z _ _).1 I⟩
   ·rintro⟨s,hs,I⟩;rw[ON]at hs;exact⟨s,List.mem_filter.2 ⟨(h0 s).2 hs.1,hs.2⟩,(z _ _).2 I⟩
theorem lF (s:Bs):aA [] s=s:=by rw[aA]
theorem LR {fs gs:List Fnd} (h:EqL fs gs) (G:gs≠[]):EqF (G6 fs) (mO gs):=by
 cases gs with
 | nil=>exact absurd rfl G
 | cons g gs =>
  intro b i x;unfold G6;rw[ba,mO,Eo];have hm:∀w x,x∈fh (fs.map fun g=>g b i) w↔x∈fh ((g::gs).map fun g=>g b i) w :=
   LB (by rw[MB,MB];exact h.1) (fun k p q hp hq=>by
    rw[MA]at hp hq;obtain⟨f,hf,rfl⟩:=Option.map_eq_some_iff.1 hp;obtain⟨J,I,rfl⟩:=Option.map_eq_some_iff.1 hq;exact h.2 k f J hf I b i)
  rw[hm,MF,fh,Nw];have O:∀s:Bs,eD [] s=true:=fun s=>rfl
  constructor
  ·rintro⟨s,hs,z⟩;rw[lF]at z;exact⟨s,(List.mem_filter.1 hs).1,z⟩
  ·rintro⟨s,hs,z⟩;exact⟨s,List.mem_filter.2 ⟨hs,O s⟩,by rw[lF];exact z⟩
theorem Cs {f g:Fnd} (h:EqF f g):∀k,EqF (fP f k) (jg g k)
 | 0=>fun b i x=>by rw[fP,jg]
 | k+1=>fun b i x=>by
  have I:=Cs h k;rw[fP,jg,ba,ba,NC,Nw,Nw];constructor
  ·rintro (z|⟨s,hs,z⟩)
   ·exact⟨x,(h b i x).1 z,Mz ..⟩
   ·obtain⟨t,G,rfl⟩:=List.mem_map.1 z;exact⟨s,(h b i s).1 hs,MD _ (List.mem_map.2 ⟨t,(I _ _ t).1 G,rfl⟩)⟩
  ·rintro⟨s,hs,z⟩;rcases List.mem_cons.1 z with rfl|z
   ·exact .inl ((h b i x).2 hs)
   ·obtain⟨t,G,rfl⟩:=List.mem_map.1 z;exact .inr ⟨s,(h b i s).2 hs,List.mem_map.2 ⟨t,(I _ _ t).2 G,rfl⟩⟩
theorem Kv {fs gs:List Fnd} (h:EqL fs gs):EqF (hdF fs) (hdF gs) :=
 EqL.ind (P:=fun fs gs=>EqF (hdF fs) (hdF gs)) (fun _ _ _=>Iff.rfl) (fun _ _ _ _ hf _ _=>hf) h
theorem tX (l:List Evt):∀h,(cO l h).length=h.length
 | []=>by rw[cO];rfl
 | a::r=>by rw[cO,MG,MG,tX l r]
mutual
def okA:Pt->Bool
 | .mk o h _ _ _ _ _=>(decide (o≠3) || !h.isEmpty)&&vg h
def vg:List Pt->Bool
 | []=>true
 | a::r=>okA a&&vg r
end
mutual
theorem rC (l:List Evt):∀p,okA p=true->EqF (bj l p) (im l p)
 | .mk o ar ty vr sc sp c,hok=>by
  rw[okA,My]at hok;have hL:=Bt l ar hok.2;rw[bj,im]
  by_cases h0:o=0
  ·rw[Mp h0,Mp h0];exact fun b i x=>ba
  rw[Mo h0,Mo h0]
  by_cases J:o=1
  ·rw[Mp J,Mp J];exact Lj hL
  rw[Mo J,Mo J]
  by_cases G:o=2
  ·rw[Mp G,Mp G];exact KM hL
  rw[Mo G,Mo G]
  by_cases z:o=3
  ·rw[Mp z,Mp z];refine LR hL fun e=>?_
   have hlen:=tX l ar;rw[e]at hlen;have h:=hok.1
   cases ar with
   | nil=>simp[z]at h
   | cons a r=>simp at hlen
  rw[Mo z,Mo z]
  by_cases I:o=4
  ·rw[Mp I,Mp I];exact Cs (Kv hL) _
  rw[Mo I,Mo I];intro b i x;rw[ba,ON,ON,Kv hL b i x]
theorem Bt (l:List Evt):∀z,vg z=true->EqL (fx l z) (cO l z)
 | [],_=>by rw[fx,cO];exact⟨rfl,fun k f g h=>by simp at h⟩
 | a::r,hok=>by
  rw[vg,My]at hok;rw[fx,cO];exact EqL.cons (rC l a hok.1) (Bt l r hok.2)
end
def SetOk (i n:Nat) (s:Bs):Prop:=s≠[]/\s.Pairwise (fun x y=>x.2<y.2)/\∀x∈s,i<=x.2/\x.2<n
theorem cd:∀(a b:Bs) (x:Int × Nat),x∈aA a b↔x∈a\/x∈b
 | [],b,x=>by rw[aA];simp
 | y::a,[],x=>by rw[aA];simp
 | y::a,z::b,x=>by
  rw[aA]
  split
  ·rw[MN,cd a (z::b),MN (a:=x) (b:=y),NV]
  ·rw[MN,cd (y::a) b,MN (a:=x) (b:=z),<-NV,<-NV,or_comm (a:=x=z)]
termination_by a b=>a.length+b.length
theorem ep:∀(a b:Bs),a.Pairwise (fun x y=>x.2<y.2)->b.Pairwise (fun x y=>x.2<y.2)->(∀x∈a,∀y∈b,x.2≠y.2)->(aA a b).Pairwise fun x y=>x.2<y.2
 | [],b,_,hb,_=>by rw[aA];exact hb
 | y::a,[],ha,_,_=>by rw[aA];exact ha
 | y::a,z::b,ha,hb,hd=>by
  rw[OJ]at ha hb;have J:=hd y (Mz ..) z (Mz ..);rw[aA]
  split
  ·next h =>
   rw[OJ];refine⟨fun x G=>?_,ep a (z::b) ha.2 (List.pairwise_cons.2 hb) (fun x G I hy=>hd x (MD _ G) I hy)⟩;rcases (cd _ _ _).1 G with G|G
   ·exact ha.1 x G
   ·rcases List.mem_cons.1 G with rfl|G
    ·exact h
    ·have:=hb.1 x G;omega
  ·next h =>
   rw[OJ];refine⟨fun x G=>?_,ep (y::a) b (List.pairwise_cons.2 ha) hb.2 (fun x G I hy=>hd x G I (MD _ hy))⟩;rcases (cd _ _ _).1 G with G|G
   ·rcases List.mem_cons.1 G with rfl|G
    ·omega
    ·have:=ha.1 x G;omega
   ·exact hb.1 x G
termination_by a b=>a.length+b.length
theorem SetOk.last {i n:Nat} {s:Bs} (h:SetOk i n s):i<=bW s/\bW s<n/\∀x∈s,x.2<=bW s:=by
 obtain⟨z,I,J⟩:=h;have G:s.getLast?=some (s.getLast z):=List.getLast?_eq_some_getLast z;have e:bW s=(s.getLast z).2:=by unfold bW;rw[G];rfl
 have hm:=J _ (List.getLast_mem z);rw[e];refine⟨hm.1,hm.2,fun x O=>?_⟩;obtain⟨k,hk,rfl⟩:=N9 O;rw[List.getLast_eq_getElem z];rcases Ny k (s.length-1) with h|h
 ·exact Nat.le_of_lt (List.pairwise_iff_getElem.1 I k (s.length-1) hk om h)
 ·have:k=s.length-1:=by omega
  subst this;exact Mt _
theorem SetOk.merge {i n:Nat} {s t:Bs} (hs:SetOk i n s) (G:SetOk i n t) (I:∀x∈s,∀y∈t,x.2≠y.2):SetOk i n (aA s t):=by
 refine⟨fun e=>?_,ep s t hs.2.1 G.2.1 I,fun x z=>?_⟩
 ·obtain⟨x,z⟩:=List.exists_mem_of_ne_nil s hs.1;have:=(cd s t x).2 (.inl z);rw[e]at this;simp at this
 ·rcases (cd s t x).1 z with h|h
  ·exact hs.2.2 x h
  ·exact G.2.2 x h
theorem SetOk.behind {i n:Nat} {s t:Bs} (hs:SetOk i n s) (h:SetOk (bW s+1) n t):SetOk i n (aA s t):=by
 have G:=hs.last;refine hs.merge ⟨h.1,h.2.1,fun x z=>⟨by have:=(h.2.2 x z).1;omega,(h.2.2 x z).2⟩⟩ fun x z y hy=>?_
 have:=G.2.2 x z;have:=(h.2.2 y hy).1;omega
theorem qW {a b:Bs} (h:eD a b=true):∀x∈a,∀y∈b,x.2≠y.2:=by
 intro x z y hy e;unfold eD at h;rw[Pi]at h;have:=h x z;rw[M4,OO]at this;exact this y hy (jQ e.symm)
def OkF (n:Nat) (f:Fnd):Prop:=∀b i s,s∈f b i->SetOk i n s
theorem F4 (l:List Evt) (ty vr:Int) (c:Ex):OkF l.length (eL l ty vr c):=fun b i s hs=>by
 unfold eL at hs;obtain⟨k,hk,rfl⟩:=List.mem_map.1 hs;rw[ON,List.mem_range,My]at hk;have:=NB hk.2.1;exact⟨by simp,List.pairwise_singleton _ _,fun x h=>by rw[NK]at h;subst h;exact⟨this,hk.1⟩⟩
theorem Gq {n:Nat}:∀{fs:List Fnd},(∀f∈fs,OkF n f)->OkF n (jq fs)
 | [],_=>fun b i s hs=>by rw[jq]at hs;simp at hs
 | f::r,h=>fun b i s hs=>by
  have hf:=h f (Mz ..);have hr:=Gq (fs:=r) fun g G=>h g (MD _ G)
  rw[jq]at hs
  split at hs
  ·exact hf b i s hs
  ·rw[ba,Nw]at hs;obtain⟨x,I,hs⟩:=hs;obtain⟨t,z,rfl⟩:=List.mem_map.1 hs;exact (hf b i x I).behind (hr _ _ t z)
theorem LL {n:Nat} {fs:List Fnd} (h:∀f∈fs,OkF n f):OkF n (pA fs):=fun b i s hs=>by
 unfold pA at hs;rw[ba,Nw]at hs;obtain⟨f,hf,hs⟩:=hs;exact h f hf b i s hs
theorem yG {i n:Nat}:∀{ps:List (List Bs)} {out:List Bs},(∀s∈out,SetOk i n s)->(∀p∈ps,∀s∈p,SetOk i n s)->∀s∈ps.foldl jN out,SetOk i n s
 | [],_,ho,_=>ho
 | p::ps,out,ho,hp=>by
  rw[N4];refine yG (fun s hs=>?_) fun q hq=>hp q (MD _ hq)
  unfold jN at hs;rw[ba,Nw]at hs;obtain⟨x,z,hs⟩:=hs;obtain⟨t,h,rfl⟩:=List.mem_map.1 hs;rw[ON]at h;exact (ho x z).merge (hp p (Mz ..) t h.1) (qW h.2)
theorem KX {n:Nat} {fs:List Fnd} (h:∀f∈fs,OkF n f):OkF n (mO fs):=fun b i s hs=>by
 cases fs with
 | nil=>rw[mO]at hs;simp at hs
 | cons f fs =>
  rw[mO]at hs;refine yG (fun s hs=>h f (Mz ..) b i s hs) (fun p hp s hs=>?_) s hs;obtain⟨g,z,rfl⟩:=List.mem_map.1 hp;exact h g (MD _ z) b i s hs
theorem BJ {n:Nat} {f:Fnd} (h:OkF n f):∀k,OkF n (jg f k)
 | 0=>fun b i s hs=>by rw[jg]at hs;simp at hs
 | k+1=>fun b i s hs=>by
  rw[jg,ba,Nw]at hs;obtain⟨x,z,hs⟩:=hs;rcases List.mem_cons.1 hs with rfl|hs
  ·exact h b i s z
  ·obtain⟨t,G,rfl⟩:=List.mem_map.1 hs;exact (h b i x z).behind (BJ h k _ _ t G)
theorem Kj {n:Nat} {fs:List Fnd} (h:∀f∈fs,OkF n f):OkF n (hdF fs):=by
 cases fs with
 | nil=>exact fun b i s hs=>by simp[hdF]at hs
 | cons f fs=>exact h f (Mz ..)
mutual
theorem qG (l:List Evt):∀p,OkF l.length (im l p)
 | .mk o h ty vr z sp c=>by
  have hL:=CH l h;rw[im]
  split
  ·exact F4 l ty vr c
  ·split
   ·exact Gq hL
   ·split
    ·exact LL hL
    ·split
     ·exact KX hL
     ·split
      ·exact BJ (Kj hL) _
      ·exact fun b i s hs=>Kj hL b i s (List.mem_filter.1 hs).1
theorem CH (l:List Evt):∀h,∀f∈cO l h,OkF l.length f
 | [],f,hf=>by rw[cO]at hf;simp at hf
 | a::r,f,hf=>by
  rw[cO]at hf;rcases List.mem_cons.1 hf with rfl|hf
  ·exact qG l a
  ·exact CH l r f hf
end
theorem km {α β:Type} {l:List α} {f g:α->List β} (h:∀x∈l,f x=g x):l.flatMap f=l.flatMap g:=by
 induction l with
 | nil=>rfl
 | cons a l z=>rw[MM,MM,h a (Mz ..),z fun x G=>h x (MD _ G)]
theorem qu {n:Nat} {f:Fnd} (h:OkF n f):∀(k j:Nat) (b:Bs) (i:Nat),n-i<k->n-i<j->fP f k b i=fP f j b i
 | 0,_,_,_,hk,_=>by omega
 | _,0,_,_,_,hj=>by omega
 | k+1,j+1,b,i,hk,hj=>by
  rw[fP,fP];refine congrArg aP (congrArg (f b i++·) (km fun s hs=>?_));have z:=(h b i s hs).last;rw[qu h k j _ _ om om]
theorem iW {α:Type} [DecidableEq α]:∀{l m:List α},l.Nodup->(∀x∈l,x∈m)->l.length<=m.length
 | [],_,_,_=>Mu _
 | a::l,m,hl,h=>by
  rw[Pv]at hl;have G:=h a (Mz ..);have J:=iW (l:=l) (m:=m.erase a) hl.2 (fun x I=>by
   have z:=h x (MD _ I);exact (List.mem_erase_of_ne (fun e=>hl.1 (by rw[<-e];exact I))).2 z)
  rw[List.length_erase_of_mem G]at J;have:=List.length_pos_of_mem G;rw[MG];omega
def pD (V:List Int):Nat->List Bs
 | 0=>[[]]
 | n+1=>(pD V n).flatMap fun s=>s::V.map fun v=>s++[(v,n)]
theorem sd (V:List Int):∀n,(pD V n).length=(V.length+1)^n
 | 0=>rfl
 | n+1=>by
  rw[pD,Pw,Pf,<-sd V n];generalize pD V n=L
  induction L with
  | nil=>simp
  | cons a L h=>simp only[MF,N1,MG,MB]at h ⊢;rw[h,Ou];omega
theorem nI (V:List Int):∀(n:Nat) (s:Bs),s.Pairwise (fun x y=>x.2<y.2)->(∀x∈s,x.2<n/\x.1∈V)->s∈pD V n
 | 0,s,_,h=>by
  have:s=[]:=List.eq_nil_iff_forall_not_mem.2 fun x z=>by have:=(h x z).1;omega
  subst this;simp[pD]
 | n+1,s,hp,h=>by
  rw[pD,Nw]
  by_cases hl:∃v,(v,n)∈s
  ·obtain⟨v,Z⟩:=hl;have I:s≠[]:=List.ne_nil_of_mem Z;have G:s.getLast I=(v,n):=by
    obtain⟨k,hk,he⟩:=N9 Z;rw[List.getLast_eq_getElem I];rcases Ny k (s.length-1) with O|O
    ·have:=List.pairwise_iff_getElem.1 hp k (s.length-1) hk om O;rw[he]at this;have:=(h _ (Nu (show s.length-1<s.length by omega))).1;simp only at *;omega
    ·have:k=s.length-1:=by omega
     subst this;exact he
   have hs:s=s.dropLast++[(v,n)]:=by rw[<-G,List.dropLast_concat_getLast]
   refine⟨s.dropLast,nI V n _ (hp.sublist (List.dropLast_sublist s)) fun x z=>?_,?_⟩
   ·have J:=List.dropLast_subset s z;refine⟨?_,(h x J).2⟩;rw[hs,Po]at hp;exact hp.2.2 x z (v,n) (List.mem_singleton.2 rfl)
   ·exact MD _ (List.mem_map.2 ⟨v,(h _ Z).2,hs.symm⟩)
  ·refine⟨s,nI V n s hp fun x z=>⟨?_,(h x z).2⟩,Mz ..⟩;have O:=(h x z).1;rcases Ny x.2 n with h2|h2
   ·exact h2
   ·exfalso
    refine hl ⟨x.1,?_⟩;have e:n=x.2:=by omega
    rw[e];exact z
mutual
def evV:Pt->List Int
 | .mk o h _ vr _ _ _=>(if o=0 then [vr] else [])++dZ h
def dZ:List Pt->List Int
 | []=>[]
 | a::r=>evV a++dZ r
end
def VarF (V:List Int) (f:Fnd):Prop:=∀b i s,s∈f b i->∀x∈s,x.1∈V
theorem VarF.mono {V W:List Int} {f:Fnd} (h:VarF V f) (hs:∀v∈V,v∈W):VarF W f:=fun b i s hm x z=>hs _ (h b i s hm x z)
theorem Ce {V:List Int}:∀{fs:List Fnd},(∀f∈fs,VarF V f)->VarF V (jq fs)
 | [],_=>fun b i s hs=>by rw[jq]at hs;simp at hs
 | f::r,h=>fun b i s hs=>by
  have hf:=h f (Mz ..);have hr:=Ce (fs:=r) fun g I=>h g (MD _ I)
  rw[jq]at hs
  split at hs
  ·exact hf b i s hs
  ·rw[ba,Nw]at hs;obtain⟨y,hy,hs⟩:=hs;obtain⟨t,G,rfl⟩:=List.mem_map.1 hs;intro x z;rcases (cd _ _ _).1 z with z|z
   ·exact hf b i y hy x z
   ·exact hr _ _ t G x z
theorem tD {V:List Int}:∀{ps:List (List Bs)} {out:List Bs},(∀s∈out,∀x∈s,x.1∈V)->(∀p∈ps,∀s∈p,∀x∈s,x.1∈V)->∀s∈ps.foldl jN out,∀x∈s,x.1∈V
 | [],_,ho,_=>ho
 | p::ps,out,ho,hp=>by
  rw[N4];refine tD (fun s hs=>?_) fun q hq=>hp q (MD _ hq)
  unfold jN at hs;rw[ba,Nw]at hs;obtain⟨y,hy,hs⟩:=hs;obtain⟨t,z,rfl⟩:=List.mem_map.1 hs;rw[ON]at z;intro x h;rcases (cd _ _ _).1 h with h|h
  ·exact ho y hy x h
  ·exact hp p (Mz ..) t z.1 x h
theorem wo {V:List Int} {f:Fnd} (h:VarF V f):∀k,VarF V (jg f k)
 | 0=>fun b i s hs=>by rw[jg]at hs;simp at hs
 | k+1=>fun b i s hs=>by
  rw[jg,ba,Nw]at hs;obtain⟨y,hy,hs⟩:=hs;rcases List.mem_cons.1 hs with rfl|hs
  ·exact h b i s hy
  ·obtain⟨t,G,rfl⟩:=List.mem_map.1 hs;intro x z;rcases (cd _ _ _).1 z with z|z
   ·exact h b i y hy x z
   ·exact wo h k _ _ t G x z
theorem GQ {V:List Int} {fs:List Fnd} (h:∀f∈fs,VarF V f):VarF V (hdF fs):=by
 cases fs with
 | nil=>exact fun b i s hs=>by simp[hdF]at hs
 | cons f fs=>exact h f (Mz ..)
mutual
theorem uk (l:List Evt):∀p,VarF (evV p) (im l p)
 | .mk o h ty vr J sp c=>by
  have hL:∀f∈cO l h,VarF (evV (.mk o h ty vr J sp c)) f:=fun f hf=>(yQ l h f hf).mono fun v I=>by rw[evV];exact OE _ I
  rw[im]
  split
  ·next h0 =>
   intro b i s hs x z;unfold eL at hs;obtain⟨k,_,rfl⟩:=List.mem_map.1 hs;rw[NK]at z;subst z;rw[evV,Mp h0];simp
  ·split
   ·exact Ce hL
   ·split
    ·intro b i s hs;unfold pA at hs;rw[ba,Nw]at hs;obtain⟨f,hf,hs⟩:=hs;exact hL f hf b i s hs
    ·split
     ·intro b i s hs
      revert hs hL
      cases cO l h with
      | nil=>intro _ hs;rw[mO]at hs;simp at hs
      | cons f fs =>
       intro hL hs;rw[mO]at hs;refine tD (fun s hs=>hL f (Mz ..) b i s hs) (fun p hp s hs=>?_) s hs;obtain⟨g,G,rfl⟩:=List.mem_map.1 hp;exact hL g (MD _ G) b i s hs
     ·split
      ·exact wo (GQ hL) _
      ·exact fun b i s hs=>GQ hL b i s (List.mem_filter.1 hs).1
theorem yQ (l:List Evt):∀z,∀f∈cO l z,VarF (dZ z) f
 | [],f,hf=>by rw[cO]at hf;simp at hf
 | a::r,f,hf=>by
  rw[cO]at hf;rcases List.mem_cons.1 hf with rfl|hf
  ·exact (uk l a).mono fun v h=>by rw[dZ];exact OW _ h
  ·exact (yQ l r f hf).mono fun v h=>by rw[dZ];exact OE _ h
end
theorem BM (l:List Evt) (p:Pt) (b:Bs) (i:Nat) {L:List Bs} (G:L.Nodup) (hL:∀s∈L,s∈im l p b i):L.length<=((evV p).length+1)^l.length:=by
 rw[<-sd (evV p) l.length];refine iW G fun s hs=>?_
 have h:=qG l p b i s (hL s hs);exact nI _ _ s h.2.1 fun x z=>⟨(h.2.2 x z).2,uk l p b i s (hL s hs) x z⟩
theorem DC (l:List Bs) (s:Bs):(eb l s).length<=l.length+1:=by
 unfold eb
 split
 ·omega
 ·rw[Mw,MH];omega
theorem mS (l:List Bs):(aP l).length<=l.length:=by
 have:∀(l o:List Bs),(l.foldl eb o).length<=o.length+l.length:=fun l=>by
  induction l with
  | nil=>intro o;simp
  | cons a l h=>intro o;rw[N4,MG];have:=h (eb o a);have:=DC o a;omega
 have:=this l []
 simpa [aP] using this
theorem pE {α β:Type} {f:α->List β} {m:Nat}:∀(l:List α),(∀x∈l,(f x).length<=m)->(l.flatMap f).length<=l.length*m
 | [],_=>by simp
 | a::l,h=>by
  have I:=h a (Mz ..);have G:=pE l fun x z=>h x (MD _ z)
  rw[MM,Mw,MG,Ou,Oq];omega
def fc (n v:Nat):Nat:=if v=0 then 0 else n^v
theorem Cm {n v:Nat} (z:2<=n) (h:v≠0):2<=n^v:=by
 obtain⟨k,rfl⟩:∃k,v=k+1:=⟨v-1,by omega⟩;rw[Pf];have:1<=n^k:=by have:=OX (show 1<=n by omega) k;rwa [Nat.one_pow]at this
 calc 2<=1*n:=by omega
  _<=n^k*n:=Ov n this
theorem vV (n a b:Nat):fc n a*fc n b<=fc n (a+b):=by
 unfold fc
 by_cases h:a=0
 ·rw[Mp h,Nn];exact Mu _
 by_cases z:b=0
 ·rw[Mp z,Nat.mul_zero];exact Mu _
 rw[Mo h,Mo z,Mo om,Nat.pow_add];exact Mt _
theorem uW {n:Nat} (I:2<=n) (a b:Nat):fc n a+fc n b<=fc n (a+b):=by
 by_cases z:a=0
 ·subst z;unfold fc;rw[Mp rfl,MC,MC];exact Mt _
 by_cases G:b=0
 ·subst G;unfold fc;rw[Mp (c:=(0:Nat)=0) rfl,Nc,Nc];exact Mt _
 refine Mx ?_ (vV n a b);unfold fc;rw[Mo z,Mo G];have O:=Cm I z;have J:=Cm I G;generalize n^a=x at *;generalize n^b=y at *;have:=Px O (Mt y);have h3:=Px (Mt x) J;have Z:x*y=x*y:=rfl;rcases Nat.le_total x y with h|h
 ·omega
 ·omega
theorem jr {n:Nat} (h:2<=n) (a b:Nat):fc n a<=fc n (a+b):=by have:=uW h a b;omega
def CK (m:Nat) (f:Fnd):Prop:=∀b i,(f b i).length<=m
mutual
def eW:Pt->Bool
 | .mk o h _ _ _ _ _=>decide (o=4) || eH h
def eH:List Pt->Bool
 | []=>false
 | a::r=>eW a || eH r
end
def yb (n:Nat):List Fnd->List Nat->Prop
 | [],[]=>True
 | f::fs,v::vs=>CK (fc n v) f/\yb n fs vs
 | _,_=>False
theorem Ch {n:Nat} (z:2<=n):∀{fs:List Fnd} {vs:List Nat},yb n fs vs->CK (fc n vs.sum) (jq fs)
 | [],[],_=>fun b i=>by rw[jq];exact Mu _
 | [],_::_,h=>h.elim
 | _::_,[],h=>h.elim
 | f::r,v::vs,h=>fun b i=>by
  have G:=Ch z h.2;rw[N1,jq]
  split
  ·exact Mx (h.1 b i) (jr z _ _)
  ·refine Mx (mS _) (Mx (pE (m:=fc n vs.sum) _ fun s _=>by rw[MB];exact G _ _) ?_);exact Mx (Ov _ (h.1 b i)) (vV n v vs.sum)
theorem J0 {n:Nat} (G:2<=n) {fs:List Fnd} {vs:List Nat} (h:yb n fs vs):CK (fc n vs.sum) (pA fs):=fun b i=>by
 have:∀{fs:List Fnd} {vs:List Nat},yb n fs vs->(fs.flatMap fun f=>f b i).length<=fc n vs.sum:=fun {fs}=>by
  induction fs with
  | nil=>intro vs h;exact Mu _
  | cons f fs z =>
   intro vs h
   cases vs with
   | nil=>exact h.elim
   | cons v vs =>
    rw[MM,Mw,N1];have J:=h.1 b i;have I:=z h.2;have:=uW G v vs.sum;omega
 exact Mx (mS _) (this h)
theorem Fh (out s:List Bs):(jN out s).length<=out.length*s.length:=by
 refine Mx (mS _) (pE _ fun x _=>?_);rw[MB];exact Ow _ _
theorem tn {n:Nat} {b:Bs} {i:Nat}:∀{fs:List Fnd} {vs:List Nat} {out:List Bs} {v:Nat},yb n fs vs->out.length<=fc n v->((fs.map fun g=>g b i).foldl jN out).length<=fc n (v+vs.sum)
 | [],[],out,v,_,ho=>jQ ho
 | [],_::_,_,_,h,_=>h.elim
 | _::_,[],_,_,h,_=>h.elim
 | f::fs,w::vs,out,v,h,ho=>by
  rw[MF,N4,N1,<-NT];refine tn h.2 (Mx (Fh _ _) (Mx (Px ho (h.1 b i)) (vV n v w)))
theorem Ka {n:Nat} {fs:List Fnd} {vs:List Nat} (h:yb n fs vs):CK (fc n vs.sum) (mO fs):=fun b i=>by
 cases fs with
 | nil=>rw[mO];exact Mu _
 | cons f fs =>
  cases vs with
  | nil=>exact h.elim
  | cons v vs =>
   rw[mO,N1];exact tn h.2 (h.1 b i)
theorem KI {n:Nat} (z:2<=n) {fs:List Fnd} {vs:List Nat} (h:yb n fs vs):CK (fc n vs.sum) (hdF fs):=fun b i=>by
 cases fs with
 | nil=>exact Mu _
 | cons f fs =>
  cases vs with
  | nil=>exact h.elim
  | cons v vs=>rw[N1];exact Mx (h.1 b i) (jr z _ _)
theorem ye:∀h:List Pt,(dZ h).length=(h.map fun a=>(evV a).length).sum
 | []=>by rw[dZ];rfl
 | a::r=>by rw[dZ,Mw,ye r,MF,N1]
mutual
theorem uV (l:List Evt) (h:2<=l.length):∀p,eW p=false->CK (fc l.length (evV p).length) (im l p)
 | .mk o ar ty vr sc sp c,hit=>by
  rw[eW,Ng]at hit;have I:=of_decide_eq_false hit.1;have hL:=wV l h ar hit.2;have z:fc l.length (dZ ar).length<=fc l.length (evV (.mk o ar ty vr sc sp c)).length:=by
   rw[evV,Mw,Nat.add_comm];exact jr h _ _
  rw[ye]at z;rw[im]
  split
  ·next h0 =>
   intro b i;have G:(eL l ty vr c b i).length<=l.length:=by
    unfold eL;rw[MB];refine Mx (Ow _ _) ?_;rw[Pg];exact Mt _
   refine Mx G ?_;rw[evV,Mp h0,Mw,MH];refine Mx ?_ (jr h 1 _);unfold fc;rw[Mo dc,Nat.pow_one];exact Mt _
  ·split
   ·exact fun b i=>Mx (Ch h hL b i) z
   ·split
    ·exact fun b i=>Mx (J0 h hL b i) z
    ·split
     ·exact fun b i=>Mx (Ka hL b i) z
     ·exact fun b i=>Mx (Ow _ _) (Mx (KI h hL b i) z)
theorem wV (l:List Evt) (z:2<=l.length):∀h,eH h=false->yb l.length (cO l h) (h.map fun a=>(evV a).length)
 | [],_=>by rw[cO];trivial
 | a::r,hit=>by
  rw[eH,Ng]at hit;rw[cO,MF];exact⟨uV l z a hit.1,wV l z r hit.2⟩
end
section
section
theorem oY {w w':World} {v:Value} {l:List Bnd} (h:bD w v l) (hk:∀g,v.ownBlock=some g->w'.heap[g]?=w.heap[g]?):bD w' v l:=by
 obtain⟨A,c,rfl,J,G,h3⟩:=h;refine⟨A,c,rfl,J,G,fun k x hx=>?_⟩;obtain⟨b,o,rfl,c0,O,Z,c3⟩:=h3 k x hx;have I:=hk b rfl;have z:∀i,w'.cell? ⟨b,i,none⟩=w.cell? ⟨b,i,none⟩:=fun i=>ML (a:=⟨b,i,none⟩) I
 exact⟨b,o,rfl,by rw[z];exact c0,by rw[z];exact O,by rw[z];exact Z,by rw[z];exact c3⟩
theorem IP {w:World} {v:Value} {l:List Bnd} (h:bD w v l) (z:l≠[]):∃g,v.ownBlock=some g/\g<w.heap.size:=by
 obtain⟨A,c,rfl,O,J,G⟩:=h
 cases l with
 | nil=>exact absurd rfl z
 | cons x l =>
  obtain⟨b,o,rfl,I,_⟩:=G 0 x rfl;exact⟨b,rfl,Ms w ⟨b,_,none⟩ I⟩
theorem ro {w w':World} {v:Value} {l:List Bnd} (h:bD w v l) (hk:∀g,g<w.heap.size->v.ownBlock=some g->w'.heap[g]?=w.heap[g]?):bD w' v l:=by
 by_cases I:l=[]
 ·subst I;obtain⟨A,c,rfl,Z,O,-⟩:=h;exact⟨A,c,rfl,Z,O,by simp⟩
 ·obtain⟨g,J,G⟩:=IP h I;exact oY h fun g' z=>by rw[J]at z;injection z with z;subst z;exact hk g G J
end
section
open Go.RowKit Go.Shelf
def MOk (w:World) (g:Nat) (e:MV):Prop:=bD w e.2 e.1/\e.2.ownBlock≠some g
end
section
open Go.RowKit Go.Shelf
open Go.Sort (SWO PermIn SortedIn HoldsK grow)
theorem yV:∀{S T:List (List Bnd)},S.Pairwise (fun a b=>bsC a b<0)->T.Pairwise (fun a b=>bsC a b<0)->(∀k,k∈S↔k∈T)->S=T
 | [],[],_,_,_=>rfl
 | [],b::T,_,_,h=>absurd ((h b).2 (Mz ..)) jS
 | a::S,[],_,_,h=>absurd ((h a).1 (Mz ..)) jS
 | a::S,b::T,hS,hT,h=>by
  obtain⟨Z,h2⟩:=List.pairwise_cons.1 hS;obtain⟨O,k2⟩:=List.pairwise_cons.1 hT;have z:∀{x:List Bnd},¬bsC x x<0:=fun {x} h=>by rw[gF.refl]at h;omega
  have J:a=b:=by
   rcases List.mem_cons.1 ((h a).1 (Mz ..)) with G|G
   ·exact G
   ·rcases List.mem_cons.1 ((h b).2 (Mz ..)) with I|I
    ·exact I.symm
    ·exact absurd (gF.lt a b a (Z b I) (O a G)) z
  subst J;rw[yV h2 k2 fun k=>⟨fun hk=>?_,fun hk=>?_⟩]
  ·rcases List.mem_cons.1 ((h k).1 (MD _ hk)) with rfl|G
   ·exact absurd (Z k hk) z
   ·exact G
  ·rcases List.mem_cons.1 ((h k).2 (MD _ hk)) with rfl|G
   ·exact absurd (O k hk) z
   ·exact G
def pY (m:List Bnd):List (List Bnd)->List (List Bnd)
 | []=>[m]
 | x::l=>if bsC x m<0 then x::pY m l else if bsC x m=0 then x::l else m::x::l
def fa (l:List (List Bnd)):List (List Bnd):=l.foldl (fun S m=>pY m S) []
theorem ru (m:List Bnd):∀l k,k∈pY m l↔k=m\/k∈l
 | [],k=>by simp[pY]
 | x::l,k=>by
  have z:=ru m l k;simp only[pY]
  split
  ·simp only[MN,z];constructor
   ·rintro (h|h|h)
    ·exact .inr (.inl h)
    ·exact .inl h
    ·exact .inr (.inr h)
   ·rintro (h|h|h)
    ·exact .inr (.inl h)
    ·exact .inl h
    ·exact .inr (.inr h)
  ·split
   ·next h=>have:=Fe.1 h;subst this;simp
   ·simp
theorem yh {m:List Bnd}:∀{l},l.Pairwise (fun a b=>bsC a b<0)->(pY m l).Pairwise (fun a b=>bsC a b<0)
 | [],_=>by simp[pY]
 | x::l,h=>by
  obtain⟨z,J⟩:=List.pairwise_cons.1 h;simp only[pY]
  split
  ·next G =>
   refine List.pairwise_cons.2 ⟨fun k hk=>?_,yh J⟩;rcases (ru m l k).1 hk with rfl|hk
   ·exact G
   ·exact z k hk
  ·split
   ·exact h
   ·next G I =>
    have hm:bsC m x<0:=by have:=gF.anti x m;omega
    refine List.pairwise_cons.2 ⟨fun k hk=>?_,h⟩;rcases List.mem_cons.1 hk with rfl|hk
    ·exact hm
    ·exact gF.lt m x k hm (z k hk)
theorem Ie (l:List (List Bnd)):∀S:List (List Bnd),S.Pairwise (fun a b=>bsC a b<0)->(l.foldl (fun S m=>pY m S) S).Pairwise (fun a b=>bsC a b<0)/\∀k,k∈l.foldl (fun S m=>pY m S) S↔k∈S\/k∈l:=by
 induction l with
 | nil=>intro S h;exact⟨h,fun k=>by simp⟩
 | cons x l z =>
  intro S h;obtain⟨I,G⟩:=z _ (yh (m:=x) h);refine⟨I,fun k=>?_⟩;rw[N4,G,ru,MN];constructor
  ·rintro ((h|h)|h)
   ·exact .inr (.inl h)
   ·exact .inl h
   ·exact .inr (.inr h)
  ·rintro (h|h|h)
   ·exact .inl (.inr h)
   ·exact .inl (.inl h)
   ·exact .inr h
theorem cK (l:List (List Bnd)):(fa l).Pairwise (fun a b=>bsC a b<0)/\∀k,k∈fa l↔k∈l:=by
 obtain⟨z,h⟩:=Ie l [] List.Pairwise.nil;exact⟨z,fun k=>by rw[show fa l=l.foldl (fun S m=>pY m S) [] from rfl,h];simp⟩
theorem rq {S l:List (List Bnd)} (z:S.Pairwise (fun a b=>bsC a b<0)) (h:∀k,k∈S↔k∈l):S=fa l :=
 yV z (cK l).1 fun k=>by rw[h,(cK l).2]
end
end
def bOf (l:List Evt) (x:Int × Nat):Bnd:=⟨x.1,((l[x.2]?).getD oz).tm,((l[x.2]?).getD oz).src,((l[x.2]?).getD oz).sq⟩
def mOf (l:List Evt) (s:Bs):List Bnd:=s.map (bOf l)
def Ag (l:List Evt):Prop:=l.Pairwise fun a b=>cJ (cF a) (cF b)<0
theorem JO {l:List Evt} (h:Ag l) {x y:Int × Nat} (G:x.2<l.length) (hy:y.2<l.length) (e:bOf l x=bOf l y):x=y:=by
 unfold bOf at e;rw[Mq G,Mq hy]at e;simp only[NS,Bnd.mk.injEq]at e;obtain⟨I,Z,J,O⟩:=e;have hr:cJ (cF l[x.2]) (cF l[y.2])=0:=iL.2 ⟨Z,J,O⟩;have hk:x.2=y.2:=by
  rcases Py x.2 y.2 with z|z|z
  ·have:=List.pairwise_iff_getElem.1 h x.2 y.2 G hy z;omega
  ·exact z
  ·have:=List.pairwise_iff_getElem.1 h y.2 x.2 hy G z;have:=lY.anti (cF l[x.2]) (cF l[y.2]);omega
 exact Prod.ext I hk
theorem BU {l:List Evt} (h:Ag l):∀{s t:Bs},(∀x∈s,x.2<l.length)->(∀x∈t,x.2<l.length)->mOf l s=mOf l t->s=t
 | [],[],_,_,_=>rfl
 | [],_::_,_,_,e=>by simp[mOf]at e
 | _::_,[],_,_,e=>by simp[mOf]at e
 | x::s,y::t,hs,ht,e=>by
  simp only[mOf,MF,Nf]at e;rw[JO h (hs x (Mz ..)) (ht y (Mz ..)) e.1,BU h (fun z G=>hs z (MD _ G)) (fun z G=>ht z (MD _ G)) e.2]
theorem nH {α β:Type} {f:α->β}:∀{l:List α},l.Nodup->(∀x∈l,∀y∈l,f x=f y->x=y)->(l.map f).Nodup
 | [],_,_=>by simp
 | a::l,h,hf=>by
  rw[Pv]at h;rw[MF,Pv];refine⟨fun hm=>?_,nH h.2 fun x z y hy=>hf x (MD _ z) y (MD _ hy)⟩;obtain⟨y,hy,e⟩:=List.mem_map.1 hm;exact h.1 (hf y (MD _ hy) a (Mz ..) e▸hy)
def cI (l:List Evt) (p:Pt):List (List Bnd):=fa ((im l p [] 0).map (mOf l))
theorem zj (l:List Evt) {p:Pt} (h:okA p=true):fa ((bj l p [] 0).map (mOf l))=cI l p :=
 rq (cK _).1 fun k=>by
  rw[(cK _).2,List.mem_map,List.mem_map];constructor
  ·rintro⟨s,hs,rfl⟩;exact⟨s,(rC l p h [] 0 s).1 hs,rfl⟩
  ·rintro⟨s,hs,rfl⟩;exact⟨s,(rC l p h [] 0 s).2 hs,rfl⟩
def bG (p:Pt) (ps:List (List Evt)):List (List Bnd):=ps.flatMap fun s=>cI s p
theorem sJ {l:List (List Bnd)}:(fa l).length<=l.length :=
 iW ((cK l).1.imp fun {a b} h e=>by subst e;have:=gF.anti a a;omega) fun x z=>((cK l).2 x).1 z
theorem AB (l:List Evt) (p:Pt):cI l p=fa ((aP (im l p [] 0)).map (mOf l)) :=
 rq (cK _).1 fun k=>by
  rw[show cI l p=fa ((im l p [] 0).map (mOf l)) from rfl,(cK _).2,List.mem_map,List.mem_map];constructor
  ·rintro⟨s,hs,rfl⟩;exact⟨s,ba.2 hs,rfl⟩
  ·rintro⟨s,hs,rfl⟩;exact⟨s,ba.1 hs,rfl⟩
theorem lB (l:List Evt) (p:Pt):(cI l p).length<=((evV p).length+1)^l.length:=by
 rw[AB];refine Mx sJ ?_;rw[MB];exact BM l p [] 0 (bU _) fun s hs=>ba.1 hs
theorem zK (l:List Evt) (p:Pt) (z:2<=l.length) (h:eW p=false):(cI l p).length<=fc l.length (evV p).length:=by
 refine Mx sJ ?_;rw[MB];exact uV l z p h [] 0
theorem IC {x a b:Nat} (I:2<=x) (z:a≠0) (G:b≠0):x^a+x^b<=x^(a+b):=by
 have h:=uW I a b;unfold fc at h;rw[Mo z,Mo G,Mo om]at h;exact h
theorem pr (p:Pt) (z:(evV p).length≠0):∀ps:List (List Evt),(∀s∈ps,s≠[])->ps≠[]->(bG p ps).length<=((evV p).length+1)^(ps.map List.length).sum
 | [],_,h=>absurd rfl h
 | [s],h,_=>by
  unfold bG;rw[MM,List.flatMap_nil,OV,MF,Om,N1,List.sum_nil,Nc];exact lB s p
 | s::t::ps,h,_=>by
  have J:=pr p z (t::ps) (fun x I=>h x (MD _ I)) jS;have O:=lB s p;have hs:s.length≠0:=fun e=>h s (Mz ..) (M8 e)
  have G:((t::ps).map List.length).sum≠0:=fun e=>by
   rw[MF,N1]at e;exact h t jS (M8 om)
  unfold bG at *;rw[MM,Mw,MF,N1];have:=IC (x:=(evV p).length+1) om hs G;omega
theorem AV {v:Nat} (h:v≠0) (a b:Nat):a^v+b^v<=(a+b)^v:=by
 obtain⟨k,rfl⟩:∃k,v=k+1:=⟨v-1,by omega⟩;rw[Pf,Pf,Pf,Nat.mul_add];exact Nat.add_le_add (Ov a (OX om k)) (Ov b (OX om k))
theorem qx (p:Pt) (z:(evV p).length≠0) (J:eW p=false):∀ps:List (List Evt),(∀s∈ps,s≠[])->(bG p ps).length<=(ps.map List.length).sum^(evV p).length+ps.length*((evV p).length+1)
 | [],_=>by simp[bG]
 | s::ps,h=>by
  have ih:=qx p z J ps fun x Z=>h x (MD _ Z)
  unfold bG at *;rw[MM,Mw,MF,N1,MG,Ou,Oq];have hp:=AV z s.length (ps.map List.length).sum;rcases Ny s.length 2 with I|I
  ·have G:=lB s p;have h3:((evV p).length+1)^s.length<=(evV p).length+1:=by
    rcases Ny s.length 1 with O|O
    ·have:s.length=0:=by omega
     rw[this,Nat.pow_zero];omega
    ·have:s.length=1:=by omega
     rw[this,Nat.pow_one];omega
   omega
  ·have G:=zK s p I J;unfold fc at G;rw[Mo z]at G;omega
theorem DV (p:Pt) (I:(evV p).length≠0) (G:(evV p).length<=64) (ps:List (List Evt)) (z:∀s∈ps,s≠[]) (O:(ps.map List.length).sum<=10)
  (hs:((evV p).length+1)^(ps.map List.length).sum<=1500\/(eW p=false/\(ps.map List.length).sum^(evV p).length<=1500)):(bG p ps).length<=4096:=by
 have hlen:ps.length<=(ps.map List.length).sum:=by
  clear O hs
  induction ps with
  | nil=>simp
  | cons s ps Z =>
   have h1:=Z fun x hx=>z x (MD _ hx)
   have J:s.length≠0:=fun e=>z s (Mz ..) (M8 e)
   rw[MG,MF,N1];omega
 rcases hs with h|⟨hi,h⟩
 ·rcases List.eq_nil_or_concat ps with rfl|_
  ·simp[bG]
  ·by_cases e:ps=[]
   ·subst e;simp[bG]
   ·have:=pr p I ps z e;omega
 ·have h1:=qx p I hi ps z;have J:ps.length*((evV p).length+1)<=10*65:=Px om om;omega
theorem sn {l:List (List Bnd)} (h:l.Pairwise fun a b=>bsC a b<0):l.Nodup:=h.imp fun {a b} h e=>by subst e;have:=gF.anti a a;omega
theorem mU {l:List Evt} {p:Pt} {m:List Bnd} (h:m∈cI l p):∃s,s∈im l p [] 0/\m=mOf l s/\SetOk 0 l.length s:=by
 obtain⟨s,hs,rfl⟩:=List.mem_map.1 (((cK _).2 m).1 h);exact⟨s,hs,rfl,qG l p [] 0 s hs⟩
theorem zz {l k:List Evt} {p:Pt} {m:List Bnd} (J:m∈cI l p) (I:m∈cI k p):∃a,a∈l/\∃b,b∈k/\cJ (cF a) (cF b)=0:=by
 obtain⟨s,_,rfl,hs⟩:=mU J;obtain⟨t,_,e,z⟩:=mU I
 match s,t,hs,z,e with
 | [],_,hs,_,_=>exact absurd rfl hs.1
 | _::_,[],_,z,_=>exact absurd rfl z.1
 | x::s,y::t,hs,z,e =>
  simp only[mOf,MF,Nf]at e;have G:=(hs.2.2 x (Mz ..)).2;have hy:=(z.2.2 y (Mz ..)).2;have h:=e.1;unfold bOf at h;rw[Mq G,Mq hy]at h;simp only[NS,Bnd.mk.injEq]at h;exact⟨l[x.2],Nu G,k[y.2],Nu hy,iL.2 ⟨h.2.1,h.2.2.1,h.2.2.2⟩⟩
def ze (l k:List Evt):Prop:=∀a∈l,∀b∈k,cJ (cF a) (cF b)≠0
theorem jT (p:Pt):∀ps:List (List Evt),ps.Pairwise ze->(bG p ps).Nodup
 | [],_=>by simp[bG]
 | s::ps,h=>by
  rw[OJ]at h;have G:=jT p ps h.2;unfold bG at *;rw[MM,List.nodup_append];refine⟨sn (cK _).1,G,fun a I b z e=>?_⟩;subst e;obtain⟨t,J,z⟩:=List.mem_flatMap.1 z;obtain⟨x,O,y,hy,e⟩:=zz I z;exact h.1 t J x O y hy e
theorem uL {l:List Evt} (h:Ag l) {q r:Evt->Bool} (G:∀e,q e=true->r e=true->False):ze (l.filter q) (l.filter r):=by
 intro a I b O e;rw[ON]at I O;have J:a=b:=by
  obtain⟨i,hi,rfl⟩:=N9 I.1;obtain⟨j,Z,rfl⟩:=N9 O.1;rcases Py i j with z|z|z
  ·have:=List.pairwise_iff_getElem.1 h i j hi Z z;omega
  ·subst z;rfl
  ·have:=List.pairwise_iff_getElem.1 h j i Z hi z;have:=lY.anti (cF l[i]) (cF l[j]);omega
 subst J;exact G a I.2 O.2
def cM:List UInt8->List UInt8->Int
 | [],[]=>0
 | [],_::_=>-1
 | _::_,[]=>1
 | a::x,b::y=>if a<b then -1 else if b<a then 1 else cM x y
theorem tM:∀a b:List UInt8,Op.bytesLess a b=decide (cM a b<0)
 | [],[]=>by simp[Op.bytesLess,cM]
 | [],_::_=>by simp[Op.bytesLess,cM]
 | _::_,[]=>by simp[Op.bytesLess,cM]
 | a::x,b::y=>by
  have ih:=tM x y;rw[Op.bytesLess,cM,ih]
  by_cases G:a<b
  ·simp[G]
  ·by_cases I:b<a
   ·have:a≠b:=fun e=>by subst e;exact G I
    simp[G,I,this]
   ·have:a=b:=UInt8.le_antisymm (UInt8.not_lt.1 I) (UInt8.not_lt.1 G);simp[this]
theorem oS:∀{a b:List UInt8},cM a b=0↔a=b
 | [],[]=>by simp[cM]
 | [],_::_=>by simp[cM]
 | _::_,[]=>by simp[cM]
 | a::x,b::y=>by
  rw[cM]
  by_cases G:a<b
  ·rw[Mp G];have:a≠b:=fun e=>by subst e;exact absurd G (UInt8.lt_irrefl a)
   simp[this]
  ·by_cases I:b<a
   ·rw[Mo G,Mp I];have:a≠b:=fun e=>by subst e;exact G I
    simp[this]
   ·have:a=b:=UInt8.le_antisymm (UInt8.not_lt.1 I) (UInt8.not_lt.1 G);rw[Mo G,Mo I,oS,this];simp
theorem tz:∀a b:List UInt8,cM b a=- cM a b
 | [],[]=>by simp[cM]
 | [],_::_=>by simp[cM]
 | _::_,[]=>by simp[cM]
 | a::x,b::y=>by
  rw[cM,cM]
  by_cases G:a<b
  ·have I:¬b<a:=fun h=>UInt8.lt_irrefl a (UInt8.lt_trans G h)
   rw[Mo I,Mp G,Mp G];rfl
  ·by_cases I:b<a
   ·rw[Mp I,Mo G,Mp I]
   ·rw[Mo G,Mo I,Mo I,Mo G,tz x y]
theorem Bq:∀a b c:List UInt8,cM a b<0->cM b c<0->cM a c<0
 | _,[],[],_,h=>by simp[cM]at h
 | [],[],_::_,h,_=>by simp[cM]at h
 | _::_,[],_::_,h,_=>by simp[cM]at h
 | [],_::_,[],_,h=>by simp[cM]at h
 | [],_::_,_::_,_,_=>by simp[cM]
 | _::_,_::_,[],_,h=>by simp[cM]at h
 | a::x,b::y,c::z,G,I=>by
  rw[cM]at G I ⊢
  by_cases J:a<b
  ·by_cases O:b<c
   ·rw[Mp (UInt8.lt_trans J O)];decide
   ·by_cases c':c<b
    ·rw[Mo O,Mp c']at I;exact absurd I dc
    ·have:b=c:=UInt8.le_antisymm (UInt8.not_lt.1 c') (UInt8.not_lt.1 O);subst this;rw[Mp J];decide
  ·by_cases a':b<a
   ·rw[Mo J,Mp a']at G;exact absurd G dc
   ·have:a=b:=UInt8.le_antisymm (UInt8.not_lt.1 a') (UInt8.not_lt.1 J);subst this;rw[Mo J,Mo a']at G
    by_cases Z:a<c
    ·rw[Mp Z];decide
    ·by_cases d':c<a
     ·rw[Mo Z,Mp d']at I;exact absurd I dc
     ·rw[Mo Z,Mo d']at I ⊢;exact Bq x y z G I
def vlC (a b:Vl):Int:=orI (orI (bx a.kind b.kind) (bx a.num b.num)) (cM a.text.toList b.text.toList)
theorem Hn {a b:Vl}:vlC a b=0↔a.kind=b.kind/\a.num=b.num/\a.text.toList=b.text.toList:=by
 unfold vlC;rw[gL,gL,gU,gU,oS,and_assoc]
theorem LS {a b:Vl}:bY a b=decide (vlC a b=0):=by
 rw[Nt,MK,Hn];simp[bY]
def cz (key:List Int) (e:Evt):Vl × Bool × Int :=
 if key.length=0 then (ah,true,0) else if e.ty<0\/(key.length:Int)<=e.ty then (ah,false,1)
 else if key.getD e.ty.toNat 0 < -1\/(e.vals.length:Int)<=key.getD e.ty.toNat 0 then (ah,false,2)
 else if key.getD e.ty.toNat 0=-1 then (ah,false,0) else (e.vals.getD (key.getD e.ty.toNat 0).toNat ah,true,0)
def dO (key:List Int) (v:Vl) (e:Evt):Bool:=(cz key e).2.1&&bY (cz key e).1 v
def dD (l:List Vl) (v:Vl):List Vl:=match l with
 | []=>[v]
 | x::r=>if vlC x v<0 then x::dD r v else if bY x v then x::r else v::x::r
def cA (key:List Int) (l:List Evt):List Vl:=l.foldl (fun S e=>if (cz key e).2.1 then dD S (cz key e).1 else S) []
def bV (key:List Int) (l:List Evt):List (List Evt):=(cA key l).map fun v=>l.filter (dO key v)
def mT (key:List Int) (l:List Evt):Int:=if bH l≠0 then bH l else em (fun _ e=>(cz key e).2.2) none l
end Go.Proofs.YtbjicljfjkdeeaaGreatDoor
