/- Part. -/
import Derived.Test.YtokconodddedhaaGreatDoorQ53
import Derived.Test.YtokconodddedhaaGreatDoorQ30
set_option maxRecDepth 100000
set_option maxHeartbeats 16000000
set_option linter.unusedVariables false
set_option linter.unusedSimpArgs false
namespace Go.Proofs.YtokconodddedhaaGreatDoor
open Go.Proofs.Tryz Go.RowKit
theorem J3 {pre:List Evt} {x:Evt} (h:bV x=true) (D:∀p∈pre,bJ (bK p) (bK x)<0) (z:∀p∈pre,dA x p=false):evE pre x=0:=by
 unfold evE;rw[K6 (by rw[h];simp),K6,K6]
 ·rw[Bool.not_eq_true,MS];intro p hp;rw[z p hp];simp
 ·unfold gY
  cases hp:pre.getLast? with
  | none=>simp
  | some p =>
   have:=D p (List.mem_of_getLast? hp);simp;omega
theorem qr:∀(l pre:List Evt),(pre++l).Pairwise (fun a b=>bJ (bK a) (bK b)<0)->(pre++l).Pairwise (fun a b=>dA b a=false)->(∀e∈l,bV e=true)->cN pre l=0
 | [],_,_,_,_=>rfl
 | x::l,pre,h1,h2,h3=>by
  have e:evE pre x=0:=J3 (h3 x (Lg ..)) (fun p hp=>(List.pairwise_append.1 h1).2.2 p hp x (Lg ..)) (fun p hp=>(List.pairwise_append.1 h2).2.2 p hp x (Lg ..));unfold cN;rw[K7 e];exact qr l (pre++[x]) (by rw[L7];exact h1) (by rw[L7];exact h2) (fun y hy=>h3 y (Lh _ hy))
theorem mM:∀(l pre:List Evt),pre.Pairwise (fun a b=>dA b a=false)->cN pre l=0->(pre++l).Pairwise (fun a b=>dA b a=false)
 | [],pre,h,_=>by rw[Mz];exact h
 | x::l,pre,h,h0=>by
  unfold cN at h0
  by_cases e:evE pre x=0
  ·rw[K7 e]at h0;obtain⟨-,-,z⟩:=xu e;have G:(pre++[x]).Pairwise (fun a b=>dA b a=false):=by
    rw[Np];refine⟨h,NJ ..,fun a F b D=>?_⟩;rw[Lz]at D;subst D;rw[MS]at z
    simpa using z a F
   have:=mM l (pre++[x]) G h0
   rwa [L7]at this
  ·rw[K6 e]at h0;exact absurd h0 e
theorem rX {l:List Evt} (h:bC l=0) (q:Evt->Bool):bC (l.filter q)=0:=by
 obtain⟨z,G⟩:=gx h;have D:cN [] l=0:=by unfold bC at h;rwa [K6 om]at h
 have F:=mM l [] List.Pairwise.nil D;unfold bC;rw[K6 (by have:=MH q l;omega)];exact qr _ [] (z.asc.filter q) (F.filter q) (fun e he=>z.placed e (List.mem_filter.1 he).1)
theorem FB {key:List Int} {l:List Evt} (h:bC l=0):∀s∈dw key l,bC s=0:=by
 intro s hs;obtain⟨v,_,rfl⟩:=List.mem_map.1 hs;exact rX h _
theorem Fe (key:List Int) (l:List Evt):(cT key l).length<=l.length:=by
 have:∀(l:List Evt) (S:List Vl),(l.foldl (fun S e=>if (cF key e).2.1 then dF S (cF key e).1 else S) S).length<=S.length+l.length:=fun l=>by
  induction l with
  | nil=>intro S;simp
  | cons e l z =>
   intro S;rw[Ms,Lt];have hp:∀(S:List Vl) v,(dF S v).length<=S.length+1:=fun S v=>by
    induction S with
    | nil=>simp[dF]
    | cons x r z =>
     rw[dF]
     split
     ·rw[Lt,Lt];omega
     ·split
      ·rw[Lt];omega
      ·rw[Lt,Lt];exact Ld _
   cases G:(cF key e).2.1 with
   | true =>
    have D:=z (dF S (cF key e).1);have F:=hp S (cF key e).1;rw[K7 rfl];omega
   | false =>
    have D:=z S;rw[K6 jS];omega
 have h:=this l [];rw[MG,Lu]at h;exact h
section
structure PartsW (A mb:Nat) (kv:Value) (w:World) (S:Vl->Option Value) (E:Vl->List EV) (n:Nat):Prop where
 key:kv.ownBlock≠some mb
 map:HasV 27 vlV w mb n S
 row:∀v u,S v=some u->E v≠[]/\w.ownsRow A 68 5 u (E v).length (cn (E v))/\∀h,u.ownBlock=some h->h≠mb/\kv.ownBlock≠some h
 no:∀v,S v=none->E v=[]
 apart:∀v v' u u',v≠v'->S v=some u->S v'=some u'->∀h,u.ownBlock=some h->u'.ownBlock≠some h
 vals:∀v,∀e∈E v,aV w e.2 e.1.vals/\∀h,e.2.ownBlock=some h->h<w.heap.size/\h≠mb/\kv.ownBlock≠some h/\∀v' u,S v'=some u->u.ownBlock≠some h
section
variable {A mb n : Nat} {kv : Value} {w w' : World} {S : Vl -> Option Value} {E : Vl -> List EV}
theorem PartsW.grow (h:PartsW A mb kv w S E n) (z:KY w w'):PartsW A mb kv w' S E n :=
 ⟨h.key,h.map.below z,fun v u D=>⟨(h.row v u D).1,aj (h.row v u D).2.1 z,(h.row v u D).2.2⟩,h.no,h.apart,
  fun v e he=>⟨(h.vals v e he).1.stays aC z,fun g F=>⟨Ll ((h.vals v e he).2 g F).1 z.size,((h.vals v e he).2 g F).2⟩⟩⟩
theorem PartsW.is (h:PartsW A mb kv w S E n) {v:Vl} {u:Value} (z:S v=some u):bm w u ((E v).map (·.1)) :=
 dC (gk fun e he=>(h.vals v e he).1) (La _ _) (by rw[Lm];exact (h.row v u z).2.1)
theorem PartsW.len (h:PartsW A mb kv w S E n) (v:Vl):∃D c,(S v).getD (.slice none 0 0)=.slice D (E v).length c:=by
 cases z:S v with
 | none=>exact⟨none,0,by rw[h.no v z];rfl⟩
 | some u =>
  have hr:=(h.row v u z).2.1;rcases hr.2 with ⟨rfl,h0⟩|⟨g,cap,cur,rfl,-⟩
  ·exact⟨none,0,by rw[h0];rfl⟩
  ·exact⟨_,_,rfl⟩
theorem PartsW.has (h:PartsW A mb kv w S E n) (v:Vl):w.ownsRow A 68 5 ((S v).getD (.slice none 0 0)) (E v).length (cn (E v)):=by
 cases z:S v with
 | none=>rw[h.no v z];exact⟨rfl,.inl ⟨rfl,rfl⟩⟩
 | some u=>exact (h.row v u z).2.1
theorem wd (A:Nat) (w:World):PartsW A w.heap.size (.slice none 0 0) (w.alloc (.map #[] 0)) (fun _=>none) (fun _=>[]) 0 :=
 ⟨by simp[Value.ownBlock],D0 _ _ w,fun _ _ h=>(by cases h),fun _ _=>rfl,fun _ _ _ _ _ h=>(by cases h),fun _ _ he=>(by cases he)⟩
theorem PartsW.keyApp (h:PartsW A mb kv w S E n) {G:Value} (Z:w.grownBy w' kv.ownBlock) (J:G.ownBlock=kv.ownBlock\/G.ownBlock=some w.heap.size):PartsW A mb G w' S E n:=by
 have a':=h.map.lt;have D:∀g,g<w.heap.size->kv.ownBlock≠some g->G.ownBlock≠some g:=fun g O z e=>by
  rcases J with e2|e2
  ·exact z (e2▸e)
  ·rw[e2]at e;injection e with e;omega
 refine⟨D _ a' h.key,h.map.kept Z (Me h.key),fun v u hv=>?_,h.no,h.apart,fun v e he=>?_⟩
 ·obtain⟨h1,F,h3⟩:=h.row v u hv;exact⟨h1,aT F fun b I=>Z.block b (ah F I).2 (fun e=>(h3 b I).2 e.symm),fun b I=>⟨(h3 b I).1,D b (ah F I).2 (h3 b I).2⟩⟩
 ·obtain⟨h1,F⟩:=h.vals v e he;exact⟨fg h1 fun _ g O z=>Z.block g O (fun e=>(F g z).2.2.1 e.symm),fun g z=>⟨Ll (F g z).1 Z.size,(F g z).2.1,D g (F g z).1 (F g z).2.2.1,(F g z).2.2.2⟩⟩
theorem PartsW.keptRow (h:PartsW A mb kv w S E n) (F:w.grownBy w' (some mb)) {v:Vl} {u:Value} (z:S v=some u):w'.ownsRow A 68 5 u (E v).length (cn (E v)) :=
 aT (h.row v u z).2.1 fun b D=>F.block b (ah (h.row v u z).2.1 D).2 (fun e=>((h.row v u z).2.2 b D).1 (LK e))
open Classical in
theorem PartsW.push (h:PartsW A mb kv w S E n) {w1 w2 w3:World} {x:Vl} {y:Evt} {u v7:Value} (hA:A<=w.heap.size) (r':∀g,kv.ownBlock=some g->g<w.heap.size)
  (p':w.grownBy w1 (some mb)) (m':w1.grownBy w2 ((S x).getD (.slice none 0 0)).ownBlock) (d':w2.grownBy w3 (some mb))
  (c':w2.ownsRow A 68 5 v7 ((E x).length+1) (cn (E x)++[KW y.src,KW y.sq,KW y.ty,KW y.tm,u]))
  (l':v7.ownBlock=((S x).getD (.slice none 0 0)).ownBlock\/v7.ownBlock=some w1.heap.size)
  (n':HasV 27 vlV w3 mb (n+1) (fun z=>if z=x then some v7 else S z))
  (hu:aV w u y.vals) (s':∀g,u.ownBlock=some g->g<w.heap.size/\g≠mb/\kv.ownBlock≠some g/\∀v' z,S v'=some z->z.ownBlock≠some g) :
  PartsW A mb kv w3 (fun z=>if z=x then some v7 else S z) (fun z=>if z=x then E x++[(y,u)] else E z) (n+1):=by
 have x':=h.map.lt;have A':=p'.size;have y':=m'.size;have t':=d'.size;have k':∀g,((S x).getD (.slice none 0 0)).ownBlock=some g->∃I,S x=some I/\I.ownBlock=some g:=fun g F=>by
  cases hS:S x with
  | none=>rw[hS]at F;simp[Value.ownBlock]at F
  | some I=>rw[hS]at F;exact⟨I,rfl,F⟩
 have hk:∀g,g<w.heap.size->g≠mb->(∀I,S x=some I->I.ownBlock≠some g)->w3.heap[g]?=w.heap[g]?:=fun g e' h' q'=>by
  have e1:=p'.block g e' (fun e=>h' (LK e));have e2:=m'.block g om (fun e=>by obtain⟨I,Z,h2⟩:=k' g e.symm;exact q' I Z h2);have e3:=d'.block g om (fun e=>h' (LK e));exact e3.trans (e2.trans e1)
 have h7:∀g,v7.ownBlock=some g->(∃I,S x=some I/\I.ownBlock=some g)\/w.heap.size<=g:=fun g F=>by
  rcases l' with e|e
  ·rw[e]at F;exact .inl (k' g F)
  ·rw[e]at F;injection F with F;right;omega
 have j':∀g,v7.ownBlock=some g->g≠mb/\kv.ownBlock≠some g:=fun g F=>by
  rcases h7 g F with ⟨I,Z,h2⟩|Z
  ·exact (h.row x I Z).2.2 g h2
  ·exact⟨by omega,fun e=>by have:=r' g e;omega⟩
 have i':∀v u',v≠x->S v=some u'->∀g,u'.ownBlock=some g->v7.ownBlock≠some g:=fun v u' D G g F e=>by
  rcases h7 g e with ⟨I,Z,h2⟩|Z
  ·exact h.apart v x u' I D G Z g F h2
  ·have:=(ah (h.row v u' G).2.1 F).2;omega
 have a':∀(e:EV),aV w e.2 e.1.vals->(∀g,e.2.ownBlock=some g->g<w.heap.size/\g≠mb/\kv.ownBlock≠some g/\∀v' z,S v'=some z->z.ownBlock≠some g) ->
   aV w3 e.2 e.1.vals/\∀g,e.2.ownBlock=some g->g<w3.heap.size/\g≠mb/\kv.ownBlock≠some g/\∀v' z,(if v'=x then some v7 else S v')=some z->z.ownBlock≠some g:=fun e he F=>by
  refine⟨fg he fun _ g e' J=>hk g e' (F g J).2.1 (fun I g'=>(F g J).2.2.2 x I g'),fun g J=>⟨by have:=(F g J).1;omega,(F g J).2.1,(F g J).2.2.1,fun v' z hz e2=>?_⟩⟩
  by_cases D:v'=x
  ·rw[K7 D]at hz;injection hz with hz;subst hz;rcases h7 g e2 with ⟨I,Z,h2⟩|Z
   ·exact (F g J).2.2.2 x I Z h2
   ·have:=(F g J).1;omega
  ·rw[K6 D]at hz;exact (F g J).2.2.2 v' z hz e2
 refine⟨h.key,n',fun v z G=>?_,fun v G=>?_,fun v v' z z' f' G O g F=>?_,fun v e he=>?_⟩
 ·by_cases D:v=x
  ·subst D;simp only[Mo]at G ⊢;injection G with G;subst G;refine⟨by simp,?_,j'⟩;rw[Le,jM];exact aT c' fun b hb=>d'.block b (ah c' hb).2 (fun e=>(j' b hb).1 (LK e))
  ·simp only[K6 D]at G ⊢;obtain⟨Z,h2,h3⟩:=h.row v z G;exact⟨Z,aT h2 fun b hb=>hk b (ah h2 hb).2 (h3 b hb).1 (fun I g' e=>h.apart v x z I D G g' b hb e),h3⟩
 ·by_cases D:v=x
  ·rw[K7 D]at G;cases G
  ·simp only[K6 D]at G ⊢;exact h.no v G
 ·by_cases D:v=x
  ·subst D;rw[K7 rfl]at G;rw[K6 (Me f')]at O;injection G with G;subst G;exact fun e=>i' v' z' (Me f') O g e F
  ·rw[K6 D]at G
   by_cases b':v'=x
   ·subst b';rw[K7 rfl]at O;injection O with O;subst O;exact i' v z D G g F
   ·rw[K6 b']at O;exact h.apart v v' z z' f' G O g F
 ·by_cases D:v=x
  ·subst D;simp only[Mo]at he;rcases List.mem_append.1 he with he|he
   ·exact a' e (h.vals v e he).1 (h.vals v e he).2
   ·rw[Lz]at he;subst he;exact a' (y,u) hu s'
  ·simp only[K6 D]at he;exact a' e (h.vals v e he).1 (h.vals v e he).2
end
structure KeysP (key:List Int) (pre:List Evt) (ks:List Vl) (E:Vl->List EV):Prop where
 evs:∀v,(E v).map (·.1)=pre.filter (gO key v)
 mem:∀v,v∈ks↔E v≠[]
 nodup:ks.Nodup
theorem DC (key:List Int):KeysP key [] [] (fun _=>[]):=⟨fun _=>rfl,fun v=>by simp,Nt⟩
section
variable {key : List Int} {pre : List Evt} {ks : List Vl} {E : Vl -> List EV}
theorem KeysP.skip (h:KeysP key pre ks E) {y:Evt} (hy:(cF key y).2.1=false):KeysP key (pre++[y]) ks E :=
 ⟨fun v=>by rw[MN,h.evs v];simp[gO,hy],h.mem,h.nodup⟩
open Classical in
theorem KeysP.push (h:KeysP key pre ks E) {y:Evt} {x:Vl} (hy:(cF key y).2.1=true) (F:(cF key y).1=x) (u:Value):KeysP key (pre++[y]) (if (E x).length=0 then ks++[x] else ks) (fun z=>if z=x then E x++[(y,u)] else E z):=by
 refine⟨fun v=>?_,fun v=>?_,?_⟩
 ·rw[MN]
  by_cases D:v=x
  ·subst D;have hk:gO key v y=true:=by unfold gO;rw[hy,F,ew.2 rfl];rfl
   simp only[Mo];rw[LH,h.evs v];simp[hk]
  ·have hk:gO key v y=false:=by
    unfold gO;rw[hy,F]
    cases hq:cC x v with
    | false=>rfl
    | true=>exact absurd (ew.1 hq).symm D
   simp only[K6 D];rw[h.evs v];simp[hk]
 ·by_cases D:v=x
  ·subst D;simp only[Mo]
   by_cases h0:(E v).length=0
   ·rw[K7 h0];simp
   ·rw[K6 h0];have:v∈ks:=(h.mem v).2 (fun e=>h0 (by rw[e];rfl));simp[this]
  ·simp only[K6 D];rw[<-h.mem v]
   split
   ·simp[D]
   ·rfl
 ·split
  ·next h0 =>
   refine List.nodup_append.2 ⟨h.nodup,by simp,fun a I b G e=>?_⟩;rw[Lz]at G;subst G e;exact (h.mem a).1 I (L3 h0)
  ·exact h.nodup
theorem KeysP.sorted (h:KeysP key pre ks E) {D:List Vl} (hp:D.Perm ks) (hs:D.Pairwise (fun a b=>¬vlC b a<0)):D=cT key pre:=by
 refine IT ?_ fun k=>?_
 ·have hn:D.Nodup:=hp.nodup_iff.2 h.nodup;refine (hs.and hn).imp fun {a b} ⟨F,J⟩=>?_
  have Z:vlC a b≠0:=fun e=>J (qT.1 e)
  have O:vlC b a=- vlC a b:=nM.1 a b;omega
 ·rw[hp.mem_iff,h.mem k];constructor
  ·intro G;have F:(E k).map (·.1)≠[]:=jQ G;rw[h.evs k]at F;obtain⟨e,he⟩:=List.exists_mem_of_ne_nil _ F;obtain⟨I,z⟩:=List.mem_filter.1 he;unfold gO at z;rw[Lp,ew]at z;exact⟨e,I,z.1,z.2⟩
  ·rintro⟨e,he,F,J⟩ Z;have O:=h.evs k;rw[Z]at O;have:e∈pre.filter (gO key k):=List.mem_filter.2 ⟨he,by unfold gO;rw[F,J,ew.2 rfl];rfl⟩;rw[<-O]at this
   cases this
theorem Ha {l:List Vl} (h:∀v∈l,gV v) (i:Nat):gV (l.getD i au):=by
 rw[ME]
 cases hq:l[i]? with
 | none=>exact iN
 | some v=>exact h v (Li hq)
theorem Bq {y:Evt} (h:∀v∈y.vals,gV v):gV (cF key y).1:=by
 unfold cF
 split
 ·exact iN
 ·split
  ·exact iN
  ·split
   ·exact iN
   ·split
    ·exact iN
    ·exact Ha h _
end
def dI (key:List Int) (l:List Evt):(List Vl × List (List Evt)) × Int:=if nF key l≠0 then (([],[]),nF key l) else ((cT key l,dw key l),0)
def mG (w:World) (r:(List Vl × List (List Evt)) × Int) (e:Ending) (W:World):Prop:=∃kv h,e=.returned (.tuple #[kv,h,KW r.2])/\aV W kv r.1.1/\Sl nY 1 W h r.1.2/\KY w W
end
theorem lp {Q:Exit->Act->World->Prop} {e:Exit} {a:Act} {w:World} (h:∀W:World,W=w->Q e a W):Q e a w:=h w rfl
theorem lB {v:Vl}:∀(l:List Vl) (k:Nat),(∀x∈l.take k,vlC x v<0)->dF l v=l.take k++dF (l.drop k) v
 | _,0,_=>by simp
 | [],k+1,_=>by simp
 | x::r,k+1,h=>by
  have z:vlC x v<0:=h x (by rw[Mx];exact Lg ..);rw[dF,K7 z,lB r k fun y hy=>h y (by rw[Mx];exact Lh _ hy)];rfl
theorem IR {v y:Vl} {l:List Vl} {k:Nat} (h:l[k]?=some y) (z:¬vlC y v<0):dF (l.drop k) v=if cC y v=true then l.drop k else v::l.drop k:=by
 obtain⟨D,rfl⟩:=List.getElem?_eq_some_iff.1 h;rw[Lr D,dF,K6 z]
theorem Bu {w:World} {A:Option Addr} {n c:Nat} {l:List Vl} (h:aV w (.slice A n c) l):Src w A n 3 (bb l):=by
 obtain⟨A',c',e,h1,h2,G⟩:=h;injection e with J Z e3;subst J Z e3;have hlen:(bb l).length=l.length*3:=by
  clear h1 h2 G
  induction l with
  | nil=>rfl
  | cons x r ih =>
   have G:bb (x::r)=bY x++bb r:=rfl;rw[G,Le,ih];simp[bY];omega
 refine⟨hlen,oN l,fun I=>?_⟩;obtain⟨b,o,hA,-⟩:=G 0 l[0] (K9 I);refine⟨b,o,hA,fun j u hj=>?_⟩;have a':=(List.getElem?_eq_some_iff.1 hj).1;have hk:j / 3<l.length:=by omega
 have hx:=K9 hk;obtain⟨b',o',D,c0,c1,c2⟩:=G _ _ hx;rw[hA]at D;injection D with D;injection D with J Z;subst J Z;have z:=gS hx (j%3) (Nat.mod_lt _ dc);have O:j / 3*3+j%3=j:=by omega
 rw[O,hj]at z;have F:j%3=0\/j%3=1\/j%3=2:=by omega
 rcases F with F|F|F
 ·rw[F]at z;simp[bY]at z;rw[z,<-c0];congr 2;omega
 ·rw[F]at z;simp[bY]at z;rw[z,<-c1];congr 2;omega
 ·rw[F]at z;simp[bY]at z;rw[z,<-c2];congr 2;omega
theorem xa {w:World} {b o n c:Nat} {l:List Vl} (h:aV w (.slice (some ⟨b,o,none⟩) n c) l) (k:Nat):aV w (.slice (some ⟨b,o+k*3,none⟩) (n-k) (c-k)) (l.drop k):=by
 obtain⟨A',c',e,h1,h2,J⟩:=h;injection e with F G D;subst F G D;refine⟨_,_,by rw[NH],by rw[NH];omega,by omega,fun j x I=>?_⟩;rw[List.getElem?_drop]at I;obtain⟨b',o',z,O,Z,c2⟩:=J _ _ I;injection z with z;injection z with F G;subst F G;have D:o+k*3+j*3=o+(k+j)*3:=by omega
 refine⟨_,_,rfl,?_,?_,?_⟩
 ·rw[D];exact O
 ·rw[D];exact Z
 ·rw[D];exact c2
theorem mP {w:World} {B N:Nat} {u:Value} {xs:List Value} {L:List Vl} (h:w.ownsRow B 27 3 u N xs) (z:N=L.length) (D:xs=bb L):aV w u L:=by
 subst z D;exact mi h
def G8 (w:World) (l:List Vl) (e:Ending) (W:World):Prop:=∃u,e=.returned u/\aV W u l/\KY w W
theorem DJ (l:List Vl) (v:Vl) (vl:Value) (w:World) (hl:aV w vl l) (hn:l.length<=4096):Calls prog 145 #[vl,vlV v] w (G8 w (dF l v)):=by
 have HL:=jD hl;obtain⟨A,c,rfl,l1,l2,G'⟩:=hl;obtain⟨cs,N',P',-⟩:=im mQ HL.out;have U':=ax l1 l2;have J':=jD G';have Z':=l1;have O0:=l2;obtain⟨i0,hi,i',f',g'⟩:=LD mA;clear l1 l2 G' N' P' cs;unfold vlV;go_enter func145,ntmps145;go_wp2_with fail;refine aP fun w1 e1=>?_
 obtain⟨X,hX⟩:=jF w.heap.size;have x0:KX w1 X 0 (KW v.kind):=by rw[e1,hX];show _=_;go_simp
 have x1:KX w1 X 1 (KW v.num):=by rw[e1,hX];show _=_;go_simp
 have x2:KX w1 X 2 (.string v.text):=by rw[e1,hX];show _=_;go_simp
 have G:Hid (KY w w1):=jD (gb e1);rw[<-hX];have C':=jD (And.intro x0 (And.intro x1 x2));clear e1 hX x0 x1 x2
 go_loopw [5,6] (fun av i wr=>∃k:Nat,k<=l.length/\i=KW k/\Hid (wr.ownsRow w1.heap.size 27 3 av k (bb (l.take k)))/\Hid ((∀x∈l.take k,vlC x v<0)/\KY w1 wr)) (fun _ i _=>l.length-(intOf i).toNat)
 case atStart=>exact⟨0,Lb _,rfl,jD ⟨rfl,.inl ⟨rfl,rfl⟩⟩,jD ⟨by simp,La _ _⟩⟩
 case round =>
  obtain⟨k,hk,rfl,O,hI⟩:=hrel;have Z:=hI.out.2;obtain⟨Ar,cr,rfl⟩:=ay O.out;have x0:=aa Z C'.out.1;have x1:=aa Z C'.out.2.1;have x2:=aa Z C'.out.2.2;have P0:=K8 wr ⟨X,_,none⟩ x0
  by_cases D':k<l.length
  ·have R':(k:Int)<(l.length:Int):=by omega
   obtain⟨b,o,rfl,y0,y1,y2⟩:=J'.out k l[k] (K9 D');have hg:=jD (K9 D');obtain⟨y,hy⟩:∃a,a=l[k]:=⟨_,rfl⟩;rw[<-hy]at hg y0 y1 y2;replace y0:=aa (ab G.out Z) y0;replace y1:=aa (ab G.out Z) y1;replace y2:=aa (ab G.out Z) y2;have N0:=K8 wr ⟨b,_,none⟩ y0;obtain⟨cy,A'⟩:∃q,q=vlC y v:=⟨_,rfl⟩;have r':=jD (fun W=>BW y v W);rw[<-A']at r';unfold vlV at r';have H':=jD A';clear hy A';go_wp2_with fail;refine rgn (fun W:World=>KY wr W/\KX W X 0 (KW v.kind)/\KX W X 1 (KW v.num)/\KX W X 2 (.string v.text)/\KX W b (o+k*3) (KW y.kind)/\KX W b (o+k*3+1) (KW y.num)/\KX W b (o+k*3+2) (.string y.text)) (Below wr.heap.size wr) (fun W hW=>⟨hW,aa hW x0,aa hW x1,aa hW x2,aa hW y0,aa hW y1,aa hW y2⟩) ((La _ _).drew) (fun j' I=>?_);refine tkH [0,1,2,3,4,5,6,7,8,9] ?_;refine nxH 10 (fun K hK=>?_)
   focus (go_simp;refine (r'.out _).mono ?_;rintro e w4 ⟨rfl,M'⟩;have J:KY wr w4:=ab I.1 M')
   refine hK.out _ _ (j' _ J) (fun I=>?_);clear hK K;refine tkH [11,12] ?_;refine wpAnyH_done kr (NoPanic.normal ?_) _;rotate_left 1;replace x0:=aa J x0;replace x1:=aa J x1;replace x2:=aa J x2;replace y0:=aa J y0;replace y1:=aa J y1;replace y2:=aa J y2;have H0:=J.size;have V':b<w4.heap.size:=by omega
   have X':X<w4.heap.size:=by omega
   have S':=jD J;clear I j'
   by_cases hc:cy<0
   ·go_wp2_with (at_builtin;refine aR _ rfl (.tmp 20) (.tmp 25) 56 rfl w1.heap.size 27 i0 _ 3 32 underlying56 hi i' f' g' rfl dc (.slice Ar k cr) k (bb (l.take k)) rfl (aj O.out (ab J (ag _ _))) (some ⟨w4.heap.size,0,none⟩) 1 1 [KW y.kind,KW y.num,.string y.text] rfl (bE _ [KW y.kind,KW y.num,.string y.text] _ 1 3 _ jS rfl (by intro u hu;simp only[Lv,LM,LN]at hu;rcases hu with rfl|rfl|rfl<;>rfl)) (by unfold maxLen;omega) om (by simp;have:=Z.size;have:=J.size;omega) ?_;intro v8 w8 F c' d');have T':KY w1 w8:=(ab Z (ab J (ag _ _))).trans (am c' (by simp;have:=Z.size;omega) (fun g h=>(ah O.out h).1));refine⟨⟨k+1,by omega,by go_num,jD ?_,jD ⟨?_,T'⟩⟩,by simp[intOf];omega⟩
    ·rw[aX hg.out,go];exact F
    ·intro z hz;rw[aX hg.out,L0,Lz]at hz;rcases hz with hz|rfl
     ·exact hI.out.1 z hz
     ·rw[<-H'.out];exact hc
   ·have A0:0<=cy:=by omega
    obtain⟨r,hr⟩:=jF (cC y v);have he:∀W,(binOp .neq 27 (.agg #[KW y.kind,KW y.num,.string y.text]) (.agg #[KW v.kind,KW v.num,.string v.text])).run prog W=.ok (.bool (!r)) W:=fun W=>by rw[hr];exact dg y v W
    have y':=jD hr;have E':((k:Int)==(l.length:Int))=false:=by simp;omega
    have x':Hid (dF l v=l.take k++dF (l.drop k) v):=jD (lB l k hI.out.1);have u':=jD (IR hg.out (by rw[<-H'.out];exact hc));clear hr hc;go_wp2_with fail;refine rgn (fun W:World=>KY w4 W/\KX W X 0 (KW v.kind)/\KX W X 1 (KW v.num)/\KX W X 2 (.string v.text)/\KX W b (o+k*3) (KW y.kind)/\KX W b (o+k*3+1) (KW y.num)/\KX W b (o+k*3+2) (.string y.text)) (Below w4.heap.size w4) (fun W hW=>⟨hW,aa hW x0,aa hW x1,aa hW x2,aa hW y0,aa hW y1,aa hW y2⟩) ((La _ _).drew) (fun j' I=>?_);refine tkH [0,1,2,3,4,5,6,7,8,9,10,11] ?_;refine wpAnyH_done kr (NoPanic.normal ?_) _;rotate_left 1;refine lp (Q:=Exit.then _ _) fun w5 e5=>?_
    have b':KY w4 w5:=gb e5;have k':=jD (ab S'.out b');have L':=b'.size;replace x0:=aa b' x0;replace x1:=aa b' x1;replace x2:=aa b' x2;have I':X<w5.heap.size:=by omega
    clear I j' e5 b' y0 y1 y2
    cases r with
    | true =>
     have B':Hid (Src w5 (some ⟨b,o+k*3,none⟩) (l.length-k) 3 (bb (l.drop k))):=jD (Bu (xa (HL.out.stays aC (ab (ab G.out Z) k'.out)) k));go_wp2_with (at_builtin;refine aR _ rfl (.tmp 45) (.tmp 48) 56 rfl w1.heap.size 27 i0 _ 3 32 underlying56 hi i' f' g' rfl dc (.slice Ar k cr) k (bb (l.take k)) rfl (aj O.out k'.out) (some ⟨b,o+k*3,none⟩) (l.length-k) (c-k) (bb (l.drop k)) rfl B'.out (by unfold maxLen;omega) om (by have:=Z.size;omega) ?_;intro v9 w9 D e' a');obtain⟨A9,c9,rfl⟩:=ay D;have l':Hid (aV w9 (.slice A9 (k+(l.length-k)) c9) (dF l v)):=jD (by rw[show dF l v=l.take k++l.drop k from by rw[x'.out,u'.out,K7 y'.out.symm]];exact mP D (by simp;omega) (by rw[fY]));have m':Hid (KY w w9):=jD (((ab G.out Z).trans (k'.out.mono (by have:=G.out.size;have:=Z.size;omega))).trans (am e' (by have:=G.out.size;have:=Z.size;omega) (fun g h=>by have:=(ah O.out h).1;have:=G.out.size;omega)));have s':(dF l v).length=k+(l.length-k):=by rw[show dF l v=l.take k++l.drop k from by rw[x'.out,u'.out,K7 y'.out.symm]];simp;omega
     have O':=jD s';clear D e' a' s';go_wp2;exact Lc (v:=.slice A9 (k+(l.length-k)) c9) (by simp[results,results145,go_sem]) rfl ⟨_,rfl,l'.out,m'.out⟩
    | false =>
     have B':Hid (∀W,KY w W->Src W (some ⟨b,o+k*3,none⟩) (l.length-k) 3 (bb (l.drop k))):=jD fun W hW=>Bu (xa (HL.out.stays aC hW) k)
     go_wp2_with (first|(at_builtin;refine aR _ rfl (.tmp 41) (.tmp 43) 56 rfl w1.heap.size 27 i0 _ 3 32 underlying56 hi i' f' g' rfl dc (.slice Ar k cr) k (bb (l.take k)) rfl (aj O.out (ab k'.out (ag _ _))) (some ⟨w5.heap.size,0,none⟩) 1 1 [KW v.kind,KW v.num,.string v.text] rfl (bE _ [KW v.kind,KW v.num,.string v.text] _ 1 3 _ jS rfl (by intro u hu;simp only[Lv,LM,LN]at hu;rcases hu with rfl|rfl|rfl<;>rfl)) (by unfold maxLen;omega) om (by simp;have:=Z.size;omega) ?_;intro v8 w8 F c' d';obtain⟨A8,c8,rfl⟩:=ay F;have n':Hid (KY w w8):=jD (((ab G.out Z).trans ((ab k'.out (ag _ _)).mono (by have:=G.out.size;have:=Z.size;omega))).trans (am c' (by simp;have:=G.out.size;have:=Z.size;omega) (fun g h=>by have:=(ah O.out h).1;have:=G.out.size;omega)));have q':=c'.size;simp only[L4]at q';have h':=jD F;clear F c' d')|(at_builtin;refine aR _ rfl (.tmp 45) (.tmp 48) 56 rfl w1.heap.size 27 i0 _ 3 32 underlying56 hi i' f' g' rfl dc (.slice A8 (k+1) c8) (k+1) (bb (l.take k)++[KW v.kind,KW v.num,.string v.text]) rfl h'.out (some ⟨b,o+k*3,none⟩) (l.length-k) (c-k) (bb (l.drop k)) rfl (B'.out _ n'.out) (by unfold maxLen;omega) om (by have:=Z.size;omega) ?_;intro v9 w9 D e' a'))
     obtain⟨A9,c9,rfl⟩:=ay D;have l':Hid (aV w9 (.slice A9 (k+1+(l.length-k)) c9) (dF l v)):=jD (by rw[show dF l v=l.take k++(v::l.drop k) from by rw[x'.out,u'.out,K6 (by rw[<-y'.out];simp)]];exact mP D (by simp;omega) (by rw[fY,L7];rfl));have m':Hid (KY w w9):=jD (n'.out.trans (am e' (by have:=G.out.size;have:=Z.size;omega) (fun g h=>by have:=(ah h'.out h).1;have:=G.out.size;omega)));have s':(dF l v).length=k+1+(l.length-k):=by rw[show dF l v=l.take k++(v::l.drop k) from by rw[x'.out,u'.out,K6 (by rw[<-y'.out];simp)]];simp;omega
     have O':=jD s';clear D e' a' s';go_wp2;exact Lc (v:=.slice A9 (k+1+(l.length-k)) c9) (by simp[results,results145,go_sem]) rfl ⟨_,rfl,l'.out,m'.out⟩
  ·obtain rfl:k=l.length:=by omega
   have R':¬(l.length:Int)<(l.length:Int):=by omega
   go_wp2_with fail;refine rgn (fun W:World=>KY wr W/\KX W X 0 (KW v.kind)/\KX W X 1 (KW v.num)/\KX W X 2 (.string v.text)) (Below wr.heap.size wr) (fun W hW=>⟨hW,aa hW x0,aa hW x1,aa hW x2⟩) ((La _ _).drew) (fun j' I=>?_);refine tkH [0,1,2,3,4] ?_;refine tkS [5,6,7,8,9] ?_;refine vS (i:=10) (fuel:=2) (L:=(true::true::true::true::true::true::true::true::true::true::true::false::false::[]).toArray) rfl kr kr jR I (fun I=>?_);simp only[Act.put,Lw,Lj,Lk];refine tkS [11] ?_;refine tkH [12] ?_;refine wpAnyH_done kr (NoPanic.normal ?_) _;rotate_left 1;refine lp (Q:=Exit.then _ _) fun w5 e5=>?_
   have b':KY wr w5:=gb e5;replace x0:=aa b' x0;replace x1:=aa b' x1;replace x2:=aa b' x2;have L':=b'.size;have I':X<w5.heap.size:=by omega
   have E':((l.length:Int)==(l.length:Int))=true:=by simp
   have k':=jD b';clear I j' e5 b';go_wp2_with fail;refine rgn (fun W:World=>KY w5 W/\KX W X 0 (KW v.kind)/\KX W X 1 (KW v.num)/\KX W X 2 (.string v.text)) (Below w5.heap.size w5) (fun W hW=>⟨hW,aa hW x0,aa hW x1,aa hW x2⟩) ((La _ _).drew) (fun j' I=>?_);refine tkH [0,1,2,3,4] ?_;refine tkS [5,6,7,8,9,10] ?_;refine tkH [11] ?_;refine wpAnyH_done kr (NoPanic.normal ?_) _;rotate_left 1;refine lp (Q:=Exit.then _ _) fun w6 e6=>?_
   have p':KY w5 w6:=gb e6;replace x0:=aa p' x0;replace x1:=aa p' x1;replace x2:=aa p' x2;have Q0:=p'.size;have Y':X<w6.heap.size:=by omega
   have t':=jD (ab k'.out p');have z':Hid (dF l v=l++[v]):=jD (by
    have h:=lB l l.length hI.out.1;rw[LX,List.drop_length]at h;exact h)
   have F':(dF l v).length=l.length+1:=by rw[z'.out];simp
   have K0:=jD F';clear F';clear I j' e6 p'
   cases A with
   | none =>
    go_wp2_with (first|(at_builtin;refine aR _ rfl (.tmp 41) (.tmp 43) 56 rfl w1.heap.size 27 i0 _ 3 32 underlying56 hi i' f' g' rfl dc (.slice Ar l.length cr) l.length (bb (l.take l.length)) rfl (aj O.out (ab t'.out (ag _ _))) (some ⟨w6.heap.size,0,none⟩) 1 1 [KW v.kind,KW v.num,.string v.text] rfl (bE _ [KW v.kind,KW v.num,.string v.text] _ 1 3 _ jS rfl (by intro u hu;simp only[Lv,LM,LN]at hu;rcases hu with rfl|rfl|rfl<;>rfl)) (by unfold maxLen;omega) om (by simp;have:=Z.size;omega) ?_;intro v8 w8 F c' d';obtain⟨A8,c8,rfl⟩:=ay F;have n':Hid (KY w w8):=jD (((ab G.out Z).trans ((ab t'.out (ag _ _)).mono (by have:=G.out.size;have:=Z.size;omega))).trans (am c' (by simp;have:=G.out.size;have:=Z.size;omega) (fun g h=>by have:=(ah O.out h).1;have:=G.out.size;omega)));have q':=c'.size;simp only[L4]at q';have h':=jD F;clear F c' d')|(at_builtin;refine aR _ rfl (.tmp 45) (.tmp 48) 56 rfl w1.heap.size 27 i0 _ 3 32 underlying56 hi i' f' g' rfl dc (.slice A8 (l.length+1) c8) (l.length+1) (bb (l.take l.length)++[KW v.kind,KW v.num,.string v.text]) rfl h'.out _ 0 _ [] rfl ⟨rfl,by simp,fun h=>absurd h om⟩ (by unfold maxLen;omega) om (by have:=Z.size;omega) ?_;intro v9 w9 D e' a'))
    obtain⟨A9,c9,rfl⟩:=ay D;have l':Hid (aV w9 (.slice A9 (l.length+1+0) c9) (dF l v)):=jD (by rw[z'.out];exact mP D jS (by rw[fY,LX,Mz];rfl));have m':Hid (KY w w9):=jD (n'.out.trans (am e' (by have:=G.out.size;have:=Z.size;omega) (fun g h=>by have:=(ah h'.out h).1;have:=G.out.size;omega)));clear D e' a';go_wp2;exact Lc (v:=.slice A9 (l.length+1+0) c9) (by simp[results,results145,go_sem]) rfl ⟨_,rfl,l'.out,m'.out⟩
   | some ad =>
    obtain⟨b,o,ix⟩:=ad;go_wp2_with (first|(at_builtin;refine aR _ rfl (.tmp 41) (.tmp 43) 56 rfl w1.heap.size 27 i0 _ 3 32 underlying56 hi i' f' g' rfl dc (.slice Ar l.length cr) l.length (bb (l.take l.length)) rfl (aj O.out (ab t'.out (ag _ _))) (some ⟨w6.heap.size,0,none⟩) 1 1 [KW v.kind,KW v.num,.string v.text] rfl (bE _ [KW v.kind,KW v.num,.string v.text] _ 1 3 _ jS rfl (by intro u hu;simp only[Lv,LM,LN]at hu;rcases hu with rfl|rfl|rfl<;>rfl)) (by unfold maxLen;omega) om (by simp;have:=Z.size;omega) ?_;intro v8 w8 F c' d';obtain⟨A8,c8,rfl⟩:=ay F;have n':Hid (KY w w8):=jD (((ab G.out Z).trans ((ab t'.out (ag _ _)).mono (by have:=G.out.size;have:=Z.size;omega))).trans (am c' (by simp;have:=G.out.size;have:=Z.size;omega) (fun g h=>by have:=(ah O.out h).1;have:=G.out.size;omega)));have q':=c'.size;simp only[L4]at q';have h':=jD F;clear F c' d')|(at_builtin;refine aR _ rfl (.tmp 45) (.tmp 48) 56 rfl w1.heap.size 27 i0 _ 3 32 underlying56 hi i' f' g' rfl dc (.slice A8 (l.length+1) c8) (l.length+1) (bb (l.take l.length)++[KW v.kind,KW v.num,.string v.text]) rfl h'.out _ 0 _ [] rfl ⟨rfl,by simp,fun h=>absurd h om⟩ (by unfold maxLen;omega) om (by have:=Z.size;omega) ?_;intro v9 w9 D e' a'))
    all_goals (
     obtain⟨A9,c9,rfl⟩:=ay D;have l':Hid (aV w9 (.slice A9 (l.length+1+0) c9) (dF l v)):=jD (by rw[z'.out];exact mP D jS (by rw[fY,LX,Mz];rfl));have m':Hid (KY w w9):=jD (n'.out.trans (am e' (by have:=G.out.size;have:=Z.size;omega) (fun g h=>by have:=(ah h'.out h).1;have:=G.out.size;omega)));clear D e' a';go_wp2;exact Lc (v:=.slice A9 (l.length+1+0) c9) (by simp[results,results145,go_sem]) rfl ⟨_,rfl,l'.out,m'.out⟩)
mutual
theorem EY:∀x,(evV x).length<=ptN x
 | .mk o l a b c d e=>by
  have:=vF l;rw[evV,ptN,Le]
  split
  ·rw[Lo];omega
  ·rw[MG];omega
theorem vF:∀l,(ga l).length<=aU l
 | []=>by rw[ga,aU];simp
 | a::r=>by
  have:=EY a;have:=vF r;rw[ga,aU,Le];omega
end
end Go.Proofs.YtokconodddedhaaGreatDoor
