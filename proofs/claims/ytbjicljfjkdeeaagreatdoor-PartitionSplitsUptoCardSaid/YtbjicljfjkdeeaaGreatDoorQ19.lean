/- Part. -/
import Derived.Test.YtbjicljfjkdeeaaGreatDoorQ18
set_option maxRecDepth 100000
set_option maxHeartbeats 16000000
set_option linter.unusedVariables false
set_option linter.unusedSimpArgs false
namespace Go.Proofs.YtbjicljfjkdeeaaGreatDoor
open Go.Proofs.Tryz Go.RowKit
section
mutual
def V.lt (N:Nat):V->Bool
 | .p _=>true
 | .agg cs=>V.lts N cs
 | .tup cs=>V.lts N cs
 | .ref m=>decide (m<N)
 | .off m _ _=>decide (m<N)
 | .arr m _ _ _=>decide (m<N)
 | .fn _ a b=>V.lts N a&&V.lts N b
 | .yld _=>true
 | .junk=>true
def V.lts (N:Nat):List V->Bool
 | []=>true
 | x::l=>V.lt N x&&V.lts N l
end
theorem V.lts_get {N:Nat} {l:List V} (h:V.lts N l=true) {i:Nat} {t:V} (z:l[i]?=some t):t.lt N=true:=by
 induction l generalizing i with
 | nil=>simp at z
 | cons x l G =>
  rw[V.lts,My]at h
  cases i with
  | zero=>simp at z;exact z▸h.1
  | succ i=>exact G h.2 (jQ z)
mutual
theorem V.lt_mono {N G:Nat} (z:N<=G):∀(x:V),x.lt N=true->x.lt G=true
 | .p _,_=>by rw[V.lt]
 | .agg cs,h=>by rw[V.lt]at h ⊢;exact V.lts_mono z cs h
 | .tup cs,h=>by rw[V.lt]at h ⊢;exact V.lts_mono z cs h
 | .ref m,h=>by rw[V.lt]at h ⊢;exact Nm (ME (NB h) z)
 | .off m _ _,h=>by rw[V.lt]at h ⊢;exact Nm (ME (NB h) z)
 | .arr m _ _ _,h=>by rw[V.lt]at h ⊢;exact Nm (ME (NB h) z)
 | .fn _ a b,h=>by rw[V.lt,My]at h ⊢;exact⟨V.lts_mono z a h.1,V.lts_mono z b h.2⟩
 | .yld _,_=>by rw[V.lt]
 | .junk,_=>by rw[V.lt]
theorem V.lts_mono {N G:Nat} (z:N<=G):∀(l:List V),V.lts N l=true->V.lts G l=true
 | [],_=>by rw[V.lts]
 | x::l,h=>by rw[V.lts,My]at h ⊢;exact⟨V.lt_mono z x h.1,V.lts_mono z l h.2⟩
end
theorem Rv.old {n0 N N':Nat} {M M':Mem} {w w':World} (k:Ff n0 N N' M w M' w') {t:V} {v:Value} (h:Rv M w t v):t.lt N=true->Rv M' w' t v:=by
 have mp:∀(cs:List V) (vs:Array Value),V.lts N cs=true->(∀(i:Nat) (t:V) (v:Value),cs[i]?=some t->vs[i]?=some v->t.lt N=true->Rv M' w' t v) ->
   ∀(i:Nat) (t:V) (v:Value),cs[i]?=some t->vs[i]?=some v->Rv M' w' t v:=fun cs vs G I i t v h1 h2=>I i t v h1 h2 (V.lts_get G h1)
 induction h with
 | p t v h=>exact fun _=>.p t v (h.kept k.kp)
 | agg cs vs z h I=>intro G;rw[V.lt]at G;exact .agg _ vs z (mp cs vs G I)
 | tup cs vs z h I=>intro G;rw[V.lt]at G;exact .tup _ vs z (mp cs vs G I)
 | ref m G=>intro z;rw[V.lt]at z;rw[<-(k.hk m (NB z)).1]at G ⊢;exact .ref m G
 | off m i o=>intro z;rw[V.lt]at z;rw[<-(k.hk m (NB z)).1,<-(k.hk m (NB z)).2];exact .off m i o
 | arr m kk len full cap G hf=>intro z;rw[V.lt]at z;rw[<-(k.hk m (NB z)).1];exact .arr m kk len full cap G hf
 | fn f a b va vb O a' ha hb J Z=>intro z;rw[V.lt,My]at z;exact .fn f a b va vb O a' (mp a va z.1 J) (mp b vb z.2 Z)
 | yld i hi=>intro _;rw[<-(k.lm.2 i hi).1];exact .yld i (ME hi k.lm.1)
 | junk v=>exact fun _=>.junk v
def bef (ops:Array Oper):Nat->Nat->Nat->Bool
 | 0,_,_=>false
 | n+1,j,m=>match ops[m]? with
  | some o=>o.after.toList.any fun e=>Region.binds .any e&&(e.on==j || bef ops n j e.on)
  | none=>false
def okD (ops:Array Oper) (bar:Nat->Bool):Bool :=
 ((List.range ops.size).all fun m=>match ops[m]? with
  | some om=>(om.after.all fun e=>!Region.binds .any e || decide (e.on<m)) &&
   (List.range m).all fun j=>bef ops ops.size j m || (!(bar j&&bar m)&&match ops[j]? with|some oj=>oj.apart ops om|none=>true)
  | none=>true)
def frp (ops:Array Oper):List (Nat × Nat):=(List.range ops.size).flatMap fun m=>((List.range m).filter fun j=>!bef ops ops.size j m).map fun j=>(j,m)
def okS (ops:Array Oper):Bool :=
 (ops.toList.zipIdx.all fun x=>x.1.after.toList.all fun e=>!Region.binds .any e || decide (e.on<x.2))&&(frp ops).all fun q=>match ops[q.1]?,ops[q.2]? with|some oj,some om=>oj.apart ops om|_,_=>true
def okF (ops:Array Oper) (bar:Nat->Bool):Bool:=okS ops&&(frp ops).all fun q=>!(bar q.1&&bar q.2)
theorem oP {ops:Array Oper} {j m:Nat} (hm:m<ops.size) (h:j<m) (z:bef ops ops.size j m=false):(j,m)∈frp ops :=
 List.mem_flatMap.2 ⟨m,List.mem_range.2 hm,List.mem_map.2 ⟨j,List.mem_filter.2 ⟨List.mem_range.2 h,by rw[z];rfl⟩,rfl⟩⟩
theorem LH {ops:Array Oper} {bar:Nat->Bool} (h:okF ops bar=true):okD ops bar=true:=by
 unfold okF okS at h;rw[My,My]at h;obtain⟨⟨J,I⟩,O⟩:=h;refine List.all_eq_true.2 fun m hm=>?_
 have hm:=List.mem_range.1 hm;rw[MJ hm];simp only[My];refine⟨Array.all_eq_true_iff_forall_mem.2 fun e he=>?_,List.all_eq_true.2 fun j z=>?_⟩
 ·exact List.all_eq_true.1 (List.all_eq_true.1 J (ops[m],m) (List.mem_zipIdx_iff_getElem?.2 jS)) e (jQ he)
 ·have z:=List.mem_range.1 z
  cases G:bef ops ops.size j m with
  | true=>rfl
  | false =>
   have a:=List.all_eq_true.1 I _ (oP hm z G);have b:=List.all_eq_true.1 O _ (oP hm z G);have e:ops[j]?=some ops[j]:=MJ om;simp only[e,MJ hm]at a;rw[e,On,My];exact⟨b,a⟩
def Fy (T:List (Nat × V)) (d:Option Tmp) (x:V):List (Nat × V):=match d with|none=>T|some d=>pt T d x
def Lk (T:List (Nat × V)) (B:Sg) (ts:List Nat):Sg:=⟨B.obs,{ B.cur with l:=T.filter fun x=>ts.contains x.1 }::B.stk.tail,B.lps⟩
def Sg.wl (B:Sg) (T:List (Nat × V)):Sg:=⟨B.obs,{ B.cur with l:=T }::B.stk.tail,B.lps⟩
def tB (bar:Nat->Bool) (c:Nat):Bool:=c==0 || bar (c-1)
def inr (ops:Array Oper) (bar:Nat->Bool) (c j:Nat):Bool :=
 (List.range ops.size).all fun m=>!bar m || ((!bef ops ops.size m j || decide (m<c))&&(!bef ops ops.size j m || decide (c<=m)))
def Fr.bare (f:Fr):Fr:={ f with l:=[] }
def Sg.bare (σ:Sg):Sg:=⟨σ.obs,σ.cur.bare::σ.stk.tail,σ.lps⟩
structure TR (P:Program) (gl:Nat->Option (List Tr)) (ops:Array Oper) (bar kd:Nat->Bool) (T:Nat->List (Nat × V)) (B:Nat->Sg) (xs:Nat->V):Prop where
 nxt:∀(i:Nat) (o:Oper),ops[i]?=some o->T (i+1)=Fy (T i) o.dst (xs i)
 dst:∀(i:Nat) (o:Oper) (d:Tmp),ops[i]?=some o->o.dst=some d->d<(B 0).cur.n
 want:∀(i:Nat) (o:Oper),ops[i]?=some o->mf ops (Lk (T i) (B 0) (o.looksAt ops)) o=some (kd i)
 skip:∀(i:Nat) (o:Oper),ops[i]?=some o->kd i=false->xs i=.p (.at undef)/\bar i=false
 same:∀i,bar i=false->B (i+1)=B i
 bars:∀(i:Nat) (o:Oper),ops[i]?=some o->bar i=true->kd i=true/\(xs i).lt (nx (B (i+1)).obs)=true/\∃σ',kq P gl o (Lk (T i) (B i) (o.looksAt ops)) (xs i) σ'/\B (i+1)=σ'.bare
 quiet:∀(i:Nat) (o:Oper) (c:Nat),ops[i]?=some o->kd i=true->bar i=false->c<=ops.size->tB bar c=true->inr ops bar c i=true->QDoes P gl o (Lk (T i) (B c) (o.looksAt ops)) (xs i)/\(xs i).lt (nx (B c).obs)=true
 ini:∀t x,gt (T 0) t=some x->x.lt (nx (B 0).obs)=true
 nil:∀i,(B i).cur.l=[]
section
variable {ρ : Option Nat}
variable {P : Program} {gl : Nat -> Option (List Tr)} {n0 : Nat} {M M' : Mem} {w w' : World} {σ σ' : Sg} {S : List Rf} {a : Act} {o : Oper} {Q : Exit -> Sg -> Prop} {ops : Array Oper} {bar kd : Nat -> Bool}
variable {T : Nat -> List (Nat × V)} {B : Nat -> Sg} {xs : Nat -> V}
theorem SR.toBare (h:SR gl n0 M w σ (rf a ρ::S)):SR gl n0 M w σ.bare (rf a ρ::S):=by
 obtain⟨f,l,hs,hf⟩:=h.cur;have z:σ.cur=f:=by simp[Sg.cur,hs]
 have hk:=h.stk;rw[hs]at hk;refine h.less (fun n x h=>h) ?_ rfl (by simp only[Sg.bare,z,hs,List.tail_cons,MM];rfl);simp only[Sg.bare,z,hs,List.tail_cons];exact⟨hf.less rfl (fun s x G=>by cases G) rfl rfl,hk.2⟩
theorem SR.wl (h:SR gl n0 M w σ (rf a ρ::S)) {l:List (Nat × V)} (G:∀t x,gt l t=some x->∃v,a.tmps[t]?=some v/\Rv M w x v):SR gl n0 M w (σ.wl l) (rf a ρ::S):=by
 obtain⟨J,z,I⟩:=σ
 cases z with
 | nil=>exact h.stk.elim
 | cons f m =>
  have hf:=h.stk.1;exact⟨h.size,h.ob,h.apart,⟨⟨⟨hf.tm.1,G⟩,hf.rd,hf.rl,hf.ds,hf.dl,hf.dm⟩,h.stk.2⟩,h.gls,h.nl,h.lps,h.nd,h.sep⟩
theorem SR.act (h:SR gl n0 M w σ (rf a ρ::S)) (J:σ.cur.l=[]) (d:Option Tmp) (u:Value):SR gl n0 M w σ (rf (a.put d u) ρ::S):=by
 obtain⟨Z,z,O⟩:=σ
 cases z with
 | nil=>exact h.stk.elim
 | cons f m =>
  have hf:=h.stk.1;have G:f.l=[]:=J;refine⟨h.size,h.ob,h.apart,⟨⟨⟨?_,fun t x I=>by rw[G]at I;cases I⟩,hf.rd,hf.rl,?_,hf.dl,hf.dm⟩,h.stk.2⟩,h.gls,h.nl,h.lps,h.nd,h.sep⟩
  ·have:=hf.tm.1;show (a.put d u).tmps.size=_;rw[<-this];cases d<;>simp[Act.put,rf]
  ·show (a.put d u).defers=_;rw[put_defers];exact hf.ds
def val (ops:Array Oper) (T0:List (Nat × V)) (xs:Nat->V) (L:Nat->Bool):Nat->Nat->Option V
 | 0,t=>gt T0 t
 | m+1,t=>if L m=true/\(ops[m]?).bind (·.dst)=some t then some (xs m) else val ops T0 xs L m t
theorem qh {T0:List (Nat × V)} {L L':Nat->Bool} {t:Nat}:∀{m:Nat},(∀i,i<m->(ops[i]?).bind (·.dst)=some t->L i=L' i)->val ops T0 xs L m t=val ops T0 xs L' m t
 | 0,_=>rfl
 | m+1,h=>by
  have G:=qh (m:=m) (t:=t) (L:=L) (L':=L') (T0:=T0) (fun i I=>h i om);rw[val,val,G]
  by_cases z:(ops[m]?).bind (·.dst)=some t
  ·have:=h m om z;rw[this]
  ·rw[Mo (fun e=>z e.2),Mo (fun e=>z e.2)]
theorem KN {T0:List (Nat × V)} {j:Nat} {t:Nat}:∀{m:Nat},j<=m->val ops T0 xs (fun i=>decide (i<j)) m t=val ops T0 xs (fun i=>decide (i<j)) j t
 | m,h=>by
  induction m with
  | zero=>rw[show j=0 by omega]
  | succ m G =>
   by_cases z:j=m+1
   ·rw[z]
   ·rw[val,Mo (fun e=>by have:=e.1;simp at this;omega),G om]
theorem qO (z:TR P gl ops bar kd T B xs) {t:Nat}:∀{j:Nat},j<=ops.size->val ops (T 0) xs (fun i=>decide (i<j)) j t=gt (T j) t
 | 0,_=>rfl
 | j+1,hj=>by
  have G:ops[j]?=some ops[j]:=MJ om;rw[z.nxt j _ G,val,G,MR];have I:=qO z (t:=t) (j:=j) om;have e:val ops (T 0) xs (fun i=>decide (i<j+1)) j t=gt (T j) t:=by rw[<-I];exact qh fun i O _=>by simp;omega
  rw[e]
  cases J:ops[j].dst with
  | none=>rw[Mo jS];rfl
  | some d =>
   show _=gt (pt (T j) d (xs j)) t;rw[xV]
   by_cases h:d=t
   ·subst h;rw[Mp ⟨by simp,rfl⟩,Mp rfl]
   ·rw[Mo (fun e=>h (MX e.2)),Mo h]
def Gd (ops:Array Oper) (listed:Array Bool):Prop:=∀m o,ops[m]?=some o->listed.getD m false=true->∀e∈o.after,Region.binds .any e=true->listed.getD e.on false=true
theorem iP {listed:Array Bool} (z:Gd ops listed):∀(n:Nat) {j m:Nat},bef ops n j m=true->listed.getD m false=true->listed.getD j false=true
 | 0,j,m,h,_=>by cases h
 | n+1,j,m,h,hm=>by
  rw[bef]at h
  split at h
  ·rename_i o G
   rw[O7]at h;obtain⟨e,he,h⟩:=h;rw[Array.mem_toList_iff]at he;simp only[My,MU,MO]at h;have:=z m o G hm e he h.1;rcases h.2 with h|h
   ·exact h▸this
   ·exact iP z n h this
  ·cases h
theorem ta {listed:Array Bool} (G:Gd ops listed) {n:Nat} {j m:Nat} (h:bef ops n j m=true) (hm:m∈Region.ready .any ops listed):listed.getD j false=true:=by
 cases n with
 | zero=>cases h
 | succ n =>
  obtain⟨-,o,I,z⟩:=mem_ready.1 hm;rw[bef,I]at h;simp only[]at h;rw[O7]at h;obtain⟨e,he,h⟩:=h;rw[Array.mem_toList_iff]at he;simp only[My,MU,MO]at h;have:=z e he h.1;rcases h.2 with h|h
  ·exact h▸this
  ·exact iP G n h this
theorem wO (h:okD ops bar=true) {m:Nat} {o:Oper} (z:ops[m]?=some o) {e:Edge} (he:e∈o.after) (G:Region.binds .any e=true):e.on<m:=by
 have:=List.all_eq_true.1 h m (List.mem_range.2 (Array.getElem?_eq_some_iff.1 z).1);rw[z]at this;simp only[My]at this;have:=Array.all_eq_true_iff_forall_mem.1 this.1 e he
 simpa [G] using this
theorem yo (h:okD ops bar=true) {j m:Nat} {G om:Oper} (z:j<m) (I:ops[j]?=some G) (hm:ops[m]?=some om):bef ops ops.size j m=true\/(bar j&&bar m)=false/\G.apart ops om=true:=by
 have:=List.all_eq_true.1 h m (List.mem_range.2 (Array.getElem?_eq_some_iff.1 hm).1);rw[hm]at this;simp only[My]at this;have:=List.all_eq_true.1 this.2 j (List.mem_range.2 z);rw[I]at this
 simpa only [MU,My,M4] using this
theorem vO {listed:Array Bool} {j:Nat} (h:j<listed.size):listed.getD j true=listed.getD j false:=by simp[h]
theorem lI {f g:Nat->Bool} {j:Nat}:∀{n:Nat},j<n->f j=false->g j=true->(∀i,i≠j->g i=f i)->(List.range n).countP g=(List.range n).countP f+1
 | 0,h,_,_,_=>by omega
 | n+1,h,h1,h2,h3=>by
  rw[List.range_succ,List.countP_append,List.countP_append]
  by_cases z:j=n
  ·subst z;have:(List.range j).countP g=(List.range j).countP f:=List.countP_congr fun i G=>by rw[h3 i (by have:=List.mem_range.1 G;omega)]
   rw[this];simp[h1,h2]
  ·rw[lI om h1 h2 h3,List.countP_singleton,List.countP_singleton,h3 n (MT z)];omega
structure Inv (P:Program) (gl:Nat->Option (List Tr)) (ops:Array Oper) (bar:Nat->Bool) (T:Nat->List (Nat × V)) (B:Nat->Sg) (xs:Nat->V) (n0 N:Nat) (M0:Mem) (w0:World) (S:List Rf) (ρ:Option Nat) (listed:Array Bool) (a:Act) (w:World) (b:Nat) (M:Mem):Prop where
 le:b<=ops.size
 can:tB bar b=true
 size:listed.size=ops.size
 down:Gd ops listed
 below:Below n0 w0 w
 ff:Ff n0 N (nx (B b).obs) M0 w0 M w
 bars:∀i,i<ops.size->bar i=true->(listed.getD i false=true↔i<b)
 sr:SR gl n0 M w (B b) (rf a ρ::S)
 nn:a.tmps.size=(B 0).cur.n
 fr:∀t x,val ops (T 0) xs (fun i=>listed.getD i false) ops.size t=some x->∃v,a.tmps[t]?=some v/\Rv M w x v
 old:∀t x,val ops (T 0) xs (fun i=>listed.getD i false) ops.size t=some x->x.lt (nx (B b).obs)=true
theorem kU {z om:Oper} (h:z.apart ops om=true):(∀d,z.dst=some d->d∉om.looksAt ops)/\(∀d,z.dst=some d->om.dst≠some d)/\(∀d,om.dst=some d->d∉z.looksAt ops):=Oper.apart_spec h
theorem anyD {n N:Nat} (u':okD ops bar=true) (tr:TR P gl ops bar kd T B xs) (hQ:Q .normal ((B ops.size).wl (T ops.size)))
  {M0:Mem} {w0:World}:∀(fuel:Nat) (listed:Array Bool) (a:Act) (w:World) (b:Nat) (M:Mem),ops.size<=fuel+(List.range ops.size).countP (fun i=>listed.getD i false) ->
   Inv P gl ops bar T B xs n0 N M0 w0 S ρ listed a w b M->wpAnyIn (Rnd ρ) n P .any ops (Aft gl n0 N M0 w0 S ρ Q) fuel listed a w:=by
 have const:∀(c j:Nat),c<=j->(∀i,c<=i->i<j->bar i=false)->B j=B c:=by
  intro c j S'
  induction j with
  | zero=>intro _;rw[show c=0 by omega]
  | succ j ih =>
   intro hb
   by_cases hc:c=j+1
   ·rw[hc]
   ·rw[tr.same j (hb j om om),ih om fun i h1 h2=>hb i h1 om]
 have fin:∀(listed:Array Bool) (a:Act) (w:World) (b:Nat) (M:Mem),Inv P gl ops bar T B xs n0 N M0 w0 S ρ listed a w b M->Region.ready .any ops listed=[]->Aft gl n0 N M0 w0 S ρ Q .normal a w:=by
  intro listed a w b M I hr;have q':∀i,i<ops.size->listed.getD i false=true:=by
   intro i
   induction i using Nat.strongRecOn with
   | _ i ih =>
    intro J
    cases hl:listed.getD i false with
    | true=>rfl
    | false =>
     have:i∈Region.ready .any ops listed:=mem_ready.2 ⟨by rw[vO (by rw[I.size];exact J)];exact hl,ops[i],MJ J,fun e he hb=>by
      have:=wO u' (MJ J) he hb;exact ih e.on this om⟩
     rw[hr]at this;cases this
  have hB:B ops.size=B b:=const b ops.size I.le fun i h1 h2=>by
   cases hb:bar i with
   | false=>rfl
   | true=>have:=(I.bars i h2 hb).1 (q' i h2);omega
  have hv:∀t,val ops (T 0) xs (fun i=>listed.getD i false) ops.size t=gt (T ops.size) t:=fun t=>by
   rw[<-qO tr (t:=t) (Mt _)];exact qh fun i J _=>by rw[q' i J];simp[J]
  rw[hB]at hQ;exact⟨M,(B b).wl (T ops.size),I.below,I.ff,I.sr.wl fun t x hx=>I.fr t x (by rw[hv t];exact hx),hQ⟩
 intro fuel
 induction fuel with
 | zero =>
  intro listed a w b M hf I;have hr:Region.ready .any ops listed=[]:=by
   cases hr:Region.ready .any ops listed with
   | nil=>rfl
   | cons i l =>
    have J:i∈Region.ready .any ops listed:=by rw[hr];simp
    obtain⟨h1,o,ho,-⟩:=mem_ready.1 J;have Z:=(Array.getElem?_eq_some_iff.1 ho).1;rw[vO (by rw[I.size];exact Z)]at h1;have hc:=lI (f:=fun i=>listed.getD i false) (g:=fun j=>if j=i then true else listed.getD j false) Z h1 jS (fun j hj=>by simp[hj]);have:=List.countP_le_length (p:=fun j=>if j=i then true else listed.getD j false) (l:=List.range ops.size);rw[Pg]at this;omega
  exact⟨hr,fin listed a w b M I hr⟩
 | succ fuel ih =>
  intro listed a w b M hf I;refine⟨fin listed a w b M I,fun j hj=>?_⟩;obtain⟨c',o,ho,E'⟩:=mem_ready.1 hj;have Z:=(Array.getElem?_eq_some_iff.1 ho).1;rw[vO (by rw[I.size];exact Z)]at c'
  let L':=listed.setIfInBounds j true
  have f':∀i,L'.getD i false=if i=j then true else listed.getD i false:=fun i=>by
   by_cases J:i=j
   ·subst J;simp[L',I.size,Z]
   ·rw[Mo J];exact Oz false (MT J)
  have j':ops.size<=fuel+(List.range ops.size).countP (fun i=>L'.getD i false):=by
   have:=lI (f:=fun i=>listed.getD i false) (g:=fun i=>L'.getD i false) Z c' (by rw[f'];simp) (fun i J=>by rw[f',Mo J]);omega
  have i':Gd ops L':=fun m om hm hl e he hb=>by
   rw[f']at hl ⊢
   split
   ·rfl
   ·by_cases p':m=j
    ·subst p';rw[ho]at hm;cases hm;exact E' e he hb
    ·rw[Mo p']at hl;exact I.down m om hm hl e he hb
  have d':∀m om,ops[m]?=some om->m≠j->m<j/\listed.getD m false=true\/j<m/\listed.getD m false=false\/(bar j&&bar m)=false/\(∀d,om.dst=some d->d∉o.looksAt ops)/\(∀d,om.dst=some d->o.dst≠some d):=by
   intro m om hm p';rcases Nat.lt_or_gt_of_ne p' with G|G
   ·rcases yo u' G hm ho with h|⟨h1,h3⟩
    ·exact .inl ⟨G,ta I.down h hj⟩
    ·have:=kU h3;exact .inr (.inr ⟨by rw[Bool.and_comm];exact h1,this.1,this.2.1⟩)
   ·rcases yo u' G ho hm with h|⟨h1,h3⟩
    ·refine .inr (.inl ⟨G,?_⟩)
     cases hl:listed.getD m false with
     | false=>rfl
     | true=>have:=iP I.down _ h hl;rw[this]at c';cases c'
    ·have:=kU h3;exact .inr (.inr ⟨h1,this.2.2,fun d hd e=>this.2.1 d e hd⟩)
  have t':∀t,t∈o.looksAt ops->val ops (T 0) xs (fun i=>listed.getD i false) ops.size t=gt (T j) t:=by
   intro t ht;rw[<-qO tr (t:=t) (Nat.le_of_lt Z),<-KN (m:=ops.size) (Nat.le_of_lt Z)];refine qh fun i J hd=>?_
   have C':ops[i]?=some ops[i]:=MJ J;rw[C',MR]at hd
   by_cases k':i=j
   ·subst k';rw[c'];simp
   ·rcases d' i _ C' k' with h|h|h
    ·rw[h.2];simp[h.1]
    ·rw[h.2];simp;omega
    ·exact (h.2.1 t hd ht).elim
  have h':SR gl n0 M w (Lk (T j) (B b) (o.looksAt ops)) (rf a ρ::S):=I.sr.wl fun t x hx=>by
   rw[sw (fun t=>(o.looksAt ops).contains t)]at hx
   split at hx
   ·rename_i hm;exact I.fr t x (by rw[t' t (jQ hm)];exact hx)
   ·cases hx
  have s':∀t,val ops (T 0) xs (fun i=>L'.getD i false) ops.size t=if o.dst=some t then some (xs j) else val ops (T 0) xs (fun i=>listed.getD i false) ops.size t:=by
   intro t
   by_cases z:o.dst=some t
   ·rw[Mp z];have step:∀m,j<m->m<=ops.size->val ops (T 0) xs (fun i=>L'.getD i false) m t=some (xs j):=by
     intro m
     induction m with
     | zero=>intro h;omega
     | succ m I' =>
      intro h1 h2;rw[val]
      by_cases hm:m=j
      ·subst hm;rw[Mp ⟨by rw[f'];simp,by rw[ho];exact z⟩]
      ·have y':ops[m]?=some ops[m]:=MJ om;rw[Mo,I' om om];rintro⟨q2,q3⟩;rw[f',Mo hm]at q2;rw[y',MR]at q3;rcases d' m _ y' hm with h|h|h
       ·omega
       ·rw[h.2]at q2;cases q2
       ·exact h.2.2 t q3 z
    exact step _ Z (Mt _)
   ·rw[Mo z];refine qh fun i J B'=>?_
    rw[f']
    split
    ·rename_i he;subst he;rw[ho]at B';exact (z B').elim
    ·rfl
  have n':∀(b':Nat) (M':Mem) (u:Value) (w':World),Ff n0 (nx (B b).obs) (nx (B b').obs) M w M' w'->Rv M' w' (xs j) u->(xs j).lt (nx (B b').obs)=true ->
    (∀t x,val ops (T 0) xs (fun i=>L'.getD i false) ops.size t=some x->∃v,(a.put o.dst u).tmps[t]?=some v/\Rv M' w' x v) /\
    (∀t x,val ops (T 0) xs (fun i=>L'.getD i false) ops.size t=some x->x.lt (nx (B b').obs)=true):=by
   intro b' M' u w' g' hr G;refine⟨fun t y hy=>?_,fun t y hy=>?_⟩
   ·rw[s']at hy
    by_cases z:o.dst=some t
    ·rw[Mp z]at hy;cases hy;have:=tr.dst j o t ho z;refine⟨u,?_,hr⟩;rw[z];simp[Act.put,I.nn,this]
    ·rw[Mo z]at hy;obtain⟨v,h1,h2⟩:=I.fr t y hy;refine⟨v,?_,h2.old g' (I.old t y hy)⟩
     cases N':o.dst with
     | none=>exact h1
     | some d=>simp only[Act.put];rw[PA (fun e=>z (by rw[N',e]))];exact h1
   ·rw[s']at hy
    by_cases z:o.dst=some t
    ·rw[Mp z]at hy;cases hy;exact G
    ·rw[Mo z]at hy;exact V.lt_mono g'.nn _ (I.old t y hy)
  have z':∀u,(a.put o.dst u).tmps.size=(B 0).cur.n:=fun u=>by rw[<-I.nn];cases hd:o.dst<;>simp[Act.put]
  have m':bar j=false->(xs j).lt (nx (B b).obs)=true->∀(F:Nat->Nat) (u:Value) (w':World),Mm w w'->(∀k,k<w.heap.size->F k=M.F k)->Rv { M with F:=F } w' (xs j) u ->
    wpAnyIn (Rnd ρ) n P .any ops (Aft gl n0 N M0 w0 S ρ Q) fuel L' (a.put o.dst u) w':=by
   intro hb l' F u w' O hF hr;have hg:=I.sr.grow O F hF;have g':Ff n0 (nx (B b).obs) (nx (B b).obs) M w { M with F:=F } w':=.grow O hF I.sr.size;obtain⟨s1,s2⟩:=n' b _ u w' g' hr l';refine ih L' (a.put o.dst u) w' b { M with F:=F } j' ⟨I.le,I.can,by simp[L',I.size],i',I.below.trans (O.mono I.sr.size),I.ff.trans g',fun i J a'=>?_,?_,z' u,s1,s2⟩
   ·rw[f',Mo (fun e=>by subst e;rw[hb]at a';cases a')];exact I.bars i J a'
   ·exact hg.act (tr.nil b) o.dst u
  unfold wpOpIn;rw[ho];simp only[];have hw:=tr.want j o ho;have G':mf ops (Lk (T j) (B b) (o.looksAt ops)) o=some (kd j):=hw;rw[xr h' G']
  cases D':kd j with
  | false =>
   obtain⟨hx,hb⟩:=tr.skip j o ho D';rw[Mo jS];exact⟨fun _ _=>trivial,m' hb (by rw[hx,V.lt]) M.F undef w (Mr _ _) (fun _ _=>rfl) (by rw[hx];exact .p _ _ (.at _))⟩
  | true =>
   rw[Mp rfl]
   cases hb:bar j with
   | false =>
    obtain⟨hq,l'⟩:=tr.quiet j o b ho D' hb I.le I.can (List.all_eq_true.2 fun m hm=>by
     have H':=List.mem_range.1 hm
     cases P':bar m with
     | false=>rfl
     | true =>
      have J:=I.bars m H' P';simp only[Nk,On,My,MU,M4,MK];constructor
      ·cases x':bef ops ops.size m j with
       | false=>exact .inl rfl
       | true=>exact .inr (J.1 (ta I.down x' hj))
      ·cases x':bef ops ops.size j m with
       | false=>exact .inl rfl
       | true =>
        refine .inr (Nat.le_of_not_lt fun G=>?_);have:=iP I.down _ x' (J.2 G);rw[this]at c';cases c')
    exact hq n0 M w S a ρ h' _ _ n fun F u w' O hF hr=>m' hb l' F u w' O hF hr
   | true =>
    obtain⟨-,l',σ',hd,A'⟩:=tr.bars j o ho hb;have R':b<=j:=Nat.le_of_not_lt fun h=>by have:=(I.bars j Z hb).2 h;rw[this]at c';cases c'
    have J':B j=B b:=const b j R' fun i h1 h2=>by
     cases a':bar i with
     | false=>rfl
     | true =>
      have F':i<ops.size:=by omega
      rcases d' i _ (MJ F') om with h|h|h
      ·have:=(I.bars i F' a').1 h.2;omega
      ·omega
      ·rw[hb,a']at h;cases h.1
    rw[J']at hd;refine hd n0 M w S a ρ h' _ _ n fun M' u w' O g' O' hr=>?_
    have r':Ff n0 (nx (B b).obs) (nx (B (j+1)).obs) M w M' w':=by rw[A'];exact g'
    obtain⟨s1,s2⟩:=n' (j+1) M' u w' r' hr l';refine ih L' (a.put o.dst u) w' (j+1) M' j' ⟨Z,by simp[tB,hb],by simp[L',I.size],i',I.below.trans O,I.ff.trans r',fun i J a'=>?_,?_,z' u,s1,s2⟩
    ·rw[f']
     by_cases k':i=j
     ·subst k';simp
     ·rw[Mo k'];have:=I.bars i J a';constructor
      ·intro h;have:=this.1 h;omega
      ·intro h;rcases d' i _ (MJ J) k' with h2|h2|h2
       ·exact h2.2
       ·omega
       ·rw[hb,a']at h2;cases h2.1
    ·rw[A'];exact O'.toBare.act rfl o.dst u
theorem AW.drawn (hm:P.follows .mixedOrders=true) {id:Nat} (Z:okD ops bar=true) (tr:TR P gl ops bar kd T B xs) (hT:T 0=σ.cur.l) (hB:B 0=σ.bare) (hQ:Q .normal ((B ops.size).wl (T ops.size))):AW P gl (.region id ops true) Q σ:=fun n0 M w S a ρ n hs=>by
 refine wpIn_region_any hm (anyD Z tr hQ (M0:=M) (w0:=w) ops.size _ a _ 0 M (Nat.le_add_right _ _) ?_);have z:Mm w { w with drawn:=w.drawn+1 }:=⟨rfl,rfl,rfl,Mt _,fun _ _=>rfl⟩;have hd:SR gl n0 M { w with drawn:=w.drawn+1 } σ (rf a ρ::S):=hs.grow z M.F (fun _ _=>rfl);have J:∀i,(Array.replicate ops.size false).getD i false=false:=fun i=>by
  simp only[PH,Array.getElem?_replicate];split<;>rfl
 have G:∀m t,val ops (T 0) xs (fun i=>(Array.replicate ops.size false).getD i false) m t=gt (T 0) t:=by
  intro m t
  induction m with
  | zero=>rfl
  | succ m ih=>rw[val,Mo,ih];rintro⟨q,-⟩;rw[J]at q;cases q
 have I:Gd ops (Array.replicate ops.size false):=fun m o _ hm=>by rw[J]at hm;cases hm
 obtain⟨f,l,O,hf⟩:=hd.cur;have hc:σ.cur=f:=by simp[Sg.cur,O]
 refine⟨Mu _,rfl,by simp,I,z.mono hs.size,?_,fun i hi hb=>⟨fun h=>(by rw[J]at h;cases h),fun h=>by omega⟩,by rw[hB];exact hd.toBare,?_,fun t y hy=>?_,fun t y hy=>?_⟩
 ·rw[hB];exact .grow z (fun _ _=>rfl) hs.size
 ·rw[hB];show a.tmps.size=σ.cur.n;rw[hc];exact hf.tm.1
 ·rw[G,hT,hc]at hy;exact hf.tm.2 t y hy
 ·rw[G]at hy;exact tr.ini t y hy
end
end
section
def Mem.loop (M:Mem) (L Q:Nat):Mem:={ M with lp:=fun j=>if j=M.nl then L else M.lp j,mq:=fun j=>if j=M.nl then Q else M.mq j,nl:=M.nl+1 }
def Sg.ent (σ:Sg) (ps:Array Tmp) (h z:Code):Sg :=
 ⟨σ.obs,{ σ.cur with ds:=match σ.cur.rd with|none=>σ.lps.length::σ.cur.ds|some _=>σ.cur.ds }::σ.stk.tail,σ.lps++[⟨σ.cur,ps,h,z,.ready,none⟩]⟩
def Sg.setLp (σ:Sg) (i:Nat) (lp:Lp):Sg:=⟨σ.obs,σ.stk,σ.lps.set i lp⟩
def rfr (lp:Lp) (i:Nat) (xs:List V):Fr:={ n:=lp.fr.n,l:=(lp.ps.toList.zip xs).foldl (fun l x=>pt l x.1 x.2) lp.fr.l,rd:=some i,ds:=[] }
def B1 (i:Nat):Fr:={ n:=0,l:=[],rd:=some i,ds:=[] }
section
variable {ρ : Option Nat}
variable {P : Program} {gl : Nat -> Option (List Tr)} {n0 : Nat} {M M' : Mem} {w w' : World} {σ σ' : Sg} {S : List Rf} {a : Act} {o : Oper} {Q : Exit -> Sg -> Prop}
theorem pn (M:Mem) (L Q:Nat):LM M (M.loop L Q):=⟨Nat.le_succ _,fun i h=>⟨Mo om,Mo om⟩⟩
theorem Stk.dsl:∀{l:List Fr} {S:List Rf},Stk M w l S->∀i∈l.flatMap (·.ds),i<M.nl
 | [],[],_,i,h=>by cases h
 | f::l,t::S,h,i,hi=>by
  rw[MM,NC]at hi;exact hi.elim (h.1.dl i) (Stk.dsl h.2 i)
 | [],_::_,h,_,_=>h.elim
 | _::_,[],h,_,_=>h.elim
theorem SR.loop (h:SR gl n0 M w σ S) {L D:Nat} {lp:Lp} {fid:FuncId} {T:Array Value} {ds:Option (List Deferred)}
  (hL:w.heap[L]?=some (.loop { state:=lp.st,pending:=lp.pend,fn:=fid,tmps:=T,params:=lp.ps,assign:=lp.asg,body:=lp.bd,defers:=D })) (hQ:w.heap[D]?=some (.deferred ds)) (h0:n0<=L) (h1:n0<=D)
  (ht:TmOk M w lp.fr T) (a':∀j,j<M.nl->L≠M.lp j):SR gl n0 (M.loop L D) w ⟨σ.obs,σ.stk,σ.lps++[lp]⟩ S:=by
 have J:=pn M L D;have kp:Kept M.F w (M.loop L D).F w:=fun b j u hj he=>⟨he,hj⟩
 have hκ:∀t v,Rv M w t v->Rv (M.loop L D) w (id t) v:=fun t v k=>k.kept (M':=M.loop L D) kp rfl rfl J
 have c':∀x:Ob,x.mp id=x:=fun x=>by cases x<;>simp[Ob.mp]
 have G:∀f:Fr,Fr.mp id f=f:=fun f=>by cases f;simp[Fr.mp]
 have I:∀i O,(σ.lps++[lp])[i]?=some O->LpOk n0 (M.loop L D) w i O:=by
  intro i O z
  by_cases Z:i<M.nl
  ·rw[MQ (by rw[h.nl];exact Z)]at z;have:=(h.lps i O z).move (M':=M.loop L D) (κ:=id) hκ (J.2 i Z).1 (J.2 i Z).2 rfl rfl;rw[G]at this;exact this
  ·rw[M7 (by rw[h.nl];omega),h.nl]at z;have f':i=M.nl:=by
    have:=(List.getElem?_eq_some_iff.1 z).1;simp only[MH]at this;omega
   subst f';rw[Nat.sub_self]at z
   cases z
   refine⟨fid,T,by simp[Mem.loop,hL],⟨ds,by simp[Mem.loop,hQ]⟩,by simpa [Mem.loop] using h0,by simpa [Mem.loop] using h1,?_⟩;have:=ht.mp hκ
   rwa [G]at this
 have hlen:(σ.lps++[lp]).length=M.nl+1:=by rw[Mw,h.nl];rfl
 refine⟨h.size,fun n x hx=>?_,h.apart,?_,fun g cs hg=>(h.gls g cs hg).kept kp,hlen,I,?_,fun i j z hj=>⟨fun e=>?_,fun d' e=>?_⟩⟩
 ·have:=(h.ob n x hx).move (M':=M.loop L D) (κ:=id) hκ kp rfl rfl (fun g hg=>⟨rfl,rfl⟩)
  rwa [c']at this
 ·have:=h.stk.mp hκ J (fun i z=>rfl);rw[show σ.stk.map (Fr.mp id)=σ.stk by rw[show Fr.mp id=id from funext G];simp]at this;exact this
 ·have:(σ.stk.flatMap (·.ds)).map (M.loop L D).mq=(σ.stk.flatMap (·.ds)).map M.mq:=Pz fun i z=>(J.2 i (h.stk.dsl i z)).2
  rw[this];exact h.nd
 ·obtain⟨_,_,k1,-⟩:=I i _ (Mq (by rw[hlen];exact z));obtain⟨_,_,-,⟨_,k2⟩,-⟩:=I j _ (Mq (by rw[hlen];exact hj));rw[e,k2]at k1;cases k1
 ·have g':i<M.nl+1:=z;have h':j<M.nl+1:=hj;simp only[Mem.loop]at e
  split at e
  ·split at e
   ·omega
   ·exact a' j om e
  ·split at e
   ·exact a' i om e.symm
   ·exact (h.sep i j om om).2 d' e
theorem SR.mark {f:Fr} {l:List Fr} {i:Nat} {G:List (Nat × Ob)} {I:List Lp} {T:Array Value} {D:List Deferred} (h:SR gl n0 M w ⟨G,f::l,I⟩ (⟨T,D,ρ⟩::S)) (O:i<M.nl) (hm:w.heap[M.mq i]?=some (.deferred (some [])))
  (J:∀j∈(f::l).flatMap (·.ds),M.mq j≠M.mq i):SR gl n0 M w ⟨G,{ f with ds:=i::f.ds }::l,I⟩ (⟨T,mkD M i::D,ρ⟩::S):=by
 have hf:=h.stk.1;refine⟨h.size,h.ob,h.apart,⟨⟨hf.tm,hf.rd,hf.rl,?_,fun j z=>?_,fun j z=>?_⟩,h.stk.2⟩,h.gls,h.nl,h.lps,?_,h.sep⟩
 ·have:=hf.ds;simp only at this;simp[this]
 ·rcases List.mem_cons.1 z with rfl|z
  ·exact O
  ·exact hf.dl j z
 ·rcases List.mem_cons.1 z with rfl|z
  ·exact hm
  ·exact hf.dm j z
 ·have:=h.nd;simp only[MM,Oi,MF,Pv]at this ⊢;refine⟨fun e=>?_,this⟩;obtain⟨j,z,e⟩:=List.mem_map.1 e;exact J j (jQ z) e
theorem Ii (h:SR gl n0 M w σ (rf a ρ::S)) (fid:FuncId) (ps:Array Tmp) (I bd:Code):∃M' w' mark,(Instr.enterLoop fid a.tmps ps I bd ρ).run P w=.ok (M'.lp σ.lps.length,mark) w'/\Below n0 w w' /\
  Ff n0 (nx σ.obs) (nx σ.obs) M w M' w'/\SR gl n0 M' w' (σ.ent ps I bd) (rf { a with defers:=mark++a.defers } ρ::S):=by
 obtain⟨f,l,hs,hf⟩:=h.cur;have hc:σ.cur=f:=by simp[Sg.cur,hs]
 obtain⟨f',m',j'⟩:=σ;simp only at hs;subst hs;have hρ:ρ=f.rd.map M.lp:=hf.rd;have h':j'.length=M.nl:=h.nl;unfold Sg.ent;rw[hc];simp only[List.tail_cons,h']
 cases O:f.rd with
 | none =>
  rw[O]at hρ;have c':ρ=none:=hρ;subst c'
  let z:Loop:={ state:=.ready,pending:=none,fn:=fid,tmps:=a.tmps,params:=ps,assign:=I,body:=bd,defers:=w.heap.size }
  obtain⟨Z,a'⟩:=jF (w.alloc (.deferred (some [])));obtain⟨J,G⟩:=jF (Z.alloc (.loop z));have n':Z.heap.size=w.heap.size+1:=by rw[a'];simp
  have hb:Mm w J:=by
   rw[G,a'];exact ((Mr _ w).alloc (Mt _) _).alloc jS _
  have hg:=h.grow hb M.F (fun _ _=>rfl);have hQ:J.heap[w.heap.size]?=some (.deferred (some [])):=by
   rw[G,Nz Z _ _ om,a'];exact Nr w _
  have hL:J.heap[Z.heap.size]?=some (.loop z):=by rw[G];exact Nr Z _
  have k':=h.size;have d':=hg.loop (L:=Z.heap.size) (D:=w.heap.size) (lp:=⟨f,ps,I,bd,.ready,none⟩) (fid:=fid) (T:=a.tmps) hL hQ om k' hg.stk.1.tm (fun j hj e=>by have:=(h.lp_lt hj).1;simp only at e;omega);have i':((⟨M.F,M.h,M.k,M.lp,M.mq,M.nl⟩:Mem).loop Z.heap.size w.heap.size).mq M.nl=w.heap.size:=by simp[Mem.loop]
  have hm:=d'.mark (i:=M.nl) (by simp[Mem.loop]) (by rw[i'];exact hQ) (fun j hj=>by
   have g':=h.stk.dsl j hj;rw[i',((pn _ _ _).2 j g').2];have:=(h.lp_lt g').2;exact fun e=>by omega)
  refine⟨M.loop Z.heap.size w.heap.size,J,[mkD (M.loop Z.heap.size w.heap.size) M.nl],?_,hb.mono h.size,⟨fun _ _=>rfl,Kept.below hb fun _ _=>Mt _,fun _ _=>⟨rfl,rfl⟩,pn M _ _,Mt _⟩,?_⟩;rotate_left
  ·show SR gl n0 _ J ⟨f',({ n:=f.n,l:=f.l,rd:=none,ds:=M.nl::f.ds }:Fr)::l,_⟩ _;have e:({ n:=f.n,l:=f.l,rd:=none,ds:=M.nl::f.ds }:Fr)={ f with ds:=M.nl::f.ds }:=by rw[<-O]
   rw[e];exact hm
  simp[Instr.enterLoop,newObj,Sem.run,mkD,Mem.loop,G,a',z]
 | some j =>
  rw[O]at hρ;have c':ρ=some (M.lp j):=hρ;subst c';have hj:j<M.nl:=hf.rl j O;obtain⟨l',T',k1,⟨ds,k2⟩,k3,k4,k5⟩:=h.lps j _ (Mq (by rw[h'];exact hj))
  let z:Loop:={ state:=.ready,pending:=none,fn:=fid,tmps:=a.tmps,params:=ps,assign:=I,body:=bd,defers:=M.mq j }
  obtain⟨J,G⟩:=jF (w.alloc (.loop z));have hb:Mm w J:=by rw[G];exact (Mr _ w).alloc (Mt _) _
  have hg:=h.grow hb M.F (fun _ _=>rfl);have hL:J.heap[w.heap.size]?=some (.loop z):=by rw[G];exact Nr w _
  have hQ:J.heap[M.mq j]?=some (.deferred ds):=by rw[hb.block _ (h.lp_lt hj).2];exact k2
  have d':=hg.loop (L:=w.heap.size) (D:=M.mq j) (lp:=⟨f,ps,I,bd,.ready,none⟩) (fid:=fid) (T:=a.tmps) hL hQ h.size k4 hg.stk.1.tm (fun i hi e=>by have:=(h.lp_lt hi).1;simp only at e;omega);refine⟨M.loop w.heap.size (M.mq j),J,[],?_,hb.mono h.size,⟨fun _ _=>rfl,Kept.below hb fun _ _=>Mt _,fun _ _=>⟨rfl,rfl⟩,pn M _ _,Mt _⟩,?_⟩
  ·simp[Instr.enterLoop,Instr.getLoop,getObj,newObj,Sem.run,Mem.loop,G,k1,z]
  ·show SR gl n0 _ J ⟨f',({ n:=f.n,l:=f.l,rd:=some j,ds:=f.ds }:Fr)::l,_⟩ _;have e:({ n:=f.n,l:=f.l,rd:=some j,ds:=f.ds }:Fr)=f:=by rw[<-O]
   rw[e];exact d'
theorem SR.setLp (h:SR gl n0 M w σ S) {i:Nat} {lp:Lp} (hi:σ.lps[i]?=some lp):∃fid T,TmOk M w lp.fr T /\
  (Instr.getLoop (M.lp i)).run P w=.ok { state:=lp.st,pending:=lp.pend,fn:=fid,tmps:=T,params:=lp.ps,assign:=lp.asg,body:=lp.bd,defers:=M.mq i } w/\∀(st:LoopState) (pd:Option Code),∃w',
  (setObj (M.lp i) (.loop { state:=st,pending:=pd,fn:=fid,tmps:=T,params:=lp.ps,assign:=lp.asg,body:=lp.bd,defers:=M.mq i })).run P w=.ok () w'/\Below n0 w w'/\Kept M.F w M.F w'/\SR gl n0 M w' (σ.setLp i { lp with st:=st,pend:=pd }) S:=by
 obtain⟨fid,T,k1,⟨ds,k2⟩,k3,k4,k5⟩:=h.lps i lp hi;refine⟨fid,T,k5,by simp[Instr.getLoop,getObj,Sem.run,k1],fun st pd=>?_⟩;obtain⟨r,hr⟩:∃r:Loop,r={ state:=st,pending:=pd,fn:=fid,tmps:=T,params:=lp.ps,assign:=lp.asg,body:=lp.bd,defers:=M.mq i }:=⟨_,rfl⟩;rw[<-hr];have z:i<M.nl:=by rw[<-h.nl];exact (List.getElem?_eq_some_iff.1 hi).1
 have c':=(h.lp_lt z).1;obtain⟨w',G⟩:∃w',w'=({ w with heap:=w.heap.setIfInBounds (M.lp i) (.loop r) }:World):=⟨_,rfl⟩;have I:∀k,k≠M.lp i->w'.heap[k]?=w.heap[k]?:=fun k hk=>by rw[G];exact PA (MT hk)
 have d':w'.heap[M.lp i]?=some (.loop r):=by rw[G];simp[c']
 obtain⟨kp,hκ,f',i'⟩:=h.rest (w':=w') k1 rfl I;refine⟨w',by rw[G];simp[setObj,Sem.run,k1],?_,kp,?_⟩
 ·rw[G];exact⟨rfl,rfl,rfl,by simp,fun k hk=>by rw[<-I k om,G]⟩
 ·refine⟨by rw[G];simpa using h.size,f',h.apart,h.stk.rv hκ fun f hf j J=>I _ fun e=>(h.sep i j z (h.stk.dsl j (List.mem_flatMap.2 ⟨f,hf,J⟩))).1 e.symm,i',by simpa [Sg.setLp] using h.nl,fun j g' J=>?_,h.nd,h.sep⟩;simp only[Sg.setLp,OR]at J
  by_cases O:i=j
  ·subst O;rw[Mp rfl,Mp (by rw[h.nl];exact z)]at J
   cases J
   exact⟨fid,T,by rw[d',hr],⟨ds,by rw[I _ fun e=>(h.sep i i z z).1 e.symm];exact k2⟩,k3,k4,k5.rv hκ⟩
  ·rw[Mo O]at J;have Z:j<M.nl:=by rw[<-h.nl];exact (List.getElem?_eq_some_iff.1 J).1
   obtain⟨a',T',q1,⟨h',q2⟩,q3,q4,q5⟩:=h.lps j g' J;exact⟨a',T',by rw[I _ ((h.sep j i Z z).2 (MT O))];exact q1,⟨h',by rw[I _ fun e=>(h.sep i j z Z).1 e.symm];exact q2⟩,q3,q4,q5.rv hκ⟩
end
end
section
def yn (gl:Nat->Option (List Tr)) (σ:Sg) (o:Oper):Option (Nat × List V) :=
 match o.op with
 | .call c=>match c.callee with
  | .value f=>match evl gl σ f,mL gl σ c.args.toList with
   | some (.yld i),some xs=>some (i,xs)
   | _,_=>none
  | _=>none
 | _=>none
def uE (P:Program) (gl:Nat->Option (List Tr)) (σ:Sg) (g:Operand) (i:Nat):Option (FuncId × List V) :=
 match (evl gl σ g).bind kz with
 | some (f,a,b)=>if Kf P f then some (f,a++[.yld i]++b) else none
 | none=>none
def Ko:Exit->Option (Option Code)
 | .normal=>some none
 | .ret=>some (some .ret)
 | .exit id=>some (some (.exit id))
 | .goto t=>some (some (.goto t))
 | _=>none
def Ll (i:Nat) (x:V) (σ':Sg) (e:Exit) (τ:Sg):Prop:=∃lp h,τ.cur.rd=some i/\τ.lps[i]?=some lp/\Ko e=some h/\x=.p (.at (.bool h.isNone)) /\
 σ'=⟨τ.obs,τ.stk.tail,τ.lps.set i { lp with st:=if h.isNone then .ready else .done,pend:=h }⟩
def F8 (P:Program) (gl:Nat->Option (List Tr)) (Q:Exit->Sg->Prop) (h:Option Code) (σ:Sg):Prop :=
 match h with
 | none=>Q .normal σ
 | some c=>AW P gl c Q σ
section
variable {ρ : Option Nat}
variable {P : Program} {gl : Nat -> Option (List Tr)} {n0 : Nat} {M M' : Mem} {w w' : World} {σ σ' : Sg} {S : List Rf} {a : Act} {o : Oper} {Q : Exit -> Sg -> Prop}
theorem FF {i:Nat} {xs:List V} (z:yn gl σ o=some (i,xs)) (h:SR gl n0 M w σ (rf a ρ::S)):∃vs:List Value,Rvs M w xs vs/\i<M.nl/\(execOp a.eval o).run P w=(Instr.yield (M.lp i) vs.toArray).run P w:=by
 unfold yn at z;unfold execOp
 split at z
 ·rename_i c Z
  rw[Z]
  split at z
  ·rename_i q hq
   split at z
   ·rename_i j ys I O
    cases z
    have J:=aJ h I;refine⟨c.args.toList.map a.eval,gV h O,?_⟩;generalize hu:a.eval q=u at J
    cases J with
    | yld _ hi =>
     refine⟨hi,?_⟩;have G:(#[]++c.args.map a.eval:Array Value)=(c.args.toList.map a.eval).toArray:=by apply OG;simp
     simp only[resolve,hq,hu,Deferred.ofValue,MP,NE,M9,invoke,G]
   ·cases z
  ·cases z
 ·cases z
theorem SR.pop {r:Rf} (h:SR gl n0 M w σ (r::S)):SR gl n0 M w ⟨σ.obs,σ.stk.tail,σ.lps⟩ S:=by
 obtain⟨I,z,G⟩:=σ
 cases z with
 | nil=>exact h.stk.elim
 | cons f l =>
  refine⟨h.size,h.ob,h.apart,h.stk.2,h.gls,h.nl,h.lps,?_,h.sep⟩;have:=h.nd;simp only[MM,NY]at this;exact (List.nodup_append.1 this).2.1
theorem TmOk.puts:∀{ps:List Tmp} {xs:List V} {vs:List Value} {f:Fr} {T:Array Value},TmOk M w f T->(∀t∈ps,t<f.n)->Rvs M w xs vs ->
  TmOk M w { f with l:=(ps.zip xs).foldl (fun l x=>pt l x.1 x.2) f.l } ((ps.zip vs).foldl (fun T x=>T.setIfInBounds x.1 x.2) T)
 | [],xs,vs,f,T,h,_,_=>h
 | p::ps,[],[],f,T,h,_,_=>h
 | p::ps,[],v::vs,f,T,_,_,hr=>by have:=hr.1;simp at this
 | p::ps,x::xs,[],f,T,_,_,hr=>by have:=hr.1;simp at this
 | p::ps,x::xs,v::vs,f,T,h,hp,hr=>by
  have G:=h.put p (hp p jS) (hr.2 0 x v rfl rfl);exact TmOk.puts (f:={ f with l:=pt f.l p x }) G (fun t z=>hp t (by simp[z])) ⟨jQ hr.1,fun i t u z hu=>hr.2 (i+1) t u (jQ z) (jQ hu)⟩
theorem GP {T:Array Value} {D:List Deferred} {l:Nat} (h:SR gl n0 M w σ (⟨T,D,some l⟩::S)) {i:Nat} (z:σ.cur.rd=some i):M.lp i=l/\i<M.nl:=by
 obtain⟨f,m,hs,hf⟩:=h.cur;have G:σ.cur=f:=by simp[Sg.cur,hs]
 rw[G]at z;have:=hf.rd;rw[z]at this;exact⟨jQ this.symm,hf.rl i z⟩
theorem AI {i:Nat} {xs:List V} {lp:Lp} {x:V} (hc:yn gl σ o=some (i,xs)) (hl:σ.lps[i]?=some lp) (hn:xs.length=lp.ps.size) (hp:∀t∈lp.ps.toList,t<lp.fr.n)
  (hw:AW P gl lp.asg (fun e τ=>e=.normal/\∃z,τ.cur.rd=some i/\τ.lps[i]?=some z/\z.st=.ready/\AW P gl lp.bd (Ll i x σ') (τ.setLp i { z with st:=.busy })) ⟨σ.obs,rfr lp i xs::σ.stk,σ.lps⟩):kq P gl o σ x σ':=by
 intro n0 M w S a ρ h K Q n hk;obtain⟨vs,h1,hi,h2⟩:=FF (P:=P) hc h;obtain⟨fid,T,ht,hg,-⟩:=h.setLp (P:=P) hl;have g':¬vs.toArray.size≠lp.ps.size:=by have:=h1.1;simp only[N5];omega
 have c':(execOp a.eval o).run P w=.ok (.round (M.lp i) fid ((lp.ps.toList.zip vs).foldl (fun T x=>T.setIfInBounds x.1 x.2) T) lp.asg lp.bd) w:=by
  rw[h2,Instr.yield,MP,hg,M9];simp only[g',NJ,MP,NE,M9];congr 2;rw[<-Array.foldl_toList];simp
 refine⟨fun _ _=>trivial,?_⟩;rw[kG c' (fun d w' e=>by cases e) (fun x w' e=>by cases e)];refine⟨fun h=>(by cases h),roundIn_of_wpIn trivial ?_⟩;have h':SR gl n0 M w ⟨σ.obs,rfr lp i xs::σ.stk,σ.lps⟩ (rf ⟨(lp.ps.toList.zip vs).foldl (fun T x=>T.setIfInBounds x.1 x.2) T,[]⟩ (some (M.lp i))::rf a ρ::S) :=
  ⟨h.size,h.ob,h.apart,⟨⟨(ht.puts hp h1).less rfl (fun s x hx=>hx),rfl,fun j I=>(by cases I;exact hi),rfl,fun j I=>(by cases I),fun j I=>(by cases I)⟩,h.stk⟩,h.gls,h.nl,h.lps,by simpa [rfr] using h.nd,h.sep⟩
 refine OH (hw n0 M w (rf a ρ::S) _ (some (M.lp i)) (n-1) h') ?_;rintro e a1 w1 ⟨M1,τ,q1,q2,q3,rfl,z,r1,r2,r3,r4⟩;obtain⟨m1,m2⟩:=GP q3 r1;obtain⟨j',T1,-,O,Z⟩:=q3.setLp (P:=P) r2;obtain⟨w2,s1,s2,f',s3⟩:=Z .busy z.pend;rw[m1]at O s1;refine⟨w2,?_,?_⟩
 ·simp only[Instr.beginRound,MP,O,M9,s1,r3,NE]
 ·refine OH (r4 n0 M1 w2 (rf a ρ::S) a1 (some (M.lp i)) (n-1) s3) ?_;rintro e a3 w3 ⟨M3,τ3,t1,t2,t3,l',pd,u1,u2,u3,rfl,rfl⟩;obtain⟨m3,-⟩:=GP t3 u1;obtain⟨k',T3,-,J,G⟩:=t3.setLp (P:=P) u2;obtain⟨w4,v1,v2,i',v3⟩:=G (if pd.isNone then .ready else .done) pd;rw[m3]at J v1;have a':(Instr.endRound (M.lp i) pd).run P w3=.ok (.bool pd.isNone) w4:=by
   simp only[Instr.endRound,MP,J,M9,v1,NE]
  have d':K (a.put o.dst (.bool pd.isNone)) w4:=hk M3 _ w4 (((q1.trans s2).trans t1).trans v2) (((q2.trans (.same f')).trans t2).trans (.same i')) v3.pop (.p _ _ (.at _))
  cases e<;>cases u3<;>exact⟨_,w4,a',d'⟩
theorem AW.rangeFunc {g:Operand} {ps:Array Tmp} {z bd c:Code} {f:FuncId} {xs:List V} {fn:Func} (hc:uE P gl (σ.ent ps z bd) g σ.lps.length=some (f,xs)) (hf:P.funcs[f]?=some fn) (hb:fn.body=some c)
  (hw:AW P gl c (fun e τ=>(e=.normal\/e=.ret)/\(∃x,iN P τ fn=some x)/\∃lp,(τ.stk.tail.headD default).rd=some σ.lps.length/\τ.lps[σ.lps.length]?=some lp/\lp.st≠.busy /\
   F8 P gl Q lp.pend ⟨τ.obs,τ.stk.tail.tail,τ.lps.set σ.lps.length { lp with st:=.exhausted }⟩) ⟨σ.obs,frame fn xs::B1 σ.lps.length::(σ.ent ps z bd).stk,(σ.ent ps z bd).lps⟩):AW P gl (.rangeFunc g ps z bd) Q σ:=fun n0 M w S a ρ n hs=>by
 refine wpIn_rangeFunc fun fid _=>?_
 obtain⟨I,w1,mark,e1,e2,e3,J⟩:=Ii (P:=P) hs fid ps z bd;unfold uE at hc
 split at hc
 ·rename_i f' ca cb G
  split at hc
  ·rename_i p'
   cases hc
   cases he:evl gl (σ.ent ps z bd) g with
   | none=>rw[he]at G;cases G
   | some cv =>
    rw[he,MR]at G;obtain⟨va,vb,u1,u2,u3⟩:=sC (aJ J he) G;have s':a.eval g=.func (.func f) va.toArray vb.toArray:=u1;have h':σ.lps.length<I.nl:=by rw[<-J.nl];simp[Sg.ent]
    have d':Rvs I w1 (ca++[.yld σ.lps.length]++cb) (va++[Value.func (.yield (I.lp σ.lps.length)) #[] #[]]++vb):=(u2.append ⟨rfl,fun j t v ht hv=>by
     cases j with
     | zero=>cases ht;cases hv;exact .yld _ h'
     | succ j=>simp at ht⟩).append u3
    have n':SR gl n0 I w1 ⟨σ.obs,B1 σ.lps.length::(σ.ent ps z bd).stk,(σ.ent ps z bd).lps⟩ (⟨#[],[],some (I.lp σ.lps.length)⟩::rf { a with defers:=mark++a.defers } ρ::S) :=
     ⟨J.size,J.ob,J.apart,⟨⟨⟨rfl,fun t x hx=>(by cases hx)⟩,rfl,fun j hj=>(by cases hj;exact h'),rfl,fun j hj=>(by cases hj),fun j hj=>(by cases hj)⟩,J.stk⟩,J.gls,J.nl,J.lps,by simpa [B1] using J.nd,J.sep⟩
    have O:=pV hf hb n' d' (Q:=fun _ τ=>∃lp,τ.cur.rd=some σ.lps.length/\τ.lps[σ.lps.length]?=some lp/\lp.st≠.busy/\F8 P gl Q lp.pend ⟨τ.obs,τ.stk.tail,τ.lps.set σ.lps.length { lp with st:=.exhausted }⟩)
     (hw.mono fun e τ ⟨h1,⟨x,hx⟩,h2⟩=>⟨h1,x,hx,h2⟩)
    refine⟨I.lp σ.lps.length,mark,w1,{ target:=.fn (.func f) vb.toArray,args:=va.toArray++#[Value.func (.yield (I.lp σ.lps.length)) #[] #[]] },w1,f,(va++[Value.func (.yield (I.lp σ.lps.length)) #[] #[]]++vb).toArray,w1,e1,?_,fun _ _=>trivial,?_,fun h=>(by cases h),?_⟩
    ·simp only[resolve,rangeCall,Deferred.ofValue,s',NE];rw[show Array.map a.eval #[Operand.const (Value.func (.yield (I.lp σ.lps.length)) #[] #[])]=#[Value.func (.yield (I.lp σ.lps.length)) #[] #[]] by simp[Act.eval]]
    ·have:(va.toArray++#[Value.func (.yield (I.lp σ.lps.length)) #[] #[]]++vb.toArray:Array Value)=(va++[Value.func (.yield (I.lp σ.lps.length)) #[] #[]]++vb).toArray:=by apply OG;simp
     simp only[invoke,this];exact lP p' _
    ·refine nh.2 (O.mono ?_);rintro e w2 ⟨v,M2,x,τ,rfl,q1,q2,q3,q4,lp,r1,r2,r3,r4⟩;obtain⟨m1,m2⟩:=GP q3 r1;obtain⟨t',T2,-,l',i'⟩:=q3.setLp (P:=P) r2;obtain⟨Z,s1,s2,m',s3⟩:=i' .exhausted lp.pend;rw[m1]at l' s1;have a':(lp.st==LoopState.busy)=false:=by cases q':lp.st<;>first|rfl|exact (r3 q').elim
     have k':(Instr.endLoop (I.lp σ.lps.length)).run P w2=.ok lp.pend Z:=by
      simp only[Instr.endLoop,MP,l',M9,a',Bool.false_eq_true,NJ,NE,s1]
     have j':Below n0 w Z:=(e2.trans q1).trans s2;have g':Ff n0 (nx σ.obs) (nx τ.obs) M w M2 Z:=(e3.trans q2).trans (.same m');refine⟨lp.pend,Z,k',?_⟩;have key:∀(pd:Option Code) (σ2:Sg),nx σ2.obs=nx τ.obs->SR gl n0 M2 Z σ2 (rf { a with defers:=mark++a.defers } ρ::S)->F8 P gl Q pd σ2 ->
       (match pd with|none=>Aft gl n0 (nx σ.obs) M w S ρ Q .normal { a with defers:=mark++a.defers } Z|some c=>c.wpIn (Rnd ρ) n P (Aft gl n0 (nx σ.obs) M w S ρ Q) { a with defers:=mark++a.defers } Z):=by
      intro pd σ2 r' s4 r4;rw[<-r']at g'
      cases pd with
      | none=>exact⟨M2,_,j',g',s4,r4⟩
      | some c'=>exact OH (r4 n0 M2 Z S _ ρ n s4) fun _ _ _ k=>k.from j' g'
     refine key _ _ ?_ s3.pop r4;rfl
  ·cases hc
 ·cases hc
end
end
end Go.Proofs.YtbjicljfjkdeeaaGreatDoor
