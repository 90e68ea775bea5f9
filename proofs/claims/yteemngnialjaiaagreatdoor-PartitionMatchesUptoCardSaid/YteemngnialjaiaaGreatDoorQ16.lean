/- Part. -/
import Derived.Test.YteemngnialjaiaaGreatDoorQ15
set_option maxRecDepth 100000
set_option maxHeartbeats 16000000
set_option linter.unusedVariables false
set_option linter.unusedSimpArgs false
namespace Go.Proofs.YteemngnialjaiaaGreatDoor
open Go.Proofs.Tryz Go.RowKit
variable {ρ:Option Nat}{P:Program}{gl:Nat->Option (List Tr)}{n0 N K l id i j m t:Nat}{w w' I w0:World}{S:List Rf}{a:Act}{o:Oper}{ops:Array Oper}{b:Bool}{e:Exit}{J:List (Nat×Ob)}{c x y:Code}{d:Option Tmp}{v:Value}{bar:Nat->Bool}{listed:Array Bool}{D:List Deferred}{lp:Lp}{fid:FuncId}{T:Array Value}{ds:Option (List Deferred)}{Z:List Lp}
section
def iw(ops:Array Oper)(σ:Sg)(o:Oper):Option Bool :=
 match o.guard with
 | none=>some true
 | some (j,want)=>match ((ops[j]?).bind (·.dst)).bind (gt σ.cur.l) with
  | some x=>match x.toVal with
   | some (.bool b)=>some (b==want)
   | some _=>some false
   | none=>none
  | none=>none
def wpR(P:Program)(gl:Nat->Option (List Tr))(N:Nat)(ops:Array Oper)(K:Sg->Prop):List Oper->Sg->Prop
 | [],σ=>K σ
 | o::l,σ=>match iw ops σ o with
  | some true=>∃x σ' τ,DoesN N P gl o σ x σ'/\σ'.put o.dst x=some τ/\wpR P gl N ops K l τ
  | some false=>∃τ,σ.put o.dst (.p (.at undef))=some τ/\wpR P gl N ops K l τ
  | none=>False
section
variable {M M':Mem}{σ σ':Sg}{Q:Exit->Sg->Prop}
theorem xJ(h:SR gl n0 M w σ (rf a ρ::S))(hw:iw ops σ o=some b):Region.wanted o (yielded ops a.tmps)=b:=by
 unfold iw at hw;unfold Region.wanted
 split at hw
 ·rename_i hg;cases hw;rw[hg]
 ·rename_i j want hg
  rw[hg];simp only[]
  split at hw
  ·rename_i x I
   cases J:(ops[j]?).bind (·.dst) with
   | none=>rw[J]at I;cases I
   | some t =>
    rw[J,OY]at I;obtain⟨f,l,hs,hf⟩:=h.cur;have hc:σ.cur=f:=by simp[Sg.cur,hs]
    rw[hc]at I;obtain⟨v,h1,h2⟩:=hf.tm.2 t x I;have h1:a.tmps[t]?=some v:=h1;have hy:yielded ops a.tmps j=(match v with|.bool b=>some b|_=>none:Option Bool):=by
     unfold yielded;simp only[J,OY,h1]
     cases v<;>rfl
    rw[hy]
    split at hw
    ·rename_i c a'
     cases hw
     obtain rfl:=dJ h2 a'
     cases c<;>cases want<;>rfl
    ·rename_i u Z hu
     cases hw
     obtain rfl:=dJ h2 hu
     cases v<;>first|rfl|exact (Z _ rfl).elim
    ·cases hw
  ·cases hw
theorem Ff.tr{K':Nat}{J:Mem}(h:Ff n0 N K M w M' w')(k:Ff n0 N K' M' w' J I):Ff n0 N K' M w J I :=
 ⟨fun b Z=>(k.lo b Z).trans (h.lo b Z),h.kp.trans k.kp,fun n hn=>let ⟨a,b⟩:=h.hk n hn;let ⟨c,d⟩:=k.hk n hn;⟨c.trans a,d.trans b⟩,
  ⟨OP h.lm.1 k.lm.1,fun i hi=>let ⟨a,b⟩:=h.lm.2 i hi;let ⟨c,d⟩:=k.lm.2 i (OT hi h.lm.1);⟨c.trans a,d.trans b⟩⟩,k.nn⟩
theorem Aft.fr{Z:Mem}{J:Act}(hb:Below n0 w I)(hF:Ff n0 N K M w Z I)(h:Aft gl n0 N Z I S ρ Q e J w'):Aft gl n0 N M w S ρ Q e J w':=by
 obtain⟨M',σ',h2,h3,h4,h5⟩:=h;exact⟨M',σ',hb.trans h2,hF.tr h3,h4,h5⟩
theorem AWN.mono{I:Exit->Sg->Prop}(h:AWN P gl N c Q σ)(hq:∀e τ,Q e τ->I e τ):AWN P gl N c I σ:=fun n0 M w S a ρ n hN hs =>
 Qv (h n0 M w S a ρ n hN hs) fun _ _ _ ⟨M',τ,J,h3,Z,h5⟩=>⟨M',τ,J,h3,Z,hq _ _ h5⟩
theorem SR.le(h:SR gl n0 M w σ' S)(I:Le σ σ'):SR gl n0 M w σ S:=h.less I.1 (I.2.1 M w _ h.stk) I.2.2.1 I.2.2.2
theorem AWN.skip(h:Q .normal σ):AWN P gl N .skip Q σ:=fun n0 M w S a ρ n I hs=>wpIn_skip ⟨M,σ,OK _ _,(Ff.refl _ _ _ _).lower I,hs,h⟩
theorem AWN.label(h:Q .normal σ):AWN P gl N (.label l) Q σ:=fun n0 M w S a ρ n I hs=>wpIn_label ⟨M,σ,OK _ _,(Ff.refl _ _ _ _).lower I,hs,h⟩
theorem AWN.exit(h:Q (.exit id) σ):AWN P gl N (.exit id) Q σ:=fun n0 M w S a ρ n I hs=>wpIn_exit ⟨M,σ,OK _ _,(Ff.refl _ _ _ _).lower I,hs,h⟩
theorem AWN.ret(h:Q .ret σ):AWN P gl N .ret Q σ:=fun n0 M w S a ρ n I hs=>wpIn_ret ⟨M,σ,OK _ _,(Ff.refl _ _ _ _).lower I,hs,h⟩
def thn(K:Sg->Prop)(Q:Exit->Sg->Prop):Exit->Sg->Prop
 | .normal,σ=>K σ
 | e,σ=>Q e σ
theorem AWN.seq(h:AWN P gl N x (thn (fun τ=>AWN P gl N y Q τ) Q) σ):AWN P gl N (.seq x y) Q σ:=fun n0 M w S a ρ n hN hs=>by
 refine wpIn_seq (Qv (h n0 M w S a ρ n hN hs) ?_);rintro e a' w' ⟨M',τ,J,I,Z,h5⟩
 cases e with
 | normal=>exact Qv (h5 n0 M' w' S a' ρ n I.nn Z) fun _ _ _ k=>k.fr J I
 | _=>exact⟨M',τ,J,I,Z,h5⟩
theorem AWN.cond{c:Operand}(I:(evl gl σ c).bind V.bool?=some b)(h:AWN P gl N (if b then x else y) Q σ):AWN P gl N (.cond c x y) Q σ:=fun n0 M w S a ρ n J hs=>by
 cases he:evl gl σ c with
 | none=>rw[he]at I;cases I
 | some v =>
  rw[he,OY]at I;exact wpIn_cond (C7 (aH hs he) I) (h n0 M w S a ρ n J hs)
def blk(id:Nat)(Q:Exit->Sg->Prop):Exit->Sg->Prop
 | .exit id',σ=>if id'=id then Q .normal σ else Q (.exit id') σ
 | e,σ=>Q e σ
theorem AWN.block(h:AWN P gl N c (blk id Q) σ):AWN P gl N (.block id c) Q σ:=fun n0 M w S a ρ n hN hs=>by
 refine wpIn_block (Qv (h n0 M w S a ρ n hN hs) ?_);rintro e a' w' ⟨M',τ,J,h3,Z,I⟩
 cases e with
 | exit c' =>
  simp only[blk]at I;simp only[Exit.inBlock]
  split
  ·rename_i he;rw[OG he]at I;exact⟨M',τ,J,h3,Z,I⟩
  ·rename_i he;rw[OF he]at I;exact⟨M',τ,J,h3,Z,I⟩
 | _=>exact⟨M',τ,J,h3,Z,I⟩
def LWN(P:Program)(gl:Nat->Option (List Tr))(N:Nat)(c:Code)(Q:Exit->Sg->Prop)(σ:Sg):Prop :=
 ∀(n0:Nat)(M:Mem)(w:World)(S:List Rf)(a:Act)(ρ:Option Nat)(n:Nat),N<=nx σ.obs->SR gl n0 M w σ (rf a ρ::S)->∀(b:Frame)(k:List Item)(cs:List Frame),b.roundOf=ρ ->
  ∃e h w',Aft gl n0 N M w S ρ Q e h w'/\ArrivesIn (Machine.fenced P (Rnd ρ)) P (lone (b.atR a (.code c::.inLoop c::k)) cs w) b k cs e h w'
theorem Gf(n:Nat):(Rnd ρ).room n:=fun _ h=>by cases h
theorem AWN.loop(h:LWN P gl N c Q σ):AWN P gl N (.loop c) Q σ:=fun n0 M w S a ρ n hN hs b k cs I Z hr=>by
 obtain⟨e,a',w',h1,J⟩:=h n0 M w S a ρ n hN hs b k cs I;exact⟨e,a',w',h1,.of_steps (.one (fenced_calm Z hr rfl) stepR_loop) J⟩
theorem LWN.round(h:AWN P gl N c (thn (fun τ=>LWN P gl N c Q τ) Q) σ):LWN P gl N c Q σ:=fun n0 M w S a ρ n hN hs b k cs a'=>by
 have hr:=Gf (ρ:=ρ) (cs.length+1+n);obtain⟨e,a₁,J,⟨M',τ,h2,h3,h4,h5⟩,I⟩:=h n0 M w S a ρ n hN hs b (.inLoop c::k) cs a' trivial hr;have hq:∀{e:Exit},Q e τ->Aft gl n0 N M w S ρ Q e a₁ J:=fun q=>⟨M',τ,h2,h3,h4,q⟩
 cases e with
 | normal =>
  obtain⟨e₂,a₂,w₂,c',Z⟩:=h5 n0 M' J S a₁ ρ n h3.nn h4 b k cs a';exact⟨e₂,a₂,w₂,c'.fr h2 h3,.of_steps (StepsIn.trans I (.one (fenced_calm trivial hr rfl) stepR_inLoop)) Z⟩
 | exit id=>exact⟨_,a₁,J,hq h5,.pass (x:=.inLoop c) rfl (fun _ _=>.inl jS) I⟩
 | goto l=>exact⟨_,a₁,J,hq h5,.pass (x:=.inLoop c) rfl (fun _ _=>.inl jS) I⟩
 | ret=>exact⟨_,a₁,J,hq h5,.pass (x:=.inLoop c) rfl (fun _ _=>.inl jS) I⟩
 | panic ch=>exact⟨_,a₁,J,hq h5,.pass (x:=.inLoop c) rfl (fun _ _=>.inl jS) I⟩
 | outgrown=>exact⟨_,a₁,J,hq h5,.pass (x:=.inLoop c) rfl (fun _ _=>.inl jS) I⟩
theorem Gp{x:V}{τ:Sg}(h:σ.put d x=some τ):nx τ.obs=nx σ.obs:=by
 cases d with
 | none=>cases h;rfl
 | some d =>
  have I:(if d<σ.cur.n then some (⟨σ.obs,{ σ.cur with l:=pt σ.cur.l d x }::σ.stk.tail,σ.lps⟩:Sg) else none)=some τ:=by rw[<-nz];exact h
  split at I
  ·cases I;rfl
  ·cases I
theorem BG{ops:Array Oper}{M0:Mem}{w0:World}{n N:Nat}:∀{l:List Oper}{σ:Sg}{M:Mem}{w:World}{a:Act},Below n0 w0 w->Ff n0 N (nx σ.obs) M0 w0 M w->SR gl n0 M w σ (rf a ρ::S) ->
  wpR P gl N ops (fun τ=>Q .normal τ) l σ->wpListIn (Rnd ρ) n P ops (Aft gl n0 N M0 w0 S ρ Q) l a w
 | [],σ,M,w,a,hb,hF,hs,h=>wpListIn_nil ⟨M,σ,hb,hF,hs,h⟩
 | o::l,σ,M,w,a,hb,hF,hs,h=>by
  rw[wpR]at h;unfold wpListIn
  cases hw:iw ops σ o with
  | none=>rw[hw]at h;exact h.elim
  | some b =>
   rw[hw]at h;rw[xJ hs hw]
   cases b with
   | true =>
    obtain⟨x,σ',τ,h1,I,h3⟩:=h;rw[OG rfl];exact h1 n0 M w S a ρ hF.nn hs _ _ n fun M' u w' a' J Z hr=>BG (a:=a.put o.dst u) (hb.trans a') (by rw[Gp I];exact hF.tr J) (Z.put hr I) h3
   | false =>
    obtain⟨τ,I,h3⟩:=h;rw[OF jS];exact⟨fun _ _=>trivial,BG (a:=a.put o.dst undef) hb (by rw[Gp I];exact hF) (hs.put (.p _ _ (.at undef)) I) h3⟩
theorem AWN.region(h:wpR P gl N ops (fun τ=>Q .normal τ) ops.toList σ):AWN P gl N (.region id ops false) Q σ:=fun n0 M w S a ρ n I hs =>
 wpIn_region_list (BG (OK _ _) ((Ff.refl _ _ _ _).lower I) hs h)
end
end
section
mutual
def V.lt(N:Nat):V->Bool
 | .p _=>true
 | .agg cs=>V.lts N cs
 | .tup cs=>V.lts N cs
 | .ref m=>decide (m<N)
 | .off m _ _=>decide (m<N)
 | .arr m _ _ _=>decide (m<N)
 | .fn _ a b=>V.lts N a&&V.lts N b
 | .yld _=>true
 | .vw m _ _=>decide (m<N)
 | .junk=>true
def V.lts(N:Nat):List V->Bool
 | []=>true
 | x::l=>V.lt N x&&V.lts N l
end
theorem V.lts_get{l:List V}(h:V.lts N l=true){t:V}(I:l[i]?=some t):t.lt N=true:=by
 induction l generalizing i with
 | nil=>simp at I
 | cons x l J =>
  rw[V.lts,ON]at h
  cases i with
  | zero=>simp at I;exact I▸h.1
  | succ i=>exact J h.2 (jQ I)
mutual
theorem V.lt_mono{N J:Nat}(I:N<=J):∀(x:V),x.lt N=true->x.lt J=true
 | .p _,_=>by rw[V.lt]
 | .agg cs,h=>by rw[V.lt]at h ⊢;exact V.lts_mono I cs h
 | .tup cs,h=>by rw[V.lt]at h ⊢;exact V.lts_mono I cs h
 | .ref m,h=>by rw[V.lt]at h ⊢;exact O3 (OT (Pe h) I)
 | .off m _ _,h=>by rw[V.lt]at h ⊢;exact O3 (OT (Pe h) I)
 | .arr m _ _ _,h=>by rw[V.lt]at h ⊢;exact O3 (OT (Pe h) I)
 | .fn _ a b,h=>by rw[V.lt,ON]at h ⊢;exact⟨V.lts_mono I a h.1,V.lts_mono I b h.2⟩
 | .yld _,_=>by rw[V.lt]
 | .vw m _ _,h=>by rw[V.lt]at h ⊢;exact O3 (OT (Pe h) I)
 | .junk,_=>by rw[V.lt]
theorem V.lts_mono{N J:Nat}(I:N<=J):∀(l:List V),V.lts N l=true->V.lts J l=true
 | [],_=>by rw[V.lts]
 | x::l,h=>by rw[V.lts,ON]at h ⊢;exact⟨V.lt_mono I x h.1,V.lts_mono I l h.2⟩
end
theorem Rv.old{N':Nat}{M M':Mem}(k:Ff n0 N N' M w M' w'){t:V}(h:Rv M w t v):t.lt N=true->Rv M' w' t v:=by
 have mp:∀(cs:List V)(vs:Array Value),V.lts N cs=true->(∀(i:Nat)(t:V)(v:Value),cs[i]?=some t->vs[i]?=some v->t.lt N=true->Rv M' w' t v) ->
   ∀(i:Nat)(t:V)(v:Value),cs[i]?=some t->vs[i]?=some v->Rv M' w' t v:=fun cs vs J Z i t v h1 h2=>Z i t v h1 h2 (V.lts_get J h1)
 induction h with
 | p t v h=>exact fun _=>.p t v (h.kept k.kp)
 | agg cs vs I h Z=>intro J;rw[V.lt]at J;exact .agg _ vs I (mp cs vs J Z)
 | tup cs vs I h Z=>intro J;rw[V.lt]at J;exact .tup _ vs I (mp cs vs J Z)
 | ref m J=>intro I;rw[V.lt]at I;rw[<-(k.hk m (Pe I)).1]at J ⊢;exact .ref m J
 | off m i o=>intro I;rw[V.lt]at I;rw[<-(k.hk m (Pe I)).1,<-(k.hk m (Pe I)).2];exact .off m i o
 | arr m kk len full cap J hf hx=>intro I;rw[V.lt]at I;rw[<-(k.hk m (Pe I)).1];exact .arr m kk len full cap J hf hx
 | fn f a b va vb c' f' ha hb a' d'=>intro I;rw[V.lt,ON]at I;exact .fn f a b va vb c' f' (mp a va I.1 a') (mp b vb I.2 d')
 | yld i hi=>intro _;rw[<-(k.lm.2 i hi).1];exact .yld i (OT hi k.lm.1)
 | vw m lo len p cap hp J=>intro I;rw[V.lt]at I;exact .vw m lo len p cap (by rw[(k.hk m (Pe I)).1,(k.hk m (Pe I)).2];exact hp) J
 | junk v=>exact fun _=>.junk v
def bef(ops:Array Oper):Nat->Nat->Nat->Bool
 | 0,_,_=>false
 | n+1,j,m=>match ops[m]? with
  | some o=>o.after.toList.any fun e=>Region.binds .any e&&(e.on==j || bef ops n j e.on)
  | none=>false
def okD(ops:Array Oper)(bar:Nat->Bool):Bool :=
 ((List.range ops.size).all fun m=>match ops[m]? with
  | some om=>(om.after.all fun e=>!Region.binds .any e || decide (e.on<m)) &&
   (List.range m).all fun j=>bef ops ops.size j m || (!(bar j&&bar m)&&match ops[j]? with|some oj=>oj.apart ops om|none=>true)
  | none=>true)
def frp(ops:Array Oper):List (Nat × Nat):=(List.range ops.size).flatMap fun m=>((List.range m).filter fun j=>!bef ops ops.size j m).map fun j=>(j,m)
def okS(ops:Array Oper):Bool :=
 (ops.toList.zipIdx.all fun x=>x.1.after.toList.all fun e=>!Region.binds .any e || decide (e.on<x.2))&&(frp ops).all fun q=>match ops[q.1]?,ops[q.2]? with|some oj,some om=>oj.apart ops om|_,_=>true
def okF(ops:Array Oper)(bar:Nat->Bool):Bool:=okS ops&&(frp ops).all fun q=>!(bar q.1&&bar q.2)
theorem kJ(hm:m<ops.size)(h:j<m)(I:bef ops ops.size j m=false):(j,m)∈frp ops :=
 List.mem_flatMap.2 ⟨m,List.mem_range.2 hm,List.mem_map.2 ⟨j,List.mem_filter.2 ⟨List.mem_range.2 h,by rw[I];rfl⟩,rfl⟩⟩
theorem G0(h:okF ops bar=true):okD ops bar=true:=by
 unfold okF okS at h;rw[ON,ON]at h;obtain⟨⟨h1,Z⟩,h3⟩:=h;refine List.all_eq_true.2 fun m hm=>?_
 have hm:=List.mem_range.1 hm;rw[O5 hm];simp only[ON];refine⟨Array.all_eq_true_iff_forall_mem.2 fun e he=>?_,List.all_eq_true.2 fun j I=>?_⟩
 ·exact List.all_eq_true.1 (List.all_eq_true.1 h1 (ops[m],m) (List.mem_zipIdx_iff_getElem?.2 jS)) e (jQ he)
 ·have I:=List.mem_range.1 I
  cases J:bef ops ops.size j m with
  | true=>rfl
  | false =>
   have a:=List.all_eq_true.1 Z _ (kJ hm I J);have b:=List.all_eq_true.1 h3 _ (kJ hm I J);have e:ops[j]?=some ops[j]:=O5 om;simp only[e,O5 hm]at a;rw[e,Rg,ON];exact⟨b,a⟩
def xh(T:List (Nat × V))(d:Option Tmp)(x:V):List (Nat × V):=match d with|none=>T|some d=>pt T d x
def Lk(T:List (Nat × V))(B:Sg)(ts:List Nat):Sg:=⟨B.obs,{ B.cur with l:=T.filter fun x=>ts.contains x.1 }::B.stk.tail,B.lps⟩
def Sg.wl(B:Sg)(T:List (Nat × V)):Sg:=⟨B.obs,{ B.cur with l:=T }::B.stk.tail,B.lps⟩
def lF(bar:Nat->Bool)(c:Nat):Bool:=c==0 || bar (c-1)
def inr(ops:Array Oper)(bar:Nat->Bool)(c j:Nat):Bool :=
 (List.range ops.size).all fun m=>!bar m || ((!bef ops ops.size m j || decide (m<c))&&(!bef ops ops.size j m || decide (c<=m)))
def Fr.bare(f:Fr):Fr:={ f with l:=[] }
def Sg.bare(σ:Sg):Sg:=⟨σ.obs,σ.cur.bare::σ.stk.tail,σ.lps⟩
structure TR(P:Program)(gl:Nat->Option (List Tr))(ops:Array Oper)(ν:Sg->Nat)(bar kd:Nat->Bool)(T:Nat->List (Nat × V))(B:Nat->Sg)(xs:Nat->V):Prop where
 nxt:∀(i:Nat)(o:Oper),ops[i]?=some o->T (i+1)=xh (T i) o.dst (xs i)
 dst:∀(i:Nat)(o:Oper)(d:Tmp),ops[i]?=some o->o.dst=some d->d<(B 0).cur.n
 want:∀(i:Nat)(o:Oper),ops[i]?=some o->iw ops (Lk (T i) (B 0) (o.looksAt ops)) o=some (kd i)
 skip:∀(i:Nat)(o:Oper),ops[i]?=some o->kd i=false->xs i=.p (.at undef)/\bar i=false
 same:∀i,bar i=false->B (i+1)=B i
 bars:∀(i:Nat)(o:Oper),ops[i]?=some o->bar i=true->kd i=true/\(xs i).lt (ν (B (i+1)))=true/\∃σ',DoesN (ν (B i)) P gl o (Lk (T i) (B i) (o.looksAt ops)) (xs i) σ'/\B (i+1)=σ'.bare
 quiet:∀(i:Nat)(o:Oper)(c:Nat),ops[i]?=some o->kd i=true->bar i=false->c<=ops.size->lF bar c=true->inr ops bar c i=true->QDoes P gl o (Lk (T i) (B c) (o.looksAt ops)) (xs i)/\(xs i).lt (ν (B c))=true
 ini:∀t x,gt (T 0) t=some x->x.lt (ν (B 0))=true
 up:∀i j,ν (B i)<=nx (B j).obs->ν (B i)<=ν (B j)/\ν (B j)<=nx (B j).obs
 nil:∀i,(B i).cur.l=[]
section
variable {M M':Mem}{σ σ':Sg}{Q:Exit->Sg->Prop}{kd:Nat->Bool}
variable {T:Nat->List (Nat×V)}{B:Nat->Sg}{xs:Nat->V}{ν:Sg->Nat}
theorem SR.toBare(h:SR gl n0 M w σ (rf a ρ::S)):SR gl n0 M w σ.bare (rf a ρ::S):=by
 obtain⟨f,l,hs,hf⟩:=h.cur;have I:σ.cur=f:=by simp[Sg.cur,hs]
 have hk:=h.stk;rw[hs]at hk;refine h.less (fun n x h=>h) ?_ rfl (by simp only[Sg.bare,I,hs,Sb,O8];rfl);simp only[Sg.bare,I,hs,Sb];exact⟨hf.less rfl (fun s x J=>by cases J) rfl rfl,hk.2⟩
theorem SR.wl(h:SR gl n0 M w σ (rf a ρ::S)){l:List (Nat×V)}(J:∀t x,gt l t=some x->∃v,a.tmps[t]?=some v/\Rv M w x v):SR gl n0 M w (σ.wl l) (rf a ρ::S):=by
 obtain⟨a',I,Z⟩:=σ
 cases I with
 | nil=>exact h.stk.elim
 | cons f m =>
  have hf:=h.stk.1;exact⟨h.size,h.ob,h.apart,⟨⟨⟨hf.tm.1,J⟩,hf.rd,hf.rl,hf.ds,hf.dl,hf.dm⟩,h.stk.2⟩,h.gls,h.nl,h.lps,h.nd,h.sep⟩
theorem SR.act(h:SR gl n0 M w σ (rf a ρ::S))(hl:σ.cur.l=[])(d:Option Tmp)(u:Value):SR gl n0 M w σ (rf (a.put d u) ρ::S):=by
 obtain⟨c',I,a'⟩:=σ
 cases I with
 | nil=>exact h.stk.elim
 | cons f m =>
  have hf:=h.stk.1;have J:f.l=[]:=hl;refine⟨h.size,h.ob,h.apart,⟨⟨⟨?_,fun t x Z=>by rw[J]at Z;cases Z⟩,hf.rd,hf.rl,?_,hf.dl,hf.dm⟩,h.stk.2⟩,h.gls,h.nl,h.lps,h.nd,h.sep⟩
  ·have:=hf.tm.1;show (a.put d u).tmps.size=_;rw[<-this];cases d<;>simp[Act.put,rf]
  ·show (a.put d u).defers=_;rw[put_defers];exact hf.ds
def val(ops:Array Oper)(T0:List (Nat × V))(xs:Nat->V)(L:Nat->Bool):Nat->Nat->Option V
 | 0,t=>gt T0 t
 | m+1,t=>if L m=true/\(ops[m]?).bind (·.dst)=some t then some (xs m) else val ops T0 xs L m t
theorem qA{T0:List (Nat×V)}{L L':Nat->Bool}{t:Nat}:∀{m:Nat},(∀i,i<m->(ops[i]?).bind (·.dst)=some t->L i=L' i)->val ops T0 xs L m t=val ops T0 xs L' m t
 | 0,_=>rfl
 | m+1,h=>by
  have J:=qA (m:=m) (t:=t) (L:=L) (L':=L') (T0:=T0) (fun i Z=>h i om);rw[val,val,J]
  by_cases I:(ops[m]?).bind (·.dst)=some t
  ·have:=h m om I;rw[this]
  ·rw[OF (fun e=>I e.2),OF (fun e=>I e.2)]
theorem MA{T0:List (Nat×V)}:∀{m:Nat},j<=m->val ops T0 xs (fun i=>decide (i<j)) m t=val ops T0 xs (fun i=>decide (i<j)) j t
 | m,h=>by
  induction m with
  | zero=>rw[show j=0 by omega]
  | succ m J =>
   by_cases I:j=m+1
   ·rw[I]
   ·rw[val,OF (fun e=>by have:=e.1;simp at this;omega),J om]
theorem rk(I:TR P gl ops ν bar kd T B xs){t:Nat}:∀{j:Nat},j<=ops.size->val ops (T 0) xs (fun i=>decide (i<j)) j t=gt (T j) t
 | 0,_=>rfl
 | j+1,hj=>by
  have J:ops[j]?=some ops[j]:=O5 om;rw[I.nxt j _ J,val,J,OY];have Z:=rk I (t:=t) (j:=j) om;have e:val ops (T 0) xs (fun i=>decide (i<j+1)) j t=gt (T j) t:=by rw[<-Z];exact qA fun i hi _=>by simp;omega
  rw[e]
  cases hd:ops[j].dst with
  | none=>rw[OF jS];rfl
  | some d =>
   show _=gt (pt (T j) d (xs j)) t;rw[gz]
   by_cases h:d=t
   ·subst h;rw[OG ⟨by simp,rfl⟩,OG rfl]
   ·rw[OF (fun e=>h (Pn e.2)),OF h]
def GD(ops:Array Oper)(listed:Array Bool):Prop:=∀m o,ops[m]?=some o->listed.getD m false=true->∀e∈o.after,Region.binds .any e=true->listed.getD e.on false=true
theorem jh{listed:Array Bool}(I:GD ops listed):∀(n:Nat){j m:Nat},bef ops n j m=true->listed.getD m false=true->listed.getD j false=true
 | 0,j,m,h,_=>by cases h
 | n+1,j,m,h,hm=>by
  rw[bef]at h
  split at h
  ·rename_i o J
   rw[RG]at h;obtain⟨e,he,h⟩:=h;rw[Array.mem_toList_iff]at he;simp only[ON,Pi,Pa]at h;have:=I m o J hm e he h.1;rcases h.2 with h|h
   ·exact h▸this
   ·exact jh I n h this
  ·cases h
theorem ti(J:GD ops listed){n:Nat}(h:bef ops n j m=true)(hm:m∈Region.ready .any ops listed):listed.getD j false=true:=by
 cases n with
 | zero=>cases h
 | succ n =>
  obtain⟨-,o,Z,I⟩:=mem_ready.1 hm;rw[bef,Z]at h;simp only[]at h;rw[RG]at h;obtain⟨e,he,h⟩:=h;rw[Array.mem_toList_iff]at he;simp only[ON,Pi,Pa]at h;have:=I e he h.1;rcases h.2 with h|h
  ·exact h▸this
  ·exact jh J n h this
theorem xb(h:okD ops bar=true)(I:ops[m]?=some o){e:Edge}(he:e∈o.after)(J:Region.binds .any e=true):e.on<m:=by
 have:=List.all_eq_true.1 h m (List.mem_range.2 (Array.getElem?_eq_some_iff.1 I).1);rw[I]at this;simp only[ON]at this;have:=Array.all_eq_true_iff_forall_mem.1 this.1 e he
 simpa [J] using this
theorem yR(h:okD ops bar=true){J om:Oper}(I:j<m)(Z:ops[j]?=some J)(hm:ops[m]?=some om):bef ops ops.size j m=true\/(bar j&&bar m)=false/\J.apart ops om=true:=by
 have:=List.all_eq_true.1 h m (List.mem_range.2 (Array.getElem?_eq_some_iff.1 hm).1);rw[hm]at this;simp only[ON]at this;have:=List.all_eq_true.1 this.2 j (List.mem_range.2 I);rw[Z]at this
 simpa only [Pi,ON,Pj] using this
theorem wg(h:j<listed.size):listed.getD j true=listed.getD j false:=by simp[h]
theorem lU{f g:Nat->Bool}{j:Nat}:∀{n:Nat},j<n->f j=false->g j=true->(∀i,i≠j->g i=f i)->(List.range n).countP g=(List.range n).countP f+1
 | 0,h,_,_,_=>by omega
 | n+1,h,h1,h2,h3=>by
  rw[List.range_succ,List.countP_append,List.countP_append]
  by_cases I:j=n
  ·subst I;have:(List.range j).countP g=(List.range j).countP f:=List.countP_congr fun i J=>by rw[h3 i (by have:=List.mem_range.1 J;omega)]
   rw[this];simp[h1,h2]
  ·rw[lU om h1 h2 h3,List.countP_singleton,List.countP_singleton,h3 n (Pc I)];omega
structure Inv(P:Program)(gl:Nat->Option (List Tr))(ops:Array Oper)(ν:Sg->Nat)(bar:Nat->Bool)(T:Nat->List (Nat × V))(B:Nat->Sg)(xs:Nat->V)(n0 N:Nat)(M0:Mem)(w0:World)(S:List Rf)(ρ:Option Nat)(listed:Array Bool)(a:Act)(w:World)(b:Nat)(M:Mem):Prop where
 le:b<=ops.size
 can:lF bar b=true
 size:listed.size=ops.size
 down:GD ops listed
 below:Below n0 w0 w
 ff:Ff n0 N (ν (B b)) M0 w0 M w
 nu:ν (B b)<=nx (B b).obs
 bars:∀i,i<ops.size->bar i=true->(listed.getD i false=true↔i<b)
 sr:SR gl n0 M w (B b) (rf a ρ::S)
 nn:a.tmps.size=(B 0).cur.n
 fr:∀t x,val ops (T 0) xs (fun i=>listed.getD i false) ops.size t=some x->∃v,a.tmps[t]?=some v/\Rv M w x v
 old:∀t x,val ops (T 0) xs (fun i=>listed.getD i false) ops.size t=some x->x.lt (ν (B b))=true
theorem lz{I om:Oper}(h:I.apart ops om=true):(∀d,I.dst=some d->d∉om.looksAt ops)/\(∀d,I.dst=some d->om.dst≠some d)/\(∀d,om.dst=some d->d∉I.looksAt ops):=Oper.apart_spec h
theorem anyD{n:Nat}(y':okD ops bar=true)(tr:TR P gl ops ν bar kd T B xs)(hQ:Q .normal ((B ops.size).wl (T ops.size))){M0:Mem}:∀(fuel:Nat)(listed:Array Bool)(a:Act)(w:World)(b:Nat)(M:Mem),ops.size<=fuel+(List.range ops.size).countP (fun i=>listed.getD i false) ->
   Inv P gl ops ν bar T B xs n0 N M0 w0 S ρ listed a w b M->wpAnyIn (Rnd ρ) n P .any ops (Aft gl n0 N M0 w0 S ρ Q) fuel listed a w:=by
 have const:∀(c j:Nat),c<=j->(∀i,c<=i->i<j->bar i=false)->B j=B c:=by
  intro c j U'
  induction j with
  | zero=>intro _;rw[show c=0 by omega]
  | succ j ih =>
   intro hb
   by_cases hc:c=j+1
   ·rw[hc]
   ·rw[tr.same j (hb j om om),ih om fun i h1 h2=>hb i h1 om]
 have fin:∀(listed:Array Bool)(a:Act)(w:World)(b:Nat)(M:Mem),Inv P gl ops ν bar T B xs n0 N M0 w0 S ρ listed a w b M->Region.ready .any ops listed=[]->Aft gl n0 N M0 w0 S ρ Q .normal a w:=by
  intro listed a w b M I hr;have s':∀i,i<ops.size->listed.getD i false=true:=by
   intro i
   induction i using Nat.strongRecOn with
   | _ i ih =>
    intro hi
    cases hl:listed.getD i false with
    | true=>rfl
    | false =>
     have:i∈Region.ready .any ops listed:=mem_ready.2 ⟨by rw[wg (by rw[I.size];exact hi)];exact hl,ops[i],O5 hi,fun e he hb=>by
      have:=xb y' (O5 hi) he hb;exact ih e.on this om⟩
     rw[hr]at this;cases this
  have hB:B ops.size=B b:=const b ops.size I.le fun i h1 h2=>by
   cases hb:bar i with
   | false=>rfl
   | true=>have:=(I.bars i h2 hb).1 (s' i h2);omega
  have hv:∀t,val ops (T 0) xs (fun i=>listed.getD i false) ops.size t=gt (T ops.size) t:=fun t=>by
   rw[<-rk tr (t:=t) (OI _)];exact qA fun i hi _=>by rw[s' i hi];simp[hi]
  rw[hB]at hQ;exact⟨M,(B b).wl (T ops.size),I.below,I.ff.mono I.nu,I.sr.wl fun t x hx=>I.fr t x (by rw[hv t];exact hx),hQ⟩
 intro fuel
 induction fuel with
 | zero =>
  intro listed a w b M hf I;have hr:Region.ready .any ops listed=[]:=by
   cases hr:Region.ready .any ops listed with
   | nil=>rfl
   | cons i l =>
    have hi:i∈Region.ready .any ops listed:=by rw[hr];simp
    obtain⟨h1,o,ho,-⟩:=mem_ready.1 hi;have c':=(Array.getElem?_eq_some_iff.1 ho).1;rw[wg (by rw[I.size];exact c')]at h1;have hc:=lU (f:=fun i=>listed.getD i false) (g:=fun j=>if j=i then true else listed.getD j false) c' h1 jS (fun j hj=>by simp[hj]);have:=List.countP_le_length (p:=fun j=>if j=i then true else listed.getD j false) (l:=List.range ops.size);rw[QE]at this;omega
  exact⟨hr,fin listed a w b M I hr⟩
 | succ fuel ih =>
  intro listed a w b M hf I;refine⟨fin listed a w b M I,fun j hj=>?_⟩;obtain⟨g',o,ho,G'⟩:=mem_ready.1 hj;have c':=(Array.getElem?_eq_some_iff.1 ho).1;rw[wg (by rw[I.size];exact c')]at g'
  let L':=listed.setIfInBounds j true
  have i':∀i,L'.getD i false=if i=j then true else listed.getD i false:=fun i=>by
   by_cases hi:i=j
   ·subst hi;simp[L',I.size,c']
   ·rw[OF hi];exact Q2 false (Pc hi)
  have l':ops.size<=fuel+(List.range ops.size).countP (fun i=>L'.getD i false):=by
   have:=lU (f:=fun i=>listed.getD i false) (g:=fun i=>L'.getD i false) c' g' (by rw[i'];simp) (fun i hi=>by rw[i',OF hi]);omega
  have k':GD ops L':=fun m om hm hl e he hb=>by
   rw[i']at hl ⊢
   split
   ·rfl
   ·by_cases r':m=j
    ·subst r';rw[ho]at hm;cases hm;exact G' e he hb
    ·rw[OF r']at hl;exact I.down m om hm hl e he hb
  have h':∀m om,ops[m]?=some om->m≠j->m<j/\listed.getD m false=true\/j<m/\listed.getD m false=false\/(bar j&&bar m)=false/\(∀d,om.dst=some d->d∉o.looksAt ops)/\(∀d,om.dst=some d->o.dst≠some d):=by
   intro m om hm r';rcases Sj r' with Z|Z
   ·rcases yR y' Z hm ho with h|⟨h1,h3⟩
    ·exact .inl ⟨Z,ti I.down h hj⟩
    ·have:=lz h3;exact .inr (.inr ⟨by rw[Bool.and_comm];exact h1,this.1,this.2.1⟩)
   ·rcases yR y' Z ho hm with h|⟨h1,h3⟩
    ·refine .inr (.inl ⟨Z,?_⟩)
     cases hl:listed.getD m false with
     | false=>rfl
     | true=>have:=jh I.down _ h hl;rw[this]at g';cases g'
    ·have:=lz h3;exact .inr (.inr ⟨h1,this.2.2,fun d hd e=>this.2.1 d e hd⟩)
  have x':∀t,t∈o.looksAt ops->val ops (T 0) xs (fun i=>listed.getD i false) ops.size t=gt (T j) t:=by
   intro t ht;rw[<-rk tr (t:=t) (Nat.le_of_lt c'),<-MA (m:=ops.size) (Nat.le_of_lt c')];refine qA fun i hi hd=>?_
   have E':ops[i]?=some ops[i]:=O5 hi;rw[E',OY]at hd
   by_cases m':i=j
   ·subst m';rw[g'];simp
   ·rcases h' i _ E' m' with h|h|h
    ·rw[h.2];simp[h.1]
    ·rw[h.2];simp;omega
    ·exact (h.2.1 t hd ht).elim
  have j':SR gl n0 M w (Lk (T j) (B b) (o.looksAt ops)) (rf a ρ::S):=I.sr.wl fun t x hx=>by
   rw[gH (fun t=>(o.looksAt ops).contains t)]at hx
   split at hx
   ·rename_i hm;exact I.fr t x (by rw[x' t (jQ hm)];exact hx)
   ·cases hx
  have u':∀t,val ops (T 0) xs (fun i=>L'.getD i false) ops.size t=if o.dst=some t then some (xs j) else val ops (T 0) xs (fun i=>listed.getD i false) ops.size t:=by
   intro t
   by_cases J:o.dst=some t
   ·rw[OG J];have step:∀m,j<m->m<=ops.size->val ops (T 0) xs (fun i=>L'.getD i false) m t=some (xs j):=by
     intro m
     induction m with
     | zero=>intro h;omega
     | succ m N' =>
      intro h1 h2;rw[val]
      by_cases hm:m=j
      ·subst hm;rw[OG ⟨by rw[i'];simp,by rw[ho];exact J⟩]
      ·have A':ops[m]?=some ops[m]:=O5 om;rw[OF,N' om om];rintro⟨q2,q3⟩;rw[i',OF hm]at q2;rw[A',OY]at q3;rcases h' m _ A' hm with h|h|h
       ·omega
       ·rw[h.2]at q2;cases q2
       ·exact h.2.2 t q3 J
    exact step _ c' (OI _)
   ·rw[OF J];refine qA fun i hi D'=>?_
    rw[i']
    split
    ·rename_i he;subst he;rw[ho]at D';exact (J D').elim
    ·rfl
  have q':∀(b':Nat)(M':Mem)(u:Value)(w':World),Ff n0 (ν (B b)) (ν (B b')) M w M' w'->Rv M' w' (xs j) u->(xs j).lt (ν (B b'))=true ->
    (∀t x,val ops (T 0) xs (fun i=>L'.getD i false) ops.size t=some x->∃v,(a.put o.dst u).tmps[t]?=some v/\Rv M' w' x v) /\
    (∀t x,val ops (T 0) xs (fun i=>L'.getD i false) ops.size t=some x->x.lt (ν (B b'))=true):=by
   intro b' M' u w' d' hr Z;refine⟨fun t y hy=>?_,fun t y hy=>?_⟩
   ·rw[u']at hy
    by_cases J:o.dst=some t
    ·rw[OG J]at hy;cases hy;have:=tr.dst j o t ho J;refine⟨u,?_,hr⟩;rw[J];simp[Act.put,I.nn,this]
    ·rw[OF J]at hy;obtain⟨v,h1,h2⟩:=I.fr t y hy;refine⟨v,?_,h2.old d' (I.old t y hy)⟩
     cases Q':o.dst with
     | none=>exact h1
     | some d=>simp only[Act.put];rw[R6 (fun e=>J (by rw[Q',e]))];exact h1
   ·rw[u']at hy
    by_cases J:o.dst=some t
    ·rw[OG J]at hy;cases hy;exact Z
    ·rw[OF J]at hy;exact V.lt_mono d'.nn _ (I.old t y hy)
  have B':∀u,(a.put o.dst u).tmps.size=(B 0).cur.n:=fun u=>by rw[<-I.nn];cases hd:o.dst<;>simp[Act.put]
  have p':bar j=false->(xs j).lt (ν (B b))=true->∀(F:Nat->Nat)(u:Value)(w':World),OD w w'->(∀k,k<w.heap.size->F k=M.F k)->Rv { M with F:=F } w' (xs j) u ->
    wpAnyIn (Rnd ρ) n P .any ops (Aft gl n0 N M0 w0 S ρ Q) fuel L' (a.put o.dst u) w':=by
   intro hb n' F u w' a' hF hr;have hg:=I.sr.grow a' F hF;have d':Ff n0 (ν (B b)) (ν (B b)) M w { M with F:=F } w':=.grow a' hF I.sr.size;obtain⟨s1,s2⟩:=q' b _ u w' d' hr n';refine ih L' (a.put o.dst u) w' b { M with F:=F } l' ⟨I.le,I.can,by simp[L',I.size],k',I.below.trans (a'.mono I.sr.size),I.ff.trans d',I.nu,fun i hi f'=>?_,?_,B' u,s1,s2⟩
   ·rw[i',OF (fun e=>by subst e;rw[hb]at f';cases f')];exact I.bars i hi f'
   ·exact hg.act (tr.nil b) o.dst u
  unfold wpOpIn;rw[ho];simp only[];have hw:=tr.want j o ho;have I':iw ops (Lk (T j) (B b) (o.looksAt ops)) o=some (kd j):=hw;rw[xJ j' I']
  cases F':kd j with
  | false =>
   obtain⟨hx,hb⟩:=tr.skip j o ho F';rw[OF jS];exact⟨fun _ _=>trivial,p' hb (by rw[hx,V.lt]) M.F undef w (OK _ _) (fun _ _=>rfl) (by rw[hx];exact .p _ _ (.at _))⟩
  | true =>
   rw[OG rfl]
   cases hb:bar j with
   | false =>
    obtain⟨hq,n'⟩:=tr.quiet j o b ho F' hb I.le I.can (List.all_eq_true.2 fun m hm=>by
     have J':=List.mem_range.1 hm
     cases S':bar m with
     | false=>rfl
     | true =>
      have hi:=I.bars m J' S';simp only[PH,Rg,ON,Pi,Pj,OW];constructor
      ·cases z':bef ops ops.size m j with
       | false=>exact .inl rfl
       | true=>exact .inr (hi.1 (ti I.down z' hj))
      ·cases z':bef ops ops.size j m with
       | false=>exact .inl rfl
       | true =>
        refine .inr (Nat.le_of_not_lt fun Z=>?_);have:=jh I.down _ z' (hi.2 Z);rw[this]at g';cases g')
    exact hq n0 M w S a ρ j' _ _ n fun F u w' a' hF hr=>p' hb n' F u w' a' hF hr
   | true =>
    obtain⟨-,n',σ',hd,C'⟩:=tr.bars j o ho hb;have T':b<=j:=Nat.le_of_not_lt fun h=>by have:=(I.bars j c' hb).2 h;rw[this]at g';cases g'
    have P':B j=B b:=const b j T' fun i h1 h2=>by
     cases f':bar i with
     | false=>rfl
     | true =>
      have H':i<ops.size:=by omega
      rcases h' i _ (O5 H') om with h|h|h
      ·have:=(I.bars i H' f').1 h.2;omega
      ·omega
      ·rw[hb,f']at h;cases h.1
    rw[P']at hd;refine hd n0 M w S a ρ I.nu j' _ _ n fun M' u w' a' d' R' hr=>?_
    have hu:=tr.up b (j+1) (by rw[C'];exact d'.nn);have t':Ff n0 (ν (B b)) (ν (B (j+1))) M w M' w':=⟨d'.lo,d'.kp,d'.hk,d'.lm,hu.1⟩;obtain⟨s1,s2⟩:=q' (j+1) M' u w' t' hr n';refine ih L' (a.put o.dst u) w' (j+1) M' l' ⟨c',by simp[lF,hb],by simp[L',I.size],k',I.below.trans a',I.ff.trans t',hu.2,fun i hi f'=>?_,?_,B' u,s1,s2⟩
    ·rw[i']
     by_cases m':i=j
     ·subst m';simp
     ·rw[OF m'];have:=I.bars i hi f';constructor
      ·intro h;have:=this.1 h;omega
      ·intro h;rcases h' i _ (O5 hi) m' with h2|h2|h2
       ·exact h2.2
       ·omega
       ·rw[hb,f']at h2;cases h2.1
    ·rw[C'];exact R'.toBare.act rfl o.dst u
theorem AWN.drawn{N:Nat}(hm:P.follows .mixedOrders=true){id:Nat}(d':okD ops bar=true)(tr:TR P gl ops ν bar kd T B xs)(a':N<=nx σ.obs->N<=ν σ.bare/\ν σ.bare<=nx σ.obs)(hT:T 0=σ.cur.l)(hB:B 0=σ.bare)(hQ:Q .normal ((B ops.size).wl (T ops.size))):AWN P gl N (.region id ops true) Q σ:=fun n0 M w S a ρ n hN hs=>by
 refine wpIn_region_any hm (anyD d' tr hQ (M0:=M) (w0:=w) ops.size _ a _ 0 M (Nat.le_add_right _ _) ?_);have I:OD w { w with drawn:=w.drawn+1 }:=⟨rfl,rfl,rfl,OI _,fun _ _=>rfl⟩;have hd:SR gl n0 M { w with drawn:=w.drawn+1 } σ (rf a ρ::S):=hs.grow I M.F (fun _ _=>rfl);have hl:∀i,(Array.replicate ops.size false).getD i false=false:=fun i=>by
  simp only[Rj,Array.getElem?_replicate];split<;>rfl
 have J:∀m t,val ops (T 0) xs (fun i=>(Array.replicate ops.size false).getD i false) m t=gt (T 0) t:=by
  intro m t
  induction m with
  | zero=>rfl
  | succ m ih=>rw[val,OF,ih];rintro⟨q,-⟩;rw[hl]at q;cases q
 have Z:GD ops (Array.replicate ops.size false):=fun m o _ hm=>by rw[hl]at hm;cases hm
 obtain⟨f,l,c',hf⟩:=hd.cur;have hc:σ.cur=f:=by simp[Sg.cur,c']
 refine⟨OO _,rfl,by simp,Z,I.mono hs.size,?_,by rw[hB];exact (a' hN).2,fun i hi hb=>⟨fun h=>(by rw[hl]at h;cases h),fun h=>by omega⟩,by rw[hB];exact hd.toBare,?_,fun t y hy=>?_,fun t y hy=>?_⟩
 ·rw[hB];exact (Ff.grow (N:=N) I (fun _ _=>rfl) hs.size).mono (a' hN).1
 ·rw[hB];show a.tmps.size=σ.cur.n;rw[hc];exact hf.tm.1
 ·rw[J,hT,hc]at hy;exact hf.tm.2 t y hy
 ·rw[J]at hy;exact tr.ini t y hy
end
end
section
def Mem.loop(M:Mem)(L Q:Nat):Mem:={ M with lp:=fun j=>if j=M.nl then L else M.lp j,mq:=fun j=>if j=M.nl then Q else M.mq j,nl:=M.nl+1 }
def Sg.ent(σ:Sg)(ps:Array Tmp)(h I:Code):Sg :=
 ⟨σ.obs,{ σ.cur with ds:=match σ.cur.rd with|none=>σ.lps.length::σ.cur.ds|some _=>σ.cur.ds }::σ.stk.tail,σ.lps++[⟨σ.cur,ps,h,I,.ready,none,none⟩]⟩
def Sg.setLp(σ:Sg)(i:Nat)(lp:Lp):Sg:=⟨σ.obs,σ.stk,σ.lps.set i lp⟩
def rfr(lp:Lp)(i:Nat)(xs:List V):Fr:={ n:=lp.fr.n,l:=(lp.ps.toList.zip xs).foldl (fun l x=>pt l x.1 x.2) lp.fr.l,rd:=some i,ds:=[] }
def iT(i:Nat):Fr:={ n:=0,l:=[],rd:=some i,ds:=[] }
section
variable {M M':Mem}{σ σ':Sg}{Q:Exit->Sg->Prop}
theorem pF(M:Mem)(L Q:Nat):LM M (M.loop L Q):=⟨Nat.le_succ _,fun i h=>⟨OF om,OF om⟩⟩
theorem Stk.dsl:∀{l:List Fr}{S:List Rf},Stk M w l S->∀i∈l.flatMap (·.ds),i<M.nl
 | [],[],_,i,h=>by cases h
 | f::l,t::S,h,i,hi=>by
  rw[O8,Qg]at hi;exact hi.elim (h.1.dl i) (Stk.dsl h.2 i)
 | [],_::_,h,_,_=>h.elim
 | _::_,[],h,_,_=>h.elim
theorem SR.loop(h:SR gl n0 M w σ S){L D:Nat}(hL:w.heap[L]?=some (.loop { state:=lp.st,pending:=lp.pend,fn:=fid,tmps:=T,params:=lp.ps,assign:=lp.asg,body:=lp.bd,defers:=D }))(hQ:w.heap[D]?=some (.deferred ds))(h0:n0<=L)(h1:n0<=D)(ht:TmOk M w lp.fr T)(ha:lp.adr=none)(f':∀j,j<M.nl->L≠M.lp j):SR gl n0 (M.loop L D) w ⟨σ.obs,σ.stk,σ.lps++[lp]⟩ S:=by
 have a':=pF M L D;have kp:Kept M.F w (M.loop L D).F w:=fun b j u hj he=>⟨he,hj⟩
 have hκ:∀t v,Rv M w t v->Rv (M.loop L D) w (id t) v:=fun t v k=>k.kept (M':=M.loop L D) kp rfl rfl a'
 have g':∀x:Ob,x.mp id=x:=fun x=>by cases x<;>simp[Ob.mp]
 have J:∀f:Fr,Fr.mp id f=f:=fun f=>by cases f;simp[Fr.mp]
 have Z:∀i c',(σ.lps++[lp])[i]?=some c'->LpOk n0 (M.loop L D) w i c':=by
  intro i c' I
  by_cases d':i<M.nl
  ·rw[Ph (by rw[h.nl];exact d')]at I;have:=(h.lps i c' I).move (M':=M.loop L D) (κ:=id) hκ (a'.2 i d').1 (a'.2 i d').2 rfl rfl;rw[J]at this;exact this
  ·rw[Pz (by rw[h.nl];omega),h.nl]at I;have i':i=M.nl:=by
    have:=(List.getElem?_eq_some_iff.1 I).1;simp only[O0]at this;omega
   subst i';rw[Rx]at I
   cases I
   refine⟨fid,T,by simp[Mem.loop,hL],⟨ds,by simp[Mem.loop,hQ]⟩,by simpa [Mem.loop] using h0,by simpa [Mem.loop] using h1,?_⟩;have:=ht.mp hκ;rw[J]at this;exact⟨this,fun L' h=>by rw[ha]at h;cases h⟩
 have hlen:(σ.lps++[lp]).length=M.nl+1:=by rw[OM,h.nl];rfl
 refine⟨h.size,fun n x hx=>?_,h.apart,?_,fun g cs hg=>(h.gls g cs hg).kept kp,hlen,Z,?_,fun i j I hj=>⟨fun e=>?_,fun h' e=>?_⟩⟩
 ·have:=(h.ob n x hx).move (M':=M.loop L D) (κ:=id) hκ kp rfl rfl (fun g hg=>⟨rfl,rfl⟩)
  rwa [g']at this
 ·have:=h.stk.mp hκ a' (fun i I=>rfl);rw[show σ.stk.map (Fr.mp id)=σ.stk by rw[show Fr.mp id=id from funext J];simp]at this;exact this
 ·have:(σ.stk.flatMap (·.ds)).map (M.loop L D).mq=(σ.stk.flatMap (·.ds)).map M.mq:=QY fun i I=>(a'.2 i (h.stk.dsl i I)).2
  rw[this];exact h.nd
 ·obtain⟨_,_,k1,-⟩:=Z i _ (OH (by rw[hlen];exact I));obtain⟨_,_,-,⟨_,k2⟩,-⟩:=Z j _ (OH (by rw[hlen];exact hj));rw[e,k2]at k1;cases k1
 ·have j':i<M.nl+1:=I;have k':j<M.nl+1:=hj;simp only[Mem.loop]at e
  split at e
  ·split at e
   ·omega
   ·exact f' j om e
  ·split at e
   ·exact f' i om e.symm
   ·exact (h.sep i j om om).2 h' e
theorem SR.mark{f:Fr}{l:List Fr}(h:SR gl n0 M w ⟨J,f::l,Z⟩ (⟨T,D,ρ⟩::S))(hi:i<M.nl)(hm:w.heap[M.mq i]?=some (.deferred (some [])))(a':∀j∈(f::l).flatMap (·.ds),M.mq j≠M.mq i):SR gl n0 M w ⟨J,{ f with ds:=i::f.ds }::l,Z⟩ (⟨T,mkD M i::D,ρ⟩::S):=by
 have hf:=h.stk.1;refine⟨h.size,h.ob,h.apart,⟨⟨hf.tm,hf.rd,hf.rl,?_,fun j I=>?_,fun j I=>?_⟩,h.stk.2⟩,h.gls,h.nl,h.lps,?_,h.sep⟩
 ·have:=hf.ds;simp only at this;simp[this]
 ·rcases List.mem_cons.1 I with rfl|I
  ·exact hi
  ·exact hf.dl j I
 ·rcases List.mem_cons.1 I with rfl|I
  ·exact hm
  ·exact hf.dm j I
 ·have:=h.nd;simp only[O8,Rq,OU,RN]at this ⊢;refine⟨fun e=>?_,this⟩;obtain⟨j,I,e⟩:=List.mem_map.1 e;exact a' j (jQ I) e
theorem IK(h:SR gl n0 M w σ (rf a ρ::S))(fid:FuncId)(ps:Array Tmp)(Z bd:Code):∃M' w' mark,(Instr.enterLoop fid a.tmps ps Z bd ρ).run P w=.ok (M'.lp σ.lps.length,mark) w'/\Below n0 w w' /\
  Ff n0 (nx σ.obs) (nx σ.obs) M w M' w'/\SR gl n0 M' w' (σ.ent ps Z bd) (rf { a with defers:=mark++a.defers } ρ::S):=by
 obtain⟨f,l,hs,hf⟩:=h.cur;have hc:σ.cur=f:=by simp[Sg.cur,hs]
 obtain⟨g',n',k'⟩:=σ;simp only at hs;subst hs;have hρ:ρ=f.rd.map M.lp:=hf.rd;have i':k'.length=M.nl:=h.nl;unfold Sg.ent;rw[hc];simp only[Sb,i']
 cases a':f.rd with
 | none =>
  rw[a']at hρ;have d':ρ=none:=hρ;subst d'
  let I:Loop:={ state:=.ready,pending:=none,fn:=fid,tmps:=a.tmps,params:=ps,assign:=Z,body:=bd,defers:=w.heap.size }
  obtain⟨w1,c'⟩:=jF (w.alloc (.deferred (some [])));obtain⟨w2,J⟩:=jF (w1.alloc (.loop I));have p':w1.heap.size=w.heap.size+1:=by rw[c'];simp
  have hb:OD w w2:=by
   rw[J,c'];exact ((OK _ w).alloc (OI _) _).alloc jS _
  have hg:=h.grow hb M.F (fun _ _=>rfl);have hQ:w2.heap[w.heap.size]?=some (.deferred (some [])):=by
   rw[J,Qe w1 _ _ om,c'];exact Qd w _
  have hL:w2.heap[w1.heap.size]?=some (.loop I):=by rw[J];exact Qd w1 _
  have l':=h.size;have f':=hg.loop (L:=w1.heap.size) (D:=w.heap.size) (lp:=⟨f,ps,Z,bd,.ready,none,none⟩) (fid:=fid) (T:=a.tmps) hL hQ om l' hg.stk.1.tm rfl (fun j hj e=>by have:=(h.lp_lt hj).1;simp only at e;omega);have j':((⟨M.F,M.h,M.k,M.lp,M.mq,M.nl⟩:Mem).loop w1.heap.size w.heap.size).mq M.nl=w.heap.size:=by simp[Mem.loop]
  have hm:=f'.mark (i:=M.nl) (by simp[Mem.loop]) (by rw[j'];exact hQ) (fun j hj=>by
   have h':=h.stk.dsl j hj;rw[j',((pF _ _ _).2 j h').2];have:=(h.lp_lt h').2;exact fun e=>by omega)
  refine⟨M.loop w1.heap.size w.heap.size,w2,[mkD (M.loop w1.heap.size w.heap.size) M.nl],?_,hb.mono h.size,⟨fun _ _=>rfl,Kept.below hb fun _ _=>OI _,fun _ _=>⟨rfl,rfl⟩,pF M _ _,OI _⟩,?_⟩;rotate_left
  ·show SR gl n0 _ w2 ⟨g',({ n:=f.n,l:=f.l,rd:=none,ds:=M.nl::f.ds }:Fr)::l,_⟩ _;have e:({ n:=f.n,l:=f.l,rd:=none,ds:=M.nl::f.ds }:Fr)={ f with ds:=M.nl::f.ds }:=by rw[<-a']
   rw[e];exact hm
  simp[Instr.enterLoop,newObj,Sem.run,mkD,Mem.loop,J,c',I]
 | some j =>
  rw[a']at hρ;have d':ρ=some (M.lp j):=hρ;subst d';have hj:j<M.nl:=hf.rl j a';obtain⟨m',T',k1,⟨ds,k2⟩,k3,k4,k5⟩:=h.lps j _ (OH (by rw[i'];exact hj))
  let I:Loop:={ state:=.ready,pending:=none,fn:=fid,tmps:=a.tmps,params:=ps,assign:=Z,body:=bd,defers:=M.mq j }
  obtain⟨w2,J⟩:=jF (w.alloc (.loop I));have hb:OD w w2:=by rw[J];exact (OK _ w).alloc (OI _) _
  have hg:=h.grow hb M.F (fun _ _=>rfl);have hL:w2.heap[w.heap.size]?=some (.loop I):=by rw[J];exact Qd w _
  have hQ:w2.heap[M.mq j]?=some (.deferred ds):=by rw[hb.block _ (h.lp_lt hj).2];exact k2
  have f':=hg.loop (L:=w.heap.size) (D:=M.mq j) (lp:=⟨f,ps,Z,bd,.ready,none,none⟩) (fid:=fid) (T:=a.tmps) hL hQ h.size k4 hg.stk.1.tm rfl (fun i hi e=>by have:=(h.lp_lt hi).1;simp only at e;omega);refine⟨M.loop w.heap.size (M.mq j),w2,[],?_,hb.mono h.size,⟨fun _ _=>rfl,Kept.below hb fun _ _=>OI _,fun _ _=>⟨rfl,rfl⟩,pF M _ _,OI _⟩,?_⟩
  ·simp[Instr.enterLoop,Instr.getLoop,getObj,newObj,Sem.run,Mem.loop,J,k1,I]
  ·show SR gl n0 _ w2 ⟨g',({ n:=f.n,l:=f.l,rd:=some j,ds:=f.ds }:Fr)::l,_⟩ _;have e:({ n:=f.n,l:=f.l,rd:=some j,ds:=f.ds }:Fr)=f:=by rw[<-a']
   rw[e];exact f'
theorem SR.setLp(h:SR gl n0 M w σ S)(hi:σ.lps[i]?=some lp):∃fid T,TmOk M w lp.fr T /\
  (Instr.getLoop (M.lp i)).run P w=.ok { state:=lp.st,pending:=lp.pend,fn:=fid,tmps:=T,params:=lp.ps,assign:=lp.asg,body:=lp.bd,defers:=M.mq i } w/\∀(st:LoopState)(pd:Option Code),∃w',
  (setObj (M.lp i) (.loop { state:=st,pending:=pd,fn:=fid,tmps:=T,params:=lp.ps,assign:=lp.asg,body:=lp.bd,defers:=M.mq i })).run P w=.ok () w'/\Below n0 w w'/\Kept M.F w M.F w'/\SR gl n0 M w' (σ.setLp i { lp with st:=st,pend:=pd }) S:=by
 obtain⟨fid,T,k1,⟨ds,k2⟩,k3,k4,k5⟩:=h.lps i lp hi;refine⟨fid,T,k5.1,by simp[Instr.getLoop,getObj,Sem.run,k1],fun st pd=>?_⟩;obtain⟨r,hr⟩:∃r:Loop,r={ state:=st,pending:=pd,fn:=fid,tmps:=T,params:=lp.ps,assign:=lp.asg,body:=lp.bd,defers:=M.mq i }:=⟨_,rfl⟩;rw[<-hr];have I:i<M.nl:=by rw[<-h.nl];exact (List.getElem?_eq_some_iff.1 hi).1
 have f':=(h.lp_lt I).1;obtain⟨w',J⟩:∃w',w'=({ w with heap:=w.heap.setIfInBounds (M.lp i) (.loop r) }:World):=⟨_,rfl⟩;have Z:∀k,k≠M.lp i->w'.heap[k]?=w.heap[k]?:=fun k hk=>by rw[J];exact R6 (Pc hk)
 have g':w'.heap[M.lp i]?=some (.loop r):=by rw[J];simp[f']
 obtain⟨kp,hκ,h',k'⟩:=h.rest (w':=w') k1 rfl Z;refine⟨w',by rw[J];simp[setObj,Sem.run,k1],?_,kp,?_⟩
 ·rw[J];exact⟨rfl,rfl,rfl,by simp,fun k hk=>by rw[<-Z k om,J]⟩
 ·refine⟨by rw[J];simpa using h.size,h',h.apart,h.stk.rv hκ fun f hf j hj=>Z _ fun e=>(h.sep i j I (h.stk.dsl j (List.mem_flatMap.2 ⟨f,hf,hj⟩))).1 e.symm,k',by simpa [Sg.setLp] using h.nl,fun j i' hj=>?_,h.nd,h.sep⟩;simp only[Sg.setLp,Rd]at hj
  by_cases a':i=j
  ·subst a';rw[OG rfl,OG (by rw[h.nl];exact I)]at hj
   cases hj
   exact⟨fid,T,by rw[g',hr],⟨ds,by rw[Z _ fun e=>(h.sep i i I I).1 e.symm];exact k2⟩,k3,k4,k5.1.rv hκ,k5.2⟩
  ·rw[OF a']at hj;have c':j<M.nl:=by rw[<-h.nl];exact (List.getElem?_eq_some_iff.1 hj).1
   obtain⟨d',T',q1,⟨j',q2⟩,q3,q4,q5⟩:=h.lps j i' hj;exact⟨d',T',by rw[Z _ ((h.sep j i c' I).2 (Pc a'))];exact q1,⟨j',by rw[Z _ fun e=>(h.sep i j I c').1 e.symm];exact q2⟩,q3,q4,q5.1.rv hκ,q5.2⟩
theorem SR.adr(h:SR gl n0 M w σ S){i:Nat}{lp:Lp}{ad:Option Nat}(hi:σ.lps[i]?=some lp)(ha:∀L,ad=some L->M.lp i=L):SR gl n0 M w (σ.setLp i { lp with adr:=ad }) S:=by
 refine⟨h.size,h.ob,h.apart,h.stk,h.gls,by simpa [Sg.setLp] using h.nl,fun j J I=>?_,h.nd,h.sep⟩;simp only[Sg.setLp,Rd]at I
 split at I
 ·rename_i e
  subst e
  split at I
  ·cases I
   obtain⟨fid,T,Z,k2,k3,k4,k5⟩:=h.lps i lp hi;exact⟨fid,T,Z,k2,k3,k4,k5.1,ha⟩
  ·cases I
 ·exact h.lps j J I
end
end
end Go.Proofs.YteemngnialjaiaaGreatDoor
