/- Part. -/
import Derived.Test.YteemngnialjaiaaGreatDoorQ17
set_option maxRecDepth 100000
set_option maxHeartbeats 16000000
set_option linter.unusedVariables false
set_option linter.unusedSimpArgs false
namespace Go.Proofs.YteemngnialjaiaaGreatDoor
open Go.Proofs.Tryz Go.RowKit
variable {α:Type}{ρ:Option Nat}{P:Program}{n0 N m k b:Nat}{w w':World}{S:List Rf}{a:Act}{o:Oper}{c:Code}{I:Exit}{v:Value}{F G:Nat->Nat}{e:TypeId}{x:Operand}{xs:List Value}{row:Bool}{ob:Ob}{l:Int}{ps:List Prop}
section
def Cv(gl:Nat->Option (List Tr))(N:Nat)(σ σ':Sg):Prop :=
 N<=nx σ.obs->N<=nx σ'.obs/\∀(n0:Nat)(M:Mem)(w:World)(S:List Rf),SR gl n0 M w σ S->∃M',Ff n0 N (nx σ'.obs) M w M' w/\SR gl n0 M' w σ' S
mutual
def V.atm(φ:V->V):V->V
 | .p t=>.p t
 | .agg cs=>.agg (V.atms φ cs)
 | .tup cs=>.tup (V.atms φ cs)
 | .fn f x y=>.fn f (V.atms φ x) (V.atms φ y)
 | .yld i=>.yld i
 | .vw ..=>.junk
 | .junk=>.junk
 | .ref n=>φ (.ref n)
 | .off n i o=>φ (.off n i o)
 | .arr n k len full=>φ (.arr n k len full)
def V.atms(φ:V->V):List V->List V
 | []=>[]
 | v::l=>V.atm φ v::V.atms φ l
end
def jJ(a b:Nat):V->V
 | .ref m=>if m=a then .ref b else if m=b then .junk else .ref m
 | .off m i o=>if m=a then .off b i o else if m=b then .junk else .off m i o
 | .arr m k len full=>if m=a then .arr b k len full else if m=b then .junk else .arr m k len full
 | v=>v
def bxA(n len:Nat):V->V
 | .ref m=>if m=n then .arr n 1 len false else .ref m
 | .off m i o=>if m=n then .junk else .off m i o
 | .arr m k len full=>if m=n then .junk else .arr m k len full
 | v=>v
def frA(n:Nat)(row:Bool)(es:List Tr):V->V
 | .ref m=>if m=n then (if row=true then .p (.lst false es) else .junk) else .ref m
 | .off m i o=>if m=n then (if row=false/\i=0 then .p (.elp (es.drop o)) else .junk) else .off m i o
 | .arr m k len full=>if m=n then (if row=false/\k=1/\len=es.length then .p (.lst full es) else .junk) else .arr m k len full
 | v=>v
def ins{α:Type}:List (Nat × α)->Nat->α->List (Nat × α)
 | [],n,v=>[(n,v)]
 | x::l,n,v=>if x.1=n then (n,v)::l else if n<x.1 then (n,v)::x::l else x::ins l n v
theorem ol(l:List (Nat × α))(n m:Nat)(v:α):gt (ins l n v) m=if n=m then some v else gt l m:=by
 induction l with
 | nil=>simp[ins,gt]
 | cons x l I =>
  unfold ins
  split
  ·rename_i h;simp only[gt];by_cases e:n=m<;>simp_all
  ·split
   ·simp only[gt]
   ·rename_i h1 _;simp only[gt,I];by_cases e:n=m<;>simp_all
def Tr.one:Tr->Bool
 | .at (.agg _)=>false
 | .agg _=>false
 | _=>true
theorem Tr.one_cells{t:Tr}(h:t.one=true):t.cells=[t]:=by
 cases t with
 | «at» v=>cases v<;>first|rfl|cases h
 | agg cs=>cases h
 | _=>rfl
theorem Tr.cell_one{t:Tr}(h:t.cell=true):t.one=true:=by
 cases t with
 | «at» v=>cases v<;>first|rfl|cases h
 | agg cs=>cases h
 | _=>rfl
theorem mO{es:List Tr}(h:es.all Tr.one=true):aO es=es:=by
 induction es with
 | nil=>rfl
 | cons t l I =>
  rw[Qs,ON]at h;simp only[aO,O8,Tr.one_cells h.1]at I ⊢;rw[I h.2];rfl
def dum:Ob:=.row 0 1 [] false
def Sg.ren(σ:Sg)(a b:Nat):Sg:=match gtm σ.obs a with
 | some ob=>⟨ins ((σ.rm a).mp (V.atm (jJ a b))).obs b (ob.mp (V.atm (jJ a b))),((σ.rm a).mp (V.atm (jJ a b))).stk,((σ.rm a).mp (V.atm (jJ a b))).lps⟩
 | none=>σ
def Sg.own(σ:Sg)(d b:Nat)(e:TypeId)(k:Nat):Sg:=match gtm σ.cur.l d with
 | some (.p (.at (.slice none 0 0)))=>⟨pt (σ.mp (V.kill b)).obs b (.row e k [] false),{ (σ.mp (V.kill b)).cur with l:=ptm (σ.mp (V.kill b)).cur.l d (.ref b) }::(σ.mp (V.kill b)).stk.tail,(σ.mp (V.kill b)).lps⟩
 | _=>σ
def Sg.ownc(σ:Sg)(m i b:Nat)(e:TypeId)(k:Nat):Sg:=match gtm σ.obs m with
 | some (.box cs)=>match cs[i]? with
  | some (.p (.at (.slice none 0 0)))=>⟨pt (ins (σ.mp (V.kill b)).obs b (.row e k [] false)) m (.box ((cs.map (V.kill b)).set i (.ref b))),(σ.mp (V.kill b)).stk,(σ.mp (V.kill b)).lps⟩
  | _=>σ
 | _=>σ
def Sg.bx(σ:Sg)(n:Nat):Sg:=match gtm σ.obs n with
 | some (.row _ k es false)=>if k=1/\0<es.length/\es.all Tr.one=true then ⟨pt (σ.mp (V.atm (bxA n es.length))).obs n (.box (es.map .p)),(σ.mp (V.atm (bxA n es.length))).stk,(σ.mp (V.atm (bxA n es.length))).lps⟩ else σ
 | _=>σ
def Sg.fr(σ:Sg)(n:Nat):Sg:=match gtm σ.obs n with
 | some (.row _ _ es false)=>⟨pt (σ.mp (V.atm (frA n true es))).obs n dum,(σ.mp (V.atm (frA n true es))).stk,(σ.mp (V.atm (frA n true es))).lps⟩
 | some (.box cs)=>match V.unp cs with
  | some es=>if es.all Tr.cell=true then ⟨pt (σ.mp (V.atm (frA n false es))).obs n dum,(σ.mp (V.atm (frA n false es))).stk,(σ.mp (V.atm (frA n false es))).lps⟩ else σ
  | none=>σ
 | _=>σ
def Sg.nl(σ:Sg)(d:Nat):Sg:=match gtm σ.cur.l d with
 | some (.p (.at (.slice none 0 0)))=>⟨σ.obs,{ σ.cur with l:=ptm σ.cur.l d (.p (.lst false [])) }::σ.stk.tail,σ.lps⟩
 | _=>σ
def Sg.dm(σ:Sg)(b:Nat):Sg:=⟨ins (σ.mp (V.kill b)).obs b dum,(σ.mp (V.kill b)).stk,(σ.mp (V.kill b)).lps⟩
inductive Tn where
 | ren (a b:Nat)
 | own (d b:Nat) (e:TypeId) (k:Nat)
 | ownc (m i b:Nat) (e:TypeId) (k:Nat)
 | bx (n:Nat)
 | fr (n:Nat)
 | dm (n:Nat)
 | nl (d:Nat)
def Tn.to(σ:Sg):Tn->Sg
 | .ren a b=>σ.ren a b
 | .own d b e k=>σ.own d b e k
 | .ownc m i b e k=>σ.ownc m i b e k
 | .bx n=>σ.bx n
 | .fr n=>σ.fr n
 | .dm n=>σ.dm n
 | .nl d=>σ.nl d
def Tn.ok(N:Nat):Tn->Bool
 | .ren a b=>decide (N<=b)&&!(Nat.beq a b)
 | .own _ b _ k=>decide (N<=b)&&decide (0<k)
 | .ownc m _ b _ k=>(decide (N<=b)&&decide (0<k))&&!(Nat.beq m b)
 | .bx n=>decide (N<=n)
 | .fr n=>decide (N<=n)
 | .dm n=>decide (N<=n)
 | .nl _=>true
def Sg.tns(σ:Sg):List Tn->Sg
 | []=>σ
 | t::l=>(t.to σ).tns l
section
variable {gl:Nat->Option (List Tr)}{M M':Mem}{σ σ':Sg}{Q:Exit->Sg->Prop}
theorem Cv.refl(gl:Nat->Option (List Tr))(N:Nat)(σ:Sg):Cv gl N σ σ:=fun h=>⟨h,fun _ M w _ hs=>⟨M,⟨fun _ _=>rfl,Kept.refl _ _,fun _ _=>⟨rfl,rfl⟩,LM.refl M,h⟩,hs⟩⟩
theorem Cv.trans{σ2:Sg}(h:Cv gl N σ σ')(k:Cv gl N σ' σ2):Cv gl N σ σ2:=fun hN=>by
 obtain⟨h1,Z⟩:=h hN;obtain⟨I,J⟩:=k h1;refine⟨I,fun n0 M w S hs=>?_⟩;obtain⟨M1,f1,s1⟩:=Z n0 M w S hs;obtain⟨M2,f2,s2⟩:=J n0 M1 w S s1;exact⟨M2,f1.tr f2,s2⟩
theorem Cv.le(h:Le σ' σ)(I:N<=nx σ'.obs):Cv gl N σ σ':=fun _=>⟨I,fun _ M w _ hs=>⟨M,⟨fun _ _=>rfl,Kept.refl _ _,fun _ _=>⟨rfl,rfl⟩,LM.refl M,I⟩,hs.le h⟩⟩
theorem LWN.cv(h:LWN P gl N c Q σ')(k:Cv gl N σ σ'):LWN P gl N c Q σ:=fun n0 M w S a ρ n hN hs b l cs I=>by
 obtain⟨J,k2⟩:=k hN;obtain⟨M1,f1,s1⟩:=k2 n0 M w _ hs;obtain⟨e,a',w',h1,Z⟩:=h n0 M1 w S a ρ n J s1 b l cs I;exact⟨e,a',w',h1.fr (OK _ _) f1,Z⟩
theorem AWN.cv(h:AWN P gl N c Q σ')(k:Cv gl N σ σ'):AWN P gl N c Q σ:=fun n0 M w S a ρ n hN hs=>by
 obtain⟨I,Z⟩:=k hN;obtain⟨J,f1,s1⟩:=Z n0 M w _ hs;exact Qv (h n0 J w S a ρ n I s1) fun _ _ _ q=>q.fr (OK _ _) f1
theorem AWN.post{τ τ':Sg}(h:AWN P gl N c (fun e t=>e=I/\t=τ) σ)(k:Cv gl N τ τ'):AWN P gl N c (fun e t=>e=I/\t=τ') σ:=fun n0 M w S a ρ n hN hs =>
 Qv (h n0 M w S a ρ n hN hs) fun e a' w' ⟨M',t,Z,J,h4,h5,h6⟩=>by
  subst h6;obtain⟨-,k2⟩:=k J.nn;obtain⟨M1,f1,s1⟩:=k2 n0 M' w' _ h4;exact⟨M1,τ',Z,J.tr f1,s1,h5,rfl⟩
theorem V.atms_eq(φ:V->V)(l:List V):V.atms φ l=l.map (V.atm φ):=by
 induction l with
 | nil=>rw[V.atms];rfl
 | cons x l h=>rw[V.atms,h];rfl
theorem Rv.atm{φ:V->V}(kp:Kept M.F w M'.F w')(hL:LM M M')(hr:∀n v,Rv M w (.ref n) v->Rv M' w' (φ (.ref n)) v)(ho:∀n i o v,Rv M w (.off n i o) v->Rv M' w' (φ (.off n i o)) v)(ha:∀n k len full v,Rv M w (.arr n k len full) v->Rv M' w' (φ (.arr n k len full)) v){t:V}(h:Rv M w t v):Rv M' w' (t.atm φ) v:=by
 have mp:∀(cs:List V)(vs:Array Value),(∀(i:Nat)(t:V)(v:Value),cs[i]?=some t->vs[i]?=some v->Rv M' w' (t.atm φ) v) ->
   ∀(i:Nat)(t:V)(v:Value),(V.atms φ cs)[i]?=some t->vs[i]?=some v->Rv M' w' t v:=by
  intro cs vs I i t v h1 h2;rw[V.atms_eq,OQ]at h1
  cases h3:cs[i]? with
  | none=>rw[h3]at h1;cases h1
  | some t' =>
   rw[h3]at h1;have:t'.atm φ=t:=jQ h1;exact this▸I i t' v h3 h2
 have J:∀cs:List V,(V.atms φ cs).length=cs.length:=fun cs=>by rw[V.atms_eq];simp
 induction h with
 | p t v h=>rw[V.atm];exact .p t v (h.kept kp)
 | agg cs vs hl h I=>rw[V.atm];exact .agg _ vs (by rw[J];exact hl) (mp cs vs I)
 | tup cs vs hl h I=>rw[V.atm];exact .tup _ vs (by rw[J];exact hl) (mp cs vs I)
 | ref m hc=>rw[V.atm];exact hr _ _ (.ref m hc)
 | off m i o=>rw[V.atm];exact ho _ _ _ _ (.off m i o)
 | arr m k len full cap hc hf hx=>rw[V.atm];exact ha _ _ _ _ _ (.arr m k len full cap hc hf hx)
 | fn f a b va vb a' d' ha hb Z c'=>rw[V.atm];exact .fn f _ _ va vb (by rw[J];exact a') (by rw[J];exact d') (mp a va Z) (mp b vb c')
 | yld i hi=>rw[V.atm,<-(hL.2 i hi).1];exact .yld i (OT hi hL.1)
 | vw n lo len p cap h1 h2=>rw[V.atm];exact .junk _
 | junk v=>rw[V.atm];exact .junk v
def Mem.as(M:Mem)(n:Nat)(v:Value)(k:Nat)(F:Nat->Nat):Mem:={ M with h:=fun m=>if m=n then v else M.h m,k:=fun m=>if m=n then k else M.k m,F:=F }
theorem Mem.as_n(M:Mem)(n:Nat)(v:Value)(k:Nat)(F:Nat->Nat):(M.as n v k F).h n=v/\(M.as n v k F).k n=k:=⟨OG rfl,OG rfl⟩
theorem Mem.as_o(M:Mem){n:Nat}(v:Value)(k:Nat)(F:Nat->Nat)(h:m≠n):(M.as n v k F).h m=M.h m/\(M.as n v k F).k m=M.k m:=⟨OF h,OF h⟩
theorem Rv.as{n:Nat}(hm:m≠n):(∀u,Rv M w (.ref m) u->Rv (M.as n v k F) w (.ref m) u)/\(∀i o u,Rv M w (.off m i o) u->Rv (M.as n v k F) w (.off m i o) u) /\
  (∀q len full u,Rv M w (.arr m q len full) u->Rv (M.as n v k F) w (.arr m q len full) u):=by
 have e:=M.as_o v k F hm;refine⟨fun u h=>?_,fun i o u h=>?_,fun q len full u h=>?_⟩
 ·cases h with|ref _ hc=>rw[<-e.1]at hc ⊢;exact .ref m hc
 ·cases h with|off _ _ _=>rw[<-e.1,<-e.2];exact .off m i o
 ·cases h with|arr _ _ _ _ cap h1 h2 h3=>rw[<-e.1];exact .arr m q len full cap h1 h2 h3
theorem Ff.as{K n:Nat}(hF:∀b,M.F b<=F b)(h0:∀b,b<n0->F b=M.F b)(J:N<=n)(h:N<=K):Ff n0 N K M w (M.as n v k F) w :=
 ⟨h0,fun b i u I e=>⟨e,OT I (hF b)⟩,fun m hm=>M.as_o v k F om,LM.refl M,h⟩
theorem Ia{n:Nat}(e:TypeId)(hk:0<k):ObOk n0 (M.as n (.slice none 0 0) k F) w n (.row e k [] false) :=
 ⟨OG rfl,hk,[],⟨by simp,.inl ⟨OG rfl,rfl⟩⟩,by simp,by simp,by simp,fun g h=>by rw[(M.as_n n _ k F).1]at h;cases h⟩
theorem Cv.ren{a:Nat}(h:Tn.ok N (.ren a b)=true):Cv gl N σ (σ.ren a b):=by
 have h:=ON ..▸h;have hb:=Pe h.1;have d':a≠b:=fun e=>by subst e;simp at h
 unfold Sg.ren;rw[iN]
 cases hg:gt σ.obs a with
 | none=>exact .refl _ _ _
 | some ob =>
  intro _;have hN:N<=nx (ins ((σ.rm a).mp (V.atm (jJ a b))).obs b (ob.mp (V.atm (jJ a b)))):=by
   have:=Da ((ol ((σ.rm a).mp (V.atm (jJ a b))).obs b b (ob.mp (V.atm (jJ a b)))).trans (OG rfl));omega
  refine⟨hN,fun n0 M w S hs=>⟨M.as b (M.h a) (M.k a) M.F,.as (fun _=>OI _) (fun _ _=>rfl) hb hN,?_⟩⟩;have en:=M.as_n b (M.h a) (M.k a) M.F;have hκ:∀t v,Rv M w t v->Rv (M.as b (M.h a) (M.k a) M.F) w (t.atm (jJ a b)) v:=fun t v h=>h.atm (M':=M.as b (M.h a) (M.k a) M.F) (Kept.refl M.F w) (LM.refl M)
   (fun n v J=>by
    simp only[jJ]
    split
    ·rename_i e;subst e;cases J with|ref _ hc=>have:=Rv.ref (M:=M.as b (M.h n) (M.k n) M.F) (w:=w) b (by rw[en.1];exact hc);rw[en.1]at this;exact this
    ·split
     ·exact .junk _
     ·rename_i e;exact (Rv.as e).1 _ J)
   (fun n i o v J=>by
    simp only[jJ]
    split
    ·rename_i e;subst e;cases J with|off _ _ _=>have:=Rv.off (M:=M.as b (M.h n) (M.k n) M.F) (w:=w) b i o;rw[en.1,en.2]at this;exact this
    ·split
     ·exact .junk _
     ·rename_i e;exact (Rv.as e).2.1 _ _ _ J)
   (fun n k len full v J=>by
    simp only[jJ]
    split
    ·rename_i e;subst e;cases J with|arr _ _ _ _ cap h1 h2 h3=>have:=Rv.arr (M:=M.as b (M.h n) (M.k n) M.F) (w:=w) b k len full cap h1 h2 h3;rw[en.1]at this;exact this
    ·split
     ·exact .junk _
     ·rename_i e;exact (Rv.as e).2.2 _ _ _ _ J)
  have Z:∀n x,gt (σ.rm a).obs n=some x->n≠a/\gt σ.obs n=some x:=fun n x I=>by
   simp only[Sg.rm,yD]at I
   split at I
   ·cases I
   ·rename_i h;exact⟨fun e=>h e.symm,I⟩
  have c':SR gl n0 M w (σ.rm a) S:=hs.less (fun n x I=>(Z n x I).2) hs.stk rfl rfl;have h1:=c'.upd (M':=M.as b (M.h a) (M.k a) M.F) (w':=w) (κ:=V.atm (jJ a b)) (n:=b) (ob:=ob.mp (V.atm (jJ a b))) hκ (Kept.refl M.F w) (OI _) (fun m hm=>M.as_o _ _ _ hm) (fun _ _ _ _ _ _=>⟨rfl,rfl⟩)
   ((hs.ob a ob hg).move hκ (Kept.refl M.F w) en.1 en.2 fun _ _=>⟨rfl,rfl⟩)
   (fun m x g hm I a'=>by rw[en.1]at a';exact hs.apart a m ob x g (Pc (Z m x I).1) hg (Z m x I).2 a') (fun _ _=>⟨rfl,rfl⟩)
  exact h1.less (fun n x I=>by rw[ol]at I;rw[gz];exact I) h1.stk rfl rfl
theorem uI(e:TypeId)(hk:0<k)(hs:SR gl n0 M w σ S):SR gl n0 (M.as b (.slice none 0 0) k M.F) w ⟨pt (σ.mp (V.kill b)).obs b (.row e k [] false),(σ.mp (V.kill b)).stk,(σ.mp (V.kill b)).lps⟩ S :=
 hs.upd (M':=M.as b (.slice none 0 0) k M.F) (w':=w) (κ:=V.kill b) (n:=b) (ob:=.row e k [] false)
  (fun _ _ h=>Rv.step (M:=M) (M':=M.as b (.slice none 0 0) k M.F) (n:=b) (Kept.refl M.F w) (fun m hm=>M.as_o _ _ _ hm) (LM.refl M) h) (Kept.refl M.F w) (OI _) (fun m hm=>M.as_o _ _ _ hm) (fun _ _ _ _ _ _=>⟨rfl,rfl⟩)
  (Ia e hk) (fun m x g hm J I=>by rw[(M.as_n b _ k M.F).1]at I;cases I) (fun _ _=>⟨rfl,rfl⟩)
theorem Cv.dm(h:Tn.ok N (.dm b)=true):Cv gl N σ (σ.dm b):=by
 have Z:=Pe h;intro _;have I:N<=nx (σ.dm b).obs:=by
  have:=Da ((ol (σ.mp (V.kill b)).obs b b dum).trans (OG rfl));show N<=nx (ins (σ.mp (V.kill b)).obs b dum);omega
 refine⟨I,fun n0 M w S hs=>⟨M.as b (.slice none 0 0) 1 M.F,.as (fun _=>OI _) (fun _ _=>rfl) Z I,?_⟩⟩;have h1:=uI (b:=b) 0 (Nat.zero_lt_one) hs;exact h1.less (fun n x J=>by simp only[Sg.dm,ol]at J;rw[gz];exact J) h1.stk rfl rfl
theorem Cx(h:Rp G w (.at (.slice none 0 0)) v):Rv (M.as b (.slice none 0 0) k F) w (.ref b) v:=by
 cases h
 have:=Rv.ref (M:=M.as b (.slice none 0 0) k F) (w:=w) b (by rw[(M.as_n b _ k F).1];rfl)
 rwa [(M.as_n b _ k F).1]at this
theorem Cv.own{d:Nat}(h:Tn.ok N (.own d b e k)=true):Cv gl N σ (σ.own d b e k):=by
 have h:=ON ..▸h;have hb:=Pe h.1;have hk:=Pe h.2;unfold Sg.own;rw[iN]
 split
 ·rename_i Z
  intro _;have hN:N<=nx (pt (σ.mp (V.kill b)).obs b (.row e k [] false)):=by rw[lx];omega
  refine⟨hN,fun n0 M w S hs=>⟨M.as b (.slice none 0 0) k M.F,.as (fun _=>OI _) (fun _ _=>rfl) hb hN,?_⟩⟩;have h1:=uI (b:=b) e hk hs
  cases S with
  | nil=>have:=hs.stk;cases hf:σ.stk with|nil=>rw[Sg.cur,hf]at Z;cases Z|cons f l=>rw[hf]at this;exact this.elim
  | cons T S =>
   obtain⟨f,l,hf,a'⟩:=hs.cur;have I:=h1.stk;have hc:σ.cur=f:=by simp[Sg.cur,hf]
   have e0:(σ.mp (V.kill b)).stk=f.mp (V.kill b)::l.map (Fr.mp (V.kill b)):=by simp[Sg.mp,hf]
   have J:(σ.mp (V.kill b)).cur=f.mp (V.kill b):=by unfold Sg.cur;rw[e0];rfl
   rw[hc]at Z;simp only[J,e0,Sb]at I ⊢;refine⟨h1.size,h1.ob,h1.apart,⟨⟨⟨I.1.tm.1,fun t x hx=>?_⟩,I.1.rd,I.1.rl,I.1.ds,I.1.dl,I.1.dm⟩,I.2⟩,h1.gls,h1.nl,h1.lps,by have:=h1.nd;simp only[e0]at this;exact this,h1.sep⟩;simp only[nz,gz]at hx
   split at hx
   ·rename_i hd
    subst hd
    cases hx
    obtain⟨v,c',d'⟩:=a'.tm.2 _ _ Z;exact⟨v,c',Cx d'.inv_p⟩
   ·exact I.1.tm.2 t x hx
 ·exact .refl _ _ _
theorem Cv.nl(d:Nat):Cv gl N σ (σ.nl d):=by
 unfold Sg.nl;rw[iN]
 split
 ·rename_i Z
  obtain⟨f',c',d'⟩:=σ
  cases c' with
  | nil=>simp[Sg.cur,gt]at Z;cases Z
  | cons f l =>
   have Z:gt f.l d=some (.p (.at (.slice none 0 0))):=Z;refine fun hN=>Cv.le ⟨fun _ _ h=>h,fun M w S hs=>?_,rfl,rfl⟩ hN hN
   cases S with
   | nil=>exact hs.elim
   | cons T S =>
    refine⟨⟨⟨hs.1.tm.1,fun t x hx=>?_⟩,hs.1.rd,hs.1.rl,hs.1.ds,hs.1.dl,hs.1.dm⟩,hs.2⟩;have I:gt (ptm f.l d (.p (.lst false []))) t=some x:=hx;rw[nz,gz]at I;clear hx
    split at I
    ·rename_i hd
     subst hd
     cases I
     obtain⟨v,a',J⟩:=hs.1.tm.2 _ _ Z;have J:=J.inv_p
     cases J
     exact⟨_,a',.p _ _ (.nil none 0 (OO _))⟩
    ·exact hs.1.tm.2 t x I
 ·exact .refl _ _ _
theorem SR.ob_as{n:Nat}{x y:Ob}(h:SR gl n0 M w σ S)(J:gt σ.obs n=some x)(hy:ObOk n0 M w n y):SR gl n0 M w ⟨pt σ.obs n y,σ.stk,σ.lps⟩ S:=by
 have:=h.upd (M':=M) (w':=w) (κ:=id) (n:=n) (ob:=y) (fun _ _ h=>h) (Kept.refl M.F w) (OI _) (fun _ _=>⟨rfl,rfl⟩) (fun _ _ _ _ _ _=>⟨rfl,rfl⟩) hy
  (fun m z g hm Z I=>h.apart n m x z g (Pc hm) J Z I) (fun _ _=>⟨rfl,rfl⟩)
 rwa [xY]at this
theorem Cv.ownc{i:Nat}(h:Tn.ok N (.ownc m i b e k)=true):Cv gl N σ (σ.ownc m i b e k):=by
 have h:=ON ..▸h;have J:m≠b:=fun e=>by subst e;simp at h
 have h:=ON ..▸h.1;have hb:=Pe h.1;have hk:=Pe h.2;unfold Sg.ownc;rw[iN]
 split
 ·rename_i cs hg
  split
  ·rename_i hi
   intro _;have hN:N<=nx (pt (ins (σ.mp (V.kill b)).obs b (.row e k [] false)) m (.box ((cs.map (V.kill b)).set i (.ref b)))):=by
    have:=Da (show gt (pt (ins (σ.mp (V.kill b)).obs b (.row e k [] false)) m (.box ((cs.map (V.kill b)).set i (.ref b)))) b=some _ by rw[gz,OF J,ol,OG rfl]);omega
   refine⟨hN,fun n0 M w S hs=>⟨M.as b (.slice none 0 0) k M.F,.as (fun _=>OI _) (fun _ _=>rfl) hb hN,?_⟩⟩;have h1:=uI (b:=b) e hk hs;have Z:gt (pt (σ.mp (V.kill b)).obs b (.row e k [] false)) m=some (.box (cs.map (V.kill b))):=by rw[gz,OF (Pc J),nP,hg];rfl
   obtain⟨A,c,el,a1,a2,a3,a4,a5,a6⟩:=h1.ob m _ Z;have h2:=h1.ob_as Z (y:=.box ((cs.map (V.kill b)).set i (.ref b))) ⟨A,c,el,a1,a2,a3,a4,jQ a5,fun j t v I hv=>by
    rw[Rd]at I
    split at I
    ·rename_i a'
     subst a'
     split at I
     ·cases I
      have:=a6 i (.p (.at (.slice none 0 0))) v (by rw[OQ,hi];rfl) hv;exact Cx this.inv_p
     ·cases I
    ·exact a6 j t v I hv⟩
   exact h2.less (fun n x hx=>by rw[gz,ol]at hx;rw[gz,gz];exact hx) h2.stk rfl rfl
  ·exact .refl _ _ _
 ·exact .refl _ _ _
theorem ownF{base e sz n:Nat}(h:w.ownsRow base e sz v n xs)(I:0<n) :
  ∃g cap spare,v=.slice (some ⟨g,0,none⟩) n cap/\base<=g/\w.heap[g]?=some (.cells (xs++spare).toArray e (0,0))/\n<=cap/\cap<=maxLen:=by
 rcases h.2 with ⟨_,h0⟩|⟨g,cap,cur,hv,hg,hh,hnc,hcm,hcs,htake⟩
 ·omega
 ·exact⟨g,cap,cur.toList.drop (n*sz),hv,hg,by rw[hh,<-htake,QT],hnc,hcm⟩
theorem Cv.bx{n:Nat}(h:Tn.ok N (.bx n)=true):Cv gl N σ (σ.bx n):=by
 have hn:=Pe h;unfold Sg.bx;rw[iN]
 split
 ·rename_i e k es hg
  split
  ·rename_i hc
   obtain⟨rfl,hlen,a'⟩:=hc;intro _;have hN:N<=nx (pt (σ.mp (V.atm (bxA n es.length))).obs n (.box (es.map .p))):=by rw[lx];omega
   refine⟨hN,fun n0 M w S hs=>?_⟩;obtain⟨b1,b2,xs,b3,b4,b5,b6,b7⟩:=hs.ob n _ hg;obtain⟨g,cap,spare,f1,f2,f3,f4,f5⟩:=ownF b3 hlen;have d':xs.length=es.length:=by have:=b3.1;simpa using this
   have c':M.F g=0:=by have:=b7 g (by rw[f1];rfl);simpa using this
   have en:=M.as_n n (.pointer (some ⟨g,0,none⟩)) 1 M.F;refine⟨M.as n (.pointer (some ⟨g,0,none⟩)) 1 M.F,.as (fun _=>OI _) (fun _ _=>rfl) hn hN,?_⟩;refine hs.upd (M':=M.as n (.pointer (some ⟨g,0,none⟩)) 1 M.F) (w':=w) (κ:=V.atm (bxA n es.length)) (n:=n) (ob:=.box (es.map .p)) (fun t v h=>h.atm (M':=M.as n (.pointer (some ⟨g,0,none⟩)) 1 M.F) (Kept.refl M.F w) (LM.refl M) (fun m v I=>?_) (fun m i o v I=>?_) (fun m k len full v I=>?_))
    (Kept.refl M.F w) (OI _) (fun m hm=>M.as_o _ _ _ hm) (fun _ _ _ _ _ _=>⟨rfl,rfl⟩) ⟨g,_,e,en.1,f2,c',f3,by simp;omega,fun i t v J I=>?_⟩ (fun m x g' hm hx Z=>?_) (fun _ _=>⟨rfl,rfl⟩)
   ·simp only[bxA]
    split
    ·rename_i e'
     subst e'
     cases I with|ref _ hc =>
      have:=Rv.arr (M:=M.as m (.pointer (some ⟨g,0,none⟩)) 1 M.F) (w:=w) m 1 es.length false cap f4 (fun e=>by cases e) f5;rw[en.1]at this;rw[f1];exact this
    ·rename_i e';exact (Rv.as e').1 _ I
   ·simp only[bxA]
    split
    ·exact .junk _
    ·rename_i e';exact (Rv.as e').2.1 _ _ _ I
   ·simp only[bxA]
    split
    ·exact .junk _
    ·rename_i e';exact (Rv.as e').2.2 _ _ _ _ I
   ·rw[OQ]at J
    cases he:es[i]? with
    | none=>rw[he]at J;cases J
    | some t' =>
     rw[he]at J;cases J;have hi:=(List.getElem?_eq_some_iff.1 he).1;rw[Sm,Ph om]at I;exact .p _ _ (b6 i t' v (by rw[mO a'];exact he) I)
   ·rw[en.1]at Z;exact hs.apart n m _ x g' (Pc hm) hg hx (by rw[f1];exact Z)
  ·exact .refl _ _ _
 ·exact .refl _ _ _
theorem L4{n:Nat}{es:List Tr}(hn:N<=n)(hs:SR gl n0 M w σ S)(hg:gt σ.obs n=some ob)(hF:∀b,M.F b<=F b)(Z:∀b,dj (M.h n)≠some b->F b=M.F b)(hr:row=true->Rp F w (.lst false es) (M.h n))(ha:row=false->∀full v,Rv M w (.arr n 1 es.length full) v->Rp F w (.lst full es) v)(hp:row=false->∀o,Rp F w (.elp (es.drop o)) (.pointer (some ⟨gj (M.h n),0*M.k n+o,none⟩))) :
  ∃M',Ff n0 N (nx (pt (σ.mp (V.atm (frA n row es))).obs n dum)) M w M' w/\SR gl n0 M' w ⟨pt (σ.mp (V.atm (frA n row es))).obs n dum,(σ.mp (V.atm (frA n row es))).stk,(σ.mp (V.atm (frA n row es))).lps⟩ S:=by
 have kp:Kept M.F w F w:=fun b i u hi e=>⟨e,OT hi (hF b)⟩
 refine⟨M.as n (.slice none 0 0) 1 F,.as hF (fun b hb=>Z b fun e=>by have:=(hs.ob n _ hg).lt e;omega) hn (by rw[lx];omega),?_⟩;refine hs.upd (M':=M.as n (.slice none 0 0) 1 F) (w':=w) (κ:=V.atm (frA n row es)) (n:=n) (ob:=dum) (fun t v h=>h.atm (M':=M.as n (.slice none 0 0) 1 F) kp (LM.refl M) (fun m v J=>?_) (fun m i o v J=>?_) (fun m k len full v J=>?_))
  kp (OI _) (fun m hm=>M.as_o _ _ _ hm) (fun m x g hm hx I=>⟨rfl,Z g fun e=>hs.apart n m _ x g (Pc hm) hg hx e I⟩) (Ia 0 om) (fun m x g' hm hx I=>by rw[(M.as_n n _ 1 F).1]at I;cases I) (fun _ _=>⟨rfl,rfl⟩)
 ·simp only[frA]
  split
  ·rename_i e'
   subst e'
   split
   ·rename_i e;cases J with|ref _ _=>exact .p _ _ (hr e)
   ·exact .junk _
  ·rename_i e';exact (Rv.as e').1 _ J
 ·simp only[frA]
  split
  ·rename_i e'
   subst e'
   split
   ·rename_i e;obtain⟨e1,rfl⟩:=e;cases J with|off _ _ _=>exact .p _ _ (hp e1 o)
   ·exact .junk _
  ·rename_i e';exact (Rv.as e').2.1 _ _ _ J
 ·simp only[frA]
  split
  ·rename_i e'
   subst e'
   split
   ·rename_i e;obtain⟨e1,rfl,rfl⟩:=e;exact .p _ _ (ha e1 _ _ J)
   ·exact .junk _
  ·rename_i e';exact (Rv.as e').2.2 _ _ _ _ J
theorem Cv.fr{n:Nat}(h:Tn.ok N (.fr n)=true):Cv gl N σ (σ.fr n):=by
 have hn:=Pe h;unfold Sg.fr;rw[iN]
 split
 ·rename_i e k es hg
  refine fun _=>⟨by rw[lx];omega,fun n0 M w S hs=>?_⟩
  have d':=hs.ob n _ hg;obtain⟨b1,b2,xs,b3,b4,b5,b6,b7⟩:=d';have hF:∀b,M.F b<=if dj (M.h n)=some b then es.length*k else M.F b:=fun b=>by
   split
   ·rename_i e;have:=b7 b e;rw[OF jS]at this;omega
   ·exact OI _
  refine L4 (F:=fun b=>if dj (M.h n)=some b then es.length*k else M.F b) hn hs hg hF (fun b hb=>OF hb) (fun _=>?_) (fun e=>by cases e) (fun e=>by cases e);refine vK hs (b:=false) hF (.ref n ?_) (show (V.ref n).frz false σ=some (.lst false es) by rw[V.frz,hg]) fun m ob g hm c' f'=>?_
  ·rcases b3.2 with ⟨hv,-⟩|⟨_,_,_,hv,-⟩<;>rw[hv]<;>rfl
  ·have hm:m=n:=by rcases hm with h|h<;>(simp[V.nms]at h<;>exact h)
   subst hm;rw[hg]at c';cases c';show _<=if dj (M.h m)=some g then _ else _;rw[OG f'];exact OI _
 ·rename_i cs hg
  split
  ·rename_i es hu
   split
   ·rename_i Z
    refine fun _=>⟨by rw[lx];omega,fun n0 M w S hs=>?_⟩
    have:=V.unp_eq hu;subst this;have J:es.all Tr.one=true:=List.all_eq_true.2 fun t I=>Tr.cell_one (List.all_eq_true.1 Z t I)
    obtain⟨A,c,el,a1,a2,a3,a4,a5,a6⟩:=hs.ob n _ hg;simp only[OL]at a5;have hF:∀b,M.F b<=if dj (M.h n)=some b then es.length else M.F b:=fun b=>by
     split
     ·rename_i e;rw[a1]at e;cases e;show M.F A<=_;omega
     ·exact OI _
    have a':(if dj (M.h n)=some A then es.length else M.F A)=es.length:=OG (by rw[a1];rfl);refine L4 (F:=fun b=>if dj (M.h n)=some b then es.length else M.F b) hn hs hg hF (fun b hb=>OF hb) (fun e=>by cases e) (fun _ full v hv=>?_) (fun _ o=>?_)
    case refine_2 =>
     rw[show gj (M.h n)=A by rw[a1];rfl,P1,Pd];refine .elp (es.drop o) A o (fun j=>c.getD (o+j) undef) (fun t I=>List.all_eq_true.1 Z t (Q9 I)) (fun j hj=>?_) (fun j t I=>?_)
     ·rw[Qu]at hj;have:c[o+j]?=some (c.getD (o+j) undef):=by rw[Rj,O5 om];rfl
      simp only[a'];refine⟨?_,by omega⟩;simp only[World.cell?,a4];exact this
     ·have hj:=(List.getElem?_eq_some_iff.1 I).1;rw[Qu]at hj;rw[Qa]at I;have:c[o+j]?=some (c.getD (o+j) undef):=by rw[Rj,O5 om];rfl
      exact (a6 (o+j) (.p t) _ (by rw[OQ,I];rfl) this).inv_p.kept (fun b i u hi e=>⟨e,OT hi (hF b)⟩)
    cases hv with
    | arr _ _ _ _ cap h1 h2 h3 =>
     have e1:gj (M.h n)=A:=by rw[a1];rfl
     rw[e1];refine .lst full es A 0 cap 1 (fun j=>c.getD j undef) (fun t I=>by rw[Tr.one_cells (List.all_eq_true.1 J t I)];rfl) (fun t I=>List.all_eq_true.1 Z t (by rw[mO J]at I;exact I)) (fun j hj=>?_) (fun j t I=>?_) h2 h1 h3
     ·rw[mO J]at hj;simp only[a',Pd];refine⟨?_,hj⟩;have:c[j]?=some (c.getD j undef):=by rw[Rj,O5 om];rfl
      simp only[World.cell?,a4];exact this
     ·rw[mO J]at I;have hj:=(List.getElem?_eq_some_iff.1 I).1;have:c[j]?=some (c.getD j undef):=by rw[Rj,O5 om];rfl
      exact (a6 j (.p t) _ (by rw[OQ,I];rfl) this).inv_p.kept (fun b i u hi e=>⟨e,OT hi (hF b)⟩)
   ·exact .refl _ _ _
  ·exact .refl _ _ _
 ·exact .refl _ _ _
theorem Cv.tn{t:Tn}(h:t.ok N=true):Cv gl N σ (t.to σ):=by
 cases t with
 | ren a b=>exact .ren h
 | own d b e k=>exact .own h
 | ownc m i b e k=>exact .ownc h
 | bx n=>exact .bx h
 | fr n=>exact .fr h
 | dm n=>exact .dm h
 | nl d=>exact .nl d
theorem Cv.tns{l:List Tn}(h:l.all (Tn.ok N)=true):Cv gl N σ (σ.tns l):=by
 induction l generalizing σ with
 | nil=>exact .refl _ _ _
 | cons t l I =>
  rw[Qs,ON]at h;exact (Cv.tn h.1).trans (I h.2)
end
end
section
def vwS(P:Program)(gl:Nat->Option (List Tr))(o:Oper)(σ:Sg):Option (List Prop × V) :=
 match o.op with
 | .slice t x (some lo) none none=>match evl gl σ x,(evl gl σ lo).bind V.int?,P.underlying t with
  | some (.ref n),some l,some (.slice e)=>match P.info? e,gt σ.obs n with
   | some i,some (.row _ k es _)=>if k=i.size then some ([0<=l,l<=es.length],.vw n l.toNat (es.length-l.toNat)) else none
   | _,_=>none
  | _,_,_=>none
 | _=>none
def cuS(P:Program)(gl:Nat->Option (List Tr))(o:Oper)(σ:Sg):Option (List Prop × V × Sg) :=
 match o.op with
 | .slice t x none (some hi) none=>match evl gl σ x,(evl gl σ hi).bind V.int?,P.underlying t with
  | some (.ref n),some m,some (.slice e)=>match P.info? e,gt σ.obs n with
   | some i,some (.row e' k es false)=>if e'=e/\k=i.size then some ([0<=m,m<=es.length],.ref (nm σ),(σ.rm n).new (nm σ) (.row e k (es.take m.toNat) false)) else none
   | _,_=>none
  | _,_,_=>none
 | _=>none
def avS(P:Program)(gl:Nat->Option (List Tr))(o:Oper)(σ:Sg)(b:Bool):Option (List Prop × V × Sg) :=
 match o.op with
 | .call c=>match c.callee,c.args.toList,c.argTypes.toList with
  | .builtin .append,[s,x],[t,t']=>if t=t' then match evl gl σ s,evl gl σ x,P.underlying t with
   | some (.p (.lst true es)),some (.vw n lo len),some (.slice e)=>match P.info? e,gt σ.obs n with
    | some i,some (.row _ k zs _)=>match i.zero with
     | some z=>if z.cells.size=i.size/\0<i.size/\k=i.size then match b with
      | true=>some ([lo+len=zs.length,0<len,(es.all fun t=>t.cells.length==i.size)=true,es.length+len<=maxLen,(es.length+len)*i.bytes<=140737488355328],.ref (nm σ),σ.new (nm σ) (.row e i.size (es++zs.drop lo) false))
      | false=>some ([len=0],.p (.lst true es),σ)
      else none
     | none=>none
    | _,_=>none
   | _,_,_=>none
   else none
  | _,_,_=>none
 | _=>none
section
variable {gl:Nat->Option (List Tr)}{M M':Mem}{σ σ':Sg}
theorem Hs(h:SR gl n0 M w σ (rf a ρ::S))(I:(evl gl σ x).bind V.int?=some l):∃k,a.eval x=.int k l:=by
 cases he:evl gl σ x with
 | none=>rw[he]at I;cases I
 | some y=>rw[he,OY]at I;exact oc (aH h he) I
theorem Lz{n:Nat}(h:Rv M w (.ref n) v):v=M.h n:=by cases h;rfl
theorem Na{x:V}(h:vwS P gl o σ=some (ps,x))(hp:ps.foldr And True):QDoes P gl o σ x:=by
 unfold vwS at h
 split at h
 ·rename_i t y lo ho
  split at h
  ·rename_i n l e hy hl ht
   split at h
   ·rename_i i e' k es fz hi hn
    split at h
    ·rename_i hk
     cases h
     obtain⟨c1,c2,-⟩:=hp;refine Quiet.qdoes fun n0 M w S a ρ hs=>?_
     obtain⟨kk,Z⟩:=Hs hs hl;have J:=Lz (aH hs hy);obtain⟨g1,g2,xs,g3,-⟩:=hs.ob n _ hn;obtain⟨A,len,cap,hM,hlen,I,hA⟩:∃A len cap,M.h n=.slice A len cap/\len=es.length/\len<=cap/\(0<len->A=some ⟨gj (M.h n),0,none⟩):=by
      rcases g3.2 with ⟨J,hz⟩|⟨g,cap,cur,J,hb,hh,I,-⟩
      ·exact⟨_,_,_,J,by omega,OI _,fun h=>by omega⟩
      ·exact⟨_,_,_,J,rfl,I,fun _=>by rw[J];rfl⟩
     have hb:(Instr.sliceBounds true len cap (some (.int kk l)) none none).run P w=.ok (l.toNat,len,cap) w:=by simp[Instr.sliceBounds,RM w kk l len _ om om]
     have hr:(Instr.sliceAt t (.slice A len cap) (some (.int kk l)) none none).run P w=.ok (.slice (if cap=l.toNat then A else A.map (·.add (l.toNat*i.size))) (len-l.toNat) (cap-l.toNat)) w:=by
      simp[Instr.sliceAt,Instr.slice,Pu ht,hb,cZ hi]
     refine⟨.slice (if cap=l.toNat then A else A.map (·.add (l.toNat*i.size))) (len-l.toNat) (cap-l.toNat),by unfold execOp;simp[ho,Z,J,hM,hr],?_⟩;rw[<-hlen];refine .vw n l.toNat (len-l.toNat) _ _ (fun h0=>?_) om;rw[OF om,hA om,PD,cY,g1,hk,Pd]
    ·cases h
   ·cases h
  ·cases h
 ·cases h
theorem NL{x:V}(h:cuS P gl o σ=some (ps,x,σ'))(hp:ps.foldr And True):Does P gl o σ x σ':=by
 unfold cuS at h
 split at h
 ·rename_i t y a' ho
  split at h
  ·rename_i n m e hy hm Z
   split at h
   ·rename_i i e' k es hi hn
    split at h
    ·rename_i hk
     cases h
     obtain⟨rfl,rfl⟩:=hk;obtain⟨c1,c2,-⟩:=hp;refine Goes.does fun n0 M w S a ρ hs=>?_
     obtain⟨kk,I⟩:=Hs hs hm;obtain⟨m',rfl⟩:=Int.eq_ofNat_of_zero_le c1;obtain⟨M',q,h1,J,h3,h4,h5⟩:=IT (kk:=kk) hs Z hi hn (m:=m') om (aH hs hy);exact⟨M',w,q,.inl (by unfold execOp;simp[ho,I,h1]),J,h3,h4,h5⟩
    ·cases h
   ·cases h
  ·cases h
 ·cases h
theorem NC{b:Bool}{x:V}(h:avS P gl o σ b=some (ps,x,σ'))(hp:ps.foldr And True):Does P gl o σ x σ':=by
 unfold avS at h
 split at h
 ·rename_i c ho
  split at h
  ·rename_i s y t t' h1 h2 h3
   split at h
   ·rename_i m'
    subst m';obtain⟨cl,a',d'⟩:=c;simp only[]at h1 h2 h3;have x':a'=#[s,y]:=by rw[<-RK (xs:=a'),h2]
    have i':d'=#[t,t]:=by rw[<-RK (xs:=d'),h3]
    subst h1 x' i'
    split at h
    ·rename_i es n lo len e hs hy J
     split at h
     ·rename_i i e' k zs fz hi hn
      split at h
      ·rename_i z hz
       split at h
       ·rename_i hc
        obtain⟨z1,z2,rfl⟩:=hc;refine Goes.does fun n0 M w S a ρ h0=>?_
        have hd:=aH h0 hs;have hv:=aH h0 hy;generalize s':a.eval s=dv at hd;generalize k':a.eval y=sv at hv
        suffices hh:∃M' w' q,(Builtin.append_ #[t,t] o.type #[dv,sv]).run P w=.ok q w'/\Below n0 w w'/\Ff n0 (nx σ.obs) (nx σ'.obs) M w M' w'/\SR gl n0 M' w' σ' (rf a ρ::S)/\Rv M' w' x q by
         obtain⟨M',w',q,r1,r2,r3,r4,r5⟩:=hh;exact⟨M',w',q,.inl (by unfold execOp;simp[ho,resolve,invoke,builtin,s',k',r1]),r2,r3,r4,r5⟩
        obtain⟨g1,g2,xs,g3,g4,g5,g6,-⟩:=h0.ob n _ hn
        cases hv with
        | vw _ _ _ p cap r' y' =>
        cases b with
        | false =>
         cases h
         have j':len=0:=hp.1;subst j';refine⟨M,w,dv,?_,OK _ _,.refl _ _ _ _,h0,hd⟩
         cases hd with
         | p _ _ Z =>
          cases Z with
          | lst full es A' o cap k g hk hc hg hr hf hle hm=>cases p<;>simp[Builtin.append_,Pu J,cZ hi,Builtin.lenOf,Builtin.firstCells,loadCells,loadCellsFrom,storeCells,hle]
        | true =>
         cases h
         obtain⟨d1,d2,d3,d4,d5,-⟩:=hp;have u':=r' d2;subst u';obtain⟨g,z',spare,f1,f2,f3,f4,f5⟩:=ownF g3 (show 0<zs.length by omega);have hblk:gj (M.h n)=g:=by rw[f1];rfl
         rw[hblk,g1];have I:(zs.drop lo).length=len:=by rw[Qu];omega
         have q':∀t∈zs.drop lo,t.cells.length=i.size:=fun t J=>g4 t (Q9 J)
         have f':=nC lo g4;have p':=gq g4;have n':xs.length=zs.length*i.size:=g3.1;have c':∀u∈xs,u.oneCell'=true:=fun u hu=>by
          obtain⟨j,hj⟩:=List.mem_iff_getElem?.1 hu;have g':=(List.getElem?_eq_some_iff.1 hj).1;have l':=OH (show j<(aO zs).length by rw[p'];omega);exact (g6 j _ u l' hj).oneCell (g5 _ (OX _))
         have h':Src w (some ⟨g,lo*i.size,none⟩) (zs.drop lo).length i.size (xs.drop (lo*i.size)):=by
          refine⟨by rw[Qu,n',I,<-Nat.sub_mul];congr 1;omega,fun u hu=>c' u (Q9 hu),fun _=>⟨g,_,rfl,fun j u hj=>?_⟩⟩;rw[Qa]at hj;have g':=(List.getElem?_eq_some_iff.1 hj).1;simp only[World.cell?,f3];show ((xs++spare).toArray)[lo*i.size+j]?=some u;rw[Sm,Ph g'];exact hj
         cases hd with
         | p _ _ Z =>
          have:=zf (σ:=σ) (ty:=o.type) (n:=nm σ) (N:=nx σ.obs) h0 (OI _) J hi hz z1 z2 Z (fun t J=>by have:=List.all_eq_true.1 d3 t J;simpa using this) (c:=cap) h'
           (fun t J=>by rw[f']at J;exact g5 t (Q9 J)) (fun j t u J hu=>by rw[f',Qa]at J;rw[Qa]at hu;exact g6 _ t u J hu) (fun e=>by rw[e]at I;simp at I;omega) q' (by rw[I];exact d4) (by rw[I];exact d5)
          rw[I]at this;exact this
       ·cases h
      ·cases h
     ·cases h
    ·cases h
   ·cases h
  ·cases h
 ·cases h
end
end
end Go.Proofs.YteemngnialjaiaaGreatDoor
