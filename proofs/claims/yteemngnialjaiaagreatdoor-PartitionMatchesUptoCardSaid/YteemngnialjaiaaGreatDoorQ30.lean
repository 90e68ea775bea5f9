/- Part. -/
import Derived.Test.YteemngnialjaiaaGreatDoorQ28
import Derived.Test.YteemngnialjaiaaGreatDoorQ29
import Derived.Test.YteemngnialjaiaaGreatDoorQ26
set_option maxRecDepth 100000
set_option maxHeartbeats 16000000
set_option linter.unusedVariables false
set_option linter.unusedSimpArgs false
namespace Go.Proofs.YteemngnialjaiaaGreatDoor
open Go.Proofs.Tryz Go.RowKit
variable {w:World}{x:Pt}{v:Value}{l:List Value}{k:Nat}{F:Nat->Nat}{α:Type}{t I:Tr}{ts cs:List Tr}{r:List (List Evt)}{P:Program}{gl:Nat->Option (List Tr)}{f:FuncId}{A:List Prop}{y:Evt}
abbrev ptT(x:Pt)(h:List Tr):Tr:=.agg [tI x.op,.lst false h,tI x.ty,tI x.vr,tI x.sc,tI x.sp,tI x.cond.op,.lst false (aD x.cond.args),tI x.cond.vr,tI x.cond.fl,tI x.cond.kd,tI x.cond.val.kind,tI x.cond.val.num,tS x.cond.val.text]
mutual
def bP:Pt->Tr
 | .mk op l ty vr h sp c=>ptT (.mk op l ty vr h sp c) (bm l)
def bm:List Pt->List Tr
 | []=>[]
 | x::l=>bP x::bm l
end
theorem gd(x:Pt):bP x=ptT x (bm x.args):=by cases x;rfl
theorem ir(x:Ex):cF x=exT x (aD x.args):=by cases x;rfl
theorem dL(l:List Pt):bm l=l.map bP:=by
 induction l with
 | nil=>rw[bm];rfl
 | cons x l h=>rw[bm,h];rfl
theorem BQ{w:World}:∀(d:Nat){v:Value}{l:List Pt},dg d w v l->Rp (fW w) w (.lst false (bm l)) v
 | 0,v,l,h=>by
  obtain⟨A,c,rfl,h1,h2,h3⟩:=h
  cases l with
  | nil=>rw[bm];exact .nil _ _ h2
  | cons x l=>obtain⟨b,o,-,hf⟩:=h3 0 x rfl;exact hf.elim
 | d+1,v,l,h=>by
  rw[dL];refine sH bP h om (fun x _=>by cases x;rfl) (fun x _ t I=>?_) fun x _ b p hx j t I=>?_
  ·rw[gd]at I;simp only[Tr.cells,O7,Pw,Px]at I;rcases I with rfl|rfl|rfl|rfl|rfl|rfl|rfl|rfl|rfl|rfl|rfl|rfl|rfl|rfl<;>rfl
  ·obtain⟨u,hu,c0,c1,c2,c3,c4,c5,Z⟩:=hx
   cases d with
   | zero=>exact Z.elim
   | succ d =>
    obtain⟨u2,J,d0,d1,d2,d3,d4,d5,d6,d7⟩:=Z;rw[gd]at I
    match j,I with
    | 0,I=>cases I;exact⟨_,c0,.at _⟩
    | 1,I=>cases I;exact⟨_,c1,BQ (d+1) hu⟩
    | 2,I=>cases I;exact⟨_,c2,.at _⟩
    | 3,I=>cases I;exact⟨_,c3,.at _⟩
    | 4,I=>cases I;exact⟨_,c4,.at _⟩
    | 5,I=>cases I;exact⟨_,c5,.at _⟩
    | 6,I=>cases I;exact⟨_,d0,.at _⟩
    | 7,I=>cases I;exact⟨_,d1,rA d J⟩
    | 8,I=>cases I;exact⟨_,d2,.at _⟩
    | 9,I=>cases I;exact⟨_,d3,.at _⟩
    | 10,I=>cases I;exact⟨_,d4,.at _⟩
    | 11,I=>cases I;exact⟨_,d5,.at _⟩
    | 12,I=>cases I;exact⟨_,d6,.at _⟩
    | 13,I=>cases I;exact⟨_,d7,.at _⟩
theorem L5{d e:Nat}{vc:Value}(h:dg d w v x.args)(J:bZ e w vc x.cond.args):Rp (fW w) w (bP x) (ptV x v vc):=by
 rw[gd];refine .agg _ _ rfl fun i t u I hu=>?_
 match i,I,hu with
 | 1,I,hu=>cases I;cases hu;exact BQ d h
 | 7,I,hu=>cases I;cases hu;exact rA e J
 | 0,I,hu|2,I,hu|3,I,hu|4,I,hu|5,I,hu|6,I,hu|8,I,hu|9,I,hu|10,I,hu|11,I,hu|12,I,hu|13,I,hu=>cases I;cases hu;exact .at _
section
abbrev pT(x:Pt):Tr:=ptT x (x.args.map bP)
theorem oI(x:Pt):bP x=pT x:=by rw[gd,dL]
theorem elP{l:List Pt}(h:l[k]?=some x):(l.map bP)[((k:Int)).toNat]?=some (pT x):=by rw[<-oI];exact elM bP h
theorem Ah(l:List Pt):dq l=l.flatMap aV:=by
 induction l with
 | nil=>rw[dq];rfl
 | cons x l Z=>rw[dq,Z];rfl
theorem jg:∀l:List Pt,l.length<=cE l
 | []=>OO _
 | x::r=>by rw[Pk,cE];have:=jg r;have:=cK x;omega
abbrev dD(x:Pt):List Tr:=(aV x).map bP
theorem pE(x:Pt):dD x=[pT x]++x.args.flatMap dD:=by rw[dD,fG,Ah];simp[List.map_flatMap,oI]
section
variable (gl : Nat -> Option (List Tr))
noncomputable def wkF(a:Nat)(l:List Pt)(j:Int):Fr:=⟨23,[(1,.p (yTr a)),(12,.p (.lst false (l.map bP))),(13,.p (tI ((l.map bP).length:Nat))),(14,.p (tI j))],none,[]⟩
theorem Oi:∀(n:Nat)(x:Pt),ptN x<=n->n<=9223372036854775807->SeqT prog gl 238 [pT x] [] (dD x) (.p (tB true)) (.p (tB false)):=by
 intro n
 induction n with
 | zero=>intro x hx;rw[cK]at hx;omega
 | succ n Z =>
  intro x hx hn c p hp hf;rw[pE]at hf ⊢;obtain⟨h1,h2⟩:=hf.app;rw[OM,<-PP];have hN:=cK x
  by_cases J:p+[pT x].length<=c.n
  ·have hl:=LY (P:=prog) (gl:=gl) (c:=c) (p:=p+1) (cd:=lpb prog 238 [1,1,0,1,0]) (e:=.exit 0) (e':=.ret) (f1:=⟨23,[],none,[]⟩) (f2:=⟨23,[(4,.p (tB false))],none,[]⟩) x.args dD (fun j=>wkF c.a x.args j)
    (fun j y q hy hq hf e τ h=>by
     have a':=mm hy;have I:=sz hy;have d':=jg x.args;rw[show ((j+1:Nat):Int)=IntKind.i64.wrap ((j:Int)+1) from (wr1 I om).symm]at h;exact LoopP.next [bt,.sg false [.el (pT y)],.di (tB true) (c.O (q+(dD y).length)) c.X,bf] [1,12,13,14] [] rfl h
      (aj5 (ltM bP I) (elP hy) (k0 j) (((Z y om om).cf om hf).1 hq) yF tv))
    (fun j y q hy hq c' hf=>by
     have a':=mm hy;have I:=sz hy;exact LoopP.stop [bt,.sg false [.el (pT y)],.di (tB false) c.O' c.X',bt] [4] [] jS
      (aj5 (ltM bP I) (elP hy) (k0 j) (((Z y om om).cf hq hf).2 c') yT tv))
    (fun q=>LoopP.stop [bf] [] [] jS (ai (dI bP x.args) tv)) J h2
   exact⟨fun hq=>fC [.sg false [],.yi true (c.O (p+1)) c.X,bf,.lo [1,12,13,14] (.exit 0) ⟨c.O (p+1+(x.args.flatMap dD).length),⟨23,[],none,[]⟩::c.K,c.X⟩] (aj3 (h1.yt J) yF (hl.1 hq) tv),
    fun hq=>fC [.sg false [],.yi true (c.O (p+1)) c.X,bf,.lo [1,12,13,14] .ret ⟨c.O',⟨23,[(4,.p (tB false))],none,[]⟩::c.K,c.X'⟩] (aj3 (h1.yt J) yF (hl.2 hq) tv)⟩
  ·exact⟨fun hq=>absurd (OP (Nat.le_add_right _ _) hq) J,fun _=>fC [.sg false [],.yi false c.O' c.X',bt] (aj2 (h1.ys hp J) yT tv)⟩
end
end
theorem jx{R:World->Nat->Nat->α->Prop}{sz:Nat}{l:List α}{fl:Bool}(I:α->Tr)(h:Rp F w (.lst fl (l.map I)) v)(hk:∀x∈l,(I x).cells.length=sz)(hR:∀x∈l,∀b p,(∀(j:Nat)(t:Tr),(I x).cells[j]?=some t->∃u,w.cell? ⟨b,p+j,none⟩=some u/\Rp F w t u)->R w b p x):Sl R sz w v l:=by
 generalize a':l.map I=es at h
 cases h with
 | nil a cap hm =>
  have:l=[]:=jQ a';subst this;exact⟨a,cap,rfl,OO _,hm,fun k x J=>by simp at J⟩
 | lst _ _ A o cap k g d' hc hg h hf hle hm =>
  subst a';rw[OL]at hle ⊢;refine⟨_,cap,rfl,hle,hm,fun i x J=>⟨A,o,rfl,hR x (Pb J) A (o+i*sz) fun j t ht=>?_⟩⟩;have c':∀e∈l.map I,e.cells.length=sz:=fun e he=>by obtain⟨x,J,rfl⟩:=List.mem_map.1 he;exact hk x J
  have hf:=gX (o:=j) c' (i:=i) (e:=I x) (by simp[J]) (OH (List.getElem?_eq_some_iff.1 ht).1);have Z:(aO (l.map I))[i*sz+j]?=some t:=by rw[hf];obtain⟨hl,e⟩:=List.getElem?_eq_some_iff.1 ht;rw[e]
  have hj:=(List.getElem?_eq_some_iff.1 Z).1;exact⟨_,by rw[PP];exact (hg _ hj).1,h _ t Z⟩
theorem aA(h:Rps F w (t::ts) l):∃v m,l=v::m/\Rp F w t v/\Rps F w ts m:=by
 cases l with
 | nil=>cases h.1
 | cons v m=>exact⟨v,m,rfl,h.2 0 t v rfl rfl,jQ h.1,fun i t v J I=>h.2 (i+1) t v J I⟩
theorem cm(h:Rps F w [] l):l=[]:=Po h.1
theorem kg(h:Rp F w (.agg cs) v):∃l:List Value,v=.agg l.toArray/\Rps F w cs l:=by
 cases h with|agg _ vs hl h=>exact⟨vs.toList,by simp,jQ hl,fun i t v J I=>h i t v J (jQ I)⟩
theorem bU{x u:Value}(h:Rp F w (.at x) u):u=x:=by cases h;rfl
theorem ba{x:Value}{b p:Nat}(h:∃u,w.cell? ⟨b,p,none⟩=some u/\Rp F w (.at x) u):w.cell? ⟨b,p,none⟩=some x:=by obtain⟨u,h1,I⟩:=h;rw[h1,bU I]
theorem Gk{l:List Vl}{fl:Bool}(h:Rp F w (.lst fl (l.map vlT)) v):bh w v l :=
 jx vlT h (fun _ _=>rfl) fun x _ b p I=>⟨ba (I 0 _ rfl),ba (I 1 _ rfl),ba (I 2 _ rfl)⟩
theorem Dv{l:List Evt}{fl:Bool}(h:Rp F w (.lst fl (l.map evT)) v):cH w v l :=
 jx evT h (fun _ _=>rfl) fun x _ b p I=>by
  obtain⟨u,h1,J⟩:=I 4 _ rfl;exact⟨u,Gk J,ba (I 0 _ rfl),ba (I 1 _ rfl),ba (I 2 _ rfl),ba (I 3 _ rfl),h1⟩
theorem JJ{l:List (List Evt)}{fl:Bool}(h:Rp F w (.lst fl (l.map bE)) v):dU w v l :=
 jx bE h (fun _ _=>rfl) fun x _ b p J=>by
  obtain⟨u,h1,I⟩:=J 0 _ rfl;exact⟨u,Dv I,h1⟩
theorem lH{l:Bs}{fl:Bool}(h:Rp F w (.lst fl (l.map bT)) v):gN w v l :=
 jx bT h (fun _ _=>rfl) fun x _ b p I=>⟨ba (I 0 _ rfl),ba (I 1 _ rfl)⟩
theorem ue:∀(d:Nat){v:Value}{l:List Ex}{fl:Bool},cI l<=d->Rp F w (.lst fl (aD l)) v->bZ d w v l
 | 0,v,l,fl,hd,h=>by
  rw[bz]at h;refine jx cF h (fun x _=>rE x) fun x J b p I=>?_
  cases l with
  | nil=>cases J
  | cons y r=>rw[cI,kP]at hd;omega
 | d+1,v,l,fl,hd,h=>by
  rw[bz]at h;refine jx cF h (fun x _=>rE x) fun x J b p I=>?_
  rw[lT]at I;obtain⟨u,h1,Z⟩:=I 1 _ rfl;refine⟨u,ue d ?_ Z,ba (I 0 _ rfl),h1,ba (I 2 _ rfl),ba (I 3 _ rfl),ba (I 4 _ rfl),ba (I 5 _ rfl),ba (I 6 _ rfl),ba (I 7 _ rfl)⟩;have:bD x<=cI l:=by
   clear hd h I h1 Z
   induction l with
   | nil=>cases J
   | cons y r ih =>
    rw[cI];rcases List.mem_cons.1 J with rfl|J
    ·omega
    ·have:=ih J;omega
  have e:=kP x;omega
theorem L8{x:Ex}(h:Rp F w (cF x) v):∃u,v=exV x u/\bZ (cI x.args) w u x.args:=by
 rw[ir]at h;obtain⟨l,rfl,hr⟩:=kg h;clear h;obtain⟨_,_,rfl,h0,hr⟩:=aA hr;obtain⟨u,_,rfl,h1,hr⟩:=aA hr;obtain⟨_,_,rfl,J,hr⟩:=aA hr;obtain⟨_,_,rfl,h3,hr⟩:=aA hr;obtain⟨_,_,rfl,Z,hr⟩:=aA hr;obtain⟨_,_,rfl,h5,hr⟩:=aA hr;obtain⟨_,_,rfl,I,hr⟩:=aA hr;obtain⟨_,_,rfl,h7,hr⟩:=aA hr;obtain rfl:=cm hr;rw[bU h0,bU J,bU h3,bU Z,bU h5,bU I,bU h7];exact⟨u,rfl,ue _ (OI _) h1⟩
theorem Mc{x:Evt}(h:Rp F w (evT x) v):∃u,v=cM x u/\bh w u x.vals:=by
 obtain⟨l,rfl,hr⟩:=kg h;clear h;obtain⟨_,_,rfl,h0,hr⟩:=aA hr;obtain⟨_,_,rfl,h1,hr⟩:=aA hr;obtain⟨_,_,rfl,I,hr⟩:=aA hr;obtain⟨_,_,rfl,Z,hr⟩:=aA hr;obtain⟨u,_,rfl,J,hr⟩:=aA hr;obtain rfl:=cm hr;rw[bU h0,bU h1,bU I,bU Z];exact⟨u,rfl,Gk J⟩
theorem Gs(h:Rp F w (oo r) v):∃u,v=.agg #[u]/\dU w u r:=by
 obtain⟨l,rfl,hr⟩:=kg h;clear h;obtain⟨u,_,rfl,I,hr⟩:=aA hr;obtain rfl:=cm hr;exact⟨u,rfl,JJ I⟩
theorem gU{x:Value}(h:∀F w vs,Rps F w ts vs->Calls P f vs.toArray w fun e W=>e=.returned x/\OD w W):PuC P gl f ts (.at x):=fun F w vs hr _ =>
 (h F w vs hr).mono fun _ _ ⟨h1,I⟩=>⟨x,F,h1,I,fun _ _=>rfl,.at _⟩
section
abbrev S1(n:Nat)(l:List (Nat × V)):Sg:=⟨[],[⟨n,l,none,[]⟩],[]⟩
theorem PuC.arg{a b:List Tr}{r:Tr}(h:PuC P gl f (a++t::b) r)(k:∀F w v,Rp F w I v->Rp F w t v):PuC P gl f (a++I::b) r:=fun F w vs hr Z =>
 h F w vs ⟨by have:=hr.1;simpa using this,fun i s v hs J=>by
  by_cases hi:i=a.length
  ·subst hi;rw[Pz (OI _),Rx]at hs;cases hs;exact k _ _ _ (hr.2 a.length I v (by rw[Pz (OI _),Rx];rfl) J)
  ·refine hr.2 i s v ?_ J;rw[<-hs,Rk,Rk]
   split
   ·rfl
   ·obtain⟨j,hj⟩:∃j,i-a.length=j+1:=⟨i-a.length-1,by omega⟩;rw[hj,QC,QC]⟩ Z
theorem uk{l:List Pt}(h:l[k]?=some x):cE (l.take (k+1))=cE (l.take k)+ptN x/\cE (l.take (k+1))<=cE l/\gB (l.take (k+1))=max (gB (l.take k)) (ptD x):=by
 induction l generalizing k with
 | nil=>simp at h
 | cons y r I =>
  cases k with
  | zero=>simp at h;subst h;simp[cE,gB]
  | succ k=>obtain⟨a,b,c⟩:=I (jQ h);simp only[Sa,cE,gB,c]at a ⊢;exact⟨by omega,by omega,by omega⟩
mutual
theorem Ld:∀x,ptD x<=ptN x
 | .mk o l a b c d e=>by rw[ptD,ptN];have:=mh l;omega
theorem mh:∀l,gB l<=cE l
 | []=>by rw[gB];omega
 | x::r=>by rw[gB,cE];have:=Ld x;have:=mh r;omega
end
section
variable (gl : Nat -> Option (List Tr))
noncomputable def psI(l:List Pt)(n d k:Int):Sg:=S1 32 [(4,.p (tI n)),(5,.p (tI d)),(11,.p (.lst false (l.map bP))),(12,.p (tI ((l.map bP).length:Nat))),(13,.p (tI k))]
theorem I3:∀(n:Nat)(x:Pt),ptN x<=n->n<=1048576->PuC prog gl 235 [pT x] (.tup [tI (ptN x),tI (ptD x)]):=by
 intro n
 induction n with
 | zero=>intro x I;rw[cK]at I;omega
 | succ n J =>
  intro x I hn;have Z:=cK x;have hD:=mh x.args;have hL:=LoopP.each (P:=prog) (gl:=gl) (N:=0) (c:=lpb prog 235 [1,1,0,1,0]) (e:=.exit 0) (τ:=S1 32 [(4,.p (tI (1+cE x.args:Nat))),(5,.p (tI (gB x.args)))])
   (fun k=>psI x.args (1+cE (x.args.take k):Nat) (gB (x.args.take k)) k) x.args.length (fun k hk h=>by
    have hy:=OH hk;generalize x.args[k]=y at hy;obtain⟨a,b,c⟩:=uk hy;have hl:=jg x.args;rw[show ((1+cE (x.args.take (k+1)):Nat):Int)=IntKind.i64.wrap ((1+cE (x.args.take k):Nat)+(ptN y:Nat)) by rw[Pv];omega,
     show ((gB (x.args.take (k+1)):Nat):Int)=if (gB (x.args.take k):Int)<(ptD y:Nat) then ((ptD y:Nat):Int) else gB (x.args.take k) by split<;>omega,
     show ((k+1:Nat):Int)=IntKind.i64.wrap ((k:Int)+1) from (wr1 hk om).symm]at h
    exact LoopP.next [bt,.sg false [.el (pT y)],.ca (.tup [tI (ptN y),tI (ptD y)]),.co] [4,5,11,12,13] [] rfl h (aj4 (ltM bP hk) (elP hy) (k0 k) (J y om om) tv))
   (by rw[Pp];exact LoopP.stop [bf] [4,5] [] jS (ai (dI bP x.args) tv))
  rw[show ((ptD x:Nat):Int)=IntKind.i64.wrap ((gB x.args:Int)+1) by rw[Fj,Pv];omega,Z];exact aq [.sg false [],.lo [4,5,11,12,13] (.exit 0) (S1 32 [(4,.p (tI (1+cE x.args:Nat))),(5,.p (tI (gB x.args)))])] (ai hL tv)
theorem mQ(u:Bool)(n m:Int):PuC prog gl 298 [tB u,tI n,tI m] (tB (!gg u n m)) :=
 fN [] (ai (show tB (bif !u then true else bif decide (n>=0) then decide (n<=m) else false)=tB (!gg u n m) by
rw [show (bif !u then true else bif decide (n >= 0) then decide (n <= m) else false) = !gg u n m by unfold gg; rw [Qc]; cases u <;> simp <;> omega]) tv)
theorem mY(u:Bool)(n:Int):PuC prog gl 300 [tB u,tI n] (tB (u || decide (n=0))) :=
 fN [] (ai (show tB (bif u then true else n==0)=tB (u || decide (n=0)) by rw[eqB];cases u<;>rfl) tv)
end
def wu:List Tr:=aO ((List.range 11).map fun k=>.agg ((lA k).map .at))
def glP:Nat->Option (List Tr)
 | 0=>some wu
 | _=>none
theorem LI{op:Int}{n:Nat}(h0:0<=op)(h1:op<=10)(Z:n<=64):∃I J:Int,wu.drop (op.toNat*6)=[tI I,tI J,tB (ee op),tB (sf op),tB (iq op),tB (fL op)]++(wu.drop (op.toNat*6)).drop 6/\((n<I\/J<n)↔li op n=false):=by
 rcases (by omega:op=0\/op=1\/op=2\/op=3\/op=4\/op=5\/op=6\/op=7\/op=8\/op=9\/op=10) with h|h|h|h|h|h|h|h|h|h|h<;>subst h <;>
  first|exact⟨0,0,rfl,by simp[li];try omega⟩|exact⟨2,64,rfl,by simp[li];try omega⟩|exact⟨1,1,rfl,by simp[li];try omega⟩|exact⟨2,2,rfl,by simp[li];try omega⟩
abbrev exZ:Tr:=.agg [tI 0,.at (.slice none 0 0),tI 0,tI 0,tI 0,tI 0,tI 0,tS ⟨#[]⟩]
theorem IW(F:Nat->Nat)(w:World)(v:Value)(h:Rp F w exZ v):Rp F w (cF zz) v:=by
 obtain⟨l,rfl,hr⟩:=kg h;refine .agg _ _ (jQ hr.1) fun i t v I J=>?_
 have:=hr.2 i
 match i,I,this with
 | 1,I,h =>
  cases I
  have:=h _ v rfl (jQ J);rw[bU this];exact .nil _ _ (OO _)
 | 0,I,h|2,I,h|3,I,h|4,I,h|5,I,h|6,I,h|7,I,h=>cases I;exact h _ v rfl (jQ J)
theorem KW(gl:Nat->Option (List Tr))(x:Ex)(h:aC x<=1048576):PuC prog gl 299 [exT x (aD x.args),exZ] (tB (fY x zz)):=by
 have:=GT gl x h zz;rw[ir]at this;exact PuC.arg (a:=[_]) (b:=[]) this IW
theorem GP(x:Pt)(a':x.args.length<=64)(hN:aC x.cond<=1048576):PuC prog glP 236 [pT x] (tI (ptE x)):=by
 have e1:=cB (c:=bif decide (x.op<0) then true else decide (x.op>=11)) (p:=x.op<0\/10<x.op) (by rw[orB];congr 1);unfold ptE
 by_cases h1:x.op<0\/10<x.op
 ·rw[OG h1];exact aq [.sg false [],bt] (ai (e1.1 h1) tv)
 rw[OF h1];obtain⟨J,Z,I,ha⟩:=LI (op:=x.op) (n:=x.args.length) om om a';generalize (wu.drop (x.op.toNat*6)).drop 6=R at I;have e2:=cB (c:=bif decide (((x.args.map bP).length:Int)<J) then true else decide (((x.args.map bP).length:Int) > Z)) (p:=li x.op x.args.length=false) (by rw[orB,OL];exact decide_eq_decide.2 ha);have p1:=e1.2 h1;have p2:(0:Int)<=x.op:=by omega
 have p3:x.op<11:=by omega
 by_cases h2:li x.op x.args.length=false
 ·rw[OG h2];exact aq [.sg false [],bf,.sg false [.el (.agg ([tI J,tI Z,tB (ee x.op),tB (sf x.op),tB (iq x.op),tB (fL x.op)]++R))],bt] (aj5 p1 I p2 p3 (e2.1 h2) tv)
 rw[OF h2];have p4:=e2.2 h2;have w1:=mQ glP (ee x.op) x.ty 15;have w2:=mQ glP (ee x.op) x.vr 15;have w3:=mQ glP (iq x.op) x.sc 63;have w4:=mQ glP (fL x.op) x.sp 1099511627776;have u1:=mY glP (ee x.op) x.ty;have u2:=mY glP (ee x.op) x.vr;have u3:=mY glP (iq x.op) x.sc;have u4:=mY glP (fL x.op) x.sp;have hs:=KW glP x.cond hN;have hc:=Dx glP x.cond hN;rw[ir]at hc;generalize gg (ee x.op) x.ty 15=b1 at w1 ⊢;generalize gg (ee x.op) x.vr 15=b2 at w2 ⊢;generalize gg (iq x.op) x.sc 63=b3 at w3 ⊢;generalize gg (fL x.op) x.sp 1099511627776=b4 at w4 ⊢;generalize ee x.op=a at *;generalize sf x.op=b at *;generalize iq x.op=c at *;generalize fL x.op=d at *;generalize fY x.cond zz=s at *;have e3:(bif bif bif !(!b1) then true else !(!b2) then true else !(!b3) then true else !(!b4))=(b1 || b2 || b3 || b4):=by cases b1<;>cases b2<;>cases b3<;>cases b4<;>rfl
 cases hb:b1 || b2 || b3 || b4 with
 | true=>exact aq [.sg false [],bf,.sg false [.el (.agg ([tI J,tI Z,tB a,tB b,tB c,tB d]++R))],bf,.ca (tB !b1),.ca (tB !b2),.ca (tB !b3),.ca (tB !b4),bt] (aj8 p1 I p2 p3 p4 w1 w2 w3 (aj2 w4 (e3.trans hb) tv))
 | false =>
  rw[hb]at e3;rw[OF jS];have fin:∀q,q=(bif bif bif bif bif !b then !s else false then true else !(a || decide (x.ty=0)) then true else !(a || decide (x.vr=0)) then true else !(c || decide (x.sc=0)) then true else !(d || decide (x.sp=0))) ->
    (if (a=false/\(x.ty≠0\/x.vr≠0))\/(c=false/\x.sc≠0)\/(d=false/\x.sp≠0)\/(b=false/\s=false) then (3:Int) else 0)=if q=true then 3 else 0:=by
   rintro q rfl
   by_cases q1:x.ty=0<;>by_cases q2:x.vr=0<;>by_cases q3:x.sc=0<;>by_cases q4:x.sp=0<;>cases a<;>cases b<;>cases c<;>cases d<;>cases s<;>simp[q1,q2,q3,q4]
  obtain⟨q,hq⟩:∃q,q=(bif bif bif bif bif !b then !s else false then true else !(a || decide (x.ty=0)) then true else !(a || decide (x.vr=0)) then true else !(c || decide (x.sc=0)) then true else !(d || decide (x.sp=0))):=⟨_,rfl⟩;rw[fin q hq];have e5:=cB (neB (gV x.cond) 0)
  cases b with
  | true =>
   by_cases h4:gV x.cond≠0
   ·rw[OG ⟨rfl,h4⟩];exact aq [.sg false [],bf,.sg false [.el (.agg ([tI J,tI Z,tB a,tB true,tB c,tB d]++R))],bf,.ca (tB !b1),.ca (tB !b2),.ca (tB !b3),.ca (tB !b4),bf,bt,.ca (tI (gV x.cond)),bt] (aj8 p1 I p2 p3 p4 w1 w2 w3 (aj5 w4 e3 yT hc (e5.1 h4) tv))
   ·rw[OF (fun h=>h4 h.2)]
    cases q with
    | true=>exact aq [.sg false [],bf,.sg false [.el (.agg ([tI J,tI Z,tB a,tB true,tB c,tB d]++R))],bf,.ca (tB !b1),.ca (tB !b2),.ca (tB !b3),.ca (tB !b4),bf,bt,.ca (tI (gV x.cond)),bf,.ca (tB s),.ca (tB (a || decide (x.ty=0))),.ca (tB (a || decide (x.vr=0))),.ca (tB (c || decide (x.sc=0))),.ca (tB (d || decide (x.sp=0))),bt] (aj8 p1 I p2 p3 p4 w1 w2 w3 (aj8 w4 e3 yT hc (e5.2 h4) hs u1 u2 (aj3 u3 u4 hq.symm tv)))
    | false=>exact aq [.sg false [],bf,.sg false [.el (.agg ([tI J,tI Z,tB a,tB true,tB c,tB d]++R))],bf,.ca (tB !b1),.ca (tB !b2),.ca (tB !b3),.ca (tB !b4),bf,bt,.ca (tI (gV x.cond)),bf,.ca (tB s),.ca (tB (a || decide (x.ty=0))),.ca (tB (a || decide (x.vr=0))),.ca (tB (c || decide (x.sc=0))),.ca (tB (d || decide (x.sp=0))),bf] (aj8 p1 I p2 p3 p4 w1 w2 w3 (aj8 w4 e3 yT hc (e5.2 h4) hs u1 u2 (aj3 u3 u4 hq.symm tv)))
  | false =>
   rw[OF (fun h=>by cases h.1)]
   cases q with
   | true=>exact aq [.sg false [],bf,.sg false [.el (.agg ([tI J,tI Z,tB a,tB false,tB c,tB d]++R))],bf,.ca (tB !b1),.ca (tB !b2),.ca (tB !b3),.ca (tB !b4),bf,bf,.ca (tB s),.ca (tB (a || decide (x.ty=0))),.ca (tB (a || decide (x.vr=0))),.ca (tB (c || decide (x.sc=0))),.ca (tB (d || decide (x.sp=0))),bt] (aj8 p1 I p2 p3 p4 w1 w2 w3 (aj8 w4 e3 yF hs u1 u2 u3 u4 (ai hq.symm tv)))
   | false=>exact aq [.sg false [],bf,.sg false [.el (.agg ([tI J,tI Z,tB a,tB false,tB c,tB d]++R))],bf,.ca (tB !b1),.ca (tB !b2),.ca (tB !b3),.ca (tB !b4),bf,bf,.ca (tB s),.ca (tB (a || decide (x.ty=0))),.ca (tB (a || decide (x.vr=0))),.ca (tB (c || decide (x.sc=0))),.ca (tB (d || decide (x.sp=0))),bf] (aj8 p1 I p2 p3 p4 w1 w2 w3 (aj8 w4 e3 yF hs u1 u2 u3 u4 (ai hq.symm tv)))
end
section
theorem mJ(h:(dD x)[k]?=some t):∃y,(aV x)[k]?=some y/\t=pT y:=by
 rw[OQ]at h
 cases hy:(aV x)[k]? with
 | none=>rw[hy]at h;cases h
 | some y=>rw[hy]at h;cases h;exact⟨y,rfl,oI y⟩
theorem qP(l:List Int):∃n,(∀k a,k<n->l[k]?=some a->a=0)/\(∀a,l[n]?=some a->a≠0/\fy l=a)/\(l.length<=n->fy l=0):=by
 induction l with
 | nil=>exact⟨0,fun _ _ h=>om,fun _ h=>by simp at h,fun _=>rfl⟩
 | cons b r Z =>
  by_cases J:b=0
  ·obtain⟨n,h1,h2,h3⟩:=Z;rw[fy,OF (jQ J)];refine⟨n+1,fun k a hk I=>?_,fun a I=>h2 a (jQ I),fun h=>h3 (by simp at h;omega)⟩
   cases k with
   | zero=>simp at I;rw[<-I,J]
   | succ k=>exact h1 k a om (jQ I)
  ·rw[fy,OG J];exact⟨0,fun _ _ h=>om,fun a I=>by simp at I;subst I;exact⟨J,rfl⟩,fun h=>by simp at h⟩
section
variable (gl : Nat -> Option (List Tr))
abbrev ua(x:Pt):Tr:=.fn (.func 237) [] [.elp (pT x).cells]
theorem zd(x:Pt):PuC prog gl 170 [pT x] (ua x):=aq [.sg false []] trivial
theorem Fi(x:Pt)(J:ptN x<=1048576):SeqT prog gl 237 [] [.elp (pT x).cells] (dD x) (.p (.tup [])) (.p (.tup [])):=fun c p hp hf =>
 have h:=(Oi gl _ x J om).cf hp hf
 ⟨fun I=>fC [.di (tB true) (c.O (p+(dD x).length)) c.X] (ai (h.1 I) tv),fun I=>fC [.di (tB false) c.O' c.X'] (ai (h.2 I) tv)⟩
noncomputable def prO(x:Pt)(k:Int):List (Nat × Ob):=[(0,.box ((pT x).cells.map .p)),(1,.box [.p (tI k)])]
noncomputable def crf(x:Pt):Fr:=⟨24,[(2,.off 1 0 0),(17,.p (ua x))],none,[]⟩
theorem Kz(x:Pt)(hN:ptB x<=1048576):PuC prog glP 169 [pT x] (tI (dB x)):=by
 have a':=iL x;have hs:=I3 glP _ x (OP a' hN) (OI _);have e1:=cB (c:=decide ((64:Int)<(ptN x:Nat))) (p:=64<ptN x) (by simp;omega);have e2:=cB (c:=decide ((12:Int)<(ptD x:Nat))) (p:=12<ptD x) (by simp;omega);unfold dB
 by_cases h1:64<ptN x
 ·rw[OG h1];exact aq [.ca (.tup [tI (ptN x),tI (ptD x)]),bt] (aj2 hs (e1.1 h1) tv)
 rw[OF h1]
 by_cases I:12<ptD x
 ·rw[OG I];exact aq [.ca (.tup [tI (ptN x),tI (ptD x)]),bf,bt] (aj3 hs (e1.2 h1) (e2.1 I) tv)
 rw[OF I];obtain⟨n,f1,f2,f3⟩:=qP ((aV x).map ptE);have J:∀y k,(aV x)[k]?=some y->PuC prog glP 236 [pT y] (tI (ptE y)):=fun y k hy=>by
  have hm:=Pb hy;have:=mP x y hm;have:=B0 x y hm;have:=Ij y;have:=mD y;exact GP y om om
 have hR:=uH (P:=prog) (gl:=glP) (F:=169) (path:=[1,1,1,1,0,1,0]) (f:=crf x) (e1:=.ret) 2 (fun _=>prO x 0) n (prO x (fy ((aV x).map ptE))) .ret (Fi glP x om)
  (fun k t hk Z=>by
   obtain⟨y,hy,rfl⟩:=mJ Z;have h0:ptE y=0:=f1 k _ hk (by rw[OQ,hy];rfl);have hc:=J y k hy;rw[h0]at hc;exact Body.ch [.ca (tI 0),bf] [0,1] [] 2 [.k 2] [] (fun _ _=>_) (fun _ _ h=>h) (fun _ _ _=>ai hc (ai yF tv)))
  (fun t Z=>by
   obtain⟨y,hy,rfl⟩:=mJ Z;obtain⟨g1,g2⟩:=f2 (ptE y) (by rw[OQ,hy];rfl);rw[g2];exact Body.ch [.ca (tI (ptE y)),bt] [0,1] [] 2 [.k 2] [] (fun _ _=>_) (fun _ _ h=>h) (fun _ _ _=>ai (J y n hy) (ai ((cB (neB (ptE y) 0)).1 g1) tv))) GH
 by_cases hn:(dD x).length<=n
 ·rw[f3 (jQ hn)];exact aq [.ca (.tup [tI (ptN x),tI (ptD x)]),bf,bf,.ca (ua x),.rf [2,17] .normal (rgT prog 169 [1,1,1,1,0,1,0] (crf x) [] [] (prO x 0) none)]
   (aj5 hs (e1.2 h1) (e2.2 I) (zd glP x) (hR.1 hn) tv)
 ·exact aq [.ca (.tup [tI (ptN x),tI (ptD x)]),bf,bf,.ca (ua x),.rf [2,17] .ret (rgT prog 169 [1,1,1,1,0,1,0] (crf x) [] [] (prO x (fy ((aV x).map ptE))) (some .ret))]
   (aj5 hs (e1.2 h1) (e2.2 I) (zd glP x) (hR.2 hn) tv)
noncomputable def whf(x:Pt):Fr:=⟨16,[(2,.off 1 0 0),(11,.p (ua x))],none,[]⟩
theorem KO(x:Pt)(hN:ptB x<=1048576):PuC prog glP 101 [pT x] (tI (fU x)):=by
 have a':=iL x;have hr:=Kz x hN;have e1:=cB (neB (dB x) 0);unfold fU
 by_cases h1:dB x≠0
 ·rw[OG h1];exact aq [.ca (tI (dB x)),bt] (aj2 hr (e1.1 h1) tv)
 rw[OF h1];obtain⟨n,f1,f2,f3⟩:=qP ((aV x).map kH);have hR:=uH (P:=prog) (gl:=glP) (F:=101) (path:=[1,1,0,1,0]) (f:=whf x) (e1:=.ret) 2 (fun _=>prO x 0) n (prO x 1) .ret (Fi glP x om)
  (fun k t hk Z=>by
   obtain⟨y,hy,rfl⟩:=mJ Z;have h0:kH y=0:=f1 k _ hk (by rw[OQ,hy];rfl);exact Body.ch [bf] [0,1] [] 2 [.k 2] [] (fun _ _=>_) (fun _ _ h=>h) (fun _ _ _=>ai (show decide ((8:Int)<=y.op)=false by unfold kH at h0;split at h0<;>simp_all) trivial))
  (fun t Z=>by
   obtain⟨y,hy,rfl⟩:=mJ Z;obtain⟨g1,-⟩:=f2 (kH y) (by rw[OQ,hy];rfl);exact Body.ch [bt] [0,1] [] 2 [.k 2] [] (fun _ _=>_) (fun _ _ h=>h) (fun _ _ _=>ai (show decide ((8:Int)<=y.op)=true by unfold kH at g1;split at g1<;>simp_all) trivial)) GH
 by_cases I:(dD x).length<=n
 ·rw[f3 (jQ I)];exact aq [.ca (tI (dB x)),bf,.ca (ua x),.rf [2,11] .normal (rgT prog 101 [1,1,0,1,0] (whf x) [] [] (prO x 0) none)] (aj4 hr (e1.2 h1) (zd glP x) (hR.1 I) tv)
 ·have J:n<(aV x).length:=jQ I;have e:fy ((aV x).map kH)=1:=by
   obtain⟨g1,g2⟩:=f2 (kH (aV x)[n]) (by simp[J]);rw[g2];unfold kH at g1 ⊢;split at g1<;>simp_all
  rw[e];exact aq [.ca (tI (dB x)),bf,.ca (ua x),.rf [2,11] .ret (rgT prog 101 [1,1,0,1,0] (whf x) [] [] (prO x 1) (some .ret))] (aj4 hr (e1.2 h1) (zd glP x) (hR.2 I) tv)
noncomputable def cnf(x:Pt):Fr:=⟨42,[(5,.off 0 0 0),(6,.off 1 0 0),(7,.off 2 0 0),(11,.p (ua x))],none,[]⟩
noncomputable def cnO(a b:Int)(o:Bool):List (Nat × Ob):=[(0,.box [.p (tI a)]),(1,.box [.p (tI b)]),(2,.box [.p (tB o)])]
def cntS(z:Tr)(t s o q:Bool):List Ch:=.el z::.br t::((bif t then List.replicate 5 (.br o) else [])++.br s::(bif s then List.replicate 5 (.br q) else []))
def Mz(A:List Prop)(t s o q v:Bool):Prop:=alP (A++(t=t)::((bif t then List.replicate 5 (o=o) else [])++(s=s)::(bif s then List.replicate 5 (v=q) else [])))
def IsS(ds:List Ch):Prop:=ds=ds
def A9{ds:List Ch}(_:IsS ds):List Ch:=ds
theorem Jn{t s o q v:Bool}(h:alP A)(e:v=q):Mz A t s o q v:=by
 subst e
 induction A with
 | nil=>cases t<;>cases s<;>simp[Mz,alP,List.replicate]
 | cons p A I=>exact⟨h.1,I h.2⟩
theorem Hi(x y:Pt)(a b:Int)(o:Bool)(h0:0<=y.op)(h1:y.op<=10)(ha:0<=a/\a<1048576)(hb:0<=b/\b<1048576) :
  Body prog glP (rgl prog 102 [1,1,0,1,0] (cnf x)) 0 (sd 3) (cnO a b o) (pT y) .normal (cnO (ec (a,b,o) y).1 (ec (a,b,o) y).2.1 (ec (a,b,o) y).2.2):=by
 obtain⟨lo,Z,I,-⟩:=LI (op:=y.op) (n:=0) h0 h1 om;generalize (wu.drop (y.op.toNat*6)).drop 6=R at I;have J:y.op<11:=by omega
 unfold ec;generalize sf y.op=co at I;generalize fL y.op=sp at I;have wa:a+1=IntKind.i64.wrap (a+1):=by rw[Pv];omega
 have wb:b+1=IntKind.i64.wrap (b+1):=by rw[Pv];omega
 rw[wa,wb];generalize ee y.op=t at *;generalize iq y.op=s at *;obtain⟨v,hv⟩:∃v,v=(bif t then bif o then y.vr==a else false else o):=⟨_,rfl⟩;rw[show (if t=true then o&&decide (y.vr=a) else o)=v by rw[hv,<-eqB];cases t<;>cases o<;>rfl];have key:∀q,v=q->Body prog glP (rgl prog 102 [1,1,0,1,0] (cnf x)) 0 (sd 3) (cnO a b o) (pT y) .normal
   (cnO (bif t then IntKind.i64.wrap (a+1) else a) (bif s then IntKind.i64.wrap (b+1) else b) (bif s then bif q then y.sc==b else false else v)):=fun q hq=>by
  have hp:Mz [wu.drop (y.op.toNat*6)=[tI lo,tI Z,tB t,tB co,tB s,tB sp]++R,0<=y.op,y.op<11] t s o q v:=Jn ⟨I,h0,J,trivial⟩ hq;have hT:IsS (cntS (.agg ([tI lo,tI Z,tB t,tB co,tB s,tB sp]++R)) t s o q):=rfl;clear hq I;subst hv
  cases t<;>cases s<;>cases o<;>cases q<;>exact Body.ch (A9 hT) [0,1,2] [] 3 [.k 3] [.k 4] (fun _ _=>_) (fun _ _ h=>h) (fun _ _ _=>hp)
 have:=key v rfl;rw[show (bif s then bif v then y.sc==b else false else v)=(v&&(!s || decide (y.sc=b))) by rw[<-eqB];cases s<;>cases v<;>simp]at this
 cases t<;>cases s<;>exact this
theorem F2(x:Pt)(hN:ptB x<=1048576)(J:∀y∈aV x,0<=y.op/\y.op<=10):PuC prog glP 102 [pT x] (.tup [tI (iK (aV x)).1,tI (iK (aV x)).2.1,tB (iK (aV x)).2.2]):=by
 have Z:=iL x;have a':(aV x).length<=1048576:=by rw[gm];omega
 have hR:=uH (P:=prog) (gl:=glP) (F:=102) (path:=[1,1,0,1,0]) (f:=cnf x) (e1:=.ret) 3 (fun k=>cnO (iK ((aV x).take k)).1 (iK ((aV x).take k)).2.1 (iK ((aV x).take k)).2.2) (aV x).length [] .ret (Fi glP x om)
  (fun k t hk I=>by
   obtain⟨y,hy,rfl⟩:=mJ I;obtain⟨o0,o1⟩:=J y (Pb hy);have hc:=B9 ((aV x).take k) 0 0 true;have hl:((aV x).take k).length=k:=by rw[PB];omega
   rw[hl]at hc;rw[EQ hy];unfold iK;exact Hi x y _ _ _ o0 o1 om om)
  (fun t I=>by simp at I) GH
 have h:=hR.1 jS;rw[OL,Pp]at h;exact aq [.sg false [],.ca (ua x),.rf [5,6,7,11] .normal (rgT prog 102 [1,1,0,1,0] (cnf x) [] [] (cnO (iK (aV x)).1 (iK (aV x)).2.1 (iK (aV x)).2.2) none)] (aj2 (zd glP x) h tv)
theorem ER(x:Pt)(J:ptB x<=1048576):PuC prog glP 52 [pT x] (tI (fx x)):=by
 have hw:=KO x J;have e1:=cB (neB (fU x) 0);rw[A0]
 by_cases h1:fU x≠0
 ·rw[OG h1];exact aq [.ca (tI (fU x)),bt] (aj2 hw (e1.1 h1) tv)
 rw[OF h1];have h:=F2 x J (AU (jQ h1))
 cases I:(iK (aV x)).2.2 with
 | true=>rw[I]at h;exact aq [.ca (tI (fU x)),bf,.ca (.tup [tI (iK (aV x)).1,tI (iK (aV x)).2.1,tB true]),bf] (aj4 hw (e1.2 h1) h yF tv)
 | false=>rw[I]at h;exact aq [.ca (tI (fU x)),bf,.ca (.tup [tI (iK (aV x)).1,tI (iK (aV x)).2.1,tB false]),bt] (aj4 hw (e1.2 h1) h yT tv)
end
end
section
section
variable (gl : Nat -> Option (List Tr))
def Ku(t:Tr)(y:Evt):Prop:=∀F w v,Rp F w t v->∃u,v=cM y u/\bh w u y.vals
theorem A6(y:Evt):Ku (evT y) y:=fun _ _ _ h=>Mc h
abbrev evZ:Tr:=.agg [tI 0,tI 0,tI 0,tI 0,.at (.slice none 0 0)]
theorem IB:Ku evZ kw:=fun F w v h=>by
 obtain⟨l,rfl,hr⟩:=kg h;clear h;obtain⟨_,_,rfl,h0,hr⟩:=aA hr;obtain⟨_,_,rfl,h1,hr⟩:=aA hr;obtain⟨_,_,rfl,I,hr⟩:=aA hr;obtain⟨_,_,rfl,Z,hr⟩:=aA hr;obtain⟨u,_,rfl,J,hr⟩:=aA hr;obtain rfl:=cm hr;rw[bU h0,bU h1,bU I,bU Z,bU J];exact⟨_,rfl,none,0,rfl,OO _,OO _,fun k x hk=>by cases hk⟩
theorem qQ(vs:List (List Evt))(own:Int)(hy:Ku I y)(x:Ex)(h:∀k,(bR vs k).length<=1048576)(hN:aC x<=1048576):PuC prog gl 184 [exT x (aD x.args),oo vs,tI own,I] (tB (cg vs own y x)) :=
 gU fun F w l hr=>by
  obtain⟨_,_,rfl,h0,hr⟩:=aA hr;obtain⟨_,_,rfl,h1,hr⟩:=aA hr;obtain⟨_,_,rfl,J,hr⟩:=aA hr;obtain⟨_,_,rfl,h3,hr⟩:=aA hr;obtain rfl:=cm hr;rw[<-ir]at h0;obtain⟨Z,rfl,g0⟩:=L8 h0;obtain⟨u1,rfl,g1⟩:=Gs h1;obtain⟨u3,rfl,g3⟩:=hy _ _ _ h3;rw[bU J];exact Bu _ vs u1 own y u3 h x Z w g1 g3 g0 hN
noncomputable def clI(x:Pt)(l:List Evt)(b s:Bs)(k:Int):Sg:=⟨[(0,.box ((ptT x (bm x.args)).cells.map .p))],[⟨56,[(1,.p (bE l)),(2,.p (bsT b)),(3,.p (bsT s)),(4,.off 0 0 0),(9,.p (tI k))],none,[]⟩],[]⟩
noncomputable def clE(x:Pt):Sg:=⟨[(0,.box ((ptT x (bm x.args)).cells.map .p))],[⟨56,[],none,[]⟩],[]⟩
noncomputable def clR(x:Pt):Sg:=⟨[(0,.box ((ptT x (bm x.args)).cells.map .p))],[⟨56,[(8,.p (tB false))],none,[]⟩],[]⟩
noncomputable def clC:Code:=lpb prog 189 [1,0,1,0]
theorem JI(x:Pt)(l:List Evt)(b s:Bs)(z0 z:Int × Nat)(h0:s.head?=some z0)(hz:s.getLast?=some z)(hle:z0.2<=z.2)(m':z.2<l.length)(hl:l.length<=1048576)(h':b.length+s.length<=1048576)(l':∀y∈ah b s,(0<=y.1/\y.1<16)/\y.2<l.length)(hN:aC x.cond<=1048576):PuC prog gl 189 [ptT x (bm x.args),bE l,bsT b,bsT s] (tB (lY l x.ty x.vr x.cond b s)):=by
 have i':sk s=z0.2:=by unfold sk;rw[h0];rfl
 have j':aK s=z.2:=by unfold aK;rw[hz];rfl
 have I:=Dc bT hz om;have g':(ah b s).length<=1048576:=by rw[gL];omega
 have a':=rg gl b s h';have hy:∀k,k<z.2-z0.2->∃y,l[z0.2+k]?=some y:=fun k hk=>⟨_,OH (show z0.2+k<l.length by omega)⟩
 have J:∀k,k<z.2-z0.2->decide (((z0.2+k:Nat):Int)<(z.2:Int))=true:=fun k hk=>O3 om
 have f':∀k y,PuC prog gl 184 [exT x.cond (aD x.cond.args),oo (dy l (ah b s) k),tI x.vr,evT y] (tB (cg (dy l (ah b s) k) x.vr y x.cond)):=fun k y=>qQ gl _ x.vr (A6 y) x.cond (fun j=>gP g' j) hN
 have d':=fun k=>zQ gl l (ah b s) k g' l'
 have hL:=LoopP.any (P:=prog) (gl:=gl) (N:=0) (c:=clC) (e:=.exit 0) (τ:=clE x) (e1:=.ret) (τ1:=clR x) (fun k=>clI x l b s ((z0.2+k:Nat):Int)) (List.range (z.2-z0.2)) (fun k=>!(eN l x.ty x.vr x.cond b s (z0.2+k)))
  (fun k k' hk hp e τ h=>by
   obtain⟨Z,e⟩:=List.getElem?_eq_some_iff.1 hk;simp only[QE,Sd]at Z e;subst e;obtain⟨y,hy⟩:=hy k Z;rw[lc om hy]at hp;have hc:=CW gl s (z0.2+k) om;have hw:((z0.2+(k+1):Nat):Int)=IntKind.i64.wrap (((z0.2+k:Nat):Int)+1):=by rw[Pv];omega
   rw[hw]at h
   cases hh:jl s (z0.2+k) with
   | true =>
    rw[hh]at hc;exact LoopP.next [.el (bT z),bt,.ca (tB true),bf,bf,bf,bf,bf] [1,2,3,4,9] [0] rfl h (aj8 I.1 I.2 (J k Z) hc yF yF yF yF (ai yF tv))
   | false =>
    rw[hh]at hc hp
    by_cases ht:y.ty=x.ty
    ·have hq:=f' (z0.2+k) y;rw[show cg (dy l (ah b s) (z0.2+k)) x.vr y x.cond=false by simpa [ht] using hp]at hq;exact LoopP.next [.el (bT z),bt,.ca (tB false),bt,.el (evT y),bt,bt,.ca (bsT (ah b s)),.ca (oo (dy l (ah b s) (z0.2+k))),.el (evT y),.ca (tB false),bt,bf] [1,2,3,4,9] [0] rfl h
      (aj8 I.1 I.2 (J k Z) hc yT (elM evT hy) (k0 (z0.2+k)) yT (aj8 (show (y.ty==x.ty)=true from jQ ht) a' (d' (z0.2+k)) (elM evT hy) (k0 (z0.2+k)) hq yT yF tv))
    ·exact LoopP.next [.el (bT z),bt,.ca (tB false),bt,.el (evT y),bt,bf,bf,bf] [1,2,3,4,9] [0] rfl h
      (aj8 I.1 I.2 (J k Z) hc yT (elM evT hy) (k0 (z0.2+k)) yT (aj3 (show (y.ty==x.ty)=false from jQ ht) yF yF tv)))
  (fun k k' hk hp=>by
   obtain⟨Z,e⟩:=List.getElem?_eq_some_iff.1 hk;simp only[QE,Sd]at Z e;subst e;obtain⟨y,hy⟩:=hy k Z;rw[lc om hy]at hp;have hc:=CW gl s (z0.2+k) om;have hq:=f' (z0.2+k) y;simp only[P2,ON,Pj,OW]at hp;rw[hp.1]at hc;rw[hp.2.2]at hq;exact LoopP.stop [.el (bT z),bt,.ca (tB false),bt,.el (evT y),bt,bt,.ca (bsT (ah b s)),.ca (oo (dy l (ah b s) (z0.2+k))),.el (evT y),.ca (tB true),bt,bt] [8] [0] jS
    (aj8 I.1 I.2 (J k Z) hc yT (elM evT hy) (k0 (z0.2+k)) yT (aj8 (show (y.ty==x.ty)=true from jQ hp.2.1) a' (d' (z0.2+k)) (elM evT hy) (k0 (z0.2+k)) hq yT yT tv)))
  (by
   rw[QE];exact LoopP.stop [.el (bT z),bf] [] [0] jS (aj3 I.1 I.2 (show decide (((z0.2+(z.2-z0.2):Nat):Int)<(z.2:Int))=false from OZ om) tv))
 have e:lY l x.ty x.vr x.cond b s=!((List.range (z.2-z0.2)).any fun k=>!(eN l x.ty x.vr x.cond b s (z0.2+k))):=by
  have c':=jN l x.ty x.vr x.cond b s;rw[i',Re]at c';unfold lY;rw[j'];exact tO fun k hk=>c' k (jQ hk)
 rw[e]
 cases h:(List.range (z.2-z0.2)).any fun k=>!(eN l x.ty x.vr x.cond b s (z0.2+k)) with
 | true=>exact aq [.el (bT z0),.lo [1,2,3,4,9] .ret (clR x)] (aj3 (sE bT h0) i0 (hL.1 h) tv)
 | false=>exact aq [.el (bT z0),.lo [1,2,3,4,9] (.exit 0) (clE x)] (aj3 (sE bT h0) i0 (hL.2 h) tv)
theorem Kd(x:Pt)(l:List Evt)(b s:Bs)(z0 z:Int × Nat)(h0:s.head?=some z0)(hz:s.getLast?=some z)(hle:z0.2<=z.2)(I:z.2<l.length)(hl:l.length<=1048576)(h:b.length+s.length<=1048576)(c':∀y∈ah b s,(0<=y.1/\y.1<16)/\y.2<l.length)(hN:aC x.cond<=1048576):PuC prog gl 132 [ptT x (bm x.args),bE l,bsT b,bsT s] (tB (cL l x.op x.ty x.vr x.sp x.cond b s)):=by
 have a':(ah b s).length<=1048576:=by rw[gL];omega
 by_cases h5:x.op=5
 ·have e:cL l x.op x.ty x.vr x.sp x.cond b s=lY l x.ty x.vr x.cond b s:=by rw[h5];rfl
  rw[e];exact aq [bt,.ca (tB (lY l x.ty x.vr x.cond b s))] (aj2 (show (x.op==5)=true from jQ h5) (JI gl x l b s z0 z h0 hz hle I hl h c' hN) tv)
 have g5:(x.op==5)=false:=jQ h5;unfold cL;rw[OF h5]
 by_cases h6:x.op=6
 ·have d':=Dc bT hz om;have e1:l[z.2]?=some l[z.2]:=OH I;have e0:l[z0.2]?=some l[z0.2]:=OH om;rw[OG h6,h0,show aK s=z.2 by unfold aK;rw[hz];rfl];simp only[PD,P3,e1,e0];exact aq [bf,bt,.el (bT z),.el (evT l[z.2]),.el (bT z0),.el (evT l[z0.2])] (aj8 g5 (show (x.op==6)=true from jQ h6) d'.1 d'.2 (elM evT e1) (k0 z.2) (sE bT h0) i0 (aj2 (elM evT e0) (k0 z0.2) tv))
 ·rw[OF h6];have J:=zQ gl l (ah b s) l.length a' c';rw[<-OL (f:=evT)]at J;have Z:=qQ gl (dy l (ah b s) l.length) (-1) IB x.cond (fun j=>gP a' j) hN;rw[<-OL (f:=evT)]at Z;have e:cg (dy l (ah b s) l.length) (-1) kw x.cond=cg (dy l (ah b s) (l.map evT).length) (-1) kw x.cond:=by rw[OL]
  rw[e];exact aq [bf,bf,.ca (bsT (ah b s)),.ca (oo (dy l (ah b s) (l.map evT).length)),.ca (tB (cg (dy l (ah b s) (l.map evT).length) (-1) kw x.cond))] (aj5 g5 (show (x.op==6)=false from jQ h6) (rg gl b s h) J Z tv)
end
end
section
abbrev aL(L:List Bs):Tr:=.lst false (L.map bsT)
section
variable (gl : Nat -> Option (List Tr))
noncomputable def etB(x:Pt)(L:List Bs):List (Nat × Ob):=[(0,.box ((ptT x (bm x.args)).cells.map .p)),(1,.row 140 1 (L.map bsT) false)]
noncomputable def etI(x:Pt)(l:List Evt)(b:Bs)(L:List Bs)(k:Int):Sg:=⟨etB x L,[⟨50,[(1,.p (bE l)),(2,.p (bsT b)),(4,.off 0 0 0),(9,.ref 1),(10,.p (tI k))],none,[]⟩],[]⟩
noncomputable def etE(x:Pt)(L:List Bs):Sg:=⟨etB x L,[⟨50,[(9,.ref 1)],none,[]⟩],[]⟩
noncomputable def etC:Code:=lpb prog 127 [1,1,0,1,0]
theorem Jz(x:Pt)(l:List Evt)(b:Bs)(i:Nat)(hi:i<=l.length)(hl:l.length<=1048576)(hb:b.length<=1048576)(g':∀y∈b,(0<=y.1/\y.1<16)/\y.2<l.length)(hN:aC x.cond<=1048576) :
  PuC prog gl 127 [ptT x (bm x.args),bE l,bsT b,tI i] (aL (em l x.ty x.vr x.cond b i)):=by
 obtain⟨p,hp⟩:∃p:Nat->Bool,p=fun k=>decide (i<=k)&&(l[k]?.map fun e=>decide (e.ty=x.ty)&&cg (dy l b k) x.vr e x.cond).getD false:=⟨_,rfl⟩
 obtain⟨A,hA⟩:∃A:Nat->List Bs,A=fun k=>((List.range (i+k)).filter p).map fun k=>[(x.vr,k)]:=⟨_,rfl⟩
 have d':A 0=[]:=by
  rw[hA];simp only[P9,List.map_eq_nil_iff,List.filter_eq_nil_iff,List.mem_range];intro k hk;rw[hp];simp only[ON,OW];omega
 have f':A (l.length-i)=em l x.ty x.vr x.cond b i:=by rw[hA];simp only[show i+(l.length-i)=l.length by omega,hp];rfl
 have a':∀k,A (k+1)=A k++if p (i+k)=true then [[(x.vr,i+k)]] else []:=fun k=>by
  rw[hA];simp only[<-PP,List.range_succ,Rs,Pq];congr 1
  cases h:p (i+k)<;>simp[h]
 have c':∀k,(A k).length<=i+k:=fun k=>by rw[hA];simp only[OL];exact OP (QF ..) jS
 have hL:LoopP prog gl 0 etC (etI x l b [] ((i:Nat):Int)) (.exit 0) (etE x (em l x.ty x.vr x.cond b i)):=by
  rw[<-d',<-f'];refine LoopP.each (fun k=>etI x l b (A k) ((i+k:Nat):Int)) (l.length-i) (fun k hk h=>?_) ?_
  ·have hy:l[i+k]?=some l[i+k]:=OH om;have hc:=ltM evT (sz hy);have J:p (i+k)=(decide ((l[i+k]).ty=x.ty)&&cg (dy l b (i+k)) x.vr l[i+k] x.cond):=by rw[hp];simp only[hy,PD,P3];rw[O3 om,QQ]
   generalize l[i+k]=y at hy J;have hw:((i+(k+1):Nat):Int)=IntKind.i64.wrap (((i+k:Nat):Int)+1):=by rw[Pv];omega
   rw[a',J,hw]at h
   by_cases Z:y.ty=x.ty
   ·have g:(y.ty==x.ty)=true:=jQ Z;have hq:=qQ gl (dy l b (i+k)) x.vr (A6 y) x.cond (fun j=>gP hb j) hN;have I:=zQ gl l b (i+k) hb g';generalize cg (dy l b (i+k)) x.vr y x.cond=q at hq h;rw[O3 Z,QQ]at h
    cases q with
    | true =>
     rw[OG rfl]at h;unfold etI etB at h;rw[Pq]at h;have h':=c' k;exact LoopP.next [bt,.el (evT y),bt,.ca (oo (dy l b (i+k))),.el (evT y),.ca (tB true),bt,bt,.ap] [1,2,4,9,10] [0,2] rfl h
      (aj8 hc (elM evT hy) (k0 (i+k)) g I (elM evT hy) (k0 (i+k)) hq (aj5 yT yT yT (show ((A k).map bsT).length+1<=maxLen by rw[aQ,OL];omega) (show (((A k).map bsT).length+1)*24<=140737488355328 by rw[OL];omega) tv)) [.ren 2 1]
    | false =>
     rw[OF jS,Qf]at h;exact LoopP.next [bt,.el (evT y),bt,.ca (oo (dy l b (i+k))),.el (evT y),.ca (tB false),bt,bf] [1,2,4,9,10] [0,1] rfl h
      (aj8 hc (elM evT hy) (k0 (i+k)) g I (elM evT hy) (k0 (i+k)) hq (aj2 yT yF tv))
   ·have g:(y.ty==x.ty)=false:=jQ Z;rw[OZ Z,Bool.false_and,OF jS,Qf]at h;exact LoopP.next [bt,.el (evT y),bf,bf,bf] [1,2,4,9,10] [0,1] rfl h (aj6 hc (elM evT hy) (k0 (i+k)) g yF yF tv)
  ·exact LoopP.stop [bf] [9] [0,1] jS (ai (show decide (((i+(l.length-i):Nat):Int)<((l.map evT).length:Nat))=false by rw[OL];exact OZ om) tv)
 exact aq [.lo [1,2,4,9,10] (.exit 0) (etE x (em l x.ty x.vr x.cond b i))] (ai (LoopP.tns ⟨[(0,.box ((ptT x (bm x.args)).cells.map .p))],[⟨50,[(1,.p (bE l)),(2,.p (bsT b)),(4,.off 0 0 0),(9,.p (.at (.slice none 0 0))),(10,.p (tI i))],none,[]⟩],[]⟩ [.own 9 1 140 1] hL) tv)
theorem CP(s t:Bs):PuC prog gl 261 [bsT s,bsT t] (tB (decide (s=t))):=gU fun F w l hr=>by
 obtain⟨_,_,rfl,h0,hr⟩:=aA hr;obtain⟨_,_,rfl,h1,hr⟩:=aA hr;obtain rfl:=cm hr;exact yK s t _ _ w (lH h0) (lH h1)
abbrev roB(X:Ob)(L:List Bs):List (Nat × Ob):=[(0,X),(1,.row 140 1 (L.map bsT) false)]
noncomputable def wiI(X:Ob)(L:List Bs)(s:Bs)(fr:Fr)(k:Int):Sg:=⟨roB X L,[⟨23,[(0,.ref 1),(1,.p (bsT s)),(5,.p (tI k))],none,[]⟩,fr],[]⟩
noncomputable def wiE(X:Ob)(L:List Bs)(s:Bs)(fr:Fr):Sg:=⟨roB X L,[⟨23,[(0,.ref 1),(1,.p (bsT s))],none,[]⟩,fr],[]⟩
noncomputable def wiR(X:Ob)(L:List Bs)(fr:Fr):Sg:=⟨roB X L,[⟨23,[(4,.ref 1)],none,[]⟩,fr],[]⟩
noncomputable def wiC:Code:=lpb prog 187 [1,0,1,0]
theorem withL(X:Ob)(L:List Bs)(s:Bs)(fr:Fr)(J:L.length<=16777216) :
  (L.contains s=true->LoopP prog gl 2 wiC (wiI X L s fr (0:Nat)) .ret (wiR X L fr))/\(L.contains s=false->LoopP prog gl 2 wiC (wiI X L s fr (0:Nat)) (.exit 0) (wiE X L s fr)):=by
 have e:L.contains s=L.any fun y=>decide (y=s):=by
  rw[Qc,List.contains_iff_mem,RG];simp only[OW];exact⟨fun h=>⟨s,h,rfl⟩,fun⟨y,h,e⟩=>e▸h⟩
 rw[e];exact LoopP.any (fun k=>wiI X L s fr (k:Nat)) L (fun y=>decide (y=s))
  (fun k y hk hp e τ h=>by
   have I:=CP gl y s;rw[hp]at I;rw[<-wr1 (sz hk) om]at h;exact LoopP.next [bt,.el (bsT y),.ld (bsT y),.ca (tB false),bf] [0,1,5] [0,1] rfl h (aj6 (ltM bsT (sz hk)) (elM bsT hk) (k0 k) (elM bsT hk) I yF tv))
  (fun k y hk hp=>by
   have I:=CP gl y s;rw[hp]at I;exact LoopP.stop [bt,.el (bsT y),.ld (bsT y),.ca (tB true),bt] [4] [0,1] jS (aj6 (ltM bsT (sz hk)) (elM bsT hk) (k0 k) (elM bsT hk) I yT tv))
  (LoopP.stop [bf] [0,1] [0,1] jS (ai (dI bsT L) tv))
end
end
end Go.Proofs.YteemngnialjaiaaGreatDoor
