/- Part. -/
import Derived.Test.YteemngnialjaiaaGreatDoorQ21
set_option maxRecDepth 100000
set_option maxHeartbeats 16000000
set_option linter.unusedVariables false
set_option linter.unusedSimpArgs false
namespace Go.Proofs.YteemngnialjaiaaGreatDoor
open Go.Proofs.Tryz Go.RowKit
variable {m i k:Nat}{ds path:List Nat}{P:Program}{gl:Nat->Option (List Tr)}{x t:Tr}{A:Prop}{g F:FuncId}{b:Bool}{fn:Func}{σ:Sg}{o:Oper}{α:Type}{cd:Code}{e e1:Exit}
structure Csm where
 K:List Fr
 X:List Lp
 a:Nat
 O:Nat->List (Nat × Ob)
 n:Nat
 O':List (Nat × Ob)
 X':List Lp
def Csm.psh(c:Csm)(f:Fr):Csm:={ c with K:=f::c.K }
def Csm.ext(c:Csm)(X1:List Lp):Csm:={ c with X:=c.X++X1,X':=c.X'++X1 }
def Lp.fre(l:Lp):Bool:=l.fr.fre
inductive Kc where
 | k (n:Nat)
 | r (a b:Nat)
def Kc.to:Kc->V->V
 | .k n=>V.kill n
 | .r a b=>V.atm (jJ a b)
def Kc.ok(m:Nat):Kc->Bool
 | .k n=>Nat.ble m n
 | .r a b=>Nat.ble m a&&Nat.ble m b
def kcY:List Kc->List Fr->List Fr
 | [],Y=>Y
 | k::l,Y=>kcY l (Y.map (Fr.mp k.to))
def kcX:List Kc->List Lp->List Lp
 | [],X=>X
 | k::l,X=>kcX l (X.map fun x=>{ x with fr:=x.fr.mp k.to })
def V.stb(m:Nat):V->Bool
 | .p _=>true
 | .yld _=>true
 | .junk=>true
 | .ref n=>decide (n<m)
 | .off n _ _=>decide (n<m)
 | .arr n _ _ _=>decide (n<m)
 | _=>false
def Fr.stb(m:Nat)(f:Fr):Bool:=f.l.all fun x=>x.2.stb m
def sd(m:Nat)(Y:List Fr)(X:List Lp):Prop:=Y.all (Fr.stb m)=true/\(X.all fun x=>x.fr.stb m)=true
theorem Kc.fix{k:Kc}(hk:k.ok m=true){v:V}(h:v.stb m=true):k.to v=v:=by
 cases k with
 | k n =>
  have Z:m<=n:=Nat.le_of_ble_eq_true hk;show V.kill n v=v
  cases v<;>rw[V.kill]<;>first|rfl|cases h|(have:=Pe h;rw[OF om])
 | r a b =>
  simp only[Kc.ok,ON]at hk;have I:=Nat.le_of_ble_eq_true hk.1;have J:=Nat.le_of_ble_eq_true hk.2;show V.atm (jJ a b) v=v
  cases v<;>rw[V.atm]<;>first|rfl|cases h|(have:=Pe h;rw[jJ,OF om,OF om])
theorem Kc.frm{k:Kc}(hk:k.ok m=true){f:Fr}(h:f.stb m=true):f.mp k.to=f:=by
 cases f with
 | mk n l rd ds =>
  simp only[Fr.mp,Fr.stb,Fr.mk.injEq,true_and,PU]at h ⊢;refine (QY fun x I=>?_).trans (List.map_id l);have:=List.all_eq_true.1 h x I;exact Prod.ext rfl (Kc.fix hk this)
theorem Hw{m:Nat}{Y:List Fr}{X:List Lp}(h:sd m Y X):∀{l:List Kc},l.all (Kc.ok m)=true->kcY l Y=Y/\kcX l X=X
 | [],_=>⟨rfl,rfl⟩
 | k::l,hl=>by
  rw[Qs,ON]at hl;have h1:Y.map (Fr.mp k.to)=Y:=(QY fun f hf=>Kc.frm hl.1 (List.all_eq_true.1 h.1 f hf)).trans (List.map_id Y);have I:(X.map fun x=>{ x with fr:=x.fr.mp k.to })=X:=(QY fun x J=>by rw[Kc.frm hl.1 (List.all_eq_true.1 h.2 x J)];rfl).trans (List.map_id X);rw[kcY,kcX,h1,I];exact Hw h hl.2
theorem C4{f:Fr}(h:f.fre=true):f.stb m=true:=List.all_eq_true.2 fun x I=>by
 have:=List.all_eq_true.1 h x I
 revert this
 cases x.2<;>intro h<;>first|rfl|cases h
theorem L3{j:Nat}{f:Fr}{K:List Fr}{X:List Lp}(h:sd m (f::K) X){pre:List Fr}{X1:List Lp}{lp:Lp}(h1:pre.all Fr.fre=true)(J:X1.all Lp.fre=true)(Z:lp.fr=f) :
  sd m (pre++(iT j::{ f with ds:=ds }::K)) (X++[lp]++X1):=by
 obtain⟨a,b⟩:=h;rw[Qs,ON]at a;refine⟨?_,?_⟩
 ·simp only[RS,Qs,ON];exact⟨List.all_eq_true.2 fun x I=>C4 (List.all_eq_true.1 h1 x I),rfl,a.1,a.2⟩
 ·simp only[RS,Qs,List.all_nil,ON,PU,Z];exact⟨⟨b,a.1⟩,List.all_eq_true.2 fun x I=>C4 (List.all_eq_true.1 J x I)⟩
def apz(X:List Lp):List Lp->List Lp
 | []=>X
 | z::l=>X++z::l
theorem Io(X z:List Lp):apz X z=X++z:=by cases z<;>simp[apz]
section
variable (P : Program)(gl : Nat -> Option (List Tr))
def YD(c:Csm)(k:Nat)(x:Tr)(b:Bool)(O':List (Nat × Ob))(X':List Lp):Prop :=
 ∀(pre:List Fr)(X1:List Lp),pre.all Fr.fre=true->X1.all Lp.fre=true->YF P gl (c.O k) (pre++c.K) (c.X++X1) c.a x b O' (X'++X1)
def Feeds(c:Csm)(p:Nat)(L:List Tr):Prop :=
 ∀k x,L[k]?=some x->(p+k<c.n->YD P gl c (p+k) x true (c.O (p+k+1)) c.X)/\(p+k=c.n->YD P gl c (p+k) x false c.O' c.X')
def RunT(g:FuncId)(xs:List Tr)(O:List (Nat × Ob))(K:List Fr)(X:List Lp)(r:V)(O1:List (Nat × Ob))(X1:List Lp):Prop :=
 ∃fn cd,P.funcs[g]?=some fn/\fn.body=some cd/\AWN P gl 0 cd (fun e τ=>(e=.normal\/e=.ret)/\fD P τ fn=some r/\(⟨τ.obs,τ.stk.tail,τ.lps⟩:Sg)=⟨O1,K,X1⟩) ⟨O,frame fn (xs.map .p)::K,X⟩
def SeqT(g:FuncId)(us vs:List Tr)(L:List Tr)(rc rs:V):Prop:=∀(c:Csm)(p:Nat),p<=c.n->Feeds P gl c p L ->
 (p+L.length<=c.n->RunT P gl g (us++[yTr c.a]++vs) (c.O p) c.K c.X rc (c.O (p+L.length)) c.X)/\(¬p+L.length<=c.n->RunT P gl g (us++[yTr c.a]++vs) (c.O p) c.K c.X rs c.O' c.X')
def SeqA(g:FuncId)(us vs:List Tr)(L:List Tr)(r:V)(z:List Lp):Prop:=∀(c:Csm)(p:Nat),p+L.length<=c.n->Feeds P gl c p L->RunT P gl g (us++[yTr c.a]++vs) (c.O p) c.K c.X r (c.O (p+L.length)) (apz c.X z)
def rnS(n:Nat)(g:FuncId)(xs:List Tr)(O:List (Nat × Ob))(K:List Fr)(X:List Lp)(ds:List Ch)(r:V)(σ1:Sg):Prop :=
 match P.funcs[g]? with
 | some fn=>match fn.body with
  | some cd=>match uy P gl n 0 cd ⟨O,frame fn (xs.map .p)::K,X⟩ ds with
   | some (ps,_,e,τ)=>match okE e,fD P τ fn with
    | true,some x=>x=r/\(⟨τ.obs,τ.stk.tail,τ.lps⟩:Sg)=σ1/\alP ps
    | _,_=>False
   | none=>False
  | none=>False
 | none=>False
def Body(lp:Lp)(i:Nat)(H:List Fr->List Lp->Prop)(O:List (Nat × Ob))(x:Tr)(e:Exit)(O':List (Nat × Ob)):Prop:=∀(Y:List Fr)(X:List Lp),H Y X ->
 ∃(f1:Fr)(O1:List (Nat × Ob)),f1.rd=some i/\AWN P gl 0 lp.asg (fun e τ=>e=.normal/\τ=⟨O1,f1::Y,X⟩) ⟨O,rfr lp i [.p x]::Y,X⟩ /\
  ∀h:List Lp,H Y h->AWN P gl 0 lp.bd (fun e' τ=>e'=e/\∃f2:Fr,f2.rd=some i/\τ=⟨O',f2::Y,h⟩) ⟨O1,f1::Y,h⟩
def bdY(n:Nat)(lp:Lp)(i:Nat)(O:List (Nat × Ob))(x:Tr)(Y:List Fr)(X I:List Lp)(ds:List Ch)(os:List Nat)(l:List Tn)(e:Exit)(O':List (Nat × Ob))(h:List Fr)(X':List Lp):Prop :=
 match uy P gl n 0 lp.asg ⟨O,rfr lp i [.p x]::Y,X⟩ [] with
 | some (qs,_,.normal,τ1)=>match τ1.stk with
  | f1::Y1=>match uy P gl n 0 lp.bd ⟨τ1.obs,f1::Y,I⟩ ds with
   | some (ps,_,e1,τ2)=>match l.all (Tn.ok 0)&&(Nat.beq 0 0 || decide (0<=nx (τ2.cut [] os).obs)) with
    | true=>match (τ2.ct [] os l).stk with
     | f2::Y2=>(f1.rd=some i/\(⟨[],Y1,τ1.lps⟩:Sg)=⟨[],Y,X⟩/\alP qs)/\f2.rd=some i/\e1=e/\(⟨(τ2.ct [] os l).obs,Y2,(τ2.ct [] os l).lps⟩:Sg)=⟨O',h,X'⟩/\alP ps
     | []=>False
    | false=>False
   | _=>False
  | []=>False
 | _=>False
def E5(c:Code)(σ:Sg)(e:Exit)(τ:Sg):Prop:=AWN P gl 0 c (fun e' τ'=>e'=e/\τ'=τ) σ
end
def rg4:Code->Operand × Array Tmp × Code × Code
 | .rangeFunc g ps a b=>(g,ps,a,b)
 | _=>(.const undef,#[],.skip,.skip)
def rgc(P:Program)(F:FuncId)(l:List Nat):Code:=.rangeFunc (rg4 (atc P F l)).1 (rg4 (atc P F l)).2.1 (rg4 (atc P F l)).2.2.1 (rg4 (atc P F l)).2.2.2
def rgl(P:Program)(F:FuncId)(l:List Nat)(f:Fr):Lp:=⟨f,(rg4 (atc P F l)).2.1,(rg4 (atc P F l)).2.2.1,(rg4 (atc P F l)).2.2.2,.ready,none,none⟩
def rgT(P:Program)(F:FuncId)(l:List Nat)(f:Fr)(K:List Fr)(X:List Lp)(O:List (Nat × Ob))(pd:Option Code)(z:List Lp:=[]):Sg:=⟨O,{ f with ds:=X.length::f.ds }::K,apz (X++[{ rgl P F l f with st:=.exhausted,pend:=pd }]) z⟩
section
variable {c:Csm}{p q:Nat}{L L1 L2:List Tr}{us vs xs:List Tr}{O O1 O':List (Nat×Ob)}{K Y:List Fr}{X X1 X':List Lp}{r rc rs:V}
theorem Feeds.app(h:Feeds P gl c p (L1++L2)):Feeds P gl c p L1/\Feeds P gl c (p+L1.length) L2:=by
 refine⟨fun k x I=>h k x ?_,fun k x I=>?_⟩
 ·rw[Ph (List.getElem?_eq_some_iff.1 I).1];exact I
 ·have:=h (L1.length+k) x (by rw[Pz om,Nat.add_sub_cancel_left];exact I)
  rwa [<-PP]at this
theorem Feeds.psh{f:Fr}(h:Feeds P gl c p L)(hf:f.fre=true):Feeds P gl (c.psh f) p L:=by
 have:∀{k x b O' X'},YD P gl c k x b O' X'->YD P gl (c.psh f) k x b O' X':=fun {k x b O' X'} h pre X1 h1 h2=>by
  have:=h (pre++[f]) X1 (by rw[RS,h1];simp[hf]) h2
  rwa [QH]at this
 exact fun k x I=>⟨fun hk=>this ((h k x I).1 hk),fun hk=>this ((h k x I).2 hk)⟩
theorem Feeds.ext{X1:List Lp}(h:Feeds P gl c p L)(J:X1.all Lp.fre=true):Feeds P gl (c.ext X1) p L:=by
 have:∀{k x b O' X'},YD P gl c k x b O' X'->YD P gl (c.ext X1) k x b O' (X'++X1):=fun {k x b O' X'} h pre X2 h1 h2=>by
  have:=h pre (X1++X2) h1 (by rw[RS,J,h2];rfl);rw[<-QH,<-QH]at this;exact this
 exact fun k x I=>⟨fun hk=>this ((h k x I).1 hk),fun hk=>this ((h k x I).2 hk)⟩
theorem YD.yf(h:YD P gl c k x b O' X'):YF P gl (c.O k) c.K c.X c.a x b O' X':=by
 have:=h [] [] rfl rfl
 rwa [Qf,Qf]at this
theorem Feeds.yt(h:Feeds P gl c q [x])(hq:q+[x].length<=c.n):YF P gl (c.O q) c.K c.X c.a x true (c.O (q+[x].length)) c.X:=((h 0 x rfl).1 hq).yf
theorem Feeds.ys(h:Feeds P gl c q [x])(hq:q<=c.n)(I:¬q+[x].length<=c.n):YF P gl (c.O q) c.K c.X c.a x false c.O' c.X' :=
 ((h 0 x rfl).2 (by simp only[O0]at I;omega)).yf
theorem Feeds.nil:Feeds P gl c q []:=fun k x h=>by simp at h
theorem wN{O:List (Nat×Ob)}{K:List Fr}{X X':List Lp}:fD P ⟨O,K,X⟩ fn=fD P ⟨O,K,X'⟩ fn:=by
 have:∀l,jo P ⟨O,K,X⟩ l=jo P ⟨O,K,X'⟩ l:=fun l=>by
  induction l with
  | nil=>rfl
  | cons r l h =>
   cases r with
   | tmp t=>rw[jo,jo,h];rfl
   | cell p t =>
    rw[jo,jo,h];have:look (⟨O,K,X⟩:Sg)=look (⟨O,K,X'⟩:Sg):=by funext v;cases v<;>rfl
    rw[this];rfl
 unfold fD;rw[this]
theorem YOf.weak(J:t.weak=x)(h:YOf P gl σ o i [.p t]):YOf P gl σ o i [.p x]:=by
 intro n0 M w S a ρ hs;obtain⟨vs,h1,I⟩:=h hs;refine⟨vs,⟨h1.1,fun j u v hu Z=>?_⟩,I⟩
 cases j with
 | succ j=>simp at hu
 | zero =>
  cases hu
  have:=h1.2 0 (.p t) v rfl Z
  cases this with
  | p _ _ hr=>exact J▸.p _ _ hr.weak
theorem fC(ds:List Ch)(h:A)(n:Nat:=300)(e:(r=r/\(⟨O1,K,X1⟩:Sg)=⟨O1,K,X1⟩/\A)=rnS P gl n g xs O K X ds r ⟨O1,K,X1⟩:=by kernel_rfl)(hm:P.follows .mixedOrders=true:=by kernel_rfl):RunT P gl g xs O K X r O1 X1:=by
 have h:rnS P gl n g xs O K X ds r ⟨O1,K,X1⟩:=e.mp ⟨rfl,rfl,h⟩;unfold rnS at h
 split at h
 ·rename_i fn hf
  split at h
  ·rename_i cd I
   split at h
   ·rename_i ps J e1 τ he
    split at h
    ·rename_i r' hk hr
     obtain⟨rfl,Z,hp⟩:=h;refine⟨fn,cd,hf,I,((iy hm n).1 _ _ _ _ _ _ _ _ he hp).mono ?_⟩;rintro e' τ' ⟨rfl,rfl⟩;refine⟨?_,hr,Z⟩
     cases e'<;>first|exact .inl rfl|exact .inr rfl|cases hk
    ·exact h.elim
   ·exact h.elim
  ·exact h.elim
 ·exact h.elim
theorem RunT.cf{r:Tr}(h:∀f:Fr,f.fre=true->RunT P gl g xs O (f::Y) X (.p r) O1 X1):CF P gl O Y X g (xs.map .p) r O1 X1:=fun o f hf Z=>by
 obtain⟨fn,cd,h1,I,J⟩:=h f hf;exact nX Z h1 I (J.mono fun e τ ⟨a,b,c⟩=>⟨a,b,c.symm⟩)
theorem SeqT.cf{rc rs:Tr}(h:SeqT P gl g us vs L (.p rc) (.p rs))(hp:p<=c.n)(hf:Feeds P gl c p L) :
  (p+L.length<=c.n->CF P gl (c.O p) c.K c.X g ((us++[yTr c.a]++vs).map .p) rc (c.O (p+L.length)) c.X)/\(¬p+L.length<=c.n->CF P gl (c.O p) c.K c.X g ((us++[yTr c.a]++vs).map .p) rs c.O' c.X') :=
 ⟨fun J=>RunT.cf fun f I=>(h (c.psh f) p hp (hf.psh I)).1 J,fun J=>RunT.cf fun f I=>(h (c.psh f) p hp (hf.psh I)).2 J⟩
theorem SeqA.cf{rc:Tr}(h:SeqA P gl g us vs L (.p rc) [])(hp:p+L.length<=c.n)(hf:Feeds P gl c p L):CF P gl (c.O p) c.K c.X g ((us++[yTr c.a]++vs).map .p) rc (c.O (p+L.length)) c.X:=RunT.cf fun f I=>h (c.psh f) p hp (hf.psh I)
theorem LA{f1:Fr}(l:List α)(φ:α->List Tr)(F:Nat->Fr)(go:∀j x q,l[j]?=some x->q+(φ x).length<=c.n->Feeds P gl c q (φ x)->∀I τt,LoopP P gl 0 cd ⟨c.O (q+(φ x).length),F (j+1)::c.K,c.X⟩ I τt->LoopP P gl 0 cd ⟨c.O q,F j::c.K,c.X⟩ I τt)(fin:∀q,LoopP P gl 0 cd ⟨c.O q,F l.length::c.K,c.X⟩ e ⟨c.O q,f1::c.K,c.X⟩)(hp:p+(l.flatMap φ).length<=c.n)(hf:Feeds P gl c p (l.flatMap φ)) :
  LoopP P gl 0 cd ⟨c.O p,F 0::c.K,c.X⟩ e ⟨c.O (p+(l.flatMap φ).length),f1::c.K,c.X⟩:=by
 have:∀r j p,j+r=l.length->p+((l.drop j).flatMap φ).length<=c.n->Feeds P gl c p ((l.drop j).flatMap φ)->LoopP P gl 0 cd ⟨c.O p,F j::c.K,c.X⟩ e ⟨c.O (p+((l.drop j).flatMap φ).length),f1::c.K,c.X⟩:=by
  intro r
  induction r with
  | zero =>
   intro j p hj hp _;obtain rfl:j=l.length:=by omega
   rw[Qn];exact fin p
  | succ r ih =>
   intro j p hj hp hf;have J:j<l.length:=by omega
   have Z:=OH J;rw[<-List.getElem_cons_drop J,O8]at hf hp ⊢;obtain⟨f1,f2⟩:=hf.app;rw[OM,<-PP]at hp ⊢;exact go j _ p Z om f1 _ _ (ih (j+1) _ om hp f2)
 have h:=this l.length 0 p om;rw[PN]at h;exact h hp hf
theorem LY{e':Exit}{f1 f2:Fr}(l:List α)(φ:α->List Tr)(F:Nat->Fr)(go:∀j x q,l[j]?=some x->q+(φ x).length<=c.n->Feeds P gl c q (φ x)->∀Z τt,LoopP P gl 0 cd ⟨c.O (q+(φ x).length),F (j+1)::c.K,c.X⟩ Z τt->LoopP P gl 0 cd ⟨c.O q,F j::c.K,c.X⟩ Z τt)(st:∀j x q,l[j]?=some x->q<=c.n->¬q+(φ x).length<=c.n->Feeds P gl c q (φ x)->LoopP P gl 0 cd ⟨c.O q,F j::c.K,c.X⟩ e' ⟨c.O',f2::c.K,c.X'⟩)(fin:∀q,LoopP P gl 0 cd ⟨c.O q,F l.length::c.K,c.X⟩ e ⟨c.O q,f1::c.K,c.X⟩)(hp:p<=c.n)(hf:Feeds P gl c p (l.flatMap φ)) :
  (p+(l.flatMap φ).length<=c.n->LoopP P gl 0 cd ⟨c.O p,F 0::c.K,c.X⟩ e ⟨c.O (p+(l.flatMap φ).length),f1::c.K,c.X⟩) /\
  (¬p+(l.flatMap φ).length<=c.n->LoopP P gl 0 cd ⟨c.O p,F 0::c.K,c.X⟩ e' ⟨c.O',f2::c.K,c.X'⟩):=by
 have:∀r j p,j+r=l.length->p<=c.n->Feeds P gl c p ((l.drop j).flatMap φ)->(p+((l.drop j).flatMap φ).length<=c.n->LoopP P gl 0 cd ⟨c.O p,F j::c.K,c.X⟩ e ⟨c.O (p+((l.drop j).flatMap φ).length),f1::c.K,c.X⟩) /\
   (¬p+((l.drop j).flatMap φ).length<=c.n->LoopP P gl 0 cd ⟨c.O p,F j::c.K,c.X⟩ e' ⟨c.O',f2::c.K,c.X'⟩):=by
  intro r
  induction r with
  | zero =>
   intro j p hj hp _;obtain rfl:j=l.length:=by omega
   rw[Qn];exact⟨fun _=>fin p,fun h=>absurd hp h⟩
  | succ r ih =>
   intro j p hj hp hf;have hx:j<l.length:=by omega
   have J:=OH hx;rw[<-List.getElem_cons_drop hx,O8]at hf ⊢;obtain⟨f1,f2⟩:=hf.app;rw[OM,<-PP]
   by_cases I:p+(φ l[j]).length<=c.n
   ·obtain⟨a,b⟩:=ih (j+1) _ om I f2;exact⟨fun h=>go j _ p J I f1 _ _ (a h),fun h=>go j _ p J I f1 _ _ (b h)⟩
   ·exact⟨fun h=>absurd (OP (Nat.le_add_right _ _) h) I,fun _=>st j _ p J hp I f1⟩
 have h:=this l.length 0 p om hp;rw[PN]at h;exact h hf
theorem Body.chx{lp:Lp}{H:List Fr->List Lp->Prop}(ds:List Lp->List Ch)(os:List Nat)(l:List Tn)(ka Z:List Kc)(B:List Fr->List Lp->Prop)(hS:∀Y X,H Y X->(kcY ka Y=Y/\kcX ka X=X)/\kcY Z Y=Y/\kcX Z X=X)(h:∀Y X,H Y X->B Y X)(n:Nat:=300)(eq:∀Y X I,((some i=some i/\(⟨[],kcY ka Y,kcX ka X⟩:Sg)=⟨[],Y,X⟩/\True)/\some i=some i/\e=e/\(⟨O',kcY Z Y,kcX Z I⟩:Sg)=⟨O',kcY Z Y,kcX Z I⟩/\B Y I)=bdY P gl n lp i O x Y X I (ds I) os l e O' (kcY Z Y) (kcX Z I):=by intro Y X I;kernel_rfl)(hm:P.follows .mixedOrders=true:=by kernel_rfl):Body P gl lp i H O x e O':=fun Y X hH=>by
 have key:∀I,H Y I->bdY P gl n lp i O x Y X I (ds I) os l e O' Y I:=fun I h2=>by
  have:=(eq Y X I).mp ⟨⟨rfl,by rw[(hS _ _ hH).1.1,(hS _ _ hH).1.2],trivial⟩,rfl,rfl,rfl,h _ _ h2⟩
  rwa [(hS _ _ h2).2.1,(hS _ _ h2).2.2]at this
 have k0:=key X hH;unfold bdY at k0
 split at k0
 ·rename_i qs d1 τ1 h1
  split at k0
  ·rename_i f1 Y1 a'
   refine⟨f1,τ1.obs,?_,?_,fun I h2=>?_⟩
   ·split at k0
    ·split at k0
     ·split at k0
      ·exact k0.1.1
      ·exact k0.elim
     ·exact k0.elim
    ·exact k0.elim
   ·split at k0
    ·split at k0
     ·split at k0
      ·obtain⟨⟨-,hσ,hq⟩,-⟩:=k0;refine ((iy hm n).1 _ _ _ _ _ _ _ _ h1 hq).mono ?_;rintro e' τ ⟨rfl,rfl⟩;obtain⟨f',g',d'⟩:=τ
       cases a';cases hσ
       exact⟨rfl,rfl⟩
      ·exact k0.elim
     ·exact k0.elim
    ·exact k0.elim
   ·have J:=key I h2;unfold bdY at J;rw[h1]at J;simp only[a']at J
    split at J
    ·rename_i ps d2 e1 τ2 hb
     split at J
     ·rename_i hl
      split at J
      ·rename_i f2 Y2 c'
       obtain⟨-,hr,rfl,hσ,hq⟩:=J;refine (((iy hm n).1 _ _ _ _ _ _ _ _ hb hq).post (.ct hl)).mono ?_;rintro e' τ ⟨rfl,rfl⟩;refine⟨rfl,f2,hr,?_⟩;generalize τ2.ct [] os l=τ at c' hσ;obtain⟨f',g',d'⟩:=τ
       cases c';cases hσ
       rfl
      ·exact J.elim
     ·exact J.elim
    ·exact J.elim
  ·exact k0.elim
 ·exact k0.elim
theorem Body.ch{lp:Lp}{H:List Fr->List Lp->Prop}(ds:List Ch)(os:List Nat)(l:List Tn)(m:Nat)(Z I:List Kc)(B:List Fr->List Lp->Prop)(hS:∀Y X,H Y X->sd m Y X)(h:∀Y X,H Y X->B Y X)(n:Nat:=300)(eq:∀Y X J,((some i=some i/\(⟨[],kcY Z Y,kcX Z X⟩:Sg)=⟨[],Y,X⟩/\True)/\some i=some i/\e=e/\(⟨O',kcY I Y,kcX I J⟩:Sg)=⟨O',kcY I Y,kcX I J⟩/\B Y J)=bdY P gl n lp i O x Y X J ds os l e O' (kcY I Y) (kcX I J):=by intro Y X J;kernel_rfl)(ha:Z.all (Kc.ok m)=true:=by kernel_rfl)(hb:I.all (Kc.ok m)=true:=by kernel_rfl)(hm:P.follows .mixedOrders=true:=by kernel_rfl):Body P gl lp i H O x e O' :=
 .chx (fun _=>ds) os l Z I B (fun Y X hH=>⟨Hw (hS Y X hH) ha,Hw (hS Y X hH) hb⟩) h n eq hm
theorem tU{f:Fr}{H:List Fr->List Lp->Prop}(O:Nat->List (Nat × Ob))(n:Nat)(O':List (Nat × Ob))(jm:Code)(z:List Lp)(hS:∀c:Csm,c.n=n->Feeds P gl c 0 L->(L.length<=n->RunT P gl g (us++[yTr c.a]++vs) (c.O 0) c.K c.X rc (c.O L.length) (apz c.X z))/\(¬L.length<=n->RunT P gl g (us++[yTr c.a]++vs) (c.O 0) c.K c.X rs c.O' c.X'))(C':f.rd=none)(Z:evl gl ((⟨O 0,f::K,X⟩:Sg).ent (rg4 (atc P F path)).2.1 (rg4 (atc P F path)).2.2.1 (rg4 (atc P F path)).2.2.2) (rg4 (atc P F path)).1=some (.p (.fn (.func g) us vs)))(h':(wC P g&&((rg4 (atc P F path)).2.1.size==1&&(rg4 (atc P F path)).2.1.toList.all fun t=>decide (t<f.n)))=true)(hH:∀pre X1 lp,pre.all Fr.fre=true->X1.all Lp.fre=true->lp.fr=f->H (pre++(iT X.length::{ f with ds:=X.length::f.ds }::K)) (X++[lp]++X1))(hb:∀k x,k<n->L[k]?=some x->Body P gl (rgl P F path f) X.length H (O k) x .normal (O (k+1)))(he:∀x,L[n]?=some x->Body P gl (rgl P F path f) X.length H (O n) x e1 O'/\sS e1=some (some jm)/\∀σ,AWN P gl 0 jm (fun e τ=>e=e1/\τ=σ) σ) :
  (L.length<=n->E5 P gl (rgc P F path) ⟨O 0,f::K,X⟩ .normal (rgT P F path f K X (O L.length) none z)) /\
  (¬L.length<=n->E5 P gl (rgc P F path) ⟨O 0,f::K,X⟩ e1 (rgT P F path f K X O' (some jm))):=by
 simp only[ON,Pa]at h';obtain⟨h',x',A'⟩:=h';have n':((⟨O 0,f::K,X⟩:Sg).ent (rg4 (atc P F path)).2.1 (rg4 (atc P F path)).2.2.1 (rg4 (atc P F path)).2.2.2)=⟨O 0,{ f with ds:=X.length::f.ds }::K,X++[rgl P F path f]⟩:=by
  simp only[Sg.ent,Sg.cur,List.headD_cons,C',Sb,rgl]
 obtain⟨lq,J⟩:∃lq:Nat->Lp,lq=fun a=>{ rgl P F path f with adr:=some a }:=⟨_,rfl⟩
 obtain⟨c,hc⟩:∃c:Nat->Csm,c=fun a=>⟨iT X.length::{ f with ds:=X.length::f.ds }::K,X++[lq a],a,O,n,O',X++[{ lq a with st:=.done,pend:=some jm }]⟩:=⟨_,rfl⟩
 have round:∀{a k x e O2 pd},Body P gl (rgl P F path f) X.length H (O k) x e O2->sS e=some pd->YD P gl (c a) k x pd.isNone O2 (X++[{ lq a with st:=if pd.isNone then .ready else .done,pend:=pd }]):=by
  intro a k x e O2 pd s' z' pre X1 h1 h2 o f0 t ht E' hy;subst hc J;have g':(X++[{ rgl P F path f with adr:=some a }]++X1)[X.length]?=some { rgl P F path f with adr:=some a }:=by simp
  have c':∀lp,(X++[{ rgl P F path f with adr:=some a }]++X1).set X.length lp=X++[lp]++X1:=fun lp=>by simp
  have j':(f0::pre).all Fr.fre=true:=by simp[E',h1]
  obtain⟨f1,O1,r1,a1,a2⟩:=s' _ _ (hH (f0::pre) X1 { rgl P F path f with adr:=some a } j' h2 rfl);refine qV (YOf.weak ht (Ke hy g' rfl)) g' (by simp[rgl,x']) (fun t ht=>Pe (List.all_eq_true.1 A' t ht)) (a1.mono ?_);rintro e' τ ⟨rfl,rfl⟩;refine⟨rfl,_,r1,g',rfl,?_⟩;have t':(⟨O1,f1::(f0::pre++(iT X.length::{ f with ds:=X.length::f.ds }::K)),X++[{ rgl P F path f with adr:=some a }]++X1⟩:Sg).setLp X.length { rgl P F path f with adr:=some a,st:=.busy }=⟨O1,f1::(f0::pre++(iT X.length::{ f with ds:=X.length::f.ds }::K)),X++[{ rgl P F path f with adr:=some a,st:=.busy }]++X1⟩:=by
   simp only[Sg.setLp,c']
  rw[t'];refine (a2 _ (hH (f0::pre) X1 _ j' h2 rfl)).mono ?_;rintro e' τ ⟨rfl,f2,r2,rfl⟩;refine⟨{ rgl P F path f with adr:=some a,st:=.busy },pd,r2,by simp,z',rfl,?_⟩;simp
 have hF:∀a,Feeds P gl (c a) 0 L:=fun a k x I=>by
  rw[Pd];refine⟨fun hk=>?_,fun hk=>?_⟩
  ·have:=round (a:=a) (hb k x (by subst hc;exact hk) I) rfl;subst hc J;exact this
  ·have hk:k=n:=by subst hc;exact hk
   subst hk;obtain⟨b1,b2,-⟩:=he x I;have:=round (a:=a) b1 b2;subst hc J;exact this
 have fin:∀{lp:Nat->Lp}{O2:List (Nat × Ob)}{r:V}{e:Exit}{pd:Option Code}(z:List Lp),(∀a,RunT P gl g (us++[yTr a]++vs) (O 0) (iT X.length::{ f with ds:=X.length::f.ds }::K) (X++[lq a]) r O2 (apz (X++[lp a]) z))->(∀a,(lp a).st≠.busy/\(lp a).pend=pd/\{ lp a with st:=.exhausted,adr:=none }={ rgl P F path f with st:=.exhausted,pend:=pd }) ->
   (∀σ,xO P gl 0 (fun e' τ=>e'=e/\τ=σ) pd σ)->E5 P gl (rgc P F path) ⟨O 0,f::K,X⟩ e (rgT P F path f K X O2 pd z):=by
  intro lp O2 r e pd z d' g' hj;simp only[Io]at d';obtain⟨fn,cd,q1,q2,-⟩:=d' 0;refine AWN.rangeFunc (σ:=⟨O 0,f::K,X⟩) (f:=g) (xs:=us.map .p++[.yld X.length]++vs.map .p) ?_ q1 q2 (AWN.mono (Q:=fun e τ=>(e=.normal\/e=.ret)/\fD P τ fn=some r/\∃a,(⟨τ.obs,τ.stk.tail,τ.lps⟩:Sg)=⟨O2,iT X.length::{ f with ds:=X.length::f.ds }::K,X++[{ lp a with adr:=none }]++z⟩) ?_ ?_)
  ·unfold pf;rw[Z];show (if wC P g=true then _ else _)=_;rw[OG h']
  ·rw[n'];intro n0 M w S a ρ m hN hs;obtain⟨G',F',m',p',q3⟩:=d' (M.lp X.length);rw[q1]at m';cases m';rw[q2]at p';cases p';have hX:X.length<M.nl:=by have:=hs.nl;simp at this;omega
   have l':=hs.adr (i:=X.length) (lp:=rgl P F path f) (ad:=some (M.lp X.length)) jS (fun L h=>by cases h;rfl);have f':=l'.stk;have q':SR gl n0 M w ⟨O 0,frame fn ((us++[yTr (M.lp X.length)]++vs).map .p)::iT X.length::{ f with ds:=X.length::f.ds }::K,X++[lq (M.lp X.length)]⟩ (rf a ρ::S):=by
    refine SR.less (σ:=_) l' (fun _ _ h=>h) ⟨⟨⟨?_,fun s x I=>?_⟩,f'.1.rd,fun i hi=>(by cases hi),f'.1.ds,fun i hi=>(by cases hi),fun i hi=>(by cases hi)⟩,f'.2⟩ (by subst J;simp[Sg.setLp]) rfl
    ·have:=f'.1.tm.1;simpa [frame] using this
    ·have Z:=f'.1.tm.2 s;simp only[frame,AX,OO,Ps,Nat.sub_zero]at I Z;rw[OQ]at I;simp only[Rk,OM,OL,O0,OQ]at I Z
     by_cases h1:s<us.length
     ·rw[OG om,OG h1]at I;rw[OG om,OG h1]at Z;exact Z x I
     ·by_cases h2:s<us.length+1
      ·rw[OG h2,OF h1]at I;rw[OG h2,OF h1]at Z;obtain rfl:s=us.length:=by omega
       rw[Rx]at I Z
       cases I
       obtain⟨v,k1,k2⟩:=Z _ rfl;refine⟨v,k1,?_⟩
       cases k2
       exact .p _ _ (.at _)
      ·rw[OF h2]at I Z;exact Z x I
   refine Qv (q3 n0 M w S a ρ m hN q') ?_;rintro e' a' w' ⟨M',τ,t1,t2,t3,t4,t5,t6⟩;obtain⟨i',k',D'⟩:=τ;simp only[Sg.mk.injEq]at t6;obtain⟨rfl,h4,rfl⟩:=t6;refine⟨M',⟨i',k',X++[{ lp (M.lp X.length) with adr:=none }]++z⟩,t1,t2,?_,t4,?_,M.lp X.length,?_⟩
   ·have:=t3.adr (i:=X.length) (lp:=lp (M.lp X.length)) (ad:=none) jS (fun L h=>by cases h)
    simpa [Sg.setLp] using this
   ·rw[<-t5];exact wN
   ·simp[h4]
  ·rintro e' τ ⟨h1,h2,a,h3⟩;obtain⟨r',B',u'⟩:=g' a;obtain⟨i',k',D'⟩:=τ;simp only[Sg.mk.injEq]at h3;obtain⟨rfl,h4,rfl⟩:=h3;refine⟨h1,⟨_,h2⟩,{ lp a with adr:=none },by simp only[h4];rfl,by simp,r',?_⟩;show xO P gl 0 _ (lp a).pend ⟨i',k'.tail.tail,(X++[{ lp a with adr:=none }]++z).set X.length { lp a with st:=.exhausted,adr:=none }⟩;have c':∀y y':Lp,(X++[y]++z).set X.length y'=apz (X++[y']) z:=fun y y'=>by rw[Io];simp
   rw[c',B',u',h4];exact hj (rgT P F path f K X i' pd z)
 have hs:=fun a=>hS (c a) (by subst hc;rfl) (hF a)
 subst hc;refine⟨fun hn=>fin (lp:=lq) (pd:=none) z (fun a=>(hs a).1 hn) (fun a=>by subst J;exact⟨fun e=>(by cases e),rfl,rfl⟩) fun σ=>⟨rfl,rfl⟩,fun hn=>?_⟩;have I:=OH (show n<L.length by omega);obtain⟨-,-,b3⟩:=he _ I;exact fin (lp:=fun a=>{ lq a with st:=.done,pend:=some jm }) (pd:=some jm) [] (fun a=>(hs a).2 hn) (fun a=>by subst J;exact⟨fun e=>(by cases e),rfl,rfl⟩) b3
theorem uH{f:Fr}(m:Nat)(O:Nat->List (Nat × Ob))(n:Nat)(O':List (Nat × Ob))(h:Code)(hS:SeqT P gl g us vs L rc rs)(hb:∀k x,k<n->L[k]?=some x->Body P gl (rgl P F path f) 0 (sd m) (O k) x .normal (O (k+1)))(he:∀x,L[n]?=some x->Body P gl (rgl P F path f) 0 (sd m) (O n) x e1 O')(Z:sS e1=some (some h)/\∀σ,AWN P gl 0 h (fun e τ=>e=e1/\τ=σ) σ)(hg:evl gl ((⟨O 0,[f],[]⟩:Sg).ent (rg4 (atc P F path)).2.1 (rg4 (atc P F path)).2.2.1 (rg4 (atc P F path)).2.2.2) (rg4 (atc P F path)).1=some (.p (.fn (.func g) us vs)):=by kernel_rfl)(I:(wC P g&&((rg4 (atc P F path)).2.1.size==1&&(rg4 (atc P F path)).2.1.toList.all fun t=>decide (t<f.n)))=true:=by kernel_rfl)(hf:f.stb m=true:=by kernel_rfl)(J:f.rd=none:=by kernel_rfl) :
  (L.length<=n->E5 P gl (rgc P F path) ⟨O 0,[f],[]⟩ .normal (rgT P F path f [] [] (O L.length) none))/\(¬L.length<=n->E5 P gl (rgc P F path) ⟨O 0,[f],[]⟩ e1 (rgT P F path f [] [] O' (some h))) :=
 tU O n O' h [] (fun c hc hf=>by have:=hS c 0 (OO _) hf;rw[Pd,hc]at this;exact this) J hg I (fun _ _ _ h1 h2 h3=>L3 (m:=m) ⟨by rw[Qs,hf];rfl,rfl⟩ h1 h2 h3) hb fun x hx=>⟨he x hx,Z.1,Z.2⟩
theorem JA{f:Fr}{r:V}{z:List Lp}(m:Nat)(O:Nat->List (Nat × Ob))(hS:SeqA P gl g us vs L r z)(hb:∀k x,L[k]?=some x->Body P gl (rgl P F path f) 0 (sd m) (O k) x .normal (O (k+1)))(hg:evl gl ((⟨O 0,[f],[]⟩:Sg).ent (rg4 (atc P F path)).2.1 (rg4 (atc P F path)).2.2.1 (rg4 (atc P F path)).2.2.2) (rg4 (atc P F path)).1=some (.p (.fn (.func g) us vs)))(I:(wC P g&&((rg4 (atc P F path)).2.1.size==1&&(rg4 (atc P F path)).2.1.toList.all fun t=>decide (t<f.n)))=true)(hf:f.stb m=true)(J:f.rd=none) :
  E5 P gl (rgc P F path) ⟨O 0,[f],[]⟩ .normal (rgT P F path f [] [] (O L.length) none z) :=
 (tU (e1:=.ret) (rs:=r) O L.length [] .ret z (fun c hc hf=>⟨fun hn=>by have:=hS c 0 om hf;rw[Pd]at this;exact this,fun h=>absurd (OI _) h⟩) J hg I
  (fun _ _ _ h1 h2 h3=>L3 (m:=m) ⟨by rw[Qs,hf];rfl,rfl⟩ h1 h2 h3) (fun k x _=>hb k x) (fun x Z=>by rw[PF (OI _)]at Z;cases Z)).1 (OI _)
theorem RunT.fg{lp:Lp}(h:RunT P gl g xs O K X r O1 (X1++[lp])):RunT P gl g xs O K X r O1 (X1++[{ lp with fr:={ lp.fr with l:=[] } }]):=by
 obtain⟨fn,cd,h1,h2,h3⟩:=h;refine⟨fn,cd,h1,h2,fun n0 M w S a ρ n hN hs=>Qv (h3 n0 M w S a ρ n hN hs) ?_⟩;rintro e' a' w' ⟨M',⟨J,Z,c'⟩,t1,t2,t3,t4,t5,t6⟩;simp only[Sg.mk.injEq]at t6;obtain⟨rfl,h4,rfl⟩:=t6;refine⟨M',⟨J,Z,X1++[{ lp with fr:={ lp.fr with l:=[] } }]⟩,t1,t2,⟨t3.size,t3.ob,t3.apart,t3.stk,t3.gls,jQ t3.nl,fun i l I=>?_,t3.nd,t3.sep⟩,t4,by rw[<-t5];exact wN,by simp[h4]⟩
 by_cases hl:i<X1.length
 ·exact t3.lps i l (by rw[Ph hl]at I ⊢;exact I)
 ·have d':=I;rw[Pz om]at I;obtain rfl:i=X1.length:=by have:=(List.getElem?_eq_some_iff.1 I).1;simp at this;omega
  rw[Rx]at I
  cases I
  obtain⟨fid,T,a,b,c,d,e⟩:=t3.lps X1.length lp jS;exact⟨fid,T,a,b,c,d,⟨e.1.1,fun t x hx=>by cases hx⟩,e.2⟩
theorem GH:sS .ret=some (some .ret)/\∀σ,AWN P gl 0 .ret (fun e τ=>e=.ret/\τ=σ) σ:=⟨rfl,fun _=>.ret ⟨rfl,rfl⟩⟩
end
end Go.Proofs.YteemngnialjaiaaGreatDoor
