/- Part. -/
import Derived.Test.YteemngnialjaiaaGreatDoorQ25
import Derived.Test.YteemngnialjaiaaGreatDoorQ24
import Derived.Test.YteemngnialjaiaaGreatDoorQ23
set_option maxRecDepth 100000
set_option maxHeartbeats 16000000
set_option linter.unusedVariables false
set_option linter.unusedSimpArgs false
namespace Go.Proofs.YteemngnialjaiaaGreatDoor
open Go.Proofs.Tryz Go.RowKit
variable {l:List Evt}{s:Bs}{b k j a:Nat}{y:Evt}{x:Int×Nat}{es:Nat->List Tr}{e:Exit}{τ:Sg}{A:Prop}
section
abbrev bT(x:Int × Nat):Tr:=.agg [tI x.1,tI x.2]
abbrev bsT(s:Bs):Tr:=.lst false (s.map bT)
section
variable (gl : Nat -> Option (List Tr))
noncomputable def hasI(s:Bs)(i:Int)(k:Nat):Sg:=⟨[],[⟨19,[(0,.p (bsT s)),(1,.p (tI i)),(5,.p (tI k))],none,[]⟩],[]⟩
noncomputable def Km:Sg:=⟨[],[⟨19,[],none,[]⟩],[]⟩
noncomputable def Li(b:Bool):Sg:=⟨[],[⟨19,[(4,.p (tB b))],none,[]⟩],[]⟩
noncomputable def hasC:Code:=lpb prog 262 [1,0,1,0]
theorem CW(s:Bs)(i:Nat)(I:s.length<=9223372036854775807):PuC prog gl 262 [bsT s,tI i] (tB (jl s i)):=by
 have hL:=LoopP.any (P:=prog) (gl:=gl) (N:=0) (c:=hasC) (e:=.exit 0) (τ:=Km) (e1:=.ret) (τ1:=Li true) (hasI s i) s (fun y=>decide (y.2=i))
  (fun k x hk hp e τ h=>by
   unfold hasI at h ⊢;rw[<-wr1 (sz hk) I]at h;exact LoopP.next [bt,.el (bT x),bf] [0,1,5] [] rfl h (aj4 (ltM bT (sz hk)) (elM bT hk) (k0 k) (show ((x.2:Int)==(i:Int))=false by simp at hp ⊢;omega) tv))
  (fun k x hk hp=>LoopP.stop [bt,.el (bT x),bt] [4] [] jS (aj4 (ltM bT (sz hk)) (elM bT hk) (k0 k) (show ((x.2:Int)==(i:Int))=true by simp at hp ⊢;omega) tv))
  (LoopP.stop [bf] [] [] jS (ai (dI bT s) tv))
 unfold jl
 cases h:s.any fun y=>decide (y.2=i) with
 | true=>exact aq [.lo [0,1,5] .ret (Li true)] (ai (hL.1 h) tv)
 | false=>exact aq [.lo [0,1,5] (.exit 0) Km] (ai (hL.2 h) tv)
noncomputable def apaI(s t:Bs)(k:Nat):Sg:=⟨[],[⟨19,[(0,.p (bsT s)),(1,.p (bsT t)),(5,.p (tI k))],none,[]⟩],[]⟩
noncomputable def apaC:Code:=lpb prog 188 [1,0,1,0]
theorem KN(s t:Bs)(J:s.length<=9223372036854775807)(hm:t.length<=9223372036854775807):PuC prog gl 188 [bsT s,bsT t] (tB (eD s t)):=by
 have hL:=LoopP.any (P:=prog) (gl:=gl) (N:=0) (c:=apaC) (e:=.exit 0) (τ:=Km) (e1:=.ret) (τ1:=Li false) (apaI s t) s (fun y=>jl t y.2)
  (fun k x hk hp e τ h=>by
   have I:=CW gl t x.2 hm;rw[hp]at I;unfold apaI at h ⊢;rw[<-wr1 (sz hk) J]at h;exact LoopP.next [bt,.el (bT x),.ca (tB false),bf] [0,1,5] [] rfl h (aj5 (ltM bT (sz hk)) (elM bT hk) (k0 k) I yF tv))
  (fun k x hk hp=>by
   have I:=CW gl t x.2 hm;rw[hp]at I;exact LoopP.stop [bt,.el (bT x),.ca (tB true),bt] [4] [] jS (aj5 (ltM bT (sz hk)) (elM bT hk) (k0 k) I yT tv))
  (LoopP.stop [bf] [] [] jS (ai (dI bT s) tv))
 have e:=qr s t
 cases h:s.any fun y=>jl t y.2 with
 | true=>rw[h]at e;rw[show eD s t=false by simpa using e];exact aq [.lo [0,1,5] .ret (Li false)] (ai (hL.1 h) tv)
 | false=>rw[h]at e;rw[show eD s t=true by simpa using e];exact aq [.lo [0,1,5] (.exit 0) Km] (ai (hL.2 h) tv)
noncomputable def togI(a s t:Bs):Sg:=⟨[(0,.row 204 2 (a.map bT) false)],[⟨50,[(0,.p (bsT s)),(1,.p (bsT t)),(5,.ref 0)],none,[]⟩],[]⟩
noncomputable def Mm(a:Bs):Sg:=⟨[(0,.row 204 2 (a.map bT) false)],[⟨50,[(5,.ref 0)],none,[]⟩],[]⟩
noncomputable def togC:Code:=lpb prog 186 [1,1,0,0]
theorem togL:∀(n:Nat)(a s t:Bs),s.length+t.length=n->a.length+n<=1048576->LoopP prog gl 0 togC (togI a s t) (.exit 0) (Mm (a++ah s t)):=by
 intro n
 induction n with
 | zero =>
  intro a s t hn hl;obtain rfl:s=[]:=Po om;obtain rfl:t=[]:=Po om;rw[ah,Qf];exact LoopP.stop [bf] [5] [0] jS (ai yF tv)
 | succ n ih =>
  intro a s t hn hl;have ap:=fun x=>app3 bT x a 2 16 (fun _=>rfl) om om
  have Z:=fun x l=>CG bT x l 2 fun _=>rfl
  have m0:∀s:Bs,ah s []=s:=fun s=>by cases s<;>rw[ah]
  have lo:∀x I J L,I.length+J.length=n->L=x::ah I J->LoopP prog gl 0 togC ⟨[(0,.row 204 2 (a.map bT++[bT x]) false)],[⟨50,[(0,.p (bsT I)),(1,.p (bsT J)),(5,.ref 0)],none,[]⟩],[]⟩ (.exit 0) (Mm (a++L)):=fun x I J L h hL=>by
   have h2:=ih (a++[x]) I J h (by simp;omega);rw[QH]at h2;rw[hL,show a.map bT++[bT x]=(a++[x]).map bT by simp];exact h2
  have c1:∀(x:Int × Nat)(l:Bs) b,(bif decide ((((x::l).map bT).length:Nat) > (0:Int)) then true else b)=true:=fun x l b=>by rw[Jp];rfl
  cases t with
  | nil =>
   cases s with
   | nil=>cases hn
   | cons x I =>
    exact LoopP.next [bt,bt,bt,bt,.el (bT x),.ap,.sl] [0,1,5] [1] rfl (lo x I [] _ (jQ hn) (by rw[m0,m0])) (aj6 (c1 x I (decide (((([]:Bs).map bT).length:Nat) > (0:Int)))) yT yT yT (eT (bT x)) i0 (ai3 (ap x) (ai4 (Z x I) (aj2 (eV (.p (bsT (x::I)))) (eV (.p (bsT I))) (ai4 (Z x I) trivial))))) [.ren 1 0]
  | cons y J =>
   cases s with
   | nil =>
    exact LoopP.next [bt,bf,bf,bf,bf,bf,.el (bT y),.ap,.sl] [0,1,5] [1] rfl (lo y [] J _ (jQ hn) (by rw[ah,gT])) (aj8 (Jp bT y J) yF yF yF yF yF (eT (bT y)) i0 (ai3 (ap y) (ai4 (Z y J) (aj2 (eV (.p (bsT (y::J)))) (eV (.p (bsT J))) (ai4 (Z y J) trivial))))) [.ren 1 0]
   | cons x I =>
    have c2:=c1 x I (decide ((((y::J).map bT).length:Nat) > (0:Int)))
    by_cases a':x.2<y.2
    ·exact LoopP.next [bt,bf,bt,.el (bT x),.el (bT y),bt,bf,bt,.el (bT x),.ap,.sl] [0,1,5] [1] rfl (lo x I (y::J) _ (by simp at hn ⊢;omega) (by rw[ah,OG a']))
      (aj8 c2 yF (Jp bT x I) (eT (bT x)) i0 (eT (bT y)) i0 yT (aj4 yF (show decide ((x.2:Int)<(y.2:Int))=true by simp;omega) (eT (bT x)) i0 (ai3 (ap x) (ai4 (Z x I) (aj2 (eV (.p (bsT (x::I)))) (eV (.p (bsT I))) (ai4 (Z x I) trivial)))))) [.ren 1 0]
    ·exact LoopP.next [bt,bf,bt,.el (bT x),.el (bT y),bt,bf,bf,.el (bT y),.ap,.sl] [0,1,5] [1] rfl (lo y (x::I) J _ (by simp at hn ⊢;omega) (by rw[ah,OF a']))
      (aj8 c2 yF (Jp bT x I) (eT (bT x)) i0 (eT (bT y)) i0 yT (aj4 yF (show decide ((x.2:Int)<(y.2:Int))=false by simp;omega) (eT (bT y)) i0 (ai3 (ap y) (ai4 (Z y J) (aj2 (eV (.p (bsT (y::J)))) (eV (.p (bsT J))) (ai4 (Z y J) trivial)))))) [.ren 1 0]
theorem rg(s t:Bs)(h:s.length+t.length<=1048576):PuC prog gl 186 [bsT s,bsT t] (bsT (ah s t)) :=
 aq [.lo [0,1,5] (.exit 0) (Mm (ah s t))] (ai (LoopP.tns ⟨[],[⟨50,[(0,.p (bsT s)),(1,.p (bsT t)),(5,.p (.at (.slice none 0 0)))],none,[]⟩],[]⟩ [.own 5 0 204 2] (togL gl _ [] s t rfl (jQ h))) tv)
end
end
section
abbrev evT(x:Evt):Tr:=.agg [tI x.src,tI x.sq,tI x.ty,tI x.tm,.lst false (x.vals.map vlT)]
abbrev bE(l:List Evt):Tr:=.lst false (l.map evT)
abbrev oo(r:List (List Evt)):Tr:=.agg [.lst false (r.map bE)]
def upd(es:Nat->List Tr)(j:Nat)(v:List Tr):Nat->List Tr:=fun i=>if i=j then v else es i
abbrev enS(l:List Evt)(s:Bs)(b:Nat)(i:Nat):List Evt:=(s.filter fun x=>decide (x.2<b/\x.1=(i:Int))).filterMap fun x=>l[x.2]?
theorem FU(hk:s[k]?=some ((j:Int),a))(h:a<b)(hy:l[a]?=some y) :
  (fun i=>(enS l (s.take (k+1)) b i).map evT)=upd (fun i=>(enS l (s.take k) b i).map evT) j ((enS l (s.take k) b j).map evT++[evT y]):=by
 funext i
 unfold upd enS;rw[PW,hk];simp only[QG,Rs,List.filterMap_append,Pq]
 split
 ·rename_i e;subst e;simp[h,hy]
 ·rename_i e;have:¬(j:Int)=(i:Int):=by omega
  simp[this]
theorem Dt(hk:s[k]?=some x)(h:¬x.2<b):(fun i=>(enS l (s.take (k+1)) b i).map evT)=fun i=>(enS l (s.take k) b i).map evT:=by
 funext i
 unfold enS;rw[PW,hk];simp[Rs,List.filterMap_append,h]
theorem B7(l:List Evt)(s:Bs)(b i k:Nat):(enS l (s.take k) b i).length<=s.length:=OP (List.length_filterMap_le ..) (OP (QF ..) (by simp;omega))
section
variable (gl : Nat -> Option (List Tr))
noncomputable def enO(es:Nat->List Tr):List (Nat × Ob):=(0,.box [.p (.at (.slice none 0 0))])::(1,.box ((List.range 16).map fun i=>.ref (3+i)))::(2,.box [.arr 1 1 16 false])::(List.range 16).map fun i=>(3+i,.row 71 5 (es i) false)
noncomputable def enI(l:List Evt)(s:Bs)(b:Nat)(es:Nat->List Tr)(k:Int):Sg:=⟨enO es,[⟨52,[(0,.p (bE l)),(1,.p (bsT s)),(2,.p (tI b)),(6,.off 0 0 0),(7,.off 2 0 0),(8,.p (tI k))],none,[]⟩],[]⟩
noncomputable def enE(es:Nat->List Tr):Sg:=⟨(0,.box [.p (.at (.slice none 0 0))])::(1,dum)::(2,.box [.p (.lst false ((List.range 16).map fun i=>.lst false (es i)))])::(List.range 16).map fun i=>(3+i,dum),[⟨52,[(6,.off 0 0 0),(7,.off 2 0 0)],none,[]⟩],[]⟩
noncomputable def enC:Code:=lpb prog 185 [1,1,0,1,0]
def enD(j a:Nat)(y:Evt):List Ch:=[bt,.el (bT (j,a)),bt,.el (bT (j,a)),.el (bT (j,a)),.co,.el (bT (j,a)),.el (evT y),.ap,.co]
theorem enV2{j:Int}(_:s[k]?=some (j,a)):V.p (.elp [tI j,tI a])=V.p (.elp [tI j,tI a])/\V.p (tI j)=V.p (tI j):=⟨rfl,rfl⟩
theorem Jc(hw:IntKind.i64.wrap ((k:Int)+1)=((k+1:Nat):Int))(h:LoopP prog gl 0 enC (enI l s b (upd es j (es j++[evT y])) ((k+1:Nat):Int)) e τ)(I:A)(eq:(enI l s b (upd es j (es j++[evT y])) (IntKind.i64.wrap ((k:Int)+1))=enI l s b (upd es j (es j++[evT y])) (IntKind.i64.wrap ((k:Int)+1))/\A)=bdS prog gl 300 0 enC (enI l s b es k) (enD j a y) [0,1,2,6,7,8] (List.range 20) [.ren 19 (3+j)] (enI l s b (upd es j (es j++[evT y])) (IntKind.i64.wrap ((k:Int)+1))):=by kernel_rfl) :
  LoopP prog gl 0 enC (enI l s b es k) e τ:=LoopP.next (enD j a y) [0,1,2,6,7,8] (List.range 20) (by rw[hw]) h I [.ren 19 (3+j)] 300 eq
theorem en_in(hj:j<16)(hk:s[k]?=some ((j:Int),a))(ha:a<b)(hy:l[a]?=some y)(hn:s.length<=1048576)(Z:(es j).length<=1048576)(h:LoopP prog gl 0 enC (enI l s b (upd es j (es j++[evT y])) ((k+1:Nat):Int)) e τ):LoopP prog gl 0 enC (enI l s b es k) e τ:=by
 have hw:=wr1 (sz hk) om;have c1:=ltM bT (sz hk);have c2:decide ((a:Int)<(b:Int))=true:=by simp;omega
 have he:=elM bT hk;have J:=elM evT hy;have b1:(es j).length+1<=maxLen:=by rw[aQ];omega
 have b2:((es j).length+1)*56<=140737488355328:=by omega
 have I:=enV2 hk;have:j=0\/j=1\/j=2\/j=3\/j=4\/j=5\/j=6\/j=7\/j=8\/j=9\/j=10\/j=11\/j=12\/j=13\/j=14\/j=15:=by omega
 rcases this with rfl|rfl|rfl|rfl|rfl|rfl|rfl|rfl|rfl|rfl|rfl|rfl|rfl|rfl|rfl|rfl <;>
  exact Jc gl (a:=a) (y:=y) hw h (aj8 c1 he (k0 k) c2 he (k0 k) he (k0 k) (aj8 he (k0 k) J (k0 a) yT b1 b2 (eV (.off 2 0 0)) (aj8 (eV (.arr 1 1 16 false)) (eV (.p (bsT s))) (eV (.p (tI k))) I.1 he (k0 k) I.1 I.2 tv)))
theorem enL(l:List Evt)(s:Bs)(b:Nat)(hn:s.length<=1048576)(J:∀x∈s,(0<=x.1/\x.1<16)/\x.2<l.length) :
  LoopP prog gl 0 enC (enI l s b (fun _=>[]) (0:Nat)) (.exit 0) (enE fun i=>(enS l s b i).map evT):=by
 have h0:(fun _=>[])=fun i=>(enS l (s.take 0) b i).map evT:=by funext i;simp[enS]
 rw[h0];refine LoopP.each (fun k=>enI l s b (fun i=>(enS l (s.take k) b i).map evT) k) s.length (fun k hk h=>?_) ?_
 ·have I:=OH hk;obtain⟨h1,h2⟩:=J _ (OX hk);obtain⟨⟨v,a⟩,hx⟩:∃x,x=s[k]:=⟨_,rfl⟩;rw[<-hx]at I h1 h2;obtain⟨j,rfl⟩:=Int.eq_ofNat_of_zero_le h1.1
  by_cases Z:a<b
  ·have hy:=OH h2;rw[FU I Z hy]at h;exact en_in gl om I Z hy hn (by have:=B7 l s b j k;simp;omega) h
  ·rw[Dt I Z,<-wr1 hk om]at h;exact LoopP.next [bt,.el (bT (j,a)),bf] [0,1,2,6,7,8] (List.range 20) rfl h (aj4 (ltM bT hk) (elM bT I) (k0 k) (show decide ((a:Int)<(b:Int))=false by simp;omega) tv)
 ·have e:s.take s.length=s:=Pp;rw[e];exact LoopP.stop [bf] [6,7] (List.range 20) jS (ai (dI bT s) tv) ((List.range 16).map (fun i=>.fr (3+i))++[.fr 1])
theorem zQ(l:List Evt)(s:Bs)(b:Nat)(I:s.length<=1048576)(h:∀x∈s,(0<=x.1/\x.1<16)/\x.2<l.length):PuC prog gl 185 [bE l,bsT s,tI b] (oo (dy l s b)):=by
 have e:dy l s b=(List.range 16).map fun i=>enS l s b i:=rfl
 rw[e];exact aq [.lo [0,1,2,6,7,8] (.exit 0) (enE fun i=>(enS l s b i).map evT)] (ai (LoopP.tns ⟨[(0,.box [.p (.at (.slice none 0 0))]),(1,.row 34 1 (List.replicate 16 (.at (.slice none 0 0))) false),(2,.box [.ref 1])],
  [⟨52,[(0,.p (bE l)),(1,.p (bsT s)),(2,.p (tI b)),(6,.off 0 0 0),(7,.off 2 0 0),(8,.p (tI (0:Nat)))],none,[]⟩],[]⟩ (.bx 1::(List.range 16).map fun i=>.ownc 1 i (3+i) 71 5) (enL gl l s b I h)) tv)
end
end
end Go.Proofs.YteemngnialjaiaaGreatDoor
