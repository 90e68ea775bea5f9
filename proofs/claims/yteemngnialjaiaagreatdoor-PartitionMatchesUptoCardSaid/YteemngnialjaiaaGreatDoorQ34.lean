/- Part. -/
import Derived.Test.YteemngnialjaiaaGreatDoorQ32
set_option maxRecDepth 100000
set_option maxHeartbeats 16000000
set_option linter.unusedVariables false
set_option linter.unusedSimpArgs false
namespace Go.Proofs.YteemngnialjaiaaGreatDoor
open Go.Proofs.Tryz Go.RowKit
variable {l:List Evt}{P:Program}{f:FuncId}{ts es:List Tr}{b:Bool}{w:World}{x:Value}{vs:List Value}{gl:Nat->Option (List Tr)}{r:Tr}{α β:Type}{i:Nat}
section
section
variable (gl : Nat -> Option (List Tr))
theorem AZ(x:Pt):PuC prog gl 123 [pT x] (tB (iZ x.op)) :=
 fN [] (ai (congrArg tB (show (bif x.op==5 then true else x.op==9)=iZ x.op by unfold iZ;rw[eqB,eqB,orB])) tv)
theorem HW(x:Pt):PuC prog gl 124 [pT x] (tB (fL x.op)) :=
 fN [] (ai (congrArg tB (show (bif x.op==6 then true else x.op==10)=fL x.op by unfold fL;rw[eqB,eqB,orB])) tv)
theorem AF(x:Pt):PuC prog gl 122 [pT x] (tB (ee x.op)) :=
 fN [.ca (tB (iZ x.op))] (aj2 (congrArg tB (show (bif x.op==0 then true else iZ x.op)=ee x.op by unfold iZ ee;rw[eqB,orB])) (AZ gl x) tv)
theorem Mt(x:Pt):PuC prog gl 257 [pT x] (tB (sf x.op)) :=
 fN [.ca (tB (ee x.op))] (aj2 (congrArg tB (show (bif ee x.op then true else x.op==7)=sf x.op by unfold ee sf;rw[eqB,orB];exact decide_eq_decide.2 om)) (AF gl x) tv)
theorem vu(u:Bool)(n m:Int):PuC prog gl 258 [tB u,tI n,tI m] (tB (gg u n m)) :=
 fN [] (ai (congrArg tB (show (bif u then bif decide (n<0) then true else decide (n > m) else false)=gg u n m by unfold gg;cases u<;>by_cases h:n<0<;>simp[h])) tv)
theorem Oa(x:Pt):PuC prog gl 256 [pT x] (tB (li x.op x.args.length)):=by
 have F:∀k:Int,x.op≠k->(x.op==k)=false:=fun k h=>jQ h
 have T:∀k:Int,x.op=k->(x.op==k)=true:=fun k h=>jQ h
 have E:∀n:Nat,((((x.args.map bP).length:Nat):Int)==n)=decide (x.args.length=n):=fun n=>by rw[eqB,OL];exact decide_eq_decide.2 om
 have G:decide ((((x.args.map bP).length:Nat):Int)>=2)=decide (2<=x.args.length):=by rw[OL];exact decide_eq_decide.2 om
 unfold li
 by_cases h0:x.op=0
 ·rw[OG h0,<-E 0];exact aq [bt] (ai (T 0 h0) tv)
 rw[OF h0]
 by_cases J:1<=x.op/\x.op<=3
 ·rw[OG J,<-G];rcases (by omega:x.op=1\/x.op=2\/x.op=3) with h|h|h
  ·exact aq [bf,bt,bt] (aj3 (F 0 h0) (T 1 h) (T 1 h) tv)
  ·exact aq [bf,bf,bt,bt] (aj4 (F 0 h0) (F 1 om) (T 2 h) (T 2 h) tv)
  ·exact aq [bf,bf,bf,bt] (aj4 (F 0 h0) (F 1 om) (F 2 om) (T 3 h) tv)
 rw[OF J]
 by_cases I:x.op=8
 ·rw[OG I,<-E 2];exact aq [bf,bf,bf,bf,bt] (aj5 (F 0 h0) (F 1 om) (F 2 om) (F 3 om) (T 8 I) tv)
 ·rw[OF I,<-E 1];exact aq [bf,bf,bf,bf,bf] (aj5 (F 0 h0) (F 1 om) (F 2 om) (F 3 om) (F 8 I) tv)
def orS(b:Bool)(l:List Ch):List Ch:=.br b::((bif b then [] else l)++[.br b])
def orQ(b:Bool)(l:List Prop):List Prop:=(b=b)::((bif b then [] else l)++[b=b])
def J9(c q p e b1 b2 b3 b4:Bool)(l:List Ch):List Ch:=[.sg false [],bf,.ca (tB true),bf,.ca (tB c),.ca (tB q)]++orS q [.ca (tB p)]++[.ca (tB e),.ca (tB b1)]++orS b1 [.ca (tB b2)]++orS (b1 || b2) [.ca (tB b3)]++orS (b1 || b2 || b3) [.ca (tB p),.ca (tB b4)]++.br (b1 || b2 || b3 || b4)::l
def rndQ(q b1 b2 b3 b4:Bool)(A R V N h Z X1 X2 I J:Prop)(l:List Prop):List Prop:=[A,R,(!true)=false,V,N]++orQ q [h]++[Z,X1]++orQ b1 [X2]++orQ (b1 || b2) [I]++orQ (b1 || b2 || b3) [h,J]++((b1 || b2 || b3 || b4)=(b1 || b2 || b3 || b4))::l
theorem JY{q b1 b2 b3 b4:Bool}{A R V N h I X1 X2 J Z:Prop}{l:List Prop}(a:A)(ar:R)(v:V)(n:N)(t:h)(c:I)(x1:X1)(x2:X2)(x3:J)(x4:Z)(hl:alP l):alP (rndQ q b1 b2 b3 b4 A R V N h I X1 X2 J Z l):=by
 cases q<;>cases b1<;>cases b2<;>cases b3<;>simp[rndQ,orQ,alP,a,ar,v,n,t,c,x1,x2,x3,x4,hl]
theorem Ig(x:Ex)(h:aC x<=1048576):PuC prog gl 259 [exT x (aD x.args),exZ] (tB (fY x zz)):=by
 have:=CC gl x h zz;rw[ir]at this;exact PuC.arg (a:=[_]) (b:=[]) this IW
theorem It(x:Pt)(hN:aC x.cond<=1048576):PuC prog gl 182 [pT x] (tI (ptE x)):=by
 have e1:=cB (c:=bif decide (x.op<0) then true else decide (x.op > 10)) (p:=x.op<0\/10<x.op) (orB _ _);have ha:=Oa gl x;unfold ptE
 by_cases h1:x.op<0\/10<x.op
 ·rw[OG h1];exact aq [.sg false [],bt] (ai (e1.1 h1) tv)
 rw[OF h1]
 by_cases h2:li x.op x.args.length=false
 ·rw[OG h2];rw[h2]at ha;exact aq [.sg false [],bf,.ca (tB false),bt] (aj3 (e1.2 h1) ha yT tv)
 rw[OF h2];rw[show li x.op x.args.length=true by simpa using h2]at ha;have p1:=e1.2 h1;have hv:=AF gl x;have hq:=AZ gl x;have ht:=HW gl x;have he:=Mt gl x;have hs:=Ig gl x.cond hN;have hc:=yx gl x.cond hN;rw[ir]at hc;rw[show iq x.op=bif iZ x.op then true else fL x.op by unfold iq iZ;cases decide (x.op=5\/x.op=9)<;>rfl];have Z:=vu gl (ee x.op) x.ty 15;have I:=vu gl (ee x.op) x.vr 15;have a':=vu gl (bif iZ x.op then true else fL x.op) x.sc 63;have J:=vu gl (fL x.op) x.sp 1099511627776;generalize gg (ee x.op) x.ty 15=b1 at *;generalize gg (ee x.op) x.vr 15=b2 at *;generalize gg (bif iZ x.op then true else fL x.op) x.sc 63=b3 at *;generalize gg (fL x.op) x.sp 1099511627776=b4 at *;generalize ee x.op=c at *;generalize iZ x.op=q at *;generalize fL x.op=p at *;generalize sf x.op=e at *;generalize fY x.cond zz=s at *;have hQ:=fun l h=>JY (q:=q) (b1:=b1) (b2:=b2) (b3:=b3) (b4:=b4) (l:=l) p1 ha hv hq ht he Z I a' J h
 cases hb:b1 || b2 || b3 || b4 with
 | true =>
  have h:=hQ [] trivial;have hT:IsS (J9 c q p e b1 b2 b3 b4 []):=rfl;rw[OG rfl];clear hQ Z I a' J
  cases q<;>cases b1<;>cases b2<;>cases b3<;>cases b4<;>first|(cases hb;done)|exact aq (A9 hT) h
 | false =>
  simp only[PL]at hb;obtain⟨⟨⟨rfl,rfl⟩,rfl⟩,rfl⟩:=hb;obtain⟨f,hf⟩:=jF (bif (bif bif bif !c then bif x.ty != 0 then true else x.vr != 0 else false then true else bif !(bif q then true else p) then x.sc != 0 else false then true else bif !p then x.sp != 0 else false) then true else bif !e then !s else false);have fin:((c=false/\(x.ty≠0\/x.vr≠0))\/((bif q then true else p)=false/\x.sc≠0)\/(p=false/\x.sp≠0)\/(e=false/\s=false))↔f=true:=by
   subst hf
   by_cases q1:x.ty=0<;>by_cases q2:x.vr=0<;>by_cases q3:x.sc=0<;>by_cases q4:x.sp=0<;>cases c<;>cases q<;>cases p<;>cases e<;>cases s<;>simp[q1,q2,q3,q4]
  simp only[fin];rw[OF jS];have e5:=cB (neB (gV x.cond) 0);clear fin
  cases e with
  | true =>
   by_cases h4:gV x.cond≠0
   ·rw[OG ⟨rfl,h4⟩];have h:=hQ [_,_,_] (aj3 yT hc (e5.1 h4) tv);have hT:IsS (J9 c q p true false false false false [bt,.ca (tI (gV x.cond)),bt]):=rfl;clear hQ Z I a' J hf
    cases q<;>exact aq (A9 hT) h
   ·rw[OF (fun h=>h4 h.2)];have h:=hQ [_,_,_,_,_,_] (aj6 yT hc (e5.2 h4) ht hs hf.symm tv);have hT:IsS (J9 c q p true false false false false [bt,.ca (tI (gV x.cond)),bf,.ca (tB p),.ca (tB s),.br f]):=rfl;clear hQ Z I a' J hf
    cases q<;>cases f<;>exact aq (A9 hT) h
  | false =>
   rw[OF (fun h=>by cases h.1)];have h:=hQ [_,_,_,_] (aj4 yF ht hs hf.symm tv);have hT:IsS (J9 c q p false false false false false [bf,.ca (tB p),.ca (tB s),.br f]):=rfl;clear hQ Z I a' J hf
   cases q<;>cases f<;>exact aq (A9 hT) h
noncomputable def rtoC:Code:=lpb prog 97 [1,1,0,1,0]
noncomputable def rtoI(L:Int)(x:Pt)(n k:Int):Sg:=S1 29 [(1,.p (tI L)),(2,.p (.elp (pT x).cells)),(5,.p (tI n)),(6,.p (tI k))]
theorem zF(L:Nat):∀(n:Nat)(x:Pt),ptN x<=n->n<=1048576->PuC prog gl 97 [pT x,tI L] (tI (bM L x)):=by
 intro n
 induction n with
 | zero=>intro x hx;rw[cK]at hx;omega
 | succ n ih =>
  intro x hx hn;have hN:=cK x;have hl:=jg x.args;have Z:∀n k:Nat,(bif decide ((k:Int)<((x.args.map bP).length:Nat)) then decide ((n:Int)<=L) else false)=decide (k<x.args.length/\n<=L):=fun n k=>by
   rw[OL];by_cases h:k<x.args.length<;>simp[h]<;>omega
  have key:∀m k c:Nat,k+m=x.args.length->c+cE (x.args.drop k)<=1048577->LoopP prog gl 0 rtoC (rtoI L x c k) (.exit 0) (S1 29 [(5,.p (tI (dp L c (x.args.drop k):Nat)))]):=by
   intro m
   induction m with
   | zero =>
    intro k c hk _;obtain rfl:k=x.args.length:=by omega
    rw[Qn,dp];exact LoopP.stop [bf] [5] [] jS (ai ((Z c x.args.length).trans (OZ om)) tv)
   | succ m J =>
    intro k c hk hb;have I:k<x.args.length:=by omega
    rw[PE I,cE]at hb;rw[PE I,dp];have hy:=OH I;generalize x.args[k]=y at hy hb;have hle:=nQ L y;have a':=mm hy
    by_cases hL:c<=L
    ·rw[OG hL];have h:=J (k+1) (c+bM L y) om om;rw[rtoI,show ((c+bM L y:Nat):Int)=IntKind.i64.wrap ((c:Int)+(bM L y:Nat)) by rw[Pv];omega,show ((k+1:Nat):Int)=IntKind.i64.wrap ((k:Int)+1) from (wr1 I om).symm]at h;exact LoopP.next [bt,.el (pT y),.ca (tI (bM L y))] [1,2,5,6] [] rfl h (aj4 ((Z c k).trans (O3 ⟨I,hL⟩)) (elP hy) (k0 k) (ih y om om) tv)
    ·rw[OF hL];exact LoopP.stop [bf] [5] [] jS (ai ((Z c k).trans (OZ (fun h=>hL h.2))) tv)
  have h:=key x.args.length 0 1 om (by rw[PN];omega);rw[PN]at h;rw[Fh];exact aq [.sg false [],.lo [1,2,5,6] (.exit 0) (S1 29 [(5,.p (tI (dp L 1 x.args:Nat)))])] (ai h tv)
noncomputable def rdpI(x:Pt)(n k:Int):Sg:=S1 22 [(1,.p (.elp (pT x).cells)),(3,.p (tI n)),(4,.p (tI k))]
theorem sR:∀(n:Nat)(x:Pt),ptN x<=n->n<=1048576->PuC prog gl 98 [pT x] (tI (ptD x)):=by
 intro n
 induction n with
 | zero=>intro x I;rw[cK]at I;omega
 | succ n J =>
  intro x I hn;have hN:=cK x;have Z:=mh x.args;have hL:=LoopP.each (P:=prog) (gl:=gl) (N:=0) (c:=lpb prog 98 [1,1,0,1,0]) (e:=.exit 0) (τ:=S1 22 [(3,.p (tI (gB x.args)))]) (fun k=>rdpI x (gB (x.args.take k)) k) x.args.length (fun k hk h=>by
    have hy:=OH hk;generalize x.args[k]=y at hy;obtain⟨a,b,c⟩:=uk hy;have hl:=jg x.args;rw[show ((gB (x.args.take (k+1)):Nat):Int)=if (gB (x.args.take k):Int)<(ptD y:Nat) then ((ptD y:Nat):Int) else gB (x.args.take k) by split<;>omega,
     show ((k+1:Nat):Int)=IntKind.i64.wrap ((k:Int)+1) from (wr1 hk om).symm]at h
    exact LoopP.next [bt,.el (pT y),.ca (tI (ptD y)),.co] [1,3,4] [] rfl h (aj4 (ltM bP hk) (elP hy) (k0 k) (J y om om) tv))
   (by rw[Pp];exact LoopP.stop [bf] [3] [] jS (ai (dI bP x.args) tv))
  rw[show ((ptD x:Nat):Int)=IntKind.i64.wrap ((gB x.args:Int)+1) by rw[Fj,Pv];omega];exact aq [.sg false [],.lo [1,3,4] (.exit 0) (S1 22 [(3,.p (tI (gB x.args)))])] (ai hL tv)
noncomputable def rnoI(x:Pt)(es:List Tr)(k:Int):Sg:=⟨[(0,.row 31 14 es false)],[⟨23,[(1,.p (.elp (pT x).cells)),(3,.ref 0),(4,.p (tI k))],none,[]⟩],[]⟩
noncomputable def Ks(es:List Tr):Sg:=⟨[(0,.row 31 14 es false)],[⟨23,[(3,.ref 0)],none,[]⟩],[]⟩
theorem xe(x:Pt):(dD x).length=ptN x:=by rw[OL,gm]
theorem yq(x:Pt):((dD x).all fun t=>t.cells.length==14)=true:=by rw[List.all_map,Re];intro y _;cases y;rfl
theorem EW(x:Pt):(dD x).map Tr.weak=dD x:=by rw[PZ];exact QY fun y _=>by cases y;rfl
theorem tF:∀l:List Pt,(l.flatMap dD).length=cE l
 | []=>rfl
 | x::l=>by rw[O8,OM,xe,tF l,cE]
theorem PuC.weak{gl:Nat->Option (List Tr)}(h:PuC P gl f ts (.lst b es)):PuC P gl f ts (.lst false es):=fun F w vs hr hg =>
 (h F w vs hr hg).mono fun _ _ ⟨v,I,h1,J,h3,Z⟩=>⟨v,I,h1,J,h3,Z.weak⟩
theorem nJ:∀(n:Nat)(x:Pt),ptN x<=n->n<=1048576->PuC prog gl 99 [pT x] (.lst false (dD x)):=by
 intro n
 induction n with
 | zero=>intro x Z;rw[cK]at Z;omega
 | succ n ih =>
  intro x Z hn;have hN:=cK x;have hl:=jg x.args
  by_cases h0:x.args.length=0
  ·have e:dD x=[pT x]:=by rw[pE,List.length_eq_zero_iff.1 h0];rfl
   rw[e];exact (show PuC prog gl 99 [pT x] (.lst true [pT x]) from aq [.sg false [],.co,bf] (ai (show decide ((0:Int)<((x.args.map bP).length:Nat))=false by simp[h0]) tv)).weak
  have facts:∀k y,x.args[k]?=some y->((1+cE (x.args.take k)+(dD y).length<=maxLen)/\(1+cE (x.args.take k)+(dD y).length)*152<=140737488355328)/\PuC prog gl 99 [pT y] (.lst false (dD y)):=fun k y hy=>by
   obtain⟨a,b,c⟩:=uk hy;rw[xe,aQ];exact⟨by omega,ih y (by have:=mm hy;omega) om⟩
  have hw:∀k,k<x.args.length->((k+1:Nat):Int)=IntKind.i64.wrap ((k:Int)+1):=fun k hk=>(wr1 hk om).symm
  have hs:∀k y,x.args[k]?=some y->pT x::(x.args.take (k+1)).flatMap dD=(pT x::(x.args.take k).flatMap dD)++(dD y).map Tr.weak:=fun k y hy=>by
   rw[EW,PW,hy];simp
  have hq:∀k,(pT x::(x.args.take k).flatMap dD).length=1+cE (x.args.take k):=fun k=>by rw[Pk,tF];omega
  have hL:=LoopP.each (P:=prog) (gl:=gl) (N:=0) (c:=lpb prog 99 [1,1,0,1,0]) (e:=.exit 0) (τ:=Ks (dD x)) (fun k=>rnoI x (pT x::(x.args.take (k+1)).flatMap dD) (k+1:Nat)) (x.args.length-1) (fun k hk h=>by
    have I:k+1<x.args.length:=by omega
    have hy:=OH I;obtain⟨⟨f1,f2⟩,f3⟩:=facts _ _ hy;rw[hs _ _ hy,hw _ I]at h;rw[<-hq]at f1 f2;exact LoopP.next [bt,.el (pT x.args[k+1]),.ca (.lst false (dD x.args[k+1])),.ap] [1,3,4] [1] rfl h (aj7 (ltM bP I) (elP hy) (k0 (k+1:Nat)) f3 (yq x.args[k+1]) f1 f2 tv) [.ren 1 0])
   (by rw[show x.args.length-1+1=x.args.length by omega,Pp,pE];exact LoopP.stop [bf] [3] [0] jS (ai (dI bP x.args) tv))
  have J:0<x.args.length:=by omega
  have hy:=OH J;obtain⟨⟨f1,f2⟩,f3⟩:=facts _ _ hy;have hL:LoopP prog gl 0 (lpb prog 99 [1,1,0,1,0]) (rnoI x (pT x::(x.args.take (0+1)).flatMap dD) (0+1:Nat)) (.exit 0) (Ks (dD x)):=hL;rw[hs _ _ hy,hw _ J]at hL;rw[<-hq]at f1 f2;simp only[List.take_zero,List.flatMap_nil]at hL f1 f2;have h1:(dD x.args[0]).isEmpty=false:=by rw[pE];rfl
  have hR:LoopP prog gl 0 (lpb prog 99 [1,1,0,1,0]) (S1 23 [(1,.p (.elp (pT x).cells)),(3,.p (.lst true [pT x])),(4,.p (tI (0:Nat)))]) (.exit 0) (Ks (dD x)) :=
   LoopP.next [bt,.el (pT x.args[0]),.ca (.lst false (dD x.args[0])),.ap] [1,3,4] [0] rfl hL (aj8 (ltM bP J) (elP hy) (k0 0) f3 (yq x.args[0]) f1 f2 h1 (ai (show ([pT x].all fun t=>t.cells.length==14)=true from rfl) tv))
  exact aq [.sg false [],.lo [1,3,4] (.exit 0) (Ks (dD x))] (ai hR tv)
noncomputable def GZ(l:List Pt)(k:Int):Sg:=S1 28 [(3,.p (.lst false (l.map bP))),(4,.p (tI k))]
theorem G7(x:Pt)(hN:ptB x<=1048576):PuC prog gl 120 [pT x] (tI (dB x)):=by
 have I:=iL x;have ht:=zF gl 64 _ x (OP I hN) (OI _);have hd:=sR gl _ x (OP I hN) (OI _);have hn:=nJ gl _ x (OP I hN) (OI _);have e1:=cB (c:=decide ((64:Int)<(bM 64 x:Nat))) (p:=64<ptN x) (by have:=qI 64 x;exact decide_eq_decide.2 om);have e2:=cB (c:=decide ((12:Int)<(ptD x:Nat))) (p:=12<ptD x) (by simp;omega);unfold dB
 by_cases h1:64<ptN x
 ·rw[OG h1];exact aq [.sg false [],.ca (tI (bM 64 x)),bt] (aj2 ht (e1.1 h1) tv)
 rw[OF h1]
 by_cases Z:12<ptD x
 ·rw[OG Z];exact aq [.sg false [],.ca (tI (bM 64 x)),bf,.ca (tI (ptD x)),bt] (aj4 ht (e1.2 h1) hd (e2.1 Z) tv)
 rw[OF Z];obtain⟨n,f1,f2,f3⟩:=qP ((aV x).map ptE);have d':(aV x).length<=1048576:=by rw[gm];omega
 have a':∀y k,(aV x)[k]?=some y->PuC prog gl 182 [pT y] (tI (ptE y)):=fun y k hy=>by
  have:=mP x y (Pb hy);have:=mD y;exact It gl y om
 have go:∀e τ k y,(aV x)[k]?=some y->ptE y=0->LoopP prog gl 0 (lpb prog 120 [1,1,1,1,0,1,0]) (GZ (aV x) (k+1:Nat)) e τ->LoopP prog gl 0 (lpb prog 120 [1,1,1,1,0,1,0]) (GZ (aV x) k) e τ:=fun e τ k y hy h0 h=>by
  have hc:=a' y k hy;rw[h0]at hc;rw[show ((k+1:Nat):Int)=IntKind.i64.wrap ((k:Int)+1) from (wr1 (sz hy) om).symm]at h;exact LoopP.next [bt,.el (pT y),.ca (tI 0),bf] [3,4] [] rfl h (aj5 (ltM bP (sz hy)) (elP hy) (k0 k) hc yF tv)
 have fz:∀k y,k<n->(aV x)[k]?=some y->ptE y=0:=fun k y hk hy=>f1 k _ hk (by rw[OQ,hy];rfl)
 by_cases c':(aV x).length<=n
 ·rw[f3 (jQ c')];have hL:=LoopP.each (fun k=>GZ (aV x) k) (aV x).length (fun k hk h=>go (.exit 0) (S1 28 []) k _ (OH hk) (fz k _ om (OH hk)) h) (LoopP.stop [bf] [] [] jS (ai (dI bP (aV x)) tv));exact aq [.sg false [],.ca (tI (bM 64 x)),bf,.ca (tI (ptD x)),bf,.ca (.lst false (dD x)),.lo [3,4] (.exit 0) (S1 28 [])] (aj6 ht (e1.2 h1) hd (e2.2 Z) hn hL tv)
 ·have J:n<(aV x).length:=by omega
  have hy:=OH J;obtain⟨g1,g2⟩:=f2 (ptE (aV x)[n]) (by rw[OQ,hy];rfl);rw[g2];have hL:=LoopP.each (fun k=>GZ (aV x) k) n (fun k hk h=>go .ret (S1 28 [(2,.p (tI (ptE (aV x)[n])))]) k _ (OH om) (fz k _ hk (OH om)) h)
   (LoopP.stop [bt,.el (pT (aV x)[n]),.ca (tI (ptE (aV x)[n])),bt] [2] [] jS (aj5 (ltM bP J) (elP hy) (k0 n) (a' _ n hy) ((cB (neB (ptE (aV x)[n]) 0)).1 g1) tv))
  exact aq [.sg false [],.ca (tI (bM 64 x)),bf,.ca (tI (ptD x)),bf,.ca (.lst false (dD x)),.lo [3,4] .ret (S1 28 [(2,.p (tI (ptE (aV x)[n])))])] (aj6 ht (e1.2 h1) hd (e2.2 Z) hn hL tv)
theorem Ea(l:List Pt)(I:l.length<=1048576):PuC prog gl 121 [.lst false (l.map bP)] (tB (!(l.any fun y=>decide (8<=y.op)))):=by
 have hL:=LoopP.any (P:=prog) (gl:=gl) (N:=0) (c:=lpb prog 121 [1,0,1,0]) (e:=.exit 0) (τ:=S1 16 []) (e1:=.ret) (τ1:=S1 16 [(2,.p (tB false))]) (fun k=>S1 16 [(0,.p (.lst false (l.map bP))),(3,.p (tI k))]) l (fun y=>decide (8<=y.op))
  (fun k y hy hp e τ h=>by
   rw[show ((k+1:Nat):Int)=IntKind.i64.wrap ((k:Int)+1) from (wr1 (sz hy) om).symm]at h;exact LoopP.next [bt,.el (pT y),bf] [0,3] [] rfl h (aj4 (ltM bP (sz hy)) (elP hy) (k0 k) (show decide (y.op>=8)=false from hp) tv))
  (fun k y hy hp=>LoopP.stop [bt,.el (pT y),bt] [2] [] jS (aj4 (ltM bP (sz hy)) (elP hy) (k0 k) (show decide (y.op>=8)=true from hp) tv))
  (LoopP.stop [bf] [] [] jS (ai (dI bP l) tv))
 cases h:l.any fun y=>decide (8<=y.op) with
 | true=>exact aq [.lo [0,3] .ret (S1 16 [(2,.p (tB false))])] (ai (hL.1 h) tv)
 | false=>exact aq [.lo [0,3] (.exit 0) (S1 16 [])] (ai (hL.2 h) tv)
noncomputable def qk(l:List Pt)(v s k:Int):Sg:=S1 59 [(4,.p (.lst false (l.map bP))),(5,.p (tI v)),(6,.p (tI s)),(7,.p (tI k))]
noncomputable def rW:Code:=lpb prog 63 [1,1,1,1,1,0,1,0]
theorem rchL(l:List Pt)(hl:l.length<=1048576):∀(m k:Nat)(v s:Int),k+m=l.length->0<=v->v<=k->0<=s->s<=k ->
  (cR v s (l.drop k)=true->LoopP prog gl 0 rW (qk l v s k) (.exit 0) (S1 59 []))/\(cR v s (l.drop k)=false->LoopP prog gl 0 rW (qk l v s k) .ret (S1 59 [(2,.p (tI 14))])):=by
 intro m
 induction m with
 | zero =>
  intro k v s hk _ _ _ _;obtain rfl:k=l.length:=by omega
  rw[Qn,cR];exact⟨fun _=>LoopP.stop [bf] [] [] jS (ai (dI bP l) tv),fun h=>by cases h⟩
 | succ m ih =>
  intro k v s hk h' hv g' hs;have c':k<l.length:=by omega
  have hy:=OH c';rw[zt hy];generalize l[k]=y at hy;have c:=ltM bP c';have ce:=elP hy;have I:=k0 k;have J:=AF gl y;have Z:=AZ gl y;have a':=HW gl y;have h:=ih (k+1) (if ee y.op then v+1 else v) (if iq y.op then s+1 else s) om (by split<;>omega) (by split<;>omega) (by split<;>omega) (by split<;>omega);rw[show iq y.op=bif iZ y.op then true else fL y.op by unfold iq iZ;cases decide (y.op=5\/y.op=9)<;>rfl]at h ⊢;have e1:=cB (neB y.vr v);have e2:=cB (neB y.sc s);rw[qk,show ((k+1:Nat):Int)=IntKind.i64.wrap ((k:Int)+1) from (wr1 c' om).symm]at h;have wv:v+1=IntKind.i64.wrap (v+1):=by rw[Pv];omega
  have ws:s+1=IntKind.i64.wrap (s+1):=by rw[Pv];omega
  obtain⟨q,hq⟩:=jE (bif iZ y.op then true else fL y.op);rw[hq]at h ⊢;rw[wv,ws]at h
  cases ht:ee y.op with
  | true =>
   rw[ht]at J h
   by_cases h1:y.vr≠v
   ·rw[show ((!true || decide (y.vr=v))&&(!q || decide (y.sc=s))&&cR (if true=true then v+1 else v) (if q=true then s+1 else s) (List.drop (k+1) l))=false by simp[h1]];exact⟨fun h=>(by cases h),fun _=>LoopP.stop [bt,.el (pT y),.ca (tB true),bt,.el (pT y),bt] [2] [] jS (aj8 c ce I J yT ce I (e1.1 h1) tv)⟩
   have f':y.vr=v:=jQ h1;have p1:=e1.2 h1
   cases q with
   | true =>
    by_cases h2:y.sc≠s
    ·rw[show ((!true || decide (y.vr=v))&&(!true || decide (y.sc=s))&&cR (if true=true then v+1 else v) (if true=true then s+1 else s) (List.drop (k+1) l))=false by simp[h2]];exact⟨fun h=>(by cases h),fun _=>LoopP.stop [bt,.el (pT y),.ca (tB true),bt,.el (pT y),bf,.el (pT y),.ca (tB (iZ y.op)),.el (pT y),.ca (tB (fL y.op)),bt,.el (pT y),bt] [2] [] jS (aj8 c ce I J yT ce I p1 (aj8 ce I Z ce I a' hq ce (aj2 I (e2.1 h2) tv)))⟩
    ·have d':y.sc=s:=jQ h2;rw[show ((!true || decide (y.vr=v))&&(!true || decide (y.sc=s))&&cR (if true=true then v+1 else v) (if true=true then s+1 else s) (List.drop (k+1) l))=cR (if true=true then IntKind.i64.wrap (v+1) else v) (if true=true then IntKind.i64.wrap (s+1) else s) (List.drop (k+1) l) by simp[f',d',<-wv,<-ws]];have go:∀e τ,LoopP prog gl 0 rW (qk l (IntKind.i64.wrap (v+1)) (IntKind.i64.wrap (s+1)) (IntKind.i64.wrap ((k:Int)+1))) e τ->LoopP prog gl 0 rW (qk l v s k) e τ:=fun e τ h=>LoopP.next [bt,.el (pT y),.ca (tB true),bt,.el (pT y),bf,.el (pT y),.ca (tB (iZ y.op)),.el (pT y),.ca (tB (fL y.op)),bt,.el (pT y),bf] [4,5,6,7] [] rfl h (aj8 c ce I J yT ce I p1 (aj8 ce I Z ce I a' hq ce (aj2 I (e2.2 h2) tv)))
     exact⟨fun e=>go _ _ (h.1 e),fun e=>go _ _ (h.2 e)⟩
   | false =>
    rw[show ((!true || decide (y.vr=v))&&(!false || decide (y.sc=s))&&cR (if true=true then v+1 else v) (if false=true then s+1 else s) (List.drop (k+1) l))=cR (if true=true then IntKind.i64.wrap (v+1) else v) (if false=true then IntKind.i64.wrap (s+1) else s) (List.drop (k+1) l) by simp[f',<-wv]];have go:∀e τ,LoopP prog gl 0 rW (qk l (IntKind.i64.wrap (v+1)) s (IntKind.i64.wrap ((k:Int)+1))) e τ->LoopP prog gl 0 rW (qk l v s k) e τ:=fun e τ h=>LoopP.next [bt,.el (pT y),.ca (tB true),bt,.el (pT y),bf,.el (pT y),.ca (tB (iZ y.op)),.el (pT y),.ca (tB (fL y.op)),bf] [4,5,6,7] [] rfl h (aj8 c ce I J yT ce I p1 (aj7 ce I Z ce I a' hq tv))
    exact⟨fun e=>go _ _ (h.1 e),fun e=>go _ _ (h.2 e)⟩
  | false =>
   rw[ht]at J h
   cases q with
   | true =>
    by_cases h2:y.sc≠s
    ·rw[show ((!false || decide (y.vr=v))&&(!true || decide (y.sc=s))&&cR (if false=true then v+1 else v) (if true=true then s+1 else s) (List.drop (k+1) l))=false by simp[h2]];exact⟨fun h=>(by cases h),fun _=>LoopP.stop [bt,.el (pT y),.ca (tB false),bf,.el (pT y),.ca (tB (iZ y.op)),.el (pT y),.ca (tB (fL y.op)),bt,.el (pT y),bt] [2] [] jS (aj8 c ce I J yF ce I Z (aj7 ce I a' hq ce I (e2.1 h2) tv))⟩
    ·have d':y.sc=s:=jQ h2;rw[show ((!false || decide (y.vr=v))&&(!true || decide (y.sc=s))&&cR (if false=true then v+1 else v) (if true=true then s+1 else s) (List.drop (k+1) l))=cR (if false=true then IntKind.i64.wrap (v+1) else v) (if true=true then IntKind.i64.wrap (s+1) else s) (List.drop (k+1) l) by simp[d',<-ws]];have go:∀e τ,LoopP prog gl 0 rW (qk l v (IntKind.i64.wrap (s+1)) (IntKind.i64.wrap ((k:Int)+1))) e τ->LoopP prog gl 0 rW (qk l v s k) e τ:=fun e τ h=>LoopP.next [bt,.el (pT y),.ca (tB false),bf,.el (pT y),.ca (tB (iZ y.op)),.el (pT y),.ca (tB (fL y.op)),bt,.el (pT y),bf] [4,5,6,7] [] rfl h (aj8 c ce I J yF ce I Z (aj7 ce I a' hq ce I (e2.2 h2) tv))
     exact⟨fun e=>go _ _ (h.1 e),fun e=>go _ _ (h.2 e)⟩
   | false =>
    rw[show ((!false || decide (y.vr=v))&&(!false || decide (y.sc=s))&&cR (if false=true then v+1 else v) (if false=true then s+1 else s) (List.drop (k+1) l))=cR (if false=true then IntKind.i64.wrap (v+1) else v) (if false=true then IntKind.i64.wrap (s+1) else s) (List.drop (k+1) l) by simp];have go:∀e τ,LoopP prog gl 0 rW (qk l v s (IntKind.i64.wrap ((k:Int)+1))) e τ->LoopP prog gl 0 rW (qk l v s k) e τ:=fun e τ h=>LoopP.next [bt,.el (pT y),.ca (tB false),bf,.el (pT y),.ca (tB (iZ y.op)),.el (pT y),.ca (tB (fL y.op)),bf] [4,5,6,7] [] rfl h (aj8 c ce I J yF ce I Z (aj4 ce I a' hq tv))
    exact⟨fun e=>go _ _ (h.1 e),fun e=>go _ _ (h.2 e)⟩
theorem EL(x:Pt)(hN:ptB x<=1048576):PuC prog gl 63 [pT x] (tI (fx x)):=by
 have I:=iL x;have h:(aV x).length<=1048576:=by rw[gm];omega
 have hr:=G7 gl x hN;have Z:=nJ gl _ x (OP I hN) (OI _);have hp:=Ea gl (aV x) h;have e1:=cB (neB (dB x) 0);unfold fx
 by_cases h1:dB x≠0
 ·rw[OG h1];exact aq [.sg false [],.ca (tI (dB x)),bt] (aj2 hr (e1.1 h1) tv)
 rw[OF h1];have J:=e1.2 h1
 cases h2:(aV x).any fun y=>decide (8<=y.op) with
 | true=>rw[h2]at hp;exact aq [.sg false [],.ca (tI (dB x)),bf,.ca (.lst false (dD x)),.ca (tB false),bt] (aj5 hr J Z hp yT tv)
 | false =>
  rw[h2]at hp;have hL:=rchL gl (aV x) h (aV x).length 0 0 0 om om om om om;rw[PN]at hL
  cases h3:cR 0 0 (aV x) with
  | true=>exact aq [.sg false [],.ca (tI (dB x)),bf,.ca (.lst false (dD x)),.ca (tB true),bf,.lo [4,5,6,7] (.exit 0) (S1 59 [])] (aj6 hr J Z hp yF (hL.1 h3) tv)
  | false=>exact aq [.sg false [],.ca (tI (dB x)),bf,.ca (.lst false (dD x)),.ca (tB true),bf,.lo [4,5,6,7] .ret (S1 59 [(2,.p (tI 14))])] (aj6 hr J Z hp yF (hL.2 h3) tv)
theorem Kg(x:Ex)(I:aC x<=1048576):PuC prog gl 100 [exT x (aD x.args)] (tB (rV x)):=by
 have J:=uY gl 200 x I;have h:=uV gl x I;rw[ir]at J h;exact fN [.sg false [],.ca (tI (cS 200 x)),.ca (tI (bD x))] (aj3 (congrArg tB (show (bif decide ((cS 200 x:Nat)<=(200:Int)) then decide ((bD x:Nat)<=(100:Int)) else false)=rV x by
  unfold rV;have:=rQ 200 x;rw[show decide ((cS 200 x:Nat)<=(200:Int))=decide (aC x<=200) from decide_eq_decide.2 om,show decide ((bD x:Nat)<=(100:Int))=decide (bD x<=100) from decide_eq_decide.2 om]
  cases decide (aC x<=200)<;>rfl)) J h tv)
theorem KT(x:Pt)(hN:ptB x<=1048576):PuC prog gl 45 [pT x] (tB (wi x)):=by
 have I:=iL x;have a':(aV x).length<=1048576:=by rw[gm];omega
 have ht:=zF gl 150 _ x (OP I hN) (OI _);have Z:=sR gl _ x (OP I hN) (OI _);have hn:=nJ gl _ x (OP I hN) (OI _);have e1:=cB (c:=bif decide ((bM 150 x:Nat) > (150:Int)) then true else decide ((ptD x:Nat) > (60:Int))) (p:=150<ptN x\/60<ptD x) (by rw[orB];have:=qI 150 x;exact decide_eq_decide.2 om)
 by_cases h1:150<ptN x\/60<ptD x
 ·rw[show wi x=false by unfold wi;rcases h1 with h|h<;>simp<;>omega];exact aq [.sg false [],.ca (tI (bM 150 x)),.ca (tI (ptD x)),bt] (aj3 ht Z (e1.1 h1) tv)
 rw[show wi x=!((aV x).any fun y=>!(rV y.cond)) by unfold wi;rw[O3 om,O3 om,QQ,QQ];simp[List.all_eq_not_any_not]];have hx:∀(k:Nat)(y:Pt),(aV x)[k]?=some y->PuC prog gl 100 [exT y.cond (aD y.cond.args)] (tB (rV y.cond)):=fun k y hy=>by
  have:=mP x y (Pb hy);have:=mD y;exact Kg gl y.cond om
 have hL:=LoopP.any (P:=prog) (gl:=gl) (N:=0) (c:=lpb prog 45 [1,1,1,0,1,0]) (e:=.exit 0) (τ:=S1 28 []) (e1:=.ret) (τ1:=S1 28 [(2,.p (tB false))]) (fun k=>GZ (aV x) k) (aV x) (fun y=>!(rV y.cond))
  (fun k y hy hp e τ h=>by
   have J:=hx k y hy;rw[show rV y.cond=true by simpa using hp]at J;rw[show ((k+1:Nat):Int)=IntKind.i64.wrap ((k:Int)+1) from (wr1 (sz hy) om).symm]at h;exact LoopP.next [bt,.el (pT y),.ca (tB true),bf] [3,4] [] rfl h (aj5 (ltM bP (sz hy)) (elP hy) (k0 k) J yF tv))
  (fun k y hy hp=>by
   have J:=hx k y hy;rw[show rV y.cond=false by simpa using hp]at J;exact LoopP.stop [bt,.el (pT y),.ca (tB false),bt] [2] [] jS (aj5 (ltM bP (sz hy)) (elP hy) (k0 k) J yT tv))
  (LoopP.stop [bf] [] [] jS (ai (dI bP (aV x)) tv))
 have p1:=e1.2 h1
 cases h2:(aV x).any fun y=>!(rV y.cond) with
 | true=>exact aq [.sg false [],.ca (tI (bM 150 x)),.ca (tI (ptD x)),bf,.ca (.lst false (dD x)),.lo [3,4] .ret (S1 28 [(2,.p (tB false))])] (aj5 ht Z p1 hn (hL.1 h2) tv)
 | false=>exact aq [.sg false [],.ca (tI (bM 150 x)),.ca (tI (ptD x)),bf,.ca (.lst false (dD x)),.lo [3,4] (.exit 0) (S1 28 [])] (aj5 ht Z p1 hn (hL.2 h2) tv)
end
end
theorem Ln(h:Shp w):GOk glP (fW w) w:=fun g cs J=>by
 unfold glP at J
 split at J
 ·cases J
  have hk:∀e∈(List.range 11).map fun k=>Tr.agg ((lA k).map .at),e.cells.length=6:=fun e he=>by
   obtain⟨k,-,rfl⟩:=List.mem_map.1 he;simp only[Tr.cells,OL];unfold lA
   split<;>rfl
  have key:∀(j:Nat)(t:Tr),wu[j]?=some t->∃u,t=.at u/\w.cell? ⟨0,j,none⟩=some u:=fun j t I=>by
   have Z:j<66:=(List.getElem?_eq_some_iff.1 I).1;have hr:=h (j / 6) om (j%6);have e:j / 6*6+j%6=j:=by omega
   rw[e]at hr;have hl:j%6<(Tr.agg ((lA (j / 6)).map .at)).cells.length:=by rw[hk _ (List.mem_map.2 ⟨j / 6,by simp;omega,rfl⟩)];omega
   have:=gX (o:=j%6) hk (i:=j / 6) (e:=.agg ((lA (j / 6)).map .at)) (by rw[OQ,RL om];rfl) (OH hl);rw[e]at this;unfold wu at I;rw[this]at I
   cases I
   have a':j%6<(lA (j / 6)).length:=by simpa [Tr.cells] using hl
   exact⟨(lA (j / 6))[j%6],by simp[Tr.cells],hr _ (OH a')⟩
  refine .elp _ _ 0 (fun j=>(w.cell? ⟨0,j,none⟩).getD undef) (fun t I=>?_) (fun j Z=>?_) (fun j t I=>?_)
  ·obtain⟨j,Z⟩:=List.mem_iff_getElem?.1 I;have c':j<66:=(List.getElem?_eq_some_iff.1 Z).1;have:∀t∈wu,t.cell=true:=by decide
   exact this t I
  ·obtain⟨u,-,hu⟩:=key j _ (OH Z);rw[Pd,hu];exact⟨rfl,ut hu⟩
  ·obtain⟨u,rfl,hu⟩:=key j t I;rw[hu];exact .at _
 ·cases J
theorem IP(h:PuC prog glP f ts (.at x))(J:Shp w)(I:Rps (fW w) w ts vs):Calls prog f vs.toArray w fun e w'=>e=.returned x/\OD w w':=by
 refine (h (fW w) w vs I (Ln J)).mono ?_;rintro e w' ⟨u,F',rfl,Z,-,hr⟩
 cases hr
 exact⟨rfl,Z⟩
theorem Hc{d e:Nat}{x:Pt}{v vc:Value}(h:dg d w v x.args)(I:bZ e w vc x.cond.args):Rps (fW w) w [pT x] [ptV x v vc]:=by
 have:=L5 h I;rw[oI]at this;exact eW this BO
theorem pL(d:Nat)(x:Pt)(v vc:Value)(w:World)(I:Shp w)(Z:dg d w v x.args)(h:bZ d w vc x.cond.args)(J:ptB x<=1048576) :
  OE 52 #[ptV x v vc] w (OB (fx x)):=IP (vs:=[_]) (ER x J) I (Hc Z h)
theorem ye(d:Nat)(x:Pt)(v vc:Value)(w:World)(J:dg d w v x.args)(h:bZ d w vc x.cond.args)(I:ptB x<=1048576) :
  OE 63 #[ptV x v vc] w (OB (fx x)):=mU (vs:=[_]) (EL _ x I) (Hc J h)
theorem D6(d:Nat)(x:Pt)(v vc:Value)(w:World)(J:dg d w v x.args)(h:bZ d w vc x.cond.args)(I:ptB x<=1048576) :
  OE 45 #[ptV x v vc] w (.bool (wi x)):=mU (vs:=[_]) (KT _ x I) (Hc J h)
section
abbrev scF(l:List Evt):Tr:=.elp [bE l,tB false]
abbrev unT:V:=.p (.tup [])
theorem NH(l:List Evt)(F:Nat->Nat)(w:World)(v:Value)(h:Rp F w (scF l) v):Rp F w (scT l) v:=by
 cases h with
 | elp _ A o g hc Z h =>
  refine .elp _ A o g (fun t I=>hc t (by simp only[QA]at I;subst I;simp)) (fun j J=>Z j (by simp at J ⊢;omega)) (fun j t I=>?_)
  cases j with
  | zero=>cases I;exact h 0 _ rfl
  | succ j=>simp at I
theorem PuC.sc(h:PuC P gl f (scT l::ts) r):PuC P gl f (scF l::ts) r:=PuC.arg (a:=[]) h (NH l)
theorem fm1(f:α->Tr)(L:List α):(L.flatMap fun s=>[f s])=L.map f:=by induction L<;>simp[*]
theorem sK(p:α->Bool)(f:α->β)(l:List α):(l.filter p).map f=l.flatMap fun a=>if p a=true then [f a] else []:=by
 induction l with
 | nil=>rfl
 | cons a l I=>by_cases h:p a=true<;>simp[h,I]
theorem IC(g:Nat->List β){n:Nat}(I:i<=n)(h:∀k,k<i->g k=[]):(List.range n).flatMap g=(List.range (n-i)).flatMap fun k=>g (i+k):=by
 obtain⟨m,rfl⟩:=Nat.exists_eq_add_of_le I;rw[List.range_add,QD,R5,Nat.add_sub_cancel_left,List.flatMap_eq_nil_iff.2 (fun k hk=>h k (List.mem_range.1 hk)),Ry]
section
variable (gl : Nat -> Option (List Tr))
noncomputable def vaF(a:Nat)(L:List Bs)(k:Int):Fr:=⟨16,[(0,.p (yTr a)),(5,.p (aL L)),(6,.p (tI ((L.map bsT).length:Nat))),(7,.p (tI k))],none,[]⟩
theorem Hu(L:List Bs)(hL:L.length<=1048576):SeqA prog gl 343 [] [.elp [aL L]] (L.map bsT) unT []:=fun c p hp hf=>by
 rw[<-fm1]at hp hf ⊢;have I:=LA (P:=prog) (gl:=gl) (c:=c) (p:=p) (cd:=lpb prog 343 [1,0]) (e:=.exit 0) (f1:=⟨16,[],none,[]⟩) L (fun s=>[bsT s]) (fun j=>vaF c.a L j)
  (fun j s q hs hq hf e τ h=>by
   rw[show ((j+1:Nat):Int)=IntKind.i64.wrap ((j:Int)+1) from (wr1 (sz hs) om).symm]at h;exact LoopP.next [bt,.el (bsT s),.yi true (c.O (q+1)) c.X,bf] [0,5,6,7] [] rfl h (aj5 (ltM bsT (sz hs)) (elM bsT hs) (k0 j) (hf.yt hq) yF tv))
  (fun q=>LoopP.stop [bf] [] [] jS (ai (dI bsT L) tv)) hp hf
 exact fC [.lo [0,5,6,7] (.exit 0) ⟨c.O (p+(L.flatMap fun s=>[bsT s]).length),⟨16,[],none,[]⟩::c.K,c.X⟩] (ai I tv)
theorem Fo(L:List Bs):PuC prog gl 307 [aL L] (.fn (.func 343) [] [.elp [aL L]]):=aq [.sg false []] trivial
def zU(g:FuncId)(l:List Evt)(x:Pt)(b:Bs)(i:Nat):Prop:=∃h vs z,wC prog h=true/\PuC prog gl g [scF l,pT x,bsT b,tI i] (.fn (.func h) [] vs)/\SeqA prog gl h [] vs ((io l x b i).map bsT) unT z
def BL(l:List Evt)(x:Pt)(b:Bs)(i:Nat):Prop:=PuC prog gl 107 [scF l,pT x,bsT b,tI i] (aL (aU l x b i))/\(aU l x b i).length<=1048576
def mN(l:List Evt)(x:Pt):Prop:=∀b i,BOk i b->i<=l.length->BL gl l x b i
noncomputable def wevF(a:Nat)(l:List Evt)(x:Pt)(b:Bs)(k:Int):Fr:=⟨48,[(0,.p (yTr a)),(2,.p (.elp [scF l])),(3,.p (.elp (pT x).cells)),(4,.p (.elp [bsT b])),(6,.p (tI k))],none,[]⟩
theorem I8(l:List Evt)(x:Pt)(b:Bs)(i:Nat)(a':x.op=0)(hB:BOk i b)(hi:i<=l.length)(f':l.length<=4096)(hN:aC x.cond<=1048576):zU gl 248 l x b i:=by
 refine⟨305,_,[],by kernel_rfl,aq (r:=.fn (.func 305) [] [.elp [tI i],.elp [scF l],.elp (pT x).cells,.elp [bsT b]]) [.sg false []] trivial,fun c p hp hf=>?_⟩;have d':=hB.len;have J:∀x∈b,(0<=x.1/\x.1<16)/\x.2<l.length:=fun x hx=>⟨(hB.ok x hx).1,by have:=(hB.ok x hx).2;omega⟩
 obtain⟨C,hC⟩:∃C:Nat->Bool,C=fun k=>(l[i+k]?.map fun e=>decide (e.ty=x.ty)&&cg (dy l b (i+k)) x.vr e x.cond).getD false:=⟨_,rfl⟩
 have hE:(io l x b i).map bsT=(List.range (l.length-i)).flatMap fun k=>if C k=true then [bsT [(x.vr,i+k)]] else []:=by
  unfold io em;rw[OG a',PZ,sK,IC _ hi (fun k hk=>by rw[OF];simp;omega),hC];simp
 rw[hE]at hp hf ⊢;have c':∀j x',(List.range (l.length-i))[j]?=some x'->j=x'/\∃y,l[i+j]?=some y/\decide (((i+j:Nat):Int)<((l.map evT).length:Nat))=true/\(l.map evT)[(((i+j:Nat):Int)).toNat]?=some (evT y) /\
   PuC prog gl 306 [scF l,exT x.cond (aD x.cond.args),bsT b,tI x.vr,tI (i+j:Nat)] (tB (cg (dy l b (i+j)) x.vr y x.cond))/\((i+(j+1):Nat):Int)=IntKind.i64.wrap (((i+j:Nat):Int)+1):=fun j x' hj=>by
  obtain⟨h1,h2⟩:=List.getElem?_eq_some_iff.1 hj;simp only[QE,Sd]at h1 h2;have hk:i+j<l.length:=by omega
  have hy:=OH hk;exact⟨h2,_,hy,ltM evT hk,elM evT hy,(we gl l b (i+j) _ x.vr x.cond hy om J hN).sc,(wr1 hk om).symm⟩
 have hl:=LA (P:=prog) (gl:=gl) (c:=c) (p:=p) (cd:=lpb prog 305 [1,0]) (e:=.exit 0) (f1:=⟨48,[],none,[]⟩) (List.range (l.length-i)) (fun k=>if C k=true then [bsT [(x.vr,i+k)]] else []) (fun j=>wevF c.a l x b (i+j:Nat))
  (fun j k q hj hq hf e τ h=>by
   obtain⟨rfl,y,hy,f1,f2,f3,f4⟩:=c' j k hj;rw[f4]at h;have I:C j=(decide (y.ty=x.ty)&&cg (dy l b (i+j)) x.vr y x.cond):=by rw[hC];simp only[hy];rfl
   by_cases Z:y.ty=x.ty
   ·have g1:(y.ty==x.ty)=true:=jQ Z
    cases hr:cg (dy l b (i+j)) x.vr y x.cond with
    | true =>
     rw[hr]at f3;rw[OG (by rw[I,hr];simpa using Z)]at hq hf h;exact LoopP.next [bt,.el (evT y),bt,.ca (tB true),bt,bt,.yi true (c.O (q+1)) c.X,bt,bf] [0,2,3,4,6] [] rfl h (aj8 f1 f2 (k0 (i+j)) g1 f3 yT yT (hf.yt hq) (aj2 yT yF tv))
    | false =>
     rw[hr]at f3;rw[OF (by rw[I,hr];simp)]at h;exact LoopP.next [bt,.el (evT y),bt,.ca (tB false),bt,bf,bf,bf] [0,2,3,4,6] [] rfl h (aj8 f1 f2 (k0 (i+j)) g1 f3 yT yF yF (ai yF tv))
   ·rw[OF (by rw[I];simp[Z])]at h;exact LoopP.next [bt,.el (evT y),bf,bf,bf,bf,bf] [0,2,3,4,6] [] rfl h (aj8 f1 f2 (k0 (i+j)) (show (y.ty==x.ty)=false from jQ Z) yF yF yF yF tv))
  (fun q=>LoopP.stop [bf] [] [] jS (ai (show decide (((i+(List.range (l.length-i)).length:Nat):Int)<((l.map evT).length:Nat))=false by simp;omega) tv)) hp hf
 exact fC [.lo [0,2,3,4,6] (.exit 0) ⟨c.O (p+((List.range (l.length-i)).flatMap fun k=>if C k=true then [bsT [(x.vr,i+k)]] else []).length),⟨48,[],none,[]⟩::c.K,c.X⟩] (ai hl tv)
abbrev waS(a:Nat)(l:List Evt)(b:Bs)(i:Int)(ar:List Pt)(k:Int):List (Nat × V):=[(0,.p (yTr a)),(2,.p (.elp [scF l])),(3,.p (.elp [bsT b])),(4,.p (.elp [tI i])),(11,.p (.lst false (ar.map bP))),(12,.p (tI ((ar.map bP).length:Nat))),(13,.p (tI k))]
noncomputable def waF(a:Nat)(l:List Evt)(b:Bs)(i:Int)(ar:List Pt)(k:Int):Fr:=⟨33,waS a l b i ar k,none,[]⟩
noncomputable def waG(a:Nat)(l:List Evt)(b:Bs)(i:Int)(ar:List Pt)(k:Int)(S:List Bs)(j:Int):Fr:=⟨33,waS a l b i ar k++[(21,.p (aL S)),(22,.p (tI ((S.map bsT).length:Nat))),(23,.p (tI j))],none,[]⟩
theorem alt_q(l:List Evt)(x:Pt)(b:Bs)(i:Nat)(Z:x.op=2)(hB:BOk i b)(hi:i<=l.length)(hA:∀a∈x.args,mN gl l a)(c':x.args.length<=1048576):zU gl 250 l x b i:=by
 refine⟨310,_,[],by kernel_rfl,aq (r:=.fn (.func 310) [] [.elp (pT x).cells,.elp [scF l],.elp [bsT b],.elp [tI i]]) [.sg false []] trivial,fun c p hp hf=>?_⟩;have hE:(io l x b i).map bsT=x.args.flatMap fun a=>(aU l a b i).map bsT:=by
  unfold io;rw[OF om,OF om,OG Z,List.map_flatMap]
 rw[hE]at hp hf ⊢;have I:∀(k:Int)(S:List Bs)(q:Nat),S.length<=1048576->q+(S.map bsT).length<=c.n->Feeds prog gl c q (S.map bsT)->_:=fun k S q hS hq hf =>
  LA (P:=prog) (gl:=gl) (c:=c) (p:=q) (cd:=lpb prog 310 [1,0,0,1,1,0,0,1,1,0]) (e:=.exit 2) (f1:=waF c.a l b i x.args k) S (fun s=>[bsT s]) (fun j=>waG c.a l b i x.args k S j)
  (fun j s q hs hq hf e τ h=>by
   rw[show ((j+1:Nat):Int)=IntKind.i64.wrap ((j:Int)+1) from (wr1 (sz hs) om).symm]at h;exact LoopP.next [bt,.el (bsT s),.yi true (c.O (q+1)) c.X,bf] [0,2,3,4,11,12,13,21,22,23] [] rfl h (aj5 (ltM bsT (sz hs)) (elM bsT hs) (k0 j) (hf.yt hq) yF tv))
  (fun q=>LoopP.stop [bf] [0,2,3,4,11,12,13] [] jS (ai (dI bsT S) tv)) (by rw[fm1];exact hq) (by rw[fm1];exact hf)
 simp only[fm1]at I;have hl:=LA (P:=prog) (gl:=gl) (c:=c) (p:=p) (cd:=lpb prog 310 [1,0]) (e:=.exit 0) (f1:=⟨33,[],none,[]⟩) x.args (fun a=>(aU l a b i).map bsT) (fun j=>waF c.a l b i x.args j)
  (fun j a q J hq hf e τ h=>by
   obtain⟨hs,a'⟩:=hA a (Pb J) b i hB hi;rw[show ((j+1:Nat):Int)=IntKind.i64.wrap ((j:Int)+1) from (wr1 (sz J) om).symm]at h;exact LoopP.next [bt,.sg false [.el (pT a)],.ca (aL (aU l a b i)),.lo [0,2,3,4,11,12,13,21,22,23] (.exit 2) ⟨c.O (q+((aU l a b i).map bsT).length),waF c.a l b i x.args j::c.K,c.X⟩] [0,2,3,4,11,12,13] [] rfl h
    (aj5 (ltM bP (sz J)) (elP J) (k0 j) hs (I j (aU l a b i) q a' hq hf) tv))
  (fun q=>LoopP.stop [bf] [] [] jS (ai (dI bP x.args) tv)) hp hf
 exact fC [.lo [0,2,3,4,11,12,13] (.exit 0) ⟨c.O (p+(x.args.flatMap fun a=>(aU l a b i).map bsT).length),⟨33,[],none,[]⟩::c.K,c.X⟩] (ai hl tv)
theorem KD{V:List Int}(hBd:cX V l.length)(x:Pt){b s:Bs}(J:BOk i b)(h:SetV V i l.length s)(hN:aC x.cond<=1048576)(I:x.op=5\/x.op=6\/x.op=7) :
  PuC prog gl 316 [scF l,pT x,bsT b,bsT s] (tB (cL l x.op x.ty x.vr x.sp x.cond b s)):=by
 have h1:=hBd.len;have Z:=J.len;have h3:=h.n63;have h4:=h.ok.last;have hm:=h.merge J hBd;obtain⟨z0,h0,hle⟩:=xt h.ok;have hi:i<=z0.2:=(h.ok.2.2 z0 (List.mem_of_mem_head? h0)).1;have hj:=Bp gl b s J.asc h.ok.2.1 (fun y hy z hz=>by have h1:=(J.ok y hy).2;have Z:=(h.ok.2.2 z hz).1;omega) h.ok.1 (fun y hy=>by
  rcases List.mem_append.1 hy with hy|hy
  ·have:=(J.ok y hy).2;omega
  ·have:=(h.ok.2.2 y hy).2;omega) om
 have hp:=G3 gl x l b s z0 h0 h.ok.1 hle om om om (fun y hy=>⟨(hm.ok y hy).1,by have:=(hm.ok y hy).2;omega⟩) hN hj I;rw[dL]at hp;exact hp.sc
noncomputable def wsF(a:Nat)(l:List Evt)(x:Pt)(b:Bs)(S:List Bs)(k:Int):Fr:=⟨33,[(0,.p (yTr a)),(1,.p (.elp [scF l])),(2,.p (.elp (pT x).cells)),(3,.p (.elp [bsT b])),(15,.p (aL S)),(16,.p (tI ((S.map bsT).length:Nat))),(17,.p (tI k))],none,[]⟩
theorem Am(V:List Int)(l:List Evt)(x:Pt)(b:Bs)(i:Nat)(hG:GoodQ V l.length x)(hBd:cX V l.length)(a':x.op=5\/x.op=6\/x.op=7)(hB:BOk i b)(hi:i<=l.length)(hA:∀a∈x.args,mN gl l a):zU gl 253 l x b i:=by
 refine⟨315,_,[],by kernel_rfl,aq (r:=.fn (.func 315) [] [.elp [scF l],.elp (pT x).cells,.elp [bsT b],.elp [tI i]]) [.sg false []] trivial,fun c p hp hf=>?_⟩;obtain⟨a,r,J⟩:∃a r,x.args=a::r:=by
  cases h:x.args with
  | nil=>rcases hG.good.self.1 with h0|h0|h0<;>first|omega|exact absurd h h0
  | cons a r=>exact⟨a,r,rfl⟩
 have Z:a∈x.args:=by rw[J];simp
 obtain⟨hs,c'⟩:=hA a Z b i hB hi;have hE:(io l x b i).map bsT=(aU l a b i).flatMap fun s=>if cL l x.op x.ty x.vr x.sp x.cond b s=true then [bsT s] else []:=by
  unfold io;rw[OF om,OF om,OF om,OF om,J];simp only[];rw[OF om,sK]
 rw[hE]at hp hf ⊢;have hk:∀(s:Bs),s∈aU l a b i->_:=fun s hs=>KD gl hBd x hB (dQ (hG.arg Z) hs) hG.good.self.2 a'
 generalize aU l a b i=S at *;have hl:=LA (P:=prog) (gl:=gl) (c:=c) (p:=p) (cd:=lpb prog 315 [1,0]) (e:=.exit 0) (f1:=⟨33,[],none,[]⟩) S (fun s=>if cL l x.op x.ty x.vr x.sp x.cond b s=true then [bsT s] else []) (fun j=>wsF c.a l x b S j)
  (fun j s q hs hq hf e τ h=>by
   rw[show ((j+1:Nat):Int)=IntKind.i64.wrap ((j:Int)+1) from (wr1 (sz hs) om).symm]at h;have I:=hk s (Pb hs)
   cases hc:cL l x.op x.ty x.vr x.sp x.cond b s with
   | true =>
    rw[hc]at I;rw[OG hc]at hq hf h;exact LoopP.next [bt,.el (bsT s),.ca (tB true),bt,bt,bt,.yi true (c.O (q+1)) c.X,bt,bt,bf] [0,1,2,3,15,16,17] [] rfl h (aj8 (ltM bsT (sz hs)) (elM bsT hs) (k0 j) I yT yT yT (hf.yt hq) (aj3 yT yT yF tv))
   | false =>
    rw[hc]at I;rw[OF (by simp[hc])]at h;exact LoopP.next [bt,.el (bsT s),.ca (tB false),bf,bf,bf,bf,bf,bf] [0,1,2,3,15,16,17] [] rfl h (aj8 (ltM bsT (sz hs)) (elM bsT hs) (k0 j) I yF yF yF yF (aj2 yF yF tv)))
  (fun q=>LoopP.stop [bf] [] [] jS (ai (dI bsT S) tv)) hp hf
 have h0:(x.args.map bP)[(0:Int).toNat]?=some (pT a):=by rw[J];simp[oI]
 exact fC [.el (pT a),.ca (aL S),.lo [0,1,2,3,15,16,17] (.exit 0) ⟨c.O (p+(S.flatMap fun s=>if cL l x.op x.ty x.vr x.sp x.cond b s=true then [bsT s] else []).length),⟨33,[],none,[]⟩::c.K,c.X⟩] (aj4 h0 i0 hs hl tv)
end
end
end Go.Proofs.YteemngnialjaiaaGreatDoor
