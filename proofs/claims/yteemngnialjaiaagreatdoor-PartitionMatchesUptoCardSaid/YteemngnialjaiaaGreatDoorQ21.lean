/- Part. -/
import Derived.Test.YteemngnialjaiaaGreatDoorQ20
import Derived.Test.YteemngnialjaiaaGreatDoorQ12
set_option maxRecDepth 100000
set_option maxHeartbeats 16000000
set_option linter.unusedVariables false
set_option linter.unusedSimpArgs false
namespace Go.Proofs.YteemngnialjaiaaGreatDoor
open Go.Proofs.Tryz Go.RowKit
variable {P:Program}{gl:Nat->Option (List Tr)}{c:Code}{e:Exit}{A p:Prop}{ts:List Tr}{l:List Tn}{f:FuncId}{k:Int}{w:World}{u v x:Value}{α:Type}{d:Nat}{F:Nat->Nat}{t:Tr}{vs:List Value}
section
def ur:Code->List Nat->Code
 | c,[]=>c
 | .seq x y,i::l=>match i with|0=>ur x l|_=>ur y l
 | .cond _ x y,i::l=>match i with|0=>ur x l|_=>ur y l
 | .block _ c,_::l=>ur c l
 | .loop c,_::l=>ur c l
 | .rangeFunc _ _ x y,i::l=>match i with|0=>ur x l|_=>ur y l
 | _,_=>.skip
def atc(P:Program)(f:FuncId)(l:List Nat):Code:=match P.funcs[f]? with
 | some fn=>match fn.body with
  | some c=>ur c l
  | none=>.skip
 | none=>.skip
def lpb(P:Program)(f:FuncId)(l:List Nat):Code:=atc P f (l++[0])
section
variable {σ σ' τ:Sg}{n N:Nat}
def Sg.cut(σ:Sg)(ts os:List Nat):Sg:=⟨match os with|[]=>σ.obs|_=>σ.obs.filter fun x=>os.contains x.1,(σ.only ts).stk,σ.lps⟩
theorem Oz(ts os:List Nat):Le (σ.cut ts os) σ:=by
 have h:=vE (σ:=σ) ts;refine⟨fun n x I=>?_,h.2.1,rfl,h.2.2.2⟩
 cases os with
 | nil=>exact I
 | cons o os =>
 have I:gt (σ.obs.filter fun x=>(o::os).contains x.1) n=some x:=I;rw[gH (fun n=>(o::os).contains n)]at I
 split at I
 ·exact I
 ·cases I
def Sg.ct(σ:Sg)(ts os:List Nat)(l:List Tn):Sg:=(σ.cut ts os).tns l
theorem Cv.ct{ts os:List Nat}(h:(l.all (Tn.ok N)&&(Nat.beq N 0 || decide (N<=nx (σ.cut ts os).obs)))=true):Cv gl N σ (σ.ct ts os l):=by
 rw[ON,Pi,OW]at h;refine (Cv.le (Oz ts os) ?_).trans (.tns h.1);rcases h.2 with h|h
 ·rw[R4 h];exact OO _
 ·exact h
def bdS(P:Program)(gl:Nat->Option (List Tr))(n N:Nat)(c:Code)(σ:Sg)(ds:List Ch)(ts os:List Nat)(l:List Tn)(σ':Sg):Prop :=
 match uy P gl n N c σ ds with
 | some (ps,_,.normal,τ)=>match l.all (Tn.ok N)&&(Nat.beq N 0 || decide (N<=nx (τ.cut ts os).obs)) with
  | true=>τ.ct ts os l=σ'/\alP ps
  | false=>False
 | _=>False
def bxS(P:Program)(gl:Nat->Option (List Tr))(n N:Nat)(c:Code)(σ:Sg)(ds:List Ch)(ts os:List Nat)(l:List Tn)(e:Exit)(τ:Sg):Prop :=
 match uy P gl n N c σ ds with
 | some (ps,_,e',τ')=>match l.all (Tn.ok N)&&(Nat.beq N 0 || decide (N<=nx (τ'.cut ts os).obs)) with
  | true=>e'=e/\τ'.ct ts os l=τ/\alP ps
  | false=>False
 | none=>False
theorem LoopP.next(ds:List Ch)(ts os:List Nat){σ2:Sg}(hs:σ'=σ2)(J:LoopP P gl N c σ2 e τ)(h:A)(l:List Tn:=[])(n:Nat:=300)(eq:(σ'=σ'/\A)=bdS P gl n N c σ ds ts os l σ':=by kernel_rfl)(hm:P.follows .mixedOrders=true:=by kernel_rfl):LoopP P gl N c σ e τ:=by
 have h:bdS P gl n N c σ ds ts os l σ':=eq.mp ⟨rfl,h⟩;unfold bdS at h
 split at h
 ·rename_i ps Z τ1 he
  split at h
  ·rename_i I
   refine LWN.round ((((iy hm n).1 _ _ _ _ _ _ _ _ he h.2).post (.ct I)).mono ?_);rintro e' τ' ⟨rfl,rfl⟩;show LWN P gl N c _ _;rw[h.1,hs];exact J
  ·exact h.elim
 ·exact h.elim
theorem LoopP.stop(ds:List Ch)(ts os:List Nat)(he:e≠.normal)(h:A)(l:List Tn:=[])(n:Nat:=300)(eq:(e=e/\τ=τ/\A)=bxS P gl n N c σ ds ts os l e τ:=by kernel_rfl)(hm:P.follows .mixedOrders=true:=by kernel_rfl):LoopP P gl N c σ e τ:=by
 have h:bxS P gl n N c σ ds ts os l e τ:=eq.mp ⟨rfl,rfl,h⟩;unfold bxS at h
 split at h
 ·rename_i ps Z e1 τ1 J
  split at h
  ·rename_i I
   obtain⟨rfl,rfl,hp⟩:=h;refine LWN.round ((((iy hm n).1 _ _ _ _ _ _ _ _ J hp).post (.ct I)).mono ?_);rintro e' τ' ⟨rfl,rfl⟩
   cases e'<;>first|exact (he rfl).elim|exact⟨rfl,rfl⟩
  ·exact h.elim
 ·exact h.elim
theorem LoopP.tns(σ:Sg)(l:List Tn)(h:LoopP P gl N c σ' e τ)(eq:σ'=σ.tns l:=by kernel_rfl)(I:l.all (Tn.ok N)=true:=by kernel_rfl):LoopP P gl N c σ e τ:=LWN.cv (eq▸h) (.tns I)
end
end
section
abbrev tI(n:Int):Tr:=.at (OB n)
abbrev tB(b:Bool):Tr:=.at (.bool b)
abbrev tS(s:ByteArray):Tr:=.at (.string s)
section
variable (gl : Nat -> Option (List Tr))
theorem PuC.ri{gl:Nat->Option (List Tr)}{a b:Int}(h:PuC P gl f ts (tI b))(e:a=b):PuC P gl f ts (tI a):=e▸h
theorem Lt(op:Int):PuC prog gl 160 [tI op] (.tup [tI (arP op).1,tB (arP op).2]):=by
 unfold arP
 split
 ·exact aq [bt] (ai (show (bif decide (op<0) then true else decide (op > 12))=true by simp;omega) tv)
 ·unfold arN;rw[OF om];have h0:(bif decide (op<0) then true else decide (op > 12))=false:=by simp;omega
  split
  ·exact aq [bf,bt] (aj2 h0 (O3 om:decide (op<5)=true) tv)
  ·rename_i I
   have I:decide (op<5)=false:=OZ I
   split
   ·rename_i h;exact aq [bf,bf,bt] (aj3 h0 I (show (op==12)=true from jQ h) tv)
   ·rename_i h;exact aq [bf,bf,bf] (aj3 h0 I (show (op==12)=false from jQ h) tv)
theorem Mk(op:Int):PuC prog gl 161 [tI op] (.tup [tB (lj op).1,tB (lj op).2]):=by
 have e:∀k:Int,(op==k)=decide (op=k):=fun k=>by by_cases h:op=k<;>simp[h]
 unfold lj
 by_cases h1:op=1
 ·rw[OG (.inl h1)];exact aq [bt,bt] (aj2 (show (op==1)=true by simp[h1]) (show (op==1)=true by simp[h1]) tv)
 have g1:(op==1)=false:=jQ h1
 by_cases J:op=4
 ·rw[OG (.inr J)];exact aq [bf,bt] (aj2 g1 (show (op==4)=true by simp[J]) tv)
 have g4:(op==4)=false:=jQ J;rw[OF om]
 by_cases I:op=2
 ·rw[OG (.inl I)];exact aq [bf,bf,bt,bt] (aj4 g1 g4 (show (op==2)=true by simp[I]) (show (op==2)=true by simp[I]) tv)
 have g2:(op==2)=false:=jQ I
 by_cases Z:op=3
 ·rw[OG (.inr Z)];exact aq [bf,bf,bf,bt] (aj4 g1 g4 g2 (show (op==3)=true by simp[Z]) tv)
 have g3:(op==3)=false:=jQ Z;rw[OF om];exact aq [bf,bf,bf,bf] (aj4 g1 g4 g2 g3 tv)
abbrev vlT(v:Vl):Tr:=.agg [tI v.kind,tI v.num,tS v.text]
abbrev exT(x:Ex)(h:List Tr):Tr:=.agg [tI x.op,.lst false h,tI x.vr,tI x.fl,tI x.kd,tI x.val.kind,tI x.val.num,tS x.val.text]
def wX(k:Int)(v:Vl):Bool:=bif v.kind==0 then true else bif k==4 then true else k==5
theorem K6(v:Vl)(hk:1<=k):wX k v=dZ k v:=by
 unfold wX dZ;have h0:k≠0:=by omega
 by_cases h:v.kind=0<;>by_cases I:k=4<;>by_cases J:k=5<;>simp_all
theorem CX(k:Int)(v:Vl):PuC prog gl 233 [tI k,vlT v] (tB (wX k v)) :=
 fN [] (ai (show tB (bif bif v.kind==0 then true else k==4 then true else k==5)=tB (wX k v) by
  unfold wX;by_cases h:v.kind=0<;>by_cases I:k=4<;>simp[h,I,Bool.or_assoc]) tv)
def oU(v:Vl):Int:=if (v.kind=0/\(v.num < -1099511627776\/1099511627776<v.num))\/(v.kind=1/\(v.num<0\/1<v.num)) then 2 else if 64<v.text.size then 13 else 0
theorem JN(v:Vl):PuC prog gl 213 [vlT v] (tI (oU v)):=by
 have c1:(bif v.kind==0 then bif decide (v.num < -1099511627776) then true else decide (v.num > 1099511627776) else false)=decide (v.kind=0/\(v.num < -1099511627776\/1099511627776<v.num)):=by
  by_cases h0:v.kind=0<;>by_cases h1:v.num < -1099511627776<;>simp[h0,h1]
 have c2:(bif bif v.kind==1 then v.num != 0 else false then v.num != 1 else false)=decide (v.kind=1/\(v.num<0\/1<v.num)):=by
  by_cases h0:v.kind=1
  ·by_cases h1:v.num=0
   ·simp[h0,h1]
   ·by_cases I:v.num=1
    ·simp[h0,I]
    ·rw[O3 (show v.kind=1/\(v.num<0\/1<v.num) from ⟨h0,by omega⟩)];simp[h0,h1,I]
  ·simp[h0]
 unfold oU
 by_cases h1:v.kind=0/\(v.num < -1099511627776\/1099511627776<v.num)
 ·rw[OG (.inl h1)];exact aq [bt] (ai (c1.trans (O3 h1)) tv)
 have g1:=c1.trans (OZ h1)
 by_cases I:v.kind=1/\(v.num<0\/1<v.num)
 ·rw[OG (.inr I)];exact aq [bf,bt] (aj2 g1 (c2.trans (O3 I)) tv)
 have g2:=c2.trans (OZ I);rw[OF (fun h=>h.elim h1 I)]
 by_cases J:64<v.text.size
 ·rw[OG J];exact aq [bf,bf,bt] (aj3 g1 g2 (show decide ((v.text.size:Int) > 64)=true by simp;omega) tv)
 ·rw[OF J];exact aq [bf,bf,bf] (aj3 g1 g2 (show decide ((v.text.size:Int) > 64)=false by simp;omega) tv)
theorem mV(s:ByteArray):(!s.toList==(⟨#[]⟩:ByteArray).toList)=decide (0<s.size):=by
 have e:(⟨#[]⟩:ByteArray).toList=[]:=by rw[Rh]
 rw[e,Rh];obtain⟨⟨l⟩⟩:=s
 cases l<;>simp[ByteArray.size]
theorem pK(v:Vl):PuC prog gl 146 [vlT v] (tI (cQ v)):=by
 have e:∀k:Int,(v.kind==k)=decide (v.kind=k):=fun k=>by by_cases h:v.kind=k<;>simp[h]
 have rest:PuC prog gl 213 [vlT v] (tI (oU v)):=JN gl v;unfold cQ
 by_cases h0:v.kind=0
 ·have I:(v.kind==0)=true:=by simp[h0]
  rw[OF om,OF om]
  by_cases J:0<v.text.size
  ·rw[OG J];exact aq [bt,bt,bt] (aj3 I I ((mV _).trans (O3 J)) tv)
  ·rw[OF J];refine (aq (r:=tI (oU v)) [bt,bt,bf,.ca (tI (oU v))] (aj4 I I ((mV _).trans (OZ J)) rest tv)).ri ?_;unfold oU;simp[h0];omega
 ·have I:(v.kind==0)=false:=jQ h0
  by_cases h1:v.kind=1
  ·have b1:(v.kind==1)=true:=by simp[h1]
   rw[OF om,OF om]
   by_cases J:0<v.text.size
   ·rw[OG J];exact aq [bf,bt,bt] (aj3 I b1 ((mV _).trans (O3 J)) tv)
   ·rw[OF J];refine (aq (r:=tI (oU v)) [bf,bt,bf,.ca (tI (oU v))] (aj4 I b1 ((mV _).trans (OZ J)) rest tv)).ri ?_;unfold oU;simp[h1];omega
  ·have b1:(v.kind==1)=false:=jQ h1
   by_cases Z:v.kind=2
   ·have b2:(v.kind==2)=true:=by simp[Z]
    rw[OF om,OG Z]
    by_cases hn:v.num=0
    ·rw[OF (jQ hn)];refine (aq (r:=tI (oU v)) [bf,bf,bt,bf,.ca (tI (oU v))] (aj5 I b1 b2 (show (v.num != 0)=false from jQ hn) rest tv)).ri ?_;unfold oU;simp[Z]
    ·rw[OG hn];exact aq [bf,bf,bt,bt] (aj4 I b1 b2 (show (v.num != 0)=true from jQ hn) tv)
   ·rw[OG om];exact aq [bf,bf,bf] (aj3 I b1 (show (v.kind==2)=false from jQ Z) tv)
theorem eY(v:Vl)(b:Bool)(h:bI v au=!b):Cz prog .neq 27 (vlV v) (vlV au) b:=fun w=>by rw[Cr,h,P2]
theorem wO(x:Ex)(Z:List Tr)(hk:x.op=4->1<=x.kd):PuC prog gl 162 [exT x Z] (tI (ls x)):=by
 unfold ls
 by_cases h:cQ x.val=0
 ·have bv:(cQ x.val != 0)=false:=jQ h;rw[OF (jQ h)];have c:(bif x.op==4 then bif !wX x.kd x.val then true else bif x.kd==1 then !bI x.val au else false else false)=decide (x.op=4/\(dZ x.kd x.val=false\/x.kd=1/\bI x.val au=false)):=by
   by_cases J:x.op=4
   ·rw[K6 _ (hk J)]
    cases dZ x.kd x.val<;>cases bI x.val au<;>by_cases h1:x.kd=1<;>simp[J,h1]
   ·simp[J]
  by_cases I:x.op=4/\(dZ x.kd x.val=false\/x.kd=1/\bI x.val au=false)
  ·rw[OG I];exact aq [.ca (tI (cQ x.val)),bf,.ca (tB (wX x.kd x.val)),.vb (!bI x.val au),bt] (aj5 (pK gl x.val) bv (CX gl x.kd x.val) (eY x.val _ (P2 _).symm) (c.trans (O3 I)) tv)
  ·rw[OF I];exact aq [.ca (tI (cQ x.val)),bf,.ca (tB (wX x.kd x.val)),.vb (!bI x.val au),bf] (aj5 (pK gl x.val) bv (CX gl x.kd x.val) (eY x.val _ (P2 _).symm) (c.trans (OZ I)) tv)
 ·rw[OG h];exact aq [.ca (tI (cQ x.val)),bt] (aj2 (pK gl x.val) (show (cQ x.val != 0)=true from jQ h) tv)
theorem Jo(u:Bool)(n m:Int):(bif u then bif decide (n<0) then true else decide (n>=m) else false)=decide (u=true/\(n<0\/m<=n)):=by
 cases u<;>by_cases h:n<0<;>simp[h]
theorem orB(a b:Prop)[Decidable a][Decidable b]:(bif decide a then true else decide b)=decide (a\/b):=by
 by_cases h:a<;>simp[h]
theorem eqB(a b:Int):(a==b)=decide (a=b):=by by_cases h:a=b<;>simp[h]
theorem neB(a b:Int):(a != b)=decide (a≠b):=by by_cases h:a=b<;>simp[h]
theorem cB{c:Bool}[Decidable p](e:c=decide p):(p->c=true)/\(¬p->c=false):=⟨fun h=>e.trans (O3 h),fun h=>e.trans (OZ h)⟩
theorem MS(x:Ex)(J:List Tr)(hl:J.length=x.args.length):PuC prog gl 85 [exT x J] (tI (iC x)):=by
 have I:=Lt gl x.op;have Z:=Mk gl x.op;unfold iC
 by_cases h1:arN x.op<0
 ·have ho:x.op<0\/12<x.op:=by
   unfold arN at h1
   split at h1
   ·assumption
   ·split at h1
    ·omega
    ·split at h1<;>omega
  have ha:arP x.op=(0,false):=by unfold arP;rw[OG ho]
  rw[ha]at I;rw[OG h1];exact aq [.ca (.tup [tI 0,tB false]),bt] (aj2 I (show (!false)=true from rfl) tv)
 have ha:arP x.op=(arN x.op,true):=by unfold arP;rw[OF (fun h=>h1 (by unfold arN;rw[OG h];decide))]
 rw[ha]at I;rw[OF h1];have e2:=cB (neB (J.length:Int) (arN x.op))
 by_cases h2:(x.args.length:Int)≠arN x.op
 ·rw[OG h2];exact aq [.ca (.tup [tI (arN x.op),tB true]),bf,bt] (aj3 I (show (!true)=false from rfl) (e2.1 (by rw[hl];exact h2)) tv)
 have g2:=e2.2 (by rw[hl];exact h2);rw[OF h2];obtain⟨⟨u,f⟩,hu⟩:∃p,lj x.op=p:=⟨_,rfl⟩;rw[hu]at Z ⊢;have e3:=cB (c:=bif bif u then bif decide (x.vr<0) then true else decide (x.vr>=16) else false then true else bif f then bif decide (x.fl<0) then true else decide (x.fl>=8) else false) (by rw[Jo,Jo];exact orB _ _)
 by_cases h3:u=true/\(x.vr<0\/16<=x.vr)\/f=true/\(x.fl<0\/8<=x.fl)
 ·rw[OG h3];exact aq [.ca (.tup [tI (arN x.op),tB true]),bf,bf,.ca (.tup [tB u,tB f]),bt] (aj5 I (show (!true)=false from rfl) g2 Z (e3.1 h3) tv)
 have g3:=e3.2 h3;rw[OF h3];have e4:=cB (c:=bif x.op==4 then bif decide (x.kd<1) then true else decide (x.kd > 5) else false) (p:=x.op=4/\(x.kd<1\/5<x.kd)) (by by_cases h:x.op=4<;>by_cases h':x.kd<1<;>simp[h,h'])
 by_cases h4:x.op=4/\(x.kd<1\/5<x.kd)
 ·rw[OG h4];exact aq [.ca (.tup [tI (arN x.op),tB true]),bf,bf,.ca (.tup [tB u,tB f]),bf,bt] (aj6 I (show (!true)=false from rfl) g2 Z g3 (e4.1 h4) tv)
 have g4:=e4.2 h4;rw[OF h4];have hC:=wO gl x J (fun h=>by omega);have e5:=cB (c:=bif x.op==4 then true else x.op==0) (p:=x.op=4\/x.op=0) (by by_cases h:x.op=4<;>by_cases h':x.op=0<;>simp[h,h']);have e7:∀q:Bool,(bif x.op==4 then true else x.op==0)=q->(bif bif bif bif !u then x.vr != 0 else false then true else bif !f then x.fl != 0 else false then true else bif !x.op==4 then x.kd != 0 else false then true else bif !q then !bI x.val au else false) =
   decide (u=false/\x.vr≠0\/f=false/\x.fl≠0\/x.op≠4/\x.kd≠0\/(x.op≠4/\x.op≠0)/\bI x.val au=false):=fun q hq=>by
  subst hq;rw[neB,neB,neB,eqB,eqB];simp only[Bool.decide_or,Bool.decide_and,PG,decide_not];generalize decide (x.vr=0)=a,decide (x.fl=0)=b,decide (x.kd=0)=c,decide (x.op=4)=d,decide (x.op=0)=e,bI x.val au=q
  cases u<;>cases f<;>cases a<;>cases b<;>cases c<;>cases d<;>cases e<;>cases q<;>rfl
 by_cases h5:x.op=4\/x.op=0
 ·have g5:=e5.1 h5
  by_cases h6:ls x=0
  ·have g6:(ls x != 0)=false:=jQ h6;rw[OF (fun h=>h.2 h6)];have e8:=cB (e7 _ rfl)
   split
   ·rename_i h7;exact aq [.ca (.tup [tI (arN x.op),tB true]),bf,bf,.ca (.tup [tB u,tB f]),bf,bf,bt,.ca (tI (ls x)),bf,.vb (!bI x.val au),bt] (aj8 I (show (!true)=false from rfl) g2 Z g3 g4 g5 hC (aj3 g6 (eY x.val _ (P2 _).symm) (e8.1 h7) tv))
   ·rename_i h7;exact aq [.ca (.tup [tI (arN x.op),tB true]),bf,bf,.ca (.tup [tB u,tB f]),bf,bf,bt,.ca (tI (ls x)),bf,.vb (!bI x.val au),bf] (aj8 I (show (!true)=false from rfl) g2 Z g3 g4 g5 hC (aj3 g6 (eY x.val _ (P2 _).symm) (e8.2 h7) tv))
  ·have g6:(ls x != 0)=true:=jQ h6;rw[OG ⟨h5,h6⟩];exact aq [.ca (.tup [tI (arN x.op),tB true]),bf,bf,.ca (.tup [tB u,tB f]),bf,bf,bt,.ca (tI (ls x)),bt] (aj8 I (show (!true)=false from rfl) g2 Z g3 g4 g5 hC (ai g6 tv))
 ·have g5:=e5.2 h5;rw[OF (fun h=>h5 h.1)];have e8:=cB (e7 _ rfl)
  split
  ·rename_i h7;exact aq [.ca (.tup [tI (arN x.op),tB true]),bf,bf,.ca (.tup [tB u,tB f]),bf,bf,bf,.vb (!bI x.val au),bt] (aj8 I (show (!true)=false from rfl) g2 Z g3 g4 g5 (eY x.val _ (P2 _).symm) (ai (e8.1 h7) tv))
  ·rename_i h7;exact aq [.ca (.tup [tI (arN x.op),tB true]),bf,bf,.ca (.tup [tB u,tB f]),bf,bf,bf,.vb (!bI x.val au),bf] (aj8 I (show (!true)=false from rfl) g2 Z g3 g4 g5 (eY x.val _ (P2 _).symm) (ai (e8.2 h7) tv))
end
end
mutual
def cF:Ex->Tr
 | .mk op l vr fl kd v=>.agg [tI op,.lst false (aD l),tI vr,tI fl,tI kd,tI v.kind,tI v.num,tS v.text]
def aD:List Ex->List Tr
 | []=>[]
 | x::l=>cF x::aD l
end
theorem bz(l:List Ex):aD l=l.map cF:=by
 induction l with
 | nil=>rw[aD];rfl
 | cons x l h=>rw[aD,h];rfl
theorem rE(x:Ex):(cF x).cells.length=8:=by cases x;rfl
noncomputable def exC(op:Int)(es:List Tr)(vr fl kd:Int)(v:Vl):List V:=[.p (tI op),.p (.lst false es),.p (tI vr),.p (tI fl),.p (tI kd),.p (tI v.kind),.p (tI v.num),.p (tS v.text)]
noncomputable def szI(cs:List V)(es:List Tr)(n d k:Int):Sg:=⟨[(0,.box cs)],[⟨32,[(1,.off 0 0 0),(2,.p (tI 0)),(3,.p (tI 0)),(4,.p (tI n)),(5,.p (tI d)),(11,.p (.lst false es)),(12,.p (tI es.length)),(13,.p (tI k))],none,[]⟩],[]⟩
noncomputable def szF(cs:List V)(n d:Int):Sg:=⟨[(0,.box cs)],[⟨32,[(4,.p (tI n)),(5,.p (tI d))],none,[]⟩],[]⟩
noncomputable def szC:Code:=lpb prog 83 [1,1,0,1,0]
def NV(gl:Nat->Option (List Tr))(x:Ex):Prop:=aC x<=1048576->PuC prog gl 83 [cF x] (.tup [tI (aC x),tI (bD x)])
theorem szL(p Z I J:Int)(v0:Vl)(l:List Ex)(hl:∀x∈l,NV gl x)(c':l.length<=1048576):∀(m k n d N D:Nat),k+m=l.length->n+bJ (l.drop k)=N->max d (cI (l.drop k))=D->N<=1048576 ->
  LoopP prog gl 0 szC (szI (exC p (aD l) Z I J v0) (aD l) n d k) (.exit 0) (szF (exC p (aD l) Z I J v0) N D):=by
 have hlen:(aD l).length=l.length:=by rw[bz,OL]
 intro m
 induction m with
 | zero =>
  intro k n d N D hk hn h hN;obtain rfl:k=l.length:=by omega
  rw[Qn]at hn h;rw[bJ]at hn;rw[cI]at h;obtain rfl:n=N:=by omega
  obtain rfl:d=D:=by omega
  exact LoopP.stop [bf] [4,5] [0] jS (ai (show decide ((l.length:Int)<((aD l).length:Nat))=false by rw[hlen];simp) tv)
 | succ m ih =>
  intro k n d N D hk hn h hN;have hx:k<l.length:=by omega
  have a':l.drop k=l[k]::l.drop (k+1):=PE hx;rw[a',bJ]at hn;rw[a',cI]at h;have hp:=hl _ (OX hx) om;have h1:(aD l)[((k:Int)).toNat]?=some (cF l[k]):=by rw[bz];simp[hx]
  generalize l[k]=x at hn h hp h1;have h2:=ih (k+1) (n+aC x) (max d (bD x)) N D om om om hN;have hc:decide ((k:Int)<((aD l).length:Nat))=true:=by rw[hlen];simp;omega
  have w1:IntKind.i64.wrap ((n:Int)+(aC x:Nat))=((n+aC x:Nat):Int):=by rw[Pv];omega
  have w2:IntKind.i64.wrap ((k:Int)+1)=((k+1:Nat):Int):=by rw[Pv];omega
  have w3:(if (d:Int)<(bD x:Nat) then ((bD x:Nat):Int) else d)=((max d (bD x):Nat):Int):=by split<;>omega
  rw[<-w1,<-w2,<-w3]at h2
  cases x with
  | mk op l2 vr fl kd v =>
   exact LoopP.next [bt,.el (cF (.mk op l2 vr fl kd v)),.ca (.tup [tI (aC (.mk op l2 vr fl kd v)),tI (bD (.mk op l2 vr fl kd v))]),.co] [1,2,3,4,5,11,12,13] [0] rfl h2 (aj4 hc h1 (PO k) hp tv)
theorem ng:∀(l:List Ex),l.length<=bJ l
 | []=>OI _
 | x::l=>by rw[bJ];have:=ng l;have:=kR x;simp;omega
mutual
theorem Ie:∀(x:Ex),NV gl x
 | .mk op l vr fl kd v=>fun h=>by
  rw[aC]at h;have I:=ng l;have hL:LoopP prog gl 0 szC (szI (exC op (aD l) vr fl kd v) (aD l) (1:Nat) (0:Nat) (0:Nat)) (.exit 0) (szF (exC op (aD l) vr fl kd v) (1+bJ l:Nat) (cI l:Nat)) :=
   szL op vr fl kd v l (IL l) om l.length 0 1 0 _ _ om rfl jS om
  have hw:IntKind.i64.wrap (((cI l:Nat):Int)+1)=((cI l+1:Nat):Int):=by
   have:=kV l;rw[Pv];omega
  exact fN [.lo [1,2,3,4,5,11,12,13] (.exit 0) (szF (exC op (aD l) vr fl kd v) (1+bJ l:Nat) (cI l:Nat))]
   (aj2 (show Tr.tup [tI (1+bJ l:Nat),tI (IntKind.i64.wrap (((cI l:Nat):Int)+1))]=.tup [tI (aC (.mk op l vr fl kd v):Nat),tI (bD (.mk op l vr fl kd v):Nat)] by rw[hw,aC,bD]) hL tv)
theorem IL:∀(l:List Ex),∀x∈l,NV gl x
 | [],x,hx=>by cases hx
 | y::l,x,hx=>by
  rcases List.mem_cons.1 hx with h|h
  ·exact h▸Ie y
  ·exact IL l x h
end
section
theorem jk:∀{l:List Ex}{x:Ex},x∈l->aC x<=bJ l
 | y::l,x,h=>by
  rw[bJ];rcases List.mem_cons.1 h with h|h
  ·subst h;omega
  ·have:=jk h;omega
section
variable (gl : Nat -> Option (List Tr))
abbrev nodF:Tr:=.fn (.func 85) [] []
noncomputable def viI(cs:List V)(es:List Tr)(k:Int):Sg:=⟨[(0,.box cs)],[⟨29,[(1,.p nodF),(16,.p (.lst false es)),(17,.p (tI es.length)),(18,.p (tI k))],none,[]⟩],[]⟩
noncomputable def viF(cs:List V):Sg:=⟨[(0,.box cs)],[⟨29,[],none,[]⟩],[]⟩
noncomputable def viR(cs:List V)(e:Int):Sg:=⟨[(0,.box cs)],[⟨29,[(4,.p (tI e))],none,[]⟩],[]⟩
noncomputable def viC:Code:=lpb prog 84 [1,1,0,1,0]
def Nd(x:Ex):Prop:=aC x<=1048576->PuC prog gl 84 [cF x,nodF] (tI (bL x))
theorem viL(p Z I J:Int)(v0:Vl)(l:List Ex)(hl:∀x∈l,Nd gl x)(hN:bJ l<=1048576):∀(m k:Nat),k+m=l.length ->
  (cT (l.drop k)=0->LoopP prog gl 0 viC (viI (exC p (aD l) Z I J v0) (aD l) k) (.exit 0) (viF (exC p (aD l) Z I J v0))) /\
  (cT (l.drop k)≠0->LoopP prog gl 0 viC (viI (exC p (aD l) Z I J v0) (aD l) k) .ret (viR (exC p (aD l) Z I J v0) (cT (l.drop k)))):=by
 have hlen:(aD l).length=l.length:=by rw[bz,OL]
 have a':=eU l;intro m
 induction m with
 | zero =>
  intro k hk;obtain rfl:k=l.length:=by omega
  rw[Qn,cT];exact⟨fun _=>LoopP.stop [bf] [] [0] jS (ai (show decide ((l.length:Int)<((aD l).length:Nat))=false by rw[hlen];simp) tv),fun h=>(h rfl).elim⟩
 | succ m ih =>
  intro k hk;have hx:k<l.length:=by omega
  rw[mW (OH hx)];have hp:=hl _ (OX hx) (OP (jk (OX hx)) hN);have h1:(aD l)[((k:Int)).toNat]?=some (cF l[k]):=by rw[bz];simp[hx]
  generalize l[k]=x at hp h1;have h2:=ih (k+1) om;have hc:decide ((k:Int)<((aD l).length:Nat))=true:=by rw[hlen];simp;omega
  have w2:IntKind.i64.wrap ((k:Int)+1)=((k+1:Nat):Int):=by rw[Pv];omega
  rw[<-w2]at h2
  cases x with
  | mk op l2 vr fl kd v =>
   by_cases he:bL (.mk op l2 vr fl kd v)=0
   ·rw[OF (jQ he)];rw[he]at hp;exact⟨fun h0=>LoopP.next [bt,.el (cF (.mk op l2 vr fl kd v)),.ca (tI 0),bf] [1,16,17,18] [0] rfl (h2.1 h0) (aj5 hc h1 (PO k) hp (show ((0:Int) != 0)=false from rfl) tv),
     fun h0=>LoopP.next [bt,.el (cF (.mk op l2 vr fl kd v)),.ca (tI 0),bf] [1,16,17,18] [0] rfl (h2.2 h0) (aj5 hc h1 (PO k) hp (show ((0:Int) != 0)=false from rfl) tv)⟩
   ·rw[OG he];exact⟨fun h0=>(he h0).elim,fun _=>LoopP.stop [bt,.el (cF (.mk op l2 vr fl kd v)),.ca (tI (bL (.mk op l2 vr fl kd v))),bt] [4] [0] jS
     (aj5 hc h1 (PO k) hp (show (bL (.mk op l2 vr fl kd v) != 0)=true from jQ he) tv)⟩
mutual
theorem CR:∀(x:Ex),Nd gl x
 | .mk op l vr fl kd v=>fun h=>by
  rw[aC]at h;have I:=MS gl (.mk op l vr fl kd v) (aD l) (by rw[bz,OL];rfl);have hL:=viL gl op vr fl kd v l (Do l) om l.length 0 om;rw[PN]at hL;rw[bL];generalize iC (.mk op l vr fl kd v)=e at I ⊢
  by_cases he:e=0
  ·subst he;rw[OF jS]
   by_cases h0:cT l=0
   ·rw[h0];exact aq [.ca (tI 0),bf,.lo [1,16,17,18] (.exit 0) (viF (exC op (aD l) vr fl kd v))] (aj3 I (show ((0:Int) != 0)=false from rfl) (hL.1 h0) tv)
   ·exact aq [.ca (tI 0),bf,.lo [1,16,17,18] .ret (viR (exC op (aD l) vr fl kd v) (cT l))] (aj3 I (show ((0:Int) != 0)=false from rfl) (hL.2 h0) tv)
  ·rw[OG he];exact aq [.ca (tI e),bt] (aj2 I (show (e != 0)=true from jQ he) tv)
theorem Do:∀(l:List Ex),∀x∈l,Nd gl x
 | [],x,hx=>by cases hx
 | y::l,x,hx=>by
  rcases List.mem_cons.1 hx with h|h
  ·exact h▸CR y
  ·exact Do l x h
end
theorem Dx(x:Ex)(h:aC x<=1048576):PuC prog gl 42 [cF x] (tI (gV x)):=by
 have hs:=Ie (gl:=gl) x h;have Z:=CR gl x h;unfold gV
 cases x with
 | mk op l vr fl kd v =>
  have e1:=cB (c:=decide (((aC (.mk op l vr fl kd v):Nat):Int) > 64)) (p:=64<aC (.mk op l vr fl kd v)) (by simp;omega);have J:=cB (c:=decide (((bD (.mk op l vr fl kd v):Nat):Int) > 12)) (p:=12<bD (.mk op l vr fl kd v)) (by simp;omega)
  split
  ·rename_i h1;exact aq [.ca (.tup [tI (aC (.mk op l vr fl kd v):Nat),tI (bD (.mk op l vr fl kd v):Nat)]),bt] (aj2 hs (e1.1 h1) tv)
  ·rename_i h1
   split
   ·rename_i I;exact aq [.ca (.tup [tI (aC (.mk op l vr fl kd v):Nat),tI (bD (.mk op l vr fl kd v):Nat)]),bf,bt] (aj3 hs (e1.2 h1) (J.1 I) tv)
   ·rename_i I;exact aq [.ca (.tup [tI (aC (.mk op l vr fl kd v):Nat),tI (bD (.mk op l vr fl kd v):Nat)]),bf,bf,.ca (tI (bL (.mk op l vr fl kd v)))] (aj4 hs (e1.2 h1) (J.2 I) Z tv)
end
end
def fW(w:World)(b:Nat):Nat:=match w.heap[b]? with
 | some (.cells c _ _)=>c.size
 | _=>0
theorem ut{b n:Nat}(h:w.cell? ⟨b,n,none⟩=some u):n<fW w b:=by
 unfold World.cell? at h;unfold fW
 cases I:w.heap[b]? with
 | none=>rw[I]at h;cases h
 | some o =>
  rw[I]at h
  cases o with
  | cells c e f=>exact (Array.getElem?_eq_some_iff.1 (jQ h)).1
  | _=>cases h
theorem sH{R:World->Nat->Nat->α->Prop}{sz:Nat}{l:List α}(I:α->Tr)(h:Sl R sz w v l)(a':0<sz)(hk:∀x∈l,(I x).cells.length=sz)(hc:∀x∈l,∀t∈(I x).cells,t.cell=true)(hR:∀x∈l,∀b p,R w b p x->∀(j:Nat)(t:Tr),(I x).cells[j]?=some t->∃u,w.cell? ⟨b,p+j,none⟩=some u/\Rp (fW w) w t u):Rp (fW w) w (.lst false (l.map I)) v:=by
 obtain⟨A,c,rfl,h1,h2,h3⟩:=h;rcases QS l.length with h0|h0
 ·rw[List.length_eq_zero_iff.1 h0];exact .nil _ _ h2
 obtain⟨b,o,rfl,-⟩:=h3 0 l[0] (OH h0);have J:∀e∈l.map I,e.cells.length=sz:=fun e he=>by obtain⟨x,hx,rfl⟩:=List.mem_map.1 he;exact hk x hx
 have cellAt:∀(j:Nat)(t:Tr),(aO (l.map I))[j]?=some t->∃u,w.cell? ⟨b,o+j,none⟩=some u/\Rp (fW w) w t u:=by
  intro j t Z;have hj:=(List.getElem?_eq_some_iff.1 Z).1;rw[gq J,OL]at hj;have hi:j / sz<l.length:=by rw[Nat.div_lt_iff_lt_mul a'];exact hj
  have hr:=Nat.mod_lt j a';have e:j / sz*sz+j%sz=j:=by rw[Nat.mul_comm];exact Nat.div_add_mod j sz
  have hx:=OX hi;have c':j%sz<(I l[j / sz]).cells.length:=by rw[hk _ hx];exact hr
  have hf:=gX (o:=j%sz) J (i:=j / sz) (e:=I l[j / sz]) (by simp[hi]) (OH c');rw[e,Z]at hf
  cases hf
  obtain⟨b',o',hA,f'⟩:=h3 (j / sz) l[j / sz] (OH hi)
  cases hA
  obtain⟨u,hu,hp⟩:=hR _ hx b (o+j / sz*sz) f' (j%sz) _ (OH c');rw[PP,e]at hu;exact⟨u,hu,hp⟩
 have:=Rp.lst (F:=fW w) (w:=w) false (l.map I) b o c sz (fun j=>(w.cell? ⟨b,o+j,none⟩).getD undef) J
  (fun t Z=>by
   obtain⟨e,he,d'⟩:=List.mem_flatMap.1 Z;obtain⟨x,hx,rfl⟩:=List.mem_map.1 he;exact hc x hx t d')
  (fun j hj=>by
   obtain⟨u,hu,-⟩:=cellAt j _ (OH hj);rw[hu];exact⟨rfl,ut hu⟩)
  (fun j t Z=>by
   obtain⟨u,hu,hp⟩:=cellAt j t Z;rw[hu];exact hp) (fun e=>by cases e) (jQ h1) h2
 rwa [OL]at this
theorem lT(x:Ex):(cF x).cells=[tI x.op,.lst false (aD x.args),tI x.vr,tI x.fl,tI x.kd,tI x.val.kind,tI x.val.num,tS x.val.text]:=by cases x;rfl
theorem rA{w:World}:∀(d:Nat){v:Value}{l:List Ex},bZ d w v l->Rp (fW w) w (.lst false (aD l)) v
 | 0,v,l,h=>by
  obtain⟨A,c,rfl,h1,J,h3⟩:=h
  cases l with
  | nil=>rw[aD];exact .nil _ _ J
  | cons x l=>obtain⟨b,o,-,hf⟩:=h3 0 x rfl;exact hf.elim
 | d+1,v,l,h=>by
  rw[bz];refine sH cF h om (fun x _=>rE x) (fun x _ t I=>?_) fun x _ b p hx j t I=>?_
  ·rw[lT]at I;simp only[O7,Pw,Px]at I;rcases I with rfl|rfl|rfl|rfl|rfl|rfl|rfl|rfl<;>rfl
  ·obtain⟨u,hu,c0,c1,c2,c3,c4,c5,c6,Z⟩:=hx;rw[lT]at I
   match j,I with
   | 0,I=>cases I;exact⟨_,c0,.at _⟩
   | 1,I=>cases I;exact⟨_,c1,rA d hu⟩
   | 2,I=>cases I;exact⟨_,c2,.at _⟩
   | 3,I=>cases I;exact⟨_,c3,.at _⟩
   | 4,I=>cases I;exact⟨_,c4,.at _⟩
   | 5,I=>cases I;exact⟨_,c5,.at _⟩
   | 6,I=>cases I;exact⟨_,c6,.at _⟩
   | 7,I=>cases I;exact⟨_,Z,.at _⟩
theorem Mg{x:Ex}(h:bZ d w v x.args):Rp (fW w) w (cF x) (exV x v):=by
 obtain⟨op,l,vr,fl,kd,val⟩:=x;refine .agg _ _ rfl fun i t u I hu=>?_
 match i,I,hu with
 | 0,I,hu=>cases I;cases hu;exact .at _
 | 1,I,hu=>cases I;cases hu;exact rA d h
 | 2,I,hu=>cases I;cases hu;exact .at _
 | 3,I,hu=>cases I;cases hu;exact .at _
 | 4,I,hu=>cases I;cases hu;exact .at _
 | 5,I,hu=>cases I;cases hu;exact .at _
 | 6,I,hu=>cases I;cases hu;exact .at _
 | 7,I,hu=>cases I;cases hu;exact .at _
theorem BO:Rps F w [] []:=⟨rfl,fun i t v h=>by simp at h⟩
theorem eW(h:Rp F w t v)(r:Rps F w ts vs):Rps F w (t::ts) (v::vs):=⟨by simp[r.1],fun i t v J I=>by
 cases i with
 | zero=>cases J;cases I;exact h
 | succ i=>exact r.2 i t v (jQ J) (jQ I)⟩
theorem mU(h:PuC P (fun _=>none) f ts (.at x))(I:Rps (fW w) w ts vs):Calls P f vs.toArray w fun e w'=>e=.returned x/\OD w w':=by
 refine (h (fW w) w vs I fun g cs J=>by cases J).mono ?_;rintro e w' ⟨u,F',rfl,Z,-,hr⟩
 cases hr
 exact⟨rfl,Z⟩
section
section
variable (gl : Nat -> Option (List Tr))
noncomputable def dpI(cs:List V)(d k:Int):Sg:=⟨[(0,.box cs)],[⟨22,[(1,.off 0 0 0),(3,.p (tI d)),(4,.p (tI k))],none,[]⟩],[]⟩
noncomputable def dpF(cs:List V)(d:Int):Sg:=⟨[(0,.box cs)],[⟨22,[(3,.p (tI d))],none,[]⟩],[]⟩
noncomputable def dpC:Code:=lpb prog 168 [1,1,0,1,0]
def Nt(x:Ex):Prop:=aC x<=1048576->PuC prog gl 168 [cF x] (tI (bD x))
theorem dpL(p c' Z a':Int)(v0:Vl)(l:List Ex)(hl:∀x∈l,Nt gl x)(hN:bJ l<=1048576):∀(m k d D:Nat),k+m=l.length->max d (cI (l.drop k))=D ->
  LoopP prog gl 0 dpC (dpI (exC p (aD l) c' Z a' v0) d k) (.exit 0) (dpF (exC p (aD l) c' Z a' v0) D):=by
 have hlen:(aD l).length=l.length:=by rw[bz,OL]
 have d':=eU l;intro m
 induction m with
 | zero =>
  intro k d D hk J;obtain rfl:k=l.length:=by omega
  rw[Qn,cI]at J;obtain rfl:d=D:=by omega
  exact LoopP.stop [bf] [3] [0] jS (ai (show decide ((l.length:Int)<((aD l).length:Nat))=false by rw[hlen];simp) tv)
 | succ m ih =>
  intro k d D hk J;have I:k<l.length:=by omega
  rw[PE I,cI]at J;have hp:=hl _ (OX I) (OP (jk (OX I)) hN);have h1:(aD l)[((k:Int)).toNat]?=some (cF l[k]):=by rw[bz];simp[I]
  generalize l[k]=x at J hp h1;have h2:=ih (k+1) (max d (bD x)) D om om;have hc:decide ((k:Int)<((aD l).length:Nat))=true:=by rw[hlen];simp;omega
  have w2:IntKind.i64.wrap ((k:Int)+1)=((k+1:Nat):Int):=by rw[Pv];omega
  have w3:(if (d:Int)<(bD x:Nat) then ((bD x:Nat):Int) else d)=((max d (bD x):Nat):Int):=by split<;>omega
  rw[<-w2,<-w3]at h2
  cases x with
  | mk op l2 vr fl kd v=>exact LoopP.next [bt,.el (cF (.mk op l2 vr fl kd v)),.ca (tI (bD (.mk op l2 vr fl kd v))),.co] [1,3,4] [0] rfl h2 (aj4 hc h1 (PO k) hp tv)
mutual
theorem uV:∀(x:Ex),Nt gl x
 | .mk op l vr fl kd v=>fun h=>by
  rw[aC]at h;have hL:=dpL gl op vr fl kd v l (CY l) om l.length 0 0 _ om rfl;rw[PN,Nat.zero_max]at hL;have hw:IntKind.i64.wrap (((cI l:Nat):Int)+1)=((cI l+1:Nat):Int):=by have:=kV l;rw[Pv];omega
  exact fN [.lo [1,3,4] (.exit 0) (dpF (exC op (aD l) vr fl kd v) (cI l:Nat))]
   (aj2 (show tI (IntKind.i64.wrap (((cI l:Nat):Int)+1))=tI (bD (.mk op l vr fl kd v):Nat) by rw[hw,bD]) hL tv)
theorem CY:∀(l:List Ex),∀x∈l,Nt gl x
 | [],x,I=>by cases I
 | y::l,x,I=>by
  rcases List.mem_cons.1 I with h|h
  ·exact h▸uV y
  ·exact CY l x h
end
noncomputable def cnI(cs:List V)(lim n k:Int):Sg:=⟨[(0,.box cs)],[⟨29,[(1,.p (tI lim)),(2,.off 0 0 0),(5,.p (tI n)),(6,.p (tI k))],none,[]⟩],[]⟩
noncomputable def cnF(cs:List V)(n:Int):Sg:=⟨[(0,.box cs)],[⟨29,[(5,.p (tI n))],none,[]⟩],[]⟩
noncomputable def cnC:Code:=lpb prog 167 [1,1,0,1,0]
def NK(lim:Nat)(x:Ex):Prop:=aC x<=1048576->PuC prog gl 167 [cF x,tI lim] (tI (cS lim x))
theorem cnL(lim:Nat)(p c' Z a':Int)(v0:Vl)(l:List Ex)(hl:∀x∈l,NK gl lim x)(hN:bJ l<=1048576):∀(m k n N:Nat),k+m=l.length->n+bJ (l.drop k)<=1048577->eK lim n (l.drop k)=N ->
  LoopP prog gl 0 cnC (cnI (exC p (aD l) c' Z a' v0) lim n k) (.exit 0) (cnF (exC p (aD l) c' Z a' v0) N):=by
 have hlen:(aD l).length=l.length:=by rw[bz,OL]
 have d':=eU l;have hc:∀n k:Nat,(bif decide ((k:Int)<((aD l).length:Nat)) then decide ((n:Int)<=lim) else false)=decide (k<l.length/\n<=lim):=fun n k=>by
  rw[hlen];by_cases h:k<l.length<;>simp[h]<;>omega
 intro m
 induction m with
 | zero =>
  intro k n N hk hn J;obtain rfl:k=l.length:=by omega
  rw[Qn,eK]at J;subst J;exact LoopP.stop [bf] [5] [0] jS (ai ((hc n l.length).trans (OZ om)) tv)
 | succ m ih =>
  intro k n N hk hn J;have I:k<l.length:=by omega
  rw[PE I,eK]at J;rw[PE I,bJ]at hn;have hp:=hl _ (OX I) (OP (jk (OX I)) hN);have h1:(aD l)[((k:Int)).toNat]?=some (cF l[k]):=by rw[bz];simp[I]
  generalize l[k]=x at J hp h1 hn
  by_cases hle:n<=lim
  ·rw[OG hle]at J;have f':=ow lim x;have h2:=ih (k+1) (n+cS lim x) N om om J;have w2:IntKind.i64.wrap ((k:Int)+1)=((k+1:Nat):Int):=by rw[Pv];omega
   have w3:IntKind.i64.wrap ((n:Int)+(cS lim x:Nat))=((n+cS lim x:Nat):Int):=by rw[Pv];omega
   rw[<-w2,<-w3]at h2
   cases x with
   | mk op l2 vr fl kd v=>exact LoopP.next [bt,.el (cF (.mk op l2 vr fl kd v)),.ca (tI (cS lim (.mk op l2 vr fl kd v)))] [1,2,5,6] [0] rfl h2 (aj4 ((hc n k).trans (O3 ⟨I,hle⟩)) h1 (PO k) hp tv)
  ·rw[OF hle]at J;subst J;exact LoopP.stop [bf] [5] [0] jS (ai ((hc n k).trans (OZ (fun h=>hle h.2))) tv)
mutual
theorem uY(lim:Nat):∀(x:Ex),NK gl lim x
 | .mk op l vr fl kd v=>fun h=>by
  rw[aC]at h;have hL:=cnL gl lim op vr fl kd v l (BV lim l) om l.length 0 1 _ om (by rw[PN];omega) rfl;rw[PN]at hL;rw[cS];exact aq [.lo [1,2,5,6] (.exit 0) (cnF (exC op (aD l) vr fl kd v) (eK lim 1 l:Nat))] (ai hL tv)
theorem BV(lim:Nat):∀(l:List Ex),∀x∈l,NK gl lim x
 | [],x,I=>by cases I
 | y::l,x,I=>by
  rcases List.mem_cons.1 I with h|h
  ·exact h▸uY lim y
  ·exact BV lim l x h
end
end
end
section
section
variable (gl : Nat -> Option (List Tr))
theorem jV(k:Int)(v:Vl):PuC prog gl 327 [tI k,vlT v] (tB (dZ k v)) :=
 fN [] (ai (show tB (bif bif bif v.kind==0 then true else k==0 then true else k==4 then true else k==5)=tB (dZ k v) by
  unfold dZ;congr 2
  by_cases h:v.kind=0<;>by_cases h0:k=0<;>by_cases I:k=4<;>by_cases J:k=5<;>simp[h,h0,I,J]) tv)
theorem KJ(op:Int):PuC prog gl 326 [tI op] (.tup [tB (lj op).1,tB (lj op).2]) :=
 fN [] (ai (show Tr.tup [tB (bif bif bif op==1 then true else op==4 then true else op==2 then true else op==3),tB (bif op==1 then true else op==4)]=.tup [tB (lj op).1,tB (lj op).2] by
  unfold lj
  by_cases h1:op=1<;>by_cases I:op=4<;>by_cases h:op=2<;>by_cases J:op=3<;>simp_all) tv)
theorem DS(v:Vl):PuC prog gl 159 [vlT v] (tI (cQ v)):=by
 have e1:=cB (c:=bif decide (v.kind<0) then true else decide (v.kind > 2)) (orB (v.kind<0) (v.kind > 2));have e2:=cB (eqB v.kind 2);have e3:=cB (neB v.num 0);have e4:=cB (c:=decide ((v.text.size:Int) > 64)) (p:=64<v.text.size) (by simp;omega);have e5:=cB (mV v.text);have e6:=cB (c:=bif bif bif v.kind==1 then bif decide (v.num<0) then true else decide (v.num > 1) else false then true else decide (v.num < -1099511627776) then true else decide (v.num > 1099511627776))
  (p:=(v.kind=1/\(v.num<0\/1<v.num))\/v.num < -1099511627776\/1099511627776<v.num) (by
   by_cases h1:v.kind=1<;>by_cases I:v.num<0<;>by_cases h:1<v.num<;>by_cases J:v.num < -1099511627776<;>simp[h1,I,h,J])
 unfold cQ
 by_cases h1:v.kind<0\/2<v.kind
 ·rw[OG h1];exact aq [bt] (ai (e1.1 h1) tv)
 rw[OF h1];have g1:=e1.2 h1
 by_cases I:v.kind=2
 ·rw[OG I];have g2:=e2.1 I
  by_cases h:v.num≠0
  ·rw[OG h];exact aq [bf,bt,bt] (aj3 g1 g2 (e3.1 h) tv)
  ·rw[OF h]
   by_cases J:64<v.text.size
   ·rw[OG J];exact aq [bf,bt,bf,bt] (aj4 g1 g2 (e3.2 h) (e4.1 J) tv)
   ·rw[OF J];exact aq [bf,bt,bf,bf] (aj4 g1 g2 (e3.2 h) (e4.2 J) tv)
 ·rw[OF I];have g2:=e2.2 I
  by_cases Z:0<v.text.size
  ·rw[OG Z];exact aq [bf,bf,bt] (aj3 g1 g2 (e5.1 Z) tv)
  ·rw[OF Z]
   by_cases h6:(v.kind=1/\(v.num<0\/1<v.num))\/v.num < -1099511627776\/1099511627776<v.num
   ·rw[OG h6];exact aq [bf,bf,bf,bt] (aj4 g1 g2 (e5.2 Z) (e6.1 h6) tv)
   ·rw[OF h6];exact aq [bf,bf,bf,bf] (aj4 g1 g2 (e5.2 Z) (e6.2 h6) tv)
theorem Fv(op:Int):PuC prog gl 325 [tI op] (tI (arN op)):=by
 have F:∀k:Int,op≠k->(op==k)=false:=fun k h=>jQ h
 have T:∀k:Int,op=k->(op==k)=true:=fun k h=>jQ h
 unfold arN
 by_cases I:op<0\/12<op
 ·rw[OG I];exact aq [bf,bf,bf,bf,bf,bf,bf,bf,bf,bf,bf,bf,bf] (aj8 (F 0 om) (F 1 om) (F 2 om) (F 3 om) (F 4 om) (F 12 om) (F 5 om) (F 6 om) (aj5 (F 7 om) (F 8 om) (F 9 om) (F 10 om) (F 11 om) tv))
 rw[OF I]
 by_cases J:op<5
 ·rw[OG J];rcases (by omega:op=0\/op=1\/op=2\/op=3\/op=4) with h|h|h|h|h
  ·exact aq [bt,bt] (aj2 (T 0 h) (T 0 h) tv)
  ·exact aq [bf,bt,bt] (aj3 (F 0 om) (T 1 h) (T 1 h) tv)
  ·exact aq [bf,bf,bt,bt] (aj4 (F 0 om) (F 1 om) (T 2 h) (T 2 h) tv)
  ·exact aq [bf,bf,bf,bt,bt] (aj5 (F 0 om) (F 1 om) (F 2 om) (T 3 h) (T 3 h) tv)
  ·exact aq [bf,bf,bf,bf,bt] (aj5 (F 0 om) (F 1 om) (F 2 om) (F 3 om) (T 4 h) tv)
 rw[OF J]
 by_cases h:op=12
 ·rw[OG h];exact aq [bf,bf,bf,bf,bf,bt] (aj6 (F 0 om) (F 1 om) (F 2 om) (F 3 om) (F 4 om) (T 12 h) tv)
 rw[OF h];rcases (by omega:op=5\/op=6\/op=7\/op=8\/op=9\/op=10\/op=11) with h|h|h|h|h|h|h
 ·exact aq [bf,bf,bf,bf,bf,bf,bt,bt] (aj8 (F 0 om) (F 1 om) (F 2 om) (F 3 om) (F 4 om) (F 12 om) (T 5 h) (T 5 h) tv)
 ·exact aq [bf,bf,bf,bf,bf,bf,bf,bt,bt] (aj8 (F 0 om) (F 1 om) (F 2 om) (F 3 om) (F 4 om) (F 12 om) (F 5 om) (T 6 h) (ai (T 6 h) tv))
 ·exact aq [bf,bf,bf,bf,bf,bf,bf,bf,bt,bt] (aj8 (F 0 om) (F 1 om) (F 2 om) (F 3 om) (F 4 om) (F 12 om) (F 5 om) (F 6 om) (aj2 (T 7 h) (T 7 h) tv))
 ·exact aq [bf,bf,bf,bf,bf,bf,bf,bf,bf,bt,bt] (aj8 (F 0 om) (F 1 om) (F 2 om) (F 3 om) (F 4 om) (F 12 om) (F 5 om) (F 6 om) (aj3 (F 7 om) (T 8 h) (T 8 h) tv))
 ·exact aq [bf,bf,bf,bf,bf,bf,bf,bf,bf,bf,bt,bt] (aj8 (F 0 om) (F 1 om) (F 2 om) (F 3 om) (F 4 om) (F 12 om) (F 5 om) (F 6 om) (aj4 (F 7 om) (F 8 om) (T 9 h) (T 9 h) tv))
 ·exact aq [bf,bf,bf,bf,bf,bf,bf,bf,bf,bf,bf,bt,bt] (aj8 (F 0 om) (F 1 om) (F 2 om) (F 3 om) (F 4 om) (F 12 om) (F 5 om) (F 6 om) (aj5 (F 7 om) (F 8 om) (F 9 om) (T 10 h) (T 10 h) tv))
 ·exact aq [bf,bf,bf,bf,bf,bf,bf,bf,bf,bf,bf,bf,bt] (aj8 (F 0 om) (F 1 om) (F 2 om) (F 3 om) (F 4 om) (F 12 om) (F 5 om) (F 6 om) (aj5 (F 7 om) (F 8 om) (F 9 om) (F 10 om) (T 11 h) tv))
theorem Jm(x:Ex)(a':List Tr)(hl:a'.length=x.args.length):PuC prog gl 278 [exT x a'] (tI (iC x)):=by
 have hA:=Fv gl x.op;have hU:=KJ gl x.op;have hV:=DS gl x.val;have e1:=cB (c:=decide (arN x.op<0)) (p:=arN x.op<0) rfl;have J:=cB (neB (a'.length:Int) (arN x.op));rw[hl]at J;unfold iC
 by_cases h1:arN x.op<0
 ·rw[OG h1];exact aq [.ca (tI (arN x.op)),bt] (aj2 hA (e1.1 h1) tv)
 rw[OF h1]
 by_cases I:(x.args.length:Int)≠arN x.op
 ·rw[OG I];rw[<-hl]at J I;exact aq [.ca (tI (arN x.op)),bf,bt] (aj3 hA (e1.2 h1) (J.1 I) tv)
 rw[OF I];rw[<-hl]at J I;obtain⟨⟨u,f⟩,hu⟩:∃p,lj x.op=p:=⟨_,rfl⟩;rw[hu]at hU ⊢;have e3:=cB (c:=bif bif u then bif decide (x.vr<0) then true else decide (x.vr>=16) else false then true else bif f then bif decide (x.fl<0) then true else decide (x.fl>=8) else false) (by rw[Jo,Jo];exact orB _ _)
 by_cases h3:u=true/\(x.vr<0\/16<=x.vr)\/f=true/\(x.fl<0\/8<=x.fl)
 ·rw[OG h3];exact aq [.ca (tI (arN x.op)),bf,bf,.ca (.tup [tB u,tB f]),bt] (aj5 hA (e1.2 h1) (J.2 I) hU (e3.1 h3) tv)
 rw[OF h3];have e4:=cB (c:=bif x.op==4 then bif decide (x.kd<1) then true else decide (x.kd > 5) else false) (p:=x.op=4/\(x.kd<1\/5<x.kd)) (by by_cases h:x.op=4<;>by_cases h':x.kd<1<;>simp[h,h'])
 by_cases h4:x.op=4/\(x.kd<1\/5<x.kd)
 ·rw[OG h4];exact aq [.ca (tI (arN x.op)),bf,bf,.ca (.tup [tB u,tB f]),bf,bt] (aj6 hA (e1.2 h1) (J.2 I) hU (e3.2 h3) (e4.1 h4) tv)
 rw[OF h4];have e5:=cB (c:=bif x.op==4 then true else x.op==0) (p:=x.op=4\/x.op=0) (by by_cases h:x.op=4<;>by_cases h':x.op=0<;>simp[h,h']);have e6:=cB (c:=bif x.op==4 then bif !dZ x.kd x.val then true else bif x.kd==1 then !bI x.val au else false else false) (p:=x.op=4/\(dZ x.kd x.val=false\/x.kd=1/\bI x.val au=false)) (by
  cases dZ x.kd x.val<;>cases bI x.val au<;>by_cases h:x.op=4<;>by_cases h':x.kd=1<;>simp[h,h'])
 have e7:=cB (c:=bif bif bif bif !u then x.vr != 0 else false then true else bif !f then x.fl != 0 else false then true else bif !x.op==4 then x.kd != 0 else false then true else bif !(bif x.op==4 then true else x.op==0) then !bI x.val au else false)
  (p:=u=false/\x.vr≠0\/f=false/\x.fl≠0\/x.op≠4/\x.kd≠0\/(x.op≠4/\x.op≠0)/\bI x.val au=false) (by
  rw[neB,neB,neB,eqB,eqB];simp only[Bool.decide_or,Bool.decide_and,PG,decide_not];generalize decide (x.vr=0)=a,decide (x.fl=0)=b,decide (x.kd=0)=c,decide (x.op=4)=d,decide (x.op=0)=e,bI x.val au=q
  cases u<;>cases f<;>cases a<;>cases b<;>cases c<;>cases d<;>cases e<;>cases q<;>rfl)
 by_cases Z:x.op=4\/x.op=0
 ·by_cases hv:cQ x.val=0
  ·have gv:(cQ x.val != 0)=false:=jQ hv
   by_cases h6:x.op=4/\(dZ x.kd x.val=false\/x.kd=1/\bI x.val au=false)
   ·have hc:ls x=9:=by unfold ls;rw[OF (jQ hv),OG h6]
    rw[hc,OG ⟨Z,by decide⟩];exact aq [.ca (tI (arN x.op)),bf,bf,.ca (.tup [tB u,tB f]),bf,bf,bt,.ca (tI (cQ x.val)),bf,.ca (tB (dZ x.kd x.val)),.vb (!bI x.val au),bt] (aj8 hA (e1.2 h1) (J.2 I) hU (e3.2 h3) (e4.2 h4) (e5.1 Z) hV (aj4 gv (jV gl x.kd x.val) (eY x.val _ (P2 _).symm) (e6.1 h6) tv))
   ·have hc:ls x=0:=by unfold ls;rw[OF (jQ hv),OF h6]
    rw[hc,OF (fun h=>h.2 rfl)]
    split
    ·rename_i h7;exact aq [.ca (tI (arN x.op)),bf,bf,.ca (.tup [tB u,tB f]),bf,bf,bt,.ca (tI (cQ x.val)),bf,.ca (tB (dZ x.kd x.val)),.vb (!bI x.val au),bf,.vb (!bI x.val au),bt] (aj8 hA (e1.2 h1) (J.2 I) hU (e3.2 h3) (e4.2 h4) (e5.1 Z) hV (aj6 gv (jV gl x.kd x.val) (eY x.val _ (P2 _).symm) (e6.2 h6) (eY x.val _ (P2 _).symm) (e7.1 h7) tv))
    ·rename_i h7;exact aq [.ca (tI (arN x.op)),bf,bf,.ca (.tup [tB u,tB f]),bf,bf,bt,.ca (tI (cQ x.val)),bf,.ca (tB (dZ x.kd x.val)),.vb (!bI x.val au),bf,.vb (!bI x.val au),bf] (aj8 hA (e1.2 h1) (J.2 I) hU (e3.2 h3) (e4.2 h4) (e5.1 Z) hV (aj6 gv (jV gl x.kd x.val) (eY x.val _ (P2 _).symm) (e6.2 h6) (eY x.val _ (P2 _).symm) (e7.2 h7) tv))
  ·have gv:(cQ x.val != 0)=true:=jQ hv;have hc:ls x=cQ x.val:=by unfold ls;rw[OG hv]
   rw[hc,OG ⟨Z,hv⟩];exact aq [.ca (tI (arN x.op)),bf,bf,.ca (.tup [tB u,tB f]),bf,bf,bt,.ca (tI (cQ x.val)),bt] (aj8 hA (e1.2 h1) (J.2 I) hU (e3.2 h3) (e4.2 h4) (e5.1 Z) hV (ai gv tv))
 ·rw[OF (fun h=>Z h.1)];have h6:¬(x.op=4/\(dZ x.kd x.val=false\/x.kd=1/\bI x.val au=false)):=fun h=>Z (.inl h.1)
  split
  ·rename_i h7;exact aq [.ca (tI (arN x.op)),bf,bf,.ca (.tup [tB u,tB f]),bf,bf,bf,.ca (tB (dZ x.kd x.val)),.vb (!bI x.val au),bf,.vb (!bI x.val au),bt] (aj8 hA (e1.2 h1) (J.2 I) hU (e3.2 h3) (e4.2 h4) (e5.2 Z) (jV gl x.kd x.val) (aj4 (eY x.val _ (P2 _).symm) (e6.2 h6) (eY x.val _ (P2 _).symm) (e7.1 h7) tv))
  ·rename_i h7;exact aq [.ca (tI (arN x.op)),bf,bf,.ca (.tup [tB u,tB f]),bf,bf,bf,.ca (tB (dZ x.kd x.val)),.vb (!bI x.val au),bf,.vb (!bI x.val au),bf] (aj8 hA (e1.2 h1) (J.2 I) hU (e3.2 h3) (e4.2 h4) (e5.2 Z) (jV gl x.kd x.val) (aj4 (eY x.val _ (P2 _).symm) (e6.2 h6) (eY x.val _ (P2 _).symm) (e7.2 h7) tv))
end
end
section
section
variable (gl : Nat -> Option (List Tr))
noncomputable def rnI(cs:List V)(k:Int):Sg:=⟨[(0,.box cs)],[⟨27,[(1,.off 0 0 0),(4,.p (tI k))],none,[]⟩],[]⟩
noncomputable def rnF(cs:List V):Sg:=⟨[(0,.box cs)],[⟨27,[],none,[]⟩],[]⟩
noncomputable def rnR(cs:List V)(e:Int):Sg:=⟨[(0,.box cs)],[⟨27,[(2,.p (tI e))],none,[]⟩],[]⟩
noncomputable def rnC:Code:=lpb prog 216 [1,1,0,1,0]
def M8(x:Ex):Prop:=aC x<=1048576->PuC prog gl 216 [cF x] (tI (bL x))
theorem rnL(p Z I J:Int)(v0:Vl)(l:List Ex)(hl:∀x∈l,M8 gl x)(hN:bJ l<=1048576):∀(m k:Nat),k+m=l.length ->
  (cT (l.drop k)=0->LoopP prog gl 0 rnC (rnI (exC p (aD l) Z I J v0) k) (.exit 0) (rnF (exC p (aD l) Z I J v0))) /\
  (cT (l.drop k)≠0->LoopP prog gl 0 rnC (rnI (exC p (aD l) Z I J v0) k) .ret (rnR (exC p (aD l) Z I J v0) (cT (l.drop k)))):=by
 have hlen:(aD l).length=l.length:=by rw[bz,OL]
 have a':=eU l;intro m
 induction m with
 | zero =>
  intro k hk;obtain rfl:k=l.length:=by omega
  rw[Qn,cT];exact⟨fun _=>LoopP.stop [bf] [] [0] jS (ai (show decide ((l.length:Int)<((aD l).length:Nat))=false by rw[hlen];simp) tv),fun h=>(h rfl).elim⟩
 | succ m ih =>
  intro k hk;have hx:k<l.length:=by omega
  rw[mW (OH hx)];have hp:=hl _ (OX hx) (OP (jk (OX hx)) hN);have h1:(aD l)[((k:Int)).toNat]?=some (cF l[k]):=by rw[bz];simp[hx]
  generalize l[k]=x at hp h1;have h2:=ih (k+1) om;have hc:decide ((k:Int)<((aD l).length:Nat))=true:=by rw[hlen];simp;omega
  have w2:IntKind.i64.wrap ((k:Int)+1)=((k+1:Nat):Int):=by rw[Pv];omega
  rw[<-w2]at h2
  cases x with
  | mk op l2 vr fl kd v =>
   by_cases he:bL (.mk op l2 vr fl kd v)=0
   ·rw[OF (jQ he)];rw[he]at hp;exact⟨fun h0=>LoopP.next [bt,.el (cF (.mk op l2 vr fl kd v)),.ca (tI 0),bf] [1,4] [0] rfl (h2.1 h0) (aj5 hc h1 (PO k) hp (show ((0:Int) != 0)=false from rfl) tv),
     fun h0=>LoopP.next [bt,.el (cF (.mk op l2 vr fl kd v)),.ca (tI 0),bf] [1,4] [0] rfl (h2.2 h0) (aj5 hc h1 (PO k) hp (show ((0:Int) != 0)=false from rfl) tv)⟩
   ·rw[OG he];exact⟨fun h0=>(he h0).elim,fun _=>LoopP.stop [bt,.el (cF (.mk op l2 vr fl kd v)),.ca (tI (bL (.mk op l2 vr fl kd v))),bt] [2] [0] jS
     (aj5 hc h1 (PO k) hp (show (bL (.mk op l2 vr fl kd v) != 0)=true from jQ he) tv)⟩
mutual
theorem zB:∀(x:Ex),M8 gl x
 | .mk op l vr fl kd v=>fun h=>by
  rw[aC]at h;have I:=Jm gl (.mk op l vr fl kd v) (aD l) (by rw[bz,OL];rfl);have hL:=rnL gl op vr fl kd v l (yz l) om l.length 0 om;rw[PN]at hL;rw[bL];generalize iC (.mk op l vr fl kd v)=e at I ⊢
  by_cases he:e=0
  ·subst he;rw[OF jS]
   by_cases h0:cT l=0
   ·rw[h0];exact aq [.ca (tI 0),bf,.lo [1,4] (.exit 0) (rnF (exC op (aD l) vr fl kd v))] (aj3 I (show ((0:Int) != 0)=false from rfl) (hL.1 h0) tv)
   ·exact aq [.ca (tI 0),bf,.lo [1,4] .ret (rnR (exC op (aD l) vr fl kd v) (cT l))] (aj3 I (show ((0:Int) != 0)=false from rfl) (hL.2 h0) tv)
  ·rw[OG he];exact aq [.ca (tI e),bt] (aj2 I (show (e != 0)=true from jQ he) tv)
theorem yz:∀(l:List Ex),∀x∈l,M8 gl x
 | [],x,hx=>by cases hx
 | y::l,x,hx=>by
  rcases List.mem_cons.1 hx with h|h
  ·exact h▸zB y
  ·exact yz l x h
end
theorem yx(x:Ex)(h:aC x<=1048576):PuC prog gl 151 [cF x] (tI (gV x)):=by
 have hs:=uY gl 64 x h;have J:=uV gl x h;have hv:=zB gl x h;have hi:=rQ 64 x;unfold gV;have e1:=cB (c:=decide (((cS 64 x:Nat):Int) > 64)) (p:=64<aC x) (by simp;omega);have Z:=cB (c:=decide (((bD x:Nat):Int) > 12)) (p:=12<bD x) (by simp;omega)
 cases x with
 | mk op l vr fl kd v =>
  split
  ·rename_i h1;exact aq [.ca (tI (cS 64 (.mk op l vr fl kd v):Nat)),bt] (aj2 hs (e1.1 h1) tv)
  ·rename_i h1
   split
   ·rename_i I;exact aq [.ca (tI (cS 64 (.mk op l vr fl kd v):Nat)),bf,.ca (tI (bD (.mk op l vr fl kd v):Nat)),bt] (aj4 hs (e1.2 h1) J (Z.1 I) tv)
   ·rename_i I;exact aq [.ca (tI (cS 64 (.mk op l vr fl kd v):Nat)),bf,.ca (tI (bD (.mk op l vr fl kd v):Nat)),bf,.ca (tI (bL (.mk op l vr fl kd v)))] (aj5 hs (e1.2 h1) J (Z.2 I) hv tv)
end
end
end Go.Proofs.YteemngnialjaiaaGreatDoor
