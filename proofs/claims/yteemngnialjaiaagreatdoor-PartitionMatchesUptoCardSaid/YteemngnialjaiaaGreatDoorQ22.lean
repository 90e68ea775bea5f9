/- Part. -/
import Derived.Test.YteemngnialjaiaaGreatDoorQ21
import Derived.Test.YteemngnialjaiaaGreatDoorQ19
set_option maxRecDepth 100000
set_option maxHeartbeats 16000000
set_option linter.unusedVariables false
set_option linter.unusedSimpArgs false
namespace Go.Proofs.YteemngnialjaiaaGreatDoor
open Go.Proofs.Tryz Go.RowKit
variable {α H:Type}{w W W' X Y:World}{base d b p k i e n0 n1 o:Nat}{spare:Nat->Bool}{held:Bool}{l:List Ex}{x:Ex}{v:Value}{B:Option Nat}{Q I:Nat->Prop}
section
open Go.ChangeShapes Go.WideShapes Go.ChangeAt Go.RowKit Go.Deep
inductive Pt
 | mk (op:Int) (args:List Pt) (ty vr sc sp:Int) (cond:Ex)
def Pt.op:Pt->Int|.mk a _ _ _ _ _ _=>a
def Pt.args:Pt->List Pt|.mk _ a _ _ _ _ _=>a
def Pt.ty:Pt->Int|.mk _ _ a _ _ _ _=>a
def Pt.vr:Pt->Int|.mk _ _ _ a _ _ _=>a
def Pt.sc:Pt->Int|.mk _ _ _ _ a _ _=>a
def Pt.sp:Pt->Int|.mk _ _ _ _ _ a _=>a
def Pt.cond:Pt->Ex|.mk _ _ _ _ _ _ a=>a
mutual
def ptB:Pt->Nat
 | .mk _ l _ _ _ _ c=>1+ll l+aC c
def ll:List Pt->Nat
 | []=>0
 | a::r=>ptB a+ll r
end
theorem lK(x:Pt):ptB x=1+ll x.args+aC x.cond:=by cases x;rw[ptB];rfl
theorem wV(l:List Pt):ll l=(l.map ptB).sum:=by
 induction l with
 | nil=>rw[ll];rfl
 | cons a r h=>rw[ll,h];rfl
def ra:Nat->World->Nat->Nat->Pt->Prop
 | 0=>fun _ _ _ _=>False
 | d+1=>fun w b p x=>∃v,Sl (ra d) 14 w v x.args/\w.cell? ⟨b,p,none⟩=some (OB x.op)/\w.cell? ⟨b,p+1,none⟩=some v /\
   w.cell? ⟨b,p+2,none⟩=some (OB x.ty)/\w.cell? ⟨b,p+3,none⟩=some (OB x.vr)/\w.cell? ⟨b,p+4,none⟩=some (OB x.sc)/\w.cell? ⟨b,p+5,none⟩=some (OB x.sp)/\rS d w b (p+6) x.cond
theorem bK(d:Nat):jU (ra d):=by
 induction d with
 | zero=>exact fun _ _ _ _ _ _ h=>h
 | succ d J=>exact fun _ _ _ _ _ hb ⟨v,Z,h0,h1,h2,h3,h4,h5,I⟩=>⟨v,Z.stays J hb,aa hb h0,aa hb h1,aa hb h2,aa hb h3,aa hb h4,aa hb h5,bi d _ _ _ _ _ hb I⟩
theorem EO(d:Nat):∀(w:World)(b p:Nat)(x:Pt),ra d w b p x->ra (d+1) w b p x:=by
 induction d with
 | zero=>exact fun _ _ _ _ h=>h.elim
 | succ d J=>exact fun w b p x ⟨v,Z,h0,h1,h2,h3,h4,h5,I⟩=>⟨v,pi (fun b p x=>J w b p x) Z,h0,h1,h2,h3,h4,h5,sD d _ _ _ _ I⟩
abbrev dg(d:Nat)(w:World)(v:Value)(l:List Pt):Prop:=Sl (ra d) 14 w v l
def ptV(x:Pt)(v vc:Value):Value:=.agg #[OB x.op,v,OB x.ty,OB x.vr,OB x.sc,OB x.sp,
 OB x.cond.op,vc,OB x.cond.vr,OB x.cond.fl,OB x.cond.kd,OB x.cond.val.kind,OB x.cond.val.num,.string x.cond.val.text]
theorem td:prog.cellsOf 31=14:=kr
theorem tG:prog.cellsOf 24=1:=kr
theorem LN{l:List α}(h:l.length=7):∃a b c d e f g,l=[a,b,c,d,e,f,g]:=by
 match l,h with
 | [a,b,c,d,e,f,g],_=>exact⟨a,b,c,d,e,f,g,rfl⟩
theorem Iv{l:List α}(h:l.length=14):∃a b c d e f g i j k m n o p,l=[a,b,c,d,e,f,g,i,j,k,m,n,o,p]:=by
 match l,h with
 | [a,b,c,d,e,f,g,i,j,k,m,n,o,p],_=>exact⟨a,b,c,d,e,f,g,i,j,k,m,n,o,p,rfl⟩
section
variable {enc:TypeId×Value->H}
theorem Ly(fuel:Nat):∀(n:Nat),n<=fuel->∀(b o:Nat)(cs:List Value)(y:DataW H × List MemPlace),cs.length=14->(∀(j:Nat)(u:Value),cs[j]?=some u->w.cell? ⟨b,o+j,none⟩=some u) ->
  DataW.trod enc prog w base spare held n 31 cs=some y->∃x,ra fuel w b o x/\ptB x<=Rows.uptoBulk y.1:=by
 induction fuel with
 | zero =>
  intro n hn b o cs y hl I h;obtain⟨xs,m,hm,_⟩:=Qz underlying31 h;omega
 | succ fuel ih =>
  intro n hn b o cs y hl I h;obtain⟨c0,c1,c2,c3,c4,c5,c6,c7,c8,c9,f',d',c',h',rfl⟩:=Iv hl;obtain⟨xs,m,hm,hy,_,J,hf⟩:=Qz underlying31 h;obtain⟨x0,x1,x2,x3,x4,x5,x6,rfl⟩:=LN (jQ J);have f0:=hf 0 _ rfl;have f1:=hf 1 _ rfl;have f2:=hf 2 _ rfl;have f3:=hf 3 _ rfl;have f4:=hf 4 _ rfl;have f5:=hf 5 _ rfl;have f6:=hf 6 _ rfl;simp[dP,tG,mg]at f0 f1 f2 f3 f4 f5 f6;obtain⟨k0,e0,_⟩:=Pm underlying3 f0;obtain⟨k2,e2,_⟩:=Pm underlying3 f2;obtain⟨Z,e3,_⟩:=Pm underlying3 f3;obtain⟨k4,e4,_⟩:=Pm underlying3 f4;obtain⟨k5,e5,_⟩:=Pm underlying3 f5;obtain⟨ex,hex,g'⟩:=Dw fuel m om b (o+6) _ x6 rfl (fun j u hj=>by have:=I (j+6) u (jQ hj);rw[PP,Nat.add_comm 6 j];exact this) f6;obtain⟨l,a',i'⟩:=mx (m:=ptB) underlying24 td dc (fun n b o cs y hn h1 h2 h3=>ih n om b o cs y h1 h2 h3) f1;simp only[PJ,PU]at e0 e2 e3 e4 e5;subst e0 e2 e3 e4 e5;refine⟨.mk k0 l k2 Z k4 k5 ex,⟨c1,a',I 0 _ rfl,I 1 _ rfl,I 2 _ rfl,I 3 _ rfl,I 4 _ rfl,I 5 _ rfl,hex⟩,?_⟩;subst hy;rw[lK,show (Pt.mk k0 l k2 Z k4 k5 ex).args=l from rfl,show (Pt.mk k0 l k2 Z k4 k5 ex).cond=ex from rfl,wV];have h1:Rows.uptoBulkAll [x0.1,x1.1,x2.1,x3.1,x4.1,x5.1,x6.1]=Rows.uptoBulk x0.1+(Rows.uptoBulk x1.1+(Rows.uptoBulk x2.1+(Rows.uptoBulk x3.1+(Rows.uptoBulk x4.1+(Rows.uptoBulk x5.1+(Rows.uptoBulk x6.1+0)))))):=rfl;simp only[Rows.uptoBulk,OU,P6];omega
end
theorem J5{x:Pt}(h:ra d w b p x):∃I v,d=I+1/\dg I w v x.args/\w.cell? ⟨b,p,none⟩=some (OB x.op)/\w.cell? ⟨b,p+1,none⟩=some v /\
  w.cell? ⟨b,p+2,none⟩=some (OB x.ty)/\w.cell? ⟨b,p+3,none⟩=some (OB x.vr)/\w.cell? ⟨b,p+4,none⟩=some (OB x.sc)/\w.cell? ⟨b,p+5,none⟩=some (OB x.sp)/\rS I w b (p+6) x.cond:=by
 cases d with
 | zero=>exact h.elim
 | succ d =>
  obtain⟨v,Z,h0,h1,h2,h3,h4,h5,J⟩:=h;exact⟨d,v,rfl,Z,h0,h1,h2,h3,h4,h5,J⟩
end
mutual
def fY:Ex->Ex->Bool
 | .mk o l a b c v,.mk o' l' a' b' c' v'=>decide (o=o')&&decide (a=a')&&decide (b=b')&&decide (c=c')&&bI v v'&&cD l l'
def cD:List Ex->List Ex->Bool
 | [],[]=>true
 | x::r,y::s=>fY x y&&cD r s
 | _,_=>false
end
def zz:Ex:=.mk 0 [] 0 0 0 au
mutual
def ptN:Pt->Nat
 | .mk _ l _ _ _ _ _=>1+cE l
def cE:List Pt->Nat
 | []=>0
 | a::r=>ptN a+cE r
end
mutual
def ptD:Pt->Nat
 | .mk _ l _ _ _ _ _=>gB l+1
def gB:List Pt->Nat
 | []=>0
 | a::r=>max (ptD a) (gB r)
end
mutual
def aV:Pt->List Pt
 | .mk o l a b c d e=>.mk o l a b c d e::dq l
def dq:List Pt->List Pt
 | []=>[]
 | a::r=>aV a++dq r
end
theorem cK(x:Pt):ptN x=1+cE x.args:=by cases x;rw[ptN];rfl
theorem Fj(x:Pt):ptD x=gB x.args+1:=by cases x;rw[ptD];rfl
theorem fG(x:Pt):aV x=x::dq x.args:=by cases x;rw[aV];rfl
mutual
theorem gm:∀x,(aV x).length=ptN x
 | .mk o l a b c d e=>by rw[aV,ptN,Pk,tz l];omega
theorem tz:∀l,(dq l).length=cE l
 | []=>by rw[dq,cE];rfl
 | a::r=>by rw[dq,cE,OM,gm a,tz r]
end
mutual
theorem iL:∀x,ptN x<=ptB x
 | .mk o l a b c d e=>by have:=Ds l;rw[ptN,ptB];omega
theorem Ds:∀l,cE l<=ll l
 | []=>by rw[cE,ll];omega
 | a::r=>by have:=iL a;have:=Ds r;rw[cE,ll];omega
end
def ee(op:Int):Bool:=decide (op=0\/op=5\/op=9)
def sf(op:Int):Bool:=decide (op=0\/op=5\/op=7\/op=9)
def fL(op:Int):Bool:=decide (op=6\/op=10)
def iq(op:Int):Bool:=decide (op=5\/op=9) || fL op
def li(op:Int)(n:Nat):Bool:=if op=0 then decide (n=0) else if 1<=op/\op<=3 then decide (2<=n) else if op=8 then decide (n=2) else decide (n=1)
def gg(u:Bool)(n m:Int):Bool:=u&&(decide (n<0) || decide (m<n))
def ptE(x:Pt):Int :=
 if x.op<0\/10<x.op then 1 else if li x.op x.args.length=false then 15
 else if gg (ee x.op) x.ty 15 || gg (ee x.op) x.vr 15 || gg (iq x.op) x.sc 63 || gg (fL x.op) x.sp 1099511627776 then 2
 else if sf x.op=true/\gV x.cond≠0 then gV x.cond
 else if (ee x.op=false/\(x.ty≠0\/x.vr≠0))\/(iq x.op=false/\x.sc≠0)\/(fL x.op=false/\x.sp≠0)\/(sf x.op=false/\fY x.cond zz=false) then 3 else 0
def fy:List Int->Int
 | []=>0
 | a::r=>if a≠0 then a else fy r
def dB(x:Pt):Int:=if 64<ptN x then 5 else if 12<ptD x then 12 else fy ((aV x).map ptE)
def cR:Int->Int->List Pt->Bool
 | _,_,[]=>true
 | v,s,x::r=>(!ee x.op || decide (x.vr=v))&&(!iq x.op || decide (x.sc=s))&&cR (if ee x.op then v+1 else v) (if iq x.op then s+1 else s) r
def fx(x:Pt):Int:=if dB x≠0 then dB x else if (aV x).any (fun y=>decide (8<=y.op)) then 1 else if cR 0 0 (aV x) then 0 else 14
theorem sI(x y:Ex):fY x y=(decide (x.op=y.op)&&decide (x.vr=y.vr)&&decide (x.fl=y.fl)&&decide (x.kd=y.kd)&&bI x.val y.val&&cD x.args y.args):=by
 cases x;cases y;rw[fY];rfl
theorem kh:∀{l m:List Ex},l.length≠m.length->cD l m=false
 | [],[],h=>absurd rfl h
 | [],_::_,_=>by simp[cD]
 | _::_,[],_=>by simp[cD]
 | a::l,b::m,h=>by rw[cD,kh (l:=l) (m:=m) (jQ h),Bool.and_false]
theorem mZ{m:List Ex}{a b:Ex}(h:l[k]?=some a)(I:m[k]?=some b):cD (l.drop k) (m.drop k)=(fY a b&&cD (l.drop (k+1)) (m.drop (k+1))):=by
 obtain⟨h1,rfl⟩:=List.getElem?_eq_some_iff.1 h;obtain⟨J,rfl⟩:=List.getElem?_eq_some_iff.1 I;rw[PE h1,PE J,cD]
section
section
variable (gl : Nat -> Option (List Tr))
theorem Fq(v u:Vl):Cz prog .neq 27 (vlV v) (vlV u) (!bI v u):=fun w=>Cr v u w
noncomputable def saI(cs h:List V)(n k:Int):Sg:=⟨[(0,.box cs),(1,.box h)],[⟨67,[(2,.off 0 0 0),(3,.off 1 0 0),(50,.p (tI n)),(51,.p (tI k))],none,[]⟩],[]⟩
noncomputable def saF(cs h:List V):Sg:=⟨[(0,.box cs),(1,.box h)],[⟨67,[],none,[]⟩],[]⟩
noncomputable def saR(cs h:List V):Sg:=⟨[(0,.box cs),(1,.box h)],[⟨67,[(4,.p (tB false))],none,[]⟩],[]⟩
noncomputable def saC:Code:=lpb prog 299 [1,1,0,1,0]
def Ou(x:Ex):Prop:=aC x<=1048576->∀y,PuC prog gl 299 [cF x,cF y] (tB (fY x y))
theorem saL(p vr fl kd p' I a' Z:Int)(v v':Vl)(l m:List Ex)(hl:∀x∈l,Ou gl x)(hN:bJ l<=1048576)(l':l.length=m.length):∀(r k:Nat),k+r=l.length ->
  (cD (l.drop k) (m.drop k)=true->LoopP prog gl 0 saC (saI (exC p (aD l) vr fl kd v) (exC p' (aD m) I a' Z v') l.length k) (.exit 0) (saF (exC p (aD l) vr fl kd v) (exC p' (aD m) I a' Z v'))) /\
  (cD (l.drop k) (m.drop k)=false->LoopP prog gl 0 saC (saI (exC p (aD l) vr fl kd v) (exC p' (aD m) I a' Z v') l.length k) .ret (saR (exC p (aD l) vr fl kd v) (exC p' (aD m) I a' Z v'))):=by
 have m':=eU l;intro r
 induction r with
 | zero =>
  intro k hk;obtain rfl:k=l.length:=by omega
  rw[Qn,l',Qn,cD];rw[<-l'];exact⟨fun _=>LoopP.stop [bf] [] [0,1] jS (ai (show decide ((l.length:Int)<(l.length:Nat))=false by simp) tv),fun h=>by cases h⟩
 | succ r ih =>
  intro k hk;have hx:k<l.length:=by omega
  have hy:k<m.length:=by omega
  rw[mZ (OH hx) (OH hy)];have hp:=hl _ (OX hx) (OP (jk (OX hx)) hN) m[k];have h1:(aD l)[((k:Int)).toNat]?=some (cF l[k]):=by rw[bz];simp[hx]
  have J:(aD m)[((k:Int)).toNat]?=some (cF m[k]):=by rw[bz];simp[hy]
  generalize l[k]=x at hp h1;generalize m[k]=y at hp J;have h2:=ih (k+1) om;have hc:decide ((k:Int)<(l.length:Nat))=true:=by simp;omega
  have w2:IntKind.i64.wrap ((k:Int)+1)=((k+1:Nat):Int):=by rw[Pv];omega
  rw[<-w2]at h2;generalize fY x y=s at hp
  cases x with
  | mk c' l1 i' k' j' v1 =>
   cases y with
   | mk g' l2 h' f' d' v2 =>
    cases s with
    | true =>
     rw[QQ];exact⟨fun h0=>LoopP.next [bt,.el (cF (.mk c' l1 i' k' j' v1)),.el (cF (.mk g' l2 h' f' d' v2)),.ca (tB true),bf] [2,3,50,51] [0,1] rfl (h2.1 h0) (aj7 hc h1 (PO k) J (PO k) hp (show (!true)=false from rfl) tv),
      fun h0=>LoopP.next [bt,.el (cF (.mk c' l1 i' k' j' v1)),.el (cF (.mk g' l2 h' f' d' v2)),.ca (tB true),bf] [2,3,50,51] [0,1] rfl (h2.2 h0) (aj7 hc h1 (PO k) J (PO k) hp (show (!true)=false from rfl) tv)⟩
    | false =>
     rw[Bool.false_and];exact⟨fun h=>(by cases h),fun _=>LoopP.stop [bt,.el (cF (.mk c' l1 i' k' j' v1)),.el (cF (.mk g' l2 h' f' d' v2)),.ca (tB false),bt] [4] [0,1] jS (aj7 hc h1 (PO k) J (PO k) hp (show (!false)=true from rfl) tv)⟩
mutual
theorem GT:∀(x:Ex),Ou gl x
 | .mk op l vr fl kd v=>fun h y=>by
  rw[aC]at h;rw[sI];have hlen:∀l:List Ex,(aD l).length=l.length:=fun l=>by rw[bz,OL]
  cases y with
  | mk I m J a' Z v' =>
   show PuC prog gl 299 [cF (.mk op l vr fl kd v),cF (.mk I m J a' Z v')] (tB (decide (op=I)&&decide (vr=J)&&decide (fl=a')&&decide (kd=Z)&&bI v v'&&cD l m));have hq:=Fq v v';generalize bI v v'=q at hq ⊢;have e:=cB (c:=bif bif bif bif bif op != I then true else vr != J then true else fl != a' then true else kd != Z then true else !q then true else ((aD l).length:Int) != ((aD m).length:Nat))
    (p:=¬((op=I/\vr=J/\fl=a'/\kd=Z/\q=true)/\l.length=m.length)) (by
     rw[hlen,hlen,neB,neB,neB,neB,neB]
     by_cases h1:op=I<;>by_cases h2:vr=J<;>by_cases h3:fl=a'<;>by_cases h4:kd=Z<;>cases q<;>by_cases h5:l.length=m.length<;>simp[h1,h2,h3,h4,h5]<;>omega)
   by_cases hc:(op=I/\vr=J/\fl=a'/\kd=Z/\q=true)/\l.length=m.length
   ·have g:=e.2 (fun h=>h hc);obtain⟨⟨rfl,rfl,rfl,rfl,rfl⟩,h5⟩:=hc;have hL:=saL gl op vr fl kd op vr fl kd v v' l m (IS l) om h5 l.length 0 om;rw[PN,PN]at hL;rw[<-hlen l]at hL;simp only[QJ,QQ]
    cases hs:cD l m with
    | true=>exact aq [.vb (!true),bf,.lo [2,3,50,51] (.exit 0) (saF (exC op (aD l) vr fl kd v) (exC op (aD m) vr fl kd v'))] (aj3 hq g (hL.1 hs) tv)
    | false=>exact aq [.vb (!true),bf,.lo [2,3,50,51] .ret (saR (exC op (aD l) vr fl kd v) (exC op (aD m) vr fl kd v'))] (aj3 hq g (hL.2 hs) tv)
   ·have g:=e.1 hc;have hf:(decide (op=I)&&decide (vr=J)&&decide (fl=a')&&decide (kd=Z)&&q&&cD l m)=false:=by
     by_cases h5:l.length=m.length
     ·by_cases h1:op=I<;>by_cases h2:vr=J<;>by_cases h3:fl=a'<;>by_cases h4:kd=Z<;>cases q<;>simp_all
     ·rw[kh h5,Bool.and_false]
    rw[hf];exact aq [.vb (!q),bt] (aj2 hq g tv)
theorem IS:∀(l:List Ex),∀x∈l,Ou gl x
 | [],x,hx=>by cases hx
 | y::l,x,hx=>by
  rcases List.mem_cons.1 hx with h|h
  ·exact h▸GT y
  ·exact IS l x h
end
end
end
section
section
variable (gl : Nat -> Option (List Tr))
noncomputable def rsI(cs cs':List V)(k:Int):Sg:=⟨[(0,.box cs),(1,.box cs')],[⟨67,[(2,.off 0 0 0),(3,.off 1 0 0),(5,.p (tI k))],none,[]⟩],[]⟩
noncomputable def rsF(cs cs':List V):Sg:=⟨[(0,.box cs),(1,.box cs')],[⟨67,[],none,[]⟩],[]⟩
noncomputable def rsR(cs cs':List V):Sg:=⟨[(0,.box cs),(1,.box cs')],[⟨67,[(4,.p (tB false))],none,[]⟩],[]⟩
noncomputable def rsC:Code:=lpb prog 259 [1,1,0,1,0]
def Ni(x:Ex):Prop:=aC x<=1048576->∀y,PuC prog gl 259 [cF x,cF y] (tB (fY x y))
theorem rsL(p vr fl kd p' I a' Z:Int)(v v':Vl)(l m:List Ex)(hl:∀x∈l,Ni gl x)(hN:bJ l<=1048576)(l':l.length=m.length):∀(r k:Nat),k+r=l.length ->
  (cD (l.drop k) (m.drop k)=true->LoopP prog gl 0 rsC (rsI (exC p (aD l) vr fl kd v) (exC p' (aD m) I a' Z v') k) (.exit 0) (rsF (exC p (aD l) vr fl kd v) (exC p' (aD m) I a' Z v'))) /\
  (cD (l.drop k) (m.drop k)=false->LoopP prog gl 0 rsC (rsI (exC p (aD l) vr fl kd v) (exC p' (aD m) I a' Z v') k) .ret (rsR (exC p (aD l) vr fl kd v) (exC p' (aD m) I a' Z v'))):=by
 have m':=eU l;have hlen:(aD l).length=l.length:=by rw[bz,OL]
 intro r
 induction r with
 | zero =>
  intro k hk;obtain rfl:k=l.length:=by omega
  rw[Qn,show m.drop l.length=[] by rw[l',Qn],cD];exact⟨fun _=>LoopP.stop [bf] [] [0,1] jS (ai (show decide ((l.length:Int)<((aD l).length:Nat))=false by rw[hlen];simp) tv),fun h=>by cases h⟩
 | succ r ih =>
  intro k hk;have hx:k<l.length:=by omega
  have hy:k<m.length:=by omega
  rw[mZ (OH hx) (OH hy)];have hp:=hl _ (OX hx) (OP (jk (OX hx)) hN) m[k];have h1:(aD l)[((k:Int)).toNat]?=some (cF l[k]):=by rw[bz];simp[hx]
  have J:(aD m)[((k:Int)).toNat]?=some (cF m[k]):=by rw[bz];simp[hy]
  generalize l[k]=x at hp h1;generalize m[k]=y at hp J;have h2:=ih (k+1) om;have hc:decide ((k:Int)<((aD l).length:Nat))=true:=by rw[hlen];simp;omega
  have w2:IntKind.i64.wrap ((k:Int)+1)=((k+1:Nat):Int):=by rw[Pv];omega
  rw[<-w2]at h2;generalize fY x y=s at hp
  cases x with
  | mk c' l1 i' k' j' v1 =>
   cases y with
   | mk g' l2 h' f' d' v2 =>
    cases s with
    | true =>
     rw[QQ];exact⟨fun h0=>LoopP.next [bt,.el (cF (.mk c' l1 i' k' j' v1)),.el (cF (.mk g' l2 h' f' d' v2)),.ca (tB true),bf] [2,3,5] [0,1] rfl (h2.1 h0) (aj7 hc h1 (PO k) J (PO k) hp (show (!true)=false from rfl) tv),
      fun h0=>LoopP.next [bt,.el (cF (.mk c' l1 i' k' j' v1)),.el (cF (.mk g' l2 h' f' d' v2)),.ca (tB true),bf] [2,3,5] [0,1] rfl (h2.2 h0) (aj7 hc h1 (PO k) J (PO k) hp (show (!true)=false from rfl) tv)⟩
    | false =>
     rw[Bool.false_and];exact⟨fun h=>(by cases h),fun _=>LoopP.stop [bt,.el (cF (.mk c' l1 i' k' j' v1)),.el (cF (.mk g' l2 h' f' d' v2)),.ca (tB false),bt] [4] [0,1] jS (aj7 hc h1 (PO k) J (PO k) hp (show (!false)=true from rfl) tv)⟩
mutual
theorem CC:∀(x:Ex),Ni gl x
 | .mk op l vr fl kd v=>fun h y=>by
  rw[aC]at h;rw[sI];have hlen:∀l:List Ex,(aD l).length=l.length:=fun l=>by rw[bz,OL]
  cases y with
  | mk I m J a' Z v' =>
   show PuC prog gl 259 [cF (.mk op l vr fl kd v),cF (.mk I m J a' Z v')] (tB (decide (op=I)&&decide (vr=J)&&decide (fl=a')&&decide (kd=Z)&&bI v v'&&cD l m));have hq:=Fq v v';generalize bI v v'=q at hq ⊢;have e:=cB (c:=bif bif bif bif bif op != I then true else vr != J then true else fl != a' then true else kd != Z then true else !q then true else ((aD l).length:Int) != ((aD m).length:Nat))
    (p:=¬((op=I/\vr=J/\fl=a'/\kd=Z/\q=true)/\l.length=m.length)) (by
     rw[hlen,hlen,neB,neB,neB,neB,neB]
     by_cases h1:op=I<;>by_cases h2:vr=J<;>by_cases h3:fl=a'<;>by_cases h4:kd=Z<;>cases q<;>by_cases h5:l.length=m.length<;>simp[h1,h2,h3,h4,h5]<;>omega)
   by_cases hc:(op=I/\vr=J/\fl=a'/\kd=Z/\q=true)/\l.length=m.length
   ·have g:=e.2 (fun h=>h hc);obtain⟨⟨rfl,rfl,rfl,rfl,rfl⟩,h5⟩:=hc;have hL:=rsL gl op vr fl kd op vr fl kd v v' l m (De l) om h5 l.length 0 om;rw[PN,PN]at hL;simp only[QJ,QQ]
    cases hs:cD l m with
    | true=>exact aq [.vb (!true),bf,.lo [2,3,5] (.exit 0) (rsF (exC op (aD l) vr fl kd v) (exC op (aD m) vr fl kd v'))] (aj3 hq g (hL.1 hs) tv)
    | false=>exact aq [.vb (!true),bf,.lo [2,3,5] .ret (rsR (exC op (aD l) vr fl kd v) (exC op (aD m) vr fl kd v'))] (aj3 hq g (hL.2 hs) tv)
   ·have g:=e.1 hc;have hf:(decide (op=I)&&decide (vr=J)&&decide (fl=a')&&decide (kd=Z)&&q&&cD l m)=false:=by
     by_cases h5:l.length=m.length
     ·by_cases h1:op=I<;>by_cases h2:vr=J<;>by_cases h3:fl=a'<;>by_cases h4:kd=Z<;>cases q<;>simp_all
     ·rw[kh h5,Bool.and_false]
    rw[hf];exact aq [.vb (!q),bt] (aj2 hq g tv)
theorem De:∀(l:List Ex),∀x∈l,Ni gl x
 | [],x,hx=>by cases hx
 | y::l,x,hx=>by
  rcases List.mem_cons.1 hx with h|h
  ·exact h▸CC y
  ·exact De l x h
end
end
end
theorem DZ(d:Nat)(x:Ex)(v:Value)(w:World)(I:bZ d w v x.args)(h:aC x<=1048576) :
  OE 42 #[exV x v] w (OB (gV x)):=mU (vs:=[_]) (Dx _ x h) (eW (Mg I) BO)
theorem BA(d:Nat)(x:Ex)(v:Value)(w:World)(I:bZ d w v x.args)(h:aC x<=1048576) :
  OE 151 #[exV x v] w (OB (gV x)):=mU (vs:=[_]) (yx _ x h) (eW (Mg I) BO)
def lD(vs:List (List Evt))(own:Int)(ev:Evt)(x:Ex):Vl × Int:=if gV x≠0 then (au,gV x) else dK vs own ev x
theorem tA(h:gV x=0):bL x=0:=by
 unfold gV at h
 split at h
 ·exact absurd h dc
 ·split at h
  ·exact absurd h dc
  ·exact h
theorem D8(d:Nat)(vs:List (List Evt))(v:Value)(own:Int)(ev:Evt)(u:Value)(h':∀k,(bR vs k).length<=1048576)(x:Ex)(vx:Value)(w:World)(hv:dU w v vs)(hu:bh w u ev.vals)(hx:bZ d w vx x.args)(hN:aC x<=1048576) :
  OE 18 #[exV x vx,.agg #[v],OB own,cM ev u] w (.tuple #[vlV (lD vs own ev x).1,OB (lD vs own ev x).2]):=by
 have d':=jD (fun W (hW:OD w W)=>DZ d x vx W (hx.stays (bi d) hW) hN);have l':=jD (fun m W (hW:OD w W) (hm:OpsAt W m) (hn:bL x=0)=>FF vs v own ev u m h' d x vx W (hv.stays cz hW) (hu.stays aG hW) hm (hx.stays (bi d) hW) hn);obtain⟨⟨RV,re⟩,hR⟩:∃r,lD vs own ev x=r:=⟨_,rfl⟩;obtain⟨ce,c'⟩:∃c,gV x=c:=⟨_,rfl⟩;obtain⟨⟨QV,qe⟩,hQ⟩:∃r,dK vs own ev x=r:=⟨_,rfl⟩;have HR:Hid ((if ce≠0 then (au,ce) else (QV,qe))=(RV,re)):=jD (by rw[<-hR,<-c',<-hQ];rfl);have HN:Hid (ce=0->bL x=0):=jD (fun h=>tA (c'.trans h));rw[hR];rw[c']at d';rw[hQ]at l';clear hR c' hQ h';obtain⟨op,l,vr,fl,kd,vl⟩:=x;obtain⟨A,c,rfl,-⟩:=hv;obtain⟨Au,cu,rfl,-⟩:=hu;obtain⟨Ax,cx,rfl,-⟩:=hx;unfold exV cM oS at *;simp only[Ex.op,Ex.args,Ex.vr,Ex.fl,Ex.kd,Ex.val]at *;unfold vlV at *;clear hN;go_enter func18,ntmps18;go_wp2_with fail;refine aJ fun W9 e9=>?_
 have hX:W9.heap[w.heap.size]?=some (.cells [.int .i64 op,.slice Ax l.length cx,.int .i64 vr,.int .i64 fl,.int .i64 kd,.int .i64 vl.kind,.int .i64 vl.num,.string vl.text].toArray 29 (0,0)):=by
  rw[e9];repeat (first|exact ax _ _ _ jS|apply aI)
 have hE:W9.heap[w.heap.size+1]?=some (.cells [.slice A vs.length c].toArray 65 (0,0)):=by
  rw[e9];repeat (first|exact ax _ _ _ jS|apply aI)
 have hV:W9.heap[w.heap.size+1+1]?=some (.cells [.int .i64 ev.src,.int .i64 ev.sq,.int .i64 ev.ty,.int .i64 ev.tm,.slice Au ev.vals.length cu].toArray 71 (0,0)):=by
  rw[e9];repeat (first|exact ax _ _ _ jS|apply aI)
 have hB:VBox W9 (w.heap.size+1+1+1):=⟨OB 0,OB 0,.string ⟨#[]⟩,by rw[e9];repeat (first|exact ax _ _ _ jS|apply aI)⟩;have f':OD w W9:=gb e9;clear e9;refine (d'.out _ f').mono ?_;rintro e w3 ⟨rfl,Z⟩;have HX:=jD (aw Z hX);have HE:=jD (aw Z hE);have HV:=jD (aw Z hV);have HB:=jD (hB.stays Z);have g':=jD (ae f' Z);obtain⟨X,i'⟩:=jF w.heap.size;have p':=HB.out.lt;rw[<-i']at HX HE HV HB p' ⊢;have j':w.heap.size<=X+1+1+1:=by omega
 clear hX hE hV hB f' Z i' d'
 by_cases hz:ce=0
 case neg =>
  obtain⟨e1,e2⟩:au=RV/\ce=re:=by have h:=HR.out;rw[OG hz]at h;injection h with e1 e2;exact⟨e1,e2⟩
  subst e1 e2;have q':(ce != 0)=true:=jQ hz;obtain⟨a0,b0,c0,z0,z1,z2,f0,f1,f2⟩:=HB.out.facts;clear hz;go_wp2;exact OJ (v:=.tuple #[.agg #[OB 0,OB 0,.string ⟨#[]⟩],OB ce]) (by simp[results,results18,go_sem,am,z0,z1,z2]) rfl ⟨rfl,bH g'.out om _ _ _⟩
 subst hz;have n':=jD (HN.out rfl);obtain⟨e1,e2⟩:QV=RV/\qe=re:=by have h:=HR.out;rw[OF jS]at h;injection h with e1 e2;exact⟨e1,e2⟩
 subst e1 e2;obtain⟨q0,q1,q2,q3,q4,q5,q6,q7⟩:=mE HX.out;have r0:OC w3 (X+1) 0 (.slice A vs.length c):=ab HE.out 0;obtain⟨t0,t1,t2,t3,t4⟩:=I6 HV.out;have a':∀W,w3.grownBy W (some (X+1+1+1))->VBox W (X+1+1+1)->(fun W=>w3.grownBy W (some (X+1+1+1))/\VBox W (X+1+1+1)/\OC W X 0 (OB op)/\OC W X 1 (.slice Ax l.length cx)/\OC W X 2 (OB vr)/\OC W X 3 (OB fl)/\OC W X 4 (OB kd)/\OC W X 5 (OB vl.kind)/\OC W X 6 (OB vl.num)/\OC W X 7 (.string vl.text)/\OC W (X+1) 0 (.slice A vs.length c)/\OC W (X+1+1) 0 (OB ev.src)/\OC W (X+1+1) 1 (OB ev.sq)/\OC W (X+1+1) 2 (OB ev.ty)/\OC W (X+1+1) 3 (OB ev.tm)/\OC W (X+1+1) 4 (.slice Au ev.vals.length cu)) W:=fun W J hv=>⟨J,hv,ag J q0 (fun e=>by injection e with e;omega),ag J q1 (fun e=>by injection e with e;omega),ag J q2 (fun e=>by injection e with e;omega),ag J q3 (fun e=>by injection e with e;omega),ag J q4 (fun e=>by injection e with e;omega),ag J q5 (fun e=>by injection e with e;omega),ag J q6 (fun e=>by injection e with e;omega),ag J q7 (fun e=>by injection e with e;omega),ag J r0 (fun e=>by injection e with e;omega),ag J t0 (fun e=>by injection e with e;omega),ag J t1 (fun e=>by injection e with e;omega),ag J t2 (fun e=>by injection e with e;omega),ag J t3 (fun e=>by injection e with e;omega),ag J t4 (fun e=>by injection e with e;omega)⟩
 go_wp2_with fail;refine PM ?_;refine PQ (S:=fun W=>w3.grownBy W (some (X+1+1+1))/\VBox W (X+1+1+1)/\OC W X 0 (OB op)/\OC W X 1 (.slice Ax l.length cx)/\OC W X 2 (OB vr)/\OC W X 3 (OB fl)/\OC W X 4 (OB kd)/\OC W X 5 (OB vl.kind)/\OC W X 6 (OB vl.num)/\OC W X 7 (.string vl.text)/\OC W (X+1) 0 (.slice A vs.length c)/\OC W (X+1+1) 0 (OB ev.src)/\OC W (X+1+1) 1 (OB ev.sq)/\OC W (X+1+1) 2 (OB ev.ty)/\OC W (X+1+1) 3 (OB ev.tm)/\OC W (X+1+1) 4 (.slice Au ev.vals.length cu)) kr (a' _ (aE (OK _ _).drew _) (HB.out.stays (OK _ _).drew)) (fun I=>?_);generalize w3.drew=wD at I ⊢;refine tkH [0,1,2,5] ?_;refine nxH 3 (fun K hK=>?_)
 focus (go_simp;refine (ry _).mono ?_;rintro e w4 ⟨m,rfl,hm,m'⟩)
 refine hK.out _ _ (a' _ (dt I.1 (aE m' _)) (I.2.1.stays m')) (fun I=>?_);clear hK K;refine tkH [4] ?_;refine nxH 6 (fun K hK=>?_)
 focus (go_simp;refine (l'.out m _ (aS g'.out I.1 j') hm n'.out).mono ?_;rintro e w5 ⟨rfl,k'⟩)
 refine hK.out _ _ (a' _ (dt I.1 (aE k' _)) (I.2.1.stays k')) (fun I=>?_);clear hK K;refine tkH [7,8] ?_;refine nxH 9 (fun K hK=>?_)
 focus (obtain⟨a0,b0,c0,z0,z1,z2,f0,f1,f2⟩:=I.2.1.facts;go_simp)
 refine hK.out _ _ (a' _ (ci I.1 _ _ _) (I.2.1.set3 _ _ _)) (fun I=>?_);clear hK K;refine tkH [10] ?_;refine dn ?_;have HF:=jD (aS g'.out I.1 j');go_wp2;exact OJ (v:=.tuple #[.agg #[OB QV.kind,OB QV.num,.string QV.text],OB qe]) (by simp[results,results18,go_sem,am,z0,z1,z2]) rfl ⟨rfl,HF.out⟩
abbrev Bs:=List (Int × Nat)
def ah:Bs->Bs->Bs
 | [],b=>b
 | x::a,[]=>x::a
 | x::a,y::b=>if x.2<y.2 then x::ah a (y::b) else y::ah (x::a) b
termination_by a b=>a.length+b.length
def aK(s:Bs):Nat:=(s.getLast?.map (·.2)).getD 0
def eD(a b:Bs):Bool:=a.all fun x=>!(b.any fun y=>decide (y.2=x.2))
def dy(l:List Evt)(s:Bs)(i:Nat):List (List Evt):=(List.range 16).map fun(v:Nat)=>(s.filter fun x=>decide (x.2<i/\x.1=(v:Int))).filterMap fun x=>l[x.2]?
def cg(env:List (List Evt))(own:Int)(ev:Evt)(c:Ex):Bool:=decide ((lD env own ev c).2=0)&&bI (lD env own ev c).1 (bQ true)
def kw:Evt:=⟨0,0,0,0,[]⟩
def cN(l:List Bs)(s:Bs):List Bs:=if l.contains s then l else l++[s]
def bO(l:List Bs):List Bs:=l.foldl cN []
def em(l:List Evt)(ty vr:Int)(c:Ex)(b:Bs)(i:Nat):List Bs :=
 ((List.range l.length).filter fun k=>decide (i<=k)&&(l[k]?.map fun e=>decide (e.ty=ty)&&cg (dy l b k) vr e c).getD false).map fun k=>[(vr,k)]
def cL(l:List Evt)(op ty vr sp:Int)(c:Ex)(b s:Bs):Bool :=
 if op=5 then (List.range (aK s)).all fun k=>!(decide ((s.head?.map (·.2)).getD 0<=k)&&!(s.any fun y=>decide (y.2=k))&&(l[k]?.map fun e=>decide (e.ty=ty)&&cg (dy l (ah b s) k) vr e c).getD false)
 else if op=6 then decide (IntKind.i64.wrap (((l[aK s]?.map (·.tm)).getD 0)-((l[(s.head?.map (·.2)).getD 0]?.map (·.tm)).getD 0))<=sp)
 else cg (dy l (ah b s) l.length) (-1) kw c
abbrev Fnd:=Bs->Nat->List Bs
def dT:List Fnd->Fnd
 | []=>fun _ _=>[]
 | f::r=>if r.isEmpty then f else fun b i=>bO ((f b i).flatMap fun s=>(dT r (ah b s) (aK s+1)).map (ah s))
def jI(fs:List Fnd):Fnd:=fun b i=>bO (fs.flatMap fun f=>f b i)
def fO(out s:List Bs):List Bs:=bO (out.flatMap fun x=>(s.filter (eD x)).map (ah x))
def iQ:List Fnd->Fnd
 | []=>fun _ _=>[]
 | f::fs=>fun b i=>(fs.map fun g=>g b i).foldl fO (f b i)
def df(f:Fnd):Nat->Fnd
 | 0=>fun _ _=>[]
 | k+1=>fun b i=>bO ((f b i).flatMap fun s=>s::(df f k (ah b s) (aK s+1)).map (ah s))
def hdF(fs:List Fnd):Fnd:=fs.headD fun _ _=>[]
mutual
def bl(l:List Evt):Pt->Fnd
 | .mk o ar ty vr _ sp c=>if o=0 then em l ty vr c else if o=1 then dT (aR l ar) else if o=2 then jI (aR l ar) else if o=3 then iQ (aR l ar)
  else if o=4 then df (hdF (aR l ar)) (l.length+1) else fun b i=>(hdF (aR l ar) b i).filter (cL l o ty vr sp c b)
def aR(l:List Evt):List Pt->List Fnd
 | []=>[]
 | a::r=>bl l a::aR l r
end
def im:List (List Bs)->Bs->List Bs
 | [],w=>[w]
 | p::ps,w=>(p.filter (eD w)).flatMap fun s=>im ps (ah w s)
def mt:List Fnd->Fnd
 | []=>fun _ _=>[]
 | f::r=>if r.isEmpty then fun b i=>bO (f b i) else fun b i=>bO ((f b i).flatMap fun s=>(mt r (ah b s) (aK s+1)).map (ah s))
def Hx(fs:List Fnd):Fnd:=fun b i=>bO (im (fs.map fun g=>g b i) [])
def gi(f:Fnd):Nat->Fnd
 | 0=>fun _ _=>[]
 | k+1=>fun b i=>bO (f b i++(f b i).flatMap fun s=>(gi f k (ah b s) (aK s+1)).map (ah s))
mutual
def aU(l:List Evt):Pt->Fnd
 | .mk o ar ty vr _ sp c=>if o=0 then fun b i=>bO (em l ty vr c b i) else if o=1 then mt (fM l ar) else if o=2 then jI (fM l ar) else if o=3 then Hx (fM l ar)
  else if o=4 then gi (hdF (fM l ar)) (l.length+1) else fun b i=>bO ((hdF (fM l ar) b i).filter (cL l o ty vr sp c b))
def fM(l:List Evt):List Pt->List Fnd
 | []=>[]
 | a::r=>aU l a::fM l r
end
theorem Es{l:List Bs}{s x:Bs}:x∈cN l s↔x∈l\/x=s:=by
 unfold cN
 split
 ·next h =>
  rw[List.contains_iff_mem]at h;constructor
  ·exact .inl
  ·rintro (h1|rfl)
   ·exact h1
   ·exact h
 ·simp
theorem aW{l:List Bs}{x:Bs}:x∈bO l↔x∈l:=by
 have:∀(l o:List Bs),x∈l.foldl cN o↔x∈o\/x∈l:=fun l=>by
  induction l with
  | nil=>intro o;simp
  | cons a l h=>intro o;rw[PR,h,Es,O7,or_assoc]
 unfold bO;rw[this];simp
theorem yS{l:List Bs}{s:Bs}(h:l.Nodup):(cN l s).Nodup:=by
 unfold cN
 split
 ·exact h
 ·next J =>
  rw[List.contains_iff_mem]at J;rw[List.nodup_append];refine⟨h,by simp,fun a Z b I=>?_⟩;rw[QA]at I;subst I;exact fun e=>J (e▸Z)
theorem bG(l:List Bs):(bO l).Nodup:=by
 have:∀(l o:List Bs),o.Nodup->(l.foldl cN o).Nodup:=fun l=>by
  induction l with
  | nil=>exact fun o h=>h
  | cons a l I=>exact fun o h=>I _ (yS h)
 exact this l [] Rr
def EqF(f g:Fnd):Prop:=∀b i x,x∈f b i↔x∈g b i
def EqL(fs gs:List Fnd):Prop:=fs.length=gs.length/\∀(k:Nat) f g,fs[k]?=some f->gs[k]?=some g->EqF f g
theorem EqL.cons{f g:Fnd}{fs gs:List Fnd}(h:EqF f g)(hs:EqL fs gs):EqL (f::fs) (g::gs):=by
 refine⟨by rw[Pk,Pk,hs.1],fun k a b I J=>?_⟩
 cases k with
 | zero=>simp at I J;subst I J;exact h
 | succ k=>exact hs.2 k a b (jQ I) (jQ J)
theorem EqL.inv{f g:Fnd}{fs gs:List Fnd}(h:EqL (f::fs) (g::gs)):EqF f g/\EqL fs gs :=
 ⟨h.2 0 f g rfl rfl,jQ h.1,fun k a b I J=>h.2 (k+1) a b (jQ I) (jQ J)⟩
theorem EqL.ind{P:List Fnd->List Fnd->Prop}(h0:P [] [])(h1:∀f g fs gs,EqF f g->EqL fs gs->P fs gs->P (f::fs) (g::gs)):∀{fs gs:List Fnd},EqL fs gs->P fs gs
 | [],[],_=>h0
 | [],_::_,h=>by have:=h.1;simp at this
 | _::_,[],h=>by have:=h.1;simp at this
 | f::fs,g::gs,h=>h1 f g fs gs h.inv.1 h.inv.2 (EqL.ind h0 h1 h.inv.2)
theorem M9{fs gs:List Fnd}(h:EqL fs gs):EqF (mt fs) (dT gs):=by
 refine EqL.ind (P:=fun fs gs=>EqF (mt fs) (dT gs)) (fun b i x=>by rw[mt,dT]) (fun f g fs gs hf hl ih=>?_) h;intro b i x;rw[mt,dT];have I:fs.isEmpty=gs.isEmpty:=by have:=hl.1;cases fs<;>cases gs<;>simp_all
 rw[I]
 split
 ·rw[aW];exact hf b i x
 ·rw[aW,aW,PV,PV];constructor
  ·rintro⟨s,hs,Z⟩;obtain⟨t,J,rfl⟩:=List.mem_map.1 Z;exact⟨s,(hf b i s).1 hs,List.mem_map.2 ⟨t,(ih _ _ t).1 J,rfl⟩⟩
  ·rintro⟨s,hs,Z⟩;obtain⟨t,J,rfl⟩:=List.mem_map.1 Z;exact⟨s,(hf b i s).2 hs,List.mem_map.2 ⟨t,(ih _ _ t).2 J,rfl⟩⟩
theorem My{fs gs:List Fnd}(h:EqL fs gs):EqF (jI fs) (jI gs):=by
 intro b i x;unfold jI;rw[aW,aW];exact EqL.ind (P:=fun fs gs=>(x∈fs.flatMap fun f=>f b i)↔(x∈gs.flatMap fun f=>f b i)) Iff.rfl (fun f g fs gs hf _ I=>by rw[O8,O8,Qg,Qg,hf b i x,I]) h
theorem EZ{ps:List (List Bs)}:∀{out:List Bs}{x:Bs},x∈ps.foldl fO out↔∃w,w∈out/\x∈im ps w:=by
 induction ps with
 | nil=>intro out x;simp[im]
 | cons p ps I =>
  intro out x;rw[PR,I];constructor
  ·rintro⟨w,hw,h⟩;unfold fO at hw;rw[aW,PV]at hw;obtain⟨y,hy,hw⟩:=hw;obtain⟨s,hs,rfl⟩:=List.mem_map.1 hw;exact⟨y,hy,by rw[im,PV];exact⟨s,hs,h⟩⟩
  ·rintro⟨w,hw,h⟩;rw[im,PV]at h;obtain⟨s,hs,h⟩:=h;exact⟨ah w s,by unfold fO;rw[aW,PV];exact⟨w,hw,List.mem_map.2 ⟨s,hs,rfl⟩⟩,h⟩
theorem Nr{ps qs:List (List Bs)}(J:ps.length=qs.length)(h:∀(k:Nat) p q,ps[k]?=some p->qs[k]?=some q->∀x,x∈p↔x∈q):∀w x,x∈im ps w↔x∈im qs w:=by
 induction ps generalizing qs with
 | nil=>cases qs with
  | nil=>exact fun _ _=>Iff.rfl
  | cons q qs=>simp at J
 | cons p ps ih =>
  cases qs with
  | nil=>simp at J
  | cons q qs =>
   intro w x;have h0:=h 0 p q rfl rfl;have I:=ih (qs:=qs) (jQ J) (fun k a b ha hb=>h (k+1) a b (jQ ha) (jQ hb));rw[im,im,PV,PV];constructor
   ·rintro⟨s,hs,Z⟩;rw[Rb]at hs;exact⟨s,List.mem_filter.2 ⟨(h0 s).1 hs.1,hs.2⟩,(I _ _).1 Z⟩
   ·rintro⟨s,hs,Z⟩;rw[Rb]at hs;exact⟨s,List.mem_filter.2 ⟨(h0 s).2 hs.1,hs.2⟩,(I _ _).2 Z⟩
theorem gT(s:Bs):ah [] s=s:=by rw[ah]
theorem NI{fs gs:List Fnd}(h:EqL fs gs)(J:gs≠[]):EqF (Hx fs) (iQ gs):=by
 cases gs with
 | nil=>exact absurd rfl J
 | cons g gs =>
  intro b i x;unfold Hx;rw[aW,iQ,EZ];have hm:∀w x,x∈im (fs.map fun g=>g b i) w↔x∈im ((g::gs).map fun g=>g b i) w :=
   Nr (by rw[OL,OL];exact h.1) (fun k p q hp hq=>by
    rw[OQ]at hp hq;obtain⟨f,hf,rfl⟩:=Option.map_eq_some_iff.1 hp;obtain⟨f',Z,rfl⟩:=Option.map_eq_some_iff.1 hq;exact h.2 k f f' hf Z b i)
  rw[hm,OU,im,PV];have ha:∀s:Bs,eD [] s=true:=fun s=>rfl
  constructor
  ·rintro⟨s,hs,I⟩;rw[gT]at I;exact⟨s,(List.mem_filter.1 hs).1,I⟩
  ·rintro⟨s,hs,I⟩;exact⟨s,List.mem_filter.2 ⟨hs,ha s⟩,by rw[gT];exact I⟩
theorem Dd{f g:Fnd}(h:EqF f g):∀k,EqF (gi f k) (df g k)
 | 0=>fun b i x=>by rw[gi,df]
 | k+1=>fun b i x=>by
  have Z:=Dd h k;rw[gi,df,aW,aW,Qg,PV,PV];constructor
  ·rintro (I|⟨s,hs,I⟩)
   ·exact⟨x,(h b i x).1 I,OR ..⟩
   ·obtain⟨t,J,rfl⟩:=List.mem_map.1 I;exact⟨s,(h b i s).1 hs,OS _ (List.mem_map.2 ⟨t,(Z _ _ t).1 J,rfl⟩)⟩
  ·rintro⟨s,hs,I⟩;rcases List.mem_cons.1 I with rfl|I
   ·exact .inl ((h b i x).2 hs)
   ·obtain⟨t,J,rfl⟩:=List.mem_map.1 I;exact .inr ⟨s,(h b i s).2 hs,List.mem_map.2 ⟨t,(Z _ _ t).2 J,rfl⟩⟩
theorem LX{fs gs:List Fnd}(h:EqL fs gs):EqF (hdF fs) (hdF gs) :=
 EqL.ind (P:=fun fs gs=>EqF (hdF fs) (hdF gs)) (fun _ _ _=>Iff.rfl) (fun _ _ _ _ hf _ _=>hf) h
theorem oB(l:List Evt):∀ar,(aR l ar).length=ar.length
 | []=>by rw[aR];rfl
 | a::r=>by rw[aR,Pk,Pk,oB l r]
mutual
def okA:Pt->Bool
 | .mk o ar _ _ _ _ _=>(decide (o≠3) || !ar.isEmpty)&&vA ar
def vA:List Pt->Bool
 | []=>true
 | a::r=>okA a&&vA r
end
mutual
theorem rR(l:List Evt):∀p,okA p=true->EqF (aU l p) (bl l p)
 | .mk o ar ty vr sc sp c,hok=>by
  rw[okA,ON]at hok;have hL:=BZ l ar hok.2;rw[aU,bl]
  by_cases h0:o=0
  ·rw[OG h0,OG h0];exact fun b i x=>aW
  rw[OF h0,OF h0]
  by_cases h1:o=1
  ·rw[OG h1,OG h1];exact M9 hL
  rw[OF h1,OF h1]
  by_cases J:o=2
  ·rw[OG J,OG J];exact My hL
  rw[OF J,OF J]
  by_cases I:o=3
  ·rw[OG I,OG I];refine NI hL fun e=>?_
   have hlen:=oB l ar;rw[e]at hlen;have h:=hok.1
   cases ar with
   | nil=>simp[I]at h
   | cons a r=>simp at hlen
  rw[OF I,OF I]
  by_cases Z:o=4
  ·rw[OG Z,OG Z];exact Dd (LX hL) _
  rw[OF Z,OF Z];intro b i x;rw[aW,Rb,Rb,LX hL b i x]
theorem BZ(l:List Evt):∀ar,vA ar=true->EqL (fM l ar) (aR l ar)
 | [],_=>by rw[fM,aR];exact⟨rfl,fun k f g h=>by simp at h⟩
 | a::r,hok=>by
  rw[vA,ON]at hok;rw[fM,aR];exact EqL.cons (rR l a hok.1) (BZ l r hok.2)
end
def SetOk(i n:Nat)(s:Bs):Prop:=s≠[]/\s.Pairwise (fun x y=>x.2<y.2)/\∀x∈s,i<=x.2/\x.2<n
theorem cG:∀(a b:Bs)(x:Int × Nat),x∈ah a b↔x∈a\/x∈b
 | [],b,x=>by rw[ah];simp
 | y::a,[],x=>by rw[ah];simp
 | y::a,z::b,x=>by
  rw[ah]
  split
  ·rw[O7,cG a (z::b),O7 (a:=x) (b:=y),or_assoc]
  ·rw[O7,cG (y::a) b,O7 (a:=x) (b:=z),<-or_assoc,<-or_assoc,or_comm (a:=x=z)]
termination_by a b=>a.length+b.length
theorem eO:∀(a b:Bs),a.Pairwise (fun x y=>x.2<y.2)->b.Pairwise (fun x y=>x.2<y.2)->(∀x∈a,∀y∈b,x.2≠y.2)->(ah a b).Pairwise fun x y=>x.2<y.2
 | [],b,_,hb,_=>by rw[ah];exact hb
 | y::a,[],ha,_,_=>by rw[ah];exact ha
 | y::a,z::b,ha,hb,hd=>by
  rw[Q4]at ha hb;have Z:=hd y (OR ..) z (OR ..);rw[ah]
  split
  ·next h =>
   rw[Q4];refine⟨fun x I=>?_,eO a (z::b) ha.2 (List.pairwise_cons.2 hb) (fun x I J hy=>hd x (OS _ I) J hy)⟩;rcases (cG _ _ _).1 I with I|I
   ·exact ha.1 x I
   ·rcases List.mem_cons.1 I with rfl|I
    ·exact h
    ·have:=hb.1 x I;omega
  ·next h =>
   rw[Q4];refine⟨fun x I=>?_,eO (y::a) b (List.pairwise_cons.2 ha) hb.2 (fun x I J hy=>hd x I J (OS _ hy))⟩;rcases (cG _ _ _).1 I with I|I
   ·rcases List.mem_cons.1 I with rfl|I
    ·omega
    ·have:=ha.1 x I;omega
   ·exact hb.1 x I
termination_by a b=>a.length+b.length
theorem SetOk.last{n:Nat}{s:Bs}(h:SetOk i n s):i<=aK s/\aK s<n/\∀x∈s,x.2<=aK s:=by
 obtain⟨h1,J,Z⟩:=h;have I:s.getLast?=some (s.getLast h1):=List.getLast?_eq_some_getLast h1;have e:aK s=(s.getLast h1).2:=by unfold aK;rw[I];rfl
 have hm:=Z _ (List.getLast_mem h1);rw[e];refine⟨hm.1,hm.2,fun x hx=>?_⟩;obtain⟨k,hk,rfl⟩:=QO hx;rw[List.getLast_eq_getElem h1];rcases PT k (s.length-1) with h|h
 ·exact Nat.le_of_lt (List.pairwise_iff_getElem.1 J k (s.length-1) hk om h)
 ·have:k=s.length-1:=by omega
  subst this;exact OI _
theorem SetOk.merge{n:Nat}{s t:Bs}(hs:SetOk i n s)(J:SetOk i n t)(Z:∀x∈s,∀y∈t,x.2≠y.2):SetOk i n (ah s t):=by
 refine⟨fun e=>?_,eO s t hs.2.1 J.2.1 Z,fun x I=>?_⟩
 ·obtain⟨x,I⟩:=List.exists_mem_of_ne_nil s hs.1;have:=(cG s t x).2 (.inl I);rw[e]at this;simp at this
 ·rcases (cG s t x).1 I with h|h
  ·exact hs.2.2 x h
  ·exact J.2.2 x h
theorem SetOk.behind{n:Nat}{s t:Bs}(hs:SetOk i n s)(h:SetOk (aK s+1) n t):SetOk i n (ah s t):=by
 have J:=hs.last;refine hs.merge ⟨h.1,h.2.1,fun x I=>⟨by have:=(h.2.2 x I).1;omega,(h.2.2 x I).2⟩⟩ fun x I y hy=>?_
 have:=J.2.2 x I;have:=(h.2.2 y hy).1;omega
theorem zc{a b:Bs}(h:eD a b=true):∀x∈a,∀y∈b,x.2≠y.2:=by
 intro x I y hy e;unfold eD at h;rw[Re]at h;have:=h x I;rw[Pj,RO]at this;exact this y hy (jQ e.symm)
def OkF(n:Nat)(f:Fnd):Prop:=∀b i s,s∈f b i->SetOk i n s
theorem Gy(l:List Evt)(ty vr:Int)(c:Ex):OkF l.length (em l ty vr c):=fun b i s hs=>by
 unfold em at hs;obtain⟨k,hk,rfl⟩:=List.mem_map.1 hs;rw[Rb,List.mem_range,ON]at hk;have:=Pe hk.2.1;exact⟨by simp,List.pairwise_singleton _ _,fun x h=>by rw[QA]at h;subst h;exact⟨this,hk.1⟩⟩
theorem AS{n:Nat}:∀{fs:List Fnd},(∀f∈fs,OkF n f)->OkF n (dT fs)
 | [],_=>fun b i s hs=>by rw[dT]at hs;simp at hs
 | f::r,h=>fun b i s hs=>by
  have hf:=h f (OR ..);have hr:=AS (fs:=r) fun g J=>h g (OS _ J)
  rw[dT]at hs
  split at hs
  ·exact hf b i s hs
  ·rw[aW,PV]at hs;obtain⟨x,Z,hs⟩:=hs;obtain⟨t,I,rfl⟩:=List.mem_map.1 hs;exact (hf b i x Z).behind (hr _ _ t I)
theorem ND{n:Nat}{fs:List Fnd}(h:∀f∈fs,OkF n f):OkF n (jI fs):=fun b i s hs=>by
 unfold jI at hs;rw[aW,PV]at hs;obtain⟨f,hf,hs⟩:=hs;exact h f hf b i s hs
theorem zn{i n:Nat}:∀{ps:List (List Bs)}{out:List Bs},(∀s∈out,SetOk i n s)->(∀p∈ps,∀s∈p,SetOk i n s)->∀s∈ps.foldl fO out,SetOk i n s
 | [],_,ho,_=>ho
 | p::ps,out,ho,hp=>by
  rw[PR];refine zn (fun s hs=>?_) fun q hq=>hp q (OS _ hq)
  unfold fO at hs;rw[aW,PV]at hs;obtain⟨x,I,hs⟩:=hs;obtain⟨t,h,rfl⟩:=List.mem_map.1 hs;rw[Rb]at h;exact (ho x I).merge (hp p (OR ..) t h.1) (zc h.2)
theorem ML{n:Nat}{fs:List Fnd}(h:∀f∈fs,OkF n f):OkF n (iQ fs):=fun b i s hs=>by
 cases fs with
 | nil=>rw[iQ]at hs;simp at hs
 | cons f fs =>
  rw[iQ]at hs;refine zn (fun s hs=>h f (OR ..) b i s hs) (fun p hp s hs=>?_) s hs;obtain⟨g,I,rfl⟩:=List.mem_map.1 hp;exact h g (OS _ I) b i s hs
theorem uu{n:Nat}{f:Fnd}(h:OkF n f):∀k,OkF n (df f k)
 | 0=>fun b i s hs=>by rw[df]at hs;simp at hs
 | k+1=>fun b i s hs=>by
  rw[df,aW,PV]at hs;obtain⟨x,I,hs⟩:=hs;rcases List.mem_cons.1 hs with rfl|hs
  ·exact h b i s I
  ·obtain⟨t,J,rfl⟩:=List.mem_map.1 hs;exact (h b i x I).behind (uu h k _ _ t J)
theorem LL{n:Nat}{fs:List Fnd}(h:∀f∈fs,OkF n f):OkF n (hdF fs):=by
 cases fs with
 | nil=>exact fun b i s hs=>by simp[hdF]at hs
 | cons f fs=>exact h f (OR ..)
mutual
theorem qX(l:List Evt):∀p,OkF l.length (bl l p)
 | .mk o ar ty vr h sp c=>by
  have hL:=DA l ar;rw[bl]
  split
  ·exact Gy l ty vr c
  ·split
   ·exact AS hL
   ·split
    ·exact ND hL
    ·split
     ·exact ML hL
     ·split
      ·exact uu (LL hL) _
      ·exact fun b i s hs=>LL hL b i s (List.mem_filter.1 hs).1
theorem DA(l:List Evt):∀ar,∀f∈aR l ar,OkF l.length f
 | [],f,hf=>by rw[aR]at hf;simp at hf
 | a::r,f,hf=>by
  rw[aR]at hf;rcases List.mem_cons.1 hf with rfl|hf
  ·exact qX l a
  ·exact DA l r f hf
end
theorem kE{β:Type}{l:List α}{f g:α->List β}(h:∀x∈l,f x=g x):l.flatMap f=l.flatMap g:=by
 induction l with
 | nil=>rfl
 | cons a l I=>rw[O8,O8,h a (OR ..),I fun x J=>h x (OS _ J)]
theorem qL{n:Nat}{f:Fnd}(h:OkF n f):∀(k j:Nat)(b:Bs)(i:Nat),n-i<k->n-i<j->gi f k b i=gi f j b i
 | 0,_,_,_,hk,_=>by omega
 | _,0,_,_,_,hj=>by omega
 | k+1,j+1,b,i,hk,hj=>by
  rw[gi,gi];refine congrArg bO (congrArg (f b i++·) (kE fun s hs=>?_));have I:=(h b i s hs).last;rw[qL h k j _ _ om om]
theorem qm{x:Pt}(h:ra d w b p x):∃I e v vc,d=I+1/\I=e+1/\dg I w v x.args/\bZ e w vc x.cond.args/\w.cell? ⟨b,p,none⟩=some (OB x.op)/\w.cell? ⟨b,p+1,none⟩=some v /\
  w.cell? ⟨b,p+2,none⟩=some (OB x.ty)/\w.cell? ⟨b,p+3,none⟩=some (OB x.vr)/\w.cell? ⟨b,p+4,none⟩=some (OB x.sc)/\w.cell? ⟨b,p+5,none⟩=some (OB x.sp) /\
  w.cell? ⟨b,p+6,none⟩=some (OB x.cond.op)/\w.cell? ⟨b,p+7,none⟩=some vc/\w.cell? ⟨b,p+8,none⟩=some (OB x.cond.vr)/\w.cell? ⟨b,p+9,none⟩=some (OB x.cond.fl)/\w.cell? ⟨b,p+10,none⟩=some (OB x.cond.kd) /\
  w.cell? ⟨b,p+11,none⟩=some (OB x.cond.val.kind)/\w.cell? ⟨b,p+12,none⟩=some (OB x.cond.val.num)/\w.cell? ⟨b,p+13,none⟩=some (.string x.cond.val.text):=by
 obtain⟨I,v,Z,hv,h0,h1,h2,h3,h4,h5,h6⟩:=J5 h;obtain⟨e,vc,he,J,k0,k1,k2,k3,k4,k5,k6,k7⟩:=vN h6;exact⟨I,e,v,vc,Z,he,hv,J,h0,h1,h2,h3,h4,h5,k0,k1,k2,k3,k4,k5,k6,k7⟩
mutual
def bM(lim:Nat):Pt->Nat
 | .mk _ l _ _ _ _ _=>dp lim 1 l
def dp(lim:Nat)(n:Nat):List Pt->Nat
 | []=>n
 | a::r=>if n<=lim then dp lim (n+bM lim a) r else n
end
theorem Fh(lim:Nat)(x:Pt):bM lim x=dp lim 1 x.args:=by cases x;rw[bM];rfl
mutual
theorem nQ(lim:Nat):∀x,bM lim x<=ptN x
 | .mk o l a b c d e=>by
  have:=rP lim 1 l;rw[bM,ptN];exact this
theorem rP(lim n:Nat):∀l,dp lim n l<=n+cE l
 | []=>by rw[dp];omega
 | a::r=>by
  rw[dp,cE]
  split
  ·have:=nQ lim a;have:=rP lim (n+bM lim a) r;omega
  ·omega
end
theorem rp(lim:Nat):∀(l:List Pt)(n:Nat),n<=dp lim n l
 | [],n=>by rw[dp];omega
 | a::r,n=>by
  rw[dp]
  split
  ·have:=rp lim r (n+bM lim a);omega
  ·omega
mutual
theorem qD(lim:Nat):∀x,bM lim x<=lim->bM lim x=ptN x
 | .mk o l a b c d e=>by
  have:=oD lim 1 l;rw[bM,ptN];exact this
theorem oD(lim n:Nat):∀l,dp lim n l<=lim->dp lim n l=n+cE l
 | []=>by rw[dp,cE];omega
 | a::r=>by
  rw[dp,cE]
  split
  ·intro h;have h1:=rp lim r (n+bM lim a);have:=qD lim a om;have:=oD lim (n+bM lim a) r h;omega
  ·omega
end
theorem qI(lim:Nat)(x:Pt):bM lim x<=lim↔ptN x<=lim:=by
 constructor
 ·intro h;rw[<-qD lim x h];exact h
 ·intro h;exact OP (nQ lim x) h
theorem mm{l:List Pt}{a:Pt}(h:l[k]?=some a):ptN a<=cE l:=by
 induction l generalizing k with
 | nil=>simp at h
 | cons b r I =>
  rw[cE]
  cases k with
  | zero=>simp at h;subst h;omega
  | succ k=>have:=I (k:=k) (jQ h);omega
theorem Jt(h:d<=e){x:Pt}(J:ra d w b p x):ra e w b p x:=by
 induction h with
 | refl=>exact J
 | step _ I=>exact EO _ _ _ _ _ I
theorem zm(h:d<=e){l:List Pt}(I:dg d w v l):dg e w v l:=pi (fun _ _ _=>Jt h) I
theorem qx(h:d<=e)(I:bZ d w v l):bZ e w v l:=pi (fun _ _ _=>JM h) I
section
open Go.RowKit Go.Lib
def jt(W:World)(B:Option Nat)(k:Nat):Prop:=∃b v,B=some b/\W.cell? ⟨b,0,none⟩=some v/\v.ownBlock=some k
def rx(W:World)(B:Option Nat):Prop:=∀k,jt W B k->k<W.heap.size
theorem gQ(h:∀b,B=some b->W'.heap[b]?=W.heap[b]?)(k:Nat):jt W' B k↔jt W B k:=by
 constructor<;>rintro⟨b,v,I,J,hk⟩
 ·exact⟨b,v,I,(Pf (a:=⟨b,0,none⟩) (h b I)).symm.trans J,hk⟩
 ·exact⟨b,v,I,(Pf (a:=⟨b,0,none⟩) (h b I)).trans J,hk⟩
structure eI(n0 n1:Nat)(B:Option Nat)(W W':World):Prop where
 below:Below n0 W W'
 safe:rx W B->rx W' B
 cells:∀(k:Nat)(o:Obj),n1<=k->W.heap[k]?=some o->o.isCells=true->¬jt W B k->W'.heap[k]?=some o/\¬jt W' B k
theorem La{Z:World}(h:eI n0 n1 B X Y)(k:eI n0 n1 B Y Z):eI n0 n1 B X Z :=
 ⟨h.below.trans k.below,fun s=>k.safe (h.safe s),fun i o I e c r=>k.cells i o I (h.cells i o I e c r).1 c (h.cells i o I e c r).2⟩
theorem EI(h:OD W W')(Z:n0<=W.heap.size)(J:∀b,B=some b->b<W.heap.size):eI n0 n1 B W W' :=
 ⟨h.mono Z,fun s k hk=>OT (s k ((gQ (fun b I=>h.block b (J b I)) k).1 hk)) h.size,
  fun k _ _ e _ r=>⟨(h.block k (Array.getElem?_eq_some_iff.1 e).1).trans e,fun hk=>r ((gQ (fun b I=>h.block b (J b I)) k).1 hk)⟩⟩
def DR(n0 n1:Nat)(B:Option Nat)(W:World)(b:Nat):Prop:=b<n0\/(n1<=b/\¬jt W B b)
theorem jp(h:eI n0 n1 B X Y)(Z:n1<=b)(hr:¬jt X B b)(c:X.cell? ⟨b,o,none⟩=some v):Y.cell? ⟨b,o,none⟩=some v/\¬jt Y B b:=by
 obtain⟨ob,h1,I⟩:=cells_of_cell c;obtain⟨h3,J⟩:=h.cells b ob Z h1 I hr;exact⟨(Pf (a:=⟨b,o,none⟩) (h3.trans h1.symm)).trans c,J⟩
theorem gK(h:eI n0 n1 B X Y)(hm:DR n0 n1 B X b)(c:X.cell? ⟨b,o,none⟩=some v):Y.cell? ⟨b,o,none⟩=some v/\DR n0 n1 B Y b:=by
 rcases hm with hm|⟨h1,h2⟩
 ·exact⟨(h.below.cell (p:=⟨b,o,none⟩) hm).trans c,.inl hm⟩
 ·exact⟨(jp h h1 h2 c).1,.inr ⟨h1,(jp h h1 h2 c).2⟩⟩
theorem E4(hs:rx W B)(h:OD W W')(I:∀b,B=some b->b<W.heap.size)(hk:W.heap.size<=k):¬jt W' B k :=
 fun hr=>absurd (hs k ((gQ (fun b J=>h.block b (I b J)) k).1 hr)) om
end
section
open Go.RowKit Go.Lib
def wy(w:World)(b p:Nat)(x:Int × Nat):Prop:=w.cell? ⟨b,p,none⟩=some (OB x.1)/\w.cell? ⟨b,p+1,none⟩=some (OB (x.2:Int))
theorem gZ:jU wy:=fun _ _ _ _ _ hb ⟨h0,h1⟩=>⟨aa hb h0,aa hb h1⟩
abbrev gN(w:World)(v:Value)(s:Bs):Prop:=Sl wy 2 w v s
theorem mT:pg wy 2:=fun w b p x ⟨h0,h1⟩ =>
 ⟨[OB x.1,OB (x.2:Int)],rfl,by simp[Value.oneCell'],fun j u h=>by
  match j,h with
  | 0,h=>simp at h;subst h;exact h0
  | 1,h=>simp at h;subst h;exact h1
  | j+2,h=>simp at h,fun W b' J _ I=>⟨I 0 _ rfl,I 1 _ rfl⟩⟩
def SetIn(Q:Nat->Prop)(w:World)(v:Value)(s:Bs):Prop:=∃b o c,v=.slice (some ⟨b,o,none⟩) s.length c/\s.length<=c/\c<=maxLen/\s≠[]/\Q b/\∀(k:Nat) x,s[k]?=some x->wy w b (o+k*2) x
theorem SetIn.is{s:Bs}(h:SetIn Q w v s):gN w v s:=by
 obtain⟨b,o,c,rfl,h1,I,_,_,J⟩:=h;exact⟨_,c,rfl,h1,I,fun k x hk=>⟨b,o,rfl,J k x hk⟩⟩
theorem SetIn.mono(hq:∀b,Q b->I b){s:Bs}(h:SetIn Q w v s):SetIn I w v s:=by
 obtain⟨b,o,c,rfl,h1,J,h3,Z,h5⟩:=h;exact⟨b,o,c,rfl,h1,J,h3,hq b Z,h5⟩
theorem SetIn.stays{s:Bs}(h:SetIn Q w v s)(J:OD w W):SetIn Q W v s:=by
 obtain⟨b,o,c,rfl,h1,I,h3,Z,h5⟩:=h;exact⟨b,o,c,rfl,h1,I,h3,Z,fun k x hk=>gZ _ _ _ _ _ J (h5 k x hk)⟩
theorem SetIn.keep(hk:eI n0 n1 B X Y){s:Bs}(h:SetIn (DR n0 n1 B X) X v s):SetIn (DR n0 n1 B Y) Y v s:=by
 obtain⟨b,o,c,rfl,h1,h2,h3,J,Z⟩:=h;refine⟨b,o,c,rfl,h1,h2,h3,?_,fun k x I=>⟨(gK hk J (Z k x I).1).1,(gK hk J (Z k x I).2).1⟩⟩
 cases s with
 | nil=>exact absurd rfl h3
 | cons x r=>exact (gK hk J (Z 0 x rfl).1).2
def SetsIn(Q:Nat->Prop)(w:World)(v:Value)(L:List Bs):Prop:=∃A c,v=.slice A L.length c/\L.length<=c/\c<=maxLen /\
 ∀(k:Nat) s,L[k]?=some s->∃b o u,A=some ⟨b,o,none⟩/\Q b/\w.cell? ⟨b,o+k,none⟩=some u/\SetIn Q w u s
theorem SetsIn.mono(hq:∀b,Q b->I b){L:List Bs}(h:SetsIn Q w v L):SetsIn I w v L:=by
 obtain⟨A,c,rfl,h1,J,h3⟩:=h;refine⟨A,c,rfl,h1,J,fun k s hk=>?_⟩;obtain⟨b,o,u,e,Z,hc,hs⟩:=h3 k s hk;exact⟨b,o,u,e,hq b Z,hc,hs.mono hq⟩
theorem SetsIn.stays{L:List Bs}(h:SetsIn Q w v L)(I:OD w W):SetsIn Q W v L:=by
 obtain⟨A,c,rfl,h1,J,Z⟩:=h;refine⟨A,c,rfl,h1,J,fun k s hk=>?_⟩;obtain⟨b,o,u,e,hq,hc,hs⟩:=Z k s hk;exact⟨b,o,u,e,hq,aa I hc,hs.stays I⟩
theorem SetsIn.keep(hk:eI n0 n1 B X Y){L:List Bs}(h:SetsIn (DR n0 n1 B X) X v L):SetsIn (DR n0 n1 B Y) Y v L:=by
 obtain⟨A,c,rfl,h1,Z,h3⟩:=h;refine⟨A,c,rfl,h1,Z,fun k s I=>?_⟩;obtain⟨b,o,u,e,hq,J,hs⟩:=h3 k s I;exact⟨b,o,u,e,(gK hk hq J).2,(gK hk hq J).1,hs.keep hk⟩
def InS(n1:Nat)(B:Option Nat)(s:Bs)(a:Array Value)(W:World):Prop:=∃v,a=#[v]/\SetIn (fun b=>n1<=b/\¬jt W B b) W v s
end
end Go.Proofs.YteemngnialjaiaaGreatDoor
