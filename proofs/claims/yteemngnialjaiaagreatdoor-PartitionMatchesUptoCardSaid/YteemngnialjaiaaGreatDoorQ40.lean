/- Part. -/
import Derived.Deep.MidRow
import Derived.Test.YteemngnialjaiaaGreatDoorQ39
set_option maxRecDepth 100000
set_option maxHeartbeats 16000000
set_option linter.unusedVariables false
set_option linter.unusedSimpArgs false
namespace Go.Proofs.YteemngnialjaiaaGreatDoor
open Go.Proofs.Tryz Go.RowKit
variable {B base N k:Nat}{wr w w' W W':World}{J v Z:Value}{ms:List MV}{l:List Evt}{P:Program}{ops:Array Oper}{a:Act}{Q:Exit->Act->World->Prop}{o:Oper}{α:Type}{p x:Pt}{q:Qry}{e:TypeId}{xs:List Value}{row:Option Nat}{A:Option Addr}{L:List (Vl×List Evt)}{key:List Int}{ks:List Vl}{ps:List (List Evt)}{y:Vl×List Evt}{M:List (List Bnd)}
section
theorem MW.is{ms:List (List Bnd×Value)}(h:MW B wr J ms):kC wr J (ms.map (·.1)):=by
 have h1:∀u∈ms.map (·.2),u.oneCell'=true:=fun u hu=>by
  obtain⟨e,he,rfl⟩:=List.mem_map.1 hu;exact jf (h.bnds e he).1
 obtain⟨A,c,rfl,Z,h3,h4⟩:=fm h.row h1;refine⟨A,c,by rw[OL],by rw[OL];exact Z,h3,fun k x hk=>?_⟩;rw[OQ]at hk;obtain⟨e,he,rfl⟩:=Option.map_eq_some_iff.1 hk;have a':=(List.getElem?_eq_some_iff.1 he).1;obtain⟨b,o,hA,I⟩:=h4.2.2 om;exact⟨b,o,hA,e.2,(h.bnds e (Pb he)).1,by rw[P7];exact I k _ (by rw[OQ,he];rfl)⟩
section
open Go.RowKit Go.Shelf
theorem qW{m:List Bnd}:∀(l:List (List Bnd))(i:Nat),i<=l.length->(∀j x,l[j]?=some x->j<i->bsC x m<0)->(∀x,l[i]?=some x->¬bsC x m<0) ->
  (∀x,l[i]?=some x->bsC x m=0->gh m l=l)/\((∀x,l[i]?=some x->bsC x m≠0)->gh m l=l.take i++m::l.drop i)
 | [],i,hi,_,_=>by simp at hi;subst hi;simp[gh]
 | y::l,0,_,_,h2=>by
  have J:=h2 y rfl;refine⟨fun x h h0=>?_,fun I=>?_⟩
  ·simp at h;subst h;simp only[gh];rw[OF J,OG h0]
  ·have h4:=I y rfl;simp only[gh];rw[OF J,OF h4];rfl
 | y::l,i+1,hi,h1,h2=>by
  have J:=h1 0 y rfl om;obtain⟨Z,k2⟩:=qW l i (jQ hi) (fun j x hj a'=>h1 (j+1) x (jQ hj) om) (fun x h=>h2 x (jQ h));refine⟨fun x h h0=>?_,fun I=>?_⟩
  ·simp only[gh];rw[OG J,Z x (jQ h) h0]
  ·simp only[gh];rw[OG J,k2 fun x h=>I x (jQ h)];rfl
def PutIn(w:World)(v:Value)(l:List (List Bnd)):Prop:=(v=.slice none 0 0/\l=[])\/∃b o c,v=.slice (some ⟨b,o,none⟩) l.length c/\kC w v l
theorem PutIn.is{l:List (List Bnd)}(h:PutIn w v l):kC w v l:=by
 rcases h with ⟨rfl,rfl⟩|⟨b,o,c,_,h⟩
 ·exact Sl.nil _ _ _ _ _ (OO _)
 ·exact h
theorem PutIn.stays{l:List (List Bnd)}(h:PutIn w v l)(I:OD w w'):PutIn w' v l:=by
 rcases h with h|⟨b,o,c,h1,h2⟩
 ·exact .inl h
 ·exact .inr ⟨b,o,c,h1,h2.stays oR I⟩
end
section
open Go.RowKit Go.Shelf
theorem yO(m:List Bnd):∀l,(gh m l).length<=l.length+1
 | []=>by simp[gh]
 | x::l=>by
  have:=yO m l;simp only[gh]
  split
  ·simp;omega
  ·split<;>simp
end
end
section
abbrev oT(L:List (List Bnd)):Tr:=.lst false (L.map mtT)
section
variable (gl : Nat -> Option (List Tr))
noncomputable def pmE(S:List (List Bnd))(m:List Bnd)(i:Int):Sg:=⟨[(0,.box [.p (KR m)])],[⟨49,[(0,.p (oT S)),(3,.off 0 0 0),(5,.p (tI i))],none,[]⟩],[]⟩
noncomputable def pmC:Code:=lpb prog 28 [1,1,0,0]
theorem L7(S:List (List Bnd))(m:List Bnd)(hS:S.length<=1048576):∀(r k:Nat),k+r=S.length->(∀j x,S[j]?=some x->j<k->bsC x m<0) ->
  ∃i,i<=S.length/\(∀j x,S[j]?=some x->j<i->bsC x m<0)/\(∀x,S[i]?=some x->¬bsC x m<0)/\LoopP prog gl 0 pmC (pmE S m k) (.exit 0) (pmE S m i)
 | 0,k,hk,ha=>⟨k,by omega,ha,fun x I=>(by rw[PF om]at I;cases I),by
  obtain rfl:k=S.length:=by omega
  exact LoopP.stop [bf,bf,bf] [0,3,5] [0] jS (aj3 (dI mtT S) yF yF tv)⟩
 | r+1,k,hk,ha=>by
  have J:k<S.length:=by omega
  have hy:S[k]?=some S[k]:=OH J;generalize S[k]=y at hy;have hc:=BJ gl y m;have c1:=ltM mtT J;have ce:=elM mtT hy
  by_cases h:bsC y m<0
  ·obtain⟨i,h1,h2,h3,Z⟩:=L7 S m hS r (k+1) om fun j x I hj=>by
    rcases Nat.eq_or_lt_of_le (Nat.le_of_lt_succ hj) with e|e
    ·subst e;rw[hy]at I;cases I;exact h
    ·exact ha j x I e
   rw[<-wr1 J om]at Z;exact⟨i,h1,h2,h3,LoopP.next [bt,.el (mtT y),.ca (tI (bsC y m)),bt,bt] [0,3,5] [0] rfl Z (aj6 c1 ce (k0 k) hc yT (O3 h) tv)⟩
  ·exact⟨k,by omega,ha,fun x I=>(by rw[hy]at I;cases I;exact h),LoopP.stop [bt,.el (mtT y),.ca (tI (bsC y m)),bt,bf] [0,3,5] [0] jS (aj6 c1 ce (k0 k) hc yT (OZ h) tv)⟩
theorem put_t(S:List (List Bnd))(m:List Bnd)(hS:S.length<=1048576):PuC prog gl 28 [oT S,mtT m] (oT (gh m S)):=by
 obtain⟨i,h1,h2,h3,hl⟩:=L7 gl S m hS S.length 0 om fun j x _ h=>by omega
 obtain⟨k1,k2⟩:=qW S i h1 h2 h3;obtain⟨X,hX⟩:=jF (slL (S.map mtT) 0 (some (i:Int)));obtain⟨Y,hY⟩:=jF (slL (S.map mtT) (i:Int) none);have I:X=(S.take i).map mtT:=by rw[hX];simp only[slL];rw[List.map_take];simp
 have J:Y=(S.drop i).map mtT:=by rw[hY];simp only[slL];rw[List.map_drop];simp
 have xl:X.length=i:=by rw[I,OL,PB];omega
 have yl:Y.length=S.length-i:=by rw[J,OL,Qu]
 have xw:([]++X.map Tr.weak).length=i:=by rw[Ry,OL,xl]
 have zw:([]++X.map Tr.weak++[mtT m]).length=i+1:=by rw[OM,xw];rfl
 have al:((S.map mtT).all fun t=>t.cells.length==1)=true:=BC mtT fun _=>rfl
 have ml:(i:Int)<=((S.map mtT).length:Nat):=by rw[OL];omega
 have T:=ai i0 (aj8 (k0 i) ml al (show (X.all fun t=>t.cells.length==1)=true by rw[I];exact BC mtT fun _=>rfl) (show ([]:List Tr).length+X.length<=maxLen by rw[xl,aQ,Ri];omega) (show (([]:List Tr).length+X.length)*24<=140737488355328 by rw[xl,Ri];omega) yT (show ([]++X.map Tr.weak).length+1<=maxLen by rw[xw,aQ];omega) (aj8 (show (([]++X.map Tr.weak).length+1)*24<=140737488355328 by rw[xw];omega) (eV (.p (mtT m))) (eV (.p (.lst true [mtT m]))) (k0 i) ml (Int.le_refl ((S.map mtT).length:Nat)) al (show (Y.all fun t=>t.cells.length==1)=true by rw[J];exact BC mtT fun _=>rfl) (aj2 (show ([]++X.map Tr.weak++[mtT m]).length+Y.length<=maxLen by rw[zw,yl,aQ];omega) (show (([]++X.map Tr.weak++[mtT m]).length+Y.length)*24<=140737488355328 by rw[zw,yl];omega) tv)));have R:(∀x,S[i]?=some x->bsC x m≠0)->Tr.lst false ([]++X.map Tr.weak++[mtT m]++Y.map Tr.weak)=oT (gh m S):=fun a'=>by rw[k2 a',I,J,uj,uj];simp
 subst hX hY
 by_cases hi:i<S.length
 ·have hy:S[i]?=some S[i]:=OH hi;generalize S[i]=y at hy;have hc:=BJ gl y m;have c1:=ltM mtT hi;have ce:=elM mtT hy
  by_cases h0:bsC y m=0
  ·rw[k1 y hy h0];exact aq [.lo [0,3,5] (.exit 0) (pmE S m i),bt,.el (mtT y),.ca (tI (bsC y m)),bt,bt] (aj7 hl c1 ce (k0 i) hc yT (show (bsC y m==0)=true from jQ h0) tv)
  ·exact fN [.lo [0,3,5] (.exit 0) (pmE S m i),bt,.el (mtT y),.ca (tI (bsC y m)),bt,bf,.sl,.ap,.ap,.sl,.ap] (aj8 (R fun x Z=>by rw[hy]at Z;cases Z;exact h0) hl c1 ce (k0 i) hc yT (show (bsC y m==0)=false from jQ h0) T)
 ·obtain rfl:i=S.length:=by omega
  exact fN [.lo [0,3,5] (.exit 0) (pmE S m S.length),bf,bf,bf,.sl,.ap,.ap,.sl,.ap] (aj5 (R fun x Z=>by rw[PF om]at Z;cases Z) hl (dI mtT S) yF yF T)
end
end
structure Stop(p:Prop):Prop where
 out:p
theorem ot{l:List Oper}(t:TypeId)(u:Operand)(_:o.op=.load t u)(h:Stop (wpList P ops Q (o::l) a w)):wpList P ops Q (o::l) a w:=h.out
theorem vR{l:List Oper}(h:∀W,W=w->wpList P ops Q l a W):wpList P ops Q l a w:=h w rfl
theorem vS{R:World->Nat->Nat->α->Prop}{sz:Nat}{l:List α}(h:Sl R sz w v l):(l.length:Int)<=9223372036854775807:=by
 obtain⟨A,c,e,h1,I,J⟩:=h;exact aP h1 I
theorem Lu{Q:Nat}{a b c r:Value}{p:List Value}(h:w.heap[Q]?=some (.cells (a::b::c::(p++[r])).toArray 33 (0,0))):w.rangeAt Q 3 p:=fun j u I=>by
 rw[ab h,Nat.add_comm];show (p++[r])[j]?=some u;rw[Ph (List.getElem?_eq_some_iff.1 I).1,I]
theorem nS:(prog.info? 31).map (·.size)=some 14:=kr
def iI(x:Pt)(l:List Evt):Bool :=
 (wi x&&decide (l.length<=10))&&(l.all (fun e=>decide (e.vals.length<=9))&&(decide (((evV x).length+1)^l.length<=1500) || (!fk x&&decide (l.length^(evV x).length<=1500))))
theorem gC(h:iI x l=true):SmallN l.length x/\(∀e∈l,e.vals.length<=9)/\wi x=true:=by
 unfold iI at h;rw[ON,ON,ON,Pi,ON,OW,OW,OW,Pj]at h;obtain⟨⟨h1,I⟩,Z,J⟩:=h;refine⟨⟨I,J⟩,fun e he=>?_,h1⟩;exact Pe (List.all_eq_true.1 Z e he)
theorem BT(d:Nat)(x:Pt)(l:List Evt)(v vc vl:Value)(w:World)(hx:dg d w v x.args)(r':bZ d w vc x.cond.args)(hl:cH w vl l)(hN:ptB x<=1048576) :
  OE 19 #[ptV x v vc,vl] w (.bool (iI x l)):=by
 have Y':=iL x;have f':=qp x;obtain⟨Ac,cc,rfl,-⟩:=id r';have Z:=jD (fun(W:World)(hW:OD w W)=>D6 d x v _ W (hx.stays (bK d) hW) (r'.stays (bi d) hW) hN);have x':=jD (fun(W:World)(hW:OD w W)=>zD d x v Ac x.cond.args.length cc W (hx.stays (bK d) hW) om);have l':=jD (fun(W:World)(hW:OD w W)=>DQ d x v Ac x.cond.args.length cc W (hx.stays (bK d) hW));obtain⟨fp,n'⟩:∃t,wi x=t:=⟨_,rfl⟩;obtain⟨ip,h'⟩:∃t,fk x=t:=⟨_,rfl⟩;obtain⟨nv,g'⟩:∃t,(evV x).length=t:=⟨_,rfl⟩;obtain⟨r,hr⟩:=jE (iI x l);have HR:Hid (r=((fp&&decide (l.length<=10))&&(l.all (fun e=>decide (e.vals.length<=9))&&(decide ((nv+1)^l.length<=1500) || (!ip&&decide (l.length^nv<=1500)))))):=jD (by rw[<-hr];unfold iI;rw[n',h',g']);rw[hr];rw[n']at Z;rw[h']at l';rw[g']at x' f';obtain⟨Aa,ca,rfl,-⟩:=id hx;obtain⟨Al,cl,rfl,l1,l2,d'⟩:=id hl;have C0:=aP l1 l2;have T':=jD d';have Z':(((nv+1:Nat)):Int)=(nv:Int)+1:=by omega
 have D':=jD (fun(b n:Nat)(hb:b<=1048577)(hn:n<=1048577)(W:World)=>Br b n W hb hn);have H0:nv<=1048576:=by omega
 clear n' h' g' hr hx r' hl d' l1 l2 hN Y' f';unfold ptV at Z x' l' ⊢;go_enter func19,ntmps19;go_wp2_with (refine ot 31 (.tmp 2) rfl ?_);refine⟨vR fun w1 e1=>?_⟩;obtain⟨X,k'⟩:∃q,q=w.heap.size:=⟨_,rfl⟩;have hX:w1.heap[X]?=some (.cells [.int .i64 x.op,.slice Aa x.args.length ca,.int .i64 x.ty,.int .i64 x.vr,.int .i64 x.sc,.int .i64 x.sp,.int .i64 x.cond.op,.slice Ac x.cond.args.length cc,.int .i64 x.cond.vr,.int .i64 x.cond.fl,.int .i64 x.cond.kd,.int .i64 x.cond.val.kind,.int .i64 x.cond.val.num,.string x.cond.val.text].toArray 31 (0,0)):=by rw[e1];exact ax _ _ _ k'
 have N':OD w w1:=gb e1;rw[<-k'];have s':=jD N';have q':=jD hX;clear e1 k' hX N';go_wp2_with (refine RB rfl 31 (.tmp 2) rfl X rfl 31 [OB x.op,.slice Aa x.args.length ca,OB x.ty,OB x.vr,OB x.sc,OB x.sp,OB x.cond.op,.slice Ac x.cond.args.length cc,OB x.cond.vr,OB x.cond.fl,OB x.cond.kd,OB x.cond.val.kind,OB x.cond.val.num,.string x.cond.val.text].toArray (0,0) _ q'.out underlying31 rfl nS ?_);refine (Z.out _ s'.out).mono ?_;rintro e w2 ⟨rfl,m'⟩;have I:=jD (ae s'.out m');have H':=jD (aw m' q'.out);clear m' q' s' Z
 cases fp with
 | false =>
  obtain rfl:r=false:=by have h:=HR.out;simpa using h
  exact fi I.out
 | true =>
 by_cases g1:10<l.length
 ·have V':(10:Int)<(l.length:Int):=by omega
  obtain rfl:r=false:=by have h:=HR.out;rw[OZ (show ¬l.length<=10 by omega)]at h;simpa using h
  clear g1;exact fi I.out
 have V':¬(10:Int)<(l.length:Int):=by omega
 have G1:=jD g1;clear g1;go_wp2_with fail
 go_loopw [5] (fun i wr=>∃k:Nat,k<=l.length/\i=OB k/\Hid ((∀e∈l.take k,e.vals.length<=9)/\OD w2 wr)) (fun i _=>l.length-(intOf i).toNat)
 case atStart=>exact⟨0,OO _,rfl,jD ⟨by simp,OK _ _⟩⟩
 case round =>
  obtain⟨k,hk,rfl,hI⟩:=hrel;have hb:=hI.out.2
  by_cases i':k<l.length
  ·have P':(k:Int)<(l.length:Int):=by omega
   have c':=OH i';obtain⟨y,hy⟩:=jF (l[k]);rw[<-hy]at c';obtain⟨b,o,rfl,u,hu,-,-,-,-,y4⟩:=T'.out k y c';replace y4:=aa (ae I.out hb) y4;obtain⟨Au,cu,rfl,u1,u2,-⟩:=hu;have K0:=aP u1 u2;have HG:=jD c';clear hy c' i' u1 u2
   by_cases g2:9<y.vals.length
   ·have Q':(9:Int)<(y.vals.length:Int):=by omega
    obtain rfl:r=false:=by
     have h:=HR.out;have h2:l.all (fun e=>decide (e.vals.length<=9))=false:=by
      rw[List.all_eq_false];exact⟨y,Pb HG.out,by simp;omega⟩
     rw[h2]at h;simpa using h
    clear g2;exact fi (ae I.out hb)
   ·have Q':¬(9:Int)<(y.vals.length:Int):=by omega
    have G2:=jD g2;clear g2;go_wp2_with fail;refine⟨⟨k+1,by omega,by go_num,jD ⟨fun e he=>?_,hb⟩⟩,by simp[intOf];omega⟩;rw[dz HG.out,Qg,QA]at he;rcases he with he|rfl
    ·exact hI.out.1 e he
    ·have:=G2.out;omega
  ·have P':¬(k:Int)<(l.length:Int):=by omega
   have G':Hid (l.all (fun e=>decide (e.vals.length<=9))=true):=jD (List.all_eq_true.2 fun e he=>O3 (hI.out.1 e (by rw[QK om];exact he)));have C':=jD (ae I.out hb);have u':=jD (aw hb H'.out);clear i' hI hk hb H';go_wp2_with (refine RB rfl 31 (.tmp 2) rfl X rfl 31 [OB x.op,.slice Aa x.args.length ca,OB x.ty,OB x.vr,OB x.sc,OB x.sp,OB x.cond.op,.slice Ac x.cond.args.length cc,OB x.cond.vr,OB x.cond.fl,OB x.cond.kd,OB x.cond.val.kind,OB x.cond.val.num,.string x.cond.val.text].toArray (0,0) _ u'.out underlying31 rfl nS ?_);refine (x'.out _ C'.out).mono ?_;rintro e w3 ⟨rfl,p'⟩;have S':=jD (ae C'.out p');have E':=jD (aw p' u'.out);have y':=jD (D'.out (nv+1) l.length om om w3);rw[Z']at y';clear p' u';go_wp2_with fail;refine y'.out.mono ?_;rintro e w4 ⟨r1,rfl,a',z'⟩;have t':=jD (ae S'.out z');have U':=jD (aw z' E'.out);clear z' E' y'
   by_cases g3:r1<=1500
   ·have R':(r1:Int)<=1500:=by omega
    obtain rfl:r=true:=by
     have h:=HR.out;rw[G'.out,O3 (a'.1 g3),O3 (show l.length<=10 by omega)]at h
     simpa using h
    clear g3 a';exact fi t'.out
   ·have R':¬(r1:Int)<=1500:=by omega
    have j':Hid (r=(!ip&&decide (l.length^nv<=1500))):=jD (by
     have h:=HR.out;rw[G'.out,OZ (fun h=>g3 (a'.2 h)),O3 (show l.length<=10 by omega)]at h
     simpa using h)
    clear g3 a';go_wp2_with (refine RB rfl 31 (.tmp 2) rfl X rfl 31 [OB x.op,.slice Aa x.args.length ca,OB x.ty,OB x.vr,OB x.sc,OB x.sp,OB x.cond.op,.slice Ac x.cond.args.length cc,OB x.cond.vr,OB x.cond.fl,OB x.cond.kd,OB x.cond.val.kind,OB x.cond.val.num,.string x.cond.val.text].toArray (0,0) _ U'.out underlying31 rfl nS ?_);refine (l'.out _ t'.out).mono ?_;rintro e w5 ⟨rfl,J'⟩;have I':=jD (ae t'.out J');clear J'
    cases ip with
    | true =>
     obtain rfl:r=false:=by have h:=j'.out;simpa using h
     exact fi I'.out
    | false =>
     have A':=jD (D'.out l.length nv om om w5);go_wp2_with fail;refine A'.out.mono ?_;rintro e w6 ⟨r2,rfl,J,F'⟩;have B':=jD (ae I'.out F');clear F' A'
     by_cases g4:r2<=1500
     ·have S0:(r2:Int)<=1500:=by omega
      obtain rfl:r=true:=by have h:=j'.out;rw[O3 (J.1 g4)]at h;simpa using h
      clear g4 J;exact fi B'.out
     ·have d4:decide ((r2:Int)<=1500)=false:=OZ om;obtain rfl:r=false:=by have h:=j'.out;rw[OZ (fun h=>g4 (J.2 h))]at h;simpa using h
      clear g4 J;exact fi B'.out
def uB(q:Qry)(l:List Evt):Bool:=iI q.pat l&&(decide (q.key.length<=20)&&(decide (q.rets.length<=4)&&decide (q.vars.length<=20)))
theorem gM(h:uB q l=true):iI q.pat l=true/\q.key.length<=20/\q.rets.length<=4/\q.vars.length<=20:=by
 unfold uB at h;rw[ON,ON,ON,OW,OW,OW]at h;exact h
theorem Ew(d:Nat)(q:Qry)(l:List Evt)(vv vk va vc vr vl:Value)(w:World)(hq:QryIs d w q vv vk va vc vr)(hl:cH w vl l)(hB:ptB q.pat<=1048576) :
  OE 6 #[og q vv vk va vc vr,vl] w (.bool (uB q l)):=by
 have J:=jD (fun(W:World)(hW:OD w W)=>BT d q.pat l va vc vl W (hq.args.stays (bK d) hW) (hq.cond.stays (bi d) hW) (hl.stays bX hW) hB);obtain⟨sm,c'⟩:∃t,iI q.pat l=t:=⟨_,rfl⟩;obtain⟨r,hr⟩:=jE (uB q l);have HR:Hid (r=(sm&&(decide (q.key.length<=20)&&(decide (q.rets.length<=4)&&decide (q.vars.length<=20))))):=jD (by rw[<-hr];unfold uB;rw[c']);rw[hr];rw[c']at J;have n':=vS hq.key;have m':=vS hq.vars;have p':=vS hq.rets;obtain⟨Av,cv,rfl,-⟩:=id hq.vars;obtain⟨Ak,ck,rfl,-⟩:=id hq.key;obtain⟨Aa,ca,rfl,-⟩:=id hq.args;obtain⟨Ac,cc,rfl,-⟩:=id hq.cond;obtain⟨Ar,cr,rfl,-⟩:=id hq.rets;obtain⟨Al,cl,rfl,-⟩:=id hl;clear c' hr hq hl hB;unfold og;unfold ptV at J;go_enter func6,ntmps6;go_wp2_with (refine ot 31 (.tmp 5) rfl ?_);refine⟨vR fun w1 e1=>?_⟩;obtain⟨Q,a'⟩:∃q,q=w.heap.size:=⟨_,rfl⟩;have hQ:w1.heap[Q]?=some (.cells [.string q.nm,.slice Av q.vars.length cv,.slice Ak q.key.length ck,.int .i64 q.pat.op,.slice Aa q.pat.args.length ca,.int .i64 q.pat.ty,.int .i64 q.pat.vr,.int .i64 q.pat.sc,.int .i64 q.pat.sp,.int .i64 q.pat.cond.op,.slice Ac q.pat.cond.args.length cc,.int .i64 q.pat.cond.vr,.int .i64 q.pat.cond.fl,.int .i64 q.pat.cond.kd,.int .i64 q.pat.cond.val.kind,.int .i64 q.pat.cond.val.num,.string q.pat.cond.val.text,.slice Ar q.rets.length cr].toArray 33 (0,0)):=by rw[e1];exact ax _ _ _ a'
 have i':OD w w1:=gb e1;have g':=jD (Lu (p:=[OB q.pat.op,.slice Aa q.pat.args.length ca,OB q.pat.ty,OB q.pat.vr,OB q.pat.sc,OB q.pat.sp,OB q.pat.cond.op,.slice Ac q.pat.cond.args.length cc,OB q.pat.cond.vr,OB q.pat.cond.fl,OB q.pat.cond.kd,OB q.pat.cond.val.kind,OB q.pat.cond.val.num,.string q.pat.cond.val.text]) hQ);rw[<-a'];have d':=jD i';have h':=jD hQ;clear e1 a' hQ i';go_wp2_with (refine wpList_load_mid rfl 31 (.tmp 5) rfl Q 3 rfl [OB q.pat.op,.slice Aa q.pat.args.length ca,OB q.pat.ty,OB q.pat.vr,OB q.pat.sc,OB q.pat.sp,OB q.pat.cond.op,.slice Ac q.pat.cond.args.length cc,OB q.pat.cond.vr,OB q.pat.cond.fl,OB q.pat.cond.kd,OB q.pat.cond.val.kind,OB q.pat.cond.val.num,.string q.pat.cond.val.text] _ g'.out underlying31 rfl kr ?_);refine (J.out _ d'.out).mono ?_;rintro e w2 ⟨rfl,f'⟩;have I:=jD (ae d'.out f');have Z:=aw f' h'.out;have y1:OC w2 Q 1 (.slice Av q.vars.length cv):=ab Z 1;have y2:OC w2 Q 2 (.slice Ak q.key.length ck):=ab Z 2;have q':OC w2 Q 17 (.slice Ar q.rets.length cr):=ab Z 17;clear f' g' h' d' J Z
 cases sm with
 | false =>
  obtain rfl:r=false:=by have h:=HR.out;simpa using h
  exact fi I.out
 | true =>
 by_cases g1:q.key.length<=20
 case neg =>
  have j':decide ((q.key.length:Int)<=20)=false:=OZ om;obtain rfl:r=false:=by have h:=HR.out;rw[OZ g1]at h;simpa using h
  clear g1;exact fi I.out
 have j':decide ((q.key.length:Int)<=20)=true:=O3 om
 by_cases g2:q.rets.length<=4
 case neg =>
  have k':decide ((q.rets.length:Int)<=4)=false:=OZ om;obtain rfl:r=false:=by have h:=HR.out;rw[OZ g2]at h;simpa using h
  clear g1 g2;exact fi I.out
 have k':decide ((q.rets.length:Int)<=4)=true:=O3 om
 by_cases g3:q.vars.length<=20
 case neg =>
  have l':decide ((q.vars.length:Int)<=20)=false:=OZ om;obtain rfl:r=false:=by have h:=HR.out;rw[OZ g3]at h;simpa using h
  clear g1 g2 g3;exact fi I.out
 have l':decide ((q.vars.length:Int)<=20)=true:=O3 om;obtain rfl:r=true:=by have h:=HR.out;rw[O3 g1,O3 g2,O3 g3]at h;simpa using h
 clear g1 g2 g3;exact fi I.out
section
open Go.RowKit Go.Lib
attribute [local go_sem] Oper.semAt_some
theorem KI(I:∀(b p:Nat)(v:Value),W.cell? ⟨b,p,none⟩=some v->W'.cell? ⟨b,p,none⟩=some v){l:List Bnd}(h:cP W v l):cP W' v l:=by
 obtain⟨A,c,rfl,h1,J,h3⟩:=h;refine⟨A,c,rfl,h1,J,fun k x hx=>?_⟩;obtain⟨b,o,e,Z,c1,c2,c3⟩:=h3 k x hx;exact⟨b,o,e,I _ _ _ Z,I _ _ _ c1,I _ _ _ c2,I _ _ _ c3⟩
theorem rU{sz n:Nat}(h:w.ownsRow base e sz v n xs)(Z:w.grownBy w' row)(hr:∀r,row=some r->∃o:Obj,w.heap[r]?=some o/\o.isCells=false):w'.ownsRow base e sz v n xs:=by
 refine aY h fun g I=>Z.block g (ao h I).2 fun e2=>?_
 obtain⟨o,J,hc⟩:=hr g e2.symm;rcases h.2 with ⟨rfl,_⟩|⟨g',cap,cur,rfl,_,hh,_⟩
 ·simp[Value.ownBlock]at I
 ·have:g'=g:=by simpa [Value.ownBlock] using I
  subst this;rw[hh]at J
  cases J
  cases hc
theorem MW.kept(h:MW B W Z ms)(J:W.grownBy W' row)(hr:∀r,row=some r->∃o:Obj,W.heap[r]?=some o/\o.isCells=false):MW B W' Z ms :=
 ⟨rU h.row J hr,fun e he=>⟨KI (fun _ _ _ hc=>cell_kept hc J hr) (h.bnds e he).1,fun g I=>⟨((h.bnds e he).2 g I).1,OT ((h.bnds e he).2 g I).2.1 J.size,((h.bnds e he).2 g I).2.2⟩⟩⟩
theorem MW.box{C:Nat}(h:MW B W J ms)(Z:C<B)(u:Value):MW B (W.setCell ⟨C,0,none⟩ u) J ms:=by
 refine⟨aY h.row fun g I=>Qq W ⟨C,0,none⟩ u g (by have:=(ao h.row I).1;simp only;omega),fun e he=>⟨pm (h.bnds e he).1 fun g I=>Qq W ⟨C,0,none⟩ u g (by have:=((h.bnds e he).2 g I).1;simp only;omega),fun g I=>?_⟩⟩;have:=(h.bnds e he).2 g I;exact⟨this.1,jQ this.2.1,this.2.2⟩
theorem MW.apps{Z w7:World}{av v7 v2:Value}{J:List MV}(h:MW B Z av ms)(hn:MatsNew N Z v2 J)(g':B<=N)(d':∀g,av.ownBlock=some g->g<N)(a':w7.ownsRow B 58 1 v7 (ms.length+J.length) (ms.map (·.2)++J.map (·.2)))(hg:Z.grownBy w7 av.ownBlock)(c':v7.ownBlock=av.ownBlock\/v7.ownBlock=some Z.heap.size) :
  MW B w7 v7 (ms++J):=by
 have f':=hg.size;refine⟨by rw[OM,Pq];exact a',fun e he=>?_⟩;have h0:cP Z e.2 e.1/\∀g,e.2.ownBlock=some g->B<=g/\g<Z.heap.size/\some g≠av.ownBlock:=by
  rcases List.mem_append.1 he with he|he
  ·exact h.bnds e he
  ·refine⟨(hn.2 e he).1,fun g I=>?_⟩;have h1:=(hn.2 e he).2 g I;exact⟨by omega,h1.2,fun e2=>by have:=d' g e2.symm;omega⟩
 refine⟨pm h0.1 fun g I=>hg.block g (h0.2 g I).2.1 (h0.2 g I).2.2,fun g I=>?_⟩;have h1:=h0.2 g I;refine⟨h1.1,by omega,?_⟩;rcases c' with hl|hl
 ·rw[hl];exact h1.2.2
 ·rw[hl];simp;omega
theorem MatsNew.src{n c:Nat}(h:MatsNew N w (.slice A n c) ms):Src w A n 1 (ms.map (·.2)):=by
 obtain⟨⟨A',c',e,h1,h2,h3⟩,h4⟩:=h;injection e with e1 Z e3;subst e1 Z e3;refine⟨by simp,fun u hu=>?_,fun J=>?_⟩
 ·obtain⟨e,he,rfl⟩:=List.mem_map.1 hu;obtain⟨Ae,ce,hv,-⟩:=(h4 e he).1;rw[hv];rfl
 ·obtain⟨b,o,hA,-,-,-⟩:=h3 0 ms[0] (OH J);refine⟨b,o,hA,fun j u hj=>?_⟩;rw[OQ]at hj;obtain⟨e,he,rfl⟩:=Option.map_eq_some_iff.1 hj;obtain⟨b',o',I,-,-,hc⟩:=h3 j e he;rw[hA]at I;injection I with I;injection I with e1 Z;subst e1 Z;exact hc
def iG(q:Qry)(l:List Evt):List (List Bnd) × Int:=if (aZ q l).2≠0 then ([],(aZ q l).2) else (fq (bj q.pat (aZ q l).1.2),0)
def LF(w:World)(r:List (List Bnd) × Int)(e:Ending)(W:World):Prop:=∃v,e=.returned (.tuple #[v,OB r.2])/\kC W v r.1/\OD w W
def PmNew(w:World)(r:List (List Bnd) × Int)(e:Ending)(W:World):Prop:=∃v ms,e=.returned (.tuple #[v,OB r.2])/\(ms.map (·.1)=r.1/\MatsNew w.heap.size W v ms)/\OD w W
theorem MatsNew.nil(B:Nat)(W:World):MatsNew B W (.slice none 0 0) []:=⟨⟨none,0,rfl,OI _,OO _,fun k e h=>by simp at h⟩,fun e h=>by simp at h⟩
theorem MW.new(h:MW B W Z ms)(hN:N<=B):MatsNew N W Z ms:=by
 have h1:∀u∈ms.map (·.2),u.oneCell'=true:=fun u hu=>by
  obtain⟨e,he,rfl⟩:=List.mem_map.1 hu;obtain⟨A,c,hv,-⟩:=(h.bnds e he).1;rw[hv];rfl
 obtain⟨A,c,rfl,h2,h3,h4⟩:=fm h.row h1;refine⟨⟨A,c,rfl,h2,h3,fun k e he=>?_⟩,fun e he=>⟨(h.bnds e he).1,fun g J=>⟨OP hN ((h.bnds e he).2 g J).1,((h.bnds e he).2 g J).2.1⟩⟩⟩;obtain⟨b,o,rfl,I⟩:=h4.2.2 (by have:=(List.getElem?_eq_some_iff.1 he).1;omega);exact⟨b,o,rfl,OP hN (ao h.row rfl).1,(ao h.row rfl).2,I k _ (by rw[OQ,he];rfl)⟩
def LO(w I h:World)(J:Nat)(p:Pt)(L:List (Vl × List Evt))(k:Nat)(W:World):Prop :=
 (∃u ms,Boxed W J 37 u/\MW h.heap.size W u ms/\ms.map (·.1)=(L.take k).flatMap (fun s=>dF s.2 p))/\OD I W/\OD w W/\h.heap.size<=W.heap.size
theorem EJ{Z w3:World}{b9:Nat}(hw:w.heap.size<=B)(h:Z.heap.size<=B):OwnFrom B (LO w Z w3 b9 p L) :=
 fun _ _ _ _ ⟨⟨u,ms,h1,h2,h3⟩,I,J,h6⟩ hg hr=>⟨⟨u,ms,gY h1 hg (fun r e=>(hr r e).2),h2.kept hg (fun r e=>(hr r e).2),h3⟩,Cy I I.size hg (fun r e=>OP h (hr r e).1),Cy J J.size hg (fun r e=>OP hw (hr r e).1),OP h6 hg.size⟩
def AxM(T:Array Value)(x:Vl × List Evt)(a:Array Value)(h:Act)(_:World):Prop :=
 ∃u,a=#[vlV x.1,u]/\h={ tmps:=((T.setIfInBounds 27 (vlV x.1)).setIfInBounds 28 u).setIfInBounds 11 u,defers:=[] }
theorem JZ(T:Array Value)(B:Nat)(x:Vl × List Evt)(a:Array Value)(I:Act):OwnFrom B (fun(_:Unit) W=>AxM T x a I W):=fun _ _ _ _ h _ _=>h
theorem sn{sz n:Nat}(h:w.ownsRow base e sz v n xs)(I:w.grownBy w' v.ownBlock):KeepsFrom B w w':=by
 refine⟨I.size,fun k o _ hk Z=>(I.block k (Array.getElem?_eq_some_iff.1 hk).1 fun J=>?_).trans hk⟩;rcases h.2 with ⟨rfl,_⟩|⟨g',cap,cur,rfl,_,hh,_⟩
 ·simp[Value.ownBlock]at J
 ·have:k=g':=by simpa [Value.ownBlock] using J
  subst this;rw[hh]at hk
  cases hk
  cases Z
theorem DU(h:(fZ key l).2=0):bN l=0/\(fZ key l).1=(dO key l,eJ key l):=by
 unfold fZ at h ⊢
 split at h
 ·next h0=>exact absurd h h0
 ·next h0 =>
  rw[OF h0];refine⟨?_,rfl⟩
  by_cases hs:bN l=0
  ·exact hs
  ·exact absurd (qR rfl hs▸hs) h0
theorem ox(h:(aZ q l).2=0):fx q.pat=0/\bN l=0/\(aZ q l).1=(dO q.key l,eJ q.key l):=by
 unfold aZ at h ⊢
 split at h
 ·next h0=>exact absurd h h0
 ·next h0 =>
  rw[OF h0];obtain⟨h1,I⟩:=DU h;exact⟨jQ h0,h1,I⟩
theorem wR{s:List Evt}(h:s∈eJ key l):s.length<=l.length:=by
 obtain⟨v,_,rfl⟩:=List.mem_map.1 h;exact QF _ _
theorem KL{β:Type}{a:List α}{b:List β}(h:b.length=a.length):(a.zip b).map (·.2)=b:=by
 rw[List.map_snd_zip om]
theorem qZ(h:ps.length=ks.length):(ks.zip ps).flatMap (fun s=>dF s.2 p)=bj p ps:=by
 unfold bj
 conv=>rhs;rw[<-KL h]
 rw[R5]
theorem sV(h:L[k]?=some y):(L.take (k+1)).flatMap (fun s=>dF s.2 p)=(L.take k).flatMap (fun s=>dF s.2 p)++dF y.2 p:=by
 rw[ef h,QD];simp
theorem KE(k:Nat):((L.take k).flatMap (fun s=>dF s.2 p)).length<=(L.flatMap (fun s=>dF s.2 p)).length:=by
 conv=>rhs;rw[<-QT k L,QD,OM]
 omega
theorem tX(J:M.Nodup){es es':List MV}(he:es.map (·.1)=M)(hp:es'.Perm es)(I:(es'.map (·.1)).Pairwise (fun a b=>¬bsC b a<0)):es'.map (·.1)=fq M:=by
 have h:(es'.map (·.1)).Perm M:=he▸hp.map _;refine Ih ga (oG I (h.nodup_iff.2 J)) (dY M).1 fun k=>?_
 rw[h.mem_iff,(dY M).2 k]
theorem vB(d:Nat)(q:Qry)(l:List Evt)(vv vk va vc vr vl:Value)(w:World)(hA:PartAsk d w q l vv vk va vc vr vl)(hS:SmallN l.length q.pat)(hF:(aZ q l).2=0->(bj q.pat (eJ q.key l)).length<=4096) :
  Calls prog 8 #[og q vv vk va vc vr,vl] w (PmNew w (iG q l)):=by
 have R':=jD (fun(W:World)(hW:OD w W)=>zP d q l vv vk va vc vr vl W (hA.stays hW));have S4:=jD (fun(W:World)(s:List Evt)(u:Value)(hW:OD w W)(hs:s.length<=l.length)(hu:cH W u s)=>nG s q.pat d va vc u W (hA.shp.stays hW) (hA.qry.args.stays (bK d) hW) (hA.qry.cond.stays (bi d) hW) hu hA.few (hS.less hs));have N':=jD (yw q l);have T1:Hid ((aZ q l).2=0->fx q.pat=0/\(∀s∈(aZ q l).1.2,s.length<=l.length/\bN s=0)/\(bj q.pat (aZ q l).1.2).length<=4096/\(bj q.pat (aZ q l).1.2).Nodup):=jD fun h=>by
  obtain⟨h1,h2,h3⟩:=ox h;rw[h3];exact⟨h1,fun s hs=>⟨wR hs,xx h2 s hs⟩,hF h,oE _ _ (Bt (ji h2))⟩
 obtain⟨S,Z1⟩:=jE (iG q l);obtain⟨⟨⟨ks,ps⟩,se⟩,hR⟩:∃R,aZ q l=R:=⟨_,rfl⟩;have HS:Hid (S=if se≠0 then ([],se) else (fq (bj q.pat ps),0)):=jD (by rw[<-Z1,iG,hR]);rw[Z1];rw[hR]at R' N' T1;obtain⟨Av,cv,Ak,ck,Aa,ca,Ac,cc,Ar,cr,Al,cl,rfl,rfl,rfl,rfl,rfl,rfl⟩:=hA.form;clear hA hR Z1 hS hF;unfold og at R' ⊢;unfold ptV at S4;refine (callsIn_wide (n:=5)).1 ?_;refine callsIn_of_wp_marks func8 rfl trivial ?_ rfl;simp only[ntmps8,Rm,Pk,Ri,Nat.reduceAdd,Nat.reduceSub,Array.replicate_succ,Array.replicate_zero,List.push_toArray,List.append_toArray,Ry,Rq]
 have C1:∀o1 o2:Obj,(((w.alloc (.cells #[.string q.nm,.slice Av q.vars.length cv,.slice Ak q.key.length ck,.int .i64 q.pat.op,.slice Aa q.pat.args.length ca,.int .i64 q.pat.ty,.int .i64 q.pat.vr,.int .i64 q.pat.sc,.int .i64 q.pat.sp,.int .i64 q.pat.cond.op,.slice Ac q.pat.cond.args.length cc,.int .i64 q.pat.cond.vr,.int .i64 q.pat.cond.fl,.int .i64 q.pat.cond.kd,.int .i64 q.pat.cond.val.kind,.int .i64 q.pat.cond.val.num,.string q.pat.cond.val.text,.slice Ar q.rets.length cr] 33 (0,0))).alloc o1).alloc o2).heap[w.heap.size]?=some (.cells #[.string q.nm,.slice Av q.vars.length cv,.slice Ak q.key.length ck,.int .i64 q.pat.op,.slice Aa q.pat.args.length ca,.int .i64 q.pat.ty,.int .i64 q.pat.vr,.int .i64 q.pat.sc,.int .i64 q.pat.sp,.int .i64 q.pat.cond.op,.slice Ac q.pat.cond.args.length cc,.int .i64 q.pat.cond.vr,.int .i64 q.pat.cond.fl,.int .i64 q.pat.cond.kd,.int .i64 q.pat.cond.val.kind,.int .i64 q.pat.cond.val.num,.string q.pat.cond.val.text,.slice Ar q.rets.length cr] 33 (0,0)):=fun o1 o2=>aI (aI (ax _ _ _ rfl))
 refine wpIn_wide.2 ?_;go_wp2_with (refine RB rfl 33 (.tmp 2) rfl w.heap.size rfl 33 _ (0,0) _ (C1 _ _) underlying33 rfl nf ?_);refine aJ fun w1 e1=>?_
 have O2:OD w w1:=gb e1;obtain⟨b5,j'⟩:∃b,b=w.heap.size+1+1:=⟨_,rfl⟩;obtain⟨b4,K2⟩:∃b,b=w.heap.size+1:=⟨_,rfl⟩;obtain⟨b2,F'⟩:∃b,b=w.heap.size:=⟨_,rfl⟩;have I:w1.heap[b2]?=some (.cells #[.string q.nm,.slice Av q.vars.length cv,.slice Ak q.key.length ck,.int .i64 q.pat.op,.slice Aa q.pat.args.length ca,.int .i64 q.pat.ty,.int .i64 q.pat.vr,.int .i64 q.pat.sc,.int .i64 q.pat.sp,.int .i64 q.pat.cond.op,.slice Ac q.pat.cond.args.length cc,.int .i64 q.pat.cond.vr,.int .i64 q.pat.cond.fl,.int .i64 q.pat.cond.kd,.int .i64 q.pat.cond.val.kind,.int .i64 q.pat.cond.val.num,.string q.pat.cond.val.text,.slice Ar q.rets.length cr] 33 (0,0)):=by rw[e1,F'];exact C1 _ _
 have c':Boxed w1 b4 37 (.slice none 0 0):=by rw[e1,K2];exact aI (ax _ _ _ jS)
 have Z:Boxed w1 b5 38 (OB 0):=by rw[e1,j'];exact ax _ _ _ jS
 have U':Hid (w.heap.size<=b2/\b2<b4/\b4<b5/\b5<w1.heap.size):=jD ⟨by omega,by omega,by omega,Z.lt⟩;rw[<-j',<-K2,<-F'];clear e1 j' K2 F' C1;refine (R'.out _ O2).mono ?_;rintro e w2 ⟨kv,pv,rfl,F1,H2,H'⟩;have V5:=jD F1;have X6:=jD H2;obtain⟨A1,c1,rfl,-⟩:=id F1;obtain⟨A2,c2,rfl,-⟩:=id H2;have B4:=jD (aw H' I);have c':Boxed w2 b4 37 (.slice none 0 0):=(H'.block _ c'.lt).trans c';have Z:Boxed w2 b5 38 (OB 0):=(H'.block _ Z.lt).trans Z;have G1:=jD (ae O2 H');clear F1 H2 O2 H' R' I;have q4:=c'.cell;have f4:=c'.frozen;have q5:=Z.cell;have f5:=Z.frozen;have l4:=c'.lt;have l5:=Z.lt;have S0:w.heap.size<=b4:=by have:=U'.out;omega
 have K1:w.heap.size<=b5:=by have:=U'.out;omega
 have n45:b4≠b5:=by have:=U'.out;omega
 have Y0:b5≠b4:=by have:=U'.out;omega
 by_cases h0:se=0
 case neg =>
  have Z8:(se != 0)=true:=jQ h0;obtain rfl:S=([],se):=by have h:=HS.out;rw[OG h0]at h;exact h
  clear h0 HS;go_wp2_with fail;refine⟨.tuple #[.slice none 0 0,OB se],?_,_,[],rfl,⟨rfl,MatsNew.nil _ _⟩,aj (aj G1.out S0 _) K1 _⟩;have r4:=(fc (c'.set (.slice none 0 0)) n45 (OB se)).cell;have r5:=(Boxed.set (OB se) (fc Z Y0 (.slice none 0 0))).cell;simp[results,Tryz.f8,go_sem,r4,r5]
 subst h0;obtain⟨U2,P4,V2,U3⟩:=T1.out rfl;obtain rfl:S=(fq (bj q.pat ps),0):=by have h:=HS.out;rw[OF jS]at h;exact h
 have B5:=jD U2;have H3:=jD P4;have Q3:Hid (((ks.zip ps).flatMap (fun s=>dF s.2 q.pat)).length<=4096):=jD (by rw[qZ N'.out];exact V2);have Z5:=jD U3;clear HS T1 U2 P4 V2 U3;go_wp2_with fail;refine aJ fun h' T'=>?_
 obtain⟨b9,Z0⟩:∃b,b=w2.heap.size:=⟨_,rfl⟩;have H0:OD w2 h':=gb T';have U1:Boxed h' b9 37 (.slice none 0 0):=by rw[T',Z0];exact ax _ _ _ rfl
 have Y2:h'.heap.size=w2.heap.size+1:=by rw[T'];simp
 rw[<-Z0];clear T';refine (wH _ _ _ ⟨_,_,_,rfl⟩ ⟨_,_,_,rfl⟩).mono ?_;rintro e w3 ⟨rfl,e3⟩;have M1:OD h' w3:=gb e3;have k3:OC w3 h'.heap.size 0 (.slice A1 ks.length c1):=jG e3;have p3:OC w3 (h'.heap.size+1) 0 (.slice A2 ps.length c2):=jG e3;have V4:w3.heap.size=h'.heap.size+2:=by rw[e3];simp
 have r':=ae H0 M1;have Y':=jD (wI ks ps _ _ h'.heap.size (h'.heap.size+1) w2 w3 N'.out V5.out X6.out r' k3 p3);have W6:Hid (Boxed w3 b9 37 (.slice none 0 0)):=jD ((M1.block _ U1.lt).trans U1);have B':=jD c';have y':=jD Z;have q':=jD (ae G1.out r');have E':=jD r';clear e3 k3 p3 M1 c' Z U1 q4 f4 q5 f5 H0 r';obtain⟨pb,K0⟩:∃b,b=h'.heap.size+1:=⟨_,rfl⟩;obtain⟨kb,U0⟩:∃b,b=h'.heap.size:=⟨_,rfl⟩;have J:Hid (w3.heap.size=b9+3/\kb=b9+1/\pb=b9+2/\b9=w2.heap.size):=jD om;rw[<-K0,<-U0]at Y';rw[<-K0,<-U0];clear U0 K0 Z0 Y2 V4;go_wp2_with fail;refine (wpIn_wide (n:=5)).1 ?_;refine Hm fun a0 e0=>?_
 refine MY (n:=5) (gf:=54) (lb:=#[.pointer (some ⟨kb,0,none⟩),.pointer (some ⟨pb,0,none⟩)]) (by rw[e0];rfl) (enters_of func54 kr rfl) Y'.out
  IV (kpS_b E'.out.size (by have:=J.out;omega) (by have:=J.out;omega)) (OK _ _) (fun x v=>FQ w2 _ x v) (fun x v W h=>Ep h)
  (LO w w2 w3 b9 q.pat (ks.zip ps)) (fun _ _ _=>False) (EJ q'.out.size E'.out.size) (fun c _ _ _ _ h _ _=>h) ⟨⟨_,[],W6.out,MW.nil _ _,by simp⟩,E'.out,q'.out,OI _⟩
  (AxM a0.tmps) (fun x v a'=>JZ _ _ x v a') ?assign ?body ?done ?stop
 case assign =>
  intro m l9 k y v W K hl hy hi C2 hK;obtain⟨u,rfl,hu⟩:=C2;obtain⟨Au,cu,rfl,-⟩:=id hu;obtain⟨y1,y2⟩:=y;have Y1:=hK;rw[e0]at Y1;have HI:=jD hi;have HU:=jD hu;have HK:=jD Y1;clear hi hu Y1 hK hy hl;rw[e0];unfold vlV;gi_wp2;exact HK.out _ _ (lB (OK _ _)) (FM _ _ _ _) HI.out ⟨_,rfl,HU.out⟩ ⟨_,rfl,rfl⟩
 case body =>
  rintro m l9 k ⟨y1,y2⟩ v a' W hl-hy hi C2 ⟨u,rfl,rfl⟩;obtain⟨u',T2,hu⟩:=C2;obtain rfl:u=u':=jQ T2;obtain⟨Au,cu,rfl,-⟩:=id hu;obtain⟨⟨uo,ms,xo,p',m'⟩,g',z',D'⟩:=hi;have I:W.heap[b2]?=_:=(g'.block b2 (aX B4.out)).trans B4.out;have J':y2∈ps:=by
   have h:=Pb hy;exact (List.of_mem_zip h).2
  have X5:=jD (S4.out W y2 _ z' (H3.out y2 J').1 (hu.stays bX g'));have W7:=jD (H3.out y2 J').2;have HY:=jD hy;have HB:=jD (And.intro g' (And.intro z' D'));have x':=jD p';have Q':=jD m';have p3:=ab I 3;have p4:=ab I 4;have p5:=ab I 5;have p6:=ab I 6;have p7:=ab I 7;have p8:=ab I 8;have p9:=ab I 9;have X4:=ab I 10;have H7:=ab I 11;have Y6:=ab I 12;have K5:=ab I 13;have S5:=ab I 14;have U4:=ab I 15;have S6:=ab I 16;simp only[Q5,QC]at p3 p4 p5 p6 p7 p8 p9 X4 H7 Y6 K5 S5 U4 S6;have X8:=aX I;have W2:=jD xo;obtain⟨Ao,co,rfl⟩:=bw p'.row;clear T2 hu p' m' g' z' D' I J' hy xo;rw[e0];simp only[O9,O6,O4];gi_wp2;refine⟨trivial,fun h=>by simp[Fence.wide]at h,CallsIn.inRound _ (callsIn_wide.2 ?_)⟩;refine X5.out.mono ?_;intro e W5 h5;obtain⟨j',h5⟩:=h5;rcases h5 with ⟨h5,-⟩|⟨-,h5,-⟩|⟨-,-,v5,ms5,rfl,hn5,hm5⟩
  ·exact absurd B5.out h5
  ·exact absurd W7.out h5
  obtain⟨A5,c5,rfl⟩:∃A5 c5,v5=.slice A5 ms5.length c5:=by obtain⟨⟨A5,c5,e,-⟩,-⟩:=hn5;exact⟨A5,c5,e⟩
  have s':=x'.out.grow j';have U7:ms.length+ms5.length<=4096:=by
   have h1:=congrArg List.length Q'.out;have h2:=congrArg List.length hm5;rw[OL]at h1 h2;have h3:=KE (p:=q.pat) (L:=ks.zip ps) (k+1);rw[sV HY.out,OM]at h3;dsimp only at h3;have:=Q3.out;omega
  have x5:Boxed W5 b9 37 (.slice Ao ms.length co):=(j'.block _ W2.out.lt).trans W2.out;have Y7:Hid ((ms++ms5).map (·.1)=((ks.zip ps).take (k+1)).flatMap (fun s=>dF s.2 q.pat)):=jD (by rw[Pq,Q'.out,hm5,sV HY.out]);have K4:=jD j';have V8:=j'.size;have T8:=jD hn5;have B8:=jD s';obtain⟨n,hn⟩:=jF ms.length;obtain⟨n5,l'⟩:∃n,n=ms5.length:=⟨_,rfl⟩;obtain⟨N,hN⟩:=jF (n+n5);have t':Hid (W5.ownsRow w3.heap.size 58 1 (.slice Ao n co) n (ms.map (·.2))):=jD (by rw[hn];exact s'.row);have Z3:Hid (Src W5 A5 n5 1 (ms5.map (·.2))):=jD (by rw[l'];exact hn5.src);have A7:Hid (∀(w8:World)(v8:Value),w8.ownsRow w3.heap.size 58 1 v8 N (ms.map (·.2)++ms5.map (·.2))->W5.grownBy w8 (Value.slice Ao n co).ownBlock->(v8.ownBlock=(Value.slice Ao n co).ownBlock\/v8.ownBlock=some W5.heap.size)->MW w3.heap.size w8 v8 (ms++ms5)):=jD fun w8 v8 h1 h2 h3=>s'.apps (N:=W.heap.size) hn5 HB.out.2.2 (fun g hg=>(ao x'.out.row hg).2) (by rw[<-hn,<-l',<-hN];exact h1) (by rw[<-hn];exact h2) (by rw[<-hn];exact h3)
  rw[<-hn,<-l']at U7;rw[<-hn]at x5;rw[<-l'];clear hn5 hm5 s' j' hn l';have U8:=x5.cell;have H9:=x5.frozen;have Y8:=x5.lt;have n':=jD x5;have S8:N<=4096:=by omega
  have hle:¬(4096:Int)<(N:Int):=by omega
  have HN:=jD hN;obtain⟨j0,Z4,V6,W4,T5⟩:=Ql yW;clear x5 hN;gi_wp2_with (gi_at_builtin;refine uW _ rfl (.tmp 39) (.tmp 40) 37 rfl w3.heap.size 58 j0 _ 1 24 underlying37 Z4 V6 W4 T5 rfl dc (.slice Ao n co) n (ms.map (·.2)) rfl t'.out A5 n5 c5 (ms5.map (·.2)) rfl Z3.out (by unfold maxLen;omega) om (by have:=HB.out.2.2;omega) ?_;intro v8 w8 d' V' I';rw[<-HN.out]at d';have Y3:=jD (A7.out w8 v8 d' V' I');have X0:=jD V';have x8:Boxed w8 b9 37 (.slice Ao n co):=n'.out.kept V' (fun e=>by have:=(ao t'.out e.symm).1;have:=J.out;omega);have c8:=x8.cell;have f8:=x8.frozen;have l8:=x8.lt;have Y5:=jD x8;obtain⟨A8,S7,rfl⟩:=bw d';have c9:=(x8.set (.slice A8 N S7)).cell;clear x8 d' V' I');have d':∀g,(Value.slice Ao n co).ownBlock=some g->w3.heap.size<=g:=fun g e=>(ao t'.out e).1
  have H5:=HB.out.2.2;have S2:Below w3.heap.size W5 w8:=aB X0.out om d';have k':Below w3.heap.size W w8:=(K4.out.mono H5).trans S2;refine⟨(lB K4.out).trans ((sn t'.out X0.out).trans ((Sh _ _ _).from _)),⟨Below.setCell (k'.mono (by have:=J.out;omega)) (p:=⟨b9,0,none⟩) (by have:=J.out;simp only;omega) _,?_,?_⟩,⟨_,_,Y5.out.set _,Y3.out.box (by have:=J.out;omega) _,Y7.out⟩,?_,?_,?_⟩
  ·exact (Qq _ ⟨b9,0,none⟩ _ kb (by have:=J.out;simp only;omega)).trans (k'.block kb (by have:=J.out;omega))
  ·exact (Qq _ ⟨b9,0,none⟩ _ pb (by have:=J.out;simp only;omega)).trans (k'.block pb (by have:=J.out;omega))
  ·exact Below.setCell (HB.out.1.trans (k'.mono (by have:=J.out;omega))) (p:=⟨b9,0,none⟩) (by have:=J.out;simp only;omega) _
  ·exact Below.setCell (HB.out.2.1.trans (k'.mono q'.out.size)) (p:=⟨b9,0,none⟩) (by have:=J.out;have:=G1.out.size;simp only;omega) _
  ·have:=X0.out.size;simp;omega
 case done =>
  rintro D W hD ⟨⟨uo,ms,xo,p',m'⟩,g',z',D'⟩ hK;rw[Pp]at m';have HK:=jD hK;rw[qZ N'.out]at m';have Q':=jD m';have x':=jD p';have G2:=jD z';have hlen:ms.length<=4096:=by
   have h1:=congrArg List.length m';have h2:=Q3.out;rw[qZ N'.out]at h2;rw[OL]at h1;omega
  have c':Boxed W b4 37 (.slice none 0 0):=(g'.block _ B'.out.lt).trans B'.out;have Z:Boxed W b5 38 (OB 0):=(g'.block _ y'.out.lt).trans y'.out;have A4:D≠b4/\D≠b5/\D≠b9:=by have:=J.out;have:=B'.out.lt;have:=y'.out.lt;omega
  have W8:=jD A4;have P':=p'.row;have Z7:b4<w3.heap.size:=by have:=B'.out.lt;have:=J.out;omega
  have U6:b5<w3.heap.size:=by have:=y'.out.lt;have:=J.out;omega
  have n49:b4≠b9:=by have:=B'.out.lt;have:=J.out;omega
  have n59:b5≠b9:=by have:=y'.out.lt;have:=J.out;omega
  clear m' p' z' g' D' hK A4;rcases CN P' with ⟨hv,h0⟩|⟨g,cap,spare,hv,V3,hh,W3,K3,M3,I⟩
  ·have A3:ms=[]:=Po h0;subst hv;have Z2:fq (bj q.pat ps)=[]:=by rw[<-Q'.out,A3];rfl
   have Y4:=jD Z2;have q9:=xo.cell;have l9:=xo.lt;clear h0 A3 Z2 P';rw[e0];go_wp2_with fail;refine (mK _).mono ?_;rintro e w6 ⟨rfl,A'⟩;have V0:=jD (ae G2.out A');have x4:Boxed w6 b4 37 (.slice none 0 0):=(A'.block _ c'.lt).trans c';have x5:Boxed w6 b5 38 (OB 0):=(A'.block _ Z.lt).trans Z;have x9:Boxed w6 b9 37 (.slice none 0 0):=(A'.block _ xo.lt).trans xo;have G':w6.heap[D]?=some (.deferred (some [])):=aw A' HK.out;have W1:=jD G';have c4:=x4.cell;have f4:=x4.frozen;have c5:=x5.cell;have f5:=x5.frozen;have c9:=x9.cell;have T6:=x4.lt;have V7:=x5.lt;have H6:=x9.lt;have C':=jD x4;have n':=jD x5;clear A' G' xo c' Z x9 x4 x5 q9 l9;go_wp2_with fail;have i':=((Sh w6 ⟨b4,0,none⟩ (.slice none 0 0)).trans (Sh _ ⟨b5,0,none⟩ (OB 0))).same D _ W1.out rfl;refine⟨by simp,.inl ⟨_,_,rfl,run_takeDeferred i',?_⟩⟩;have w4:=fc (C'.out.set (.slice none 0 0)) n45 (OB 0);have w5:=Boxed.set (OB 0) (fc n'.out Y0 (.slice none 0 0));have r4:=(w4.kept (Si _ D (.deferred none)) (by intro h;cases h;have h2:(World.setCell _ _ _).heap[b4]?=_:=w4;rw[i']at h2;cases h2)).cell;have r5:=(w5.kept (Si _ D (.deferred none)) (by intro h;cases h;have h2:(World.setCell _ _ _).heap[b5]?=_:=w5;rw[i']at h2;cases h2)).cell;refine⟨.tuple #[(.slice none 0 0),OB 0],?_,_,[],rfl,⟨by show _=fq _;rw[Y4.out];rfl,MatsNew.nil _ _⟩,(aj (aj V0.out S0 _) K1 _).trans (belowK_b (w:=w) (OI _) _ D _ _ (by have:=q'.out.size;omega) i' rfl rfl)⟩;simp[results,Tryz.f8,go_sem,r4,r5]
  ·subst hv;have C0:∀e∈ms,MOk W g e:=fun e he=>⟨(x'.out.bnds e he).1,fun e1=>((x'.out.bnds e he).2 g e1).2.2 rfl⟩
   have X7:=jD (mX ms g cap spare W hh om C0);have S9:=aX hh;have T7:=jD hh;have S':=jD (And.intro V3 (And.intro W3 K3));have B6:=jD (And.intro M3 I);have B3:=jD c';have X3:=jD Z;have X2:=jD xo;have q9:=xo.cell;have l9:=xo.lt;clear P' hh V3 M3 I C0 W3 K3 c' Z xo;rw[e0];go_wp2_with fail;refine X7.out.mono ?_;rintro e w6 ⟨rfl,es',T4,hp,V1,T3,hls,f'⟩;have S3:es'.length=ms.length:=hp.length_eq;have U5:=S'.out.1;have V0:Hid (OD w w6):=jD (G2.out.trans (aB f' G2.out.size (fun k e=>by injection e with e;have:=S'.out.1;have:=q'.out.size;omega)));have Z':Hid (MW w3.heap.size w6 (.slice (some ⟨g,0,none⟩) es'.length cap) es'):=jD (by
    have D':=f'.size;refine⟨⟨by simp,.inr ⟨g,cap,_,rfl,U5,T3,by rw[S3];exact S'.out.2.1,S'.out.2.2,?_,?_⟩⟩,fun e he=>?_⟩
    ·have h1:=hls;have h2:=B6.out.1;rw[h2]at h1
     simpa using h1
    ·rw[P7];simp
    ·have h1:=x'.out.bnds e (hp.mem_iff.1 he);refine⟨rK h1.1 fun b hb hv=>f'.block b hb (fun e1=>(h1.2 b hv).2.2 (by simpa [Value.ownBlock] using e1)),fun g1 E1=>⟨(h1.2 g1 E1).1,by have:=(h1.2 g1 E1).2.1;omega,(h1.2 g1 E1).2.2⟩⟩)
   have Z6:Hid (es'.map (·.1)=fq (bj q.pat ps)):=jD (tX Z5.out Q'.out hp (by first|exact V1|exact V1.imp fun {a b} h=>by omega));have x4:Boxed w6 b4 37 (.slice none 0 0):=B3.out.kept f' (fun e=>by injection e with e;have:=B'.out.lt;have:=J.out;omega);have x5:Boxed w6 b5 38 (OB 0):=X3.out.kept f' (fun e=>by injection e with e;have:=y'.out.lt;have:=J.out;omega);have x9:Boxed w6 b9 37 (.slice (some ⟨g,0,none⟩) ms.length cap):=X2.out.kept f' (fun e=>by injection e with e;have:=J.out;omega);have G':w6.heap[D]?=some (.deferred (some [])):=(f'.block D (Array.getElem?_eq_some_iff.1 HK.out).1 (fun e=>by injection e with e;subst e;have h:=T7.out;rw[HK.out]at h;cases h)).trans HK.out;have W1:=jD G';rw[S3]at Z';have c4:=x4.cell;have f4:=x4.frozen;have c5:=x5.cell;have f5:=x5.frozen;have c9:=x9.cell;have T6:=x4.lt;have V7:=x5.lt;have H6:=x9.lt;have C':=jD x4;have n':=jD x5;clear hp V1 T3 hls f' G' x9 x4 x5 q9 l9;go_wp2_with fail;have i':=((Sh w6 ⟨b4,0,none⟩ (.slice (some ⟨g,0,none⟩) ms.length cap)).trans (Sh _ ⟨b5,0,none⟩ (OB 0))).same D _ W1.out rfl;refine⟨by simp,.inl ⟨_,_,rfl,run_takeDeferred i',?_⟩⟩;have w4:=fc (C'.out.set (.slice (some ⟨g,0,none⟩) ms.length cap)) n45 (OB 0);have w5:=Boxed.set (OB 0) (fc n'.out Y0 (.slice (some ⟨g,0,none⟩) ms.length cap))
   have r4:=(w4.kept (Si _ D (.deferred none)) (by intro h;cases h;have h2:(World.setCell _ _ _).heap[b4]?=_:=w4;rw[i']at h2;cases h2)).cell;have r5:=(w5.kept (Si _ D (.deferred none)) (by intro h;cases h;have h2:(World.setCell _ _ _).heap[b5]?=_:=w5;rw[i']at h2;cases h2)).cell;refine⟨.tuple #[(.slice (some ⟨g,0,none⟩) ms.length cap),OB 0],?_,_,es',rfl,⟨Z6.out,(((Z'.out.box Z7 _).box U6 _).kept (Si _ D (.deferred none)) (fun r e=>by injection e with e;subst e;exact⟨_,i',rfl⟩)).new (by have:=q'.out.size;omega)⟩,(aj (aj V0.out S0 _) K1 _).trans (belowK_b (w:=w) (OI _) _ D _ _ (by have:=q'.out.size;omega) i' rfl rfl)⟩;simp[results,Tryz.f8,go_sem,r4,r5]
 case stop=>rintro D c k W hD hk h;exact h.elim
theorem wt(d:Nat)(q:Qry)(l:List Evt)(J h I vc vr vl:Value)(w:World)(hA:PartAsk d w q l J h I vc vr vl)(hS:SmallN l.length q.pat)(hF:(aZ q l).2=0->(bj q.pat (eJ q.key l)).length<=4096) :
  Calls prog 8 #[og q J h I vc vr,vl] w (LF w (iG q l)) :=
 (vB d q l J h I vc vr vl w hA hS hF).mono fun _ _ ⟨u,ms,h1,⟨Z,h4⟩,h3⟩=>⟨u,h1,Z▸h4.is,h3⟩
end
end Go.Proofs.YteemngnialjaiaaGreatDoor
