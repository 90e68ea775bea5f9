/- Part. -/
import Derived.Test.YteemngnialjaiaaGreatDoorQ40
set_option maxRecDepth 100000
set_option maxHeartbeats 16000000
set_option linter.unusedVariables false
set_option linter.unusedSimpArgs false
namespace Go.Proofs.YteemngnialjaiaaGreatDoor
open Go.Proofs.Tryz Go.RowKit
variable {v u:Value}{l:List Int}{k B g:Nat}{w wr:World}{vs xs:List Value}{ps:List (List Evt)}{es:List EV}{F:Nat->Nat}{x:Vl}
theorem ql{v:Vl}:∀(l:List Vl)(k:Nat),(∀x∈l.take k,vlC x v<0)->gc l v=l.take k++gc (l.drop k) v
 | _,0,_=>by simp
 | [],k+1,_=>by simp
 | x::r,k+1,h=>by
  have I:vlC x v<0:=h x (by rw[Sa];exact OR ..);rw[gc,OG I,ql r k fun y hy=>h y (by rw[Sa];exact OS _ hy)];rfl
theorem Ju{v y:Vl}{l:List Vl}(h:l[k]?=some y)(I:¬vlC y v<0):gc (l.drop k) v=if bI y v=true then l.drop k else v::l.drop k:=by
 obtain⟨h1,rfl⟩:=List.getElem?_eq_some_iff.1 h;rw[PE h1,gc,OF I]
theorem Bx(key:List Int)(pre:List Evt)(x:Evt):dO key (pre++[x])=if (bW key x).2.1 then gc (dO key pre) (bW key x).1 else dO key pre:=by
 unfold dO;rw[Qm];rfl
def PartRows(B:Nat)(w wr:World)(vs:List Value)(ps:List (List Evt)):Prop:=vs.length=ps.length /\
 ∀(t:Nat)(u:Value)(s:List Evt),vs[t]?=some u->ps[t]?=some s->∃es:List EV,es.map (·.1)=s/\wr.ownsRow B 71 5 u es.length (du es)/\∀e∈es,bh w e.2 e.1.vals
theorem PartRows.grow{w':World}(h:PartRows B w wr vs ps)(hb:OD wr w'):PartRows B w w' vs ps :=
 ⟨h.1,fun t u s h1 I=>by obtain⟨es,e1,Z,J⟩:=h.2 t u s h1 I;exact⟨es,e1,aF Z hb,J⟩⟩
theorem Fa{A n m sz I:Nat}{t J:TypeId}{ys:List Value}(h1:w.ownsRow A t sz u n xs)(h2:w.ownsRow B J I v m ys)(h:t≠J)(hu:u.ownBlock=some g):v.ownBlock≠some g:=fun Z=>by
 rcases h1.2 with ⟨rfl,_⟩|⟨g1,c1,cur1,rfl,_,hh1,_⟩
 ·simp[Value.ownBlock]at hu
 ·rcases h2.2 with ⟨rfl,_⟩|⟨g2,c2,cur2,rfl,_,hh2,_⟩
  ·simp[Value.ownBlock]at Z
  ·have e1:g1=g:=by simpa [Value.ownBlock] using hu
   have e2:g2=g:=by simpa [Value.ownBlock] using Z
   subst e1 e2;rw[hh1]at hh2
   cases hh2
   exact h rfl
theorem PartRows.app{C n:Nat}{Z w2:World}{av:Value}(h:PartRows B w wr vs ps)(hb:OD wr Z)(hu:Z.ownsRow B 71 5 u es.length (du es))(d':∀e∈es,bh w e.2 e.1.vals)(c':Z.ownsRow C 34 1 av n xs)(hg:Z.grownBy w2 av.ownBlock):PartRows B w w2 (vs++[u]) (ps++[es.map (·.1)]):=by
 have J:∀{u':Value}{m:Nat}{cs:List Value},Z.ownsRow B 71 5 u' m cs->w2.ownsRow B 71 5 u' m cs:=fun hr=>aY hr fun g a'=>hg.block g (ao hr a').2 (fun e=>Fa hr c' dc a' e.symm)
 refine⟨by simp[h.1],fun t u' s h1 I=>?_⟩
 by_cases ht:t<vs.length
 ·rw[Ph ht]at h1;rw[Ph (by rw[<-h.1];exact ht)]at I;obtain⟨es',e1,e2,e3⟩:=h.2 t u' s h1 I;exact⟨es',e1,J (aF e2 hb),e3⟩
 ·rw[Pz om]at h1;rw[Pz (by rw[<-h.1];omega)]at I;rw[<-h.1]at I;obtain⟨i,hi⟩:=jE (t-vs.length);rw[hi]at h1 I
  match i,h1,I with
  | 0,h1,I =>
   simp at h1 I;subst h1 I;exact⟨es,rfl,J hu,d'⟩
  | i+1,h1,I=>simp at h1
section
abbrev jT(l:List Vl):Tr:=.lst false (l.map vlT)
theorem Dg(L:List Vl):(L.map vlT).map Tr.weak=L.map vlT:=by rw[PZ];rfl
theorem LZ(h:Rp F w (vlT x) v):v=vlV x:=by
 obtain⟨l,rfl,hr⟩:=kg h;clear h;obtain⟨_,_,rfl,h0,hr⟩:=aA hr;obtain⟨_,_,rfl,h1,hr⟩:=aA hr;obtain⟨_,_,rfl,I,hr⟩:=aA hr;obtain rfl:=cm hr;rw[bU h0,bU h1,bU I];rfl
section
variable (gl : Nat -> Option (List Tr))
theorem KZ(x y:Vl):PuC prog gl 183 [vlT x,vlT y] (tI (vlC x y)):=gU fun F w l hr=>by
 obtain⟨_,_,rfl,h0,hr⟩:=aA hr;obtain⟨_,_,rfl,h1,hr⟩:=aA hr;obtain rfl:=cm hr;rw[LZ h0,LZ h1];exact Eg x y w
noncomputable def kyB(v:Vl)(A:List Vl):List (Nat × Ob):=[(0,.box [.p (tI v.kind),.p (tI v.num),.p (tS v.text)]),(1,.row 27 3 (A.map vlT) false)]
noncomputable def kyI(l:List Vl)(v:Vl)(i:Int)(A:List Vl):Sg:=⟨kyB v A,[⟨50,[(0,.p (jT l)),(3,.off 0 0 0),(5,.ref 1),(6,.p (tI i))],none,[]⟩],[]⟩
noncomputable def kyC:Code:=lpb prog 126 [1,1,1,0,0]
theorem Fk(l:List Vl)(v:Vl)(hl:l.length<=1048576):∀(r k:Nat),k+r=l.length->(∀x∈l.take k,vlC x v<0) ->
  ∃i,i<=l.length/\(∀x∈l.take i,vlC x v<0)/\(∀x,l[i]?=some x->¬vlC x v<0)/\LoopP prog gl 0 kyC (kyI l v k (l.take k)) (.exit 0) (kyI l v i (l.take i))
 | 0,k,hk,ha=>⟨k,by omega,ha,fun x h=>(by rw[PF om]at h;cases h),by
  obtain rfl:k=l.length:=by omega
  exact LoopP.stop [bf,bf,bf] [0,3,5,6] [0,1] jS (aj3 (dI vlT l) yF yF tv)⟩
 | r+1,k,hk,ha=>by
  have Z:k<l.length:=by omega
  have hy:l[k]?=some l[k]:=OH Z;have J:l.take (k+1)=l.take k++[l[k]]:=by rw[PW,hy];rfl
  generalize l[k]=y at hy J;have hc:=KZ gl y v;have c1:=ltM vlT Z;have ce:=elM vlT hy
  by_cases I:vlC y v<0
  ·obtain⟨i,h1,h2,h3,h4⟩:=Fk l v hl r (k+1) om fun x h=>by
    rw[J]at h;rcases List.mem_append.1 h with h|h
    ·exact ha x h
    ·simp at h;subst h;exact I
   rw[<-wr1 Z om,J]at h4;unfold kyI kyB at h4;rw[Pq]at h4;have tl:((l.take k).map vlT).length=k:=by rw[OL,PB];omega
   exact⟨i,h1,h2,h3,LoopP.next [bt,.el (vlT y),.ca (tI (vlC y v)),bt,bt,.el (vlT y),.ap] [0,3,5,6] [0,2] rfl h4 (aj8 c1 ce (k0 k) hc yT (O3 I) ce (k0 k) (aj3 yT (show ((l.take k).map vlT).length+1<=maxLen by rw[tl,aQ];omega) (show (((l.take k).map vlT).length+1)*32<=140737488355328 by rw[tl];omega) tv)) [.ren 2 1]⟩
  ·exact⟨k,by omega,ha,fun x h=>(by rw[hy]at h;cases h;exact I),LoopP.stop [bt,.el (vlT y),.ca (tI (vlC y v)),bt,bf] [0,3,5,6] [0,1] jS (aj6 c1 ce (k0 k) hc yT (OZ I) tv)⟩
theorem Mn(l:List Vl)(v:Vl)(hl:l.length<=1048576):PuC prog gl 126 [jT l,vlT v] (jT (gc l v)):=by
 obtain⟨i,h1,h2,h3,hL⟩:=Fk gl l v hl l.length 0 om fun x hx=>by simp at hx
 have hL:LoopP prog gl 0 kyC ⟨[(0,.box [.p (tI v.kind),.p (tI v.num),.p (tS v.text)])],[⟨50,[(0,.p (jT l)),(3,.off 0 0 0),(5,.p (.at (.slice none 0 0))),(6,.p (tI (0:Nat)))],none,[]⟩],[]⟩ (.exit 0) (kyI l v i (l.take i)) :=
  LoopP.tns _ [.own 5 1 27 3] hL
 rw[ql l i h2];obtain⟨Y,hY⟩:=jF (slL (l.map vlT) (i:Int) none);have h:Y=(l.drop i).map vlT:=by rw[hY];simp only[slL];rw[List.map_drop];simp
 have yl:Y.length=l.length-i:=by rw[h,OL,Qu]
 have I:((l.take i).map vlT).length=i:=by rw[OL,PB];omega
 have al:((l.map vlT).all fun t=>t.cells.length==3)=true:=BC vlT fun _=>rfl
 have ml:(i:Int)<=((l.map vlT).length:Nat):=by rw[OL];omega
 have T:∀Z:List Tr,Z.length<=i+1->_:=fun Z hz=>ai (k0 i) (aj6 ml (Int.le_refl ((l.map vlT).length:Nat)) al (show (Y.all fun t=>t.cells.length==3)=true by rw[h];exact BC vlT fun _=>rfl) (show Z.length+Y.length<=maxLen by rw[yl,aQ];omega) (show (Z.length+Y.length)*32<=140737488355328 by rw[yl];omega) tv)
 have Tn:=T ((l.take i).map vlT++[vlT v]) (by rw[OM,I];exact OI _);have To:=T ((l.take i).map vlT) (by rw[I];omega);have b1:((l.take i).map vlT).length+1<=maxLen:=by rw[I,aQ];omega
 have b2:(((l.take i).map vlT).length+1)*32<=140737488355328:=by rw[I];omega
 have J:Tr.lst false ((l.take i).map vlT++[vlT v]++Y.map Tr.weak)=jT (l.take i++v::l.drop i):=by rw[h,Dg];simp
 have Ro:Tr.lst false ((l.take i).map vlT++Y.map Tr.weak)=jT (l.take i++l.drop i):=by rw[h,Dg];simp
 subst hY;clear T
 by_cases hi:i<l.length
 ·have hy:l[i]?=some l[i]:=OH hi;rw[Ju hy (h3 _ hy)];generalize l[i]=y at hy;have hq:=Fq y v;have g4:((i:Int)==((l.map vlT).length:Nat))=false:=by rw[OL];simp only[PA];omega
  cases he:bI y v with
  | true =>
   rw[he]at hq;rw[OG rfl];exact fN [.lo [0,3,5,6] (.exit 0) (kyI l v i (l.take i)),bf,.el (vlT y),.vb (!true),bf,bf,.sl,.ap] (aj8 Ro hL g4 (elM vlT hy) (k0 i) hq yF yF To)
  | false =>
   rw[he]at hq;rw[OF jS];exact fN [.lo [0,3,5,6] (.exit 0) (kyI l v i (l.take i)),bf,.el (vlT y),.vb (!false),bf,bt,.ap,.sl,.ap] (aj8 J hL g4 (elM vlT hy) (k0 i) hq yF yT (aj3 yT b1 b2 Tn))
 ·obtain rfl:i=l.length:=by omega
  have g4:((l.length:Int)==((l.map vlT).length:Nat))=true:=by simp
  have e:gc (l.drop l.length) v=v::l.drop l.length:=by rw[Qn];rfl
  rw[e];exact fN [.lo [0,3,5,6] (.exit 0) (kyI l v l.length (l.take l.length)),bt,bt,bt,.ap,.sl,.ap] (aj8 J hL g4 yT yT yT b1 b2 Tn)
end
end
section
abbrev rY(l:List Int):Tr:=.lst false (l.map tI)
theorem JL{fl:Bool}(h:Rp F w (.lst fl (l.map tI)) v):iJ w v l:=jx tI h (fun _ _=>rfl) fun x _ b p I=>ba (I 0 _ rfl)
theorem vl_rp(F:Nat->Nat)(w:World)(x:Vl):Rp F w (vlT x) (vlV x):=.agg _ _ rfl fun i t v I h=>by
 match i,I,h with
 | 0,I,h=>cases I;cases h;exact .at _
 | 1,I,h=>cases I;cases h;exact .at _
 | 2,I,h=>cases I;cases h;exact .at _
section
variable (gl : Nat -> Option (List Tr))
theorem IE(key:List Int)(x:Evt):PuC prog gl 125 [evT x,rY key] (.tup [vlT (bW key x).1,tB (bW key x).2.1,tI (bW key x).2.2]):=fun F w l hr _=>by
 obtain⟨_,_,rfl,h0,hr⟩:=aA hr;obtain⟨_,_,rfl,h1,hr⟩:=aA hr;obtain rfl:=cm hr;obtain⟨u,rfl,g0⟩:=Mc h0;refine (Hv key x u _ w (JL h1) g0).mono ?_;rintro e W ⟨rfl,J⟩;refine⟨_,F,rfl,J,fun _ _=>rfl,.tup _ _ rfl fun i t v h I=>?_⟩
 match i,h,I with
 | 0,h,I=>cases h;cases I;exact vl_rp _ _ _
 | 1,h,I=>cases h;cases I;exact .at _
 | 2,h,I=>cases h;cases I;exact .at _
theorem K9(l:List Evt):PuC prog gl 36 [bE l] (tI (bN l)):=gU fun F w vs hr=>by
 obtain⟨_,_,rfl,h0,hr⟩:=aA hr;obtain rfl:=cm hr;exact xX l _ w (Dv h0)
theorem eq_v(v u:Vl):Cz prog .eql 27 (vlV v) (vlV u) (bI v u):=fun w=>rF v u w
abbrev nY(key:List Int)(l:List Evt):Int:=eu (fun _ e=>(bW key e).2.2) none l
theorem xn(key:List Int)(x:Evt)(l:List Evt):nY key (x::l)=if (bW key x).2.2=0 then nY key l else (bW key x).2.2:=by
 have:∀p:Option Evt,eu (fun _ e=>(bW key e).2.2) p l=eu (fun _ e=>(bW key e).2.2) none l:=fun p=>by cases l<;>rfl
 unfold nY;rw[eu,this]
noncomputable def s1I(l:List Evt)(key:List Int)(A:List Vl)(i:Int):Sg:=⟨[],[⟨92,[(0,.p (bE l)),(1,.p (rY key)),(8,.p (jT A)),(9,.p (tI i))],none,[]⟩],[]⟩
noncomputable def s1E(l:List Evt)(key:List Int)(A:List Vl):Sg:=⟨[],[⟨92,[(0,.p (bE l)),(1,.p (rY key)),(8,.p (jT A))],none,[]⟩],[]⟩
noncomputable def s1R(E:Int):Sg:=⟨[],[⟨92,[(4,.p (.at (.slice none 0 0))),(5,.p (.at (.slice none 0 0))),(6,.p (tI E))],none,[]⟩],[]⟩
noncomputable def s1C:Code:=lpb prog 64 [1,1,1,0,1,0]
theorem Fu(l:List Vl)(v:Vl):(gc l v).length<=l.length+1:=by
 induction l with
 | nil=>simp[gc]
 | cons x r h=>rw[gc];split<;>(try split)<;>simp<;>omega
theorem nV(key:List Int)(l:List Evt):(dO key l).length<=l.length:=by
 unfold dO;have:∀(l:List Evt)(S:List Vl),(l.foldl (fun S e=>if (bW key e).2.1 then gc S (bW key e).1 else S) S).length<=S.length+l.length:=fun l=>by
  induction l with
  | nil=>intro S;simp
  | cons x l h =>
   intro S;have h1:=h (if (bW key x).2.1 then gc S (bW key x).1 else S);have I:(if (bW key x).2.1 then gc S (bW key x).1 else S).length<=S.length+1:=by
    have:=Fu S (bW key x).1
    split<;>omega
   rw[PR,Pk];omega
 simpa using this l []
theorem s1L(l:List Evt)(key:List Int)(hl:l.length<=1048576):∀(r k:Nat),k+r=l.length ->
  (nY key (l.drop k)=0->LoopP prog gl 0 s1C (s1I l key (dO key (l.take k)) k) (.exit 0) (s1E l key (dO key l))) /\
  (∀E,nY key (l.drop k)=E->E≠0->LoopP prog gl 0 s1C (s1I l key (dO key (l.take k)) k) .ret (s1R E))
 | 0,k,hk=>by
  obtain rfl:k=l.length:=by omega
  rw[Qn,Pp];exact⟨fun _=>LoopP.stop [bf] [0,1,8] [] jS (ai (dI evT l) tv),fun E h h0=>absurd h.symm h0⟩
 | r+1,k,hk=>by
  have J:k<l.length:=by omega
  have hx:l[k]?=some l[k]:=OH J;have hd:l.drop k=l[k]::l.drop (k+1):=PE J;have ht:l.take (k+1)=l.take k++[l[k]]:=by rw[PW,hx];rfl
  have I:=s1L l key hl r (k+1) om;have hA:=nV key (l.take k);rw[hd,xn];rw[ht,Bx]at I;have hq:=IE gl key l[k];generalize l[k]=x at hx hq I ⊢;generalize dO key (l.take k)=A at I hA ⊢;have c1:=ltM evT J;have ce:=elM evT hx;rw[<-wr1 J om]at I;generalize bW key x=q at hq I ⊢;obtain⟨v,ok,e⟩:=q;simp only at hq I ⊢;have Z:=Mn gl A v (by rw[PB]at hA;omega)
  by_cases he:e=0
  ·subst he;rw[OG rfl]
   cases ok with
   | true=>exact⟨fun h=>LoopP.next [bt,.el (evT x),.ca (.tup [vlT v,tB true,tI 0]),bf,bt,.ca (jT (gc A v))] [0,1,8,9] [99] rfl (I.1 h) (aj7 c1 ce (k0 k) hq yF yT Z tv),
     fun E h h0=>LoopP.next [bt,.el (evT x),.ca (.tup [vlT v,tB true,tI 0]),bf,bt,.ca (jT (gc A v))] [0,1,8,9] [99] rfl (I.2 E h h0) (aj7 c1 ce (k0 k) hq yF yT Z tv)⟩
   | false=>exact⟨fun h=>LoopP.next [bt,.el (evT x),.ca (.tup [vlT v,tB false,tI 0]),bf,bf] [0,1,8,9] [99] rfl (I.1 h) (aj6 c1 ce (k0 k) hq yF yF tv),
     fun E h h0=>LoopP.next [bt,.el (evT x),.ca (.tup [vlT v,tB false,tI 0]),bf,bf] [0,1,8,9] [99] rfl (I.2 E h h0) (aj6 c1 ce (k0 k) hq yF yF tv)⟩
  ·rw[OF he];exact⟨fun h=>absurd h he,fun E h _=>by
    subst h;exact LoopP.stop [bt,.el (evT x),.ca (.tup [vlT v,tB ok,tI e]),bt] [4,5,6] [99] jS (aj5 c1 ce (k0 k) hq (show (e != 0)=true from jQ he) tv)⟩
abbrev s2S(l:List Evt)(key:List Int)(K:List Vl)(k:Int):List (Nat × V):=[(0,.p (bE l)),(1,.p (rY key)),(8,.p (jT K)),(13,.ref 0),(14,.p (tI k))]
noncomputable def s2I(l:List Evt)(key:List Int)(K:List Vl)(P:List (List Evt))(k:Int):Sg:=⟨[(0,.row 34 1 (P.map bE) false),(1,dum)],[⟨92,s2S l key K k,none,[]⟩],[]⟩
noncomputable def s2J(l:List Evt)(key:List Int)(K:List Vl)(P:List (List Evt))(k:Int)(A:List Evt)(j:Int):Sg:=⟨[(0,.row 34 1 (P.map bE) false),(1,.row 71 5 (A.map evT) false)],[⟨92,s2S l key K k++[(15,.ref 1),(16,.p (tI j))],none,[]⟩],[]⟩
noncomputable def s2X(l:List Evt)(key:List Int)(K:List Vl)(P:List (List Evt))(k:Int)(A:List Evt):Sg:=⟨[(0,.row 34 1 (P.map bE) false),(1,dum)],[⟨92,s2S l key K k++[(15,.p (bE A))],none,[]⟩],[]⟩
noncomputable def s2E(K:List Vl)(P:List (List Evt)):Sg:=⟨[(0,.row 34 1 (P.map bE) false),(1,dum)],[⟨92,[(8,.p (jT K)),(13,.ref 0)],none,[]⟩],[]⟩
noncomputable def s2C:Code:=lpb prog 64 [1,1,1,1,1,0,1,0]
noncomputable def s2D:Code:=lpb prog 64 [1,1,1,1,1,0,1,0,0,1,0,0,1,0,1,0]
theorem s2L(l:List Evt)(key:List Int)(hl:l.length<=1048576)(K:List Vl)(P:List (List Evt))(k:Nat)(y:Vl)(hy:K[k]?=some y) :
  LoopP prog gl 0 s2D (s2J l key K P k [] (0:Nat)) (.exit 4) (s2X l key K P k (l.filter (dH key y))):=by
 have e:(l.take l.length).filter (dH key y)=l.filter (dH key y):=by rw[Pp]
 rw[<-e];refine LoopP.each (fun j=>s2J l key K P k ((l.take j).filter (dH key y)) j) l.length (fun j hj h=>?_) ?_
 ·have Z:l[j]?=some l[j]:=OH hj;have hA:((l.take j).filter (dH key y)).length<=1048576:=OP (QF ..) (by simp;omega);rw[PW,Z]at h;simp only[QG,Rs,Sf,List.filter_nil]at h;have hq:=IE gl key l[j];generalize l[j]=x at Z hq h;have I:dH key y x=((bW key x).2.1&&bI (bW key x).1 y):=rfl;generalize bW key x=q at hq I;obtain⟨v,ok,J⟩:=q;simp only at hq I;rw[I,<-wr1 hj om]at h;generalize (l.take j).filter (dH key y)=A at h hA ⊢;have c1:=ltM evT hj;have ce:=elM evT Z;have cy:=elM vlT hy;have hv:=eq_v v y
  cases ok with
  | false =>
   rw[Bool.false_and,OF jS,Qf]at h;exact LoopP.next [bt,.el (evT x),.ca (.tup [vlT v,tB false,tI J]),bf,bf,bf] [0,1,8,13,14,15,16] [0,1] rfl h (aj7 c1 ce (k0 j) hq yF yF yF tv)
  | true =>
   rw[QQ]at h;generalize bI v y=b at hv h
   cases b with
   | false =>
    rw[OF jS,Qf]at h;exact LoopP.next [bt,.el (evT x),.ca (.tup [vlT v,tB true,tI J]),bt,.el (vlT y),.vb false,bt,bf] [0,1,8,13,14,15,16] [0,1] rfl h (aj8 c1 ce (k0 j) hq yT cy (k0 k) hv (aj2 yT yF tv))
   | true =>
    rw[OG rfl]at h;unfold s2J at h;rw[Pq]at h;exact LoopP.next [bt,.el (evT x),.ca (.tup [vlT v,tB true,tI J]),bt,.el (vlT y),.vb true,bt,bt,.el (evT x),.ap] [0,1,8,13,14,15,16] [0,3] rfl h
     (aj8 c1 ce (k0 j) hq yT cy (k0 k) hv (aj7 yT yT ce (k0 j) yT (show (A.map evT).length+1<=maxLen by rw[OL,aQ];omega) (show ((A.map evT).length+1)*56<=140737488355328 by rw[OL];omega) tv)) [.ren 3 1]
 ·exact LoopP.stop [bf] [0,1,8,13,14,15] [0,1] jS (ai (dI evT l) tv) [.fr 1]
theorem s2K(l:List Evt)(key:List Int)(Z:l.length<=1048576)(K:List Vl)(hK:K.length<=1048576):LoopP prog gl 0 s2C (s2I l key K [] (0:Nat)) (.exit 2) (s2E K (K.map fun v=>l.filter (dH key v))):=by
 have e:(K.take K.length).map (fun v=>l.filter (dH key v))=K.map fun v=>l.filter (dH key v):=by rw[Pp]
 rw[<-e];refine LoopP.each (fun k=>s2I l key K ((K.take k).map fun v=>l.filter (dH key v)) k) K.length (fun k hk h=>?_) ?_
 ·have hy:K[k]?=some K[k]:=OH hk;have J:((K.take k).map fun v=>l.filter (dH key v)).length<=1048576:=by simp;omega
  rw[PW,hy]at h;simp only[QG,Pq,OU,P6]at h;have I:=s2L gl l key Z K ((K.take k).map fun v=>l.filter (dH key v)) k K[k] hy;generalize (K.take k).map (fun v=>l.filter (dH key v))=P at h I J ⊢;generalize l.filter (dH key K[k])=A at h I;unfold s2I at h;rw[Pq,<-wr1 hk om]at h;exact LoopP.next [bt,.lo [0,1,8,13,14,15,16] (.exit 4) (s2X l key K P k A),.ap] [0,1,8,13,14] [1,2] rfl h
   (aj5 (ltM vlT hk) (LoopP.tns ⟨[(0,.row 34 1 (P.map bE) false),(1,dum)],[⟨92,s2S l key K k++[(15,.p (.at (.slice none 0 0))),(16,.p (tI (0:Nat)))],none,[]⟩],[]⟩ [.own 15 1 71 5] I) yT (show (P.map bE).length+1<=maxLen by rw[OL,aQ];omega) (show ((P.map bE).length+1)*24<=140737488355328 by rw[OL];omega) tv) [.ren 2 0]
 ·exact LoopP.stop [bf] [8,13] [0,1] jS (ai (dI vlT K) tv)
theorem Hl(l:List Evt)(key:List Int)(J:l.length<=1048576):(gu key l=0->PuC prog gl 64 [bE l,rY key] (.tup [jT (dO key l),.lst false ((eJ key l).map bE),tI 0])) /\
  (gu key l≠0->PuC prog gl 64 [bE l,rY key] (.tup [.at (.slice none 0 0),.at (.slice none 0 0),tI (gu key l)])):=by
 have I:=K9 gl l;unfold gu
 by_cases hs:bN l=0
 ·rw[OF (jQ hs)];rw[hs]at I;have h1:=s1L gl l key J l.length 0 om;rw[PN,List.take_zero]at h1;have Z:∀{e:Exit}{τ:Sg},LoopP prog gl 0 s1C (s1I l key [] (0:Nat)) e τ->LoopP prog gl 0 s1C ⟨[],[⟨92,[(0,.p (bE l)),(1,.p (rY key)),(8,.p (.at (.slice none 0 0))),(9,.p (tI (0:Nat)))],none,[]⟩],[]⟩ e τ:=fun h=>LoopP.tns _ [.nl 8] h
  refine⟨fun h=>?_,fun h=>?_⟩
  ·have h2:=s2K gl l key J (dO key l) (OP (nV key l) J);exact aq [.ca (tI 0),bf,.lo [0,1,8,9] (.exit 0) (s1E l key (dO key l)),.lo [0,1,8,13,14] (.exit 2) (s2E (dO key l) (eJ key l))] (aj4 I yF (Z (h1.1 h)) (LoopP.tns ⟨[],[⟨92,[(0,.p (bE l)),(1,.p (rY key)),(8,.p (jT (dO key l))),(13,.p (.at (.slice none 0 0))),(14,.p (tI (0:Nat)))],none,[]⟩],[]⟩ [.own 13 0 34 1,.dm 1] h2) tv)
  ·exact aq [.ca (tI 0),bf,.lo [0,1,8,9] .ret (s1R (nY key l))] (aj3 I yF (Z (h1.2 _ rfl h)) tv)
 ·rw[OG hs];exact⟨fun h=>absurd h hs,fun _=>aq [.ca (tI (bN l)),bt] (aj2 I (show (bN l != 0)=true from jQ hs) tv)⟩
end
end
end Go.Proofs.YteemngnialjaiaaGreatDoor
