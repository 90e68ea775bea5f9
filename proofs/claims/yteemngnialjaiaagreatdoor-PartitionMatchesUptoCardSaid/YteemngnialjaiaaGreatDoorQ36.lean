/- Part. -/
import Derived.Test.YteemngnialjaiaaGreatDoorQ33
import Derived.Carry
import Derived.Test.YteemngnialjaiaaGreatDoorQ35
set_option maxRecDepth 100000
set_option maxHeartbeats 16000000
set_option linter.unusedVariables false
set_option linter.unusedSimpArgs false
namespace Go.Proofs.YteemngnialjaiaaGreatDoor
open Go.Proofs.Tryz Go.RowKit
variable {O:List (List Bnd)}{m:List Bnd}{k base n1 C B:Nat}{F:Nat->Nat}{w W W':World}{v vl:Value}{l:List Evt}{e:TypeId}{τ:Sg}{P:Program}{f:FuncId}{r:Option (Nat×Value)}{xs:List Value}{row:Option Nat}{L Y:List Bs}{es:List (Value×V×Nat)}{s:Bs}{U:List Int}{ms:List MV}{x:Pt}
theorem BY(hk:k<=O.length)(h1:∀j y,k<=j->O[j]?=some y->bsC m y<0)(J:∀y,0<k->O[k-1]?=some y->¬bsC m y<0):ij O m=O.take k++m::O.drop k:=by
 have Z:O.reverse.takeWhile (fun e=>decide (bsC m e<0))=(O.drop k).reverse:=by
  rw[show O.reverse=(O.drop k).reverse++(O.take k).reverse by rw[<-List.reverse_append,QT]];rw[List.takeWhile_append_of_pos]
  ·rcases QS k with h0|h0
   ·subst h0;simp
   ·have I:k-1<O.length:=by omega
    have e:(O.take k).reverse=O[k-1]::(O.take (k-1)).reverse:=by
     have:O.take k=O.take (k-1)++[O[k-1]]:=by
      rw[List.take_append_getElem I];congr 1;omega
     rw[this];simp
    rw[e,List.takeWhile_cons,OF (by simpa using J _ h0 (OH I)),Qf]
  ·intro y hy;rw[List.mem_reverse]at hy;obtain⟨j,h⟩:=List.getElem?_of_mem hy;rw[Qa]at h;exact O3 (h1 _ _ om h)
 unfold ij;simp only[Z,List.length_reverse,Qu];rw[show O.length-(O.length-k)=k by omega]
section
abbrev bdT(x:Bnd):Tr:=.agg [tI x.v,tI x.t,tI x.s,tI x.n]
abbrev KR(l:List Bnd):Tr:=.lst false (l.map bdT)
abbrev mtT(l:List Bnd):Tr:=.agg [KR l]
section
variable (gl : Nat -> Option (List Tr))
theorem NO(y:Evt):PuC prog gl 79 [evT y] (.agg [tI y.tm,tI y.src,tI y.sq]):=aq [] trivial
noncomputable def maB(A:List Bnd):List (Nat × Ob):=[(0,.box [.p (.at (.slice none 0 0))]),(1,.box [.ref 2]),(2,.row 82 4 (A.map bdT) false)]
noncomputable def maI(l:List Evt)(s:Bs)(A:List Bnd)(k:Int):Sg:=⟨maB A,[⟨34,[(0,.p (bE l)),(1,.p (bsT s)),(4,.off 0 0 0),(5,.off 1 0 0),(6,.p (tI k))],none,[]⟩],[]⟩
noncomputable def maE(A:List Bnd):Sg:=⟨[(0,.box [.p (.at (.slice none 0 0))]),(1,.box [.p (KR A)]),(2,dum)],[⟨34,[(4,.off 0 0 0),(5,.off 1 0 0)],none,[]⟩],[]⟩
noncomputable def maC:Code:=lpb prog 66 [1,1,0,1,0]
theorem Je(l:List Evt)(s:Bs)(I:∀x∈s,x.2<l.length)(hn:s.length<=1048576):PuC prog gl 66 [bE l,bsT s] (mtT (mOf l s)):=by
 have hL:LoopP prog gl 0 maC (maI l s [] (0:Nat)) (.exit 0) (maE (mOf l s)):=by
  have e:mOf l (s.take s.length)=mOf l s:=by rw[Pp]
  rw[<-e];refine LoopP.each (fun k=>maI l s (mOf l (s.take k)) k) s.length (fun k hk h=>?_) ?_
  ·have hs:=OH hk;have J:=I _ (OX hk);have hm:(mOf l (s.take k)).length<=s.length:=by unfold mOf;simp;omega
   rw[PW,hs]at h;generalize s[k]=x at hs J h;have hy:l[x.2]?=some l[x.2]:=OH J;have Z:bdT (bOf l x)=.agg [tI x.1,tI (l[x.2]).tm,tI (l[x.2]).src,tI (l[x.2]).sq]:=by unfold bOf;rw[hy];rfl
   unfold mOf at h hm ⊢;simp only[QG,Pq,OU,P6]at h;unfold maI maB at h;rw[Pq,OU,P6,Z,<-wr1 hk om]at h;generalize l[x.2]=y at hy h;generalize (s.take k).map (bOf l)=A at h hm ⊢;exact LoopP.next [bt,.el (bT x),.el (bT x),.el (evT y),.ca (.agg [tI y.tm,tI y.src,tI y.sq]),.ap] [0,1,4,5,6] [0,1,3] rfl h
    (aj8 (ltM bT hk) (elM bT hs) (k0 k) (elM bT hs) (k0 k) (elM evT hy) (k0 x.2) (NO gl y) (aj3 yT (show (A.map bdT).length+1<=maxLen by rw[aQ,OL];omega) (show ((A.map bdT).length+1)*32<=140737488355328 by rw[OL];omega) tv)) [.ren 3 2]
  ·exact LoopP.stop [bf] [4,5] [0,1,2] jS (ai (dI bT s) tv) [.fr 2]
 exact aq [.lo [0,1,4,5,6] (.exit 0) (maE (mOf l s))] (ai (LoopP.tns ⟨[(0,.box [.p (.at (.slice none 0 0))]),(1,.box [.p (.at (.slice none 0 0))])],[⟨34,[(0,.p (bE l)),(1,.p (bsT s)),(4,.off 0 0 0),(5,.off 1 0 0),(6,.p (tI (0:Nat)))],none,[]⟩],[]⟩ [.ownc 1 0 2 82 4] hL) tv)
theorem Cw{l:List Bnd}{fl:Bool}(h:Rp F w (.lst fl (l.map bdT)) v):cP w v l :=
 jx bdT h (fun _ _=>rfl) fun x _ b p I=>⟨ba (I 0 _ rfl),ba (I 1 _ rfl),ba (I 2 _ rfl),ba (I 3 _ rfl)⟩
theorem I1{l:List (List Bnd)}{fl:Bool}(h:Rp F w (.lst fl (l.map mtT)) v):kC w v l :=
 jx mtT h (fun _ _=>rfl) fun x _ b p J=>by
  obtain⟨u,h1,I⟩:=J 0 _ rfl;exact⟨u,Cw I,h1⟩
theorem F5{l:List Bnd}(h:Rp F w (mtT l) v):∃u,v=zu u/\cP w u l:=by
 obtain⟨vs,rfl,hr⟩:=kg h;clear h;obtain⟨u,_,rfl,h0,hr⟩:=aA hr;obtain rfl:=cm hr;exact⟨u,rfl,Cw h0⟩
theorem BJ(m y:List Bnd):PuC prog gl 16 [mtT m,mtT y] (tI (bsC m y)):=gU fun F w l hr=>by
 obtain⟨_,_,rfl,h0,hr⟩:=aA hr;obtain⟨_,_,rfl,h1,hr⟩:=aA hr;obtain rfl:=cm hr;obtain⟨h,rfl,g0⟩:=F5 h0;obtain⟨I,rfl,g1⟩:=F5 h1;exact IM (nr m y h I w g0 g1) rfl
noncomputable def aaB(x:Pt)(O:List (List Bnd)):List (Nat × Ob):=[(0,iH x),(1,.row 58 1 (O.map mtT) false)]
noncomputable def aaI(x:Pt)(l:List Evt)(S:List Bs)(k:Int)(O:List (List Bnd)):Sg:=⟨aaB x O,[⟨56,[(1,.p (bE l)),(5,.p (aL S)),(6,.ref 1),(7,.p (tI k))],none,[]⟩],[]⟩
noncomputable def aaJ(x:Pt)(l:List Evt)(S:List Bs)(k:Int)(L:List Tr):Sg:=⟨[(0,iH x),(1,.row 58 1 L false)],[⟨56,[(1,.p (bE l)),(5,.p (aL S)),(6,.ref 1),(7,.p (tI k))],none,[]⟩],[]⟩
noncomputable def aaN(x:Pt)(l:List Evt)(S:List Bs)(k:Int)(O:List (List Bnd))(m:List Bnd)(j:Int):Sg:=⟨aaB x O++[(2,.box [.p (KR m)])],[⟨56,[(1,.p (bE l)),(5,.p (aL S)),(6,.ref 1),(7,.p (tI k)),(8,.off 2 0 0),(9,.p (tI j))],none,[]⟩],[]⟩
noncomputable def aaE(x:Pt)(O:List (List Bnd)):Sg:=⟨aaB x O,[⟨56,[(6,.ref 1)],none,[]⟩],[]⟩
noncomputable def aaC:Code:=lpb prog 27 [1,1,1,0,1,0]
noncomputable def aaD:Code:=lpb prog 27 [1,1,1,0,1,0,0,1,0,0,1,1,0,0]
theorem insL(x:Pt)(l:List Evt)(S:List Bs)(k:Nat)(O:List (List Bnd))(m:List Bnd)(hO:O.length<=1048576):∀j:Nat,j<=O.length->(∀i y,j<=i->O[i]?=some y->bsC m y<0) ->
  ∃p,p<=O.length/\LoopP prog gl 0 aaD (aaN x l S k O m j) (.exit 2) (aaN x l S k O m p)/\ij O m=O.take p++m::O.drop p
 | 0,hj,ha=>⟨0,hj,LoopP.stop [bf,bf,bf] [1,5,6,7,8,9] [0,1,2] jS (aj3 yF yF yF tv),BY hj ha fun y h=>by omega⟩
 | j+1,hj,ha=>by
  have hy:O[j]?=some O[j]:=OH om;have hc:=BJ gl m O[j];generalize a':O[j]=y at hy hc;have Z:IntKind.i64.wrap (((j+1:Nat):Int)-1)=(j:Int):=by rw[Pv];omega
  have c0:decide (((j+1:Nat):Int) > 0)=true:=O3 om;have ce:(O.map mtT)[(IntKind.i64.wrap (((j+1:Nat):Int)-1)).toNat]?=some (mtT y):=by rw[Z];exact elM mtT hy
  have cn:(0:Int)<=IntKind.i64.wrap (((j+1:Nat):Int)-1):=by rw[Z];exact k0 j
  by_cases I:bsC m y<0
  ·obtain⟨p,h1,h2,h3⟩:=insL x l S k O m hO j om fun i z hi J=>by
    rcases Nat.eq_or_lt_of_le hi with e|e
    ·subst e;rw[hy]at J;cases J;exact I
    ·exact ha i z e J
   rw[<-Z]at h2;exact⟨p,h1,LoopP.next [bt,.el (mtT y),.ld (mtT y),.ca (tI (bsC m y)),bt,bt] [1,5,6,7,8,9] [0,1,2] rfl h2 (aj7 c0 ce cn ce hc yT (O3 I) tv),h3⟩
  ·exact⟨j+1,hj,LoopP.stop [bt,.el (mtT y),.ld (mtT y),.ca (tI (bsC m y)),bt,bf] [1,5,6,7,8,9] [0,1,2] jS (aj7 c0 ce cn ce hc yT (OZ I) tv),
    BY hj ha fun z _ J=>by rw[R8,hy]at J;cases J;exact I⟩
theorem uj(L:List (List Bnd)):(L.map mtT).map Tr.weak=L.map mtT:=by rw[PZ];rfl
theorem allS(x:Pt)(l:List Evt)(S:List Bs)(k:Nat)(s:Bs)(hs:S[k]?=some s)(g':S.length<=1048576)(d':∀x∈s,x.2<l.length)(c':s.length<=1048576)(O:List (List Bnd))(hO:O.length<=1048576){e:Exit}(h:LoopP prog gl 0 aaC (aaI x l S ((k+1:Nat):Int) (ij O (mOf l s))) e τ):LoopP prog gl 0 aaC (aaI x l S k O) e τ:=by
 have hm:=Je gl l s d' c';generalize mOf l s=m at hm h;obtain⟨p,hp,J,he⟩:=insL gl x l S k O m hO O.length (OI _) fun i y hi hy=>by rw[PF hi]at hy;cases hy
 obtain⟨L,hL⟩:=jF (O.map mtT);have a':L.length=O.length:=by rw[hL,OL]
 have J:LoopP prog gl 0 aaD (aaN x l S k O m ((O.map mtT).length:Nat)) (.exit 2) (aaN x l S k O m p):=by rw[OL];exact J
 have hw:=wr1 (sz hs) om;have c1:=ltM bsT (sz hs);have ce:=elM bsT hs;have f1:(p:Int)<=((O.map mtT).length:Nat):=by rw[<-hL];omega
 have hd:(O.map mtT).drop p=(O.drop p).map mtT:=(List.map_drop ..).symm;have ht:(O.map mtT).take p=(O.take p).map mtT:=(List.map_take ..).symm;have Z:((O.map mtT).take p).length=p:=by rw[PB,<-hL];omega
 have f6:((O.map mtT).take p).length+1<=maxLen:=by rw[Z,aQ];omega
 have f7:(((O.map mtT).take p).length+1)*24<=140737488355328:=by rw[Z];omega
 have I:((O.map mtT).take p++[mtT m]).length=p+1:=by rw[OM,Z];rfl
 by_cases f':p<O.length
 ·have f2:p+((O.map mtT).length-p)=(O.map mtT).length:=by rw[<-hL];omega
  have f3:0<(O.map mtT).length-p:=by rw[<-hL];omega
  have f4:0+((O.map mtT).length-p)<=maxLen:=by rw[<-hL,aQ];omega
  have f5:(0+((O.map mtT).length-p))*24<=140737488355328:=by rw[<-hL];omega
  have f8:(([]++(O.map mtT).drop p).all fun t=>t.cells.length==1)=true:=by rw[Ry,hd];exact BC mtT fun _=>rfl
  have dl:([]++(O.map mtT).drop p).length=O.length-p:=by rw[Ry,Qu,<-hL,a']
  have f9:((O.map mtT).take p++[mtT m]).length+([]++(O.map mtT).drop p).length<=maxLen:=by rw[I,dl,aQ];omega
  have f10:(((O.map mtT).take p++[mtT m]).length+([]++(O.map mtT).drop p).length)*24<=140737488355328:=by rw[I,dl];omega
  have eL:(O.map mtT).take p++[mtT m]++([]++(O.map mtT).drop p).map Tr.weak=(ij O m).map mtT:=by rw[he,Ry,hd,uj,ht];simp
  exact LoopP.next (σ':=aaJ x l S (IntKind.i64.wrap ((k:Int)+1)) ((O.map mtT).take p++[mtT m]++([]++(O.map mtT).drop p).map Tr.weak)) [bt,.el (bsT s),.ca (mtT m),.lo [1,5,6,7,8,9] (.exit 2) (aaN x l S k O m p),.vw,.av true,.cu,.ap,.ap] [1,5,6,7] [0,6] (by rw[hw,eL];rfl) h
   (aj8 c1 ce (k0 k) hm J (k0 p) f1 f2 (aj8 f3 yT f4 f5 (k0 p) f1 yT f6 (aj8 f7 f8 f9 f10 (eV (.p (mtT m))) (eV (.p (.lst true [mtT m]))) (eV (.ref 3)) (eV (.ref 3)) (aj2 (eV (.ref 3)) (eV (.ref 3)) tv)))) [.ren 6 1]
 ·have f2:(O.map mtT).length-p=0:=by rw[<-hL];omega
  have f9:((O.map mtT).take p++[mtT m]).length+0<=maxLen:=by rw[I,aQ];omega
  have f10:(((O.map mtT).take p++[mtT m]).length+0)*24<=140737488355328:=by rw[I];omega
  have eL:(O.map mtT).take p++[mtT m]++[]=(ij O m).map mtT:=by rw[he,ht,RD om];simp
  exact LoopP.next (σ':=aaJ x l S (IntKind.i64.wrap ((k:Int)+1)) ((O.map mtT).take p++[mtT m]++[])) [bt,.el (bsT s),.ca (mtT m),.lo [1,5,6,7,8,9] (.exit 2) (aaN x l S k O m p),.vw,.av false,.cu,.ap,.ap] [1,5,6,7] [0,5] (by rw[hw,eL];rfl) h
   (aj8 c1 ce (k0 k) hm J (k0 p) f1 f2 (aj8 (k0 p) f1 yT f6 f7 yT f9 f10 (aj6 (eV (.p (mtT m))) (eV (.p (.lst true [mtT m]))) (eV (.p (.lst true []))) (eV (.p (.lst true []))) (eV (.p (.lst true []))) (eV (.p (.lst true []))) tv))) [.ren 5 1]
theorem F4(O:List (List Bnd))(m:List Bnd):(ij O m).length=O.length+1:=by
 unfold ij;simp only[OM,Pk,PB,Qu];omega
theorem Ab(L O:List (List Bnd)):(L.foldl ij O).length=O.length+L.length:=by
 induction L generalizing O with
 | nil=>rfl
 | cons m L h=>rw[PR,h,F4,Pk];omega
theorem PuC.wk{ts ts':List Tr}{r:Tr}(h:PuC P gl f ts r)(hw:∀F w vs,Rps F w ts' vs->Rps F w ts vs):PuC P gl f ts' r:=fun F w vs hr I=>h F w vs (hw F w vs hr) I
theorem LB{V:List Int}(hBd:cX V l.length)(x:Pt)(hN:ptN x<=1048576)(hG:GoodP V x):PuC prog gl 27 [ptT x (bm x.args),bE l] (.lst false ((((bl l x [] 0).map (mOf l)).foldl ij []).map mtT)):=by
 have Z:=mR l hG;have d':=hBd.len;have J:=(LV gl hBd (ptN x) x (OI _) hN hG [] 0 ⟨List.Pairwise.nil,by simp⟩ (OO _)).wk (ts':=[ptT x (bm x.args),bE l,.at (.slice none 0 0),tI 0]) gl fun F w vs hr=>by
  obtain⟨_,_,rfl,h0,hr⟩:=aA hr;obtain⟨_,_,rfl,h1,hr⟩:=aA hr;obtain⟨_,_,rfl,h2,hr⟩:=aA hr;obtain⟨_,_,rfl,h3,hr⟩:=aA hr;obtain rfl:=cm hr;rw[bU h2];exact eW h0 (eW h1 (eW (.nil none 0 (OO _)) (eW h3 BO)))
 have hS:∀s∈bl l x [] 0,SetV V 0 l.length s:=fun s hs=>Z.set hs
 have a':=gF hBd Z [] 0;generalize bl l x [] 0=S at *;have e:((S.take S.length).map (mOf l)).foldl ij []=(S.map (mOf l)).foldl ij []:=by rw[Pp]
 have hL:LoopP prog gl 0 aaC (aaI x l S (0:Nat) []) (.exit 0) (aaE x ((S.map (mOf l)).foldl ij [])):=by
  rw[<-e];refine LoopP.each (fun k=>aaI x l S k (((S.take k).map (mOf l)).foldl ij [])) S.length (fun k hk h=>?_) ?_
  ·have hs:=OH hk;have I:=hS _ (OX hk);have c':=I.n63;rw[PW,hs]at h;simp only[QG,Pq,OU,P6,Qm,PR,RT]at h;exact allS gl x l S k S[k] hs a' (fun y hy=>(I.ok.2.2 y hy).2) om _ (by rw[Ab,OL,PB];simp;omega) h
  ·exact LoopP.stop [bf] [6] [0,1] jS (ai (dI bsT S) tv)
 exact aq [.ca (aL S),.lo [1,5,6,7] (.exit 0) (aaE x ((S.map (mOf l)).foldl ij []))] (aj2 J (LoopP.tns ⟨[(0,iH x)],[⟨56,[(1,.p (bE l)),(5,.p (aL S)),(6,.p (.at (.slice none 0 0))),(7,.p (tI (0:Nat)))],none,[]⟩],[]⟩ [.own 6 1 58 1] hL) tv)
end
end
theorem Oo{l:List Vl}(h:bh w v l):Rp (fW w) w (.lst false (l.map vlT)) v :=
 sH vlT h om (fun _ _=>rfl) (fun x _ t I=>by simp only[O7,Pw,Px,Tr.cells]at I;rcases I with rfl|rfl|rfl<;>rfl) fun x _ b p J j t I=>by
  match j,I with
  | 0,I=>cases I;exact⟨_,J.1,.at _⟩
  | 1,I=>cases I;exact⟨_,J.2.1,.at _⟩
  | 2,I=>cases I;exact⟨_,J.2.2,.at _⟩
theorem C9(h:cH w v l):Rp (fW w) w (bE l) v :=
 sH evT h om (fun _ _=>rfl) (fun x _ t I=>by simp only[O7,Pw,Px,Tr.cells]at I;rcases I with rfl|rfl|rfl|rfl|rfl<;>rfl) fun x _ b p hx j t I=>by
  obtain⟨u,hu,h0,h1,J,h3,Z⟩:=hx
  match j,I with
  | 0,I=>cases I;exact⟨_,h0,.at _⟩
  | 1,I=>cases I;exact⟨_,h1,.at _⟩
  | 2,I=>cases I;exact⟨_,J,.at _⟩
  | 3,I=>cases I;exact⟨_,h3,.at _⟩
  | 4,I=>cases I;exact⟨_,Z,Oo hu⟩
section
open Go.RowKit Go.Lib
attribute [local go_sem] Oper.semAt_some
def kv(s:Bs):Value:=.string ⟨(fR s).toArray⟩
theorem Nf(x y:Bs)(h:kv x=kv y):x=y:=by
 unfold kv at h;injection h with h;injection h with h;exact xD (jQ h)
def OutOk(n1 bo:Nat)(W:World)(L:List Bs):Prop:=∃v vs,Boxed W bo 178 v/\W.ownsRow n1 181 1 v L.length vs/\∀(j:Nat) s,L[j]?=some s->∃u,vs[j]?=some u/\SetIn (Own n1 (some bo) W) W u s
structure SubI(w:World)(n1 C:Nat)(Y:List Bs)(k:Nat)(W:World):Prop where
 bel:OD w W
 big:n1<=W.heap.size
 bc:Boxed W w.heap.size 175 (.pointer (some ⟨C,0,none⟩))
 rs:Boxed W (w.heap.size+1+1) 178 (.slice none 0 0)
 out:OutOk n1 (w.heap.size+1+1+1) W (bO (Y.take k))
 map:HasM 9 kv W (w.heap.size+1+1+1+1) (bO (Y.take k)).length (bO (Y.take k))
 bk:Boxed W (w.heap.size+1+1+1+1+1) 142 (.map (some (w.heap.size+1+1+1+1)))
theorem FL{size n:Nat}(h:W.ownsRow base e size v n xs)(J:W.grownBy W' row)(hr:∀r,row=some r->∃o:Obj,W.heap[r]?=some o/\o.isCells=false):W'.ownsRow base e size v n xs:=by
 refine aY h fun g I=>?_
 rcases h.2 with ⟨rfl,-⟩|⟨g',cap,cur,rfl,-,hh,-⟩
 ·cases I
 ·cases I
  exact grownBy_keeps_cells J hr hh rfl
theorem OutOk.keep{n0 bo:Nat}(h:OutOk n1 bo W L)(I:W.grownBy W' row)(hk:eI n0 n1 (some bo) W W')(hr:∀r,row=some r->∃o:Obj,W.heap[r]?=some o/\o.isCells=false):OutOk n1 bo W' L:=by
 obtain⟨v,vs,h1,J,Z⟩:=h;exact⟨v,vs,gY h1 I hr,FL J I hr,fun j s hs=>by obtain⟨u,hu,hs⟩:=Z j s hs;exact⟨u,hu,SetIn.keepO hk hs⟩⟩
theorem SubI.keep(h:SubI w n1 C Y k W)(hn:w.heap.size+6<=n1)(J:W.grownBy W' row)(hr:∀r,row=some r->n1<=r/\∃o:Obj,W.heap[r]?=some o/\o.isCells=false):SubI w n1 C Y k W':=by
 have I:∀r,row=some r->∃o:Obj,W.heap[r]?=some o/\o.isCells=false:=fun r e=>(hr r e).2
 have hk:eI w.heap.size n1 (some (w.heap.size+1+1+1)) W W':=zq (by have:=h.big;omega) J (fun r e=>⟨by have:=(hr r e).1;omega,fun Z=>by injection Z with Z;have:=(hr r e).1;omega,.inr (hr r e).2⟩) (fun b e=>by injection e with e;have:=h.big;omega);exact⟨h.bel.trans hk.below,OP h.big J.size,gY h.bc J I,gY h.rs J I,h.out.keep J hk I,h.map.kept J (fun e=>by have:=(hr _ e.symm).1;omega),gY h.bk J I⟩
theorem SubI.same{I:Nat}(h:SubI w n1 C Y k W)(e:bO (Y.take I)=bO (Y.take k)):SubI w n1 C Y I W :=
 ⟨h.bel,h.big,h.bc,h.rs,by rw[e];exact h.out,by rw[e];exact h.map,h.bk⟩
end
section
def mpE:List Bs->Nat->List (Value × V × Nat)
 | [],_=>[]
 | s::l,j=>(kv s,.p (tB true),j)::mpE l (j+1)
theorem xE(s:Bs):∀(l:List Bs)(j:Nat),mpE (l++[s]) j=mpE l j++[(kv s,.p (tB true),j+l.length)]
 | [],j=>rfl
 | t::l,j=>by rw[Rq,mpE,xE s l,mpE,Rq,Pk,show j+1+l.length=j+(l.length+1) by omega]
theorem Bv{κ:V->V}(h:κ (.p (tB true))=.p (tB true)):∀(l:List Bs)(j:Nat),(mpE l j).map (fun x=>(x.1,κ x.2.1,x.2.2))=mpE l j
 | [],_=>rfl
 | s::l,j=>by rw[mpE,OU,Bv h l,h]
theorem CT(s:Bs):∀(L:List Bs)(j i:Nat),(s∉L->Instr.findNow .string (kv s) (ib (mpE L j)) i=some none) /\
  (s∈L->∃k,Instr.findNow .string (kv s) (ib (mpE L j)) i=some (some (i+k,undef))/\((mpE L j)[k]?).map (·.2.1)=some (.p (tB true)))
 | [],j,i=>⟨fun _=>rfl,fun h=>by cases h⟩
 | t::L,j,i=>by
  have hs:Instr.sameNow .string (kv s) (kv t)=some (decide (s=t)):=by
   show some ((fR s).toArray==(fR t).toArray)=_;congr 1;rw[Qc,Pa,OW];exact⟨fun h=>Nf s t (by unfold kv;rw[h]),fun h=>by rw[h]⟩
  obtain⟨h1,h2⟩:=CT s L (j+1) (i+1);simp only[mpE,ib,OU,Instr.findNow,hs]
  by_cases e:s=t
  ·rw[O3 e];exact⟨fun h=>absurd (by simp[e]) h,fun _=>⟨0,rfl,rfl⟩⟩
  ·rw[OZ e];refine⟨fun h=>h1 (fun Z=>h (by simp[Z])),fun h=>?_⟩;obtain⟨k,I,J⟩:=h2 (by rcases List.mem_cons.1 h with h|h;exact absurd h e;exact h);exact⟨k+1,by rw[<-PP,Nat.add_right_comm];exact I,J⟩
theorem vW(b:Bool)(h:Instr.findNow .string (kv s) (ib es) 0=some r):fnd prog 9 es (kv s) b=some (r.map (·.1)):=by
 have e1:dr prog (Instr.checkKey b 10000 9 (kv s))=some ():=kr;have I:dr prog (Instr.findKey 9 (kv s) (ib es))=dr prog (match Instr.findNow .string (kv s) (ib es) 0 with|some r=>pure r|none=>Instr.findAsking 9 (kv s) (ib es) 0):=kr;unfold fnd;rw[e1,I,h];rfl
theorem Dq{l:List Bs}(h:l[k]?=some s):bO (l.take (k+1))=cN (bO (l.take k)) s:=by
 rw[PW,h];simp[bO,Qm]
theorem Jh(l:List Bs)(k:Nat):(bO (l.take k)).length<=(bO l).length:=by
 have:∀(m:List Bs)(A:List Bs),A.length<=(m.foldl cN A).length:=fun m=>by
  induction m with
  | nil=>exact fun A=>OI _
  | cons s m h=>intro A;refine OP ?_ (h _);unfold cN;split<;>simp
 have e:bO l=(l.drop k).foldl cN (bO (l.take k)):=by unfold bO;rw[<-Qm,QT]
 rw[e];exact this _ _
section
variable (gl : Nat -> Option (List Tr))(hBd : cX U l.length)
abbrev fnT:Tr:=.agg [.fn (.func 248) [] [],.fn (.func 249) [] [],.fn (.func 250) [] [],.fn (.func 251) [] [],.fn (.func 252) [] [],.fn (.func 253) [] [],.fn (.func 253) [] [],.fn (.func 253) [] []]
theorem DE:PuC prog gl 175 [] fnT:=aq [] trivial
def fndI:Int->FuncId
 | 0=>248
 | 1=>249
 | 2=>250
 | 3=>251
 | 4=>252
 | _=>253
theorem key_t(s:Bs)(h:∀x∈s,(0<=x.1/\x.1<16)/\x.2<100)(J:s.length<=1048576)(I:s≠[]):PuC prog gl 176 [bsT s] (.at (kv s)):=gU fun F w vs hr=>by
 obtain⟨_,_,rfl,h0,hr⟩:=aA hr;obtain rfl:=cm hr;exact BM s _ w (lH h0) h J I
noncomputable def sbO(l:List Evt)(x:Pt)(L:List Bs):List (Nat × Ob):=[(0,.box [.p (scF l)]),(1,.box ((pT x).cells.map .p)),(2,.box [.p (.at (.slice none 0 0))]),(3,.box [.ref 6]),(4,.map (mpE L 0) L.length),(5,.box [.ref 4]),(6,.row 181 1 (L.map bsT) false)]
noncomputable def sbF(z:Tr):Fr:=⟨48,[(4,.off 0 0 0),(8,.off 2 0 0),(9,.off 3 0 0),(10,.off 5 0 0),(24,.p z)],none,[]⟩
theorem Fp(x:Pt)(z:Tr)(L:List Bs)(s:Bs)(hk:PuC prog gl 176 [bsT s] (.at (kv s)))(hl:(cN L s).length<=4096) :
  Body prog gl (rgl prog 107 [1,1,1,1,0,1,0] (sbF z)) 0 (sd 6) (sbO l x L) (bsT s) .normal (sbO l x (cN L s)):=by
 obtain⟨h1,h2⟩:=CT s L 0 0
 cases J:L.contains s with
 | true =>
  rw[show cN L s=L by unfold cN;rw[OG J]];obtain⟨k,I,Z⟩:=h2 (jQ J);have I:=vW (mpE L 0).isEmpty I;rw[PD,Pd]at I;exact Body.ch [.ca (.at (kv s)),.lk (some k) (.p (tB true)),bt] [0,1,2,3,4,5,6] [] 6 [] [] (fun _ _=>_) (fun _ _ h=>h) (fun _ _ _=>ai hk (aj3 I Z yT tv))
 | false =>
  have e:cN L s=L++[s]:=by unfold cN;rw[J];rfl
  rw[e]at hl ⊢;rw[OM,O0]at hl;have I:=h1 (jQ J);have Z:=vW (mpE L 0).isEmpty I;have k3:=vW false I;unfold sbO;rw[<-Bv (κ:=V.atm (jJ 7 6)) rfl (L++[s]) 0,<-Bv (κ:=V.kill 7) rfl (L++[s]) 0,xE,Pq (f:=bsT),OM,Pd];exact Body.ch [.ca (.at (kv s)),.lk none .junk,bf,.mu,.ap,bf,bf] [0,1,2,3,4,5,7] [.ren 7 6] 6 [] [.k 7,.r 7 6] (fun _ _=>_) (fun _ _ h=>h)
   (fun _ _ _=>ai hk (aj8 Z yF k3 yT (show (L.map bsT).length+[bsT s].length<=maxLen by rw[aQ];simp;omega) (show ((L.map bsT).length+[bsT s].length)*24<=140737488355328 by simp;omega) (show decide (((L.map bsT++[bsT s].map Tr.weak).length:Nat) > (4096:Int))=false by simp;omega) yF tv))
include hBd in
theorem sub_q(x:Pt)(b:Bs)(i:Nat)(hG:GoodQ U l.length x)(g':l.length<=99)(hB:BOk i b)(hi:i<=l.length)(hq:zU gl (fndI x.op) l x b i):BL gl l x b i:=by
 have I:=wF hG b i;refine⟨?_,by omega⟩;obtain⟨h,vs,zl,c',Z,J⟩:=hq;obtain⟨z,hz⟩:∃z:Tr,z=.fn (.func h) [] vs:=⟨_,rfl⟩;have hy:aU l x b i=bO (io l x b i):=xL l hG.okA b i;have hR:=JA (P:=prog) (gl:=gl) (F:=107) (path:=[1,1,1,1,0,1,0]) (f:=sbF z) 6 (fun k=>sbO l x (bO ((io l x b i).take k))) J
  (fun k t ht=>by
   rw[OQ]at ht;obtain⟨s,hs,rfl⟩:=Option.map_eq_some_iff.1 ht;have hv:=Kf (b:=b) hG (Pb hs);have a':=hv.bok hBd;have f':=hv.ok.last;have h3:=hv.n63;rw[Dq hs];exact Fp gl x z _ s (key_t gl s (fun y hy=>⟨(a'.ok y hy).1,by have:=(a'.ok y hy).2;omega⟩) om hv.ok.1) (by rw[<-Dq hs];exact OP (Jh _ _) (hy▸I)))
  (by subst hz;kernel_rfl) (by rw[c',QQ];kernel_rfl) kr rfl
 rw[OL,Pp,<-hy]at hR;subst hz;have d':=hG.op;clear J c' hG hy I;have hT:IsS [.ca fnT,.co,.tn [.ownc 3 0 6 181 1],.ca (.fn (.func h) [] vs),.rf [4,8,9,10,24] .normal (rgT prog 107 [1,1,1,1,0,1,0] (sbF (.fn (.func h) [] vs)) [] [] (sbO l x (aU l x b i)) none zl)]:=rfl;have hF:=DE gl;generalize aU l x b i=S at *;obtain⟨op,ar,ty,vr,sc,sp,cd⟩:=x;simp only[Pt.op]at d' Z;rcases (by omega:op=0\/op=1\/op=2\/op=3\/op=4\/op=5\/op=6\/op=7) with e|e|e|e|e|e|e|e<;>subst e<;>exact aq (A9 hT) (aj3 hF Z hR tv)
include hBd in
theorem Mu(f':l.length<=99):∀(n:Nat),n<=1048576->∀x,ptN x<=n->GoodQ U l.length x->mN gl l x:=by
 intro n
 induction n with
 | zero=>intro _ x h;have:=cK x;omega
 | succ n ih =>
  intro hn x hx J;have he:=cK x;have hA:∀a∈x.args,mN gl l a:=fun a ha=>ih om a (by have:=mo ha;omega) (J.arg ha)
  have hr:x.op=1->∀a c r,x.args=a::c::r->mN gl l (ii x (c::r)):=fun ho a c r c'=>by
   refine ih om _ ?_ (J.rest ho c');have h1:=cK (ii x (c::r));have h2:=cK a;rw[fa]at h1;rw[c',cE]at he;omega
  have a':x.args.length<=1048576:=by have:=jg x.args;omega
  have g':=J.op;have key:∀(m:Nat)(b:Bs)(i:Nat),l.length-i<=m->BOk i b->i<=l.length->BL gl l x b i:=by
   intro m
   induction m using Nat.strongRecOn with
   | _ m d' =>
    intro b i hm Z I;refine sub_q gl hBd x b i J f' Z I ?_;rcases (by omega:x.op=0\/x.op=1\/x.op=2\/x.op=3\/x.op=4\/x.op=5\/x.op=6\/x.op=7) with h|h|h|h|h|h|h|h
    ·rw[h];exact I8 gl l x b i h Z I hBd.len J.good.self.2
    ·rw[h];exact seq_q gl hBd x b i J h Z I hA (hr h)
    ·rw[h];exact alt_q gl l x b i h Z I hA a'
    ·rw[h];exact all_q gl hBd x b i J h Z I hA a'
    ·rw[h];exact NM gl hBd x b i J h Z I hA (fun b' j h1 h2 h3=>d' (l.length-j) om b' j (OI _) h2 h3)
    ·rw[h];exact Am gl U l x b i J hBd (.inl h) Z I hA
    ·rw[h];exact Am gl U l x b i J hBd (.inr (.inl h)) Z I hA
    ·rw[h];exact Am gl U l x b i J hBd (.inr (.inr h)) Z I hA
  exact fun b i Z I=>key l.length b i om Z I
end
end
def IR(w:World)(L:List Bs)(e:Ending)(W:World):Prop:=∃v,e=.returned v/\SetsIn (fun _=>True) W v L/\OD w W
theorem NY(h:gN w v s)(hs:s≠[]):SetIn (fun _=>True) w v s:=by
 obtain⟨A,c,rfl,h1,J,I⟩:=h;have h0:=List.length_pos_iff.2 hs;obtain⟨b,o,rfl,-⟩:=I 0 s[0] (OH h0);exact⟨b,o,c,rfl,h1,J,hs,trivial,fun k x hk=>by obtain⟨b',o',e,h⟩:=I k x hk;cases e;exact h⟩
theorem KP(h:Rp F w (aL L) v)(hL:∀s∈L,s≠[]):SetsIn (fun _=>True) w v L:=by
 obtain⟨A,c,rfl,h1,Z,h3⟩:=jx (R:=fun w b p s=>∃u,w.cell? ⟨b,p,none⟩=some u/\gN w u s) (sz:=1) bsT h (fun _ _=>rfl) fun s _ b p hc=>by
  obtain⟨u,I,J⟩:=hc 0 _ rfl;exact⟨u,I,lH J⟩
 refine⟨A,c,rfl,h1,Z,fun k s hk=>?_⟩;obtain⟨b,o,e,u,I,J⟩:=h3 k s hk;exact⟨b,o,u,e,trivial,by rw[P7]at I;exact I,NY J (hL s (Pb hk))⟩
theorem MJ(h0:w.cell? ⟨C,0,none⟩=some vl)(h1:w.cell? ⟨C,1,none⟩=some (.bool false))(h:cH w vl l):Rp (fW w) w (scF l) (.pointer (some ⟨C,0,none⟩)):=by
 refine .elp _ C 0 (fun j=>if j=0 then vl else .bool false) (fun t I=>by simp only[O7,Pw,Px]at I;rcases I with rfl|rfl<;>rfl) (fun j J=>?_) fun j t I=>?_
 ·match j,J with
  | 0,_=>exact⟨h0,ut h0⟩
  | 1,_=>exact⟨h1,ut h1⟩
 ·match j,I with
  | 0,I=>cases I;exact C9 h
  | 1,I=>cases I;exact .at _
theorem Lc(hBd:cX U l.length)(J:l.length<=99)(x:Pt)(hN:ptN x<=1048576)(Z:GoodQ U l.length x)(b:Bs)(i:Nat)(hB:BOk i b)(hi:i<=l.length)(d e C:Nat)(v vc vl u:Value)(w:World)(h0:w.cell? ⟨C,0,none⟩=some vl)(h1:w.cell? ⟨C,1,none⟩=some (.bool false))(hl:cH w vl l)(hx:dg d w v x.args)(h:bZ e w vc x.cond.args)(hb:gN w u b) :
  Calls prog 107 #[.pointer (some ⟨C,0,none⟩),ptV x v vc,u,OB (i:Int)] w (IR w (aU l x b i)):=by
 have hp:=L5 hx h;rw[oI]at hp;refine ((Mu (fun _=>none) hBd J (ptN x) hN x (OI _) Z b i hB hi).1 (fW w) w [_,_,_,_] (eW (MJ h0 h1 hl) (eW hp (eW (L6 hb) (eW (.at _) BO)))) fun g cs hg=>by cases hg).mono ?_;rintro e W ⟨z,F',rfl,I,-,hr⟩;exact⟨z,rfl,KP hr fun s hs=>(dQ Z hs).ok.1,I⟩
section
open Go.RowKit Go.Lib
def MatsNew(B:Nat)(W:World)(v:Value)(ms:List MV):Prop:=(∃A c,v=.slice A ms.length c/\ms.length<=c/\c<=maxLen/\∀(k:Nat) e,ms[k]?=some e->∃b o,A=some ⟨b,o,none⟩/\B<=b/\b<W.heap.size/\W.cell? ⟨b,o+k,none⟩=some e.2) /\
 ∀e∈ms,cP W e.2 e.1/\∀g,e.2.ownBlock=some g->B<=g/\g<W.heap.size
theorem MatsNew.is(h:MatsNew B W v ms):kC W v (ms.map (·.1)):=by
 obtain⟨⟨A,c,rfl,h1,I,Z⟩,J⟩:=h;refine⟨A,c,by rw[OL],by rw[OL];exact h1,I,fun k m hm=>?_⟩;rw[OQ]at hm;obtain⟨e,he,rfl⟩:=Option.map_eq_some_iff.1 hm;obtain⟨b,o,e1,-,-,hc⟩:=Z k e he;exact⟨b,o,e1,e.2,(J e (Pb he)).1,by rw[P7];exact hc⟩
theorem MatsNew.stays(h:MatsNew B W v ms)(I:OD W W'):MatsNew B W' v ms:=by
 obtain⟨⟨A,c,rfl,h1,h2,h3⟩,J⟩:=h;exact⟨⟨A,c,rfl,h1,h2,fun k e he=>by obtain⟨b,o,e1,e2,e3,hc⟩:=h3 k e he;exact⟨b,o,e1,e2,OT e3 I.size,aa I hc⟩⟩,fun e he=>⟨(J e he).1.stays dx I,fun g Z=>⟨((J e he).2 g Z).1,OT ((J e he).2 g Z).2 I.size⟩⟩⟩
def MtsRet(w:World)(l:List Evt)(x:Pt)(e:Ending)(W:World):Prop:=OD w W /\
 ((fx x≠0/\e=.returned (.tuple #[.slice none 0 0,OB (fx x)]))\/(fx x=0/\bN l≠0/\e=.returned (.tuple #[.slice none 0 0,OB (bN l)])) \/
  (fx x=0/\bN l=0/\∃v ms,e=.returned (.tuple #[v,OB 0])/\MatsNew w.heap.size W v ms/\ms.map (·.1)=dF l x))
theorem ji(h:bN l=0):Eo l:=(nU h).1.asc
theorem oG{ms:List (List Bnd)}(h:ms.Pairwise (fun a b=>¬bsC b a<0))(I:ms.Nodup):ms.Pairwise (fun a b=>bsC a b<0):=by
 rw[List.nodup_iff_pairwise_ne]at I;refine (h.and I).imp fun {a b} hab=>?_
 have h1:=ga.anti a b;have J:bsC a b≠0:=fun e=>hab.2 (ui.1 e)
 have:=hab.1;omega
theorem sy{V:List Int}(Z:GoodQ V l.length x)(hs:Eo l){es es':List MV}(he:es.map (·.1)=(aU l x [] 0).map (mOf l))(hp:es'.Perm es)(a':(es'.map (·.1)).Pairwise (fun a b=>¬bsC b a<0)):es'.map (·.1)=dF l x:=by
 have hn:((aU l x [] 0).map (mOf l)).Nodup:=kX (lJ l x [] 0) fun s J t ht e=>uN hs (fun z I=>((dQ Z J).ok.2.2 z I).2) (fun z I=>((dQ Z ht).ok.2.2 z I).2) e
 have h:(es'.map (·.1)).Perm ((aU l x [] 0).map (mOf l)):=he▸hp.map _;rw[<-zW l Z.okA];exact np (oG a' (h.nodup_iff.2 hn)) fun k=>h.mem_iff
theorem wU(V:List Int)(l:List Evt)(x:Pt)(d:Nat)(v vc vl:Value)(w:World)(hT:Shp w)(hx:dg d w v x.args)(F1:bZ d w vc x.cond.args)(hl:cH w vl l)(hN:ptB x<=1048576)(hS:fx x=0->bN l=0->GoodQ V l.length x/\cX V l.length/\l.length<=99) :
  Calls prog 55 #[ptV x v vc,vl] w (MtsRet w l x):=by
 have z':=jD (fun(W:World)(hW:OD w W)=>pL d x v vc W (hT.stays hW) (hx.stays (bK d) hW) (F1.stays (bi d) hW) hN);have K1:=jD (fun(W:World)(hW:OD w W)=>rB l vl W (hl.stays bX hW));have HS:=jD hS;have Y7:=jD hN;have HX:=jD hx;have U3:=jD F1;have HL:=jD hl;obtain⟨Al,cl,rfl,l1,l2,T'⟩:=hl;obtain⟨A,c,rfl,-⟩:=hx;obtain⟨Ac,cc,rfl,-⟩:=F1;have K4:=aP l1 l2;have ha:=jD T';obtain⟨nl,H2⟩:∃n,n=l.length:=⟨_,rfl⟩;obtain⟨na,W2⟩:∃n,n=x.args.length:=⟨_,rfl⟩;obtain⟨nx,V4⟩:∃n,n=x.cond.args.length:=⟨_,rfl⟩;have S':=jD H2;rw[<-H2]at K1 HL K4 ⊢;rw[<-W2]at z' HX ⊢;rw[<-V4]at z' U3 ⊢;obtain⟨pe,C2⟩:∃e,e=fx x:=⟨_,rfl⟩;obtain⟨se,G2⟩:∃e,e=bN l:=⟨_,rfl⟩;have q':=jD C2;have j':=jD G2;rw[<-C2]at z';rw[<-G2]at K1;obtain⟨j0,V9,Aa,ka,X8⟩:=Ql GK;obtain⟨i0,Z7,va,S9,da⟩:=Ql yW;clear hT T' l1 l2 H2 W2 V4 hS hN C2 G2;unfold ptV at z' ⊢;go_enter func55,ntmps55;go_wp2_with fail;refine aJ fun w1 e1=>?_
 obtain⟨bp,A2⟩:∃q,q=w.heap.size:=⟨_,rfl⟩;have U2:OD w w1:=gb e1;have X2:Cells w1 bp 0 (eP x (.slice A na c) (.slice Ac nx cc)):=by rw[A2];exact xd (jG e1) (jG e1) (jG e1) (jG e1) (jG e1) (jG e1) (jG e1) (jG e1) (jG e1) (jG e1) (jG e1) (jG e1) (jG e1) (jG e1)
 rw[<-A2];clear e1;refine (z'.out _ U2).mono ?_;rintro e w2 ⟨rfl,W1⟩;have R':=jD (ae U2 W1);have W4:=jD (oM X2 W1);clear U2 W1 X2 A2
 by_cases N':pe=0
 case neg =>
  have Va:(pe != 0)=true:=jQ N';have W8:=jD N';clear N';go_wp2;exact OJ (v:=.tuple #[.slice none 0 0,OB pe]) (by simp[results,results55,go_sem]) rfl ⟨R'.out,.inl ⟨by rw[<-q'.out];exact W8.out,by rw[<-q'.out]⟩⟩
 subst N';go_wp2_with fail;refine (K1.out _ R'.out).mono ?_;rintro e w3 ⟨rfl,U0⟩;have T2:=jD (ae R'.out U0);have T4:=jD (oM W4.out U0);clear U0 W4 R'
 by_cases I':se=0
 case neg =>
  have Ya:(se != 0)=true:=jQ I';have V8:=jD I';clear I';go_wp2;exact OJ (v:=.tuple #[.slice none 0 0,OB se]) (by simp[results,results55,go_sem]) rfl ⟨T2.out,.inr (.inl ⟨q'.out.symm,by rw[<-j'.out];exact V8.out,by rw[<-j'.out]⟩)⟩
 subst I';obtain⟨hG,hBd,V2⟩:=HS.out q'.out.symm j'.out.symm;have HG:=jD hG;have C0:=wF hG [] 0;have m':Hid (∀(C:Nat)(W:World),OD w W->W.cell? ⟨C,0,none⟩=some (.slice Al nl cl)->W.cell? ⟨C,1,none⟩=some (.bool false)->Calls prog 107 #[.pointer (some ⟨C,0,none⟩),ptV x (.slice A na c) (.slice Ac nx cc),.slice none 0 0,OB 0] W (IR W (aU l x [] 0))) :=
  jD fun C W hW h1 h2=>Lc hBd V2 x (by have:=iL x;have:=Y7.out;omega) hG [] 0 ⟨List.Pairwise.nil,fun z hz=>by simp at hz⟩ (OO _) d d C _ _ _ _ W h1 h2 (HL.out.stays bX hW) (HX.out.stays (bK d) hW) (U3.out.stays (bi d) hW) (Sl.nil _ _ _ _ _ (OO _))
 have Q3:Hid (∀s∈aU l x [] 0,SetV V 0 l.length s):=jD fun s hs=>dQ hG hs
 obtain⟨L,hL⟩:=jF (aU l x [] 0);rw[<-hL]at C0 m' Q3;have Z3:=jD hL;obtain⟨q0,q1,q2,q3,q4,q5,q6,q7,q8,q9,U8,S8,A7,ca⟩:=Oc T4.out;have U7:=OV w3 ⟨bp,_,none⟩ q0;have T7:Hid (nl<=99):=jD (by rw[S'.out];exact V2);clear hG hBd V2 hL;unfold ptV at m';go_wp2_with fail;refine aJ fun w4 e4=>?_
 obtain⟨C,hC⟩:∃q,q=w3.heap.size:=⟨_,rfl⟩;have K2:OD w3 w4:=gb e4;have z0:OC w4 C 0 (.slice Al nl cl):=jW e4 hC;have z1:OC w4 C 1 (.bool false):=jW e4 hC;rw[<-hC];have eb:Hid (w3.heap.size<=C):=jD om;clear e4 hC;refine (m'.out C _ (ae T2.out K2) z0 z1).mono ?_;rintro e w5 ⟨v5,rfl,U1,X0⟩;have f':=jD (ae (ae T2.out K2) X0);have X7:=aa X0 z1;have Tb:=OV w5 ⟨C,_,none⟩ X7;have A3:=jD U1;obtain⟨A5,c5,rfl,Y8⟩:=U1.form;obtain⟨n5,E1⟩:∃n,n=L.length:=⟨_,rfl⟩;have P4:=jD E1;rw[<-E1]at A3 Y8 C0 ⊢;clear U1 E1 q0 q1 q2 q3 q4 q5 q6 q7 q8 q9 U8 S8 A7 ca z0 z1 K2 X0 m' U7 T4;go_wp2_with fail
 go_loopw [10,38] (fun av t wr=>∃(k:Nat)(ms:List MV),k<=n5/\t=OB k/\ms.length=k/\Hid (ms.map (·.1)=(L.take k).map (mOf l)/\MW w5.heap.size wr av ms/\OD w5 wr)) (fun _ t _=>n5-(intOf t).toNat)
 case atStart=>exact⟨0,[],OO _,rfl,rfl,jD ⟨rfl,MW.nil _ _,OK _ _⟩⟩
 case round =>
  obtain⟨k5,ms,pb,rfl,Z5,p'⟩:=hrel;have I:=p'.out.2.2;have C1:=jD Z5;clear Z5
  by_cases Ua:k5<n5
  ·have S6:(k5:Int)<(n5:Int):=by omega
   obtain⟨wk,V5⟩:=jF wr;rw[<-V5]at p' I ⊢;clear V5;obtain⟨s,hs⟩:∃s,L[k5]?=some s:=⟨_,OH (by have:=P4.out;omega)⟩;have M1:=Q3.out s (Pb hs);have W5:=M1.n63;have Z8:=jD hs;obtain⟨sb,so,us,rfl,S2,B8⟩:=(SetsIn.stays A3.out I).at hs;have K5:=OV wk ⟨sb,_,none⟩ S2;obtain⟨gs,os,ks,rfl,B6,V6,-,-,V'⟩:=B8;have U6:=jD V';have V7:Hid (∀z∈s,z.2<nl):=jD fun z hz=>by rw[S'.out];exact (M1.ok.2.2 z hz).2
   have T6:Hid (s.length<=nl):=jD (by rw[S'.out];exact W5);have H5:=aP B6 V6;obtain⟨k',s'⟩:∃n,n=s.length:=⟨_,rfl⟩;rw[<-s']at T6 H5 S2;have H3:=jD s';have c':=jD I;have E':=jD p'.out;have Y':0<k'->gs<wk.heap.size:=fun h=>by
    obtain⟨z,hz⟩:∃z,s[0]?=some z:=⟨_,OH om⟩;exact OV wk ⟨gs,_,none⟩ (U6.out 0 z hz).1
   have wa:=jD Y';clear hs M1 W5 V' B6 V6 s' I p' Y';go_wp2_with fail;refine bV fun wM eM=>?_
   obtain⟨M,hM⟩:=jF wk.heap.size;have Y5:OD wk wM:=gb eM;have U5:wM.heap[M]?=some (.cells [Value.slice none 0 0].toArray 58 (0,0)):=by rw[eM,hM];exact Qd wk _
   have S3:wM.heap.size=M+1:=by rw[eM,hM];simp
   rw[<-hM];have Z6:=jD Y5;have T5:=jD U5;have la:=jD S3;have C':=jD hM;clear eM Y5 U5 S3 hM S2 K5
   go_loopw [44] (fun t wr=>∃(k:Nat)(u:Value),k<=k'/\t=OB k/\Hid (wr.cell? ⟨M,0,none⟩=some u/\wr.frozen? ⟨M,0,none⟩=false/\wr.ownsRow (M+1) 82 4 u k (fH ((s.take k).map (bOf l)))/\OD wk wr/\M+1<=wr.heap.size)) (fun t _=>k'-(intOf t).toNat)
   case atStart=>exact⟨0,.slice none 0 0,OO _,rfl,jD ⟨by rw[ab T5.out];rfl,af T5.out 0,⟨by simp[fH],.inl ⟨rfl,rfl⟩⟩,Z6.out,Qr la.out.symm⟩⟩
   case round =>
    obtain⟨k,u,hk,rfl,hI⟩:=hrel;have Z:=hI.out.2.2.2.1;have X5:=hI.out.2.2.2.2
    by_cases kb:k<k'
    ·have U9:(k:Int)<(k':Int):=by omega
     obtain⟨x,hx⟩:∃x,s[k]?=some x:=⟨_,OH (by have:=H3.out;omega)⟩;have T1:=V7.out x (Pb hx);obtain⟨y0,y1⟩:=U6.out k x hx;have P':(s.take (k+1)).map (bOf l)=(s.take k).map (bOf l)++[bOf l x]:=xf hx;obtain⟨pv,j⟩:=x;simp only at y0 y1 T1;obtain⟨y,hy⟩:∃y,l[j]?=some y:=⟨_,OH (by rw[<-S'.out];exact T1)⟩;have X6:bOf l (pv,j)=⟨pv,y.tm,y.src,y.sq⟩:=by unfold bOf;rw[hy];rfl
     rw[X6]at P';obtain⟨be,oe,rfl,ve,ta,q0,q1,q2,q3,q4⟩:=ha.out j y hy;obtain⟨Ay,cy,rfl,-⟩:=ta;have Y4:be<w.heap.size:=OV w ⟨be,_,none⟩ q0;have G1:=wa.out om;have a':OD w wr:=(f'.out.trans (c'.out.mono f'.out.size)).trans (Z.mono (by have:=f'.out.size;have:=c'.out.size;omega));replace y0:=aa Z y0;replace y1:=aa Z y1;replace q0:=aa a' q0;replace q1:=aa a' q1;replace q2:=aa a' q2;replace q3:=aa a' q3;replace q4:=aa a' q4;obtain⟨ny,Y2⟩:∃n,n=y.vals.length:=⟨_,rfl⟩;rw[<-Y2]at q4;obtain⟨A4,c4,O2⟩:=bw hI.out.2.2.1;subst O2;have V3:gs<wr.heap.size:=by have:=Z.size;omega
     go_wp2_with fail;refine bV fun wj ej=>?_
     obtain⟨K,hK⟩:=jF wr.heap.size;have J:OD wr wj:=gb ej;have Z4:OC wj K 0 (OB pv):=jW ej hK;have K3:OC wj K 1 (OB (j:Int)):=jW ej hK;have o0:=aa J hI.out.1;have X9:wj.frozen? ⟨M,0,none⟩=false:=(World.frozen?_of_block (a:=⟨M,0,none⟩) (J.block M om)).trans hI.out.2.1;replace q0:=aa J q0;replace q1:=aa J q1;replace q2:=aa J q2;replace q3:=aa J q3;replace q4:=aa J q4;have Y9:=J.size;rw[<-hK];clear y0 y1;have y0:=Z4;have y1:=K3;clear Z4 K3;have T3:M<wj.heap.size:=by omega
     have cb:=OV wj ⟨K,_,none⟩ y0;have Xa:be<wj.heap.size:=OV wj ⟨be,_,none⟩ q0;have vb:(j:Int)<(nl:Int):=by omega
     have db:k<=99:=by have:=T6.out;have:=T7.out;omega
     obtain⟨pre,H0⟩:=jF ((s.take k).map (bOf l));rw[<-H0]at hI P';have ya:=jD P';have H':Hid (wj.ownsRow (M+1) 82 4 (.slice A4 k c4) k (fH pre)):=jD (aF hI.out.2.2.1 J);have S0:Hid ((Value.slice A4 k c4).ownBlock≠some M):=jD fun e=>by have:=(ao H'.out e).1;omega
     have U4:Hid ((Value.slice A4 k c4).ownBlock≠some K):=jD fun e=>by have:=(ao hI.out.2.2.1 e).2;omega
     have u':Hid ((Value.slice A4 k c4).ownBlock≠some be):=jD fun e=>by have:=(ao H'.out e).1;have:=f'.out.size;have:=c'.out.size;have:=C'.out;omega
     have T9:=jD (Z.trans (J.mono Z.size));have S5:Hid (M+1<=wj.heap.size):=jD om;clear hx T1 P' X6 hy Y2 H0 hI Z ej hK J a' Y4 G1 V3 Y9 X5;go_wp2_with fail;have J':∀W,wj.grownBy W (Value.slice A4 k c4).ownBlock->(fun W:World=>wj.grownBy W (Value.slice A4 k c4).ownBlock/\OC W M 0 (.slice A4 k c4)/\OC W K 0 (OB pv)/\OC W K 1 (OB (j:Int))/\OC W be (oe+j*5) (OB y.src)/\OC W be (oe+j*5+1) (OB y.sq)/\OC W be (oe+j*5+2) (OB y.ty)/\OC W be (oe+j*5+3) (OB y.tm)/\OC W be (oe+j*5+4) ((.slice Ay ny cy))) W:=fun W hg=>⟨hg,mF hg (S0.out) o0,mF hg (U4.out) y0,mF hg (U4.out) y1,mF hg (u'.out) q0,mF hg (u'.out) q1,mF hg (u'.out) q2,mF hg (u'.out) q3,mF hg (u'.out) q4⟩
     refine PM ?_;refine yr ((fun W:World=>wj.grownBy W (Value.slice A4 k c4).ownBlock/\W.cell? ⟨M,0,none⟩=some (.slice A4 k c4)/\W.cell? ⟨K,0,none⟩=some (OB pv)/\W.cell? ⟨K,1,none⟩=some (OB (j:Int))/\W.cell? ⟨be,oe+j*5,none⟩=some (OB y.src)/\W.cell? ⟨be,oe+j*5+1,none⟩=some (OB y.sq)/\W.cell? ⟨be,oe+j*5+2,none⟩=some (OB y.ty)/\W.cell? ⟨be,oe+j*5+3,none⟩=some (OB y.tm)/\W.cell? ⟨be,oe+j*5+4,none⟩=some ((.slice Ay ny cy)))) 13 kr (J' _ (aE (OK _ _).drew _)) (fun d'=>?_);refine tkP [0,1,2,3,4,5,6,7,8] ?_;refine nxP 9 (fun K hK=>?_)
     focus (go_simp;refine (nE _ _ _ _ _ _ _ _).mono ?_;rintro e w7 ⟨rfl,D'⟩;have g':OD wj w7:=ae (show OD wj _ by exact jB) D'.below;have Za:=g'.size)
     refine hK.out _ _ (J' _ (aE g' _)) (fun d'=>?_);clear hK K;refine tkP [10] ?_;refine nxP 11 (fun K hK=>?_)
     go_simp
     refine hK.out _ _ (J' _ (aE (ae g' (ay _ _)) _)) (fun d'=>?_);clear hK K;refine nxP 12 (fun K hK=>?_)
     focus ((try (change Oper.wp _ _ _ _ _ _));refine cU _ (.tmp 49) (.tmp 59) 56 rfl (M+1) 82 j0 _ 4 32 underlying56 V9 Aa ka X8 rfl dc (.slice A4 k c4) k (fH pre) jR (aF (aF H'.out g') (ay _ _)) (some ⟨w7.heap.size,0,none⟩) 1 1 [OB pv,OB y.tm,OB y.src,OB y.sq] jR (gk _ [OB pv,OB y.tm,OB y.src,OB y.sq] _ 1 4 _ jS rfl (by simp[Value.oneCell'])) (by unfold maxLen;omega) om (by simp;omega) ?_;intro v8 w8 i' B4 A1;obtain⟨A8,c8,W7⟩:=bw i';subst W7;have h':wj.grownBy w8 (Value.slice A4 k c4).ownBlock:=dt (aE (ae g' (ay _ _)) _) B4;have o8:w8.cell? ⟨M,0,none⟩=some (.slice A4 k c4):=mF h' S0.out o0;have f8:w8.frozen? ⟨M,0,none⟩=false:=(World.frozen?_of_block (a:=⟨M,0,none⟩) (h'.block M T3 (fun e=>S0.out e.symm))).trans X9)
     refine hK.out _ _ (J' _ h') (fun d'=>?_);clear hK K
     focus (refine xq (fuel:=1) (L:=(true::true::true::true::true::true::true::true::true::true::true::true::true::true::false::[]).toArray) (v:=?_) rfl rfl kr kr kr kr kr ?_ ?_;rotate_left 1;(focus (intro wS;go_simp<;>with_reducible rfl));simp only[O6,O4])
     refine zr (i:=14) (fuel:=0) (L:=(true::true::true::true::true::true::true::true::true::true::true::true::true::true::true::[]).toArray) rfl kr kr kr kr (fun K hK=>?_)
     go_simp
     refine hK.out _ _ (Rz ?_);clear hK K;rotate_left 1;have x':w8.ownsRow (M+1) 82 4 (.slice A8 (k+1) c8) (k+1) (fH ((s.take (k+1)).map (bOf l))):=by
      rw[ya.out];unfold fH;rw[QD];exact i'
     have Z':=jD x';have Ta:=jD (T9.out.trans (aB h' (by have:=S5.out;have:=C'.out;omega) (fun g hg=>by have:=(ao H'.out hg).1;have:=C'.out;omega)));have W9:M+1<=w8.heap.size:=by have:=h'.size;have:=S5.out;omega
     clear x' i' B4 A1 d';go_wp2_with fail
     go_roundw
     case rel =>
      refine⟨k+1,.slice A8 (k+1) c8,by omega,by go_num,jD ⟨?_,?_,aY Z'.out (fun g hg=>Qq w8 ⟨M,0,none⟩ _ g (by have:=(ao Z'.out hg).1;simp only;omega)),aj Ta.out (by have:=C'.out;omega) _,jQ W9⟩⟩
      ·simp[go_sem,o8]
      ·simp[go_sem,f8]
     case measure=>simp[intOf];omega
    ·have U9:¬(k:Int)<(k':Int):=by omega
     have Q':k=k':=by omega
     have n':=hI.out;rw[Q',H3.out,Pp]at n';have HI:=jD n';obtain⟨A4,c4,O2⟩:=bw n'.2.2.1;subst O2;have o0:=n'.1;have S4:Hid (cP wr (.slice A4 s.length c4) (mOf l s)):=jD (Gv (l:=(mOf l s)) (by unfold mOf;rw[OL];exact n'.2.2.1));have Y0:=jD Z;have bb:=Z.size;have U':=jD (fun(g:Nat)(e:(Value.slice A4 s.length c4).ownBlock=some g)=>ao HI.out.2.2.1 e);have Z9:Hid ((L.take (k5+1)).map (mOf l)=(L.take k5).map (mOf l)++[mOf l s]):=jD (xf Z8.out);have Wa:ms.length<=4096:=by have:=C1.out;omega
     obtain⟨nq,M3⟩:∃n,n=s.length:=⟨_,rfl⟩;rw[<-M3]at o0 S4 U';have T3:M<wr.heap.size:=by omega
     clear hI n' Q' Z M3;go_wp2_with (at_builtin;refine fb _ rfl (.tmp 63) (.tmp 65) 37 rfl w5.heap.size 58 i0 _ 1 24 underlying37 Z7 va S9 da rfl dc u10 ms.length (ms.map (·.2)) rfl (aF (MW.grow E'.out.2.1 Y0.out).row (ay _ _)) (some ⟨wr.heap.size,0,none⟩) 1 1 [.slice A4 nq c4] rfl (gk _ [.slice A4 nq c4] _ 1 1 _ jS rfl (by simp[Value.oneCell'])) (by unfold maxLen;omega) om (by have:=c'.out.size;simp;omega) ?_;intro v7 w7 y' D' t');have X3:=MW.app (MW.grow E'.out.2.1 Y0.out) S4.out (fun g V1=>by
      have h1:=U'.out g V1;have h2:=C'.out;have h3:=c'.out.size;exact⟨by omega,h1.2,fun e=>by have:=(ao E'.out.2.1.row e.symm).2;omega⟩) y' D' t'
     have W6:OD w5 w7:=((c'.out.trans (Y0.out.mono c'.out.size)).trans ((ay wr _).mono (by have:=c'.out.size;omega))).trans (aB D' (by have:=c'.out.size;simp;omega) (fun g h=>(ao E'.out.2.1.row h).1));have H7:=jD X3;have ea:=jD W6;clear X3 y' D' t' W6;go_wp2_with fail
     go_roundw
     case rel =>
      refine⟨k5+1,_,by omega,by go_num,?_,jD ⟨?_,H7.out,ea.out⟩⟩
      ·rw[OM,C1.out];rfl
      ·rw[Pq,E'.out.1,Z9.out];rfl
     case measure=>simp[intOf];omega
  ·have S6:¬(k5:Int)<(n5:Int):=by omega
   have Q':k5=n5:=by omega
   subst Q';have B':=p'.out;rw[P4.out,Pp]at B';have Z2:=jD B'.1;have Z0:=jD B'.2.1;have wb:=jD I;have A':=B'.2.1.row;have Y1:Hid (OD w wr):=jD (f'.out.trans (I.mono f'.out.size));clear p' B' I;rcases CN A' with ⟨hv,h0⟩|⟨g,cap,spare,hv,Y3,hh,B3,X4,hl2,hx2⟩
   ·have H6:ms=[]:=Po h0;subst hv;have H9:=jD H6;clear h0 H6 A';go_wp2_with fail;refine (mK _).mono ?_;rintro e w6 ⟨rfl,W3⟩;have K0:=jD (ae Y1.out W3);clear W3;go_wp2_with fail;refine OJ (v:=.tuple #[.slice none 0 0,OB 0]) (by simp[results,results55,go_sem]) rfl ⟨K0.out,.inr (.inr ⟨q'.out.symm,j'.out.symm,_,[],rfl,⟨⟨none,0,rfl,OI _,OO _,fun k e he=>by simp at he⟩,fun e he=>by simp at he⟩,?_⟩)⟩;exact sy HG.out (ji j'.out.symm) (es:=[]) (es':=[]) (by have h:=Z2.out;rw[H9.out]at h;rw[<-Z3.out];exact h) (List.Perm.refl _) List.Pairwise.nil
   ·subst hv;have r':∀e∈ms,MOk wr g e:=fun e he=>⟨(Z0.out.bnds e he).1,fun e1=>((Z0.out.bnds e he).2 g e1).2.2 rfl⟩
    have T8:=jD (mX ms g cap spare wr hh (by have:=C1.out;omega) r');have xa:=jD r';have yb:=aX hh;have G':=jD (And.intro Y3 (And.intro B3 X4));clear A' hh Y3 hl2 hx2 r' B3 X4;go_wp2_with fail;refine T8.out.mono ?_;rintro e w6 ⟨rfl,es',F',hp,V0,B5,hls,l'⟩;have Z1:es'.length=ms.length:=hp.length_eq;have K0:Hid (OD w w6):=jD (Y1.out.trans (aB l' Y1.out.size (fun k e=>by injection e with e;have:=G'.out.1;have:=f'.out.size;omega)));have Y6:Hid (MatsNew w.heap.size w6 (.slice (some ⟨g,0,none⟩) ms.length cap) es'):=jD (by
     have tb:=l'.size;refine⟨⟨_,cap,by rw[Z1],by rw[Z1];exact G'.out.2.1,G'.out.2.2,fun k e he=>⟨g,0,rfl,by have:=G'.out.1;have:=f'.out.size;omega,by omega,?_⟩⟩,fun e he=>?_⟩
     ·rw[Pd,ab B5];exact Dz he F'
     ·have h1:=xa.out e (hp.mem_iff.1 he);have h2:=(Z0.out.bnds e (hp.mem_iff.1 he)).2;refine⟨rK h1.1 fun b hb hv=>l'.block b hb (fun e1=>h1.2 (by rw[hv,e1])),fun g1 V1=>?_⟩;have:=h2 g1 V1;have:=f'.out.size;exact⟨by omega,by omega⟩)
    have S7:Hid (es'.map (·.1)=dF l x):=jD (sy HG.out (ji j'.out.symm) (by rw[<-Z3.out];exact Z2.out) hp (by first|exact V0|exact V0.imp fun {a b} h=>by omega));clear hp V0 B5 hls l' Z1;go_wp2;exact OJ (v:=.tuple #[.slice (some ⟨g,0,none⟩) ms.length cap,OB 0]) (by simp[results,results55,go_sem]) rfl ⟨K0.out,.inr (.inr ⟨q'.out.symm,j'.out.symm,_,es',rfl,Y6.out,S7.out⟩)⟩
end
end Go.Proofs.YteemngnialjaiaaGreatDoor
