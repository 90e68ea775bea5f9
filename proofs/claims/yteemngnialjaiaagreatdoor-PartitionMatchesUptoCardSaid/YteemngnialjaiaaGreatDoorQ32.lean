/- Part. -/
import Derived.Test.YteemngnialjaiaaGreatDoorQ31
import Derived.Test.YteemngnialjaiaaGreatDoorQ30
set_option maxRecDepth 100000
set_option maxHeartbeats 16000000
set_option linter.unusedVariables false
set_option linter.unusedSimpArgs false
namespace Go.Proofs.YteemngnialjaiaaGreatDoor
open Go.Proofs.Tryz Go.RowKit
variable {w W:World}{D k i b a j:Nat}{l:List Evt}{e:Exit}{y:Evt}{A P:Prop}{L:List Bs}{s:Bs}{X:Ob}{ar:List Pt}{x:Pt}{f:Fnd}{fs:List Fnd}{es:Nat->List Tr}{τ:Sg}{v:Value}{I:Tr}
def NdsRet(W0 w:World)(D:Nat)(l:List Pt)(e:Ending)(W:World):Prop :=
 ∃v xs,e=.returned v/\W.ownsRow w.heap.size 31 14 v l.length xs/\Means (ra D) 14 W0 xs l/\OD w W
theorem NdsRet.is{W0:World}{l:List Pt}{e:Ending}(h:NdsRet W0 w D l e W)(Z:OD W0 w):∃v,e=.returned v/\dg D W v l/\OD w W:=by
 obtain⟨v,xs,rfl,h1,J,I⟩:=h;exact⟨v,rfl,fj J (ae Z I) h1,I⟩
def rV(x:Ex):Bool:=decide (aC x<=200)&&decide (bD x<=100)
def wi(x:Pt):Bool:=decide (ptN x<=150)&&(decide (ptD x<=60)&&(aV x).all (fun y=>rV y.cond))
theorem zt{l:List Pt}{y:Pt}(h:l[k]?=some y)(v s:Int):cR v s (l.drop k)=((!ee y.op || decide (y.vr=v))&&(!iq y.op || decide (y.sc=s))&&cR (if ee y.op then v+1 else v) (if iq y.op then s+1 else s) (l.drop (k+1))):=by
 obtain⟨h1,rfl⟩:=List.getElem?_eq_some_iff.1 h;rw[PE h1,cR]
section
section
variable (gl : Nat -> Option (List Tr))
abbrev vF(l:List Pt):Tr:=.lst false (bm l)
def AQ(l:List Evt)(x:Pt):Prop:=∀b i,BOk i b->i<=l.length->PuC prog gl 65 [ptT x (bm x.args),bE l,bsT b,tI i] (aL (bl l x b i))
abbrev fld(A L:List Bs):List Bs:=L.foldl cN A
theorem pz(A L:List Bs):(fld A L).length<=A.length+L.length:=by
 induction L generalizing A with
 | nil=>simp
 | cons s L I =>
  have:=I (cN A s);have h:(cN A s).length<=A.length+1:=by unfold cN;split<;>simp
  simp only[fld,PR,Pk]at this ⊢;omega
theorem qz{A:List Bs}(h:L[k]?=some s):fld A (L.take (k+1))=cN (fld A (L.take k)) s:=by
 rw[PW,h];simp[fld,Qm]
theorem ko{fr:Fr}(Z:L.length<=16777216)(h1:cN L s=L->LoopP prog gl 2 wiC (wiI X L s fr (0:Nat)) .ret (wiR X L fr)->P)(J:cN L s=L++[s]->LoopP prog gl 2 wiC (wiI X L s fr (0:Nat)) (.exit 0) (wiE X L s fr)->P):P:=by
 have h:=withL gl X L s fr Z
 cases I:L.contains s with
 | true=>exact h1 (by unfold cN;rw[OG I]) (h.1 I)
 | false=>exact J (by unfold cN;rw[I];rfl) (h.2 I)
theorem ap1(h:L.length<=16777216):(L.map bsT).length+1<=maxLen/\((L.map bsT).length+1)*24<=140737488355328:=by rw[aQ,OL];omega
abbrev alS(ar:List Pt)(l:List Evt)(b:Bs)(i:Int)(k:Int):List (Nat × V):=[(0,.p (vF ar)),(1,.p (bE l)),(2,.p (bsT b)),(3,.p (tI i)),(9,.ref 1),(10,.p (tI k))]
noncomputable def alI(ar:List Pt)(l:List Evt)(b:Bs)(i k:Int)(A:List Bs):Sg:=⟨roB dum A,[⟨40,alS ar l b i k,none,[]⟩],[]⟩
noncomputable def alF(ar:List Pt)(l:List Evt)(b:Bs)(i k:Int)(S:List Bs)(j:Int):Fr:=⟨40,alS ar l b i k++[(11,.p (aL S)),(12,.p (tI j))],none,[]⟩
noncomputable def alE(A:List Bs):Sg:=⟨roB dum A,[⟨40,[(9,.ref 1)],none,[]⟩],[]⟩
noncomputable def alC:Code:=lpb prog 129 [1,1,0,1,0]
noncomputable def alD:Code:=lpb prog 129 [1,1,0,1,0,0,1,0,0,1,1,0]
theorem altL1(ar:List Pt)(l:List Evt)(b:Bs)(i k:Nat)(A S:List Bs)(hn:A.length+S.length<=16777216) :
  LoopP prog gl 0 alD ⟨roB dum A,[alF ar l b i k S (0:Nat)],[]⟩ (.exit 2) (alI ar l b i k (fld A S)):=by
 have e:fld A (S.take S.length)=fld A S:=by rw[Pp]
 rw[<-e];refine LoopP.each (fun j=>⟨roB dum (fld A (S.take j)),[alF ar l b i k S j],[]⟩) S.length (fun j J h=>?_) ?_
 ·have hs:=OH J;have hf:=pz A (S.take j);have hm:(fld A (S.take j)).length<=16777216:=by simp at hf;omega
  rw[qz hs]at h;generalize S[j]=s at hs h;generalize fld A (S.take j)=B at h hm;rw[<-wr1 J om]at h;have c1:=ltM bsT J;have ce:=elM bsT hs;have Z:=ap1 hm;refine ko gl (X:=dum) (L:=B) (s:=s) (fr:=alF ar l b i k S j) hm (fun e I=>?_) fun e I=>?_
  ·rw[e]at h;exact LoopP.next [bt,.el (bsT s),.inl [.lf [[0,1,5],[0,1,2,3,9,10,11,12]] .ret (wiR dum B (alF ar l b i k S j))]] [0,1,2,3,9,10,11,12] [0,1] rfl h (aj4 c1 ce (k0 j) I tv)
  ·rw[e,roB,Pq]at h;exact LoopP.next [bt,.el (bsT s),.inl [.lf [[0,1,5],[0,1,2,3,9,10,11,12]] (.exit 0) (wiE dum B s (alF ar l b i k S j)),.ap]] [0,1,2,3,9,10,11,12] [0,2] rfl h (aj7 c1 ce (k0 j) I yT Z.1 Z.2 tv) [.ren 2 1]
 ·exact LoopP.stop [bf] [0,1,2,3,9,10] [0,1] jS (ai (dI bsT S) tv)
theorem ptM(h:ar[k]?=some x):(bm ar)[((k:Int)).toNat]?=some (ptT x (bm x.args)):=by rw[dL,<-gd];exact elM bP h
theorem ltP(h:k<ar.length):decide ((k:Int)<((bm ar).length:Nat))=true:=by rw[dL];exact ltM bP h
theorem ltPn(ar:List Pt):decide ((ar.length:Int)<((bm ar).length:Nat))=false:=by rw[dL];exact dI bP ar
theorem lZ{V:List Int}{n:Nat}(I:cX V n)(h:∀s∈L,∃i,SetV V i n s):(bO L).length<=1048576:=yN I (bG L) fun s hs=>h s (aW.1 hs)
theorem gF{V:List Int}{n:Nat}(I:cX V n)(h:FndOk V n f)(b:Bs)(i:Nat):(f b i).length<=1048576:=yN I (h.once b i) fun _ hs=>⟨i,h.set hs⟩
theorem alt_t{V:List Int}(hBd:cX V l.length)(ar:List Pt)(I:∀a∈ar,FndOk V l.length (bl l a))(J:∀a∈ar,AQ gl l a)(b:Bs)(i:Nat)(hb:BOk i b)(hi:i<=l.length)(a':ar.length<=1048576) :
  PuC prog gl 129 [vF ar,bE l,bsT b,tI i] (aL (jI (aR l ar) b i)):=by
 have e:jI (aR l ar) b i=fld [] ((ar.take ar.length).flatMap fun a=>bl l a b i):=by rw[Pp,jI,kN,R5];rfl
 have hL:LoopP prog gl 0 alC (alI ar l b i (0:Nat) []) (.exit 0) (alE (jI (aR l ar) b i)):=by
  rw[e];refine LoopP.each (fun k=>alI ar l b i k (fld [] ((ar.take k).flatMap fun a=>bl l a b i))) ar.length (fun k hk h=>?_) ?_
  ·have Z:=OH hk;have hm:=OX hk;have h1:(fld [] ((ar.take k).flatMap fun a=>bl l a b i)).length<=1048576:=lZ hBd fun s hs=>by
    obtain⟨a,ha,hs⟩:=List.mem_flatMap.1 hs;exact⟨i,(I a (Ra ha)).set hs⟩
   have h2:=gF hBd (I _ hm) b i;have hp:=J _ hm b i hb hi;rw[PW,Z]at h;simp only[QG,QD,Se,fld,Qm]at h;have hl:=altL1 gl ar l b i k (fld [] ((ar.take k).flatMap fun a=>bl l a b i)) (bl l ar[k] b i) om;rw[<-wr1 hk om]at h;exact LoopP.next [bt,.el (ptT ar[k] (bm ar[k].args)),.ca (aL (bl l ar[k] b i)),.lo [0,1,2,3,9,10,11,12] (.exit 2) (alI ar l b i k (fld (fld [] ((ar.take k).flatMap fun a=>bl l a b i)) (bl l ar[k] b i)))] [0,1,2,3,9,10] [0,1] rfl h (aj5 (ltP hk) (ptM Z) (k0 k) hp hl tv)
  ·exact LoopP.stop [bf] [9] [0,1] jS (ai (ltPn ar) tv)
 exact aq [.lo [0,1,2,3,9,10] (.exit 0) (alE (jI (aR l ar) b i))] (ai (LoopP.tns ⟨[],[⟨40,[(0,.p (vF ar)),(1,.p (bE l)),(2,.p (bsT b)),(3,.p (tI i)),(9,.p (.at (.slice none 0 0))),(10,.p (tI (0:Nat)))],none,[]⟩],[]⟩ [.own 9 1 140 1,.dm 0] hL) tv)
theorem IF:∀{fs:List Fnd},(∀f∈fs,kF f)->kF (dT fs)
 | [],_=>fun b i=>Rr
 | f::r,h=>fun b i=>by
  rw[dT]
  split
  ·exact h f OR b i
  ·exact bG _
theorem Lv{V:List Int}{n:Nat}(h:∀f∈fs,FndOk V n f):FndOk V n (dT fs):=⟨AS fun f hf=>(h f hf).ok,vq fun f hf=>(h f hf).var,IF fun f hf=>(h f hf).once⟩
abbrev sqS(ar:List Pt)(l:List Evt)(b:Bs)(S:List Bs)(k:Int):List (Nat × V):=[(0,.p (vF ar)),(1,.p (bE l)),(2,.p (bsT b)),(9,.p (aL S)),(10,.ref 1),(11,.p (tI k))]
noncomputable def sqI(ar:List Pt)(l:List Evt)(b:Bs)(S:List Bs)(k:Int)(A:List Bs):Sg:=⟨roB dum A,[⟨66,sqS ar l b S k,none,[]⟩],[]⟩
noncomputable def sqF(ar:List Pt)(l:List Evt)(b:Bs)(S:List Bs)(k:Int)(s:Bs)(R:List Bs)(j:Int):Fr:=⟨66,sqS ar l b S k++[(12,.p (bsT s)),(13,.p (aL R)),(14,.p (tI j))],none,[]⟩
noncomputable def sqE(A:List Bs):Sg:=⟨roB dum A,[⟨66,[(10,.ref 1)],none,[]⟩],[]⟩
noncomputable def sqC:Code:=lpb prog 128 [1,1,1,1,0,1,0]
noncomputable def sqD:Code:=lpb prog 128 [1,1,1,1,0,1,0,0,1,0,0,1,1,1,0]
theorem seqL1(ar:List Pt)(l:List Evt)(b:Bs)(S:List Bs)(k:Nat)(A:List Bs)(s:Bs)(R:List Bs)(hn:A.length+R.length<=16777216)(hR:∀y∈R,s.length+y.length<=1048576) :
  LoopP prog gl 0 sqD ⟨roB dum A,[sqF ar l b S k s R (0:Nat)],[]⟩ (.exit 2) (sqI ar l b S k (fld A (R.map (ah s)))):=by
 have e:fld A ((R.map (ah s)).take R.length)=fld A (R.map (ah s)):=by rw[QK jS]
 rw[<-e];refine LoopP.each (fun j=>⟨roB dum (fld A ((R.map (ah s)).take j)),[sqF ar l b S k s R j],[]⟩) R.length (fun j I h=>?_) ?_
 ·have hs:=OH I;have J:=rg gl s R[j] (hR _ (OX I));have hf:=pz A ((R.map (ah s)).take j);have hm:(fld A ((R.map (ah s)).take j)).length<=16777216:=by simp at hf;omega
  rw[qz (show (R.map (ah s))[j]?=some (ah s R[j]) by simp[I])]at h;generalize R[j]=y at hs h J;generalize fld A ((R.map (ah s)).take j)=B at h hm;rw[<-wr1 I om]at h;have c1:=ltM bsT I;have ce:=elM bsT hs;have ha:=ap1 hm;refine ko gl (X:=dum) (L:=B) (s:=ah s y) (fr:=sqF ar l b S k s R j) hm (fun e Z=>?_) fun e Z=>?_
  ·rw[e]at h;exact LoopP.next [bt,.el (bsT y),.ca (bsT (ah s y)),.inl [.lf [[0,1,5],[0,1,2,9,10,11,12,13,14]] .ret (wiR dum B (sqF ar l b S k s R j))]] [0,1,2,9,10,11,12,13,14] [0,1] rfl h (aj5 c1 ce (k0 j) J Z tv)
  ·rw[e,roB,Pq]at h;exact LoopP.next [bt,.el (bsT y),.ca (bsT (ah s y)),.inl [.lf [[0,1,5],[0,1,2,9,10,11,12,13,14]] (.exit 0) (wiE dum B (ah s y) (sqF ar l b S k s R j)),.ap]] [0,1,2,9,10,11,12,13,14] [0,2] rfl h (aj8 c1 ce (k0 j) J Z yT ha.1 ha.2 tv) [.ren 2 1]
 ·exact LoopP.stop [bf] [0,1,2,9,10,11] [0,1] jS (ai (dI bsT R) tv)
theorem pt4(x:Pt)(r:List Pt):(0:Int)<=1/\(1:Int)<=((bm (x::r)).length:Nat)/\((bm (x::r)).length:Int)<=((bm (x::r)).length:Nat)/\((bm (x::r)).all fun t=>t.cells.length==14)=true:=by
 rw[dL];exact CG bP x r 14 fun x=>by rw[gd];rfl
theorem hdP(x:Pt)(r:List Pt):(bm (x::r))[(0:Int).toNat]?=some (ptT x (bm x.args)):=by rw[<-gd];rfl
theorem wd{n:Nat}(h:SetOk i n s):∃z,s.getLast?=some z/\z.2=aK s:=by
 cases I:s.getLast? with
 | none=>exact absurd (List.getLast?_eq_none_iff.1 I) h.1
 | some z=>exact⟨z,rfl,by unfold aK;rw[I];rfl⟩
theorem Me{V:List Int}{l:List Evt}(hBd:cX V l.length):∀(ar:List Pt),ar≠[]->(∀a∈ar,FndOk V l.length (bl l a))->(∀a∈ar,AQ gl l a)->∀(b:Bs)(i:Nat),BOk i b->i<=l.length ->
  PuC prog gl 128 [vF ar,bE l,bsT b,tI i] (aL (dT (aR l ar) b i))
 | [],h,_,_=>absurd rfl h
 | x::r,_,hfn,hsub=>fun b i hb hi=>by
  have hp:=hsub x OR b i hb hi;have a':=hfn x OR
  by_cases hr:r=[]
  ·subst hr;have e:dT (aR l [x]) b i=bl l x b i:=by rw[aR,aR,dT];rfl
   rw[e];exact aq [.el (ptT x (bm x.args)),.ca (aL (bl l x b i)),bt] (aj4 (hdP x []) i0 hp yT tv)
  have i':=hb.len;have l':=hBd.len;have c':=Me hBd r hr (fun a ha=>hfn a (OS _ ha)) fun a ha=>hsub a (OS _ ha)
  have J:FndOk V l.length (dT (aR l r)):=Lv fun f hf=>by rw[kN]at hf;obtain⟨a,ha,rfl⟩:=List.mem_map.1 hf;exact hfn a (OS _ ha)
  have g1:(((bm (x::r)).length:Int)==1)=false:=by
   rw[dL,OL];have:=List.length_pos_iff.2 hr;simp only[Pk,PA];omega
  have e:dT (aR l (x::r)) b i=fld [] (((bl l x b i).take (bl l x b i).length).flatMap fun s=>(dT (aR l r) (ah b s) (aK s+1)).map (ah s)):=by rw[Pp,aR,En (II hr)];rfl
  have hS:∀s∈bl l x b i,SetV V i l.length s:=fun s hs=>a'.set hs
  have h':=gF hBd a' b i;generalize bl l x b i=S at *;have hL:LoopP prog gl 0 sqC (sqI (x::r) l b S (0:Nat) []) (.exit 0) (sqE (dT (aR l (x::r)) b i)):=by
   rw[e];refine LoopP.each (fun k=>sqI (x::r) l b S k (fld [] ((S.take k).flatMap fun s=>(dT (aR l r) (ah b s) (aK s+1)).map (ah s)))) S.length (fun k hk h=>?_) ?_
   ·have hs:=OH hk;have I:=hS _ (OX hk);have h1:(fld [] ((S.take k).flatMap fun s=>(dT (aR l r) (ah b s) (aK s+1)).map (ah s))).length<=1048576:=lZ hBd fun t ht=>by
     obtain⟨s,hs,ht⟩:=List.mem_flatMap.1 ht;obtain⟨y,hy,rfl⟩:=List.mem_map.1 ht;exact⟨i,(hS s (Ra hs)).behind (J.set hy)⟩
    rw[PW,hs]at h;simp only[QG,QD,Se,fld,Qm]at h;generalize S[k]=s at hs I h;obtain⟨z,hz,k'⟩:=wd I.ok;have g':=I.ok.last;have j':=I.n63;have Z:=c' (ah b s) (aK s+1) (I.merge hb hBd) om;have h2:=gF hBd J (ah b s) (aK s+1);have f':∀y∈dT (aR l r) (ah b s) (aK s+1),s.length+y.length<=1048576:=fun y hy=>by have:=(J.set hy).n63;omega
    generalize dT (aR l r) (ah b s) (aK s+1)=R at *;have hl:=seqL1 gl (x::r) l b S k (fld [] ((S.take k).flatMap fun s=>(dT (aR l r) (ah b s) (aK s+1)).map (ah s))) s R om f';rw[<-wr1 hk om]at h;have d':=Dc bT hz om;have ew:((aK s+1:Nat):Int)=IntKind.i64.wrap ((z.2:Int)+1):=by rw[Pv];omega
    rw[ew]at Z;exact LoopP.next [bt,.el (bsT s),.sl,.ca (bsT (ah b s)),.el (bT z),.ca (aL R),.lo [0,1,2,9,10,11,12,13,14] (.exit 2) (sqI (x::r) l b S k (fld (fld [] ((S.take k).flatMap fun s=>(dT (aR l r) (ah b s) (aK s+1)).map (ah s))) (R.map (ah s))))] [0,1,2,9,10,11] [0,1] rfl h
     (aj3 (ltM bsT hk) (elM bsT hs) (k0 k) (ai4 (pt4 x r) (aj5 (rg gl b s om) d'.1 d'.2 Z hl tv)))
   ·exact LoopP.stop [bf] [10] [0,1] jS (ai (dI bsT S) tv)
  exact aq [.el (ptT x (bm x.args)),.ca (aL S),bf,.lo [0,1,2,9,10,11] (.exit 0) (sqE (dT (aR l (x::r)) b i))] (aj5 (hdP x r) i0 hp g1 (LoopP.tns ⟨[],[⟨66,[(0,.p (vF (x::r))),(1,.p (bE l)),(2,.p (bsT b)),(9,.p (aL S)),(10,.p (.at (.slice none 0 0))),(11,.p (tI (0:Nat)))],none,[]⟩],[]⟩ [.own 10 1 140 1,.dm 0] hL) tv)
end
end
section
section
variable (gl : Nat -> Option (List Tr))
abbrev apm(x:Bs)(S:List Bs):List Bs:=(S.filter (eD x)).map (ah x)
abbrev aoS(ar:List Pt)(l:List Evt)(b:Bs)(i:Int)(O:List Bs)(k:Int):List (Nat × V):=[(0,.p (vF ar)),(1,.p (bE l)),(2,.p (bsT b)),(3,.p (tI i)),(9,.p (aL O)),(10,.p (tI k))]
noncomputable def aoI(ar:List Pt)(l:List Evt)(b:Bs)(i:Int)(O:List Bs)(k:Int):Sg:=⟨[(0,dum),(1,dum)],[⟨70,aoS ar l b i O k,none,[]⟩],[]⟩
noncomputable def aoM(ar:List Pt)(l:List Evt)(b:Bs)(i:Int)(O:List Bs)(k:Int)(S:List Bs)(m:Int)(A:List Bs):Sg:=⟨roB dum A,[⟨70,aoS ar l b i O k++[(11,.p (aL S)),(12,.ref 1),(13,.p (tI m))],none,[]⟩],[]⟩
noncomputable def aoN(ar:List Pt)(l:List Evt)(b:Bs)(i:Int)(O:List Bs)(k:Int)(S:List Bs)(m j:Int)(A:List Bs):Sg:=⟨roB dum A,[⟨70,aoS ar l b i O k++[(11,.p (aL S)),(12,.ref 1),(13,.p (tI m)),(14,.p (tI j))],none,[]⟩],[]⟩
noncomputable def aoE(O:List Bs):Sg:=⟨[(0,dum),(1,dum)],[⟨70,[(9,.p (aL O))],none,[]⟩],[]⟩
noncomputable def aoC:Code:=lpb prog 130 [1,1,0,1,0]
noncomputable def aoD:Code:=lpb prog 130 [1,1,0,1,0,0,1,0,0,1,1,0,1,0]
noncomputable def aoG:Code:=lpb prog 130 [1,1,0,1,0,0,1,0,0,1,1,0,1,0,0,1,0,0,1,0]
theorem allL1(ar:List Pt)(l:List Evt)(b:Bs)(i k m:Nat)(O S A:List Bs)(x:Bs)(hx:O[m]?=some x)(hn:A.length+S.length<=16777216)(c':x.length<=524288)(hR:∀y∈S,y.length<=524288) :
  LoopP prog gl 0 aoG (aoN ar l b i O k S m (0:Nat) A) (.exit 4) (aoM ar l b i O k S m (fld A (apm x S))):=by
 have e:fld A (apm x (S.take S.length))=fld A (apm x S):=by rw[Pp]
 rw[<-e];refine LoopP.each (fun j=>aoN ar l b i O k S m j (fld A (apm x (S.take j)))) S.length (fun j Z h=>?_) ?_
 ·have hs:=OH Z;have a':=hR _ (OX Z);have hf:=pz A (apm x (S.take j));have hg:(apm x (S.take j)).length<=S.length:=by rw[OL];exact OP (QF ..) (by simp;omega)
  have hm:(fld A (apm x (S.take j))).length<=16777216:=by omega
  rw[PW,hs]at h;simp only[apm,QG,Rs,Pq,fld,Qm]at h;generalize S[j]=y at hs h a';have I:=KN gl x y om om;have ht:=rg gl x y om;rw[<-wr1 Z om]at h;have c1:=ltM bsT Z;have ce:=elM bsT hs;have J:=elM bsT hx;have ha:=ap1 hm
  cases hq:eD x y with
  | false =>
   rw[hq]at I;simp only[Sf,hq,List.filter_nil,P6,RT]at h;exact LoopP.next [bt,.el (bsT x),.el (bsT y),.ca (tB false),bf] [0,1,2,3,9,10,11,12,13,14] [0,1] rfl h (aj7 c1 J (k0 m) ce (k0 j) I yF tv)
  | true =>
   rw[hq]at I;simp only[Sf,hq,List.filter_nil,Ps,OU,P6,PR,RT]at h;refine ko gl (X:=dum) (L:=fld A (apm x (S.take j))) (s:=ah x y) (fr:=⟨70,[],none,[]⟩) hm (fun e hl=>?_) fun e hl=>?_
   ·rw[e]at h;exact LoopP.next [bt,.el (bsT x),.el (bsT y),.ca (tB true),bt,.el (bsT x),.el (bsT y),.ca (bsT (ah x y)),.inl [.lf [[0,1,5],[]] .ret (wiR dum (fld A (apm x (S.take j))) ⟨70,[],none,[]⟩)]] [0,1,2,3,9,10,11,12,13,14] [0,1] rfl h
     (aj8 c1 J (k0 m) ce (k0 j) I yT J (aj5 (k0 m) ce (k0 j) ht hl tv))
   ·rw[e]at h;unfold aoN roB at h;rw[Pq]at h;exact LoopP.next [bt,.el (bsT x),.el (bsT y),.ca (tB true),bt,.el (bsT x),.el (bsT y),.ca (bsT (ah x y)),.inl [.lf [[0,1,5],[]] (.exit 0) (wiE dum (fld A (apm x (S.take j))) (ah x y) ⟨70,[],none,[]⟩),.ap]] [0,1,2,3,9,10,11,12,13,14] [0,2] rfl h
     (aj8 c1 J (k0 m) ce (k0 j) I yT J (aj8 (k0 m) ce (k0 j) ht hl yT ha.1 ha.2 tv)) [.ren 2 1]
 ·exact LoopP.stop [bf] [0,1,2,3,9,10,11,12,13] [0,1] jS (ai (dI bsT S) tv)
noncomputable def aoX(ar:List Pt)(l:List Evt)(b:Bs)(i:Int)(O:List Bs)(k:Int)(A:List Bs):Sg:=⟨roB dum A,[⟨70,aoS ar l b i O k++[(12,.ref 1)],none,[]⟩],[]⟩
theorem yj{V:List Int}{n:Nat}(I:cX V n){O S:List Bs}(hO:∀s∈O,SetV V i n s)(h:∀s∈S,SetV V i n s)(m:Nat):(fld [] ((O.take m).flatMap fun x=>apm x S)).length<=1048576 :=
 lZ I fun s hs=>⟨i,xT (fun s hs=>hO s (Ra hs)) h s (aW.2 hs)⟩
theorem allL2{V:List Int}(hBd:cX V l.length)(ar:List Pt)(b:Bs)(i k:Nat)(O S:List Bs)(hO:∀s∈O,SetV V i l.length s)(Z:∀s∈S,SetV V i l.length s)(c':O.length<=1048576)(a':S.length<=1048576) :
  LoopP prog gl 0 aoD (aoM ar l b i O k S (0:Nat) []) (.exit 2) (aoX ar l b i O k (fO O S)):=by
 have d':=hBd.len;have e:fld [] ((O.take O.length).flatMap fun x=>apm x S)=fO O S:=by rw[Pp];rfl
 rw[<-e];refine LoopP.each (fun m=>aoM ar l b i O k S m (fld [] ((O.take m).flatMap fun x=>apm x S))) O.length (fun m hm h=>?_) ?_
 ·have I:=OH hm;have J:=(hO _ (OX hm)).n63;have h1:=yj hBd hO Z m;rw[PW,I]at h;simp only[QG,QD,Se,fld,Qm]at h;generalize O[m]=x at I J h;have hl:=allL1 gl ar l b i k m O S (fld [] ((O.take m).flatMap fun x=>apm x S)) x I om om fun y hy=>by have:=(Z y hy).n63;omega
  rw[<-wr1 hm om]at h;exact LoopP.next [bt,.lo [0,1,2,3,9,10,11,12,13,14] (.exit 4) (aoM ar l b i O k S m (fld (fld [] ((O.take m).flatMap fun x=>apm x S)) (apm x S)))] [0,1,2,3,9,10,11,12,13] [0,1] rfl h (aj2 (ltM bsT hm) hl tv)
 ·exact LoopP.stop [bf] [0,1,2,3,9,10,12] [0,1] jS (ai (dI bsT O) tv)
theorem all_t{V:List Int}(hBd:cX V l.length)(x:Pt)(r:List Pt)(I:∀a∈x::r,FndOk V l.length (bl l a))(Z:∀a∈x::r,AQ gl l a)(b:Bs)(i:Nat)(hb:BOk i b)(hi:i<=l.length)(f':r.length<=1048576) :
  PuC prog gl 130 [vF (x::r),bE l,bsT b,tI i] (aL (iQ (aR l (x::r)) b i)):=by
 have J:∀k,k<=r.length->∀s∈sa l x r b i k,SetV V i l.length s:=fun k=>by
  induction k with
  | zero=>exact fun _ s hs=>(I x OR).set hs
  | succ k ih =>
   intro hk;have hy:=OH (show k<r.length by omega);rw[oy hy];exact xT (ih om) fun s hs=>(I _ (OS _ (OX _))).set hs
 have a':∀k,k<=r.length->(sa l x r b i k).length<=1048576:=fun k hk=>by
  cases k with
  | zero=>exact gF hBd (I x OR) b i
  | succ k =>
   have hy:=OH (show k<r.length by omega);rw[oy hy];have:=yj (S:=bl l r[k] b i) hBd (J k om) (fun s hs=>(I _ (OS _ (OX (show k<r.length by omega)))).set hs) (sa l x r b i k).length;rw[Pp]at this;exact this
 have hL:LoopP prog gl 0 aoC (aoI (x::r) l b i (bl l x b i) ((0+1:Nat):Int)) (.exit 0) (aoE (iQ (aR l (x::r)) b i)):=by
  rw[<-Gl];refine LoopP.each (fun k=>aoI (x::r) l b i (sa l x r b i k) ((k+1:Nat):Int)) r.length (fun k hk h=>?_) ?_
  ·have hy:=OH hk;have hm:r[k]∈x::r:=OS _ (OX hk);have hp:=Z _ hm b i hb hi;have hS:∀s∈bl l r[k] b i,SetV V i l.length s:=fun s hs=>(I _ hm).set hs
   have c':=gF hBd (I _ hm) b i;have hO:=J k om;have d':=a' k om;rw[oy hy]at h;generalize sa l x r b i k=O at *;generalize r[k]=y at *;have hl:=allL2 gl hBd (x::r) b i (k+1) O (bl l y b i) hO hS d' c';rw[<-wr1 (n:=r.length+1) (k:=k+1) om om]at h;exact LoopP.next [bt,.el (ptT y (bm y.args)),.ca (aL (bl l y b i)),.lo [0,1,2,3,9,10,11,12,13] (.exit 2) (aoX (x::r) l b i O ((k+1:Nat):Int) (fO O (bl l y b i)))] [0,1,2,3,9,10] [0,1] rfl h
    (aj5 (ltP (ar:=x::r) (k:=k+1) (by simp;omega)) (ptM (ar:=x::r) (k:=k+1) (jQ hy)) (k0 (k+1)) hp (LoopP.tns ⟨[(0,dum),(1,dum)],[⟨70,aoS (x::r) l b i O ((k+1:Nat):Int)++[(11,.p (aL (bl l y b i))),(12,.p (.at (.slice none 0 0))),(13,.p (tI (0:Nat)))],none,[]⟩],[]⟩ [.own 12 1 140 1] hl) tv) [.fr 1]
  ·exact LoopP.stop [bf] [9] [0,1] jS (ai (show decide (((r.length+1:Nat):Int)<((bm (x::r)).length:Nat))=false by rw[dL,OL];exact OZ jS) tv)
 exact aq [.el (ptT x (bm x.args)),.ca (aL (bl l x b i)),.lo [0,1,2,3,9,10] (.exit 0) (aoE (iQ (aR l (x::r)) b i))] (aj4 (hdP x r) i0 (Z x OR b i hb hi) (LoopP.tns ⟨[],[⟨70,[(0,.p (vF (x::r))),(1,.p (bE l)),(2,.p (bsT b)),(3,.p (tI i)),(9,.p (aL (bl l x b i))),(10,.p (tI ((0+1:Nat):Int)))],none,[]⟩],[]⟩ [.dm 0,.dm 1] hL) tv)
end
end
section
section
variable (gl : Nat -> Option (List Tr))
noncomputable def iH(x:Pt):Ob:=.box ((ptT x (bm x.args)).cells.map .p)
abbrev plS(l:List Evt)(b:Bs)(S:List Bs)(k:Int):List (Nat × V):=[(1,.p (bE l)),(2,.p (bsT b)),(4,.off 0 0 0),(9,.p (aL S)),(10,.ref 1),(11,.p (tI k))]
noncomputable def plI(x:Pt)(l:List Evt)(b:Bs)(S:List Bs)(k:Int)(A:List Bs):Sg:=⟨roB (iH x) A,[⟨65,plS l b S k,none,[]⟩],[]⟩
noncomputable def plF(l:List Evt)(b:Bs)(S:List Bs)(k:Int)(s:Bs)(R:List Bs)(j:Int):Fr:=⟨65,plS l b S k++[(12,.p (bsT s)),(13,.p (aL R)),(14,.p (tI j))],none,[]⟩
noncomputable def plK(l:List Evt)(b:Bs)(S:List Bs)(k:Int)(s:Bs):Fr:=⟨65,plS l b S k++[(12,.p (bsT s))],none,[]⟩
noncomputable def plE(x:Pt)(A:List Bs):Sg:=⟨roB (iH x) A,[⟨65,[(10,.ref 1)],none,[]⟩],[]⟩
noncomputable def plC:Code:=lpb prog 131 [1,1,1,0,1,0]
noncomputable def plD:Code:=lpb prog 131 [1,1,1,0,1,0,0,1,0,0,1,1,1,1,0]
theorem Og(x:Pt)(l:List Evt)(b:Bs)(S:List Bs)(k:Nat)(A:List Bs)(s:Bs)(R:List Bs)(hn:A.length+R.length<=16777216)(hR:∀y∈R,s.length+y.length<=1048576) :
  LoopP prog gl 0 plD ⟨roB (iH x) A,[plF l b S k s R (0:Nat)],[]⟩ (.exit 2) (plI x l b S k (fld A (R.map (ah s)))):=by
 have e:fld A ((R.map (ah s)).take R.length)=fld A (R.map (ah s)):=by rw[QK jS]
 rw[<-e];refine LoopP.each (fun j=>⟨roB (iH x) (fld A ((R.map (ah s)).take j)),[plF l b S k s R j],[]⟩) R.length (fun j I h=>?_) ?_
 ·have hs:=OH I;have J:=rg gl s R[j] (hR _ (OX I));have hf:=pz A ((R.map (ah s)).take j);have hm:(fld A ((R.map (ah s)).take j)).length<=16777216:=by simp at hf;omega
  rw[qz (show (R.map (ah s))[j]?=some (ah s R[j]) by simp[I])]at h;generalize R[j]=y at hs h J;generalize fld A ((R.map (ah s)).take j)=B at h hm;rw[<-wr1 I om]at h;have c1:=ltM bsT I;have ce:=elM bsT hs;have ha:=ap1 hm;refine ko gl (X:=iH x) (L:=B) (s:=ah s y) (fr:=plF l b S k s R j) hm (fun e Z=>?_) fun e Z=>?_
  ·rw[e]at h;exact LoopP.next [bt,.el (bsT y),.ca (bsT (ah s y)),.inl [.lf [[0,1,5],[1,2,4,9,10,11,12,13,14]] .ret (wiR (iH x) B (plF l b S k s R j))]] [1,2,4,9,10,11,12,13,14] [0,1] rfl h (aj5 c1 ce (k0 j) J Z tv)
  ·rw[e,roB,Pq]at h;exact LoopP.next [bt,.el (bsT y),.ca (bsT (ah s y)),.inl [.lf [[0,1,5],[1,2,4,9,10,11,12,13,14]] (.exit 0) (wiE (iH x) B (ah s y) (plF l b S k s R j)),.ap]] [1,2,4,9,10,11,12,13,14] [0,2] rfl h (aj8 c1 ce (k0 j) J Z yT ha.1 ha.2 tv) [.ren 2 1]
 ·exact LoopP.stop [bf] [1,2,4,9,10,11] [0,1] jS (ai (dI bsT R) tv)
def PlusT(l:List Evt)(x a:Pt)(n:Nat):Prop:=∀b i,BOk i b->i<=l.length->l.length-i<n->PuC prog gl 131 [ptT x (bm x.args),bE l,bsT b,tI i] (aL (df (bl l a) n b i))
theorem Ee(f:Fnd):∀n,kF (df f n)
 | 0=>fun b i=>Rr
 | n+1=>fun b i=>by rw[rh];exact bG _
theorem Hy{V:List Int}{l:List Evt}(hBd:cX V l.length)(x a:Pt)(r:List Pt)(f':x.args=a::r)(J:FndOk V l.length (bl l a))(a':AQ gl l a):∀n,PlusT gl l x a n
 | 0=>fun b i _ _ h=>by omega
 | n+1=>fun b i hb hi r'=>by
  have hp:=a' b i hb hi;have l':=hb.len;have q':=hBd.len;have g':=Hy hBd x a r f' J a' n;have c':FndOk V l.length (df (bl l a) n):=⟨uu J.ok n,pN J.var n,Ee _ n⟩;have e:df (bl l a) (n+1) b i=fld [] (((bl l a b i).take (bl l a b i).length).flatMap fun s=>s::(df (bl l a) n (ah b s) (aK s+1)).map (ah s)):=by rw[Pp,rh];rfl
  have hS:∀s∈bl l a b i,SetV V i l.length s:=fun s hs=>J.set hs
  have k':=gF hBd J b i;generalize bl l a b i=S at *;have hL:LoopP prog gl 0 plC (plI x l b S (0:Nat) []) (.exit 0) (plE x (df (bl l a) (n+1) b i)):=by
   rw[e];refine LoopP.each (fun k=>plI x l b S k (fld [] ((S.take k).flatMap fun s=>s::(df (bl l a) n (ah b s) (aK s+1)).map (ah s)))) S.length (fun k hk h=>?_) ?_
   ·have hs:=OH hk;have I:=hS _ (OX hk);have h1:(fld [] ((S.take k).flatMap fun s=>s::(df (bl l a) n (ah b s) (aK s+1)).map (ah s))).length<=1048576:=lZ hBd fun t ht=>by
     obtain⟨s,hs,ht⟩:=List.mem_flatMap.1 ht;have I:=hS s (Ra hs);rcases List.mem_cons.1 ht with rfl|ht
     ·exact⟨i,I⟩
     ·obtain⟨y,hy,rfl⟩:=List.mem_map.1 ht;exact⟨i,I.behind (c'.set hy)⟩
    rw[PW,hs]at h;simp only[QG,QD,Se,fld,Qm,PR]at h;generalize S[k]=s at hs I h;obtain⟨z,hz,p'⟩:=wd I.ok;have j':=I.ok.last;have n':=I.n63;have d':=g' (ah b s) (aK s+1) (I.merge hb hBd) om om;have h2:=gF hBd c' (ah b s) (aK s+1);have h':∀y∈df (bl l a) n (ah b s) (aK s+1),s.length+y.length<=1048576:=fun y hy=>by have:=(c'.set hy).n63;omega
    obtain⟨A,hA⟩:=jF (fld [] ((S.take k).flatMap fun s=>s::(df (bl l a) n (ah b s) (aK s+1)).map (ah s)));rw[<-hA]at h1 ⊢;rw[show List.foldl cN [] ((S.take k).flatMap fun s=>s::(df (bl l a) n (ah b s) (aK s+1)).map (ah s))=A from hA.symm]at h;clear hA;generalize df (bl l a) n (ah b s) (aK s+1)=R at *;have m':(cN A s).length<=A.length+1:=by unfold cN;split<;>simp
    have hl:=Og gl x l b S k (cN A s) s R om h';rw[<-wr1 hk om]at h;have Z:=Dc bT hz om;have ew:((aK s+1:Nat):Int)=IntKind.i64.wrap ((z.2:Int)+1):=by rw[Pv];omega
    rw[ew]at d';have c1:=ltM bsT hk;have ce:=elM bsT hs;have ht:=rg gl b s om;refine ko gl (X:=iH x) (L:=A) (s:=s) (fr:=plK l b S k s) om (fun e' hw=>?_) fun e' hw=>?_
    ·rw[e']at hl h;exact LoopP.next [bt,.el (bsT s),.inl [.lf [[0,1,5],[1,2,4,9,10,11,12]] .ret (wiR (iH x) A (plK l b S k s))],.ca (bsT (ah b s)),.el (bT z),.ca (aL R),.lo [1,2,4,9,10,11,12,13,14] (.exit 2) (plI x l b S k (fld A (R.map (ah s))))] [1,2,4,9,10,11] [0,1] rfl h
      (aj8 c1 ce (k0 k) hw ht Z.1 Z.2 d' (ai hl tv))
    ·rw[e']at hl h;have ha:=ap1 (L:=A) om;have i':LoopP prog gl 0 plD ⟨[(0,iH x),(2,.row 140 1 (A.map bsT++[bsT s]) false)],[⟨65,[(1,.p (bE l)),(2,.p (bsT b)),(4,.off 0 0 0),(9,.p (aL S)),(10,.ref 2),(11,.p (tI k)),(12,.p (bsT s)),(13,.p (aL R)),(14,.p (tI (0:Nat)))],none,[]⟩],[]⟩ (.exit 2) (plI x l b S k (fld (A++[s]) (R.map (ah s)))):=by
      rw[roB,Pq]at hl;exact LoopP.tns _ [.ren 2 1] hl
     exact LoopP.next [bt,.el (bsT s),.inl [.lf [[0,1,5],[1,2,4,9,10,11,12]] (.exit 0) (wiE (iH x) A s (plK l b S k s)),.ap],.ca (bsT (ah b s)),.el (bT z),.ca (aL R),.lo [1,2,4,9,10,11,12,13,14] (.exit 2) (plI x l b S k (fld (A++[s]) (R.map (ah s))))] [1,2,4,9,10,11] [0,1] rfl h
      (aj8 c1 ce (k0 k) hw yT ha.1 ha.2 ht (aj4 Z.1 Z.2 d' i' tv))
   ·exact LoopP.stop [bf] [10] [0,1] jS (ai (dI bsT S) tv)
  exact aq [.el (ptT a (bm a.args)),.ca (aL S),.lo [1,2,4,9,10,11] (.exit 0) (plE x (df (bl l a) (n+1) b i))] (aj4 (show (bm x.args)[(0:Int).toNat]?=some (ptT a (bm a.args)) by rw[f'];exact hdP a r) i0 hp (LoopP.tns ⟨[(0,iH x)],[⟨65,[(1,.p (bE l)),(2,.p (bsT b)),(4,.off 0 0 0),(9,.p (aL S)),(10,.p (.at (.slice none 0 0))),(11,.p (tI (0:Nat)))],none,[]⟩],[]⟩ [.own 10 1 140 1] hL) tv)
end
end
section
section
variable (gl : Nat -> Option (List Tr))
abbrev kpS(l:List Evt)(b:Bs)(S:List Bs)(k:Int):List (Nat × V):=[(1,.p (bE l)),(2,.p (bsT b)),(4,.off 0 0 0),(9,.p (aL S)),(10,.ref 1),(11,.p (tI k))]
noncomputable def kpI(x:Pt)(l:List Evt)(b:Bs)(S:List Bs)(k:Int)(A:List Bs):Sg:=⟨roB (iH x) A,[⟨82,kpS l b S k,none,[]⟩],[]⟩
noncomputable def kpE(x:Pt)(A:List Bs):Sg:=⟨roB (iH x) A,[⟨82,[(10,.ref 1)],none,[]⟩],[]⟩
noncomputable def kpC:Code:=lpb prog 65 [1,1,1,1,0,1,0]
theorem xt{n:Nat}(h:SetOk i n s):∃z,s.head?=some z/\z.2<=aK s:=by
 have I:=h.last
 cases s with
 | nil=>exact absurd rfl h.1
 | cons z r=>exact⟨z,rfl,I.2.2 z OR⟩
theorem EN{V:List Int}(hBd:cX V l.length)(x:Pt)(b s:Bs)(i:Nat)(I:BOk i b)(hi:i<=l.length)(hs:SetV V i l.length s)(hN:aC x.cond<=1048576) :
  PuC prog gl 132 [ptT x (bm x.args),bE l,bsT b,bsT s] (tB (cL l x.op x.ty x.vr x.sp x.cond b s)):=by
 obtain⟨z,Z,J⟩:=wd hs.ok;obtain⟨z0,h0,hle⟩:=xt hs.ok;have h:=hs.ok.last;have hm:=hs.merge I hBd;have h1:=hBd.len;have h2:=I.len;have h3:=hs.n63;exact Kd gl x l b s z0 z h0 Z om om om om (fun y hy=>⟨(hm.ok y hy).1,by have:=(hm.ok y hy).2;omega⟩) hN
theorem keepL{V:List Int}(hBd:cX V l.length)(x:Pt)(b:Bs)(i:Nat)(hb:BOk i b)(hi:i<=l.length)(S:List Bs)(hS:∀s∈S,SetV V i l.length s)(Z:S.length<=1048576)(hN:aC x.cond<=1048576) :
  LoopP prog gl 0 kpC (kpI x l b S (0:Nat) []) (.exit 1) (kpE x (S.filter (cL l x.op x.ty x.vr x.sp x.cond b))):=by
 have e:(S.take S.length).filter (cL l x.op x.ty x.vr x.sp x.cond b)=S.filter (cL l x.op x.ty x.vr x.sp x.cond b):=by rw[Pp]
 rw[<-e];refine LoopP.each (fun k=>kpI x l b S k ((S.take k).filter (cL l x.op x.ty x.vr x.sp x.cond b))) S.length (fun k hk h=>?_) ?_
 ·have hs:=OH hk;have I:=EN gl hBd x b S[k] i hb hi (hS _ (OX hk)) hN;have hm:((S.take k).filter (cL l x.op x.ty x.vr x.sp x.cond b)).length<=16777216:=OP (QF ..) (by simp;omega);rw[PW,hs]at h;simp only[QG,Rs,Sf,List.filter_nil]at h;generalize S[k]=s at hs I h;rw[<-wr1 hk om]at h;generalize cL l x.op x.ty x.vr x.sp x.cond b s=q at I h;have c1:=ltM bsT hk;have ce:=elM bsT hs;have J:=ap1 hm
  cases q with
  | false =>
   rw[OF jS,Qf]at h;exact LoopP.next [bt,.el (bsT s),.ca (tB false),bf] [1,2,4,9,10,11] [0,1] rfl h (aj5 c1 ce (k0 k) I yF tv)
  | true =>
   rw[OG rfl]at h;unfold kpI roB at h;rw[Pq]at h;exact LoopP.next [bt,.el (bsT s),.ca (tB true),bt,.el (bsT s),.ap] [1,2,4,9,10,11] [0,2] rfl h (aj8 c1 ce (k0 k) I yT ce (k0 k) yT (aj2 J.1 J.2 tv)) [.ren 2 1]
 ·exact LoopP.stop [bf] [10] [0,1] jS (ai (dI bsT S) tv)
theorem Fg{V:List Int}(hBd:cX V l.length)(x:Pt)(hG:GoodP V x)(a':x.args.length<=1048576)(hA:∀a∈x.args,AQ gl l a):AQ gl l x:=fun b i hb hi=>by
 have Z:∀a∈x.args,FndOk V l.length (bl l a):=fun a ha=>mR l (hG.arg ha)
 have I:=hG.self;have d':=hBd.len;have c':=hb.len;have ne:∀{n:Int},x.op≠n->(x.op==n)=false:=fun h=>jQ h
 have eq:∀{n:Int},x.op=n->(x.op==n)=true:=fun h=>jQ h
 rw[J3]
 by_cases h0:x.op=0
 ·rw[OG h0];exact aq [bt,.ca (aL (em l x.ty x.vr x.cond b i))] (aj2 (eq h0) (Jz gl x l b i hi om om (fun y hy=>⟨(hb.ok y hy).1,by have:=(hb.ok y hy).2;omega⟩) I.2) tv)
 rw[OF h0]
 by_cases h1:x.op=1
 ·rw[OG h1];exact aq [bf,bt,.ca (aL (dT (aR l x.args) b i))] (aj3 (ne h0) (eq h1) (Me gl hBd x.args (by rcases I.1 with h|h|h<;>first|omega|exact h) Z hA b i hb hi) tv)
 rw[OF h1]
 by_cases h2:x.op=2
 ·rw[OG h2];exact aq [bf,bf,bt,.ca (aL (jI (aR l x.args) b i))] (aj4 (ne h0) (ne h1) (eq h2) (alt_t gl hBd x.args Z hA b i hb hi a') tv)
 rw[OF h2];obtain⟨a,r,J⟩:∃a r,x.args=a::r:=by
  cases hx:x.args with
  | nil=>rcases I.1 with h|h|h<;>first|omega|exact absurd hx h
  | cons a r=>exact⟨a,r,rfl⟩
 have ha:a∈x.args:=by rw[J];exact OR
 by_cases h3:x.op=3
 ·rw[OG h3];have hc:=all_t gl hBd a r (by rw[<-J];exact Z) (by rw[<-J];exact hA) b i hb hi (by rw[J]at a';simp at a';omega);rw[<-J]at hc;exact aq [bf,bf,bf,bt,.ca (aL (iQ (aR l x.args) b i))] (aj5 (ne h0) (ne h1) (ne h2) (eq h3) hc tv)
 rw[OF h3];have eh:hdF (aR l x.args)=bl l a:=by rw[J,aR];rfl
 rw[eh]
 by_cases h4:x.op=4
 ·rw[OG h4];exact aq [bf,bf,bf,bf,bt,.ca (aL (df (bl l a) (l.length+1) b i))] (aj6 (ne h0) (ne h1) (ne h2) (ne h3) (eq h4) (Hy gl hBd x a r J (Z a ha) (hA a ha) (l.length+1) b i hb hi om) tv)
 rw[OF h4];have hp:=hA a ha b i hb hi;have hL:=keepL gl hBd x b i hb hi (bl l a b i) (fun s hs=>(Z a ha).set hs) (gF hBd (Z a ha) b i) I.2;generalize bl l a b i=S at hp hL ⊢;exact aq [bf,bf,bf,bf,bf,.el (ptT a (bm a.args)),.ca (aL S),.lo [1,2,4,9,10,11] (.exit 1) (kpE x (S.filter (cL l x.op x.ty x.vr x.sp x.cond b)))]
  (aj8 (ne h0) (ne h1) (ne h2) (ne h3) (ne h4) (show (bm x.args)[(0:Int).toNat]?=some (ptT a (bm a.args)) by rw[J];exact hdP a r) i0 hp (ai (LoopP.tns ⟨[(0,iH x)],[⟨82,[(1,.p (bE l)),(2,.p (bsT b)),(4,.off 0 0 0),(9,.p (aL S)),(10,.p (.at (.slice none 0 0))),(11,.p (tI (0:Nat)))],none,[]⟩],[]⟩ [.own 10 1 140 1] hL) tv))
theorem LV{V:List Int}{l:List Evt}(hBd:cX V l.length):∀(n:Nat)(x:Pt),ptN x<=n->n<=1048576->GoodP V x->AQ gl l x
 | 0,x,h,_,_=>by have:=cK x;omega
 | n+1,x,h,hn,hG=>Fg gl hBd x hG (by have h1:=cK x;have:=qb x.args;omega) fun a I=>LV hBd n a (by have h1:=cK x;have J:=mo I;omega) om (hG.arg I)
end
end
section
abbrev scT(l:List Evt):Tr:=.elp [bE l]
section
variable (gl : Nat -> Option (List Tr))
noncomputable def peI(l:List Evt)(s:Bs)(b:Nat)(es:Nat->List Tr)(k:Int):Sg:=⟨enO es,[⟨45,[(0,.p (scT l)),(2,.p (tI b)),(6,.off 0 0 0),(7,.off 2 0 0),(12,.p (bsT s)),(13,.p (tI ((s.map bT).length:Nat))),(14,.p (tI k))],none,[]⟩],[]⟩
noncomputable def peE(es:Nat->List Tr):Sg:=⟨(0,.box [.p (.at (.slice none 0 0))])::(1,dum)::(2,.box [.p (.lst false ((List.range 16).map fun i=>.lst false (es i)))])::(List.range 16).map fun i=>(3+i,dum),[⟨45,[(6,.off 0 0 0),(7,.off 2 0 0)],none,[]⟩],[]⟩
noncomputable def peC:Code:=lpb prog 342 [1,1,0,1,0]
def peD(j a:Nat)(y:Evt):List Ch:=[bt,.el (bT (j,a)),bt,.co,.el (evT y),.ap,.co]
theorem JQ(hw:IntKind.i64.wrap ((k:Int)+1)=((k+1:Nat):Int))(h:LoopP prog gl 0 peC (peI l s b (upd es j (es j++[evT y])) ((k+1:Nat):Int)) e τ)(I:A)(eq:(peI l s b (upd es j (es j++[evT y])) (IntKind.i64.wrap ((k:Int)+1))=peI l s b (upd es j (es j++[evT y])) (IntKind.i64.wrap ((k:Int)+1))/\A)=bdS prog gl 300 0 peC (peI l s b es k) (peD j a y) [0,2,6,7,12,13,14] (20::List.range 19) [.ren 20 (3+j)] (peI l s b (upd es j (es j++[evT y])) (IntKind.i64.wrap ((k:Int)+1))):=by kernel_rfl) :
  LoopP prog gl 0 peC (peI l s b es k) e τ:=LoopP.next (peD j a y) [0,2,6,7,12,13,14] (20::List.range 19) (by rw[hw]) h I [.ren 20 (3+j)] 300 eq
theorem pe_in(hj:j<16)(hk:s[k]?=some ((j:Int),a))(ha:a<b)(hy:l[a]?=some y)(hn:s.length<=1048576)(J:(es j).length<=1048576)(h:LoopP prog gl 0 peC (peI l s b (upd es j (es j++[evT y])) ((k+1:Nat):Int)) e τ):LoopP prog gl 0 peC (peI l s b es k) e τ:=by
 have hw:=wr1 (sz hk) om;have c1:=ltM bT (sz hk);have c2:decide ((a:Int)<(b:Int))=true:=by simp;omega
 have he:=elM bT hk;have I:=elM evT hy;have b1:(es j).length+1<=maxLen:=by rw[aQ];omega
 have b2:((es j).length+1)*56<=140737488355328:=by omega
 have Z:=enV2 hk;have:j=0\/j=1\/j=2\/j=3\/j=4\/j=5\/j=6\/j=7\/j=8\/j=9\/j=10\/j=11\/j=12\/j=13\/j=14\/j=15:=by omega
 rcases this with rfl|rfl|rfl|rfl|rfl|rfl|rfl|rfl|rfl|rfl|rfl|rfl|rfl|rfl|rfl|rfl <;>
  exact JQ gl (a:=a) (y:=y) hw h (aj8 c1 he (k0 k) c2 I (k0 a) yT b1 (aj5 b2 (eV (.off 2 0 0)) (eV (.arr 1 1 16 false)) (eV (.off 19 0 0)) Z.2 tv))
theorem peL(l:List Evt)(s:Bs)(b:Nat)(hn:s.length<=1048576)(J:∀x∈s,(0<=x.1/\x.1<16)/\x.2<l.length) :
  LoopP prog gl 0 peC (peI l s b (fun _=>[]) (0:Nat)) (.exit 0) (peE fun i=>(enS l s b i).map evT):=by
 have h0:(fun _=>[])=fun i=>(enS l (s.take 0) b i).map evT:=by funext i;simp[enS]
 rw[h0];refine LoopP.each (fun k=>peI l s b (fun i=>(enS l (s.take k) b i).map evT) k) s.length (fun k hk h=>?_) ?_
 ·have I:=OH hk;obtain⟨h1,h2⟩:=J _ (OX hk);obtain⟨⟨v,a⟩,hx⟩:∃x,x=s[k]:=⟨_,rfl⟩;rw[<-hx]at I h1 h2;obtain⟨j,rfl⟩:=Int.eq_ofNat_of_zero_le h1.1
  by_cases Z:a<b
  ·have hy:l[a]?=some l[a]:=OH h2;rw[FU I Z hy]at h;exact pe_in gl om I Z hy hn (by have:=B7 l s b j k;simp;omega) h
  ·rw[Dt I Z,<-wr1 hk om]at h;exact LoopP.next [bt,.el (bT (j,a)),bf] [0,2,6,7,12,13,14] (List.range 19) rfl h (aj4 (ltM bT hk) (elM bT I) (k0 k) (show decide ((a:Int)<(b:Int))=false by simp;omega) tv)
 ·have e:s.take s.length=s:=Pp;rw[e];exact LoopP.stop [bf] [6,7] (List.range 19) jS (ai (dI bT s) tv) ((List.range 16).map (fun i=>.fr (3+i))++[.fr 1])
theorem Gq(l:List Evt)(s:Bs)(b:Nat)(I:s.length<=1048576)(h:∀x∈s,(0<=x.1/\x.1<16)/\x.2<l.length):PuC prog gl 342 [scT l,bsT s,tI b] (oo (dy l s b)):=by
 have e:dy l s b=(List.range 16).map fun i=>enS l s b i:=rfl
 rw[e];exact aq [.lo [0,2,6,7,12,13,14] (.exit 0) (peE fun i=>(enS l s b i).map evT)] (ai (LoopP.tns ⟨[(0,.box [.p (.at (.slice none 0 0))]),(1,.row 34 1 (List.replicate 16 (.at (.slice none 0 0))) false),(2,.box [.ref 1])],
  [⟨45,[(0,.p (scT l)),(2,.p (tI b)),(6,.off 0 0 0),(7,.off 2 0 0),(12,.p (bsT s)),(13,.p (tI ((s.map bT).length:Nat))),(14,.p (tI (0:Nat)))],none,[]⟩],[]⟩ (.bx 1::(List.range 16).map fun i=>.ownc 1 i (3+i) 71 5) (peL gl l s b I h)) tv)
end
end
section
section
variable {F G:Nat->Nat}
theorem Id{es:List Tr}{fl:Bool}(h:Rp G w (.lst fl es) v)(hp:∀t∈aO es,∃x,t=.at x)(hF:∀A o n c,v=.slice (some ⟨A,o,none⟩) n c->0<n->G A<=F A):Rp F w (.lst fl es) v:=by
 cases h with
 | nil a cap hm=>exact .nil a cap hm
 | lst _ _ A o cap k g hk hc Z h hf hle hm =>
  refine .lst fl es A o cap k g hk hc (fun j I=>⟨(Z j I).1,?_⟩) (fun j t J=>?_) hf hle hm
  ·have h0:0<es.length:=by
    rcases QS es.length with e|e
    ·rw[Po e]at I;cases I
    ·exact e
   exact OT (Z j I).2 (hF A o es.length cap rfl h0)
  ·obtain⟨x,rfl⟩:=hp t (Pb J);rw[bU (h j _ J)];exact .at x
theorem L6(h:gN w v s):Rp (fW w) w (bsT s) v :=
 sH bT h om (fun _ _=>rfl) (fun x _ t I=>by simp only[O7,Pw,Px,Tr.cells]at I;rcases I with rfl|rfl<;>rfl) fun x _ b p J j t I=>by
  match j,I with
  | 0,I=>cases I;exact⟨_,J.1,.at _⟩
  | 1,I=>cases I;exact⟨_,J.2,.at _⟩
theorem I0(s:Bs):∀t∈aO (s.map bT),∃x,t=.at x:=fun t h=>by
 obtain⟨y,hy,h⟩:=List.mem_flatMap.1 h;obtain⟨x,-,rfl⟩:=List.mem_map.1 hy;simp only[O7,Pw,Px,Tr.cells]at h;rcases h with rfl|rfl<;>exact⟨_,rfl⟩
end
section
variable (gl : Nat -> Option (List Tr))
theorem Bp(s t:Bs)(hs:uR s)(ht:uR t)(Z:∀x∈s,∀y∈t,x.2≠y.2)(h:t≠[])(I:∀x∈s++t,x.2<=1048576)(hl:s.length+t.length<=1048576):PuC prog gl 345 [bsT s,bsT t] (bsT (ah s t)):=fun F w l hr _=>by
 obtain⟨_,_,rfl,h0,hr⟩:=aA hr;obtain⟨_,_,rfl,h1,hr⟩:=aA hr;obtain rfl:=cm hr;refine (FC s t _ _ w (lH h0) (lH h1) hs ht Z h I hl).mono ?_;rintro e W ⟨v,rfl,J,hB⟩;refine⟨v,fun b=>if b<w.heap.size then F b else fW W b,rfl,hB,fun b I=>OG I,Id (L6 J.is) (I0 _) fun A o n c e _=>?_⟩;obtain⟨b',o',c',e',-,-,-,hQ,-⟩:=J;rw[e']at e;injection e with e1;injection e1 with e1;injection e1 with e1;subst e1;rw[OF om];exact OI _
theorem G8(s:Bs)(h:s≠[]):PuC prog gl 346 [bsT s] (tI (aK s)):=gU fun F w l hr=>by
 obtain⟨_,_,rfl,h0,hr⟩:=aA hr;obtain rfl:=cm hr;exact Is s _ w (lH h0) h
theorem Iw(s:Bs)(i:Nat):PuC prog gl 348 [bsT s,tI i] (tB (jl s i)):=gU fun F w l hr=>by
 obtain⟨_,_,rfl,h0,hr⟩:=aA hr;obtain⟨_,_,rfl,h1,hr⟩:=aA hr;obtain rfl:=cm hr;rw[bU h1];exact CU s i _ w (lH h0)
theorem Ck(vs:List (List Evt))(own:Int)(hy:Ku I y)(x:Ex)(h:∀k,(bR vs k).length<=1048576)(hN:aC x<=1048576):PuC prog gl 341 [exT x (aD x.args),oo vs,tI own,I] (tB (cg vs own y x)) :=
 gU fun F w l hr=>by
  obtain⟨_,_,rfl,h0,hr⟩:=aA hr;obtain⟨_,_,rfl,h1,hr⟩:=aA hr;obtain⟨_,_,rfl,J,hr⟩:=aA hr;obtain⟨_,_,rfl,h3,hr⟩:=aA hr;obtain rfl:=cm hr;rw[<-ir]at h0;obtain⟨Z,rfl,g0⟩:=L8 h0;obtain⟨u1,rfl,g1⟩:=Gs h1;obtain⟨u3,rfl,g3⟩:=hy _ _ _ h3;rw[bU J];exact DH _ vs u1 own y u3 h x Z w g1 g3 g0 hN
theorem we(l:List Evt)(s:Bs)(k:Nat)(y:Evt)(own:Int)(x:Ex)(hk:l[k]?=some y)(I:s.length<=1048576)(h:∀x∈s,(0<=x.1/\x.1<16)/\x.2<l.length)(J:aC x<=1048576) :
  PuC prog gl 306 [scT l,exT x (aD x.args),bsT s,tI own,tI k] (tB (cg (dy l s k) own y x)) :=
 aq [.ca (oo (dy l s k)),.el (evT y),.ca (tB (cg (dy l s k) own y x))] (aj4 (Gq gl l s k I h) (elM evT hk) (k0 k) (Ck gl (dy l s k) own (A6 y) x (fun j=>gP I j) J) tv)
noncomputable def kkI(x:Pt)(l:List Evt)(m s:Bs)(k:Int):Sg:=⟨[(0,iH x)],[⟨96,[(0,.p (scT l)),(3,.p (bsT s)),(5,.off 0 0 0),(9,.p (bsT m)),(10,.p (tI k))],none,[]⟩],[]⟩
noncomputable def kkE(x:Pt):Sg:=⟨[(0,iH x)],[⟨96,[],none,[]⟩],[]⟩
noncomputable def kkR(x:Pt):Sg:=⟨[(0,iH x)],[⟨96,[(8,.p (tB false))],none,[]⟩],[]⟩
noncomputable def kkC:Code:=lpb prog 316 [1,1,1,0,1,0]
theorem G3(x:Pt)(l:List Evt)(b s:Bs)(z0:Int × Nat)(h0:s.head?=some z0)(c':s≠[])(hle:z0.2<=aK s)(i':aK s<l.length)(hl:l.length<=1048576)(l':b.length+s.length<=1048576)(a':∀y∈ah b s,(0<=y.1/\y.1<16)/\y.2<l.length)(hN:aC x.cond<=1048576)(hj:PuC prog gl 345 [bsT b,bsT s] (bsT (ah b s)))(j':x.op=5\/x.op=6\/x.op=7) :
  PuC prog gl 316 [scT l,ptT x (bm x.args),bsT b,bsT s] (tB (cL l x.op x.ty x.vr x.sp x.cond b s)):=by
 have Z:(ah b s).length<=1048576:=by rw[gL];omega
 have I:=G8 gl s c'
 by_cases h6:x.op=6
 ·have e1:l[aK s]?=some l[aK s]:=OH i';have e0:l[z0.2]?=some l[z0.2]:=OH om;unfold cL;rw[OF om,OG h6,h0];simp only[PD,P3,e1,e0];exact aq [bt,.ca (tI (aK s)),.el (evT l[aK s]),.el (bT z0),.el (evT l[z0.2])] (aj8 (show (x.op==6)=true from jQ h6) I (elM evT e1) (k0 (aK s)) (sE bT h0) i0 (elM evT e0) (k0 z0.2) tv)
 have g6:(x.op==6)=false:=jQ h6
 by_cases h7:x.op=7
 ·unfold cL;rw[OF om,OF h6];have g':=Gq gl l (ah b s) l.length Z a';rw[<-OL (f:=evT)]at g';have h':=Ck gl (dy l (ah b s) l.length) (-1) IB x.cond (fun j=>gP Z j) hN;rw[<-OL (f:=evT)]at h';have e:cg (dy l (ah b s) l.length) (-1) kw x.cond=cg (dy l (ah b s) (l.map evT).length) (-1) kw x.cond:=by rw[OL]
  rw[e];exact aq [bf,bt,.ca (bsT (ah b s)),.ca (oo (dy l (ah b s) (l.map evT).length)),.ca (tB (cg (dy l (ah b s) (l.map evT).length) (-1) kw x.cond))] (aj5 g6 (show (x.op==7)=true from jQ h7) hj g' h' tv)
 have g7:(x.op==7)=false:=jQ h7;rw[show x.op=5 by omega,vz];have d':sk s=z0.2:=by unfold sk;rw[h0];rfl
 have J:∀k,k<aK s-(z0.2+1)->decide (((z0.2+1+k:Nat):Int)<(aK s:Int))=true:=fun k hk=>O3 om
 have hL:=LoopP.any (P:=prog) (gl:=gl) (N:=0) (c:=kkC) (e:=.exit 1) (τ:=kkE x) (e1:=.ret) (τ1:=kkR x) (fun k=>kkI x l (ah b s) s ((z0.2+1+k:Nat):Int)) (List.range (aK s-(z0.2+1))) (fun k=>!(eN l x.ty x.vr x.cond b s (z0.2+1+k)))
  (fun k k' hk hp e τ h=>by
   obtain⟨hi,e⟩:=List.getElem?_eq_some_iff.1 hk;simp only[QE,Sd]at hi e;subst e;have hy:l[z0.2+1+k]?=some l[z0.2+1+k]:=OH om;generalize l[z0.2+1+k]=y at hy;rw[lc om hy]at hp;have hc:=Iw gl s (z0.2+1+k);have hq:=we gl l (ah b s) (z0.2+1+k) y x.vr x.cond hy Z a' hN;have hw:((z0.2+1+(k+1):Nat):Int)=IntKind.i64.wrap (((z0.2+1+k:Nat):Int)+1):=by rw[Pv];omega
   rw[hw]at h
   by_cases ht:y.ty=x.ty
   ·have gt:(y.ty==x.ty)=true:=jQ ht
    cases hh:jl s (z0.2+1+k) with
    | true =>
     rw[hh]at hc;exact LoopP.next [.ca (tI (aK s)),bt,.el (evT y),bt,.ca (tB true),bt,bf,bf,bf] [0,3,5,9,10] [0] rfl h (aj8 I (J k hi) (elM evT hy) (k0 (z0.2+1+k)) gt hc yT yF (aj2 yF yF tv))
    | false =>
     rw[hh]at hc hp;rw[show cg (dy l (ah b s) (z0.2+1+k)) x.vr y x.cond=false by simpa [ht] using hp]at hq;exact LoopP.next [.ca (tI (aK s)),bt,.el (evT y),bt,.ca (tB false),bt,bt,.ca (tB false),bt,bf] [0,3,5,9,10] [0] rfl h (aj8 I (J k hi) (elM evT hy) (k0 (z0.2+1+k)) gt hc yT yT (aj3 hq yT yF tv))
   ·exact LoopP.next [.ca (tI (aK s)),bt,.el (evT y),bf,bf,bf,bf,bf] [0,3,5,9,10] [0] rfl h (aj8 I (J k hi) (elM evT hy) (k0 (z0.2+1+k)) (show (y.ty==x.ty)=false from jQ ht) yF yF yF (ai yF tv)))
  (fun k k' hk hp=>by
   obtain⟨hi,e⟩:=List.getElem?_eq_some_iff.1 hk;simp only[QE,Sd]at hi e;subst e;have hy:l[z0.2+1+k]?=some l[z0.2+1+k]:=OH om;generalize l[z0.2+1+k]=y at hy;rw[lc om hy]at hp;have hc:=Iw gl s (z0.2+1+k);have hq:=we gl l (ah b s) (z0.2+1+k) y x.vr x.cond hy Z a' hN;simp only[P2,ON,Pj,OW]at hp;rw[hp.1]at hc;rw[hp.2.2]at hq;exact LoopP.stop [.ca (tI (aK s)),bt,.el (evT y),bt,.ca (tB false),bt,bt,.ca (tB true),bt,bt] [8] [0] jS (aj8 I (J k hi) (elM evT hy) (k0 (z0.2+1+k)) (show (y.ty==x.ty)=true from jQ hp.2.1) hc yT yT (aj3 hq yT yT tv)))
  (by
   rw[QE];exact LoopP.stop [.ca (tI (aK s)),bf] [] [0] jS (aj2 I (show decide (((z0.2+1+(aK s-(z0.2+1)):Nat):Int)<(aK s:Int))=false from OZ om) tv))
 have e:lY l x.ty x.vr x.cond b s=!((List.range (aK s-(z0.2+1))).any fun k=>!(eN l x.ty x.vr x.cond b s (z0.2+1+k))):=by
  have f':=jN l x.ty x.vr x.cond b s;rw[d',Re]at f';exact tO fun k hk=>by
   rcases PT k z0.2 with h|h
   ·exact f' k (jQ h)
   ·have:=List.all_eq_true.1 (yC (l:=l) (ty:=x.ty) (vr:=x.vr) (c:=x.cond) (b:=b) c') k (by rw[d'];simpa using hk);exact this
 rw[e];have hw:((z0.2+1:Nat):Int)=IntKind.i64.wrap ((z0.2:Int)+1):=by rw[Pv];omega
 simp only[P9]at hL;rw[hw]at hL
 cases h:(List.range (aK s-(z0.2+1))).any fun k=>!(eN l x.ty x.vr x.cond b s (z0.2+1+k)) with
 | true=>exact aq [bf,bf,.ca (bsT (ah b s)),.el (bT z0),.lo [0,3,5,9,10] .ret (kkR x)] (aj6 g6 g7 hj (sE bT h0) i0 (hL.1 h) tv)
 | false=>exact aq [bf,bf,.ca (bsT (ah b s)),.el (bT z0),.lo [0,3,5,9,10] (.exit 1) (kkE x)] (aj6 g6 g7 hj (sE bT h0) i0 (hL.2 h) tv)
end
end
end Go.Proofs.YteemngnialjaiaaGreatDoor
