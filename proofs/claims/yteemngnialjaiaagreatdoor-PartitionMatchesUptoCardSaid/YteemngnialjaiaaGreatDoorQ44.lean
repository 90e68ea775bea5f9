/- Part. -/
import Derived.Test.YteemngnialjaiaaGreatDoorQ41
import Derived.Test.YteemngnialjaiaaGreatDoorQ43
set_option maxRecDepth 100000
set_option maxHeartbeats 16000000
set_option linter.unusedVariables false
set_option linter.unusedSimpArgs false
namespace Go.Proofs.YteemngnialjaiaaGreatDoor
open Go.Proofs.Tryz Go.RowKit
variable {x:Pt}{key:List Int}{l:List Evt}{F:Nat->Nat}{w:World}{v:Value}{cs:List Tr}{d:Nat}{q:Qry}
mutual
theorem FP:∀x:Pt,(∀y∈aV x,y.op=0\/y.args≠[])->evV x≠[]
 | .mk o ar ty vr sc sp co,h=>by
  rw[evV];rcases h _ (by rw[aV];exact OR ..) with h0|h0
  ·have h0:o=0:=h0;rw[OG h0];simp
  ·have h0:ar≠[]:=h0;have:=Kk ar h0 (fun y hy=>h y (by rw[aV];exact OS _ hy));intro e;exact this (List.append_eq_nil_iff.1 e).2
theorem Kk:∀l:List Pt,l≠[]->(∀y∈dq l,y.op=0\/y.args≠[])->eF l≠[]
 | [],h,_=>absurd rfl h
 | a::r,_,h=>by
  rw[eF];intro e;exact FP a (fun y hy=>h y (by rw[dq];exact Rl _ hy)) (List.append_eq_nil_iff.1 e).1
end
theorem Ct(h:fx x=0):(evV x).length≠0/\(evV x).length<=64:=by
 obtain⟨h1,J,Z⟩:=lS h;refine⟨fun e=>FP x (fun y hy=>?_) (Po e),by have:=qp x;omega⟩;have I:=(ru (J y hy)).2.1
 by_cases h0:y.op=0
 ·exact .inl h0
 refine .inr fun e=>?_
 rw[e]at I;unfold li at I;rw[OF h0]at I
 split at I
 ·simp at I
 ·split at I<;>simp at I
theorem xH(h:fx x=0)(J:SmallN l.length x):(bj x (eJ key l)).length<=4096:=by
 have hs:=Fe key l;have I:=J.less hs;exact EC x (Ct h).1 (Ct h).2 _ Kb I.1 I.2
section
theorem IN{F:Nat->Nat}{w:World}:∀(d:Nat){v:Value}{l:List Pt}{fl:Bool},ll l<=d->Rp F w (.lst fl (bm l)) v->dg d w v l
 | 0,v,l,fl,hd,h=>by
  rw[dL]at h;refine jx bP h (fun x _=>by rw[gd];rfl) fun x J b p I=>?_
  cases l with
  | nil=>cases J
  | cons y r=>rw[ll,lK]at hd;omega
 | d+1,v,l,fl,hd,h=>by
  rw[dL]at h;refine jx bP h (fun x _=>by rw[gd];rfl) fun x J b p I=>?_
  have hb:ptB x<=ll l:=by
   clear hd h I
   induction l with
   | nil=>cases J
   | cons y r ih =>
    rw[ll];rcases List.mem_cons.1 J with rfl|J
    ·omega
    ·have:=ih J;omega
  have e:=lK x;have hn:=oA x.cond;have a':=kP x.cond;rw[gd]at I;obtain⟨u,h1,h2⟩:=I 1 _ rfl;obtain⟨u2,g1,g2⟩:=I 7 _ rfl;refine⟨u,IN d om h2,ba (I 0 _ rfl),h1,ba (I 2 _ rfl),ba (I 3 _ rfl),ba (I 4 _ rfl),ba (I 5 _ rfl),?_⟩;obtain⟨Z,rfl⟩:∃Z,d=Z+1:=⟨d-1,by omega⟩;exact⟨u2,ue Z om g2,ba (I 6 _ rfl),g1,ba (I 8 _ rfl),ba (I 9 _ rfl),ba (I 10 _ rfl),ba (I 11 _ rfl),ba (I 12 _ rfl),ba (I 13 _ rfl)⟩
theorem pt_rd(h:Rp F w (ptT x (bm x.args)) v):∃va vc,v=ptV x va vc/\dg (ptB x) w va x.args/\bZ (ptB x) w vc x.cond.args:=by
 have e:=lK x;have hn:=oA x.cond;have c':=kP x.cond;obtain⟨l,rfl,hr⟩:=kg h;clear h;obtain⟨_,_,rfl,h0,hr⟩:=aA hr;obtain⟨u1,_,rfl,h1,hr⟩:=aA hr;obtain⟨_,_,rfl,h2,hr⟩:=aA hr;obtain⟨_,_,rfl,h3,hr⟩:=aA hr;obtain⟨_,_,rfl,h4,hr⟩:=aA hr;obtain⟨_,_,rfl,h5,hr⟩:=aA hr;obtain⟨_,_,rfl,h6,hr⟩:=aA hr;obtain⟨u7,_,rfl,h7,hr⟩:=aA hr;obtain⟨_,_,rfl,h8,hr⟩:=aA hr;obtain⟨_,_,rfl,h9,hr⟩:=aA hr;obtain⟨_,_,rfl,J,hr⟩:=aA hr;obtain⟨_,_,rfl,a',hr⟩:=aA hr;obtain⟨_,_,rfl,Z,hr⟩:=aA hr;obtain⟨_,_,rfl,I,hr⟩:=aA hr;obtain rfl:=cm hr;rw[bU h0,bU h2,bU h3,bU h4,bU h5,bU h6,bU h8,bU h9,bU J,bU a',bU Z,bU I];exact⟨u1,u7,rfl,IN _ om h1,ue _ om h7⟩
abbrev qCs(q:Qry)(I h:Tr):List Tr:=[tS q.nm,I,rY q.key]++(ptT q.pat (bm q.pat.args)).cells++[h]
abbrev qT(q:Qry)(I h:Tr):Tr:=.agg (qCs q I h)
section
variable (gl : Nat -> Option (List Tr))
theorem JD(x:Pt)(I:ptB x<=1048576):PuC prog gl 63 [ptT x (bm x.args)] (tI (fx x)):=gU fun F w l hr=>by
 obtain⟨_,_,rfl,h0,hr⟩:=aA hr;obtain rfl:=cm hr;obtain⟨h,vc,rfl,g1,g2⟩:=pt_rd h0;exact ye _ x h vc w g1 g2 I
theorem JT(q:Qry)(Z J:Tr)(l:List Evt)(hN:ptB q.pat<=1048576)(hl:l.length<=1048576) :
  ((aZ q l).2=0->PuC prog gl 26 [qT q Z J,bE l] (.tup [jT (aZ q l).1.1,.lst false ((aZ q l).1.2.map bE),tI 0])) /\
  ((aZ q l).2≠0->PuC prog gl 26 [qT q Z J,bE l] (.tup [.at (.slice none 0 0),.at (.slice none 0 0),tI (aZ q l).2])):=by
 have I:=JD gl q.pat hN;have hs:=Hl gl l q.key hl;unfold aZ
 by_cases h0:fx q.pat=0
 ·rw[OF (jQ h0)];rw[h0]at I;unfold fZ
  by_cases h1:gu q.key l=0
  ·rw[OF (jQ h1)];exact⟨fun _=>aq [.ca (tI 0),bf,.ca (.tup [jT (dO q.key l),.lst false ((eJ q.key l).map bE),tI 0])] (aj3 I yF (hs.1 h1) tv),fun h=>absurd rfl h⟩
  ·rw[OG h1];exact⟨fun h=>absurd h h1,fun _=>aq [.ca (tI 0),bf,.ca (.tup [.at (.slice none 0 0),.at (.slice none 0 0),tI (gu q.key l)])] (aj3 I yF (hs.2 h1) tv)⟩
 ·rw[OG h0];exact⟨fun h=>absurd h h0,fun _=>aq [.ca (tI (fx q.pat)),bt] (aj2 I (show (fx q.pat != 0)=true from jQ h0) tv)⟩
theorem KQ(l:List Evt)(x:Pt)(hp:fx x=0)(J:ptB x<=1048576)(hS:SmallN l.length x)(hs:bN l=0):PuC prog gl 27 [ptT x (bm x.args),bE l] (oT (dF l x)):=by
 obtain⟨hg,hB,-⟩:=pY hp J hS;have Z:GoodP (evV x) x:=(sZ hp J).1;have hf:FndOk (evV x) l.length (bl l x):=mR l Z;have hn:((bl l x [] 0).map (mOf l)).Nodup:=kX (hf.once [] 0) fun a ha b hb e=>uN (ji hs) (fun z I=>((hf.ok [] 0 a ha).2.2 z I).2) (fun z I=>((hf.ok [] 0 b hb).2.2 z I).2) e
 have h:=LB gl hB x (OP (iL x) J) Z;rw[Hp hn]at h;exact h
abbrev pus(S L:List (List Bnd)):List (List Bnd):=L.foldl (fun S m=>gh m S) S
theorem CB(S L:List (List Bnd)):(pus S L).length<=S.length+L.length:=by
 induction L generalizing S with
 | nil=>simp
 | cons m L I =>
  have h1:=I (gh m S);have Z:=yO m S;simp only[pus,PR,Pk]at h1 ⊢;omega
noncomputable def m2B(q:Qry)(J h:Tr):List (Nat × Ob):=[(0,.box ((qCs q J h).map .p))]
abbrev m2S(P:List (List Evt))(S:List (List Bnd))(k:Int):List (Nat × V):=[(2,.off 0 0 0),(7,.p (.lst false (P.map bE))),(9,.p (oT S)),(10,.p (tI k))]
noncomputable def m2I(q:Qry)(I h:Tr)(P:List (List Evt))(S:List (List Bnd))(k:Int):Sg:=⟨m2B q I h,[⟨49,m2S P S k,none,[]⟩],[]⟩
noncomputable def m2J(q:Qry)(I h:Tr)(P:List (List Evt))(S:List (List Bnd))(k:Int)(M:List (List Bnd))(j:Int):Sg:=⟨m2B q I h,[⟨49,m2S P S k++[(11,.p (oT M)),(12,.p (tI j))],none,[]⟩],[]⟩
noncomputable def m2E(q:Qry)(I h:Tr)(S:List (List Bnd)):Sg:=⟨m2B q I h,[⟨49,[(9,.p (oT S))],none,[]⟩],[]⟩
noncomputable def m2C:Code:=lpb prog 9 [1,1,1,1,0,1,0]
noncomputable def m2D:Code:=lpb prog 9 [1,1,1,1,0,1,0,0,1,0,0,1,1,0]
theorem m2L(q:Qry)(Z I:Tr)(P:List (List Evt))(S:List (List Bnd))(k:Nat)(M:List (List Bnd))(hn:S.length+M.length<=1048576):LoopP prog gl 0 m2D (m2J q Z I P S k M (0:Nat)) (.exit 2) (m2I q Z I P (pus S M) k):=by
 have e:pus S (M.take M.length)=pus S M:=by rw[Pp]
 rw[<-e];refine LoopP.each (fun j=>m2J q Z I P (pus S (M.take j)) k M j) M.length (fun j J h=>?_) ?_
 ·have hm:M[j]?=some M[j]:=OH J;have hl:=CB S (M.take j);rw[PW,hm]at h;simp only[QG,pus,Qm,PR,RT]at h;have hp:=put_t gl (pus S (M.take j)) M[j] (by rw[PB]at hl;omega);generalize M[j]=m at hm h hp;rw[<-wr1 J om]at h;exact LoopP.next [bt,.el (mtT m),.ca (oT (gh m (pus S (M.take j))))] [2,7,9,10,11,12] [0] rfl h (aj4 (ltM mtT J) (elM mtT hm) (k0 j) hp tv)
 ·exact LoopP.stop [bf] [2,7,9,10] [0] jS (ai (dI mtT M) tv)
theorem m2K(q:Qry)(J I:Tr)(P:List (List Evt))(hP:P.length<=1048576)(hA:∀s∈P,PuC prog gl 27 [ptT q.pat (bm q.pat.args),bE s] (oT (dF s q.pat)))(hn:(bj q.pat P).length<=524288) :
  LoopP prog gl 0 m2C (m2I q J I P [] (0:Nat)) (.exit 0) (m2E q J I (fq (bj q.pat P))):=by
 have e:pus [] (bj q.pat (P.take P.length))=fq (bj q.pat P):=by rw[Pp];rfl
 rw[<-e];refine LoopP.each (fun k=>m2I q J I P (pus [] (bj q.pat (P.take k))) k) P.length (fun k hk h=>?_) ?_
 ·have hs:P[k]?=some P[k]:=OH hk;have ha:=hA _ (OX hk);have hl:=CB [] (bj q.pat (P.take k));have Z:(bj q.pat (P.take (k+1))).length<=524288:=by
   have:bj q.pat P=bj q.pat (P.take (k+1))++bj q.pat (P.drop (k+1)):=by unfold bj;rw[<-QD,QT]
   rw[this,OM]at hn;omega
  have ep:bj q.pat (P.take (k+1))=bj q.pat (P.take k)++dF P[k] q.pat:=by
   rw[PW,hs,QG];unfold bj;rw[QD,Se]
  rw[ep,OM]at Z;rw[ep]at h;simp only[pus,Qm]at h;have h2:=m2L gl q J I P (pus [] (bj q.pat (P.take k))) k (dF P[k] q.pat) (by rw[Ri]at hl;omega);rw[<-wr1 hk om]at h;exact LoopP.next [bt,.el (bE P[k]),.ca (oT (dF P[k] q.pat)),.lo [2,7,9,10,11,12] (.exit 2) (m2I q J I P (pus (pus [] (bj q.pat (P.take k))) (dF P[k] q.pat)) k)] [2,7,9,10] [0] rfl h (aj5 (ltM bE hk) (elM bE hs) (k0 k) ha h2 tv)
 ·exact LoopP.stop [bf] [9] [0] jS (ai (dI bE P) tv)
theorem Jb(q:Qry)(J Z:Tr)(l:List Evt)(hN:ptB q.pat<=1048576)(hl:l.length<=1048576)(hS:SmallN l.length q.pat) :
  ((iG q l).2=0->PuC prog gl 9 [qT q J Z,bE l] (.tup [oT (iG q l).1,tI 0])) /\
  ((iG q l).2≠0->PuC prog gl 9 [qT q J Z,bE l] (.tup [.at (.slice none 0 0),tI (iG q l).2])):=by
 have a':=JT gl q J Z l hN hl;unfold iG
 by_cases h0:(aZ q l).2=0
 ·rw[OF (jQ h0)];obtain⟨h1,h2,h3⟩:=ox h0;have I:(aZ q l).1.2=eJ q.key l:=by rw[h3]
  have hP:(aZ q l).1.2.length<=l.length:=by rw[I];unfold eJ;rw[OL];exact nV q.key l
  have hc:=a'.1 h0;have hK:=m2K gl q J Z (aZ q l).1.2 om (fun s hs=>KQ gl s q.pat h1 hN (hS.less (wR (by rw[I]at hs;exact hs))) (xx h2 s (by rw[I]at hs;exact hs))) (OP (by rw[I];exact xH h1 hS) om);generalize (aZ q l).1.2=P at hc hK ⊢;exact⟨fun _=>aq [.ca (.tup [jT (aZ q l).1.1,.lst false (P.map bE),tI 0]),bf,.lo [2,7,9,10] (.exit 0) (m2E q J Z (fq (bj q.pat P)))] (aj3 hc yF (LoopP.tns ⟨m2B q J Z,[⟨49,[(2,.off 0 0 0),(7,.p (.lst false (P.map bE))),(9,.p (.at (.slice none 0 0))),(10,.p (tI (0:Nat)))],none,[]⟩],[]⟩ [.nl 9] hK) tv),fun h=>absurd rfl h⟩
 ·rw[OG h0];exact⟨fun h=>absurd h h0,fun _=>aq [.ca (.tup [.at (.slice none 0 0),.at (.slice none 0 0),tI (aZ q l).2]),bt] (aj2 (a'.2 h0) (show ((aZ q l).2 != 0)=true from jQ h0) tv)⟩
end
theorem Od{l:List Value}(h:Rps F w cs l):Rp F w (.agg cs) (.agg l.toArray):=.agg _ _ (jQ h.1) fun i t v J I=>h.2 i t v J (jQ I)
theorem IU(h:Rp F w (.tup cs) v):∃l:List Value,v=.tuple l.toArray/\Rps F w cs l:=by
 cases h with|tup _ vs hl h=>exact⟨vs.toList,by simp,jQ hl,fun i t v J I=>h i t v J (jQ I)⟩
theorem Ki{l:List Int}(h:iJ w v l):Rp (fW w) w (rY l) v :=
 sH tI h om (fun _ _=>rfl) (fun x _ t I=>by simp only[QA,Tr.cells]at I;subst I;rfl) fun x _ b p J j t I=>by
  match j,I with
  | 0,I=>cases I;exact⟨_,J,.at _⟩
theorem Np{I J Z vc vr:Value}(h:QryIs d w q I J Z vc vr):Rp (fW w) w (qT q (.at I) (.at vr)) (og q I J Z vc vr) :=
 Od (l:=[_,_,_,_,_,_,_,_,_,_,_,_,_,_,_,_,_,_]) (eW (.at _) (eW (.at _) (eW (Ki h.key) (eW (.at _) (eW (BQ d h.args) (eW (.at _) (eW (.at _) (eW (.at _) (eW (.at _) (eW (.at _) (eW (rA d h.cond) (eW (.at _) (eW (.at _) (eW (.at _) (eW (.at _) (eW (.at _) (eW (.at _) (eW (.at _) BO))))))))))))))))))
theorem AC(d:Nat)(q:Qry)(l:List Evt)(I vk va vc vr vl:Value)(w:World)(hA:PartAsk d w q l I vk va vc vr vl)(hS:SmallN l.length q.pat)(hl:l.length<=1048576) :
  Calls prog 9 #[og q I vk va vc vr,vl] w (LF w (iG q l)):=by
 have hc:=Jb (fun _=>none) q (.at I) (.at vr) l hA.few hl hS;have hr:Rps (fW w) w [qT q (.at I) (.at vr),bE l] [og q I vk va vc vr,vl]:=eW (Np hA.qry) (eW (C9 hA.evs) BO)
 by_cases h0:(iG q l).2=0
 ·refine (hc.1 h0 (fW w) w _ hr fun g cs Z=>by cases Z).mono ?_;rintro e W ⟨u,F',rfl,J,-,hr⟩;obtain⟨_,rfl,hq⟩:=IU hr;obtain⟨v,_,rfl,g0,hq⟩:=aA hq;obtain⟨_,_,rfl,g1,hq⟩:=aA hq;obtain rfl:=cm hq;rw[bU g1];exact⟨v,by rw[h0],I1 g0,J⟩
 ·refine (hc.2 h0 (fW w) w _ hr fun g cs Z=>by cases Z).mono ?_;rintro e W ⟨u,F',rfl,J,-,hr⟩;obtain⟨_,rfl,hq⟩:=IU hr;obtain⟨v,_,rfl,g0,hq⟩:=aA hq;obtain⟨_,_,rfl,g1,hq⟩:=aA hq;obtain rfl:=cm hq;rw[bU g0,bU g1];have e1:(iG q l).1=[]:=by
   unfold iG at h0 ⊢
   split
   ·rfl
   ·rename_i hn;rw[OF hn]at h0;exact absurd rfl h0
  exact⟨_,rfl,by rw[e1];exact⟨none,0,rfl,OI _,OO _,fun k e h=>(by simp at h)⟩,J⟩
end
theorem AR(h:iI x l=true):l.length<=1048576:=by
 unfold iI at h;simp only[ON,OW]at h;omega
theorem Ej(d:Nat)(q:Qry)(l:List Evt)(vv vk va vc vr vl:Value)(w:World)(hq:QryIs d w q vv vk va vc vr)(hl:cH w vl l)(t':∀e∈l,∀x∈e.vals,jM x)(hB:ptB q.pat<=1048576)(hS:Shp w)(hT:Tbl w)(hL:Lx w) :
  OE 3 #[og q vv vk va vc vr,vl] w (.bool true):=by
 have r':=jD (fun(W:World)(I:OD w W)=>wK W (hS.stays I) (hT.stays I) (hL.stays I));have J:=jD (fun(W:World)(I:OD w W)=>Ew d q l vv vk va vc vr vl W (hq.stays I) (hl.stays bX I) hB);have k':Hid (uB q l=true->∀W,OD w W->PartAsk d W q l vv vk va vc vr vl):=jD fun hf W I=>⟨hS.stays I,hq.stays I,hl.stays bX I,hB,t',fun e he=>by have:=(gC (gM hf).1).2.1 e he;omega⟩
 have c':Hid (uB q l=true->∀W,OD w W->_):=jD fun hf W I=>wt d q l vv vk va vc vr vl W (k'.out hf W I) (gC (gM hf).1).1 (fun h=>xH (ox h).1 (gC (gM hf).1).1)
 have a':Hid (uB q l=true->∀W,OD w W->_):=jD fun hf W I=>AC d q l vv vk va vc vr vl W (k'.out hf W I) (gC (gM hf).1).1 (AR (gM hf).1)
 obtain⟨⟨M,se⟩,hR⟩:∃r,iG q l=r:=⟨_,rfl⟩;obtain⟨fw,p'⟩:∃t,uB q l=t:=⟨_,rfl⟩;rw[hR]at c' a';rw[p']at J c' a';obtain⟨Av,cv,rfl,-⟩:=id hq.vars;obtain⟨Ak,ck,rfl,-⟩:=id hq.key;obtain⟨Aa,ca,rfl,-⟩:=id hq.args;obtain⟨Ac,cc,rfl,-⟩:=id hq.cond;obtain⟨Ar,cr,rfl,-⟩:=id hq.rets;obtain⟨Al,cl,rfl,-⟩:=id hl;clear hR p' hq hl t' hB hS hT hL k';unfold og at J c' a' ⊢;go_enter func3,ntmps3;go_wp2_with (refine ot 33 (.tmp 2) rfl ?_);refine⟨vR fun w1 e1=>?_⟩;obtain⟨Q,i'⟩:∃q,q=w.heap.size:=⟨_,rfl⟩;have hQ:w1.heap[Q]?=some (.cells [.string q.nm,.slice Av q.vars.length cv,.slice Ak q.key.length ck,.int .i64 q.pat.op,.slice Aa q.pat.args.length ca,.int .i64 q.pat.ty,.int .i64 q.pat.vr,.int .i64 q.pat.sc,.int .i64 q.pat.sp,.int .i64 q.pat.cond.op,.slice Ac q.pat.cond.args.length cc,.int .i64 q.pat.cond.vr,.int .i64 q.pat.cond.fl,.int .i64 q.pat.cond.kd,.int .i64 q.pat.cond.val.kind,.int .i64 q.pat.cond.val.num,.string q.pat.cond.val.text,.slice Ar q.rets.length cr].toArray 33 (0,0)):=by rw[e1];exact ax _ _ _ i'
 have B':OD w w1:=gb e1;rw[<-i'];have h':=jD B';have d':=jD hQ;clear e1 i' hQ B';go_wp2_with (refine RB rfl 33 (.tmp 2) rfl Q rfl 33 [.string q.nm,.slice Av q.vars.length cv,.slice Ak q.key.length ck,OB q.pat.op,.slice Aa q.pat.args.length ca,OB q.pat.ty,OB q.pat.vr,OB q.pat.sc,OB q.pat.sp,OB q.pat.cond.op,.slice Ac q.pat.cond.args.length cc,OB q.pat.cond.vr,OB q.pat.cond.fl,OB q.pat.cond.kd,OB q.pat.cond.val.kind,OB q.pat.cond.val.num,.string q.pat.cond.val.text,.slice Ar q.rets.length cr].toArray (0,0) _ d'.out underlying33 rfl nf ?_);refine (J.out _ h'.out).mono ?_;rintro e w2 ⟨rfl,f'⟩;have Z:=jD (ae h'.out f');have j':=jD (aw f' d'.out);clear f' d' h' J
 cases fw with
 | false =>
  go_wp2_with fail;refine (r'.out _ Z.out).mono ?_;rintro e wz ⟨rfl,C'⟩;exact fi (ae Z.out C')
 | true =>
 go_wp2_with (refine RB rfl 33 (.tmp 2) rfl Q rfl 33 [.string q.nm,.slice Av q.vars.length cv,.slice Ak q.key.length ck,OB q.pat.op,.slice Aa q.pat.args.length ca,OB q.pat.ty,OB q.pat.vr,OB q.pat.sc,OB q.pat.sp,OB q.pat.cond.op,.slice Ac q.pat.cond.args.length cc,OB q.pat.cond.vr,OB q.pat.cond.fl,OB q.pat.cond.kd,OB q.pat.cond.val.kind,OB q.pat.cond.val.num,.string q.pat.cond.val.text,.slice Ar q.rets.length cr].toArray (0,0) _ j'.out underlying33 rfl nf ?_);refine (c'.out (by trivial) _ Z.out).mono ?_;rintro e w3 ⟨v3,rfl,x',g'⟩;have n':=jD x';obtain⟨A3,c3,rfl,-⟩:=x';have u':=jD (ae Z.out g');have s':=jD (aw g' j'.out);clear g' j';go_wp2_with (refine RB rfl 33 (.tmp 2) rfl Q rfl 33 [.string q.nm,.slice Av q.vars.length cv,.slice Ak q.key.length ck,OB q.pat.op,.slice Aa q.pat.args.length ca,OB q.pat.ty,OB q.pat.vr,OB q.pat.sc,OB q.pat.sp,OB q.pat.cond.op,.slice Ac q.pat.cond.args.length cc,OB q.pat.cond.vr,OB q.pat.cond.fl,OB q.pat.cond.kd,OB q.pat.cond.val.kind,OB q.pat.cond.val.num,.string q.pat.cond.val.text,.slice Ar q.rets.length cr].toArray (0,0) _ s'.out underlying33 rfl nf ?_);refine (a'.out (by trivial) _ u'.out).mono ?_;rintro e w4 ⟨v4,rfl,q',l'⟩;have y':=jD q';obtain⟨A4,c4,rfl,-⟩:=q';have m':=jD (Bl M M _ _ w4 (n'.out.stays oR l') y'.out);rw[O3 (show M=M from rfl)]at m';have E':=jD (ae u'.out l');clear l' s' n' y';have F':(se==se)=true:=by simp
 go_wp2_with fail;refine m'.out.mono ?_;rintro e w5 ⟨rfl,A'⟩;have z':=jD (ae E'.out A');clear A';go_wp2_with fail;refine (r'.out _ z'.out).mono ?_;rintro e w6 ⟨rfl,D'⟩;exact fi (ae z'.out D')
end Go.Proofs.YteemngnialjaiaaGreatDoor
