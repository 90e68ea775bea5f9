/- Part. -/
import Derived.Test.YteemngnialjaiaaGreatDoorQ34
import Derived.Test.YteemngnialjaiaaGreatDoorQ27
set_option maxRecDepth 100000
set_option maxHeartbeats 16000000
set_option linter.unusedVariables false
set_option linter.unusedSimpArgs false
namespace Go.Proofs.YteemngnialjaiaaGreatDoor
open Go.Proofs.Tryz Go.RowKit
variable {i:Nat}{s:Bs}{U:List Int}{l:List Evt}
section
section
variable (gl : Nat -> Option (List Tr)) {U : List Int} {l : List Evt} (hBd : cX U l.length)
include hBd
theorem SetV.bok(h:SetV U i l.length s):BOk (aK s+1) s:=by
 have:=h.merge (b:=[]) ⟨.nil,fun _ h=>by cases h⟩ hBd
 rwa [gT]at this
theorem Hf{b:Bs}(h:BOk i b)(hs:SetV U i l.length s):PuC prog gl 345 [bsT b,bsT s] (bsT (ah b s)):=by
 have h1:=hBd.len;have I:=h.len;have Z:=hs.n63;have hi:i<=l.length:=by have:=hs.ok.last;omega
 exact Bp gl b s h.asc hs.ok.2.1 (fun y hy z J=>by have h1:=(h.ok y hy).2;have I:=(hs.ok.2.2 z J).1;omega) hs.ok.1 (fun y hy=>by
  rcases List.mem_append.1 hy with hy|hy
  ·have:=(h.ok y hy).2;omega
  ·have:=(hs.ok.2.2 y hy).2;omega) om
abbrev wtS(a:Nat)(l:List Evt)(b:Bs)(z:Tr)(S:List Bs)(k:Int):List (Nat × V):=[(0,.p (yTr a)),(1,.p (.elp [scF l])),(3,.p (.elp [bsT b])),(5,.p (.elp [z])),(15,.p (aL S)),(16,.p (tI ((S.map bsT).length:Nat))),(17,.p (tI k))]
noncomputable def wtF(a:Nat)(l:List Evt)(b:Bs)(z:Tr)(S:List Bs)(k:Int):Fr:=⟨48,wtS a l b z S k,none,[]⟩
noncomputable def wtG(a:Nat)(l:List Evt)(b:Bs)(z:Tr)(S:List Bs)(k:Int)(s:Bs)(M:List Bs)(j:Int):Fr:=⟨48,wtS a l b z S k++[(8,.p (bsT s)),(28,.p (aL M)),(29,.p (tI ((M.map bsT).length:Nat))),(30,.p (tI j))],none,[]⟩
abbrev qO(h:FuncId)(l:List Evt)(y:Pt):Tr:=.fn (.func h) [] [.elp [scF l],.elp (pT y).cells]
theorem FK(a y:Pt)(b:Bs)(i:Nat)(F:Bs->Nat->List Bs)(h:FuncId)(hh:h=309\/h=314)(hB:BOk i b)(hS:BL gl l a b i)(Z:∀s∈aU l a b i,SetV U i l.length s)(hF:∀s∈aU l a b i,PuC prog gl h [bsT (ah b s),tI (aK s+1:Nat),.elp [scF l],.elp (pT y).cells] (aL (F (ah b s) (aK s+1)))/\(F (ah b s) (aK s+1)).length<=1048576/\∀m∈F (ah b s) (aK s+1),SetV U (aK s+1) l.length m) :
  SeqA prog gl 344 [] [.elp [scF l],.elp (pT a).cells,.elp [bsT b],.elp [tI i],.elp [qO h l y]] ((ju (aU l a b i) F b).map bsT) unT []:=fun c p hp hf=>by
 have hE:(ju (aU l a b i) F b).map bsT=(aU l a b i).flatMap fun s=>(F (ah b s) (aK s+1)).map fun m=>bsT (ah s m):=by
  unfold ju;rw[List.map_flatMap];simp only[PZ];rfl
 rw[hE]at hp hf ⊢;obtain⟨hs,c'⟩:=hS;generalize aU l a b i=S at *;have I:∀(k:Int)(s:Bs)(M:List Bs)(q:Nat),M.length<=1048576->(∀m∈M,PuC prog gl 345 [bsT s,bsT m] (bsT (ah s m)))->q+(M.map fun m=>bsT (ah s m)).length<=c.n->Feeds prog gl c q (M.map fun m=>bsT (ah s m))->_:=fun k s M q hM hj hq hf =>
  LA (P:=prog) (gl:=gl) (c:=c) (p:=q) (cd:=lpb prog 344 [1,0,0,1,1,0,0,1,1,0]) (e:=.exit 2) (f1:=wtF c.a l b (qO h l y) S k) M (fun m=>[bsT (ah s m)]) (fun j=>wtG c.a l b (qO h l y) S k s M j)
  (fun j m q hm hq hf e τ h=>by
   rw[show ((j+1:Nat):Int)=IntKind.i64.wrap ((j:Int)+1) from (wr1 (sz hm) om).symm]at h;exact LoopP.next [bt,.el (bsT m),bf,bf,bf,bf,.ca (bsT (ah s m)),bf,.yi true (c.O (q+1)) c.X,bf,bf,bf] [0,1,3,5,8,15,16,17,28,29,30] [] rfl h
    (aj8 (ltM bsT (sz hm)) (elM bsT hm) (k0 j) yF yF yF yF (hj m (Pb hm)) (aj5 yF (hf.yt hq) yF yF yF tv)))
  (fun q=>LoopP.stop [bf] [0,1,3,5,15,16,17] [] jS (ai (dI bsT M) tv)) (by rw[fm1];exact hq) (by rw[fm1];exact hf)
 simp only[fm1]at I;have a':∀s∈S,PuC prog gl 345 [bsT b,bsT s] (bsT (ah b s))/\PuC prog gl 346 [bsT s] (tI (aK s))/\IntKind.i64.wrap ((aK s:Int)+1)=(aK s+1:Nat)/\∀m∈F (ah b s) (aK s+1),PuC prog gl 345 [bsT s,bsT m] (bsT (ah s m)):=fun s hs=>by
  have J:=Z s hs;have h1:=hBd.len;have h2:=J.ok.last;exact⟨Hf gl hBd hB J,G8 gl s J.ok.1,by rw[Pv];omega,fun m hm=>Hf gl hBd (J.bok hBd) ((hF s hs).2.2 m hm)⟩
 have hl:=LA (P:=prog) (gl:=gl) (c:=c) (p:=p) (cd:=lpb prog 344 [1,0]) (e:=.exit 0) (f1:=⟨48,[],none,[]⟩) S (fun s=>(F (ah b s) (aK s+1)).map fun m=>bsT (ah s m)) (fun j=>wtF c.a l b (qO h l y) S j)
  (fun j s q hs hq hf e τ hL=>by
   obtain⟨g1,g2,g3,g4⟩:=a' s (Pb hs);obtain⟨k1,k2,-⟩:=hF s (Pb hs);have g5:=I j s _ q k2 g4 hq hf;rw[<-g3]at k1;rw[show ((j+1:Nat):Int)=IntKind.i64.wrap ((j:Int)+1) from (wr1 (sz hs) om).symm]at hL;generalize F (ah b s) (aK s+1)=M at *;have hT:IsS [bt,.el (bsT s),.ca (bsT (ah b s)),.ca (tI (aK s)),.ca (aL M),.lo [0,1,3,5,8,15,16,17,28,29,30] (.exit 2) ⟨c.O (q+(M.map fun m=>bsT (ah s m)).length),wtF c.a l b (qO h l y) S j::c.K,c.X⟩]:=rfl;rcases hh with rfl|rfl<;>exact LoopP.next (A9 hT) [0,1,3,5,15,16,17] [] rfl hL
    (aj7 (ltM bsT (sz hs)) (elM bsT hs) (k0 j) g1 g2 k1 g5 tv))
  (fun q=>LoopP.stop [bf] [] [] jS (ai (dI bsT S) tv)) hp hf
 exact fC [.ca (aL S),.lo [0,1,3,5,15,16,17] (.exit 0) ⟨c.O (p+(S.flatMap fun s=>(F (ah b s) (aK s+1)).map fun m=>bsT (ah s m)).length),⟨48,[],none,[]⟩::c.K,c.X⟩] (aj2 hs hl tv)
omit hBd
abbrev AM(l:List Evt)(a:Pt)(b:Bs)(i:Nat)(z:Tr):Tr:=.fn (.func 344) [] [.elp [scF l],.elp (pT a).cells,.elp [bsT b],.elp [tI i],.elp [z]]
theorem H4(a:Pt)(b:Bs)(i:Nat)(h:FuncId)(us vs:List Tr):PuC prog gl 308 [scF l,pT a,bsT b,tI i,.fn (.func h) us vs] (AM l a b i (.fn (.func h) us vs)):=aq [.sg false []] trivial
theorem Ms(y:Pt)(b:Bs)(j:Nat)(h:BL gl l y b j):PuC prog gl 309 [bsT b,tI j,.elp [scF l],.elp (pT y).cells] (aL (aU l y b j)):=aq [.ca (aL (aU l y b j))] (ai h.1 tv)
theorem KB(y:Pt)(b:Bs)(j:Nat)(h:BL gl l y b j):PuC prog gl 314 [bsT b,tI j,.elp [scF l],.elp (pT y).cells] (aL (aU l y b j)):=aq [.ca (aL (aU l y b j))] (ai h.1 tv)
include hBd
theorem seq_q(x:Pt)(b:Bs)(i:Nat)(hG:GoodQ U l.length x)(a':x.op=1)(hB:BOk i b)(hi:i<=l.length)(hA:∀a∈x.args,mN gl l a)(hr:∀a c r,x.args=a::c::r->mN gl l (ii x (c::r))):zU gl 249 l x b i:=by
 obtain⟨a,r,I⟩:∃a r,x.args=a::r:=by
  cases h:x.args with
  | nil=>rcases hG.good.self.1 with h0|h0|h0<;>first|omega|exact absurd h h0
  | cons a r=>exact⟨a,r,rfl⟩
 have J:a∈x.args:=by rw[I];simp
 have hS:=hA a J b i hB hi;have h0:(x.args.map bP)[(0:Int).toNat]?=some (pT a):=by rw[I];simp[oI]
 cases r with
 | nil =>
  refine⟨343,[.elp [aL (aU l a b i)]],[],by kernel_rfl,?_,?_⟩
  ·exact aq [.sg false [],bt,.el (pT a),.ca (aL (aU l a b i)),.ca (.fn (.func 343) [] [.elp [aL (aU l a b i)]])]
    (aj5 (show (((x.args.map bP).length:Int)==1)=true by rw[I];rfl) h0 i0 hS.1 (Fo gl (aU l a b i)) tv)
  ·have:io l x b i=aU l a b i:=by unfold io;rw[OF om,OG a',I]
   rw[this];exact Hu gl _ hS.2
 | cons c r =>
  have hR:=hr a c r I;have hy:io l x b i=ju (aU l a b i) (aU l (ii x (c::r))) b:=by unfold io;rw[OF om,OG a',I]
  have c':=hG.rest a' I;have Z:=FK gl hBd a (ii x (c::r)) b i (aU l (ii x (c::r))) 309 (.inl rfl) hB hS (fun s hs=>dQ (hG.arg J) hs) (fun s hs=>by
   have hv:=dQ (hG.arg J) hs;have:=hv.ok.last;have hq:=hR (ah b s) (aK s+1) (hv.merge hB hBd) om;exact⟨Ms gl _ _ _ hq,hq.2,fun m hm=>dQ c' hm⟩)
  rw[hy.symm]at Z;refine⟨344,_,[],by kernel_rfl,?_,Z⟩;clear Z hy hR hS hr hA c' hG;obtain⟨op,ar,ty,vr,sc,sp,cd⟩:=x;simp only[Pt.args]at I;subst I;exact aq [.sg false [],bf,.sl,.tn [.fr 0],.el (pT a),.ca (AM l a b i (qO 309 l (ii (.mk op (a::c::r) ty vr sc sp cd) (c::r))))]
   (ai (show (((((a::c::r).map bP).length:Nat):Int)==1)=false by simp;omega) (ai4 (CG bP a (c::r) 14 (fun x=>by cases x;rfl)) (aj3 h0 i0 (H4 gl (l:=l) a b i 309 [] [.elp [scF l],.elp (pT (ii (.mk op (a::c::r) ty vr sc sp cd) (c::r))).cells]) tv)))
noncomputable def wp1(a:Nat)(l:List Evt)(x:Pt)(b:Bs)(i:Int)(S:List Bs)(k:Int):Fr:=⟨47,[(1,.p (.elp [scF l])),(2,.p (.elp (pT x).cells)),(3,.p (.elp [bsT b])),(4,.p (.elp [tI i])),(5,.p (.elp [yTr a])),(16,.p (aL S)),(17,.p (tI ((S.map bsT).length:Nat))),(18,.p (tI k))],none,[]⟩
noncomputable def wpE(a:Nat)(l:List Evt)(x:Pt)(b:Bs)(i:Int):Fr:=⟨47,[(1,.p (.elp [scF l])),(2,.p (.elp (pT x).cells)),(3,.p (.elp [bsT b])),(4,.p (.elp [tI i])),(5,.p (.elp [yTr a]))],none,[]⟩
noncomputable def wp2(a:Nat)(z:Tr):Fr:=⟨47,[(5,.p (.elp [yTr a])),(41,.p z)],none,[]⟩
noncomputable def wpZ:List Lp:=[{ rgl prog 313 [1,1,1,0] ⟨47,[],none,[]⟩ with st:=.exhausted }]
theorem NM(x:Pt)(b:Bs)(i:Nat)(hG:GoodQ U l.length x)(d':x.op=4)(hB:BOk i b)(hi:i<=l.length)(hA:∀a∈x.args,mN gl l a)(hR:∀b' j,i<j->BOk j b'->j<=l.length->BL gl l x b' j):zU gl 252 l x b i:=by
 refine⟨313,_,wpZ,by kernel_rfl,aq (r:=.fn (.func 313) [] [.elp [scF l],.elp (pT x).cells,.elp [bsT b],.elp [tI i]]) [.sg false []] trivial,fun c p hp hf=>?_⟩;obtain⟨a,r,Z⟩:∃a r,x.args=a::r:=by
  cases h:x.args with
  | nil=>rcases hG.good.self.1 with h0|h0|h0<;>first|omega|exact absurd h h0
  | cons a r=>exact⟨a,r,rfl⟩
 have J:a∈x.args:=by rw[Z];simp
 have hS:=hA a J b i hB hi;have h0:(x.args.map bP)[(0:Int).toNat]?=some (pT a):=by rw[Z];simp[oI]
 have c':=FK gl hBd a x b i (aU l x) 314 (.inr rfl) hB hS (fun s hs=>dQ (hG.arg J) hs) (fun s hs=>by
  have hv:=dQ (hG.arg J) hs;have:=hv.ok.last;have hq:=hR (ah b s) (aK s+1) om (hv.merge hB hBd) om;exact⟨KB gl _ _ _ hq,hq.2,fun m hm=>dQ hG hm⟩)
 have hE:(io l x b i).map bsT=(aU l a b i).map bsT++(ju (aU l a b i) (aU l x) b).map bsT:=by
  unfold io;rw[OF om,OF om,OF om,OF om,Z];simp only[];rw[OG d',Pq]
 rw[hE]at hp hf ⊢;obtain⟨f1,f2⟩:=hf.app;rw[OM,<-PP]at hp ⊢;have a':∀(k:Nat)(t:Tr),((ju (aU l a b i) (aU l x) b).map bsT)[k]?=some t->∃s,t=bsT s:=fun k t h=>by
  rw[OQ]at h;obtain⟨s,-,rfl⟩:=Option.map_eq_some_iff.1 h;exact⟨s,rfl⟩
 generalize (ju (aU l a b i) (aU l x) b).map bsT=L2 at *;obtain⟨hs,g'⟩:=hS;generalize aU l a b i=S at *;rw[<-fm1]at hp f1 f2 ⊢;have hl:=LA (P:=prog) (gl:=gl) (c:=c) (p:=p) (cd:=lpb prog 313 [1,0,1,0]) (e:=.exit 0) (f1:=wpE c.a l x b i) S (fun s=>[bsT s]) (fun j=>wp1 c.a l x b i S j)
  (fun j s q hs hq hf e τ h=>by
   rw[show ((j+1:Nat):Int)=IntKind.i64.wrap ((j:Int)+1) from (wr1 (sz hs) om).symm]at h;exact LoopP.next [bt,.el (bsT s),bf,bf,bf,.yi true (c.O (q+1)) c.X,bf,bf,bf] [1,2,3,4,5,16,17,18] [] rfl h (aj8 (ltM bsT (sz hs)) (elM bsT hs) (k0 j) yF yF yF (hf.yt hq) yF (aj2 yF yF tv)))
  (fun q=>LoopP.stop [bf] [1,2,3,4,5] [] jS (ai (dI bsT S) tv)) om f1
 generalize f':p+(S.flatMap fun s=>[bsT s]).length=p' at *;have hr:=(tU (P:=prog) (gl:=gl) (F:=313) (path:=[1,1,1,0]) (f:=wp2 c.a (AM l a b i (qO 314 l x))) (K:=c.K) (X:=c.X) (e1:=.ret) (rs:=unT)
  (H:=fun Y X=>∃pre X1,pre.all Fr.fre=true/\X1.all Lp.fre=true/\Y=pre++c.K/\X=c.X++X1) (fun k=>c.O (p'+k)) L2.length [] .ret []
  (fun c hc hf=>⟨fun hn=>by have:=c' c 0 om hf;rw[Pd]at this;exact this,fun h=>absurd (OI _) h⟩) rfl kr kr
  (fun pre X1 lp h1 h2 h3=>⟨pre++[iT c.X.length,{ wp2 c.a (AM l a b i (qO 314 l x)) with ds:=[c.X.length] }],lp::X1,by rw[RS,h1];rfl,by rw[Qs,h2,Lp.fre,h3];rfl,by simp[wp2],by simp⟩)
  (fun k t hk I=>by
   obtain⟨s,rfl⟩:=a' k t I;have hy:=(f2 k (bsT s) I).1 om;exact Body.chx (fun X2=>[.yi true (c.O (p'+(k+1))) X2,bf]) [] [] [] [] (fun Y X=>YF prog gl (c.O (p'+k)) Y X c.a (bsT s) true (c.O (p'+(k+1))) X/\false=false/\True) (fun _ _ _=>⟨⟨rfl,rfl⟩,rfl,rfl⟩)
    (fun Y X ⟨pre,X1,h1,h2,h3,h4⟩=>by subst h3 h4;exact⟨hy pre X1 h1 h2,rfl,trivial⟩))
  (fun t I=>by rw[PF (OI _)]at I;cases I)).1 (OI _)
 have I:=H4 gl (l:=l) a b i 314 [] [.elp [scF l],.elp (pT x).cells];exact RunT.fg (X1:=c.X) (lp:={ rgl prog 313 [1,1,1,0] (wp2 c.a (AM l a b i (qO 314 l x))) with st:=.exhausted })
  (fC [.sg false [],.el (pT a),.ca (aL S),.lo [1,2,3,4,5,16,17,18] (.exit 0) ⟨c.O p',wpE c.a l x b i::c.K,c.X⟩,.el (pT a),.ca (AM l a b i (qO 314 l x)),.rf [5,41] .normal (rgT prog 313 [1,1,1,0] (wp2 c.a (AM l a b i (qO 314 l x))) c.K c.X (c.O (p'+L2.length)) none)]
   (aj8 h0 i0 hs hl h0 i0 I hr tv))
end
end
section
abbrev psT(ps:List (List Bs)):Tr:=.lst false (ps.map aL)
section
variable (gl : Nat -> Option (List Tr))(hBd : cX U l.length)
theorem Ka(s t:Bs):PuC prog gl 347 [bsT s,bsT t] (tB (!eD s t)):=gU fun F w vs hr=>by
 obtain⟨_,_,rfl,h0,hr⟩:=aA hr;obtain⟨_,_,rfl,h1,hr⟩:=aA hr;obtain rfl:=cm hr;exact Ey s t _ _ w (lH h0) (lH h1)
noncomputable def wmF(a:Nat)(ps:List (List Bs))(h:Tr)(p:List Bs)(k:Int):Fr:=⟨38,[(0,.p (psT ps)),(1,.p h),(2,.p (yTr a)),(17,.p (aL p)),(18,.p (tI ((p.map bsT).length:Nat))),(19,.p (tI k))],none,[]⟩
include hBd in
theorem CQ{i:Nat}(hi:i<=l.length):∀(ps:List (List Bs)),ps.length<=1048576->(∀p∈ps,p.length<=1048576/\∀s∈p,SetV U i l.length s)->∀(w:Bs)(I:Tr),(w=[]\/SetV U i l.length w)->(I=bsT w\/(ps≠[]/\w=[]/\I=.at (.slice none 0 0))) ->
  SeqA prog gl 312 [psT ps,I] [] ((im ps w).map bsT) (.p (tB true)) []
 | [],_,_,w,I,_,ht=>fun c p hp hf=>by
  obtain rfl:I=bsT w:=by
   rcases ht with h|h
   ·exact h
   ·exact absurd rfl h.1
  exact fC [bt,.yi true (c.O (p+1)) c.X] (aj2 yT (Feeds.yt (x:=bsT w) hf hp) tv)
 | P::ps,hn,hps,w,I,hw,ht=>fun c p hp hf=>by
  have hE:(im (P::ps) w).map bsT=P.flatMap fun s=>(E2 ps w s).map bsT:=by rw[Ev,List.map_flatMap]
  rw[hE]at hp hf ⊢;have hP:=hps P jS;have Z:∀F W v,Rp F W I v->Rp F W (bsT w) v:=fun F W v h=>by
   rcases ht with rfl|⟨-,rfl,rfl⟩
   ·exact h
   ·rw[bU h];exact .nil _ _ (OO _)
  have a':w.length<=l.length/\uR w:=by
   rcases hw with rfl|h
   ·exact⟨OO _,.nil⟩
   ·exact⟨h.n63,h.ok.2.1⟩
  have hl:=LA (P:=prog) (gl:=gl) (c:=c) (p:=p) (cd:=lpb prog 312 [1,1,0,1,0]) (e:=.exit 0) (f1:=⟨38,[],none,[]⟩) P (fun s=>(E2 ps w s).map bsT) (fun j=>wmF c.a (P::ps) I P j)
   (fun j s q hs hq hf e τ h=>by
    have J:=hP.2 s (Pb hs);have hm:=PuC.arg (a:=[]) (Ka gl w s) Z;rw[show ((j+1:Nat):Int)=IntKind.i64.wrap ((j:Int)+1) from (wr1 (sz hs) om).symm]at h;unfold E2 at hq hf h
    cases ha:eD w s with
    | true =>
     rw[OG ha]at hq hf h;rw[ha]at hm;have hd:∀x∈w,∀y∈s,x.2≠y.2:=fun x hx y hy e=>by
      have:=List.all_eq_true.1 ha x hx;simp only[Pj,RO,OW]at this;exact this y hy e.symm
     have c':SetV U i l.length (ah w s):=by
      rcases hw with rfl|h
      ·rw[gT];exact J
      ·exact h.mergeP J hd
     have h1:=hBd.len;have h3:=J.n63;have hj:=PuC.arg (a:=[]) (Bp gl w s a'.2 J.ok.2.1 hd J.ok.1 (fun y hy=>by
      rcases List.mem_append.1 hy with hy|hy
      ·rcases hw with rfl|h
       ·cases hy
       ·have:=(h.ok.2.2 y hy).2;omega
      ·have:=(J.ok.2.2 y hy).2;omega) om) Z
     have hr:=(CQ hi ps (by simp at hn;omega) (fun p hp=>hps p (by simp[hp])) (ah w s) (bsT (ah w s)) (.inr c') (.inl rfl)).cf hq hf;exact LoopP.next [bt,.el (bsT s),.ca (tB false),bt,.sl,.ca (bsT (ah w s)),.di (tB true) (c.O (q+((im ps (ah w s)).map bsT).length)) c.X,bt,bf] [0,1,2,17,18,19] [] rfl h
      (aj5 (ltM bsT (sz hs)) (elM bsT hs) (k0 j) hm yT (ai4 (CG aL P ps 1 (fun x=>rfl)) (aj4 hj hr yT yF tv)))
    | false =>
     rw[OF (by simp[ha])]at h;rw[ha]at hm;exact LoopP.next [bt,.el (bsT s),.ca (tB true),bf,bf,bf] [0,1,2,17,18,19] [] rfl h (aj7 (ltM bsT (sz hs)) (elM bsT hs) (k0 j) hm yF yF yF tv))
   (fun q=>LoopP.stop [bf] [] [] jS (ai (dI bsT P) tv)) hp hf
  exact fC [bf,.el (aL P),.lo [0,1,2,17,18,19] (.exit 0) ⟨c.O (p+(P.flatMap fun s=>(E2 ps w s).map bsT).length),⟨38,[],none,[]⟩::c.K,c.X⟩] (aj4 (show (((((P::ps).map aL).length:Nat):Int)==0)=false by simp;omega) (show ((P::ps).map aL)[(0:Int).toNat]?=some (aL P) from rfl) i0 hl tv)
abbrev wlS(a:Nat)(l:List Evt)(x:Pt)(b:Bs)(i:Int)(v:V)(k:Int):List (Nat × V):=[(0,.p (yTr a)),(1,.p (.elp (pT x).cells)),(2,.p (.elp [scF l])),(3,.p (.elp [bsT b])),(4,.p (.elp [tI i])),(6,v),(10,.p (.lst false (x.args.map bP))),(11,.p (tI ((x.args.map bP).length:Nat))),(12,.p (tI k))]
noncomputable def wlI(a:Nat)(l:List Evt)(x:Pt)(b:Bs)(i:Int)(es:List Tr)(k:Int):Sg:=⟨[(0,.row 178 1 es false)],[⟨33,wlS a l x b i (.ref 0) k,none,[]⟩],[]⟩
noncomputable def wlE(a:Nat)(l:List Evt)(es:List Tr):Sg:=⟨[(0,.row 178 1 es false)],[⟨33,[(0,.p (yTr a)),(2,.p (.elp [scF l])),(6,.ref 0)],none,[]⟩],[]⟩
include hBd in
theorem all_q(x:Pt)(b:Bs)(i:Nat)(hG:GoodQ U l.length x)(Z:x.op=3)(hB:BOk i b)(hi:i<=l.length)(hA:∀a∈x.args,mN gl l a)(J:x.args.length<=1048576):zU gl 251 l x b i:=by
 refine⟨311,_,[],by kernel_rfl,aq (r:=.fn (.func 311) [] [.elp (pT x).cells,.elp [scF l],.elp [bsT b],.elp [tI i]]) [.sg false []] trivial,fun c p hp hf=>?_⟩;have hE:io l x b i=im (x.args.map fun a=>aU l a b i) []:=by unfold io;rw[OF om,OF om,OF om,OG Z]
 rw[hE]at hp hf ⊢;have hL:=LoopP.each (P:=prog) (gl:=gl) (N:=0) (c:=lpb prog 311 [1,0,1,0]) (e:=.exit 0) (τ:=wlE c.a l ((x.args.map fun a=>aU l a b i).map aL)) (fun k=>wlI c.a l x b i (((x.args.take k).map fun a=>aU l a b i).map aL) k) x.args.length
  (fun k hk h=>by
   have I:=OH hk;rw[List.take_succ_eq_append_getElem hk,Pq,Pq]at h;obtain⟨hs,c'⟩:=hA _ (OX hk) b i hB hi;generalize x.args[k]=a at I h hs;rw[show ((k+1:Nat):Int)=IntKind.i64.wrap ((k:Int)+1) from (wr1 hk om).symm]at h;have hm:(((x.args.take k).map fun a=>aU l a b i).map aL).length=k:=by simp;omega
   exact LoopP.next [bt,.el (pT a),.ca (aL (aU l a b i)),.ap] [0,1,2,3,4,6,10,11,12] [2] rfl h (aj7 (ltM bP hk) (elP I) (k0 k) hs yT (show (((x.args.take k).map fun a=>aU l a b i).map aL).length+[aL (aU l a b i)].length<=maxLen by rw[hm,aQ];simp;omega) (show ((((x.args.take k).map fun a=>aU l a b i).map aL).length+[aL (aU l a b i)].length)*24<=140737488355328 by rw[hm];simp;omega) tv) [.ren 2 0])
  (by rw[Pp];exact LoopP.stop [bf] [0,2,6] [0] jS (ai (dI bP x.args) tv))
 simp only[List.take_zero,P6]at hL;have a':=LoopP.tns (P:=prog) ⟨[],[⟨33,wlS c.a l x b i (.p (.at (.slice none 0 0))) (0:Nat),none,[]⟩],[]⟩ [.own 6 0 178 1] hL;have hx:=CQ gl hBd hi (x.args.map fun a=>aU l a b i) (jQ J) (fun p hp=>by
  obtain⟨a,I,rfl⟩:=List.mem_map.1 hp;exact⟨(hA a I b i hB hi).2,fun s hs=>dQ (hG.arg I) hs⟩) [] (.at (.slice none 0 0)) (.inl rfl) (.inr ⟨by
   rcases hG.good.self.1 with h0|h0|h0
   ·omega
   ·omega
   ·simpa using h0,rfl,rfl⟩)
 exact fC [.sg true [.lo [0,1,2,3,4,6,10,11,12] (.exit 0) (wlE c.a l ((x.args.map fun a=>aU l a b i).map aL))],bt,.di (tB true) (c.O (p+((im (x.args.map fun a=>aU l a b i) []).map bsT).length)) c.X] (aj3 a' yT (hx.cf hp hf) tv)
end
end
end Go.Proofs.YteemngnialjaiaaGreatDoor
