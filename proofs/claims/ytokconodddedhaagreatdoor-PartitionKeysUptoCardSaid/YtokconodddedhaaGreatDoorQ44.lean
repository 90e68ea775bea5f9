/- Part. -/
import Derived.Test.YtokconodddedhaaGreatDoorQ53
import Derived.Test.YtokconodddedhaaGreatDoorQ34
import Derived.Test.YtokconodddedhaaGreatDoorQ41
set_option maxRecDepth 100000
set_option maxHeartbeats 16000000
set_option linter.unusedVariables false
set_option linter.unusedSimpArgs false
namespace Go.Proofs.YtokconodddedhaaGreatDoor
open Go.Proofs.Tryz Go.RowKit
theorem zq (key:List Int) (pre:List Evt) (x:Evt):cT key (pre++[x])=if (cF key x).2.1 then dF (cT key pre) (cF key x).1 else cT key pre:=by
 unfold cT;rw[Nq];rfl
theorem uS {α:Type} (p:α->Bool) (l:List α) (x:α):(l++[x]).filter p=l.filter p++if p x=true then [x] else []:=by
 rw[MN]
 cases h:p x<;>simp[List.filter,h]
theorem GS {w:World} {A B n sz:Nat} {t:TypeId} {v:Value} {xs:List Value} (h:w.ownsRow B t sz v n xs) (z:A<=B):w.ownsRow A t sz v n xs:=by
 refine⟨h.1,?_⟩;rcases h.2 with D|⟨g,cap,cur,hv,hg,r⟩
 ·exact .inl D
 ·exact .inr ⟨g,cap,cur,hv,Lf z hg,r⟩
def PartRows (B:Nat) (w wr:World) (vs:List Value) (ps:List (List Evt)):Prop:=vs.length=ps.length /\
 ∀(t:Nat) (u:Value) (s:List Evt),vs[t]?=some u->ps[t]?=some s->∃es:List EV,es.map (·.1)=s/\wr.ownsRow B 68 5 u es.length (cn es)/\∀e∈es,aV w e.2 e.1.vals
theorem PartRows.grow {B:Nat} {w wr w':World} {vs:List Value} {ps:List (List Evt)} (h:PartRows B w wr vs ps) (J:KY wr w'):PartRows B w w' vs ps :=
 ⟨h.1,fun t u s D G=>by obtain⟨es,z,I,F⟩:=h.2 t u s D G;exact⟨es,z,aj I J,F⟩⟩
theorem Dk {w:World} {A B n m sz h:Nat} {t F:TypeId} {u v:Value} {xs J:List Value} (I:w.ownsRow A t sz u n xs) (O:w.ownsRow B F h v m J) (z:t≠F) {g:Nat} (hu:u.ownBlock=some g):v.ownBlock≠some g:=fun D=>by
 rcases I.2 with ⟨rfl,_⟩|⟨g1,c1,cur1,rfl,_,hh1,_⟩
 ·simp[Value.ownBlock]at hu
 ·rcases O.2 with ⟨rfl,_⟩|⟨g2,c2,cur2,rfl,_,hh2,_⟩
  ·simp[Value.ownBlock]at D
  ·have G:g1=g:=by simpa [Value.ownBlock] using hu
   have Z:g2=g:=by simpa [Value.ownBlock] using D
   subst G Z;rw[hh1]at hh2
   cases hh2
   exact z rfl
theorem PartRows.app {B C n:Nat} {w wr F J:World} {av u:Value} {vs:List Value} {ps:List (List Evt)} {xs:List Value} {es:List EV} (h:PartRows B w wr vs ps) (hb:KY wr F) (hu:F.ownsRow B 68 5 u es.length (cn es))
  (Z:∀e∈es,aV w e.2 e.1.vals) (O:F.ownsRow C 34 1 av n xs) (hg:F.grownBy J av.ownBlock):PartRows B w J (vs++[u]) (ps++[es.map (·.1)]):=by
 have keep:∀{I:Value} {m:Nat} {cs:List Value},F.ownsRow B 68 5 I m cs->J.ownsRow B 68 5 I m cs:=fun hr=>aT hr fun g G=>hg.block g (ah hr G).2 (fun e=>Dk hr O dc G e.symm)
 refine⟨by simp[h.1],fun t I s z D=>?_⟩
 by_cases ht:t<vs.length
 ·rw[LR ht]at z;rw[LR (by rw[<-h.1];exact ht)]at D;obtain⟨es',e1,e2,e3⟩:=h.2 t I s z D;exact⟨es',e1,keep (aj e2 hb),e3⟩
 ·rw[Mf om]at z;rw[Mf (by rw[<-h.1];omega)]at D;rw[<-h.1]at D;obtain⟨i,hi⟩:=jE (t-vs.length);rw[hi]at z D
  match i,z,D with
  | 0,z,D =>
   simp at z D;subst z D;exact⟨es,rfl,keep hu,Z⟩
  | i+1,z,D=>simp at z
theorem rK {B:Nat} {w wr:World} {vs:List Value} {ps:List (List Evt)} (h:PartRows B w wr vs ps) (hw:KY w wr):Means nY 1 wr vs ps:=by
 refine⟨by rw[LL];exact h.1,fun u hu=>?_,fun W b o J O k y hk=>?_⟩
 ·obtain⟨t,I,rfl⟩:=MK hu;have z:t<ps.length:=by rw[<-h.1];exact I
  obtain⟨es,_,F,_⟩:=h.2 t _ _ (K9 I) (K9 z);obtain⟨A,c,e⟩:=ay F;rw[e];rfl
 ·have D:k<vs.length:=by rw[h.1];exact (List.getElem?_eq_some_iff.1 hk).1
  have G:=K9 D;obtain⟨es,rfl,F,Z⟩:=h.2 k _ _ G hk;refine⟨vs[k],dC (gk fun e he=>(Z e he).stays aC (hw.trans (J.mono hw.size))) (La _ _) (by rw[Lm];exact aj F J),?_⟩;rw[LL];exact O k _ G
theorem zJ (l:List Evt) (key:List Int) (v vk:Value) (w:World) (hl:bm w v l) (hk:bD w vk key) :
  Calls prog 86 #[v,vk] w (mG w (dI key l)):=by
 have HK:=jD hk;have Q0:=jD (xd l v w hl);obtain⟨A,c,rfl,l1,l2,T0⟩:=hl;obtain⟨Ak,ck,rfl,-⟩:=hk;have O2:=ax l1 l2;obtain⟨se,M'⟩:=jE (bC l);have E':=jD M';obtain⟨R,hR⟩:=jE (dI key l);have Z0:=jD hR;rw[hR];rw[M']at Q0;have A0:=jD T0;clear M' hR T0 l1 l2;go_enter func86,ntmps86;go_wp2_with fail;refine Q0.out.mono ?_;rintro e w2 ⟨rfl,Y'⟩;have K0:=jD Y';clear Y'
 by_cases h0:se=0
 case neg =>
  have Y2:(se != 0)=true:=jQ h0;have HX:Hid (R=(([],[]),se)):=jD (by rw[<-Z0.out,dI,lm E'.out h0,K7 h0]);clear h0;go_wp2_with fail;rw[HX.out];exact Lc (v:=.tuple #[.slice none 0 0,.slice none 0 0,KW se]) (by simp[results,results86,go_sem]) rfl ⟨_,_,rfl,Sl.nil _ _ _ _ _ (Lb _),Sl.nil _ _ _ _ _ (Lb _),K0.out⟩
 subst h0;obtain⟨R1,hlen⟩:=gx E'.out;have A1:Hid (∀E,dB (fun _ e=>(cF key e).2.2) none l=E->R=if E≠0 then (([],[]),E) else ((cT key l,dw key l),0)):=jD fun E hE=>by rw[<-Z0.out,dI,sZ E'.out,hE]
 clear R1;have hj:=LD ju;have hq:=LD gw;obtain⟨j0,hj,N2,Z1,W1⟩:=hj;obtain⟨q0,hq,M1,U1,P1⟩:=hq;obtain⟨ES,F'⟩:=eh (dB (fun _ e=>(cF key e).2.2) none l);go_wp2_with fail
 go_loopw [8,9] (fun av i wr=>∃k:Nat,k<=l.length/\i=KW k/\Hid (aV wr av (cT key (l.take k)))/\Hid (dB (fun _ e=>(cF key e).2.2) (gi l k) (l.drop k)=ES/\KY w wr)) (fun _ i _=>l.length-(intOf i).toNat)
 case atStart=>exact⟨0,Lb _,rfl,jD (Sl.nil _ _ _ _ _ (Lb _)),jD ⟨F'.out,K0.out⟩⟩
 case round =>
  obtain⟨k,hk,rfl,q',hI⟩:=hrel;have hb:=hI.out.2;obtain⟨Ar,cr,rfl,-⟩:=id q'.out;have B':(cT key (l.take k)).length<=4096:=by
   have h1:=Fe key (l.take k);rw[Ml]at h1;omega
  by_cases H0:k<l.length
  ·have S1:(k:Int)<(l.length:Int):=by omega
   obtain⟨b,o,rfl,ve,Z,d0,d1,d2,d3,d4⟩:=A0.out k l[k] (K9 H0);have hg:=jD (K9 H0);obtain⟨x,hx⟩:∃a,a=l[k]:=⟨_,rfl⟩;rw[<-hx]at hg Z d0 d1 d2 d3;clear hx;have t':=jD Z;obtain⟨Av,cv,rfl,-⟩:=Z;have H':b<w.heap.size:=K8 w ⟨b,_,none⟩ d0;replace d0:=aa hb d0;replace d1:=aa hb d1;replace d2:=aa hb d2;replace d3:=aa hb d3;replace d4:=aa hb d4;have X0:b<wr.heap.size:=Ll H' hb.size;obtain⟨⟨F,ok,er⟩,hQ⟩:∃r,cF key x=r:=⟨_,rfl⟩;have HC:=jD (fun (W:World) (I:KY wr W)=>xn key x _ _ W (HK.out.stays aL (ab hb I)) (t'.out.stays aC (ab hb I)));rw[hQ]at HC;unfold cJ at HC;have HQ:=jD hQ;have I':=jD (aX hg.out);have D':=jD (fun (W:World) (I:KY wr W)=>DJ (cT key (l.take k)) F _ W (q'.out.stays aC I) B');unfold vlV at D';have E1:Hid (cT key (l.take (k+1))=if ok then dF (cT key (l.take k)) F else cT key (l.take k)):=jD (by rw[I'.out,zq,hQ]);obtain⟨nk,e'⟩:∃n,n=(cT key (l.take k)).length:=⟨_,rfl⟩;have j':=jD e';rw[<-e']at D' ⊢;clear hQ e';go_wp2_with fail;refine (HC.out _ ?_).mono ?_
   ·exact jB
   unfold pP vlV;rintro e w4 ⟨rfl,l'⟩;have r':Hid (KY wr w4):=jD (ab (by exact jB) l');have C':Hid (KY w w4):=jD (ab hb r'.out);clear l' d0 d1 d2 d3 d4
   by_cases hz:er=0
   case neg =>
    have HX:Hid (R=(([],[]),er)):=jD (by
     have h5:=et hg.out hI.out.1 (by rw[HQ.out]) hz;rw[A1.out _ F'.out,<-h5,K7 hz])
    have U2:(er != 0)=true:=jQ hz;clear hz;go_wp2_with fail;rw[HX.out];exact Lc (v:=.tuple #[.slice none 0 0,.slice none 0 0,KW er]) (by simp[results,results86,go_sem]) rfl ⟨_,_,rfl,Sl.nil _ _ _ _ _ (Lb _),Sl.nil _ _ _ _ _ (Lb _),aJ C'.out _⟩
   subst hz;have X':=jD (lY hg.out hI.out.1 (by rw[HQ.out]))
   cases ok with
   | false =>
    have D:Hid (cT key (l.take (k+1))=cT key (l.take k)):=jD (by rw[E1.out];rfl);have N0:=jD (q'.out.stays aC (aJ r'.out (.cells #[.int .i64 F.kind,.int .i64 F.num,.string F.text] 27 (0,0))));rw[<-j'.out]at N0;go_wp2_with fail;exact⟨⟨k+1,by omega,by go_num,jD (by rw[D.out];exact N0.out),jD ⟨X'.out,aJ C'.out _⟩⟩,by simp[intOf];omega⟩
   | true =>
    have D:Hid (cT key (l.take (k+1))=dF (cT key (l.take k)) F):=jD (by rw[E1.out];rfl);go_wp2_with fail;refine (D'.out _ ?_).mono ?_
    ·exact aJ r'.out _
    rintro e w5 ⟨u5,rfl,V0,U0⟩;have X1:=jD V0;obtain⟨A5,c5,rfl,-⟩:=V0;have N1:=jD (ab (aJ C'.out _) U0);clear U0;go_wp2_with fail;exact⟨⟨k+1,by omega,by go_num,jD (by rw[D.out];exact X1.out),jD ⟨X'.out,N1.out⟩⟩,by simp[intOf];omega⟩
  ·have S1:¬(k:Int)<(l.length:Int):=by omega
   obtain rfl:k=l.length:=by omega
   have z':=mS (Ld _) hI.out.1;have HR:=jD (A1.out _ F'.out);rw[<-z',K6 jS]at HR;obtain⟨nk,e'⟩:∃n,n=(cT key (l.take l.length)).length:=⟨_,rfl⟩;have y':=q';rw[<-e']at y' B' ⊢;rw[LX]at y' e';have j':=jD e';have S2:nk<=4096:=B';obtain⟨Ae,ce,Z,e1,e2,A'⟩:=id y'.out;injection Z with q1 q2 q3;subst q1 q3;have B2:=jD A';clear A' e1 e2 q2 e' q' z';go_wp2_with fail;have s':=jD hb;obtain⟨wa,rfl⟩:∃wa:World,wa=wr:=⟨_,rfl⟩;have S0:(dw key l).length=nk:=by rw[j'.out];simp[dw]
   have P0:=jD S0;clear S0
   go_loopw [13,14] (fun av i wr=>∃(j:Nat) (vs:List Value),j<=nk/\i=KW j/\Hid (wr.ownsRow wa.heap.size 34 1 av j vs)/\Hid (PartRows wa.heap.size w wr vs ((dw key l).take j)/\KY wa wr)) (fun _ i _=>nk-(intOf i).toNat)
   case atStart=>exact⟨0,[],Lb _,rfl,jD ⟨rfl,.inl ⟨rfl,rfl⟩⟩,jD ⟨⟨rfl,fun t u s h=>by simp at h⟩,La _ _⟩⟩
   case round =>
    obtain⟨j,vs,Z2,rfl,d',hP⟩:=hrel;obtain⟨Ao,co,rfl⟩:=ay d'.out;have k':=hP.out.2
    by_cases X2:j<nk
    ·have Y1:(j:Int)<(nk:Int):=by omega
     have u':(cT key l)[j]?=some ((cT key l)[j]'(by have:=j'.out;omega)):=K9 (by have:=j'.out;omega);obtain⟨y,hy⟩:∃y,y=(cT key l)[j]'(by have:=j'.out;omega):=⟨_,rfl⟩;rw[<-hy]at u';obtain⟨bk,V',rfl,y0,y1,y2⟩:=B2.out j y u';have W2:bk<wa.heap.size:=K8 wa ⟨bk,_,none⟩ y0;have HY:=jD (And.intro y0 (And.intro y1 y2));have T1:Hid ((dw key l).take (j+1)=(dw key l).take j++[l.filter (gO key y)]):=jD (aX (by unfold dw;rw[LI,u'];rfl));clear hy u' y0 y1 y2;go_wp2_with fail;have P':=jD k';have K1:=k'.size;obtain⟨wb,rfl⟩:∃wb:World,wb=wr:=⟨_,rfl⟩;have Q2:=s'.out.size;clear k'
     go_loopw [15,16] (fun pv i wr=>∃(m:Nat) (es:List EV),m<=l.length/\i=KW m/\Hid (wr.ownsRow wb.heap.size 68 5 pv es.length (cn es))/\Hid (es.map (·.1)=(l.take m).filter (gO key y)/\(∀e∈es,aV w e.2 e.1.vals)/\KY wb wr)) (fun _ i _=>l.length-(intOf i).toNat)
     case atStart=>exact⟨0,[],Lb _,rfl,jD ⟨rfl,.inl ⟨rfl,rfl⟩⟩,jD ⟨by simp,by simp,La _ _⟩⟩
     case round =>
      obtain⟨m,es,A3,rfl,z,hE⟩:=hrel;obtain⟨Ap,cp,rfl⟩:=ay z.out;have c':=hE.out.2.2;have V2:=c'.size;have O:KY w wr:=ab (ab s'.out P'.out) c';have E2:es.length<=m:=by
       have h:=congrArg List.length hE.out.1;rw[Lm]at h;have h2:=MH (gO key y) (l.take m);rw[Ml]at h2;omega
      obtain⟨ne,G'⟩:∃n,n=es.length:=⟨_,rfl⟩;have D:=jD G';rw[<-G']at z E2 ⊢;clear G'
      by_cases O0:m<l.length
      ·have K2:(m:Int)<(l.length:Int):=by omega
       obtain⟨b,o,rfl,ve,Z,d0,d1,d2,d3,d4⟩:=A0.out m l[m] (K9 O0);have hg:=jD (K9 O0);obtain⟨x,hx⟩:∃a,a=l[m]:=⟨_,rfl⟩;rw[<-hx]at hg Z d0 d1 d2 d3;clear hx;have t':=jD Z;obtain⟨Av,cv,rfl,-⟩:=Z;have H':b<w.heap.size:=K8 w ⟨b,_,none⟩ d0;have HD:=jD (And.intro d0 (And.intro d1 (And.intro d2 (And.intro d3 d4))));replace d0:=aa O d0;replace d1:=aa O d1;replace d2:=aa O d2;replace d3:=aa O d3;replace d4:=aa O d4;have X0:b<wr.heap.size:=Ll H' O.size;obtain⟨⟨F,ok,er⟩,hQ⟩:∃r,cF key x=r:=⟨_,rfl⟩;have HC:=jD (fun (W:World) (I:KY wr W)=>xn key x _ _ W (HK.out.stays aL (ab O I)) (t'.out.stays aC (ab O I)));rw[hQ]at HC;unfold cJ at HC;have HQ:=jD hQ;have I':=jD (aX hg.out);clear hQ;go_wp2_with fail;refine (HC.out _ ?_).mono ?_
       ·exact jB
       unfold pP vlV;rintro e w4 ⟨rfl,l'⟩;have r':Hid (KY wr w4):=jD (ab (by exact jB) l');clear l' d0 d1 d2 d3 d4;go_wp2_with fail;refine aP fun w6 e6=>?_
       obtain⟨V,hV⟩:∃q,q=w4.heap.size:=⟨_,rfl⟩;have v0:KX w6 V 0 (KW F.kind):=by rw[e6,hV];show _=_;go_simp
       have v1:KX w6 V 1 (KW F.num):=by rw[e6,hV];show _=_;go_simp
       have v2:KX w6 V 2 (.string F.text):=by rw[e6,hV];show _=_;go_simp
       have N':KY wr w6:=ab r'.out (gb e6);have a':=ab c' N';have i':=ab P'.out a';have y0:=aa i' HY.out.1;have y1:=aa i' HY.out.2.1;have y2:=aa i' HY.out.2.2;have T2:=K8 w6 ⟨V,_,none⟩ v0;have P2:=K8 w6 ⟨bk,_,none⟩ y0;rw[<-hV];have Z':=jD N';have R0:Hid (gO key y x=(ok&&cC F y)):=jD (by unfold gO;rw[HQ.out]);have J':Hid ((l.take (m+1)).filter (gO key y)=(l.take m).filter (gO key y)++if gO key y x=true then [x] else []):=jD (by rw[I'.out,uS]);clear e6 hV N' i'
       cases ok with
       | true =>
        obtain⟨r,hr⟩:=jF (cC F y);have he:∀W,(binOp .eql 27 (.agg #[KW F.kind,KW F.num,.string F.text]) (.agg #[KW y.kind,KW y.num,.string y.text])).run prog W=.ok (.bool r) W:=fun W=>by rw[hr];exact vu F y W
        have x':Hid (gO key y x=r):=jD (by rw[R0.out,<-hr];rfl);clear hr;refine rgn (fun W:World=>KY w6 W/\KX W V 0 (KW F.kind)/\KX W V 1 (KW F.num)/\KX W V 2 (.string F.text)/\KX W bk (V'+j*3) (KW y.kind)/\KX W bk (V'+j*3+1) (KW y.num)/\KX W bk (V'+j*3+2) (.string y.text)) (Below w6.heap.size w6) (fun W I=>⟨I,aa I v0,aa I v1,aa I v2,aa I y0,aa I y1,aa I y2⟩) ((La _ _).drew) (fun T' h'=>?_);refine tkH [0,1,2,3,4,5,6,7,8] ?_;refine wpAnyH_done kr (NoPanic.normal ?_) _;rotate_left 1;refine lp (Q:=Exit.then _ _) fun w7 e7=>?_
        have f':KY w6 w7:=gb e7;have b':=jD (ab Z'.out f');have n':=jD (ab a' f');clear h' T' e7 f' a'
        cases r with
        | true =>
         have G:=ab O b'.out;have d0:=aa G HD.out.1;have d1:=aa G HD.out.2.1;have d2:=aa G HD.out.2.2.1;have d3:=aa G HD.out.2.2.2.1;have d4:=aa G HD.out.2.2.2.2;have R2:=K8 w7 ⟨b,_,none⟩ d0;clear G;go_wp2_with (at_builtin;refine aR _ rfl (.tmp 79) (.tmp 84) 34 rfl wb.heap.size 68 j0 _ 5 56 underlying34 hj N2 Z1 W1 rfl dc (.slice Ap ne cp) ne (cn es) rfl (aj z.out (ab b'.out (ag _ _))) (some ⟨w7.heap.size,0,none⟩) 1 1 [KW x.src,KW x.sq,KW x.ty,KW x.tm,.slice Av x.vals.length cv] rfl (bE _ [KW x.src,KW x.sq,KW x.ty,KW x.tm,.slice Av x.vals.length cv] _ 1 5 _ jS rfl (by intro u hu;simp only[Lv,LM,LN]at hu;rcases hu with rfl|rfl|rfl|rfl|rfl<;>rfl)) (by unfold maxLen;omega) om (by simp;have:=b'.out.size;omega) ?_;intro v8 w8 J p' U');have R':KY wb w8:=(ab c' (ab b'.out (ag _ _))).trans (am p' (by simp;have:=b'.out.size;omega) (fun g h=>(ah z.out h).1));have V1:Hid (w8.ownsRow wb.heap.size 68 5 v8 (es++[(x,Value.slice Av x.vals.length cv)]).length (cn (es++[(x,Value.slice Av x.vals.length cv)]))):=jD (by rw[Le,<-D.out,jM];exact J);refine⟨⟨m+1,es++[(x,.slice Av x.vals.length cv)],by omega,by go_num,V1,jD ⟨?_,?_,R'⟩⟩,by simp[intOf];omega⟩
         ·rw[J'.out,x'.out,LH,hE.out.1];rfl
         ·intro e he;rcases List.mem_append.1 he with he|he
          ·exact hE.out.2.1 e he
          ·rw[Lz]at he;subst he;exact t'.out
        | false =>
         have m':=jD (aj z.out b'.out);rw[D.out]at m';rw[D.out];go_wp2_with fail;refine⟨⟨m+1,es,by omega,by go_num,m',jD ⟨?_,hE.out.2.1,n'.out⟩⟩,by simp[intOf];omega⟩;rw[J'.out,x'.out,hE.out.1];simp
       | false =>
        have x':Hid (gO key y x=false):=jD (by rw[R0.out];rfl);refine rgn (fun W:World=>KY w6 W/\KX W V 0 (KW F.kind)/\KX W V 1 (KW F.num)/\KX W V 2 (.string F.text)) (Below w6.heap.size w6) (fun W I=>⟨I,aa I v0,aa I v1,aa I v2⟩) ((La _ _).drew) (fun T' h'=>?_);refine tkH [0,1] ?_;refine tkS [2,3,4,5,6,7] ?_;refine tkH [8] ?_;refine wpAnyH_done kr (NoPanic.normal ?_) _;rotate_left 1;refine lp (Q:=Exit.then _ _) fun w7 e7=>?_
        have f':KY w6 w7:=gb e7;have b':=jD (ab Z'.out f');have n':=jD (ab a' f');clear h' T' e7 f' a';have m':=jD (aj z.out b'.out);rw[D.out]at m';rw[D.out];go_wp2_with fail;refine⟨⟨m+1,es,by omega,by go_num,m',jD ⟨?_,hE.out.2.1,n'.out⟩⟩,by simp[intOf];omega⟩;rw[J'.out,x'.out,hE.out.1];simp
      ·have K2:¬(m:Int)<(l.length:Int):=by omega
       obtain rfl:m=l.length:=by omega
       have S':=hE.out.1;rw[LX]at S';have Y0:Hid (PartRows wa.heap.size w wb vs ((dw key l).take j)/\(dw key l).take (j+1)=(dw key l).take j++[es.map (·.1)]):=jD ⟨hP.out.1,by rw[T1.out,S']⟩;have g':=GS z.out K1;rw[D.out]at g';have O':=jD g';have O1:=jD hE.out.2.1;clear S' g';go_wp2_with (at_builtin;refine aR _ rfl (.tmp 86) (.tmp 88) 60 rfl wa.heap.size 34 q0 _ 1 24 underlying60 hq M1 U1 P1 rfl dc (.slice Ao j co) j vs rfl (aj d'.out (ab c' (ag _ _))) (some ⟨wr.heap.size,0,none⟩) 1 1 [.slice Ap ne cp] rfl (bE _ [.slice Ap ne cp] _ 1 1 _ jS rfl (by intro u hu;simp only[Lv,LM,LN]at hu;rcases hu with rfl;rfl)) (by unfold maxLen;omega) om (by simp;omega) ?_;intro v8 w8 J p' U');have R':KY wa w8:=(ab P'.out (ab c' (ag _ _))).trans (am p' (by simp;omega) (fun g h=>(ah d'.out h).1));refine⟨⟨j+1,vs++[.slice Ap ne cp],by omega,by go_num,jD J,jD ⟨?_,R'⟩⟩,by simp[intOf];omega⟩;rw[Y0.out.2];rw[D.out]at J p' ⊢;exact Y0.out.1.app (ab c' (ag _ _)) (aj O'.out (ag _ _)) O1.out (aj d'.out (ab c' (ag _ _))) p'
    ·have Y1:¬(j:Int)<(nk:Int):=by omega
     obtain rfl:j=nk:=by omega
     have L':=hP.out.1;rw[Mn (by rw[P0.out];exact Ld _)]at L';have A2:Hid (Sl nY 1 wr (.slice Ao j co) (dw key l)):=jD (dC (rK L' (ab s'.out k')) (La _ _) (by rw[P0.out];exact d'.out));have Q1:=jD (y'.out.stays aC k');have H2:=jD (ab s'.out k');clear L';go_wp2_with fail;rw[HR.out];exact Lc (v:=.tuple #[.slice Ar j cr,.slice Ao j co,KW 0]) (by simp[results,results86,go_sem]) rfl ⟨_,_,rfl,Q1.out,A2.out,H2.out⟩
theorem zL (d:Nat) (x:Pt) (v vc:Value) (w:World) (hx:aW d w v x.args) (k':aF d w vc x.cond.args) (hN:aM x.cond<=1048576) :
  KZ 197 #[ptV x v vc] w (KW (ptE x)):=by
 have G:=jD (fun (W:World) (hW:KY w W)=>zd d x.cond vc W (k'.stays (ai d) hW) hN);have D:=jD (fun (W:World) (hW:KY w W)=>ze d 0 x.cond mf vc (.slice none 0 0) W (k'.stays (ai d) hW) (AO W));obtain⟨A,c,rfl,h1,h2,-⟩:=hx;obtain⟨Ac,cc,rfl,-⟩:=k';have hlen:=ax h1 h2;obtain⟨nc,l'⟩:=jE x.cond.args.length;rw[l']at G D ⊢;have Z:=jD (fun W=>EJ x A c Ac nc cc W);have F:=jD (fun W=>pF x (.slice A x.args.length c) Ac nc cc W);have J:=jD (fun W=>rd x (.slice A x.args.length c) Ac nc cc W);have I:=jD (fun W=>wT x (.slice A x.args.length c) Ac nc cc W);have O:=jD (fun W=>E5 x (.slice A x.args.length c) Ac nc cc W);obtain⟨n,hn⟩:=jE x.args.length
 by_cases j':x.op<0\/10<x.op
 ·have hE:ptE x=1:=by unfold ptE;rw[K7 j']
  rw[hE,hn];clear G D hE hn l' hlen h1 h2 Z F J I O;obtain⟨op,l,ty,vr,sc,sp,⟨d',l2,e',h',g',⟨k0,n0,t0⟩⟩⟩:=x;unfold ptV;simp only[Pt.op,Pt.ty,Pt.vr,Pt.sc,Pt.sp,Pt.cond,Ex.op,Ex.vr,Ex.fl,Ex.kd,Ex.val]at j' ⊢
  by_cases ho:op<0
  ·clear j';go_enter func197,ntmps197;go_wp2;go_ret;exact⟨rfl,ag w _⟩
  ·have u':10<op:=by omega
   clear j';go_enter func197,ntmps197;go_wp2;go_ret;exact⟨rfl,ag w _⟩
 have i':¬x.op<0:=by omega
 have f':¬10<x.op:=by omega
 have hE:=FI x om om;rw[hE];obtain⟨b1,e1⟩:∃b,dq (bX x.op) x.ty 15=b:=⟨_,rfl⟩;obtain⟨b2,e2⟩:∃b,dq (bX x.op) x.vr 15=b:=⟨_,rfl⟩;obtain⟨b3,e3⟩:∃b,dq (fz x.op) x.sc 63=b:=⟨_,rfl⟩;obtain⟨b4,e4⟩:∃b,dq (fB x.op) x.sp 1099511627776=b:=⟨_,rfl⟩;have a':=jD (fun W=>lS (bX x.op) x.ty 15 W);have b':=jD (fun W=>lS (bX x.op) x.vr 15 W);have h:=jD (fun W=>lS (fz x.op) x.sc 63 W);have c':=jD (fun W=>lS (fB x.op) x.sp 1099511627776 W);obtain⟨z,hz⟩:=jE (fJ x.cond);obtain⟨q,hq⟩:=jE (dX x.cond mf);rw[e1]at a';rw[e2]at b';rw[e3]at h;rw[e4]at c';rw[hz]at G;rw[hq]at D;rw[e1,e2,e3,e4,hz,hq];obtain⟨r,hr⟩:=jE (gU x.op x.args.length);rw[hr]at Z ⊢;rw[hn]at Z F J I O hlen ⊢;have p':fz x.op=(rM x.op || fB x.op):=rfl;rw[p']at h ⊢;obtain⟨vb,s'⟩:∃b,bX x.op=b:=⟨_,rfl⟩;obtain⟨cb,m'⟩:∃b,lP x.op=b:=⟨_,rfl⟩;obtain⟨nb,n'⟩:∃b,rM x.op=b:=⟨_,rfl⟩;obtain⟨pb,r'⟩:∃b,fB x.op=b:=⟨_,rfl⟩;rw[s']at F a' b' ⊢;rw[m']at O ⊢;rw[n']at J h ⊢;rw[r']at I h c' ⊢;obtain⟨R,hR⟩:∃R,R=(if r=false then (15:Int) else if b1=true\/b2=true\/b3=true\/b4=true then 2 else if cb=true/\z≠0 then z else if (cb=false/\q=false)\/(vb || decide (x.ty=0))=false\/(vb || decide (x.vr=0))=false\/((nb || pb) || decide (x.sc=0))=false\/(pb || decide (x.sp=0))=false then 3 else 0):=⟨_,rfl⟩;rw[<-hR];have HR:=jD hR;clear hR hE e1 e2 e3 e4 hz hq s' m' n' r' hn l' h1 h2 j' hr p'
 obtain⟨op,l,ty,vr,sc,sp,⟨d',l2,e',h',g',⟨k0,n0,t0⟩⟩⟩:=x;unfold ptV at Z F J I O ⊢;unfold exV at G D;unfold mf au at D;simp only[Pt.op,Pt.ty,Pt.vr,Pt.sc,Pt.sp,Pt.cond,Ex.op,Ex.vr,Ex.fl,Ex.kd,Ex.val]at i' f' a' b' h c' Z F J I O G D HR ⊢
 cases r with
 | false =>
  obtain rfl:R=15:=by rw[HR.out];simp
  clear HR a' b' h c' F J I O G D;go_enter func197,ntmps197;go_wp2_with fail;refine (Z.out _).mono ?_;rintro e w1 ⟨rfl,q'⟩;have t':=jD (ab (ag w _) q');clear q';exact fi t'.out
 | true =>
  cases nb with
  | true =>
   simp only[Bool.true_or,Bool.false_or]at h HR
   cases b1 with
   | true=>exact DX A c Ac cc nc n z q vb cb pb b2 b3 b4 op ty vr sc sp d' e' h' g' k0 n0 t0 w R i' f' ⟨G.out,D.out,Z.out,F.out,J.out,I.out,O.out,a'.out,b'.out,h.out,c'.out⟩ (jD (by rw[HR.out];simp))
   | false =>
    cases b2 with
    | true=>exact Dn A c Ac cc nc n z q vb cb pb b3 b4 op ty vr sc sp d' e' h' g' k0 n0 t0 w R i' f' ⟨G.out,D.out,Z.out,F.out,J.out,I.out,O.out,a'.out,b'.out,h.out,c'.out⟩ (jD (by rw[HR.out];simp))
    | false =>
     cases b3 with
     | true=>exact Do A c Ac cc nc n z q vb cb pb b4 op ty vr sc sp d' e' h' g' k0 n0 t0 w R i' f' ⟨G.out,D.out,Z.out,F.out,J.out,I.out,O.out,a'.out,b'.out,h.out,c'.out⟩ (jD (by rw[HR.out];simp))
     | false =>
      cases b4 with
      | true=>exact Cy A c Ac cc nc n z q vb cb pb op ty vr sc sp d' e' h' g' k0 n0 t0 w R i' f' ⟨G.out,D.out,Z.out,F.out,J.out,I.out,O.out,a'.out,b'.out,h.out,c'.out⟩ (jD (by rw[HR.out];simp))
      | false =>
       exact Dq A c Ac cc nc n z q vb cb pb op ty vr sc sp d' e' h' g' k0 n0 t0 w R i' f' ⟨G.out,D.out,Z.out,F.out,J.out,I.out,O.out,a'.out,b'.out,h.out,c'.out⟩ (jD (by rw[HR.out,K6 jS,K6 jS];rfl))
  | false =>
   simp only[Bool.true_or,Bool.false_or]at h HR
   cases b1 with
   | true=>exact CJ A c Ac cc nc n z q vb cb pb b2 b3 b4 op ty vr sc sp d' e' h' g' k0 n0 t0 w R i' f' ⟨G.out,D.out,Z.out,F.out,J.out,I.out,O.out,a'.out,b'.out,h.out,c'.out⟩ (jD (by rw[HR.out];simp))
   | false =>
    cases b2 with
    | true=>exact Ci A c Ac cc nc n z q vb cb pb b3 b4 op ty vr sc sp d' e' h' g' k0 n0 t0 w R i' f' ⟨G.out,D.out,Z.out,F.out,J.out,I.out,O.out,a'.out,b'.out,h.out,c'.out⟩ (jD (by rw[HR.out];simp))
    | false =>
     cases b3 with
     | true=>exact Di A c Ac cc nc n z q vb cb pb b4 op ty vr sc sp d' e' h' g' k0 n0 t0 w R i' f' ⟨G.out,D.out,Z.out,F.out,J.out,I.out,O.out,a'.out,b'.out,h.out,c'.out⟩ (jD (by rw[HR.out];simp))
     | false =>
      cases b4 with
      | true=>exact DN A c Ac cc nc n z q vb cb pb op ty vr sc sp d' e' h' g' k0 n0 t0 w R i' f' ⟨G.out,D.out,Z.out,F.out,J.out,I.out,O.out,a'.out,b'.out,h.out,c'.out⟩ (jD (by rw[HR.out];simp))
      | false =>
       exact DA A c Ac cc nc n z q vb cb pb op ty vr sc sp d' e' h' g' k0 n0 t0 w R i' f' ⟨G.out,D.out,Z.out,F.out,J.out,I.out,O.out,a'.out,b'.out,h.out,c'.out⟩ (jD (by rw[HR.out,K6 jS,K6 jS];rfl))
theorem kI {D:Nat} {w:World} {A:Option Addr} {n c:Nat} {l:List Pt} (h:aW D w (.slice A n c) l):n=l.length/\∀(k:Nat) y,l[k]?=some y->∃e b o I J Ac O cc,A=some ⟨b,o,none⟩/\D<=e+D/\aW D w (.slice I y.args.length J) y.args/\aF D w (.slice Ac O cc) y.cond.args/\O=y.cond.args.length /\
  w.cell? ⟨b,o+k*14,none⟩=some (KW y.op)/\w.cell? ⟨b,o+k*14+1,none⟩=some (.slice I y.args.length J) /\
    w.cell? ⟨b,o+k*14+2,none⟩=some (KW y.ty)/\w.cell? ⟨b,o+k*14+3,none⟩=some (KW y.vr)/\w.cell? ⟨b,o+k*14+4,none⟩=some (KW y.sc)/\w.cell? ⟨b,o+k*14+5,none⟩=some (KW y.sp) /\
    w.cell? ⟨b,o+k*14+6,none⟩=some (KW y.cond.op)/\w.cell? ⟨b,o+k*14+7,none⟩=some (.slice Ac O cc)/\w.cell? ⟨b,o+k*14+8,none⟩=some (KW y.cond.vr)/\w.cell? ⟨b,o+k*14+9,none⟩=some (KW y.cond.fl)/\w.cell? ⟨b,o+k*14+10,none⟩=some (KW y.cond.kd) /\
    w.cell? ⟨b,o+k*14+11,none⟩=some (KW y.cond.val.kind)/\w.cell? ⟨b,o+k*14+12,none⟩=some (KW y.cond.val.num)/\w.cell? ⟨b,o+k*14+13,none⟩=some (.string y.cond.val.text):=by
 obtain⟨A',c',hv,h1,h2,h3⟩:=h;injection hv with e1 e2 e3;subst e1 e2 e3;refine⟨rfl,fun k y hk=>?_⟩;obtain⟨b,o,rfl,hy⟩:=h3 k y hk;obtain⟨d',e',v',f',b',a',G,z,p⟩:=cW hy;have Z:=G;have F:=z;obtain⟨I,J,rfl,-⟩:=G;obtain⟨Ae,ce,rfl,-⟩:=z;exact⟨0,b,o,I,J,Ae,_,ce,rfl,by omega,jn om Z,eI om F,rfl,p⟩
theorem pD {D:Nat} {w:World} {A:Option Addr} {n c:Nat} {l:List Pt} (h:aW D w (.slice A n c) l):(n:Int)<=9223372036854775807:=by
 obtain⟨Z,c',G,F,J,h3⟩:=h;injection G with z O I;subst z O I;exact ax F J
theorem rh (d:Nat) (x:Pt) (v vc:Value) (w:World) (hx:aW d w v x.args) (h':aF d w vc x.cond.args) (hN:ptB x<=1048576) :
  KZ 139 #[ptV x v vc] w (KW (fc x)):=by
 have N':=ld x;have m':=jD (fun (W:World) (hW:KY w W)=>nN w d x v vc W hx h' om hW);have E':Hid (∀(k:Nat) (y:Pt) (u uc:Value) (W:World),(aO x)[k]?=some y->aW (d+3) W u y.args->aF (d+3) W uc y.cond.args->KZ 197 #[ptV y u uc] W (KW (ptE y))) :=
  jD (fun k y u uc W hk h1 h2=>zL (d+3) y u uc W h1 h2 (by have:=ma y;have:=kC x y (Li hk);omega))
 have g':=hx;have u':=h';obtain⟨A,c,rfl,-⟩:=hx;obtain⟨Ac,cc,rfl,-⟩:=h';have I:Hid (∀(W:World),KY w W->KZ 63 #[ptV x (.slice A x.args.length c) (.slice Ac x.cond.args.length cc),KW (64:Int)] W (KW (de 64 x))):=jD (fun W hW=>pV 64 dc d x _ Ac _ cc W (g'.stays (aB d) hW) om);have O:=jD (fun (W:World) (hW:KY w W)=>oH d x (.slice A x.args.length c) Ac x.cond.args.length cc W (g'.stays (aB d) hW) om);obtain⟨n,hn⟩:=jF x.args.length;obtain⟨nc,L'⟩:=jF x.cond.args.length;rw[<-hn,<-L']at I O m' ⊢;obtain⟨N,e'⟩:=jF (de 64 x);obtain⟨D,n'⟩:=jF (ptD x);obtain⟨R,hR⟩:=jF (fc x);rw[<-e']at I;rw[<-n']at O;rw[<-hR];have t':=qo 64 x;rw[<-e']at t';have HR:Hid (R=if 64<N then 5 else if 12<D then 12 else dV ((aO x).map ptE)):=jD (by
  rw[hR,n'];unfold fc
  by_cases h:64<ptN x
  ·rw[K7 h,K7 om]
  ·rw[K6 h,K6 (show ¬64<N by omega)])
 clear hR n' e' t' hn L' N' hN g' u';unfold ptV at I O m' E' ⊢;go_enter func139,ntmps139;go_wp2_with fail;refine (I.out _ jB).mono ?_;rintro e w1 ⟨rfl,l'⟩;have d':=(aY l').1;have H':Cells w1 w.heap.size 0 (aQ x (.slice A n c) (.slice Ac nc cc)):=fun j u hj=>by rw[Lu,d'];exact (NF ..).trans hj
 have r':=jD (ab (ag w _) l');clear d' l'
 by_cases p':64<N
 ·have F':(64:Int)<(N:Int):=by omega
  obtain rfl:R=5:=by rw[HR.out,K7 p']
  clear HR;exact fi r'.out
 have F':¬(64:Int)<(N:Int):=by omega
 obtain⟨p0,p1,p2,p3,p4,p5,p6,p7,p8,p9,c',b',Z,a'⟩:=dv H';clear H';go_wp2_with fail;refine (O.out _ r'.out).mono ?_;rintro e w2 ⟨rfl,F⟩;have J:=jD (ab r'.out F);have D':Cells w2 w.heap.size 0 (aQ x (.slice A n c) (.slice Ac nc cc)):=ci (aa F p0) (aa F p1) (aa F p2) (aa F p3) (aa F p4) (aa F p5) (aa F p6) (aa F p7) (aa F p8) (aa F p9) (aa F c') (aa F b') (aa F Z) (aa F a');clear F p0 p1 p2 p3 p4 p5 p6 p7 p8 p9 c' b' Z a'
 by_cases A':12<D
 ·have x':(12:Int)<(D:Int):=by omega
  obtain rfl:R=12:=by rw[HR.out,K6 p',K7 A']
  clear HR;exact fi J.out
 have x':¬(12:Int)<(D:Int):=by omega
 have B':Hid (R=dV ((aO x).map ptE)):=jD (by rw[HR.out,K6 p',K6 A']);obtain⟨p0,p1,p2,p3,p4,p5,p6,p7,p8,p9,c',b',Z,a'⟩:=dv D';clear HR D';go_wp2_with fail;refine (m'.out _ J.out).mono ?_;intro e w3 hr;obtain⟨u,rfl,hu,I'⟩:=hr.is J.out;obtain⟨Au,cu,rfl,-⟩:=id hu;obtain⟨hlen,M'⟩:=kI hu;have P':=pD hu;have G':=jD (ab J.out I');have S':=jD M';obtain⟨m,hm⟩:=jF ((aO x).length);rw[<-hm]at P' ⊢;have HM:=jD hm;clear hm M' hlen hu I' hr p0 p1 p2 p3 p4 p5 p6 p7 p8 p9 c' b' Z a';go_wp2_with fail
 go_loopw [4] (fun i wr=>∃k:Nat,k<=m/\i=KW k/\Hid ((∀y∈(aO x).take k,ptE y=0)/\KY w3 wr)) (fun i _=>m-(intOf i).toNat)
 case atStart=>exact⟨0,Lb _,rfl,jD ⟨by simp,La _ _⟩⟩
 case round =>
  obtain⟨k,hk,rfl,hI⟩:=hrel
  by_cases T':k<m
  ·have O':(k:Int)<(m:Int):=by omega
   obtain⟨a,ha⟩:∃a,(aO x)[k]?=some a:=⟨_,K9 (by have:=HM.out;omega)⟩;obtain⟨-,b,o,Av,cv,Ae,ne,ce,rfl,-,s',C',R',q0,q1,q2,q3,q4,q5,q6,q7,q8,q9,k',j',i',f'⟩:=S'.out k a ha;have G:=hI.out.2;have z':=jD (E'.out k a _ _ wr ha (s'.stays (aB _) G) (C'.stays (ai _) G));have HA:=jD ha;replace q0:=aa G q0;replace q1:=aa G q1;replace q2:=aa G q2;replace q3:=aa G q3;replace q4:=aa G q4;replace q5:=aa G q5;replace q6:=aa G q6;replace q7:=aa G q7;replace q8:=aa G q8;replace q9:=aa G q9;replace k':=aa G k';replace j':=aa G j';replace i':=aa G i';replace f':=aa G f';obtain⟨z,hz⟩:=jF (ptE a);rw[<-hz]at z';have HZ:=jD hz;clear s' C' R' G ha hz;go_wp2_with fail;refine z'.out.mono ?_;rintro e w4 ⟨rfl,y'⟩;have J':=jD y';clear y' q0 q1 q2 q3 q4 q5 q6 q7 q8 q9 k' j' i' f'
   by_cases q':z=0
   ·subst q';go_wp2_with fail
    go_roundw
    case rel=>exact⟨k+1,by omega,by go_num,jD ⟨lu hI.out.1 HA.out HZ.out.symm,ab hI.out.2 J'.out⟩⟩
    case measure=>simp[intOf];omega
   ·have U':(z==0)=false:=jQ q';obtain rfl:R=z:=by rw[B'.out,HZ.out];exact ik HA.out hI.out.1 (by rw[<-HZ.out];exact q')
    go_wp2;go_ret;exact⟨rfl,ab G'.out (ab hI.out.2 J'.out)⟩
  ·have O':¬(k:Int)<(m:Int):=by omega
   obtain rfl:R=0:=by rw[B'.out];exact ie (by have h:=hI.out.1;rw[show k=(aO x).length by have:=HM.out;omega,LX]at h;exact h)
   exact fi (ab G'.out hI.out.2)
theorem xq (D:Nat) (l:List Pt) (v:Value) (w:World) (G:aW D w v l) :
  Calls prog 140 #[v] w fun e w'=>e=.returned (.bool (!l.any (fun y=>decide (8<=y.op))))/\KY w w':=by
 obtain⟨R,hR⟩:=jF (!l.any (fun y=>decide (8<=y.op)));rw[<-hR];have HR:=jD hR;obtain⟨A,c,rfl,-⟩:=id G;obtain⟨-,F⟩:=kI G;have a':=pD G;have O:=jD F;clear F hR G;go_enter func140,ntmps140;go_wp2
 go_loopw [3] (fun i wr=>∃k:Nat,k<=l.length/\i=KW k/\Hid ((∀y∈l.take k,¬8<=y.op)/\KY w wr)) (fun i _=>l.length-(intOf i).toNat)
 case atStart=>exact⟨0,Lb _,rfl,jD ⟨by simp,La _ _⟩⟩
 case round =>
  obtain⟨k,hk,rfl,z⟩:=hrel
  by_cases J:k<l.length
  ·have I:(k:Int)<(l.length:Int):=by omega
   obtain⟨a,Z⟩:∃a,l[k]?=some a:=⟨_,K9 J⟩;obtain⟨-,b,o,Av,cv,Ae,ne,ce,rfl,-,-,-,-,q0,-⟩:=O.out k a Z;replace q0:=aa z.out.2 q0;have HA:=jD Z;clear Z
   by_cases h8:8<=a.op
   ·obtain rfl:R=false:=by
     rw[HR.out];simp only[L9,NA,Ly];exact⟨a,Li HA.out,h8⟩
    go_wp2;go_ret;exact⟨rfl,z.out.2⟩
   ·go_wp2_with fail
    go_roundw
    case rel =>
     refine⟨k+1,by omega,by go_num,jD ⟨fun y hy=>?_,z.out.2⟩⟩;rw[bZ HA.out,L0,Lz]at hy;rcases hy with hy|rfl
     ·exact z.out.1 y hy
     ·exact h8
    case measure=>simp[intOf];omega
  ·have I:¬(k:Int)<(l.length:Int):=by omega
   obtain rfl:R=true:=by
    rw[HR.out];have h:=z.out.1;rw[Mn om]at h;simp only[LU,MS,Ly];exact h
   go_wp2;go_ret;exact⟨rfl,z.out.2⟩
end Go.Proofs.YtokconodddedhaaGreatDoor
