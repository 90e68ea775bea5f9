/- Part. -/
import Derived.Test.YtbjicljfjkdeeaaGreatDoorQ33
import Derived.Test.YtbjicljfjkdeeaaGreatDoorQ41
set_option maxRecDepth 100000
set_option maxHeartbeats 16000000
set_option linter.unusedVariables false
set_option linter.unusedSimpArgs false
namespace Go.Proofs.YtbjicljfjkdeeaaGreatDoor
open Go.Proofs.Tryz Go.RowKit
theorem AT (key:List Int) (pre:List Evt) (x:Evt):cA key (pre++[x])=if (cz key x).2.1 then dD (cA key pre) (cz key x).1 else cA key pre:=by
 unfold cA;rw[Pc];rfl
theorem vf {α:Type} (p:α->Bool) (l:List α) (x:α):(l++[x]).filter p=l.filter p++if p x=true then [x] else []:=by
 rw[Oy]
 cases h:p x<;>simp[List.filter,h]
theorem FG {w:World} {A B n sz:Nat} {t:TypeId} {v:Value} {xs:List Value} (h:w.ownsRow B t sz v n xs) (z:A<=B):w.ownsRow A t sz v n xs:=by
 refine⟨h.1,?_⟩;rcases h.2 with G|⟨g,cap,cur,hv,hg,r⟩
 ·exact .inl G
 ·exact .inr ⟨g,cap,cur,hv,Mx z hg,r⟩
def PartRows (B:Nat) (w wr:World) (vs:List Value) (ps:List (List Evt)):Prop:=vs.length=ps.length /\
 ∀(t:Nat) (u:Value) (s:List Evt),vs[t]?=some u->ps[t]?=some s->∃es:List EV,es.map (·.1)=s/\wr.ownsRow B 60 5 u es.length (ci es)/\∀e∈es,aV w e.2 e.1.vals
theorem PartRows.grow {B:Nat} {w wr w':World} {vs:List Value} {ps:List (List Evt)} (h:PartRows B w wr vs ps) (Z:Mm wr w'):PartRows B w w' vs ps :=
 ⟨h.1,fun t u s J G=>by obtain⟨es,z,O,I⟩:=h.2 t u s J G;exact⟨es,z,ao O Z,I⟩⟩
theorem Ez {w:World} {A B n m sz z:Nat} {t G:TypeId} {u v:Value} {xs ys:List Value} (O:w.ownsRow A t sz u n xs) (J:w.ownsRow B G z v m ys) (h:t≠G) {g:Nat} (hu:u.ownBlock=some g):v.ownBlock≠some g:=fun I=>by
 rcases O.2 with ⟨rfl,_⟩|⟨g1,c1,cur1,rfl,_,hh1,_⟩
 ·simp[Value.ownBlock]at hu
 ·rcases J.2 with ⟨rfl,_⟩|⟨g2,c2,cur2,rfl,_,hh2,_⟩
  ·simp[Value.ownBlock]at I
  ·have e1:g1=g:=by simpa [Value.ownBlock] using hu
   have Z:g2=g:=by simpa [Value.ownBlock] using I
   subst e1 Z;rw[hh1]at hh2
   cases hh2
   exact h rfl
theorem PartRows.app {B C n:Nat} {w wr J w2:World} {av u:Value} {vs:List Value} {ps:List (List Evt)} {xs:List Value} {es:List EV} (h:PartRows B w wr vs ps) (hb:Mm wr J) (hu:J.ownsRow B 60 5 u es.length (ci es))
  (c':∀e∈es,aV w e.2 e.1.vals) (a':J.ownsRow C 34 1 av n xs) (hg:J.grownBy w2 av.ownBlock):PartRows B w w2 (vs++[u]) (ps++[es.map (·.1)]):=by
 have I:∀{Z:Value} {m:Nat} {cs:List Value},J.ownsRow B 60 5 Z m cs->w2.ownsRow B 60 5 Z m cs:=fun hr=>aT hr fun g O=>hg.block g (ag hr O).2 (fun e=>Ez hr a' dc O e.symm)
 refine⟨by simp[h.1],fun t Z s G z=>?_⟩
 by_cases ht:t<vs.length
 ·rw[MQ ht]at G;rw[MQ (by rw[<-h.1];exact ht)]at z;obtain⟨es',e1,e2,e3⟩:=h.2 t Z s G z;exact⟨es',e1,I (ao e2 hb),e3⟩
 ·rw[M7 om]at G;rw[M7 (by rw[<-h.1];omega)]at z;rw[<-h.1]at z;obtain⟨i,hi⟩:=jE (t-vs.length);rw[hi]at G z
  match i,G,z with
  | 0,G,z =>
   simp at G z;subst G z;exact⟨es,rfl,I hu,c'⟩
  | i+1,G,z=>simp at G
theorem rO {B:Nat} {w wr:World} {vs:List Value} {ps:List (List Evt)} (h:PartRows B w wr vs ps) (hw:Mm w wr):Means nS 1 wr vs ps:=by
 refine⟨by rw[NF];exact h.1,fun u hu=>?_,fun W b o O hc k y hk=>?_⟩
 ·obtain⟨t,J,rfl⟩:=N9 hu;have I:t<ps.length:=by rw[<-h.1];exact J
  obtain⟨es,_,G,_⟩:=h.2 t _ _ (Mq J) (Mq I);obtain⟨A,c,e⟩:=aH G;rw[e];rfl
 ·have z:k<vs.length:=by rw[h.1];exact (List.getElem?_eq_some_iff.1 hk).1
  have Z:=Mq z;obtain⟨es,rfl,G,e3⟩:=h.2 k _ _ Z hk;refine⟨vs[k],dr (gn fun e he=>(e3 e he).stays aD (hw.trans (O.mono hw.size))) (Mr _ _) (by rw[MB];exact ao G O),?_⟩;rw[NF];exact hc k _ Z
theorem ucd {p:Prop} (h:p:=by
  have q':=jD (ao G.out h'.out);rw[z.out]at q';rw[z.out];go_wp2_with fail;refine⟨⟨m+1,es,by omega,by go_num,q',jD ⟨?_,hE.out.2.1,r'.out⟩⟩,by simp[intOf];omega⟩;rw[N'.out,y'.out,hE.out.1];simp):p:=h
theorem yY (l:List Evt) (key:List Int) (v vk:Value) (w:World) (hl:bh w v l) (hk:ju w vk key) :
  Calls prog 59 #[v,vk] w (mC w (dz key l)):=by
 have HK:=jD hk;have T1:=jD (xG l v w hl);obtain⟨A,c,rfl,l1,l2,P1⟩:=hl;obtain⟨Ak,ck,rfl,-⟩:=hk;have Z2:=ay l1 l2;obtain⟨se,H0⟩:=jE (bH l);have P0:=jD H0;obtain⟨R,hR⟩:=jE (dz key l);have V1:=jD hR;rw[hR];rw[H0]at T1;have V0:=jD P1;clear H0 hR P1 l1 l2;go_enter func59,ntmps59;go_wp2_with fail;refine T1.out.mono ?_;rintro e w2 ⟨rfl,A1⟩;have Z0:=jD A1;clear A1
 by_cases h0:se=0
 case neg =>
  have R3:(se != 0)=true:=jQ h0;have HX:Hid (R=(([],[]),se)):=jD (by rw[<-V1.out,dz,lG P0.out h0,Mp h0]);clear h0;go_wp2_with fail;rw[HX.out];exact Mv (v:=.tuple #[.slice none 0 0,.slice none 0 0,Mk se]) (by simp[results,results59,go_sem]) rfl ⟨_,_,rfl,Sl.nil _ _ _ _ _ (Mu _),Sl.nil _ _ _ _ _ (Mu _),Z0.out⟩
 subst h0;obtain⟨B2,hlen⟩:=kJ P0.out;have Q0:Hid (∀E,em (fun _ e=>(cz key e).2.2) none l=E->R=if E≠0 then (([],[]),E) else ((cA key l,bV key l),0)):=jD fun E hE=>by rw[<-V1.out,dz,tw P0.out,hE]
 clear B2;have hj:=Np qJ;have hq:=Np kM;obtain⟨j0,hj,U2,X1,K2⟩:=hj;obtain⟨q0,hq,E2,X2,W1⟩:=hq;obtain⟨ES,Z'⟩:=eh (em (fun _ e=>(cz key e).2.2) none l);go_wp2_with fail
 go_loopw [8,9] (fun av i wr=>∃k:Nat,k<=l.length/\i=Mk k/\Hid (aV wr av (cA key (l.take k)))/\Hid (em (fun _ e=>(cz key e).2.2) (jk l k) (l.drop k)=ES/\Mm w wr)) (fun _ i _=>l.length-(intOf i).toNat)
 case atStart=>exact⟨0,Mu _,rfl,jD (Sl.nil _ _ _ _ _ (Mu _)),jD ⟨Z'.out,Z0.out⟩⟩
 case round =>
  obtain⟨k,hk,rfl,t',hI⟩:=hrel;have hb:=hI.out.2;obtain⟨Ar,cr,rfl,-⟩:=id t'.out;have Y':(cA key (l.take k)).length<=4096:=by
   have h1:=yg key (l.take k);rw[Nx]at h1;omega
  by_cases R0:k<l.length
  ·have Z1:(k:Int)<(l.length:Int):=by omega
   obtain⟨b,o,rfl,ve,Z,d0,d1,d2,d3,d4⟩:=V0.out k l[k] (Mq R0);have hg:=jD (Mq R0);obtain⟨x,hx⟩:∃a,a=l[k]:=⟨_,rfl⟩;rw[<-hx]at hg Z d0 d1 d2 d3;clear hx;have A':=jD Z;obtain⟨Av,cv,rfl,-⟩:=Z;have R':b<w.heap.size:=Ms w ⟨b,_,none⟩ d0;replace d0:=aa hb d0;replace d1:=aa hb d1;replace d2:=aa hb d2;replace d3:=aa hb d3;replace d4:=aa hb d4;have K1:b<wr.heap.size:=ME R' hb.size;obtain⟨⟨I,ok,er⟩,hQ⟩:∃r,cz key x=r:=⟨_,rfl⟩;have HC:=jD (fun (W:World) (O:Mm wr W)=>yc key x _ _ W (HK.out.stays eN (ab hb O)) (A'.out.stays aD (ab hb O)));rw[hQ]at HC;unfold cP at HC;have HQ:=jD hQ;have G':=jD (bP hg.out);have H':=jD (fun (W:World) (O:Mm wr W)=>Ef (cA key (l.take k)) I _ W (t'.out.stays aD O) Y');unfold vlV at H';have F1:Hid (cA key (l.take (k+1))=if ok then dD (cA key (l.take k)) I else cA key (l.take k)):=jD (by rw[G'.out,AT,hQ]);obtain⟨nk,i'⟩:∃n,n=(cA key (l.take k)).length:=⟨_,rfl⟩;have p':=jD i';rw[<-i']at H' ⊢;clear hQ i';go_wp2_with fail;refine (HC.out _ ?_).mono ?_
   ·exact jB
   unfold qD vlV;rintro e w4 ⟨rfl,u'⟩;have s':Hid (Mm wr w4):=jD (ab (by exact jB) u');have K0:Hid (Mm w w4):=jD (ab hb s'.out);clear u' d0 d1 d2 d3 d4
   by_cases hz:er=0
   case neg =>
    have HX:Hid (R=(([],[]),er)):=jD (by
     have h5:=mZ hg.out hI.out.1 (by rw[HQ.out]) hz;rw[Q0.out _ Z'.out,<-h5,Mp hz])
    have Q3:(er != 0)=true:=jQ hz;clear hz;go_wp2_with fail;rw[HX.out];exact Mv (v:=.tuple #[.slice none 0 0,.slice none 0 0,Mk er]) (by simp[results,results59,go_sem]) rfl ⟨_,_,rfl,Sl.nil _ _ _ _ _ (Mu _),Sl.nil _ _ _ _ _ (Mu _),bt K0.out _⟩
   subst hz;have U0:=jD (uS hg.out hI.out.1 (by rw[HQ.out]))
   cases ok with
   | false =>
    have z:Hid (cA key (l.take (k+1))=cA key (l.take k)):=jD (by rw[F1.out];rfl);have M1:=jD (t'.out.stays aD (bt s'.out (.cells #[.int .i64 I.kind,.int .i64 I.num,.string I.text] 27 (0,0))));rw[<-p'.out]at M1;go_wp2_with fail;exact⟨⟨k+1,by omega,by go_num,jD (by rw[z.out];exact M1.out),jD ⟨U0.out,bt K0.out _⟩⟩,by simp[intOf];omega⟩
   | true =>
    have z:Hid (cA key (l.take (k+1))=dD (cA key (l.take k)) I):=jD (by rw[F1.out];rfl);go_wp2_with fail;refine (H'.out _ ?_).mono ?_
    ·exact bt s'.out _
    rintro e w5 ⟨u5,rfl,R1,S1⟩;have G2:=jD R1;obtain⟨A5,c5,rfl,-⟩:=R1;have W2:=jD (ab (bt K0.out _) S1);clear S1;go_wp2_with fail;exact⟨⟨k+1,by omega,by go_num,jD (by rw[z.out];exact G2.out),jD ⟨U0.out,W2.out⟩⟩,by simp[intOf];omega⟩
  ·have Z1:¬(k:Int)<(l.length:Int):=by omega
   obtain rfl:k=l.length:=by omega
   have D':=xy (Mt _) hI.out.1;have HR:=jD (Q0.out _ Z'.out);rw[<-D',Mo jS]at HR;obtain⟨nk,i'⟩:∃n,n=(cA key (l.take l.length)).length:=⟨_,rfl⟩;have C':=t';rw[<-i']at C' Y' ⊢;rw[Nq]at C' i';have p':=jD i';have V3:nk<=4096:=Y';obtain⟨Ae,ce,Z,e1,e2,E'⟩:=id C'.out;injection Z with q1 q2 q3;subst q1 q3;have A2:=jD E';clear E' e1 e2 q2 i' t' D';go_wp2_with fail;have z':=jD hb;obtain⟨wa,rfl⟩:∃wa:World,wa=wr:=⟨_,rfl⟩;have G1:(bV key l).length=nk:=by rw[p'.out];simp[bV]
   have X0:=jD G1;clear G1
   go_loopw [13,14] (fun av i wr=>∃(j:Nat) (vs:List Value),j<=nk/\i=Mk j/\Hid (wr.ownsRow wa.heap.size 34 1 av j vs)/\Hid (PartRows wa.heap.size w wr vs ((bV key l).take j)/\Mm wa wr)) (fun _ i _=>nk-(intOf i).toNat)
   case atStart=>exact⟨0,[],Mu _,rfl,jD ⟨rfl,.inl ⟨rfl,rfl⟩⟩,jD ⟨⟨rfl,fun t u s h=>by simp at h⟩,Mr _ _⟩⟩
   case round =>
    obtain⟨j,vs,S3,rfl,d',hP⟩:=hrel;obtain⟨Ao,co,rfl⟩:=aH d'.out;have n':=hP.out.2
    by_cases P3:j<nk
    ·have Y2:(j:Int)<(nk:Int):=by omega
     have B':(cA key l)[j]?=some ((cA key l)[j]'(by have:=p'.out;omega)):=Mq (by have:=p'.out;omega);obtain⟨y,hy⟩:∃y,y=(cA key l)[j]'(by have:=p'.out;omega):=⟨_,rfl⟩;rw[<-hy]at B';obtain⟨bk,S',rfl,y0,y1,y2⟩:=A2.out j y B';have T3:bk<wa.heap.size:=Ms wa ⟨bk,_,none⟩ y0;have HY:=jD (And.intro y0 (And.intro y1 y2));have Q2:Hid ((bV key l).take (j+1)=(bV key l).take j++[l.filter (dO key y)]):=jD (bP (by unfold bV;rw[MA,B'];rfl));clear hy B' y0 y1 y2;go_wp2_with fail;have X':=jD n';have U1:=n'.size;obtain⟨wb,rfl⟩:∃wb:World,wb=wr:=⟨_,rfl⟩;have H3:=z'.out.size;clear n'
     go_loopw [15,16] (fun pv i wr=>∃(m:Nat) (es:List EV),m<=l.length/\i=Mk m/\Hid (wr.ownsRow wb.heap.size 60 5 pv es.length (ci es))/\Hid (es.map (·.1)=(l.take m).filter (dO key y)/\(∀e∈es,aV w e.2 e.1.vals)/\Mm wb wr)) (fun _ i _=>l.length-(intOf i).toNat)
     case atStart=>exact⟨0,[],Mu _,rfl,jD ⟨rfl,.inl ⟨rfl,rfl⟩⟩,jD ⟨by simp,by simp,Mr _ _⟩⟩
     case round =>
      obtain⟨m,es,M3,rfl,G,hE⟩:=hrel;obtain⟨Ap,cp,rfl⟩:=aH G.out;have g':=hE.out.2.2;have K3:=g'.size;have a':Mm w wr:=ab (ab z'.out X'.out) g';have S2:es.length<=m:=by
       have h:=congrArg List.length hE.out.1;rw[MB]at h;have h2:=Ow (dO key y) (l.take m);rw[Nx]at h2;omega
      obtain⟨ne,F'⟩:∃n,n=es.length:=⟨_,rfl⟩;have z:=jD F';rw[<-F']at G S2 ⊢;clear F'
      by_cases Y0:m<l.length
      ·have H2:(m:Int)<(l.length:Int):=by omega
       obtain⟨b,o,rfl,ve,Z,d0,d1,d2,d3,d4⟩:=V0.out m l[m] (Mq Y0);have hg:=jD (Mq Y0);obtain⟨x,hx⟩:∃a,a=l[m]:=⟨_,rfl⟩;rw[<-hx]at hg Z d0 d1 d2 d3;clear hx;have A':=jD Z;obtain⟨Av,cv,rfl,-⟩:=Z;have R':b<w.heap.size:=Ms w ⟨b,_,none⟩ d0;have HD:=jD (And.intro d0 (And.intro d1 (And.intro d2 (And.intro d3 d4))));replace d0:=aa a' d0;replace d1:=aa a' d1;replace d2:=aa a' d2;replace d3:=aa a' d3;replace d4:=aa a' d4;have K1:b<wr.heap.size:=ME R' a'.size;obtain⟨⟨I,ok,er⟩,hQ⟩:∃r,cz key x=r:=⟨_,rfl⟩;have HC:=jD (fun (W:World) (O:Mm wr W)=>yc key x _ _ W (HK.out.stays eN (ab a' O)) (A'.out.stays aD (ab a' O)));rw[hQ]at HC;unfold cP at HC;have HQ:=jD hQ;have G':=jD (bP hg.out);clear hQ;go_wp2_with fail;refine (HC.out _ ?_).mono ?_
       ·exact jB
       unfold qD vlV;rintro e w4 ⟨rfl,u'⟩;have s':Hid (Mm wr w4):=jD (ab (by exact jB) u');clear u' d0 d1 d2 d3 d4;go_wp2_with fail;refine bg fun w6 e6=>?_
       obtain⟨V,hV⟩:∃q,q=w4.heap.size:=⟨_,rfl⟩;have v0:Ml w6 V 0 (Mk I.kind):=jW e6 hV;have v1:Ml w6 V 1 (Mk I.num):=jW e6 hV;have v2:Ml w6 V 2 (.string I.text):=jW e6 hV;have V':Mm wr w6:=ab s'.out (gb e6);have f':=ab g' V';have m':=ab X'.out f';have y0:=aa m' HY.out.1;have y1:=aa m' HY.out.2.1;have y2:=aa m' HY.out.2.2;have U3:=Ms w6 ⟨V,_,none⟩ v0;have B3:=Ms w6 ⟨bk,_,none⟩ y0;rw[<-hV];have S0:=jD V';have Q1:Hid (dO key y x=(ok&&bY I y)):=jD (by unfold dO;rw[HQ.out]);have N':Hid ((l.take (m+1)).filter (dO key y)=(l.take m).filter (dO key y)++if dO key y x=true then [x] else []):=jD (by rw[G'.out,vf]);clear e6 hV V' m'
       cases ok with
       | true =>
        obtain⟨r,hr⟩:=jF (bY I y);have he:∀W,(binOp .eql 27 (.agg #[Mk I.kind,Mk I.num,.string I.text]) (.agg #[Mk y.kind,Mk y.num,.string y.text])).run prog W=.ok (.bool r) W:=fun W=>by rw[hr];exact vK I y W
        have y':Hid (dO key y x=r):=jD (by rw[Q1.out,<-hr];rfl);clear hr;refine rgn (fun W:World=>Mm w6 W/\Ml W V 0 (Mk I.kind)/\Ml W V 1 (Mk I.num)/\Ml W V 2 (.string I.text)/\Ml W bk (S'+j*3) (Mk y.kind)/\Ml W bk (S'+j*3+1) (Mk y.num)/\Ml W bk (S'+j*3+2) (.string y.text)) (Below w6.heap.size w6) (fun W O=>⟨O,aa O v0,aa O v1,aa O v2,aa O y0,aa O y1,aa O y2⟩) ((Mr _ _).drew) (fun O' k'=>?_);refine tkH [0,1,2,3,4,5,6,7,8] ?_;refine dn ?_;refine pR (Q:=Exit.then _ _) fun w7 e7=>?_
        have l':Mm w6 w7:=gb e7;have h':=jD (ab S0.out l');have r':=jD (ab f' l');clear k' O' e7 l' f'
        cases r with
        | true =>
         have J:=ab a' h'.out;have d0:=aa J HD.out.1;have d1:=aa J HD.out.2.1;have d2:=aa J HD.out.2.2.1;have d3:=aa J HD.out.2.2.2.1;have d4:=aa J HD.out.2.2.2.2;have A3:=Ms w7 ⟨b,_,none⟩ d0;clear J;go_wp2_with (at_builtin;refine bA _ rfl (.tmp 79) (.tmp 84) 34 rfl wb.heap.size 60 j0 _ 5 56 underlying34 hj U2 X1 K2 rfl dc (.slice Ap ne cp) ne (ci es) rfl (ao G.out (ab h'.out (af _ _))) (some ⟨w7.heap.size,0,none⟩) 1 1 [Mk x.src,Mk x.sq,Mk x.ty,Mk x.tm,.slice Av x.vals.length cv] rfl (cB _ [Mk x.src,Mk x.sq,Mk x.ty,Mk x.tm,.slice Av x.vals.length cv] _ 1 5 _ jS rfl (by intro u hu;simp only[MN,Nh,Ni]at hu;rcases hu with rfl|rfl|rfl|rfl|rfl<;>rfl)) (by unfold maxLen;omega) om (by simp;have:=h'.out.size;omega) ?_;intro v8 w8 c' x' P');have I':Mm wb w8:=(ab g' (ab h'.out (af _ _))).trans (au x' (by simp;have:=h'.out.size;omega) (fun g h=>(ag G.out h).1));have Y1:Hid (w8.ownsRow wb.heap.size 60 5 v8 (es++[(x,Value.slice Av x.vals.length cv)]).length (ci (es++[(x,Value.slice Av x.vals.length cv)]))):=jD (by rw[Mw,<-z.out,kh];exact c');refine⟨⟨m+1,es++[(x,.slice Av x.vals.length cv)],by omega,by go_num,Y1,jD ⟨?_,?_,I'⟩⟩,by simp[intOf];omega⟩
         ·rw[N'.out,y'.out,NY,hE.out.1];rfl
         ·intro e he;rcases List.mem_append.1 he with he|he
          ·exact hE.out.2.1 e he
          ·rw[NK]at he;subst he;exact A'.out
        | false =>
         exact ucd
       | false =>
        have y':Hid (dO key y x=false):=jD (by rw[Q1.out];rfl);refine rgn (fun W:World=>Mm w6 W/\Ml W V 0 (Mk I.kind)/\Ml W V 1 (Mk I.num)/\Ml W V 2 (.string I.text)) (Below w6.heap.size w6) (fun W O=>⟨O,aa O v0,aa O v1,aa O v2⟩) ((Mr _ _).drew) (fun O' k'=>?_);refine tkH [0,1] ?_;refine tkS [2,3,4,5,6,7] ?_;refine tkH [8] ?_;refine dn ?_;refine pR (Q:=Exit.then _ _) fun w7 e7=>?_
        have l':Mm w6 w7:=gb e7;have h':=jD (ab S0.out l');have r':=jD (ab f' l');clear k' O' e7 l' f';exact ucd
      ·have H2:¬(m:Int)<(l.length:Int):=by omega
       obtain rfl:m=l.length:=by omega
       have J':=hE.out.1;rw[Nq]at J';have E1:Hid (PartRows wa.heap.size w wb vs ((bV key l).take j)/\(bV key l).take (j+1)=(bV key l).take j++[es.map (·.1)]):=jD ⟨hP.out.1,by rw[Q2.out,J']⟩;have j':=FG G.out U1;rw[z.out]at j';have U':=jD j';have P2:=jD hE.out.2.1;clear J' j';go_wp2_with (at_builtin;refine bA _ rfl (.tmp 86) (.tmp 88) 81 rfl wa.heap.size 34 q0 _ 1 24 underlying81 hq E2 X2 W1 rfl dc (.slice Ao j co) j vs rfl (ao d'.out (ab g' (af _ _))) (some ⟨wr.heap.size,0,none⟩) 1 1 [.slice Ap ne cp] rfl (cB _ [.slice Ap ne cp] _ 1 1 _ jS rfl (by intro u hu;simp only[MN,Nh,Ni]at hu;rcases hu with rfl;rfl)) (by unfold maxLen;omega) om (by simp;omega) ?_;intro v8 w8 c' x' P');have I':Mm wa w8:=(ab X'.out (ab g' (af _ _))).trans (au x' (by simp;omega) (fun g h=>(ag d'.out h).1));refine⟨⟨j+1,vs++[.slice Ap ne cp],by omega,by go_num,jD c',jD ⟨?_,I'⟩⟩,by simp[intOf];omega⟩;rw[E1.out.2];rw[z.out]at c' x' ⊢;exact E1.out.1.app (ab g' (af _ _)) (ao U'.out (af _ _)) P2.out (ao d'.out (ab g' (af _ _))) x'
    ·have Y2:¬(j:Int)<(nk:Int):=by omega
     obtain rfl:j=nk:=by omega
     have T':=hP.out.1;rw[Of (by rw[X0.out];exact Mt _)]at T';have V2:Hid (Sl nS 1 wr (.slice Ao j co) (bV key l)):=jD (dr (rO T' (ab z'.out n')) (Mr _ _) (by rw[X0.out];exact d'.out));have T2:=jD (C'.out.stays aD n');have R2:=jD (ab z'.out n');clear T';go_wp2_with fail;rw[HR.out];exact Mv (v:=.tuple #[.slice Ar j cr,.slice Ao j co,Mk 0]) (by simp[results,results59,go_sem]) rfl ⟨_,_,rfl,T2.out,V2.out,R2.out⟩
theorem xz (d:Nat) (q:Qry) (l:List Evt) (vv vk va vc vr vl:Value) (w:World) (z:PartAsk d w q l vv vk va vc vr vl) :
  Calls prog 32 #[gN q vv vk va vc vr,vl] w (mC w (aN q l)):=by
 have I:=jD (fun (W:World) (hW:Mm w W)=>wn d q.pat va vc W (z.qry.args.stays (aB d) hW) (z.qry.cond.stays (ai d) hW) z.few);have a':=jD (fun (W:World) (hW:Mm w W)=>yY l q.key vl vk W (z.evs.stays aG hW) (z.qry.key.stays eN hW));have m':=jD z;obtain⟨pe,G⟩:∃e,e=fq q.pat:=⟨_,rfl⟩;have l':=jD G;rw[<-G]at I;obtain⟨R,hR⟩:=jE (aN q l);have HR:Hid ((if pe≠0 then (([],[]),pe) else dz q.key l)=R):=jD (by rw[<-hR,aN,<-G]);rw[hR];obtain⟨Ak,ck,rfl,-⟩:=id z.qry.key;obtain⟨Al,cl,rfl,-⟩:=id z.evs;obtain⟨nk,g'⟩:∃n,n=q.key.length:=⟨_,rfl⟩;obtain⟨nl,d'⟩:∃n,n=l.length:=⟨_,rfl⟩;rw[<-g',<-d']at a' ⊢;obtain⟨Av,cv,rfl,-⟩:=id z.qry.vars;obtain⟨Aa,ca,rfl,-⟩:=id z.qry.args;obtain⟨Ac,cc,rfl,-⟩:=id z.qry.cond;obtain⟨Ar,cr,rfl,-⟩:=id z.qry.rets;clear z G hR g' d';unfold ptV at I;unfold gN;go_enter func32,ntmps32;go_wp2_with fail;refine aI fun w1 e1=>?_
 have Z:Mm w w1:=gb e1;have x2:Ml w1 w.heap.size 2 (.slice Ak nk ck):=jG e1;clear e1;refine (I.out _ Z).mono ?_;rintro e w2 ⟨rfl,O⟩;replace x2:=aa O x2;have J:=jD (ab Z O);clear Z O I
 by_cases h0:pe=0
 case neg =>
  have n':(pe != 0)=true:=jQ h0;obtain rfl:(([],[]),pe)=R:=by have h:=HR.out;rw[Mp h0]at h;exact h
  clear h0;go_wp2;exact Mv (v:=.tuple #[.slice none 0 0,.slice none 0 0,Mk pe]) (by simp[results,results32,go_sem]) rfl ⟨_,_,rfl,Sl.nil _ _ _ _ _ (Mu _),Sl.nil _ _ _ _ _ (Mu _),J.out⟩
 subst h0;obtain rfl:dz q.key l=R:=by have h:=HR.out;rw[Mo jS]at h;exact h
 go_wp2_with fail;refine (a'.out _ J.out).mono ?_;rintro e w3 ⟨kv,pv,rfl,c',f',h'⟩;have j':=jD (ab J.out h');have k':=jD c';have i':=jD f';obtain⟨A1,c1,rfl,-⟩:=c';obtain⟨A2,c2,rfl,-⟩:=f';clear h' x2;go_wp2;exact Mv (v:=.tuple #[.slice A1 _ c1,.slice A2 _ c2,Mk (dz q.key l).2]) (by simp[results,results32,go_sem]) rfl ⟨_,_,rfl,k'.out,i'.out,j'.out⟩
theorem zD (d:Nat) (q:Qry) (l:List Evt) (vv vk va vc vr vl:Value) (w:World) (hA:PartAsk d w q l vv vk va vc vr vl) :
  Calls prog 19 #[gN q vv vk va vc vr,vl] w (BC w ((aN q l).1.1,(aN q l).2)):=by
 have h:=jD (fun (W:World) (hW:Mm w W)=>xz d q l vv vk va vc vr vl W (hA.stays hW));obtain⟨R,hR⟩:=jE (aN q l);rw[hR]at h ⊢;obtain⟨Av,cv,Ak,ck,Aa,ca,Ac,cc,Ar,cr,Al,cl,rfl,rfl,rfl,rfl,rfl,rfl⟩:=hA.form;clear hA hR;unfold gN at h ⊢;go_enter func19,ntmps19;have Z:(w.alloc (.cells #[.string q.nm,.slice Av q.vars.length cv,.slice Ak q.key.length ck,.int .i64 q.pat.op,.slice Aa q.pat.args.length ca,.int .i64 q.pat.ty,.int .i64 q.pat.vr,.int .i64 q.pat.sc,.int .i64 q.pat.sp,.int .i64 q.pat.cond.op,.slice Ac q.pat.cond.args.length cc,.int .i64 q.pat.cond.vr,.int .i64 q.pat.cond.fl,.int .i64 q.pat.cond.kd,.int .i64 q.pat.cond.val.kind,.int .i64 q.pat.cond.val.num,.string q.pat.cond.val.text,.slice Ar q.rets.length cr] 33 (0,0))).heap[w.heap.size]?=some (.cells #[.string q.nm,.slice Av q.vars.length cv,.slice Ak q.key.length ck,.int .i64 q.pat.op,.slice Aa q.pat.args.length ca,.int .i64 q.pat.ty,.int .i64 q.pat.vr,.int .i64 q.pat.sc,.int .i64 q.pat.sp,.int .i64 q.pat.cond.op,.slice Ac q.pat.cond.args.length cc,.int .i64 q.pat.cond.vr,.int .i64 q.pat.cond.fl,.int .i64 q.pat.cond.kd,.int .i64 q.pat.cond.val.kind,.int .i64 q.pat.cond.val.num,.string q.pat.cond.val.text,.slice Ar q.rets.length cr] 33 (0,0)):=ax _ _ _ rfl;go_wp2_with (refine Od rfl 33 (.tmp 2) rfl w.heap.size rfl 33 _ (0,0) _ Z underlying33 rfl ko ?_);refine aI fun w1 e1=>?_
 have z:Mm w w1:=gb e1;clear e1;refine (h.out _ z).mono ?_;rintro e w3 ⟨kv,pv,rfl,G,a',I⟩;have J:=jD (ab z I);have O:=jD G;obtain⟨A1,c1,rfl,-⟩:=G;obtain⟨A2,c2,rfl,-⟩:=a';clear z I;go_wp2;exact Mv (v:=.tuple #[.slice A1 _ c1,Mk R.2]) (by simp[results,results19,go_sem]) rfl ⟨_,rfl,O.out,J.out⟩
end Go.Proofs.YtbjicljfjkdeeaaGreatDoor
