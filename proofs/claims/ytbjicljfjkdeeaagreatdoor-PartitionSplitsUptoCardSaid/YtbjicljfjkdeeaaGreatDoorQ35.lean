/- Part. -/
import Derived.Test.YtbjicljfjkdeeaaGreatDoorQ32
set_option maxRecDepth 100000
set_option maxHeartbeats 16000000
set_option linter.unusedVariables false
set_option linter.unusedSimpArgs false
namespace Go.Proofs.YtbjicljfjkdeeaaGreatDoor
open Go.Proofs.Tryz Go.RowKit
section
open Go.RowKit Go.Lib
def RestOk (F:Bs->Nat->List Bs) (h:Nat) (z:List Value) (n0 n1:Nat) (B:Option Nat) (w:World) (i n:Nat):Prop :=
 ∀(W:World) (b:Bs) (j:Nat) (u:Value),aE n0 n1 B w W->i<j->BOk j b->j<=n->fo W u b->Calls prog h (u::Mk (j:Int)::z).toArray W (gY W (F b j))
theorem RestOk.keep {F:Bs->Nat->List Bs} {G:Nat} {I:List Value} {n0 n1:Nat} {B:Option Nat} {w W:World} {i n:Nat} (h:RestOk F G I n0 n1 B w i n) (hk:aE n0 n1 B w W):RestOk F G I n0 n1 B W i n :=
 fun W9 b j u z Z J h3 O=>h W9 b j u (aR hk z) Z J h3 O
structure zS (V:List Int) (l:List Evt) (a:Pt) (b:Bs) (i:Nat) (F:Bs->Nat->List Bs):Prop where
 bnd:dR V l.length
 bok:BOk i b
 le:i<=l.length
 fst:∀s∈bj l a b i,SetV V i l.length s
 snd:∀s∈bj l a b i,∀t∈F (aA b s) (bW s+1),SetV V (bW s+1) l.length t
theorem Gs {V:List Int} {l:List Evt} {a:Pt} {b:Bs} {i d e C:Nat} {v vc vl u:Value} {W0 w:World} {n1:Nat} {B:Option Nat} {bc bp bo bf br gr:Nat} {lr:List Value} {F:Bs->Nat->List Bs} (H:SeqHyp l a b i d e C v vc vl u W0 w n1 B bc bp bo bf)
  (hr:w.cell? ⟨br,0,none⟩=some (.func (.func gr) #[] lr.toArray)) (U0:Own n1 B w br) (eg:∀args W,(callFunc gr args).run prog W=.ok (.enter gr args) W) (hR:RestOk F gr lr W0.heap.size n1 B w i l.length) (hT:zS V l a b i F) (hS:jX l a b i) :
  SeqC 249 #[.pointer (some ⟨bc,0,none⟩),.pointer (some ⟨bp,0,none⟩),.pointer (some ⟨bo,0,none⟩),.pointer (some ⟨bf,0,none⟩),.pointer (some ⟨br,0,none⟩)] (jj (bj l a b i) F b) (InS n1 B) (aE W0.heap.size n1 B) w:=by
 obtain⟨G,hG⟩:∃G:Bs->List Bs,G=fun s=>(F (aA b s) (bW s+1)).map (aA s):=⟨_,rfl⟩
 rw[show jj (bj l a b i) F b=(bj l a b i).flatMap G from by rw[hG];rfl];intro ly J Jx W hW hJ Q2 hY Z';have y':=H.grow hW;have H0:=H.next y';have H1:=jD H0;have HJ:=jD hJ;have HY:=jD hY;have HG:=jD hG;have HT:=jD hT;have U':=jD (hR.keep y');have K2:=jD eg;have P0:Hid (W.cell? ⟨br,0,none⟩=some (.func (.func gr) #[] lr.toArray)/\Own n1 B W br):=jD (bQ y' U0 hr);have a':=jD (fun (I:World) (h9:Mm W0 I)=>hS d e C v vc vl u I (aa h9 H0.scn.ev) (aa h9 H0.scn.fu) (H0.scn.is.stays aG h9) (H0.pts.stays (aB d) h9) (H0.exs.stays (ai e) h9) (H0.bs.stays aL h9));have F1:Hid (J 0 W):=jD Z';have R':=jD H0.bs;obtain⟨Al,cl,rfl,-⟩:=id H0.scn.is;obtain⟨Ab,cb,rfl,-⟩:=id H0.bs;obtain⟨A,c,rfl,-⟩:=id H0.pts;obtain⟨Ac,cc,rfl,-⟩:=id H0.exs;obtain⟨zc,-⟩:=H0.caps.c;obtain⟨zo,-⟩:=H0.caps.o;obtain⟨zf,-⟩:=H0.caps.f;obtain⟨p0,p1,p2,p3,p4,p5,p6,p7,p8,p9,R1,P2,H2,V1⟩:=dU H0.caps.p.1;have E2:=Ms W ⟨bp,_,none⟩ p0;have P1:=Ms W ⟨bc,_,none⟩ zc;have E':=Ms W ⟨bo,_,none⟩ zo;have Z1:=Ms W ⟨bf,_,none⟩ zf;obtain⟨nb,V0⟩:∃n,n=b.length:=⟨_,rfl⟩;obtain⟨na,K0⟩:∃n,n=a.args.length:=⟨_,rfl⟩;obtain⟨ne,T'⟩:∃n,n=a.cond.args.length:=⟨_,rfl⟩;rw[<-V0]at H1 a' R' zo;rw[<-K0]at H1 a' p1;rw[<-T']at H1 a' p7;obtain⟨L,hL⟩:=jF (bj l a b i);rw[<-hL]at HY a' ⊢;have HL:=jD hL;obtain⟨u,hu⟩:=jF (Value.slice Ab nb cb)
 rw[<-hu]at H1 a' R' zo;clear H H0 hW hJ Q2 hY Z' y' hR hr U0 eg hT hS hG V0 K0 T' hL hu;unfold ptV at a';show Calls prog 249 #[.func (.yield ly) #[] #[],.pointer (some ⟨bc,0,none⟩),.pointer (some ⟨bp,0,none⟩),.pointer (some ⟨bo,0,none⟩),.pointer (some ⟨bf,0,none⟩),.pointer (some ⟨br,0,none⟩)] W _;go_enter func249,ntmps249;refine (Ok (n:=5)).1 ?_;gi_wp2;refine⟨trivial,callsIn_wide.2 ?_⟩;refine (a'.out _ H1.out.bel).mono ?_;rintro e4 w4 ⟨v4,rfl,Y0,x'⟩;have N':=H1.out.sets (Mr _ _) Y0 x';have C':Hid (J 0 w4/\aE W0.heap.size n1 B W w4/\SetsIn (Own n1 B w4) w4 v4 L):=jD ⟨aS HJ.out F1.out x',H1.out.grow x',N'⟩;obtain⟨A4,c4,rfl,Y1⟩:=N'.form;obtain⟨n4,I'⟩:∃n,n=L.length:=⟨_,rfl⟩;have Q0:=jD I';rw[<-I']at C' Y1 ⊢;clear Y0 x' N' I' p0 p1 p2 p3 p4 p5 p6 p7 p8 p9 R1 P2 H2 V1 zc zo zf E2 P1 E' Z1 a' F1;gi_wp2
 gi_loopw [17] (fun t wr=>∃k:Nat,k<=n4/\t=Mk k/\Hid (J (dE G L k 0) wr/\aE W0.heap.size n1 B W wr/\SetsIn (Own n1 B wr) wr (.slice A4 n4 c4) L)) (fun t _=>n4-(RowKit.intOf t).toNat)
 case atStart=>exact⟨0,Mu _,rfl,jD ⟨by rw[yW];exact C'.out.1,C'.out.2⟩⟩
 case round =>
  obtain⟨k,hk,rfl,O⟩:=hrel
  by_cases T1:k<n4
  ·have Q1:(k:Int)<(n4:Int):=by omega
   obtain⟨wk,X'⟩:=jF wr;rw[<-X']at O ⊢;clear X';have Hr:=H1.out.next O.out.2.1;have s':=jD Hr;obtain⟨zo,-⟩:=Hr.caps.o;obtain⟨zr,-⟩:=bQ O.out.2.1 P0.out.2 P0.out.1;obtain⟨s,hs⟩:∃s,L[k]?=some s:=⟨_,Mq (by have:=Q0.out;omega)⟩;have Z0:=jD hs;have D':s∈bj l a b i:=by rw[<-HL.out];exact MI hs
   have Z:=HT.out.fst s D';have A2:=Z.n63;have c':=HT.out.bnd;have t':=Z.ok.last;obtain⟨sb,so,us,rfl,q',j'⟩:=O.out.2.2.at hs;have H':=jD j';have k':Hid (SetV V i l.length s/\s∈bj l a b i):=jD ⟨Z,D'⟩;have l':Hid (∀I,Mm wk I->Calls prog 250 #[u,us] I (mz I (aA b s))):=by
    have m':=HT.out.bok;have U2:=m'.len;have h6:=c'.len;have hle:=HT.out.le;refine jD fun I h9=>lR b s u us I (R'.out.stays aL (Hr.bel.trans (h9.mono Hr.bel.size))) (j'.is.stays aL h9) m'.asc Z.ok.2.1 (fun y hy z hz=>by have h1:=(m'.ok y hy).2;have h2:=(Z.ok.2.2 z hz).1;omega) Z.ok.1 (fun y hy=>?_) om
    rcases List.mem_append.1 hy with hy|hy
    ·have:=(m'.ok y hy).2;omega
    ·have:=(Z.ok.2.2 y hy).2;omega
   have r':=jD (fun (I:World) (h9:Mm wk I)=>yx s us I (j'.is.stays aL h9) Z.ok.1);have u':Hid (∀(W8:World) (v7:Value) {W7 W6:World},SetIn (fun q=>W6.heap.size<=q) W7 v7 (aA b s)->Mm wk W8->Mm wk W7->Mm W7 W8->Calls prog gr (v7::Mk ((bW s+1:Nat):Int)::lr).toArray W8 (gY W8 (F (aA b s) (bW s+1)))) :=
    jD fun W8 v7 W7 W6 h7 g' O' S2=>U'.out W8 _ _ v7 (aR O.out.2.1 (s'.out.grow g')) om (Z.merge HT.out.bok c') om (h7.is.stays aL S2)
   obtain⟨R,hR⟩:=jF (F (aA b s) (bW s+1));have P':=jD hR;rw[<-hR]at u';have S1:IntKind.i64.wrap ((bW s:Int)+1)=((bW s+1:Nat):Int):=by have:=c'.len;simp[IntKind.wrap,IntKind.bits,IntKind.signed];omega
   obtain⟨Au,cu,rfl⟩:=j'.form;have W1:=Ms wk ⟨sb,_,none⟩ q';obtain⟨ns,K1⟩:∃n,n=s.length:=⟨_,rfl⟩;rw[<-K1]at l' r' q' H';obtain⟨q1,J'⟩:∃q,q=bW s+1:=⟨_,rfl⟩;have T2:=jD J';obtain⟨us,A'⟩:∃t,t=Value.slice Au ns cu:=⟨_,rfl⟩;rw[<-A']at l' r' q' H';have E':=Ms wk ⟨bo,_,none⟩ zo;have B2:=Ms wk ⟨br,_,none⟩ zr;rw[<-J']at u' S1;clear hs j' K1 D' Z A2 c' t' hR Hr J' A';gi_wp2;refine wpIn_wide.2 ?_;have eg:=K2.out;refine rgn (fun W:World=>Mm wk W/\Ml W br 0 (.func (.func gr) #[] lr.toArray)/\Ml W bo 0 (u)) (Below wk.heap.size wk) (fun W hW=>⟨hW,aa hW zr,aa hW zo⟩) ((Mr _ _).drew) (fun p' h=>?_);refine tkH [0,1,2,4,9] ?_;refine nxH 3 (fun K hK=>?_)
   focus (go_simp;refine (l'.out _ h.1).mono ?_;rintro e w7 ⟨v7,rfl,A1,O'⟩;have d':Mm wk w7:=ab h.1 O')
   refine hK.out _ _ (p' _ d') (fun h=>?_);clear hK K;refine nxH 5 (fun K hK=>?_)
   focus (go_simp;refine (r'.out _ h.1).mono ?_;rintro e w8 ⟨rfl,g'⟩;have B':Mm wk w8:=ab h.1 g')
   refine hK.out _ _ (p' _ B') (fun h=>?_);clear hK K;refine tkH [6] ?_;refine nxH 7 (fun K hK=>?_)
   focus (go_simp;refine (u'.out w8 v7 A1 h.1 d' g').mono ?_;rintro e w9 ⟨v9,rfl,i',G'⟩;have f':Mm wk w9:=ab h.1 G';obtain⟨A9,c9,rfl,G2⟩:=i'.form)
   refine hK.out _ _ (p' _ f') (fun h=>?_);clear hK K;refine tkH [8] ?_;refine dn ?_;clear eg;have n':=s'.out.grow f';have V':=s'.out.sets (ab d' g') i' G';have E1:Hid (J (dE G L k 0) w9/\aE W0.heap.size n1 B W w9/\SetsIn (Own n1 B w9) w9 (.slice (some ⟨sb,so,none⟩) n4 c4) L/\SetsIn (Own n1 B w9) w9 (.slice A9 R.length c9) R/\SetIn (Own n1 B w9) w9 us s):=jD ⟨aS HJ.out O.out.1 f',aR O.out.2.1 n',SetsIn.keepO n' O.out.2.2,V',H'.out.keepO n'⟩;obtain⟨n9,S'⟩:∃n,n=R.length:=⟨_,rfl⟩;have S0:=jD S';rw[<-S']at E1 G2 ⊢;clear S' n' V' A1 O' g' i' G' d' B' f' h p' u' r' l' s' O zo zr E' B2 q' W1;gi_wp2
   gi_loopw [30] (fun t wr=>∃j:Nat,j<=n9/\t=Mk j/\Hid (J (dE G L k j) wr/\aE W0.heap.size n1 B W wr/\SetsIn (Own n1 B wr) wr (.slice (some ⟨sb,so,none⟩) n4 c4) L/\SetsIn (Own n1 B wr) wr (.slice A9 n9 c9) R/\SetIn (Own n1 B wr) wr us s)) (fun t _=>n9-(RowKit.intOf t).toNat)
   case atStart=>exact⟨0,Mu _,rfl,E1⟩
   case round =>
    obtain⟨j,hj,rfl,O⟩:=hrel
    by_cases M1:j<n9
    ·have R2:(j:Int)<(n9:Int):=by omega
     obtain⟨t,ht⟩:∃t,R[j]?=some t:=⟨_,Mq (by have:=S0.out;omega)⟩;have Hr:=H1.out.next O.out.2.1;obtain⟨zc,-⟩:=Hr.caps.c;have zu:=(Hr.scn.stays Hr.bel).fu;obtain⟨tb,to,ut,rfl,G1,F'⟩:=O.out.2.2.2.1.at ht;have h':=HT.out.snd s k'.out.2 t (by rw[<-P'.out];exact MI ht);have t':=k'.out.1.ok.last;have c':=HT.out.bnd;have z':Hid (∀I,Mm wr I->Calls prog 250 #[us,ut] I (mz I (aA s t))):=by
      have h6:=c'.len;have V2:=k'.out.1.n63;have W2:=h'.n63;refine jD fun I h9=>lR s t us ut I (O.out.2.2.2.2.is.stays aL h9) (F'.is.stays aL h9) k'.out.1.ok.2.1 h'.ok.2.1 (fun y hy z hz=>by have h1:=t'.2.2 y hy;have h2:=(h'.ok.2.2 z hz).1;omega) h'.ok.1 (fun y hy=>?_) om
      rcases List.mem_append.1 hy with hy|hy
      ·have:=(k'.out.1.ok.2.2 y hy).2;omega
      ·have:=(h'.ok.2.2 y hy).2;omega
     have R0:Hid ((L.flatMap G)[dE G L k j]?=some (aA s t)):=jD (oO Z0.out (by rw[HG.out];dsimp only;rw[MA,<-P'.out,ht];rfl));have X1:Hid (∀(I:World) (v9:Value) {W6:World},Mm wr I->Mm wr W6->SetIn (fun q=>W6.heap.size<=q) I v9 (aA s t)->YieldAt Fence.wide (5-1) prog ly #[v9] I fun e W'=>(e=.returned (.bool true)/\J (dE G L k (j+1)) W'/\aE W0.heap.size n1 B W W'/\SetsIn (Own n1 B W') W' (.slice (some ⟨sb,so,none⟩) n4 c4) L/\SetsIn (Own n1 B W') W' (.slice (some ⟨tb,to,none⟩) n9 c9) R/\SetIn (Own n1 B W') W' us s)\/(e=.returned (.bool false)/\Jx (dE G L k j+1) W')):=by
      refine jD fun I v9 W6 h9 h6 i'=>cg (HY.out _ (dE G L k j) (aA s t) _ I R0.out (aS HJ.out O.out.1 h9) (Hr.inS h9 h6.size i')) ?_
      rintro e W' (⟨rfl,g1,g2⟩|⟨rfl,g1⟩)
      ·have g3:=aR (Hr.grow h9) g2;exact .inl ⟨rfl,g1,aR O.out.2.1 g3,SetsIn.keepO g3 O.out.2.2.1,SetsIn.keepO g3 O.out.2.2.2.1,SetIn.keepO g3 O.out.2.2.2.2⟩
      ·exact .inr ⟨rfl,g1⟩
     have U1:Hid (dE G L k j<(L.flatMap G).length):=jD (List.getElem?_eq_some_iff.1 R0.out).1;obtain⟨At,ct,rfl⟩:=F'.form;obtain⟨nt,hnt⟩:∃n,n=t.length:=⟨_,rfl⟩;rw[<-hnt]at z' G1;have X2:=Ms wr ⟨tb,_,none⟩ G1;have P1:=Ms wr ⟨bc,_,none⟩ zc;have Y2:=Ms wr ⟨C,_,none⟩ zu;clear ht F' hnt h' t' c' Hr;gi_wp2;refine⟨trivial,callsIn_wide.2 ?_⟩;refine (z'.out _ (Mr _ _)).mono ?_;rintro e W6 ⟨v6,rfl,Y',X0⟩;have H6:=jD (And.intro Y' X0);clear Y' X0;gi_wp2;refine dx (X1.out _ _ H6.out.2 (Mr _ _) H6.out.1) (fun W7 h7=>?_) (fun W7 h7=>?_)
     ·have H7:=jD h7;clear h7;gi_wp2
      go_roundw
      case rel=>exact⟨j+1,by omega,by go_num,H7⟩
      case measure=>exact jh M1
     ·have H7:=jD h7;clear h7;gi_wp2;refine Mv (v:=.tuple #[]) (NI rfl _ _ _) rfl ?_;exact⟨⟨_,rfl⟩,.inr ⟨_,U1.out,H7.out⟩⟩
    ·have R2:¬(j:Int)<(n9:Int):=by omega
     obtain rfl:j=n9:=by omega
     have HE:Hid (J (dE G L (k+1) 0) wr/\aE W0.heap.size n1 B W wr/\SetsIn (Own n1 B wr) wr (.slice (some ⟨sb,so,none⟩) n4 c4) L):=jD ⟨by rw[nj Z0.out,HG.out];dsimp only;rw[MB,<-P'.out,<-S0.out,<-HG.out];exact O.out.1,O.out.2.1,O.out.2.2.1⟩;gi_wp2
     go_roundw
     case rel=>exact⟨k+1,by omega,by go_num,HE⟩
     case measure=>exact jh T1
  ·have Q1:¬(k:Int)<(n4:Int):=by omega
   obtain rfl:k=n4:=by omega
   have HE:Hid (J (L.flatMap G).length wr):=jD (by rw[<-ri,<-Q0.out];exact O.out.1);gi_wp2;refine OI (NI rfl _ _ _) rfl ?_;exact⟨⟨_,rfl⟩,.inl (by have:=HE.out;rw[Pw]at this;exact this)⟩
def uj (Q:Nat->Option Nat->Prop) (L:List Bs) (W0 w:World) (e:Ending) (W:World):Prop:=∃gf lb,e=.returned (.func (.func gf) #[] lb)/\(∀args w,(callFunc gf args).run prog w=.ok (.enter gf args) w)/\Mm w W /\
 ∀n1 B,Q n1 B->SeqC gf lb L (InS n1 B) (aE W0.heap.size n1 B) W
theorem xt (Q:Nat->Option Nat->Prop) (V:List Int) (l:List Evt) (a:Pt) (b:Bs) (i d e C G:Nat) (lr:List Value) (F:Bs->Nat->List Bs) (v vc vl u:Value) (W0 w:World) (c':ScnAt l W0 C vl) (hx:aU d W0 v a.args) (z:aK e W0 vc a.cond.args) (hu:fo W0 u b) (hb:Mm W0 w)
  (eg:∀args W,(callFunc G args).run prog W=.ok (.enter G args) W) (hQ:∀n1 B,Q n1 B->W0.heap.size<=n1/\n1<=w.heap.size/\fA w B/\(∀k,B=some k->k<n1)/\RestOk F G lr W0.heap.size n1 B w i l.length) (hT:zS V l a b i F) (hS:jX l a b i) :
  Calls prog 201 #[.pointer (some ⟨C,0,none⟩),ptV a v vc,u,Mk (i:Int),.func (.func G) #[] lr.toArray] w (uj Q (jj (bj l a b i) F b) W0 w):=by
 have HQ:Hid (∀(n1:Nat) (B:Option Nat),Q n1 B->∀(I J to O tr:TypeId),SeqC 249 #[.pointer (some ⟨w.heap.size,0,none⟩),.pointer (some ⟨w.heap.size+1,0,none⟩),.pointer (some ⟨w.heap.size+2,0,none⟩),.pointer (some ⟨w.heap.size+3,0,none⟩),.pointer (some ⟨w.heap.size+4,0,none⟩)] (jj (bj l a b i) F b) (InS n1 B) (aE W0.heap.size n1 B)
   (((((w.alloc (.cells #[.pointer (some ⟨C,0,none⟩)] I)).alloc (.cells (aM a v vc).toArray J)).alloc (.cells #[u] to)).alloc (.cells #[.int .i64 (i:Int)] O)).alloc (.cells #[.func (.func G) #[] lr.toArray] tr))):=by
  refine jD fun n1 B hq I J to O tr=>?_
  obtain⟨h1,h2,h3,h4,h5⟩:=hQ n1 B hq;have hM:=eS (i:=i) (n1:=n1) (B:=B) c' hx z hu hb h1 h2 h3 h4 I J to O;have a':Mm w ((((w.alloc (.cells #[.pointer (some ⟨C,0,none⟩)] I)).alloc (.cells (aM a v vc).toArray J)).alloc (.cells #[u] to)).alloc (.cells #[.int .i64 (i:Int)] O)) :=
   ab (ab (ab (af w _) (af _ _)) (af _ _)) (af _ _)
  have Z:((((w.alloc (.cells #[.pointer (some ⟨C,0,none⟩)] I)).alloc (.cells (aM a v vc).toArray J)).alloc (.cells #[u] to)).alloc (.cells #[.int .i64 (i:Int)] O)).heap.size=w.heap.size+4:=by simp
  generalize ((((w.alloc (.cells #[.pointer (some ⟨C,0,none⟩)] I)).alloc (.cells (aM a v vc).toArray J)).alloc (.cells #[u] to)).alloc (.cells #[.int .i64 (i:Int)] O))=w4 at hM a' Z ⊢;have h:=af w4 (.cells #[.func (.func G) #[] lr.toArray] tr);have hk:=hM.grow h;have hc:=jO w4 (.func (.func G) #[] lr.toArray) tr;rw[Z]at hc;exact Gs (hM.next hk) hc (hM.new h om) eg (h5.keep (cf (ab a' h) hb.size (fun k hk=>by have:=h4 k hk;omega))) hT hS
 obtain⟨A,c,rfl,-⟩:=id hx;obtain⟨Ac,cc,rfl,-⟩:=id z;obtain⟨Ab,cb,rfl,-⟩:=id hu;clear c' hx z hu hb hQ hT hS eg;unfold ptV;go_enter func201,ntmps201;go_wp2;go_ret;exact⟨_,_,rfl,fun _ _=>rfl,jB,fun n1 B hq=>HQ.out n1 B hq _ _ _ _ _⟩
end
section
open Go.RowKit Go.Lib
theorem ub3 {p:Prop} (h:p:=by
  go_wp2_with fail;refine h.out.mono ?_;rintro e5 w5 ⟨v5,rfl,I,Z⟩;have H5:=jD (And.intro I Z);obtain⟨A5,c5,rfl,-⟩:=I.form;clear I Z;go_wp2;go_ret;exact⟨_,rfl,H5.out.1,H5.out.2⟩):p:=h
theorem Ep (l:List Evt) (y:Pt) (b:Bs) (j d e C:Nat) (v vc vl u:Value) (W:World) (bc br:Nat) (hc:W.cell? ⟨bc,0,none⟩=some (.pointer (some ⟨C,0,none⟩))) (hp:Cells W br 0 (aM y v vc)) (z:ScnAt l W C vl) (hx:aU d W v y.args) (G:aK e W vc y.cond.args) (hu:fo W u b) (hS:jX l y b j) :
  Calls prog 202 #[u,Mk (j:Int),.pointer (some ⟨bc,0,none⟩),.pointer (some ⟨br,0,none⟩)] W (gY W (bj l y b j)):=by
 have h:=jD (hS d e C v vc vl u W z.ev z.fu z.is hx G hu);obtain⟨A,c,rfl,-⟩:=id hx;obtain⟨Ac,cc,rfl,-⟩:=id G;obtain⟨Ab,cb,rfl,-⟩:=id hu;obtain⟨p0,p1,p2,p3,p4,p5,p6,p7,p8,p9,h',g',f',d'⟩:=dU hp;have c':=Ms W ⟨br,_,none⟩ p0;have i':=Ms W ⟨bc,_,none⟩ hc;obtain⟨na,J⟩:∃n,n=y.args.length:=⟨_,rfl⟩;obtain⟨ne,O⟩:∃n,n=y.cond.args.length:=⟨_,rfl⟩;obtain⟨nb,a'⟩:∃n,n=b.length:=⟨_,rfl⟩;rw[<-J]at h p1;rw[<-O]at h p7;rw[<-a']at h ⊢;clear z hx G hu hS hp J O a';unfold ptV at h;go_enter func202,ntmps202;exact ub3
theorem C8 (l:List Evt) (y:Pt) (b:Bs) (j d e C:Nat) (v vc vl u:Value) (W:World) (bc br:Nat) (hc:W.cell? ⟨bc,0,none⟩=some (.pointer (some ⟨C,0,none⟩))) (hp:Cells W br 0 (aM y v vc)) (z:ScnAt l W C vl) (hx:aU d W v y.args) (G:aK e W vc y.cond.args) (hu:fo W u b) (hS:jX l y b j) :
  Calls prog 207 #[u,Mk (j:Int),.pointer (some ⟨bc,0,none⟩),.pointer (some ⟨br,0,none⟩)] W (gY W (bj l y b j)):=by
 have h:=jD (hS d e C v vc vl u W z.ev z.fu z.is hx G hu);obtain⟨A,c,rfl,-⟩:=id hx;obtain⟨Ac,cc,rfl,-⟩:=id G;obtain⟨Ab,cb,rfl,-⟩:=id hu;obtain⟨p0,p1,p2,p3,p4,p5,p6,p7,p8,p9,h',g',f',d'⟩:=dU hp;have c':=Ms W ⟨br,_,none⟩ p0;have i':=Ms W ⟨bc,_,none⟩ hc;obtain⟨na,J⟩:∃n,n=y.args.length:=⟨_,rfl⟩;obtain⟨ne,O⟩:∃n,n=y.cond.args.length:=⟨_,rfl⟩;obtain⟨nb,a'⟩:∃n,n=b.length:=⟨_,rfl⟩;rw[<-J]at h p1;rw[<-O]at h p7;rw[<-a']at h ⊢;clear z hx G hu hS hp J O a';unfold ptV at h;go_enter func207,ntmps207;exact ub3
theorem Jw (V:List Int) (l:List Evt) (x:Pt) (b:Bs) (i:Nat) (hG:GoodQ V l.length x) (V0:dR V l.length) (Z0:x.op=1) (hB:BOk i b) (hi:i<=l.length) (hA:∀a∈x.args,fI l a) (hr:∀a c r,x.args=a::c::r->fI l (gi x (c::r))):FinderK 132 l x b i:=by
 intro d e C v vc vl u W0 w H' hx P' hu hb;have V':x.args≠[]:=by rcases hG.good.self.1 with h|h|h;omega;omega;exact h
 obtain⟨a,r,B'⟩:∃a r,x.args=a::r:=by
  cases h:x.args with
  | nil=>exact absurd h V'
  | cons a r=>exact⟨a,r,rfl⟩
 have R0:a∈x.args:=by rw[B'];exact Mz ..
 have I':=hA a R0 b i hB hi;have HX:=jD hx;have Z':=jD P';have HU:=jD hu;have F1:=jD H';have HB:=jD hb;have H0:=jD hG;have A1:=jD (And.intro hB hi);have R1:=jD V0;have Q1:=jD hr;have p':=jD B';have t':=jD Z0;obtain⟨A,c,rfl,x1,x2,-⟩:=id hx;obtain⟨Ac,cc,rfl,-⟩:=id P';obtain⟨Ab,cb,rfl,-⟩:=id hu;have X':=ay x1 x2;obtain⟨Av,cv,Ae,ne,ce,I,O,rfl,s',⟨d',e',U0,F'⟩,x'⟩:=tq H' hx (k:=0) (a:=a) (by rw[B'];rfl) i b _ I';simp only[Nn,Nc]at s';obtain⟨p0,p1,p2,p3,p4,p5,p6,p7,p8,p9,f',i',h',g'⟩:=s' w hb;have T1:=jD I';have A':=jD (fun (W9:World) (h9:Mm w W9)=>x' W9 (hb.trans (h9.mono hb.size)) (hu.stays aL (hb.trans (h9.mono hb.size))));have G':=jD (And.intro U0 F');have Y1:Hid (∀(W5:World) (A5:Option Addr) (n5 c5:Nat),Calls prog 200 #[.slice A5 n5 c5] W5 fun e W=>e=.returned (.func (.func 248) #[] #[.pointer (some ⟨W5.heap.size,0,none⟩)])/\Mm W5 W/\W.cell? ⟨W5.heap.size,0,none⟩=some (.slice A5 n5 c5)) :=
  jD fun W5 A5 n5 c5=>(zN A5 n5 c5 W5).mono fun e W h=>⟨h.1,by rw[h.2];exact af _ _,by rw[h.2];exact jO _ _ _⟩
 have r':x.args.length=r.length+1:=by rw[B'];rfl
 obtain⟨n,hn⟩:=jF x.args.length;obtain⟨na,K0⟩:∃n,n=a.args.length:=⟨_,rfl⟩;obtain⟨nb,N'⟩:∃n,n=b.length:=⟨_,rfl⟩;obtain⟨nx,J'⟩:∃n,n=x.cond.args.length:=⟨_,rfl⟩;have HN:=jD hn;rw[<-hn]at HX X' r' x1;rw[<-K0]at A' G' p1;rw[<-N']at A' HU;rw[<-J']at Z';obtain⟨u,z'⟩:=jF (Value.slice Ab nb cb);rw[<-z']at A' HU;have G2:(0:Int)<(n:Int):=by omega
 have U2:0<n:=by omega
 have V1:=jD r';have H2:=jD x1;unfold ptV at A' ⊢;rw[<-hn,<-J',<-N',<-z'];clear hx P' hu H' hb hG hB hi V0 hA hr B' R0 V' I' s' U0 F' x' hn K0 N' J' z' x2 Z0;go_enter func132,ntmps132;have D':=Ms w ⟨I,_,none⟩ p0
 by_cases m':n=1
 ·have hq:((n:Int)==1)=true:=by rw[m'];rfl
  have Y0:=jD m';clear m' x1 r';go_wp2_with fail;refine bg fun w1 e1=>?_
  obtain⟨bc,j'⟩:∃q,q=w.heap.size:=⟨_,rfl⟩;obtain⟨bp,l'⟩:∃q,q=w.heap.size+1:=⟨_,rfl⟩;have J:Hid (Mm w w1):=jD (gb e1);have zc:Ml w1 bc 0 (.pointer (some ⟨C,0,none⟩)):=jW e1 j';have zp:Ml w1 bp 1 (.slice (some ⟨I,O,none⟩) n c):=jW e1 l';rw[<-l',<-j'];replace p0:=aa J.out p0;replace p1:=aa J.out p1;replace p2:=aa J.out p2;replace p3:=aa J.out p3;replace p4:=aa J.out p4;replace p5:=aa J.out p5;replace p6:=aa J.out p6;replace p7:=aa J.out p7;replace p8:=aa J.out p8;replace p9:=aa J.out p9;replace f':=aa J.out f';replace i':=aa J.out i';replace h':=aa J.out h';replace g':=aa J.out g';have R':=Ms w1 ⟨I,_,none⟩ p0;have T':=Ms w1 ⟨bc,_,none⟩ zc;have O':=Ms w1 ⟨bp,_,none⟩ zp;have Y':Hid (w.heap.size<=w1.heap.size):=jD J.out.size;clear e1 j' l' D'
  refine rgn (fun W:World=>Mm w1 W/\Ml W bc 0 (.pointer (some ⟨C,0,none⟩))/\Ml W bp 1 (.slice (some ⟨I,O,none⟩) n c)/\Ml W I O (Mk a.op)/\Ml W I (O+1) (.slice Av na cv)/\Ml W I (O+2) (Mk a.ty)/\Ml W I (O+3) (Mk a.vr)/\Ml W I (O+4) (Mk a.sc)/\Ml W I (O+5) (Mk a.sp)/\Ml W I (O+6) (Mk a.cond.op)/\Ml W I (O+7) (.slice Ae ne ce)/\Ml W I (O+8) (Mk a.cond.vr)/\Ml W I (O+9) (Mk a.cond.fl)/\Ml W I (O+10) (Mk a.cond.kd)/\Ml W I (O+11) (Mk a.cond.val.kind)/\Ml W I (O+12) (Mk a.cond.val.num)/\Ml W I (O+13) (.string a.cond.val.text)) (Below w1.heap.size w1) (fun W G=>⟨G,aa G zc,aa G zp,aa G p0,aa G p1,aa G p2,aa G p3,aa G p4,aa G p5,aa G p6,aa G p7,aa G p8,aa G p9,aa G f',aa G i',aa G h',aa G g'⟩) ((Mr _ _).drew) (fun k' z=>?_);refine tkH [0,1,2,3,4,5,6] ?_;refine nxH 7 (fun K hK=>?_)
  focus (go_simp;refine (A'.out _ (ab J.out z.1)).mono ?_;rintro e w5 ⟨v5,rfl,y',q'⟩;have c':Mm w1 w5:=ab z.1 q';replace y':=SetsIn.mono (Q':=fun q=>w1.heap.size<=q) (fun q hq=>Mx z.1.size hq) y';obtain⟨A5,c5,rfl,R2⟩:=y'.form)
  refine hK.out _ _ (k' _ c') (fun z=>?_);clear hK K;refine nxH 8 (fun K hK=>?_)
  focus (go_simp;refine (Y1.out w5 A5 _ c5).mono ?_;rintro e w6 ⟨rfl,S',S0⟩;have C':Mm w1 w6:=ab z.1 S')
  refine hK.out _ _ (k' _ C') (fun z=>?_);clear hK K;refine tkH [9] ?_;refine dn ?_;have Q0:=ab J.out C';have X0:=c'.size;have H6:=jD (And.intro Q0 (And.intro y' S0));have G1:=jD S';have S1:Hid (w.heap.size<=w5.heap.size):=jD (by have:=Y'.out;omega);have T2:=jD q';have E2:=jD z.1;clear z k' c' C' q' S' y' S0 Q0 X0 p0 p1 p2 p3 p4 p5 p6 p7 p8 p9 f' i' h' g' zc zp R' T' O';go_wp2;go_ret;refine⟨_,_,rfl,fun _ _=>rfl,H6.out.1,fun n1 B h1 h2 h3 h4=>?_⟩;have e1:fO l x b i=bj l a b i:=by
   unfold fO;rw[Mo (by have:=t'.out;omega),Mp t'.out,p'.out];have:r=[]:=List.length_eq_zero_iff.1 (by have:=V1.out;have:=Y0.out;omega);rw[this]
  rw[e1];refine AA (by have:=HB.out.size;have:=H6.out.1.size;omega) (by have:=H6.out.1.size;omega) h4 H6.out.2.2 (iQ h2 h3 H6.out.1 h4 S1.out) ((H6.out.2.1.stays G1.out).mono fun q hq=>iQ h2 h3 H6.out.1 h4 ?_);have:=Y'.out;have:w1.heap.size<=q:=hq;omega
 ·have hq:((n:Int)==1)=false:=by rw[Nl];omega
  have U':¬c=1:=by omega
  have P2:(1:Int)<=(n:Int):=by omega
  have S2:1<=n:=by omega
  obtain⟨a2,r2,M1⟩:∃a2 r2,r=a2::r2:=by
   cases h:r with
   | nil=>rw[h]at r';simp at r';omega
   | cons a2 r2=>exact⟨a2,r2,rfl⟩
  subst M1;have W1:Hid (aU d W0 (.slice (some ⟨I,O+14,none⟩) (n-1) (c-1)) (a2::r2)):=jD (by
   have h:=HX.out;rw[p'.out]at h;have h2:=IH h;rw[Mo U']at h2;exact h2)
  have Q2:=jD U';clear m' r';go_wp2_with fail;refine bg fun w2 e2=>?_
  obtain⟨bc,j'⟩:∃q,q=w.heap.size:=⟨_,rfl⟩;obtain⟨bp,l'⟩:∃q,q=w.heap.size+1:=⟨_,rfl⟩;obtain⟨br,Z⟩:∃q,q=w.heap.size+1+1:=⟨_,rfl⟩;have a':Hid (Mm w w2):=jD (gb e2);have zc:Ml w2 bc 0 (.pointer (some ⟨C,0,none⟩)):=jW e2 j';have zp:Ml w2 bp 1 (.slice (some ⟨I,O,none⟩) n c):=jW e2 l';have Z1:Hid (Cells w2 br 0 (aM (gi x (a2::r2)) (.slice (some ⟨I,O+14,none⟩) (n-1) (c-1)) (.slice Ac nx cc))):=jD (cU (by rw[e2,Z];go_simp;rfl) (by rw[e2,Z];go_simp;try rfl) (by rw[e2,Z];go_simp;rfl) (by rw[e2,Z];go_simp;rfl) (by rw[e2,Z];go_simp;rfl) (by rw[e2,Z];go_simp;rfl) (by rw[e2,Z];go_simp;rfl) (by rw[e2,Z];go_simp;try rfl) (by rw[e2,Z];go_simp;rfl) (by rw[e2,Z];go_simp;rfl) (by rw[e2,Z];go_simp;rfl) (by rw[e2,Z];go_simp;rfl) (by rw[e2,Z];go_simp;rfl) (by rw[e2,Z];go_simp;rfl));rw[<-Z,<-l',<-j'];have U1:=jD zc;have E':Hid (w.heap.size<=bc/\w.heap.size<=br):=jD om;replace p0:=aa a'.out p0;replace p1:=aa a'.out p1;replace p2:=aa a'.out p2;replace p3:=aa a'.out p3;replace p4:=aa a'.out p4;replace p5:=aa a'.out p5;replace p6:=aa a'.out p6;replace p7:=aa a'.out p7;replace p8:=aa a'.out p8;replace p9:=aa a'.out p9;replace f':=aa a'.out f';replace i':=aa a'.out i';replace h':=aa a'.out h';replace g':=aa a'.out g';have R':=Ms w2 ⟨I,_,none⟩ p0;have T':=Ms w2 ⟨bc,_,none⟩ zc;have O':=Ms w2 ⟨bp,_,none⟩ zp
  have E1:Hid (∀W9,Mm w2 W9->Calls prog 201 #[.pointer (some ⟨C,0,none⟩),ptV a (.slice Av na cv) (.slice Ae ne ce),u,Mk (i:Int),.func (.func 202) #[] #[.pointer (some ⟨bc,0,none⟩),.pointer (some ⟨br,0,none⟩)]] W9
    (uj (fun n1 B=>W0.heap.size<=n1/\n1<=w.heap.size/\fA w B/\∀k,B=some k->k<n1) (jj (bj l a b i) (bj l (gi x (a2::r2))) b) W0 W9)):=by
   refine jD fun W9 h9=>?_
   have n':=ab a'.out h9;have A2:=H0.out.rest t'.out p'.out;refine xt _ V l a b i d' e' C 202 [.pointer (some ⟨bc,0,none⟩),.pointer (some ⟨br,0,none⟩)] (bj l (gi x (a2::r2))) _ _ vl u W0 W9 F1.out G'.out.1 G'.out.2 HU.out (HB.out.trans (n'.mono HB.out.size)) (enters_of func202 kr rfl) (fun n1 B ⟨h1,h2,h3,h4⟩=>?_) ⟨R1.out,A1.out.1,A1.out.2,fun s hs=>eu (H0.out.arg (by rw[p'.out];exact Mz ..)) hs,fun s _ t ht=>eu A2 ht⟩ T1.out;have X1:aE W0.heap.size n1 B w W9:=cf n' HB.out.size (fun k hk=>by have:=h4 k hk;omega);refine⟨h1,by have:=n'.size;omega,X1.safe h3,h4,fun W b' j u' hk K2 B2 P1 z'=>?_⟩;have G:=(HB.out.trans (n'.mono HB.out.size)).trans hk.below;have o1:=bQ hk (iQ h2 h3 n' h4 E'.out.1) (aa h9 U1.out);have o2:Own n1 B W9 br:=iQ h2 h3 n' h4 E'.out.2;exact Ep l (gi x (a2::r2)) b' j d e C _ _ vl u' W bc br o1.1 (fun q v hq=>(bQ hk o2 (aa h9 (Z1.out q v hq))).1) (F1.out.stays G) (W1.out.stays (aB d) G) (Z'.out.stays (ai e) G) z' (Q1.out a a2 r2 p'.out b' j B2 P1)
  unfold ptV at E1;clear e2 j' l' Z D' U';refine rgn (fun W:World=>Mm w2 W/\Ml W bc 0 (.pointer (some ⟨C,0,none⟩))/\Ml W bp 1 (.slice (some ⟨I,O,none⟩) n c)/\Ml W I O (Mk a.op)/\Ml W I (O+1) (.slice Av na cv)/\Ml W I (O+2) (Mk a.ty)/\Ml W I (O+3) (Mk a.vr)/\Ml W I (O+4) (Mk a.sc)/\Ml W I (O+5) (Mk a.sp)/\Ml W I (O+6) (Mk a.cond.op)/\Ml W I (O+7) (.slice Ae ne ce)/\Ml W I (O+8) (Mk a.cond.vr)/\Ml W I (O+9) (Mk a.cond.fl)/\Ml W I (O+10) (Mk a.cond.kd)/\Ml W I (O+11) (Mk a.cond.val.kind)/\Ml W I (O+12) (Mk a.cond.val.num)/\Ml W I (O+13) (.string a.cond.val.text)) (Below w2.heap.size w2) (fun W G=>⟨G,aa G zc,aa G zp,aa G p0,aa G p1,aa G p2,aa G p3,aa G p4,aa G p5,aa G p6,aa G p7,aa G p8,aa G p9,aa G f',aa G i',aa G h',aa G g'⟩) ((Mr _ _).drew) (fun k' z=>?_);refine tkH [0,1,2,3,4,5,6] ?_;refine nxH 7 (fun K hK=>?_)
  go_simp
  refine hK.out _ _ (k' _ jB) (fun z=>?_);clear hK K;refine nxH 8 (fun K hK=>?_)
  focus (go_simp;refine (E1.out _ z.1).mono ?_;rintro e w5 ⟨gf,lb,rfl,K1,q',P0⟩;have c':Mm w2 w5:=ab z.1 q')
  refine hK.out _ _ (k' _ c') (fun z=>?_);clear hK K;refine tkH [9] ?_;refine dn ?_;have H5:Hid (Ij (fO l x b i) W0 w (.returned (.func (.func gf) #[] lb)) w5):=jD ⟨gf,lb,rfl,K1,ab a'.out c',fun n1 B h1 h2 h3 h4=>by
   have e1:fO l x b i=jj (bj l a b i) (bj l (gi x (a2::r2))) b:=by
    unfold fO;rw[Mo (by have:=t'.out;omega),Mp t'.out,p'.out]
   rw[e1];exact P0 n1 B ⟨h1,h2,h3,h4⟩⟩
  clear z k' c' q' K1 P0 p0 p1 p2 p3 p4 p5 p6 p7 p8 p9 f' i' h' g' zc zp R' T' O';go_wp2;go_ret;exact H5.out
end
section
open Go.RowKit Go.Lib
attribute [local go_sem] Oper.semAt_some
theorem tO {F:Fence} {n:Nat} {P:Program} {c:Code} {Q:Exit->Act->World->Prop} {a:Act} {w:World} (h:∀a0,a0=a->c.wpIn F n P Q a0 w):c.wpIn F n P Q a w:=h a rfl
theorem Ic {K:Act->World->Prop} {a:Act} {w:World} (h:∀W:World,W=w->K a W):K a w:=h w rfl
theorem xY {z n:Nat} {P:Program} {o:Oper} {a:Act} {K:Act->World->Prop} {Q:Exit->Act->World->Prop} {l:Nat} {args:Array Value} {W:World} {X Y:World->Prop}
  (hy:YieldAt Fence.wide (n-1) P l args W (fun e W'=>(e=.returned (.bool true)/\X W')\/(e=.returned (.bool false)/\Y W')))
  (I:∀W',X W'->K (a.put o.dst (.bool true)) W') (G:∀W',Y W'->K (a.put o.dst (.bool false)) W'):Oper.uponIn (Fence.wide.inRound z) n P o a K Q ((Instr.yield l args).run P W):=by
 obtain⟨fn,tmps,assign,body,hy,J⟩:=hy;rw[hy];refine⟨fun h=>by simp[Fence.wide,Fence.inRound]at h,RoundIn.mono (F:=Fence.wide.inRound z) J ?_⟩;rintro e W' (⟨rfl,h⟩|⟨rfl,h⟩)
 ·exact I W' h
 ·exact G W' h
theorem dW {β:Type} {J:β->World->Prop} {X Y:Nat} (h:OwnFrom X J) (hle:X<=Y):OwnFrom Y J:=fun s A B row hs z hr=>h s A B row hs z fun r e=>⟨Mx hle (hr r e).1,(hr r e).2⟩
theorem JG {α:Type} {L M:List α} {k:Nat} {x:α} (h:M[k]?=some x):(L++M)[L.length+k]?=some x:=by
 rw[M7 om,Nat.add_sub_cancel_left];exact h
theorem Il {V:List Int} {l:List Evt} {x a:Pt} {r:List Pt} {b:Bs} {i d e C:Nat} {v vc vl u:Value} {W0 w:World} {n1:Nat} {B:Option Nat} {bc bp bo bf:Nat} (H:SeqHyp l x b i d e C v vc vl u W0 w n1 B bc bp bo bf)
  (U2:x.op=4) (q':x.args=a::r) (hG:GoodQ V l.length x) (H2:dR V l.length) (hB:BOk i b) (hi:i<=l.length) (hA:jX l a b i) (hR:∀b' j,i<j->BOk j b'->j<=l.length->jX l x b' j) :
  JS 206 #[.pointer (some ⟨bc,0,none⟩),.pointer (some ⟨bp,0,none⟩),.pointer (some ⟨bo,0,none⟩),.pointer (some ⟨bf,0,none⟩)] (fO l x b i) (InS n1 B) (aE W0.heap.size n1 B) w:=by
 obtain⟨L,A'⟩:=jF (bj l a b i);obtain⟨M,X'⟩:=jF (jj (bj l a b i) (bj l x) b);rw[show fO l x b i=L++M from by unfold fO;rw[Mo om,Mo om,Mo om,Mo om,q',X',A'];dsimp only;rw[Mp U2]];intro ly J Jx Wq G hJ Y2 hY K1;have H0:=H.next (H.grow G);have HJ:=jD hJ;have R2:=jD Y2;have HY:=jD hY;have r':=jD H0;have F1:=jD K1;have M3:Hid (∀b' j,i<j->BOk j b'->j<=l.length->jX l x b' j):=jD hR;have S3:Hid (zS V l a b i (bj l x)):=jD ⟨H2,hB,hi,fun s hs=>eu (hG.arg (by rw[q'];exact Mz ..)) hs,fun s _ t ht=>eu hG ht⟩;have Z1:=jD hA;have T3:Hid (x.args[0]?=some a):=jD (by rw[q'];rfl);have Q0:Hid ((L++M).length=L.length+M.length):=jD Mw;have B3:(0:Int)<(x.args.length:Int):=by rw[q',MG];omega
 have W3:=jD X';have Q4:=jD A';clear H G hJ Y2 hY K1 hR hG H2 hB hi hA U2 q' X';show Calls prog 206 #[.func (.yield ly) #[] #[],.pointer (some ⟨bc,0,none⟩),.pointer (some ⟨bp,0,none⟩),.pointer (some ⟨bo,0,none⟩),.pointer (some ⟨bf,0,none⟩)] Wq _;refine (OQ (n:=5)).1 ?_;refine callsIn_of_wp_marks func206 rfl trivial ?_ rfl;simp only[ntmps206,N5,MG,Og,Nat.reduceAdd,Nat.reduceSub,O1,O2,O3,O4,OP,Oi];gi_wp2;refine wpIn_wide.2 ?_;refine bg fun Z es=>?_
 obtain⟨x',S'⟩:∃q,q=Wq.heap.size:=⟨_,rfl⟩;have m':Mm Wq Z:=gb es;have zy:Ml Z x' 0 (.func (.yield ly) #[] #[]):=jW es S';have H1:=jD (r'.out.next (r'.out.grow m'));have V1:Hid (Own n1 B Z x'):=jD (r'.out.new m' om);have H4:Hid (aE W0.heap.size n1 B Wq Z):=jD (r'.out.grow m');have K2:Hid (J 0 Z):=jD (aS (gJ HJ.out) F1.out m');have K0:Hid (Wq.heap.size<=Z.heap.size):=jD m'.size;rw[<-S'];clear es S' m';obtain⟨Al,cl,rfl,-⟩:=id H1.out.scn.is;obtain⟨Ab,cb,rfl,-⟩:=id H1.out.bs;obtain⟨A,c,rfl,x1,x2,-⟩:=id H1.out.pts;obtain⟨Ac,cc,rfl,-⟩:=id H1.out.exs;have Y0:=ay x1 x2;obtain⟨Av,cv,Ae,ne,ce,I,O,rfl,h',⟨d',e',E2,H'⟩,n'⟩:=mu H1.out rfl (k:=0) (a:=a) T3.out i b (.slice Ab b.length cb) Z1.out;simp only[Nn,Nc]at h';have G':=jD h';obtain⟨p0,p1,p2,p3,p4,p5,p6,p7,p8,p9,G1,V2,S2,S1⟩:=h' Z H1.out.bel;have f':=jD (fun (W9:World) (h9:Mm Z W9)=>n' W9 (H1.out.bel.trans (h9.mono H1.out.bel.size)) (H1.out.bs.stays aL (H1.out.bel.trans (h9.mono H1.out.bel.size))));have N':=jD (And.intro E2 H');obtain⟨zc,-⟩:=H1.out.caps.c;obtain⟨zo,-⟩:=H1.out.caps.o;obtain⟨zf,-⟩:=H1.out.caps.f;have zp:=H1.out.caps.p.1 1 _ rfl;rw[MC]at zp;obtain⟨nb,Y1⟩:∃n,n=b.length:=⟨_,rfl⟩;obtain⟨n,hn⟩:=jF x.args.length;obtain⟨na,P1⟩:∃n,n=a.args.length:=⟨_,rfl⟩;have R4:0<n:=by omega
 rw[<-Y1]at H1 f' zo;rw[<-hn]at Y0 zp H1 B3;rw[<-P1]at f' p1 N' G';rw[<-A']at f';obtain⟨u,hu⟩:=jF (Value.slice Ab nb cb);rw[<-hu]at H1 f' zo;have Y':=Ms Z ⟨I,_,none⟩ p0;have C':=Ms Z ⟨bc,_,none⟩ zc;have O':=Ms Z ⟨bo,_,none⟩ zo;have T':=Ms Z ⟨bf,_,none⟩ zf;have V':=Ms Z ⟨bp,_,none⟩ zp;have X2:=jD zy;clear x1 x2 Y1 hn P1 A' h' n' E2 H' hu r' zy;unfold ptV at f';refine rgn (fun W:World=>Mm Z W/\Ml W bc 0 (.pointer (some ⟨C,0,none⟩))/\Ml W bp 1 (.slice (some ⟨I,O,none⟩) n c)/\Ml W bo 0 (u)/\Ml W bf 0 (Mk (i:Int))/\Ml W I O (Mk a.op)/\Ml W I (O+1) (.slice Av na cv)/\Ml W I (O+2) (Mk a.ty)/\Ml W I (O+3) (Mk a.vr)/\Ml W I (O+4) (Mk a.sc)/\Ml W I (O+5) (Mk a.sp)/\Ml W I (O+6) (Mk a.cond.op)/\Ml W I (O+7) (.slice Ae ne ce)/\Ml W I (O+8) (Mk a.cond.vr)/\Ml W I (O+9) (Mk a.cond.fl)/\Ml W I (O+10) (Mk a.cond.kd)/\Ml W I (O+11) (Mk a.cond.val.kind)/\Ml W I (O+12) (Mk a.cond.val.num)/\Ml W I (O+13) (.string a.cond.val.text)) (Below Z.heap.size Z) (fun W G=>⟨G,aa G zc,aa G zp,aa G zo,aa G zf,aa G p0,aa G p1,aa G p2,aa G p3,aa G p4,aa G p5,aa G p6,aa G p7,aa G p8,aa G p9,aa G G1,aa G V2,aa G S2,aa G S1⟩) ((Mr _ _).drew) (fun l' z=>?_);refine tkH [0,1,2,3,4,5,6,9] ?_;refine nxH 7 (fun K hK=>?_)
 focus (go_simp;refine (f'.out _ z.1).mono ?_;rintro e w4 ⟨v4,rfl,s',V0⟩;have j':Mm Z w4:=ab z.1 V0;replace s':=H1.out.sets z.1 s' V0;obtain⟨A4,c4,rfl,R3⟩:=s'.form)
 refine hK.out _ _ (l' _ j') (fun z=>?_);clear hK K;refine tkH [8] ?_;refine dn ?_;have A1:Hid (J 0 w4/\aE W0.heap.size n1 B Z w4/\SetsIn (Own n1 B w4) w4 (.slice A4 L.length c4) L):=jD ⟨aS (gJ (dW HJ.out K0.out)) K2.out j',H1.out.grow j',s'⟩;obtain⟨n4,P0⟩:∃n,n=L.length:=⟨_,rfl⟩;have k':=jD P0;rw[<-P0]at A1 R3 ⊢;clear s' V0 j' z l' P0 p0 p1 p2 p3 p4 p5 p6 p7 p8 p9 G1 V2 S2 S1 zc zo zf zp Y' C' O' T' V' f' F1 K2;gi_wp2
 gi_loopw [18] (fun t wr=>∃k:Nat,k<=n4/\t=Mk k/\Hid (J k wr/\aE W0.heap.size n1 B Z wr/\SetsIn (Own n1 B wr) wr (.slice A4 n4 c4) L)) (fun t _=>n4-(RowKit.intOf t).toNat)
 case atStart=>exact⟨0,Mu _,rfl,A1⟩
 case round =>
  obtain⟨k,hk,rfl,hI⟩:=hrel;have Hr:=H1.out.next hI.out.2.1;have Z':=jD Hr
  by_cases R1:k<n4
  ·have H3:(k:Int)<(n4:Int):=by omega
   obtain⟨zc,-⟩:=Hr.caps.c;have zu:=(Hr.scn.stays Hr.bel).fu;have zy:=(bQ hI.out.2.1 V1.out X2.out).1;obtain⟨s,hs⟩:∃s,L[k]?=some s:=⟨_,Mq (by have:=k'.out;omega)⟩;obtain⟨sb,so,us,rfl,W1,R0⟩:=hI.out.2.2.at hs;obtain⟨Au,cu,rfl⟩:=R0.form;have p':Hid (YieldAt Fence.wide (5-1) prog ly #[.slice Au s.length cu] wr fun e W'=>(e=.returned (.bool true)/\J (k+1) W'/\aE W0.heap.size n1 B Z W'/\SetsIn (Own n1 B W') W' (.slice (some ⟨sb,so,none⟩) n4 c4) L)\/(e=.returned (.bool false)/\Jx (k+1) W')):=by
    refine jD (cg (HY.out _ k s _ wr (by rw[MQ (by rw[<-k'.out];exact R1)];exact hs) hI.out.1 ⟨_,rfl,R0⟩) ?_);rintro e W' (⟨rfl,g1,g2,-⟩|⟨rfl,g1,-⟩)
    ·exact .inl ⟨rfl,g1,aR hI.out.2.1 g2,SetsIn.keepO g2 hI.out.2.2⟩
    ·exact .inr ⟨rfl,g1⟩
   have T1:Hid (k<(L++M).length):=jD (by rw[Q0.out,<-k'.out];omega);obtain⟨ns,t'⟩:∃n,n=s.length:=⟨_,rfl⟩;rw[<-t']at p' W1;have K4:=Ms wr ⟨sb,_,none⟩ W1;have C':=Ms wr ⟨bc,_,none⟩ zc;have P4:=Ms wr ⟨C,_,none⟩ zu;have V3:=Ms wr ⟨x',_,none⟩ zy;clear hs R0 t' Hr;gi_wp2;refine dx p'.out (fun W7 h7=>?_) (fun W7 h7=>?_)
   ·have H7:=jD h7;clear h7;gi_wp2
    go_roundw
    case rel=>exact⟨k+1,by omega,by go_num,H7⟩
    case measure=>exact jh R1
   ·have H7:=jD h7;clear h7;gi_wp2;refine⟨.tuple #[],NI rfl _ _ _,⟨_,rfl⟩,.inr ⟨_,?_,H7.out⟩⟩
    first|exact T1.out|(have h:=T1.out;rw[Mw]at h;exact h)
  ·have H3:¬(k:Int)<(n4:Int):=by omega
   obtain rfl:k=n4:=by omega
   obtain⟨U0,-⟩:=Hr.caps.c;obtain⟨J',-⟩:=Hr.caps.o;obtain⟨P',-⟩:=Hr.caps.f;have y':=Hr.caps.p.1 1 _ rfl;rw[MC]at y';obtain⟨U',Q2,U1,E1,M1,Z2,A2,X1,P2,B2,F',I',E',D'⟩:=G'.out wr Hr.bel;have S0:Hid (∀W9,Mm wr W9->Calls prog 201 #[.pointer (some ⟨C,0,none⟩),ptV a (.slice Av na cv) (.slice Ae ne ce),u,Mk (i:Int),.func (.func 207) #[] #[.pointer (some ⟨bc,0,none⟩),.pointer (some ⟨bp,0,none⟩)]] W9
     (uj (fun n B'=>n=n1/\B'=B) M W0 W9)):=by
    refine jD fun W9 h9=>?_
    rw[W3.out];have X3:aE W0.heap.size n1 B Z W9:=aR hI.out.2.1 (Z'.out.grow h9);have H9:=H1.out.next X3;refine xt _ V l a b i d' e' C 207 [.pointer (some ⟨bc,0,none⟩),.pointer (some ⟨bp,0,none⟩)] (bj l x) _ _ _ u W0 W9 H1.out.scn N'.out.1 N'.out.2 H1.out.bs H9.bel (enters_of func207 kr rfl) (fun n2 B' hq=>?_) S3.out Z1.out;obtain⟨rfl,rfl⟩:=hq;refine⟨H1.out.lo,H9.hi,H9.safe,H1.out.box,fun W b' j u' hk P3 Z3 K3 Q3=>?_⟩;have HW:=H9.next hk;exact C8 l x b' j d e C _ _ _ u' W bc bp HW.caps.c.1 HW.caps.p.1 (HW.scn.stays HW.bel) (HW.pts.stays (aB d) HW.bel) (HW.exs.stays (ai e) HW.bel) Q3 (M3.out b' j P3 Z3 K3)
   unfold ptV at S0;have Y':=Ms wr ⟨I,_,none⟩ U';have C':=Ms wr ⟨bc,_,none⟩ U0;have O':=Ms wr ⟨bo,_,none⟩ J';have T':=Ms wr ⟨bf,_,none⟩ P';have V':=Ms wr ⟨bp,_,none⟩ y';clear Hr;gi_wp2;refine wpIn_wide.2 ?_;refine rgn (fun W:World=>Mm wr W/\Ml W bc 0 (.pointer (some ⟨C,0,none⟩))/\Ml W bp 1 (.slice (some ⟨I,O,none⟩) n c)/\Ml W bo 0 (u)/\Ml W bf 0 (Mk (i:Int))/\Ml W I O (Mk a.op)/\Ml W I (O+1) (.slice Av na cv)/\Ml W I (O+2) (Mk a.ty)/\Ml W I (O+3) (Mk a.vr)/\Ml W I (O+4) (Mk a.sc)/\Ml W I (O+5) (Mk a.sp)/\Ml W I (O+6) (Mk a.cond.op)/\Ml W I (O+7) (.slice Ae ne ce)/\Ml W I (O+8) (Mk a.cond.vr)/\Ml W I (O+9) (Mk a.cond.fl)/\Ml W I (O+10) (Mk a.cond.kd)/\Ml W I (O+11) (Mk a.cond.val.kind)/\Ml W I (O+12) (Mk a.cond.val.num)/\Ml W I (O+13) (.string a.cond.val.text)) (Below wr.heap.size wr) (fun W G=>⟨G,aa G U0,aa G y',aa G J',aa G P',aa G U',aa G Q2,aa G U1,aa G E1,aa G M1,aa G Z2,aa G A2,aa G X1,aa G P2,aa G B2,aa G F',aa G I',aa G E',aa G D'⟩) ((Mr _ _).drew) (fun l' z=>?_);refine tkH [0,1,2,3,4,5,6] ?_;refine nxH 7 (fun K hK=>?_)
   go_simp
   refine hK.out _ _ (l' _ jB) (fun z=>?_);clear hK K;refine nxH 8 (fun K hK=>?_)
   focus (go_simp;refine (S0.out _ z.1).mono ?_;rintro e w5 ⟨gf,lb,rfl,A3,W2,Q1⟩;have i':Mm wr w5:=ab z.1 W2)
   refine hK.out _ _ (l' _ i') (fun z=>?_);clear hK K;refine dn ?_;have R':aE W0.heap.size n1 B Z w5:=aR hI.out.2.1 (Z'.out.grow i');have Y3:Hid (J k w5/\aE W0.heap.size n1 B Z w5):=jD ⟨aS (gJ (dW HJ.out (by have:=K0.out;have:=hI.out.2.1.below.size;omega))) hI.out.1 i',R'⟩;have c':Hid (Wq.heap.size<=w5.heap.size/\n1<=w5.heap.size/\W0.heap.size<=w5.heap.size/\n1<=Z.heap.size):=jD (by have h1:=K0.out;have h2:=R'.below.size;have h3:=H1.out.hi;have h4:=H1.out.lo;exact⟨by omega,by omega,by omega,h3⟩);have U3:=jD A3;have X0:=jD (Q1 n1 B ⟨rfl,rfl⟩).own;clear z l' i' W2 Q1 A3 R' S0 U' Q2 U1 E1 M1 Z2 A2 X1 P2 B2 F' I' E' D' U0 J' P' y' Y' C' O' T' V' hI Z';gi_wp2;refine tO fun a0 e0=>?_
   refine Hy (n:=5) (gf:=gf) (lb:=lb) (by rw[e0];rfl) U3.out X0.out
    aR (kO c'.out.2.2.1 (fun b h=>by have:=H1.out.box b h;have:=c'.out.2.1;omega)) (Mr _ _) (fun x v=>Ca (fun b h=>⟨H1.out.box b h,by have:=H1.out.box b h;have:=c'.out.2.1;omega⟩) x v) (fun x v W h=>yf h)
    (fun q W=>J (k+q) W/\aE W0.heap.size n1 B Z W) (fun c q W=>c=.ret/\Jx (k+q) W)
    (fun s X Y row h hg hr=>⟨dW HJ.out c'.out.1 _ _ _ _ h.1 hg hr,aR h.2 (ic (by have:=h.2.below.size;have:=H1.out.bel.size;omega) hg (fun r e=>⟨by have:=(hr r e).1;have:=c'.out.2.2.1;omega,fun e2=>by have:=H1.out.box r e2;have:=(hr r e).1;have:=c'.out.2.1;omega,.inr (hr r e).2⟩) (fun b hb=>by have:=H1.out.box b hb;have:=h.2.below.size;have:=c'.out.2.2.2;omega))⟩)
    (fun c s X Y row h hg hr=>⟨h.1,dW R2.out c'.out.1 _ _ _ _ h.2 hg hr⟩) Y3.out
    (fun x v a' W=>∃u1,v=#[u1]/\a'={ tmps:=(a0.tmps.setIfInBounds 42 u1).setIfInBounds 8 u1,defers:=[] }) (fun x v a' _ _ _ _ h _ _=>h) ?assign ?body ?done ?stop
   case assign =>
    intro m lo q s v W K hl hs hi g' hK;obtain⟨u1,rfl,T2⟩:=id g';obtain⟨Au,cu,rfl⟩:=T2.form;have HK:=jD hK;have G2:=jD (And.intro hi g');clear hi g' hK hs T2;rw[e0];gi_wp2;refine Ic fun W' e'=>?_
    subst e';exact HK.out _ _ (KeepsFrom.refl _ _) (eO _ _ _ _) G2.out.1 G2.out.2 ⟨_,rfl,by rw[e0];rfl⟩
   case body =>
    rintro m lo q s v a' W hl-hs hi g' ⟨u1,rfl,rfl⟩;have zy:=(bQ hi.2 V1.out X2.out).1;have V3:=Ms W ⟨x',_,none⟩ zy;obtain⟨u2,e2,Z0⟩:=id g';injection e2 with e2;injection e2 with e2;subst e2;obtain⟨Au,cu,rfl⟩:=Z0.form;have p':Hid (YieldAt Fence.wide (m-1) prog ly #[.slice Au s.length cu] W fun e W'=>(e=.returned (.bool true)/\J (k+(q+1)) W'/\aE W0.heap.size n1 B W W'/\KeepsFrom w5.heap.size W W')\/(e=.returned (.bool false)/\Jx (k+(q+1)) W'/\KeepsFrom w5.heap.size W W')):=by
     refine jD (cg (HY.out _ (k+q) s _ W (by rw[k'.out];exact JG hs) hi.1 g') ?_);rintro e W' (⟨rfl,g1,g2,g3⟩|⟨rfl,g1,g3⟩)
     ·exact .inl ⟨rfl,g1,g2,cQ g3 c'.out.1⟩
     ·exact .inr ⟨rfl,g1,cQ g3 c'.out.1⟩
    have HI:=jD hi;obtain⟨ns,t'⟩:∃n,n=s.length:=⟨_,rfl⟩;rw[<-t']at p' ⊢;clear hi g' hs Z0 t';rw[e0];simp only[NA,MZ,MY];gi_wp2;refine xY p'.out (fun W7 h7=>?_) (fun W7 h7=>?_)
    ·have H7:=jD h7;clear h7;gi_wp2;exact⟨H7.out.2.2,H7.out.2.1,H7.out.1,aR HI.out.2 H7.out.2.1⟩
    ·have H7:=jD h7;clear h7;gi_wp2;exact⟨H7.out.2,rfl,H7.out.1⟩
   case done =>
    rintro D W hD hi hK;have HK:=jD hK;have HI:=jD hi;have z':Hid ((L++M).length=k+M.length):=jD (by rw[Q0.out,k'.out]);clear hi hK;rw[e0];gi_wp2;refine⟨by simp,.inl ⟨_,_,rfl,run_takeDeferred HK.out,?_⟩⟩;refine⟨.tuple #[],NI rfl _ _ _,⟨_,rfl⟩,.inl ?_⟩;have h:=(dW HJ.out c'.out.1).putObj (.deferred none) HI.out.1 hD HK.out rfl;rw[<-z'.out]at h
    first|exact h|(rw[Mw]at h;exact h)
   case stop =>
    rintro D c q W hD hk ⟨rfl,hi⟩ hK;have HK:=jD hK;have HI:=jD hi;have z':Hid (k+q<(L++M).length):=jD (by rw[Q0.out,<-k'.out];omega);clear hi hK;rw[e0];gi_wp2;refine⟨by simp,.inl ⟨_,_,rfl,run_takeDeferred HK.out,?_⟩⟩;refine⟨.tuple #[],NI rfl _ _ _,⟨_,rfl⟩,.inr ⟨k+q,?_,?_⟩⟩
    ·first|exact z'.out|(have h:=z'.out;rw[Mw]at h;exact h)
    ·exact (dW R2.out c'.out.1).putObj (.deferred none) HI.out hD HK.out rfl
theorem F6 (V:List Int) (l:List Evt) (x:Pt) (b:Bs) (i:Nat) (hG:GoodQ V l.length x) (Z:dR V l.length) (O:x.op=4) (hB:BOk i b) (hi:i<=l.length) (hA:∀a∈x.args,fI l a) (hR:∀b' j,i<j->BOk j b'->j<=l.length->jX l x b' j):vP 135 l x b i:=by
 intro d e C v vc vl u W0 w a' hx z hu hb;obtain⟨a,r,I⟩:∃a r,x.args=a::r:=by
  cases h:x.args with
  | nil=>rcases hG.good.self.1 with G|G|G;omega;omega;exact absurd h G
  | cons a r=>exact⟨a,r,rfl⟩
 have J:a∈x.args:=by rw[I];exact Mz ..
 have HQ:=jD (fun (n1:Nat) (B:Option Nat) G h2 h3 h4 (tc tp to tf:TypeId)=>Il (eS (i:=i) (n1:=n1) (B:=B) a' hx z hu hb G h2 h3 h4 tc tp to tf) O I hG Z hB hi (hA a J b i hB hi) hR);obtain⟨A,c,rfl,-⟩:=id hx;obtain⟨Ac,cc,rfl,-⟩:=id z;obtain⟨Ab,cb,rfl,-⟩:=id hu;clear a' hx z hu hb hB hA O I J hG Z hi hR;unfold ptV;go_enter func135,ntmps135;go_wp2;go_ret;exact⟨_,_,rfl,fun _ _=>rfl,jB,fun n1 B G h2 h3 h4=>HQ.out n1 B G h2 h3 h4 _ _ _ _⟩
end
end Go.Proofs.YtbjicljfjkdeeaaGreatDoor
