/- Part. -/
import Derived.Test.YtokconodddedhaaGreatDoorQ21
import Derived.Test.YtokconodddedhaaGreatDoorQ23
set_option maxRecDepth 100000
set_option maxHeartbeats 16000000
set_option linter.unusedVariables false
set_option linter.unusedSimpArgs false
namespace Go.Proofs.YtokconodddedhaaGreatDoor
open Go.Proofs.Tryz Go.RowKit
section
open Go.RowKit Go.Lib
def RestOk (F:Bs->Nat->List Bs) (h:Nat) (z:List Value) (n0 n1:Nat) (B:Option Nat) (w:World) (i n:Nat):Prop :=
 ∀(W:World) (b:Bs) (j:Nat) (u:Value),bj n0 n1 B w W->i<j->BOk j b->j<=n->jw W u b->Calls prog h (u::KW (j:Int)::z).toArray W (kp W (F b j))
theorem RestOk.keep {F:Bs->Nat->List Bs} {D:Nat} {G:List Value} {n0 n1:Nat} {B:Option Nat} {w W:World} {i n:Nat} (h:RestOk F D G n0 n1 B w i n) (hk:bj n0 n1 B w W):RestOk F D G n0 n1 B W i n :=
 fun O b j u z J h2 I Z=>h O b j u (bW hk z) J h2 I Z
structure EB (V:List Int) (l:List Evt) (a:Pt) (b:Bs) (i:Nat) (F:Bs->Nat->List Bs):Prop where
 bnd:jY V l.length
 bok:BOk i b
 le:i<=l.length
 fst:∀s∈bN l a b i,SetV V i l.length s
 snd:∀s∈bN l a b i,∀t∈F (bg b s) (dp s+1),SetV V (dp s+1) l.length t
theorem G2 {V:List Int} {l:List Evt} {a:Pt} {b:Bs} {i d e C:Nat} {v vc vl u:Value} {W0 w:World} {n1:Nat} {B:Option Nat} {bc bp bo bf br gr:Nat} {lr:List Value} {F:Bs->Nat->List Bs} (H:SeqHyp l a b i d e C v vc vl u W0 w n1 B bc bp bo bf)
  (hr:w.cell? ⟨br,0,none⟩=some (.func (.func gr) #[] lr.toArray)) (R0:Own n1 B w br) (eg:∀args W,(callFunc gr args).run prog W=.ok (.enter gr args) W) (hR:RestOk F gr lr W0.heap.size n1 B w i l.length) (hT:EB V l a b i F) (hS:xF l a b i) :
  SeqC 348 #[.pointer (some ⟨bc,0,none⟩),.pointer (some ⟨bp,0,none⟩),.pointer (some ⟨bo,0,none⟩),.pointer (some ⟨bf,0,none⟩),.pointer (some ⟨br,0,none⟩)] (jV (bN l a b i) F b) (InS n1 B) (bj W0.heap.size n1 B) w:=by
 obtain⟨G,hG⟩:∃G:Bs->List Bs,G=fun s=>(F (bg b s) (dp s+1)).map (bg s):=⟨_,rfl⟩
 rw[show jV (bN l a b i) F b=(bN l a b i).flatMap G from by rw[hG];rfl];intro ly J Jx W hW hJ A1 hY K0;have l':=H.grow hW;have H0:=H.next l';have H1:=jD H0;have HJ:=jD hJ;have HY:=jD hY;have HG:=jD hG;have HT:=jD hT;have O0:=jD (hR.keep l');have M1:=jD eg;have R':Hid (W.cell? ⟨br,0,none⟩=some (.func (.func gr) #[] lr.toArray)/\Own n1 B W br):=jD (cH l' R0 hr);have a':=jD (fun (D:World) (Z:KY W0 D)=>hS d e C v vc vl u D (aa Z H0.scn.ev) (aa Z H0.scn.fu) (H0.scn.is.stays aK Z) (H0.pts.stays (aB d) Z) (H0.exs.stays (ai e) Z) (H0.bs.stays cV Z));have N0:Hid (J 0 W):=jD K0;have D':=jD H0.bs;obtain⟨Al,cl,rfl,-⟩:=id H0.scn.is;obtain⟨Ab,cb,rfl,-⟩:=id H0.bs;obtain⟨A,c,rfl,-⟩:=id H0.pts;obtain⟨Ac,cc,rfl,-⟩:=id H0.exs;obtain⟨zc,-⟩:=H0.caps.c;obtain⟨zo,-⟩:=H0.caps.o;obtain⟨zf,-⟩:=H0.caps.f;obtain⟨p0,p1,p2,p3,p4,p5,p6,p7,p8,p9,Y1,W1,S1,U1⟩:=dv H0.caps.p.1;have O1:=K8 W ⟨bp,_,none⟩ p0;have U':=K8 W ⟨bc,_,none⟩ zc;have A':=K8 W ⟨bo,_,none⟩ zo;have Z1:=K8 W ⟨bf,_,none⟩ zf;obtain⟨nb,A0⟩:∃n,n=b.length:=⟨_,rfl⟩;obtain⟨na,Z0⟩:∃n,n=a.args.length:=⟨_,rfl⟩;obtain⟨ne,Q0⟩:∃n,n=a.cond.args.length:=⟨_,rfl⟩;rw[<-A0]at H1 a' D' zo;rw[<-Z0]at H1 a' p1;rw[<-Q0]at H1 a' p7;obtain⟨L,hL⟩:=jF (bN l a b i);rw[<-hL]at HY a' ⊢;have HL:=jD hL;obtain⟨u,hu⟩:=jF (Value.slice Ab nb cb)
 rw[<-hu]at H1 a' D' zo;clear H H0 hW hJ A1 hY K0 l' hR hr R0 eg hT hS hG A0 Z0 Q0 hL hu;unfold ptV at a';show Calls prog 348 #[.func (.yield ly) #[] #[],.pointer (some ⟨bc,0,none⟩),.pointer (some ⟨bp,0,none⟩),.pointer (some ⟨bo,0,none⟩),.pointer (some ⟨bf,0,none⟩),.pointer (some ⟨br,0,none⟩)] W _;go_enter func348,ntmps348;refine (wpIn_wide (n:=5)).1 ?_;gi_wp2;refine⟨trivial,callsIn_wide.2 ?_⟩;refine (a'.out _ H1.out.bel).mono ?_;rintro e4 w4 ⟨v4,rfl,T',k'⟩;have L':=H1.out.sets (La _ _) T' k';have H':Hid (J 0 w4/\bj W0.heap.size n1 B W w4/\SetsIn (Own n1 B w4) w4 v4 L):=jD ⟨cD HJ.out N0.out k',H1.out.grow k',L'⟩;obtain⟨A4,c4,rfl,T1⟩:=L'.form;obtain⟨n4,I'⟩:∃n,n=L.length:=⟨_,rfl⟩;have P0:=jD I';rw[<-I']at H' T1 ⊢;clear T' k' L' I' p0 p1 p2 p3 p4 p5 p6 p7 p8 p9 Y1 W1 S1 U1 zc zo zf O1 U' A' Z1 a' N0;gi_wp2
 gi_loopw [17] (fun t wr=>∃k:Nat,k<=n4/\t=KW k/\Hid (J (jl G L k 0) wr/\bj W0.heap.size n1 B W wr/\SetsIn (Own n1 B wr) wr (.slice A4 n4 c4) L)) (fun t _=>n4-(RowKit.intOf t).toNat)
 case atStart=>exact⟨0,Lb _,rfl,jD ⟨by rw[KJ];exact H'.out.1,H'.out.2⟩⟩
 case round =>
  obtain⟨k,hk,rfl,I⟩:=hrel
  by_cases K1:k<n4
  ·have Q1:(k:Int)<(n4:Int):=by omega
   obtain⟨wk,Z'⟩:=jF wr;rw[<-Z']at I ⊢;clear Z';have Hr:=H1.out.next I.out.2.1;have j':=jD Hr;obtain⟨zo,-⟩:=Hr.caps.o;obtain⟨zr,-⟩:=cH I.out.2.1 R'.out.2 R'.out.1;obtain⟨s,hs⟩:∃s,L[k]?=some s:=⟨_,K9 (by have:=P0.out;omega)⟩;have Y':=jD hs;have E':s∈bN l a b i:=by rw[<-HL.out];exact Li hs
   have O:=HT.out.fst s E';have P1:=O.n63;have b':=HT.out.bnd;have p':=O.ok.last;obtain⟨sb,so,us,rfl,r',i'⟩:=I.out.2.2.at hs;have N':=jD i';have h':Hid (SetV V i l.length s/\s∈bN l a b i):=jD ⟨O,E'⟩;have q':Hid (∀D,KY wk D->Calls prog 349 #[u,us] D (tW D (bg b s))):=by
    have n':=HT.out.bok;have O2:=n'.len;have h6:=b'.len;have hle:=HT.out.le;refine jD fun D Z=>xT b s u us D (D'.out.stays cV (Hr.bel.trans (Z.mono Hr.bel.size))) (i'.is.stays cV Z) n'.asc O.ok.2.1 (fun y hy z hz=>by have h1:=(n'.ok y hy).2;have h2:=(O.ok.2.2 z hz).1;omega) O.ok.1 (fun y hy=>?_) om
    rcases List.mem_append.1 hy with hy|hy
    ·have:=(n'.ok y hy).2;omega
    ·have:=(O.ok.2.2 y hy).2;omega
   have m':=jD (fun (D:World) (Z:KY wk D)=>Eu s us D (i'.is.stays cV Z) O.ok.1);have t':Hid (∀(W8:World) (v7:Value) {W7 W6:World},SetIn (fun q=>W6.heap.size<=q) W7 v7 (bg b s)->KY wk W8->KY wk W7->KY W7 W8->Calls prog gr (v7::KW ((dp s+1:Nat):Int)::lr).toArray W8 (kp W8 (F (bg b s) (dp s+1)))) :=
    jD fun W8 v7 W7 W6 h7 f' B' A2=>O0.out W8 _ _ v7 (bW I.out.2.1 (j'.out.grow f')) om (O.merge HT.out.bok b') om (h7.is.stays cV A2)
   obtain⟨R,hR⟩:=jF (F (bg b s) (dp s+1));have M':=jD hR;rw[<-hR]at t';have E2:IntKind.i64.wrap ((dp s:Int)+1)=((dp s+1:Nat):Int):=by have:=b'.len;simp[IntKind.wrap,IntKind.bits,IntKind.signed];omega
   obtain⟨Au,cu,rfl⟩:=i'.form;have E1:=K8 wk ⟨sb,_,none⟩ r';obtain⟨ns,O'⟩:∃n,n=s.length:=⟨_,rfl⟩;rw[<-O']at q' m' r' N';obtain⟨q1,G'⟩:∃q,q=dp s+1:=⟨_,rfl⟩;have H2:=jD G';obtain⟨us,y'⟩:∃t,t=Value.slice Au ns cu:=⟨_,rfl⟩;rw[<-y']at q' m' r' N';have A':=K8 wk ⟨bo,_,none⟩ zo;have R1:=K8 wk ⟨br,_,none⟩ zr;rw[<-G']at t' E2;clear hs i' O' E' O P1 b' p' hR Hr G' y';gi_wp2;refine wpIn_wide.2 ?_;have eg:=M1.out;refine rgn (fun W:World=>KY wk W/\KX W br 0 (.func (.func gr) #[] lr.toArray)/\KX W bo 0 (u)) (Below wk.heap.size wk) (fun W hW=>⟨hW,aa hW zr,aa hW zo⟩) ((La _ _).drew) (fun s' h=>?_);refine tkH [0,1,2,4,9] ?_;refine nxH 3 (fun K hK=>?_)
   focus (go_simp;refine (q'.out _ h.1).mono ?_;rintro e w7 ⟨v7,rfl,S0,B'⟩;have d':KY wk w7:=ab h.1 B')
   refine hK.out _ _ (s' _ d') (fun h=>?_);clear hK K;refine nxH 5 (fun K hK=>?_)
   focus (go_simp;refine (m'.out _ h.1).mono ?_;rintro e w8 ⟨rfl,f'⟩;have z':KY wk w8:=ab h.1 f')
   refine hK.out _ _ (s' _ z') (fun h=>?_);clear hK K;refine tkH [6] ?_;refine nxH 7 (fun K hK=>?_)
   focus (go_simp;refine (t'.out w8 v7 S0 h.1 d' f').mono ?_;rintro e w9 ⟨v9,rfl,g',J'⟩;have c':KY wk w9:=ab h.1 J';obtain⟨A9,c9,rfl,V1⟩:=g'.form)
   refine hK.out _ _ (s' _ c') (fun h=>?_);clear hK K;refine tkH [8] ?_;refine wpAnyH_done kr (NoPanic.normal ?_) _;rotate_left 1;clear eg;have u':=j'.out.grow c';have P':=j'.out.sets (ab d' f') g' J';have X':Hid (J (jl G L k 0) w9/\bj W0.heap.size n1 B W w9/\SetsIn (Own n1 B w9) w9 (.slice (some ⟨sb,so,none⟩) n4 c4) L/\SetsIn (Own n1 B w9) w9 (.slice A9 R.length c9) R/\SetIn (Own n1 B w9) w9 us s):=jD ⟨cD HJ.out I.out.1 c',bW I.out.2.1 u',SetsIn.keepO u' I.out.2.2,P',N'.out.keepO u'⟩;obtain⟨n9,C'⟩:∃n,n=R.length:=⟨_,rfl⟩;have Y0:=jD C';rw[<-C']at X' V1 ⊢;clear C' u' P' S0 B' f' g' J' d' z' c' h s' t' m' q' j' I zo zr A' R1 r' E1;gi_wp2
   gi_loopw [30] (fun t wr=>∃j:Nat,j<=n9/\t=KW j/\Hid (J (jl G L k j) wr/\bj W0.heap.size n1 B W wr/\SetsIn (Own n1 B wr) wr (.slice (some ⟨sb,so,none⟩) n4 c4) L/\SetsIn (Own n1 B wr) wr (.slice A9 n9 c9) R/\SetIn (Own n1 B wr) wr us s)) (fun t _=>n9-(RowKit.intOf t).toNat)
   case atStart=>exact⟨0,Lb _,rfl,X'⟩
   case round =>
    obtain⟨j,hj,rfl,I⟩:=hrel
    by_cases V':j<n9
    ·have X1:(j:Int)<(n9:Int):=by omega
     obtain⟨t,ht⟩:∃t,R[j]?=some t:=⟨_,K9 (by have:=Y0.out;omega)⟩;have Hr:=H1.out.next I.out.2.1;obtain⟨zc,-⟩:=Hr.caps.c;have zu:=(Hr.scn.stays Hr.bel).fu;obtain⟨tb,to,ut,rfl,T0,F'⟩:=I.out.2.2.2.1.at ht;have e':=HT.out.snd s h'.out.2 t (by rw[<-M'.out];exact Li ht);have p':=h'.out.1.ok.last;have b':=HT.out.bnd;have x':Hid (∀D,KY wr D->Calls prog 349 #[us,ut] D (tW D (bg s t))):=by
      have h6:=b'.len;have K2:=h'.out.1.n63;have P2:=e'.n63;refine jD fun D Z=>xT s t us ut D (I.out.2.2.2.2.is.stays cV Z) (F'.is.stays cV Z) h'.out.1.ok.2.1 e'.ok.2.1 (fun y hy z hz=>by have h1:=p'.2.2 y hy;have h2:=(e'.ok.2.2 z hz).1;omega) e'.ok.1 (fun y hy=>?_) om
      rcases List.mem_append.1 hy with hy|hy
      ·have:=(h'.out.1.ok.2.2 y hy).2;omega
      ·have:=(e'.ok.2.2 y hy).2;omega
     have S':Hid ((L.flatMap G)[jl G L k j]?=some (bg s t)):=jD (IS Y'.out (by rw[HG.out];dsimp only;rw[LI,<-M'.out,ht];rfl));have N1:Hid (∀(D:World) (v9:Value) {W6:World},KY wr D->KY wr W6->SetIn (fun q=>W6.heap.size<=q) D v9 (bg s t)->YieldAt Fence.wide (5-1) prog ly #[v9] D fun e W'=>(e=.returned (.bool true)/\J (jl G L k (j+1)) W'/\bj W0.heap.size n1 B W W'/\SetsIn (Own n1 B W') W' (.slice (some ⟨sb,so,none⟩) n4 c4) L/\SetsIn (Own n1 B W') W' (.slice (some ⟨tb,to,none⟩) n9 c9) R/\SetIn (Own n1 B W') W' us s)\/(e=.returned (.bool false)/\Jx (jl G L k j+1) W')):=by
      refine jD fun D v9 W6 Z h6 g'=>ep (HY.out _ (jl G L k j) (bg s t) _ D S'.out (cD HJ.out I.out.1 Z) (Hr.inS Z h6.size g')) ?_
      rintro e W' (⟨rfl,g1,g2⟩|⟨rfl,g1⟩)
      ·have g3:=bW (Hr.grow Z) g2;exact .inl ⟨rfl,g1,bW I.out.2.1 g3,SetsIn.keepO g3 I.out.2.2.1,SetsIn.keepO g3 I.out.2.2.2.1,SetIn.keepO g3 I.out.2.2.2.2⟩
      ·exact .inr ⟨rfl,g1⟩
     have B2:Hid (jl G L k j<(L.flatMap G).length):=jD (List.getElem?_eq_some_iff.1 S'.out).1;obtain⟨At,ct,rfl⟩:=F'.form;obtain⟨nt,U0⟩:∃n,n=t.length:=⟨_,rfl⟩;rw[<-U0]at x' T0;have Q2:=K8 wr ⟨tb,_,none⟩ T0;have U':=K8 wr ⟨bc,_,none⟩ zc;have N2:=K8 wr ⟨C,_,none⟩ zu;clear ht F' U0 e' p' b' Hr;gi_wp2;refine⟨trivial,callsIn_wide.2 ?_⟩;refine (x'.out _ (La _ _)).mono ?_;rintro e W6 ⟨v6,rfl,X0,V0⟩;have H6:=jD (And.intro X0 V0);clear X0 V0;gi_wp2;refine gy (N1.out _ _ H6.out.2 (La _ _) H6.out.1) (fun W7 h7=>?_) (fun W7 h7=>?_)
     ·have H7:=jD h7;clear h7;gi_wp2
      go_roundw
      case rel=>exact⟨j+1,by omega,by go_num,H7⟩
      case measure=>exact AT V'
     ·have H7:=jD h7;clear h7;gi_wp2;refine Lc (v:=.tuple #[]) (Mv rfl _ _ _) rfl ?_;exact⟨⟨_,rfl⟩,.inr ⟨_,B2.out,H7.out⟩⟩
    ·have X1:¬(j:Int)<(n9:Int):=by omega
     obtain rfl:j=n9:=by omega
     have HE:Hid (J (jl G L (k+1) 0) wr/\bj W0.heap.size n1 B W wr/\SetsIn (Own n1 B wr) wr (.slice (some ⟨sb,so,none⟩) n4 c4) L):=jD ⟨by rw[CC Y'.out,HG.out];dsimp only;rw[Lm,<-M'.out,<-Y0.out,<-HG.out];exact I.out.1,I.out.2.1,I.out.2.2.1⟩;gi_wp2
     go_roundw
     case rel=>exact⟨k+1,by omega,by go_num,HE⟩
     case measure=>exact AT K1
  ·have Q1:¬(k:Int)<(n4:Int):=by omega
   obtain rfl:k=n4:=by omega
   have HE:Hid (J (L.flatMap G).length wr):=jD (by rw[<-Fh,<-P0.out];exact I.out.1);gi_wp2;refine ML (Mv rfl _ _ _) rfl ?_;exact⟨⟨_,rfl⟩,.inl (by have:=HE.out;rw[List.length_flatMap]at this;exact this)⟩
def Bn (Q:Nat->Option Nat->Prop) (L:List Bs) (W0 w:World) (e:Ending) (W:World):Prop:=∃gf lb,e=.returned (.func (.func gf) #[] lb)/\(∀args w,(callFunc gf args).run prog w=.ok (.enter gf args) w)/\KY w W /\
 ∀n1 B,Q n1 B->SeqC gf lb L (InS n1 B) (bj W0.heap.size n1 B) W
theorem FD (Q:Nat->Option Nat->Prop) (V:List Int) (l:List Evt) (a:Pt) (b:Bs) (i d e C z:Nat) (lr:List Value) (F:Bs->Nat->List Bs) (v vc vl u:Value) (W0 w:World) (Z:ScnAt l W0 C vl) (hx:aW d W0 v a.args) (h:aF e W0 vc a.cond.args) (hu:jw W0 u b) (hb:KY W0 w)
  (eg:∀args W,(callFunc z args).run prog W=.ok (.enter z args) W) (hQ:∀n1 B,Q n1 B->W0.heap.size<=n1/\n1<=w.heap.size/\fE w B/\(∀k,B=some k->k<n1)/\RestOk F z lr W0.heap.size n1 B w i l.length) (hT:EB V l a b i F) (hS:xF l a b i) :
  Calls prog 309 #[.pointer (some ⟨C,0,none⟩),ptV a v vc,u,KW (i:Int),.func (.func z) #[] lr.toArray] w (Bn Q (jV (bN l a b i) F b) W0 w):=by
 have HQ:Hid (∀(n1:Nat) (B:Option Nat),Q n1 B->∀(J I to G tr:TypeId),SeqC 348 #[.pointer (some ⟨w.heap.size,0,none⟩),.pointer (some ⟨w.heap.size+1,0,none⟩),.pointer (some ⟨w.heap.size+2,0,none⟩),.pointer (some ⟨w.heap.size+3,0,none⟩),.pointer (some ⟨w.heap.size+4,0,none⟩)] (jV (bN l a b i) F b) (InS n1 B) (bj W0.heap.size n1 B)
   (((((w.alloc (.cells #[.pointer (some ⟨C,0,none⟩)] J)).alloc (.cells (aQ a v vc).toArray I)).alloc (.cells #[u] to)).alloc (.cells #[.int .i64 (i:Int)] G)).alloc (.cells #[.func (.func z) #[] lr.toArray] tr))):=by
  refine jD fun n1 B hq J I to G tr=>?_
  obtain⟨h1,h2,h3,h4,h5⟩:=hQ n1 B hq;have hM:=oM (i:=i) (n1:=n1) (B:=B) Z hx h hu hb h1 h2 h3 h4 J I to G;have a':KY w ((((w.alloc (.cells #[.pointer (some ⟨C,0,none⟩)] J)).alloc (.cells (aQ a v vc).toArray I)).alloc (.cells #[u] to)).alloc (.cells #[.int .i64 (i:Int)] G)) :=
   ab (ab (ab (ag w _) (ag _ _)) (ag _ _)) (ag _ _)
  have O:((((w.alloc (.cells #[.pointer (some ⟨C,0,none⟩)] J)).alloc (.cells (aQ a v vc).toArray I)).alloc (.cells #[u] to)).alloc (.cells #[.int .i64 (i:Int)] G)).heap.size=w.heap.size+4:=by simp
  generalize ((((w.alloc (.cells #[.pointer (some ⟨C,0,none⟩)] J)).alloc (.cells (aQ a v vc).toArray I)).alloc (.cells #[u] to)).alloc (.cells #[.int .i64 (i:Int)] G))=w4 at hM a' O ⊢;have D:=ag w4 (.cells #[.func (.func z) #[] lr.toArray] tr);have hk:=hM.grow D;have hc:=kh w4 (.func (.func z) #[] lr.toArray) tr;rw[O]at hc;exact G2 (hM.next hk) hc (hM.new D om) eg (h5.keep (cM (ab a' D) hb.size (fun k hk=>by have:=h4 k hk;omega))) hT hS
 obtain⟨A,c,rfl,-⟩:=id hx;obtain⟨Ac,cc,rfl,-⟩:=id h;obtain⟨Ab,cb,rfl,-⟩:=id hu;clear Z hx h hu hb hQ hT hS eg;unfold ptV;go_enter func309,ntmps309;go_wp2;go_ret;exact⟨_,_,rfl,fun _ _=>rfl,jB,fun n1 B hq=>HQ.out n1 B hq _ _ _ _ _⟩
end
section
open Go.RowKit Go.Lib
theorem CR (l:List Evt) (y:Pt) (b:Bs) (j d e C:Nat) (v vc vl u:Value) (W:World) (bc br:Nat) (hc:W.cell? ⟨bc,0,none⟩=some (.pointer (some ⟨C,0,none⟩))) (hp:Cells W br 0 (aQ y v vc)) (z:ScnAt l W C vl) (Z:aW d W v y.args) (D:aF e W vc y.cond.args) (hu:jw W u b) (hS:xF l y b j) :
  Calls prog 310 #[u,KW (j:Int),.pointer (some ⟨bc,0,none⟩),.pointer (some ⟨br,0,none⟩)] W (kp W (bN l y b j)):=by
 have h:=jD (hS d e C v vc vl u W z.ev z.fu z.is Z D hu);obtain⟨A,c,rfl,-⟩:=id Z;obtain⟨Ac,cc,rfl,-⟩:=id D;obtain⟨Ab,cb,rfl,-⟩:=id hu;obtain⟨p0,p1,p2,p3,p4,p5,p6,p7,p8,p9,c',f',a',d'⟩:=dv hp;have b':=K8 W ⟨br,_,none⟩ p0;have e':=K8 W ⟨bc,_,none⟩ hc;obtain⟨na,O⟩:∃n,n=y.args.length:=⟨_,rfl⟩;obtain⟨ne,G⟩:∃n,n=y.cond.args.length:=⟨_,rfl⟩;obtain⟨nb,J⟩:∃n,n=b.length:=⟨_,rfl⟩;rw[<-O]at h p1;rw[<-G]at h p7;rw[<-J]at h ⊢;clear z Z D hu hS hp O G J;unfold ptV at h;go_enter func310,ntmps310;go_wp2_with fail;refine h.out.mono ?_;rintro e5 w5 ⟨v5,rfl,F,I⟩;have H5:=jD (And.intro F I);obtain⟨A5,c5,rfl,-⟩:=F.form;clear F I;go_wp2;go_ret;exact⟨_,rfl,H5.out.1,H5.out.2⟩
theorem Hd (V:List Int) (l:List Evt) (x:Pt) (b:Bs) (i:Nat) (hG:GoodQ V l.length x) (U':jY V l.length) (Q0:x.op=1) (hB:BOk i b) (hi:i<=l.length) (hA:∀a∈x.args,ls l a) (hr:∀a c r,x.args=a::c::r->ls l (gj x (c::r))):FinderK 247 l x b i:=by
 intro d e C v vc vl u W0 w L' hx H' hu hb;have K0:x.args≠[]:=by rcases hG.good.self.1 with h|h|h;omega;omega;exact h
 obtain⟨a,r,A'⟩:∃a r,x.args=a::r:=by
  cases h:x.args with
  | nil=>exact absurd h K0
  | cons a r=>exact⟨a,r,rfl⟩
 have P0:a∈x.args:=by rw[A'];exact Lg ..
 have F':=hA a P0 b i hB hi;have HX:=jD hx;have Z':=jD H';have HU:=jD hu;have H0:=jD L';have HB:=jD hb;have A0:=jD hG;have S':=jD (And.intro hB hi);have K1:=jD U';have S1:=jD hr;have m':=jD A';have z':=jD Q0;obtain⟨A,c,rfl,x1,x2,-⟩:=id hx;obtain⟨Ac,cc,rfl,-⟩:=id H';obtain⟨Ab,cb,rfl,-⟩:=id hu;have R':=ax x1 x2;obtain⟨Av,cv,Ae,ne,ce,F,I,rfl,t',⟨d',e',T',D'⟩,q'⟩:=Dv L' hx (k:=0) (a:=a) (by rw[A'];rfl) i b _ F';simp only[My,Mc]at t';obtain⟨p0,p1,p2,p3,p4,p5,p6,p7,p8,p9,g',f',a',c'⟩:=t' w hb;have X0:=jD F';have y':=jD (fun (W9:World) (h9:KY w W9)=>q' W9 (hb.trans (h9.mono hb.size)) (hu.stays cV (hb.trans (h9.mono hb.size))));have G':=jD (And.intro T' D');have Y0:Hid (∀(W5:World) (A5:Option Addr) (n5 c5:Nat),Calls prog 308 #[.slice A5 n5 c5] W5 fun e W=>e=.returned (.func (.func 347) #[] #[.pointer (some ⟨W5.heap.size,0,none⟩)])/\KY W5 W/\W.cell? ⟨W5.heap.size,0,none⟩=some (.slice A5 n5 c5)) :=
  jD fun W5 A5 n5 c5=>(yA A5 n5 c5 W5).mono fun e W h=>⟨h.1,by rw[h.2];exact ag _ _,by rw[h.2];exact kh _ _ _⟩
 have p':x.args.length=r.length+1:=by rw[A'];rfl
 obtain⟨n,hn⟩:=jF x.args.length;obtain⟨na,U0⟩:∃n,n=a.args.length:=⟨_,rfl⟩;obtain⟨nb,J'⟩:∃n,n=b.length:=⟨_,rfl⟩;obtain⟨nx,P'⟩:∃n,n=x.cond.args.length:=⟨_,rfl⟩;have HN:=jD hn;rw[<-hn]at HX R' p' x1;rw[<-U0]at y' G' p1;rw[<-J']at y' HU;rw[<-P']at Z';obtain⟨u,x'⟩:=jF (Value.slice Ab nb cb);rw[<-x']at y' HU;have W1:(0:Int)<(n:Int):=by omega
 have Y1:0<n:=by omega
 have E1:=jD p';have A2:=jD x1;unfold ptV at y' ⊢;rw[<-hn,<-P',<-J',<-x'];clear hx H' hu L' hb hG hB hi U' hA hr A' P0 K0 F' t' T' D' q' hn U0 J' P' x' x2 Q0;go_enter func247,ntmps247;have B':=K8 w ⟨F,_,none⟩ p0
 by_cases k':n=1
 ·have hq:((n:Int)==1)=true:=by rw[k'];rfl
  have N0:=jD k';clear k' x1 p';go_wp2_with fail;refine aP fun w1 e1=>?_
  obtain⟨bc,i'⟩:∃q,q=w.heap.size:=⟨_,rfl⟩;obtain⟨bp,h'⟩:∃q,q=w.heap.size+1:=⟨_,rfl⟩;have G:Hid (KY w w1):=jD (gb e1);have zc:KX w1 bc 0 (.pointer (some ⟨C,0,none⟩)):=by rw[e1,i'];show _=_;go_simp
  have zp:KX w1 bp 1 (.slice (some ⟨F,I,none⟩) n c):=by rw[e1,h'];show _=_;go_simp
  rw[<-h',<-i'];replace p0:=aa G.out p0;replace p1:=aa G.out p1;replace p2:=aa G.out p2;replace p3:=aa G.out p3;replace p4:=aa G.out p4;replace p5:=aa G.out p5;replace p6:=aa G.out p6;replace p7:=aa G.out p7;replace p8:=aa G.out p8;replace p9:=aa G.out p9;replace g':=aa G.out g';replace f':=aa G.out f';replace a':=aa G.out a';replace c':=aa G.out c';have I':=K8 w1 ⟨F,_,none⟩ p0;have E':=K8 w1 ⟨bc,_,none⟩ zc;have N':=K8 w1 ⟨bp,_,none⟩ zp;have V':Hid (w.heap.size<=w1.heap.size):=jD G.out.size;clear e1 i' h' B';refine rgn (fun W:World=>KY w1 W/\KX W bc 0 (.pointer (some ⟨C,0,none⟩))/\KX W bp 1 (.slice (some ⟨F,I,none⟩) n c)/\KX W F I (KW a.op)/\KX W F (I+1) (.slice Av na cv)/\KX W F (I+2) (KW a.ty)/\KX W F (I+3) (KW a.vr)/\KX W F (I+4) (KW a.sc)/\KX W F (I+5) (KW a.sp)/\KX W F (I+6) (KW a.cond.op)/\KX W F (I+7) (.slice Ae ne ce)/\KX W F (I+8) (KW a.cond.vr)/\KX W F (I+9) (KW a.cond.fl)/\KX W F (I+10) (KW a.cond.kd)/\KX W F (I+11) (KW a.cond.val.kind)/\KX W F (I+12) (KW a.cond.val.num)/\KX W F (I+13) (.string a.cond.val.text)) (Below w1.heap.size w1) (fun W D=>⟨D,aa D zc,aa D zp,aa D p0,aa D p1,aa D p2,aa D p3,aa D p4,aa D p5,aa D p6,aa D p7,aa D p8,aa D p9,aa D g',aa D f',aa D a',aa D c'⟩) ((La _ _).drew) (fun j' z=>?_);refine tkH [0,1,2,3,4,5,6] ?_;refine nxH 7 (fun K hK=>?_)
  focus (go_simp;refine (y'.out _ (ab G.out z.1)).mono ?_;rintro e w5 ⟨v5,rfl,r',n'⟩;have Z:KY w1 w5:=ab z.1 n';replace r':=SetsIn.mono (Q':=fun q=>w1.heap.size<=q) (fun q hq=>Lf z.1.size hq) r';obtain⟨A5,c5,rfl,H2⟩:=r'.form)
  refine hK.out _ _ (j' _ Z) (fun z=>?_);clear hK K;refine nxH 8 (fun K hK=>?_)
  focus (go_simp;refine (Y0.out w5 A5 _ c5).mono ?_;rintro e w6 ⟨rfl,O',R0⟩;have s':KY w1 w6:=ab z.1 O')
  refine hK.out _ _ (j' _ s') (fun z=>?_);clear hK K;refine tkH [9] ?_;refine wpAnyH_done kr (NoPanic.normal ?_) _;rotate_left 1;have S0:=ab G.out s';have V0:=Z.size;have H6:=jD (And.intro S0 (And.intro r' R0));have T0:=jD O';have Q1:Hid (w.heap.size<=w5.heap.size):=jD (by have:=V'.out;omega);have X1:=jD n';have U1:=jD z.1;clear z j' Z s' n' O' r' R0 S0 V0 p0 p1 p2 p3 p4 p5 p6 p7 p8 p9 g' f' a' c' zc zp I' E' N';go_wp2;go_ret;refine⟨_,_,rfl,fun _ _=>rfl,H6.out.1,fun n1 B h1 h2 h3 h4=>?_⟩;have e1:mt l x b i=bN l a b i:=by
   unfold mt;rw[K6 (by have:=z'.out;omega),K7 z'.out,m'.out];have:r=[]:=List.length_eq_zero_iff.1 (by have:=E1.out;have:=N0.out;omega);rw[this]
  rw[e1];refine yD (by have:=HB.out.size;have:=H6.out.1.size;omega) (by have:=H6.out.1.size;omega) h4 H6.out.2.2 (kH h2 h3 H6.out.1 h4 Q1.out) ((H6.out.2.1.stays T0.out).mono fun q hq=>kH h2 h3 H6.out.1 h4 ?_);have:=V'.out;have:w1.heap.size<=q:=hq;omega
 ·have hq:((n:Int)==1)=false:=by rw[LZ];omega
  have M':¬c=1:=by omega
  have V1:(1:Int)<=(n:Int):=by omega
  have B2:1<=n:=by omega
  obtain⟨a2,r2,O1⟩:∃a2 r2,r=a2::r2:=by
   cases h:r with
   | nil=>rw[h]at p';simp at p';omega
   | cons a2 r2=>exact⟨a2,r2,rfl⟩
  subst O1;have T1:Hid (aW d W0 (.slice (some ⟨F,I+14,none⟩) (n-1) (c-1)) (a2::r2)):=jD (by
   have h:=HX.out;rw[m'.out]at h;have h2:=IC h;rw[K6 M']at h2;exact h2)
  have Z1:=jD M';clear k' p';go_wp2_with fail;refine aP fun w2 e2=>?_
  obtain⟨bc,i'⟩:∃q,q=w.heap.size:=⟨_,rfl⟩;obtain⟨bp,h'⟩:∃q,q=w.heap.size+1:=⟨_,rfl⟩;obtain⟨br,O⟩:∃q,q=w.heap.size+1+1:=⟨_,rfl⟩;have J:Hid (KY w w2):=jD (gb e2);have zc:KX w2 bc 0 (.pointer (some ⟨C,0,none⟩)):=by rw[e2,i'];show _=_;go_simp
  have zp:KX w2 bp 1 (.slice (some ⟨F,I,none⟩) n c):=by rw[e2,h'];show _=_;go_simp
  have Z0:Hid (Cells w2 br 0 (aQ (gj x (a2::r2)) (.slice (some ⟨F,I+14,none⟩) (n-1) (c-1)) (.slice Ac nx cc))):=jD (ci (by rw[e2,O];go_simp;rfl) (by rw[e2,O];go_simp;try rfl) (by rw[e2,O];go_simp;rfl) (by rw[e2,O];go_simp;rfl) (by rw[e2,O];go_simp;rfl) (by rw[e2,O];go_simp;rfl) (by rw[e2,O];go_simp;rfl) (by rw[e2,O];go_simp;try rfl) (by rw[e2,O];go_simp;rfl) (by rw[e2,O];go_simp;rfl) (by rw[e2,O];go_simp;rfl) (by rw[e2,O];go_simp;rfl) (by rw[e2,O];go_simp;rfl) (by rw[e2,O];go_simp;rfl));rw[<-O,<-h',<-i'];have P1:=jD zc;have C':Hid (w.heap.size<=bc/\w.heap.size<=br):=jD om;replace p0:=aa J.out p0;replace p1:=aa J.out p1;replace p2:=aa J.out p2;replace p3:=aa J.out p3;replace p4:=aa J.out p4;replace p5:=aa J.out p5;replace p6:=aa J.out p6;replace p7:=aa J.out p7;replace p8:=aa J.out p8;replace p9:=aa J.out p9;replace g':=aa J.out g';replace f':=aa J.out f';replace a':=aa J.out a';replace c':=aa J.out c';have I':=K8 w2 ⟨F,_,none⟩ p0;have E':=K8 w2 ⟨bc,_,none⟩ zc;have N':=K8 w2 ⟨bp,_,none⟩ zp;have X':Hid (∀W9,KY w2 W9->Calls prog 309 #[.pointer (some ⟨C,0,none⟩),ptV a (.slice Av na cv) (.slice Ae ne ce),u,KW (i:Int),.func (.func 310) #[] #[.pointer (some ⟨bc,0,none⟩),.pointer (some ⟨br,0,none⟩)]] W9
    (Bn (fun n1 B=>W0.heap.size<=n1/\n1<=w.heap.size/\fE w B/\∀k,B=some k->k<n1) (jV (bN l a b i) (bN l (gj x (a2::r2))) b) W0 W9)):=by
   refine jD fun W9 h9=>?_
   have l':=ab J.out h9;have M1:=A0.out.rest z'.out m'.out;refine FD _ V l a b i d' e' C 310 [.pointer (some ⟨bc,0,none⟩),.pointer (some ⟨br,0,none⟩)] (bN l (gj x (a2::r2))) _ _ vl u W0 W9 H0.out G'.out.1 G'.out.2 HU.out (HB.out.trans (l'.mono HB.out.size)) (enters_of func310 kr rfl) (fun n1 B ⟨h1,h2,h3,h4⟩=>?_) ⟨K1.out,S'.out.1,S'.out.2,fun s hs=>ir (A0.out.arg (by rw[m'.out];exact Lg ..)) hs,fun s _ t ht=>ir M1 ht⟩ X0.out;have R1:bj W0.heap.size n1 B w W9:=cM l' HB.out.size (fun k hk=>by have:=h4 k hk;omega);refine⟨h1,by have:=l'.size;omega,R1.safe h3,h4,fun W b' j u' hk E2 N1 A1 x'=>?_⟩;have D:=(HB.out.trans (l'.mono HB.out.size)).trans hk.below;have o1:=cH hk (kH h2 h3 l' h4 C'.out.1) (aa h9 P1.out);have o2:Own n1 B W9 br:=kH h2 h3 l' h4 C'.out.2;exact CR l (gj x (a2::r2)) b' j d e C _ _ vl u' W bc br o1.1 (fun q v hq=>(cH hk o2 (aa h9 (Z0.out q v hq))).1) (H0.out.stays D) (T1.out.stays (aB d) D) (Z'.out.stays (ai e) D) x' (S1.out a a2 r2 m'.out b' j N1 A1)
  unfold ptV at X';clear e2 i' h' O B' M';refine rgn (fun W:World=>KY w2 W/\KX W bc 0 (.pointer (some ⟨C,0,none⟩))/\KX W bp 1 (.slice (some ⟨F,I,none⟩) n c)/\KX W F I (KW a.op)/\KX W F (I+1) (.slice Av na cv)/\KX W F (I+2) (KW a.ty)/\KX W F (I+3) (KW a.vr)/\KX W F (I+4) (KW a.sc)/\KX W F (I+5) (KW a.sp)/\KX W F (I+6) (KW a.cond.op)/\KX W F (I+7) (.slice Ae ne ce)/\KX W F (I+8) (KW a.cond.vr)/\KX W F (I+9) (KW a.cond.fl)/\KX W F (I+10) (KW a.cond.kd)/\KX W F (I+11) (KW a.cond.val.kind)/\KX W F (I+12) (KW a.cond.val.num)/\KX W F (I+13) (.string a.cond.val.text)) (Below w2.heap.size w2) (fun W D=>⟨D,aa D zc,aa D zp,aa D p0,aa D p1,aa D p2,aa D p3,aa D p4,aa D p5,aa D p6,aa D p7,aa D p8,aa D p9,aa D g',aa D f',aa D a',aa D c'⟩) ((La _ _).drew) (fun j' z=>?_);refine tkH [0,1,2,3,4,5,6] ?_;refine nxH 7 (fun K hK=>?_)
  go_simp
  refine hK.out _ _ (j' _ jB) (fun z=>?_);clear hK K;refine nxH 8 (fun K hK=>?_)
  focus (go_simp;refine (X'.out _ z.1).mono ?_;rintro e w5 ⟨gf,lb,rfl,O0,n',Y'⟩;have Z:KY w2 w5:=ab z.1 n')
  refine hK.out _ _ (j' _ Z) (fun z=>?_);clear hK K;refine tkH [9] ?_;refine wpAnyH_done kr (NoPanic.normal ?_) _;rotate_left 1;have H5:Hid (FG (mt l x b i) W0 w (.returned (.func (.func gf) #[] lb)) w5):=jD ⟨gf,lb,rfl,O0,ab J.out Z,fun n1 B h1 h2 h3 h4=>by
   have e1:mt l x b i=jV (bN l a b i) (bN l (gj x (a2::r2))) b:=by
    unfold mt;rw[K6 (by have:=z'.out;omega),K7 z'.out,m'.out]
   rw[e1];exact Y' n1 B ⟨h1,h2,h3,h4⟩⟩
  clear z j' Z n' O0 Y' p0 p1 p2 p3 p4 p5 p6 p7 p8 p9 g' f' a' c' zc zp I' E' N';go_wp2;go_ret;exact H5.out
end
section
open Go.RowKit Go.Lib
theorem qN {β:Type} {J:β->World->Prop} {B:Nat} (h:OwnFrom B J):AbidesFrom B J:=fun s W W' row hs z hr=>h s W W' row hs z fun r e=>by
 obtain⟨D,o,F,hw⟩:=hr r e;exact⟨D,o,F,Obj.not_cells_of_walk hw⟩
def KA {β:Type} (g:Nat) (lb:Array Value) (L:List β) (In:β->Array Value->World->Prop) (D:World->World->Prop) (w:World):Prop :=
 ∀(l:Nat) (J z:Nat->World->Prop) (W:World),KY w W->OwnFrom W.heap.size J->OwnFrom W.heap.size z ->
  (∀(m k:Nat) (x:β) (a:Array Value) (h:World),L[k]?=some x->J k h->In x a h->YieldAt Fence.wide m prog l a h fun e W' =>
   (e=.returned (.bool true)/\J (k+1) W'/\D h W'/\KeepsFrom W.heap.size h W')\/(e=.returned (.bool false)/\z (k+1) W'/\KeepsFrom W.heap.size h W')) ->
  J 0 W->Calls prog g (#[.func (.yield l) #[] #[]]++lb) W fun e W'=>(∃v,e=.returned v)/\(J L.length W'\/∃k,k<L.length/\z (k+1) W')
theorem SeqC.own {β:Type} {g:Nat} {lb:Array Value} {L:List β} {In:β->Array Value->World->Prop} {F:World->World->Prop} {w:World} (h:SeqC g lb L In F w):KA g lb L In F w :=
 fun l J Jx W hW O z hY h0=>h l J Jx W hW (qN O) (qN z) (fun m k x a Z I G hi=>ep (hY m k x a Z I G hi) fun e W'=>by
  rintro (⟨e,D,h2,-⟩|⟨e,D,-⟩)
  ·exact .inl ⟨e,D,h2⟩
  ·exact .inr ⟨e,D⟩) h0
theorem em {A B:Nat} {W W':World} (h:KeepsFrom A W W') (hle:A<=B):KeepsFrom B W W':=⟨h.size,fun k o hk=>h.same k o om⟩
theorem eC {A l:Nat} (W:World) (o:Obj) (h:l<A):KeepsFrom A W (W.putObj l o):=⟨(grownBy_putObj' W l o).size,fun k o' hk e _=>(World.putObj_heap_other om).trans e⟩
theorem Kh {β:Type} {n:Nat} {g:Operand} {ps:Array Tmp} {assign body:Code} {Q:Exit->Act->World->Prop} {a:Act} {w:World}
  {gf:Nat} {lb:Array Value} (hg:a.eval g=.func (.func gf) #[] lb) (eg:∀args w,(callFunc gf args).run prog w=.ok (.enter gf args) w)
  {L:List β} {In:β->Array Value->World->Prop} {Kp:World->World->Prop} {w0:World} (B':KA gf lb L In Kp w0)
  (u':∀{A B C:World},Kp A B->Kp B C->Kp A C) (t':∀(W:World) (l:Nat) (o o':Obj),w.heap.size<=l->W.heap[l]?=some o->o.isCells=false->o.isWalk=false->Kp W (W.putObj l o'))
  (A':KY w0 w) (hIn:∀x v,OwnFrom w.heap.size (fun (_:Unit) W=>In x v W)) (J':∀x v W,In x v W->v.size=ps.size)
  (I:Nat->World->Prop) (Ix:Code->Nat->World->Prop) (hI:OwnFrom w.heap.size I) (g':∀c,OwnFrom w.heap.size (Ix c)) (h0:I 0 w)
  (Ax:β->Array Value->Act->World->Prop) (C':∀x v a',OwnFrom w.heap.size (fun (_:Unit) W=>Ax x v a' W))
  (O:∀(m l k:Nat) (x:β) (v:Array Value) (W:World) (K:Act->World->Prop),w.heap.size<=l->L[k]?=some x->I k W->In x v W ->
   (∀a' W',KeepsFrom w.heap.size W W'->Kp W W'->I k W'->In x v W'->Ax x v a' W'->K a' W') ->
   assign.wpIn (Fence.wide.inRound l) m prog (Exit.then K (fun _ _ _=>False)) { tmps:=(ps.zip v).foldl (fun t (p,u)=>t.setIfInBounds p u) a.tmps,defers:=[] } W)
  (p':∀(m l k:Nat) (x:β) (v:Array Value) (a':Act) (W:World),w.heap.size<=l->(∃r,W.heap[l]?=some (.loop r))->L[k]?=some x->I k W->In x v W->Ax x v a' W ->
   body.wpIn (Fence.wide.inRound l) m prog (Jn w.heap.size Kp I Ix (k+1) W) a' W)
  (k':∀(D:Nat) (W:World),w.heap.size<=D->I L.length W->W.heap[D]?=some (.deferred (some []))->Q .normal { a with defers:={ target:=.collected D,args:=#[] }::a.defers } W)
  (j':∀(D:Nat) (c:Code) (k:Nat) (W:World),w.heap.size<=D->k<L.length->Ix c (k+1) W->W.heap[D]?=some (.deferred (some []))->c.wpIn Fence.wide n prog Q { a with defers:={ target:=.collected D,args:=#[] }::a.defers } W) :
  (Code.rangeFunc g ps assign body).wpIn Fence.wide n prog Q a w:=by
 refine wpIn_rangeFunc fun fn P'=>?_
 obtain⟨rec,z⟩:∃rec:LoopState->Option Code->Loop,rec=fun st pe=>{ state:=st,pending:=pe,fn,tmps:=a.tmps,params:=ps,assign,body,defers:=w.heap.size }:=⟨_,rfl⟩
 obtain⟨S,hS⟩:=jF w.heap.size;obtain⟨W1,Z⟩:=jF ((w.alloc (.deferred (some []))).alloc (.loop (rec .ready none)));have i':W1.heap[S+1]?=some (.loop (rec .ready none)):=by
  have:=World.alloc_heap_new (w.alloc (.deferred (some []))) (.loop (rec .ready none));rw[L4,<-hS]at this;rw[Z];exact this
 have S':W1.heap[S]?=some (.deferred (some [])):=by
  rw[Z,hS];exact (Mq _ _ _ jS).trans (World.alloc_heap_new w _)
 have l':S<=W1.heap.size:=by rw[Z,hS];simp;omega
 have L':I 0 W1:=by rw[Z];exact hI.alloc _ (hI.alloc _ h0)
 have M':KY w0 W1:=by
  rw[Z];exact A'.trans ((((La _ w).alloc (Ld _) _).alloc jS _).mono A'.size)
 have z':(Instr.enterLoop fn a.tmps ps assign body Fence.wide.round).run prog w=.ok (S+1,[{ target:=.collected S,args:=#[] }]) W1:=by
  rw[Z,z,hS];exact run_enterLoop_outer _ _ _ _ _
 rw[<-hS]at hI g' hIn C' p' O k' j' t';clear Z;refine⟨S+1,[{ target:=.collected S,args:=#[] }],W1,{ target:=.fn (.func gf) lb,args:=#[.func (.yield (S+1)) #[] #[]] },W1,gf,
  #[.func (.yield (S+1)) #[] #[]]++lb,W1,z',?_,fun f' T'=>trivial,?_,fun h=>by simp[Fence.wide]at h,callsIn_wide.2 ?_⟩
 ·simp only[resolve,hg];simp[go_sem]
 ·simp[invoke,go_sem,eg]
 have q':∀{A B:World} {row:Option Nat},(∀r,row=some r->W1.heap.size<=r/\∃o:Obj,A.heap[r]?=some o/\o.isCells=false)->(∀r,row=some r->S<=r/\∃o:Obj,A.heap[r]?=some o/\o.isCells=false) :=
  fun hr r e=>by obtain⟨hB,o,ho,hw⟩:=hr r e;exact⟨by omega,o,ho,hw⟩
 refine (B' (S+1) (fun k W=>I k W/\W.heap[S+1]?=some (.loop (rec .ready none))/\W.heap[S]?=some (.deferred (some [])))
  (fun k W=>∃c,Ix c k W/\W.heap[S+1]?=some (.loop (rec .done (some c)))/\W.heap[S]?=some (.deferred (some []))) W1 M'
  (fun s A B row hs c' hr=>⟨hI s A B row hs.1 c' (q' (B:=B) hr),(c'.block _ (Array.getElem?_eq_some_iff.1 hs.2.1).1 (fun e=>by have:=(hr _ e.symm).1;have:=(Array.getElem?_eq_some_iff.1 i').1;omega)).trans hs.2.1,(c'.block _ (Array.getElem?_eq_some_iff.1 hs.2.2).1 (fun e=>by have:=(hr _ e.symm).1;have:=(Array.getElem?_eq_some_iff.1 i').1;omega)).trans hs.2.2⟩)
  (fun s A B row hs c' hr=>by
   obtain⟨c,hc,J,hk⟩:=hs;exact⟨c,g' c s A B row hc c' (q' (B:=B) hr),(c'.block _ (Array.getElem?_eq_some_iff.1 J).1 (fun e=>by have:=(hr _ e.symm).1;have:=(Array.getElem?_eq_some_iff.1 i').1;omega)).trans J,(c'.block _ (Array.getElem?_eq_some_iff.1 hk).1 (fun e=>by have:=(hr _ e.symm).1;have:=(Array.getElem?_eq_some_iff.1 i').1;omega)).trans hk⟩)
  ?_ ⟨L',i',S'⟩).mono ?_
 ·rintro m k x v W hx ⟨hi,J,hk⟩ h';have hy:=run_yield (P:=prog) (args:=v) J (by rw[z];exact J' x v W h');rw[z]at hy;refine⟨fn,_,assign,body,hy,roundIn_of_wpIn P' (O _ _ k x v W _ om hx hi h' ?_)⟩;clear hy hi h';intro a' Wa e' E' hi h' y';replace J:=e'.same _ _ om J rfl;replace hk:=e'.same _ _ (Ld _) hk rfl;have r':S+1<Wa.heap.size:=(Array.getElem?_eq_some_iff.1 J).1;have m':S+1<W1.heap.size:=(Array.getElem?_eq_some_iff.1 i').1;have I':KeepsFrom W1.heap.size W Wa:=em e' l';clear e';refine⟨_,run_beginRound J (by rw[z]),?_⟩;obtain⟨W2,G⟩:∃W2,W2=Wa.putObj (S+1) (.loop { rec .ready none with state:=.busy }):=⟨_,rfl⟩;have D':W2.heap[S+1]?=some (.loop { rec .ready none with state:=.busy }):=by rw[G];exact World.putObj_heap_same r'
  have H':W2.heap[S]?=some (.deferred (some [])):=by rw[G];exact (World.putObj_heap_other om).trans hk
  have N':Kp Wa W2:=by rw[G];exact t' _ _ _ _ om J rfl rfl
  have O':I k W2:=by rw[G];exact hI.putObj _ hi om J rfl
  have G':In x v W2:=by rw[G];exact (hIn x v).putObj (s:=()) _ h' om J rfl
  have F':Ax x v a' W2:=by rw[G];exact (C' x v a').putObj (s:=()) _ y' om J rfl
  have s':KeepsFrom W1.heap.size W W2:=I'.trans (by rw[G];exact eC _ _ m');rw[<-G];clear G hi h' y' J hk r';refine wpIn_mono (p' _ _ k x v a' W2 om ⟨_,D'⟩ hx O' G' F') ?_;have fin:∀(jump:Option Code) (W3:World),KeepsFrom S W2 W3 ->
    (Instr.endRound (S+1) jump).run prog W3=.ok (.bool jump.isNone) (W3.putObj (S+1) (.loop (rec (if jump.isNone then .ready else .done) jump))) /\
    W3.heap[S+1]?=some (.loop { rec .ready none with state:=.busy }) /\
    (W3.putObj (S+1) (.loop (rec (if jump.isNone then .ready else .done) jump))).heap[S+1]?=some (.loop (rec (if jump.isNone then .ready else .done) jump)) /\
    (W3.putObj (S+1) (.loop (rec (if jump.isNone then .ready else .done) jump))).heap[S]?=some (.deferred (some [])):=fun jump W3 n'=>by
   have F:=n'.same _ _ om D' rfl;have hr:=run_endRound (P:=prog) jump F;rw[z]at hr F ⊢;exact⟨hr,F,World.putObj_heap_same (Array.getElem?_eq_some_iff.1 F).1,(World.putObj_heap_other om).trans (n'.same _ _ (Ld _) H' rfl)⟩
  rintro e a3 W3 hp
  cases e with
  | normal =>
   obtain⟨n',x',R'⟩:=hp;obtain⟨hr,F,d',b'⟩:=fin none W3 n';exact⟨_,_,hr,.inl ⟨rfl,⟨hI.putObj _ R' om F rfl,d',b'⟩,u' E' (u' (u' N' x') (t' _ _ _ _ om F rfl rfl)),s'.trans ((em n' l').trans (eC _ _ m'))⟩⟩
  | ret =>
   obtain⟨hr,F,d',b'⟩:=fin (some .ret) W3 hp.1;exact⟨_,_,hr,.inr ⟨rfl,⟨.ret,(g' _).putObj _ hp.2 om F rfl,d',b'⟩,s'.trans ((em hp.1 l').trans (eC _ _ m'))⟩⟩
  | exit id =>
   obtain⟨hr,F,d',b'⟩:=fin (some (.exit id)) W3 hp.1;exact⟨_,_,hr,.inr ⟨rfl,⟨.exit id,(g' _).putObj _ hp.2 om F rfl,d',b'⟩,s'.trans ((em hp.1 l').trans (eC _ _ m'))⟩⟩
  | goto t =>
   obtain⟨hr,F,d',b'⟩:=fin (some (.goto t)) W3 hp.1;exact⟨_,_,hr,.inr ⟨rfl,⟨.goto t,(g' _).putObj _ hp.2 om F rfl,d',b'⟩,s'.trans ((em hp.1 l').trans (eC _ _ m'))⟩⟩
  | panic ch=>exact hp.elim
  | outgrown=>exact hp.elim
 ·rintro e W2 ⟨⟨v,rfl⟩,(⟨hi,J,hk⟩|⟨k,r',c,hi,J,hk⟩)⟩
  ·have hr:=run_endLoop (P:=prog) J (by rw[z];simp);rw[z]at hr;exact⟨none,_,hr,k' _ _ (Ld _) (hI.putObj _ hi om J rfl) ((World.putObj_heap_other om).trans hk)⟩
  ·have hr:=run_endLoop (P:=prog) J (by rw[z];simp);rw[z]at hr;exact⟨some c,_,hr,j' _ c k _ (Ld _) r' ((g' c).putObj _ hi om J rfl) ((World.putObj_heap_other om).trans hk)⟩
theorem jU {n0 n1:Nat} {B row:Option Nat} {W W':World} (J:n0<=W.heap.size) (z:W.grownBy W' row) (hr:∀r,row=some r->n0<=r/\B≠some r/\(r<n1\/∃o:Obj,W.heap[r]?=some o/\o.isCells=false)) (G:∀b,B=some b->b<W.heap.size):bj n0 n1 B W W':=by
 have D:∀b,B=some b->W'.heap[b]?=W.heap[b]?:=fun b F=>z.block b (G b F) (fun e=>by have:=(hr b e.symm).2.1;rw[F]at this;exact this rfl)
 refine⟨⟨z.os,z.tape,z.output,z.size,fun k hk=>z.block k om (fun e=>by have:=(hr k e.symm).1;omega)⟩,fun s k hk=>Ll (s k ((eO D k).1 hk)) z.size,fun k o hk e c r=>⟨?_,fun h=>r ((eO D k).1 h)⟩⟩;refine (z.block k (Array.getElem?_eq_some_iff.1 e).1 (fun I=>?_)).trans e;rcases (hr k I.symm).2.2 with h|⟨o2,h1,h2⟩
 ·omega
 ·rw[e]at h1;cases h1;rw[c]at h2;cases h2
theorem Hu {n1 S:Nat} {B:Option Nat} (G:∀b,B=some b->b<n1/\b<S) (x:Bs) (v:Array Value):OwnFrom S (fun (_:Unit) W=>InS n1 B x v W):=fun _ W W' row ⟨u,e,hs⟩ hg hr=>by
 refine⟨u,e,?_⟩;obtain⟨b,o,c,rfl,Z,h2,F,I,D⟩:=hs;obtain⟨z,r,J⟩:∃z r,x=z::r:=by
  cases x with
  | nil=>exact absurd rfl F
  | cons z r=>exact⟨z,r,rfl⟩
 have O:b<W.heap.size:=K8 W ⟨b,_,none⟩ (D 0 z (by rw[J];rfl)).1;have hk:bj 0 n1 B W W':=jU (Lb _) hg (fun r e=>⟨Lb _,fun e2=>by have:=(hr r e).1;have:=(G r e2).2;omega,.inr (hr r e).2⟩) (fun b' h=>by have:=(G b' h).1;have:=I.1;omega);exact SetIn.keepO hk ⟨b,o,c,rfl,Z,h2,F,I,D⟩
theorem Eh {n1:Nat} {B:Option Nat} {x:Bs} {v:Array Value} {W:World} (h:InS n1 B x v W):v.size=1:=by
 obtain⟨u,rfl,-⟩:=h;rfl
def IG (L:List Bs) (W0 w:World) (e:Ending) (W:World):Prop:=∃gf lb,e=.returned (.func (.func gf) #[] lb)/\(∀args w,(callFunc gf args).run prog w=.ok (.enter gf args) w)/\KY w W /\
 ∀n1 B,W0.heap.size<=n1->n1<=w.heap.size->fE w B->(∀k,B=some k->k<n1)->KA gf lb L (InS n1 B) (bj W0.heap.size n1 B) W
def Bz (g:Nat) (l:List Evt) (x:Pt) (b:Bs) (i:Nat):Prop:=∀(d e C:Nat) (v vc vl u:Value) (W0 w:World),ScnAt l W0 C vl->aW d W0 v x.args->aF e W0 vc x.cond.args->jw W0 u b->KY W0 w ->
 Calls prog g #[.pointer (some ⟨C,0,none⟩),ptV x v vc,u,KW (i:Int)] w (IG (mt l x b i) W0 w)
theorem FinderK.own {g:Nat} {l:List Evt} {x:Pt} {b:Bs} {i:Nat} (h:FinderK g l x b i):Bz g l x b i:=fun d e C v vc vl u W0 w J h2 F h4 D =>
 (h d e C v vc vl u W0 w J h2 F h4 D).mono fun _ _ ⟨gf,lb,z,e2,Z,I⟩=>⟨gf,lb,z,e2,Z,fun n1 B a1 O G a4=>(I n1 B a1 O G a4).own⟩
end
section
open Go.RowKit Go.Lib
attribute [local go_sem] Oper.semAt_some
theorem DL {F:Fence} {n:Nat} {P:Program} {c:Code} {Q:Exit->Act->World->Prop} {a:Act} {w:World} (h:∀z,z=a->c.wpIn F n P Q z w):c.wpIn F n P Q a w:=h a rfl
theorem KU {K:Act->World->Prop} {a:Act} {w:World} (h:∀W:World,W=w->K a W):K a w:=h w rfl
end
section
open Go.RowKit Go.Lib
def PartsIn (Q:Nat->Prop) (w:World) (v:Value) (h:List (List Bs)):Prop:=∃A c,v=.slice A h.length c/\h.length<=c/\c<=maxLen /\
 ∀(k:Nat) p,h[k]?=some p->∃b o u,A=some ⟨b,o,none⟩/\Q b/\w.cell? ⟨b,o+k,none⟩=some u/\SetsIn Q w u p
theorem PartsIn.keepO {n0 n1:Nat} {B:Option Nat} {X Y:World} {v:Value} {F:List (List Bs)} (hk:bj n0 n1 B X Y) (h:PartsIn (Own n1 B X) X v F):PartsIn (Own n1 B Y) Y v F:=by
 obtain⟨A,c,rfl,I,J,G⟩:=h;refine⟨A,c,rfl,I,J,fun k s z=>?_⟩;obtain⟨b,o,u,e,hq,D,hs⟩:=G k s z;exact⟨b,o,u,e,(cH hk hq D).2,(cH hk hq D).1,hs.keepO hk⟩
theorem PartsIn.tail {Q:Nat->Prop} {w:World} {b o n c:Nat} {p:List Bs} {ps:List (List Bs)} (h:PartsIn Q w (.slice (some ⟨b,o,none⟩) n c) (p::ps)):PartsIn Q w (.slice (if c=1 then some ⟨b,o,none⟩ else some ⟨b,o+1,none⟩) (n-1) (c-1)) ps:=by
 obtain⟨A,c',e,I,h2,G⟩:=h;injection e with z D J;subst z D J;rw[Lt]at I;refine⟨_,c-1,by rw[Lt,Nat.add_sub_cancel],by omega,by omega,fun k q hq=>?_⟩;have Z:=(List.getElem?_eq_some_iff.1 hq).1;obtain⟨b',o',u,e,O,F,hs⟩:=G (k+1) q (by rw[LC];exact hq);injection e with e;injection e with z D;subst z D;exact⟨b,o+1,u,by rw[K6 om],O,by rw[show o+1+k=o+(k+1) by omega];exact F,hs⟩
def WithIn (Q:Nat->Prop) (w:World) (v:Value) (s:Bs):Prop:=(s=[]/\v=.slice none 0 0)\/SetIn Q w v s
theorem WithIn.is {Q:Nat->Prop} {w:World} {v:Value} {s:Bs} (h:WithIn Q w v s):jw w v s:=by
 rcases h with ⟨rfl,rfl⟩|h
 ·exact Sl.nil _ _ _ _ _ (Lb _)
 ·exact h.is
theorem WithIn.form {Q:Nat->Prop} {w:World} {v:Value} {s:Bs} (h:WithIn Q w v s):∃A c,v=.slice A s.length c:=by
 rcases h with ⟨rfl,rfl⟩|h
 ·exact⟨_,_,rfl⟩
 ·exact h.form
end
section
open Go.RowKit Go.Lib
theorem mK {F:Fence} {n:Nat} {P:Program} (w:World) {ops:Array Oper} {rest:List Oper} {o:Oper} {a:Act} {Q:Exit->Act->World->Prop}
  (hg:o.guard=none) (s x:Operand) (t:TypeId) (h:o.op=Op.call { callee:=Callee.builtin Builtin.append,args:=#[s,x],argTypes:=#[t,t] })
  (base:Nat) (e:TypeId) (i:TypeInfo) (z:Value) (size bytes:Nat) (h1:P.underlying t=some (.slice e)) (h2:P.info? e=some i) (h3:i.zero=some z) (h4:i.size=size) (Z:i.bytes=bytes) (h6:z.cells.size=size) (h7:0<size)
  (v:Value) (k:Nat) (xs:List Value) (hs:a.eval s=v) (I:w.ownsRow base e size v k xs) (A:Option Addr) (m c:Nat) (news:List Value) (hx:a.eval x=.slice A m c) (G:Src w A m size news) (b1:k+m<=maxLen) (b2:(k+m)*bytes<=140737488355328) (b3:base<=w.heap.size)
  (hK:∀v' w',w'.ownsRow base e size v' (k+m) (xs++news)->w.grownBy w' v.ownBlock->(v'.ownBlock=v.ownBlock\/v'.ownBlock=some w.heap.size)->wpListIn F n P ops Q rest (a.put o.dst v') w') :
  wpListIn F n P ops Q (o::rest) a w:=by
 refine wpListIn_plain hg fun K J=>?_
 obtain⟨v',w',D,r1,r2,r3⟩:=lG (P:=P) w base t o.type e i z size bytes h1 h2 h3 h4 Z h6 h7 v k xs I A m c news G b1 b2 b3;unfold Oper.wpIn;refine⟨?_,?_⟩
 ·simp[Oper.about,h,resolve,Target.leads,Sem.run_pure]
 ·rw[Oper.semAt_plain F _ _ (by rw[h];intro c O;cases O)];simp[execOp,h,resolve,invoke,builtin,hs,hx,D,Result.andThen];exact J _ _ (hK v' w' r1 r2 r3)
theorem SetsIn.keepQ {Q Q':Nat->Prop} {w W:World} {v:Value} {L:List Bs} (h:SetsIn Q w v L) (hk:∀b,Q b->b<w.heap.size->W.heap[b]?=w.heap[b]?/\Q' b):SetsIn Q' W v L:=by
 obtain⟨A,c,rfl,G,I,F⟩:=h;refine⟨A,c,rfl,G,I,fun k s hs=>?_⟩;obtain⟨b,o,u,e,hq,D,hu⟩:=F k s hs;obtain⟨J,z⟩:=hk b hq (K8 w ⟨b,_,none⟩ D);exact⟨b,o,u,e,z,(Ln (a:=⟨b,_,none⟩) J).trans D,hu.keepQ hk⟩
def RowP (base:Nat) (w:World) (v:Value) (h:List (List Bs)):Prop:=∃vs:List Value,w.ownsRow base 183 1 v h.length vs /\
 ∀(k:Nat) p,h[k]?=some p->∃u,vs[k]?=some u/\SetsIn (fun b=>v.ownBlock≠some b/\base<=b) w u p
theorem RowP.nil (base:Nat) (w:World):RowP base w (.slice none 0 0) []:=⟨[],⟨rfl,.inl ⟨rfl,rfl⟩⟩,fun k s h=>by simp at h⟩
theorem RowP.below {base:Nat} {w w':World} {v:Value} {z:List (List Bs)} (h:RowP base w v z) (D:KY w w'):RowP base w' v z:=by
 obtain⟨vs,F,G⟩:=h;exact⟨vs,aj F D,fun k s hk=>by obtain⟨u,hu,hs⟩:=G k s hk;exact⟨u,hu,hs.stays D⟩⟩
theorem RowP.app {base:Nat} {w w':World} {v v' u:Value} {z:List (List Bs)} {p:List Bs} {vs:List Value} (h2:∀(k:Nat) p,z[k]?=some p->∃u,vs[k]?=some u/\SetsIn (fun b=>v.ownBlock≠some b/\base<=b) w u p) (hlen:vs.length=z.length) (D:w'.ownsRow base 183 1 v' (z.length+1) (vs++[u])) (hg:w.grownBy w' v.ownBlock) (F:v'.ownBlock=v.ownBlock\/v'.ownBlock=some w.heap.size)
  (hs:SetsIn (fun b=>v.ownBlock≠some b/\base<=b) w u p):RowP base w' v' (z++[p]):=by
 have h:∀b,(v.ownBlock≠some b/\base<=b)->b<w.heap.size->w'.heap[b]?=w.heap[b]?/\v'.ownBlock≠some b/\base<=b:=fun b Z hl=>by
  refine⟨hg.block b hl (fun e=>Z.1 e.symm),fun e=>?_,Z.2⟩;rcases F with O|O
  ·rw[O]at e;exact Z.1 e
  ·rw[O]at e;injection e with e;omega
 refine⟨vs++[u],by rw[Le];exact D,fun k t hk=>?_⟩;rcases LY k z.length with J|hge
 ·rw[LR J]at hk;obtain⟨x,hx,G⟩:=h2 k t hk;exact⟨x,by rw[LR om];exact hx,G.keepQ h⟩
 ·rw[Mf hge]at hk;have I:k=z.length:=by
   have:=(List.getElem?_eq_some_iff.1 hk).1;simp at this;omega
  subst I;simp at hk;subst hk;exact⟨u,by rw[<-hlen];simp,hs.keepQ h⟩
theorem PartsIn.mono {Q Q':Nat->Prop} (hq:∀b,Q b->Q' b) {w:World} {v:Value} {z:List (List Bs)} (h:PartsIn Q w v z):PartsIn Q' w v z:=by
 obtain⟨A,c,rfl,G,I,F⟩:=h;refine⟨A,c,rfl,G,I,fun k s hk=>?_⟩;obtain⟨b,o,u,e,J,D,hs⟩:=F k s hk;exact⟨b,o,u,e,hq b J,D,hs.mono hq⟩
end
end Go.Proofs.YtokconodddedhaaGreatDoor
