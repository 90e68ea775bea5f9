/- Part. -/
import Derived.Test.YtokconodddedhaaGreatDoorQ30
set_option maxRecDepth 100000
set_option maxHeartbeats 16000000
set_option linter.unusedVariables false
set_option linter.unusedSimpArgs false
namespace Go.Proofs.YtokconodddedhaaGreatDoor
open Go.Proofs.Tryz Go.RowKit
def I6 (w0:World) (bi bn bf bv be:Nat) (k:Nat) (r:Int × Int) (n:Nat) (W:World) (e:Ending) (W':World):Prop :=
 (r.2=0/\e=.returned (.bool true)/\EachW w0 bi bn bf bv be W' ((k:Int)+n-1) 0 0/\KeepX [bi,bn,bf] W W')\/(r.2≠0/\e=.returned (.bool false)/\∃i,EachW w0 bi bn bf bv be W' i r.1 r.2)
structure PlcAp (bs:List Nat) (W:World) (s:Plc) (uv sv:Value):Prop where
 is:PlcIs W s uv sv
 us:s.us≠[]->∀g,uv.ownBlock=some g->g∉bs
 si:s.si≠[]->∀g,sv.ownBlock=some g->g∉bs
theorem PlcAp.keep {bs cs:List Nat} {W W':World} {s:Plc} {G I:Value} (h:PlcAp bs W s G I) (hk:KeepX cs W W') (F:∀b∈cs,b∈bs):PlcAp bs W' s G I :=
 ⟨⟨hk.nums h.is.us (fun D g z hm=>h.us D g z (F g hm)),hk.nums h.is.si (fun D g z hm=>h.si D g z (F g hm))⟩,h.us,h.si⟩
def zy (w0:World) (bi bn bf bv be d:Nat):Prop :=
 ∀(x:Pt) (h:Plc) (F k:Nat) (v vc z D:Value) (W:World),EachW w0 bi bn bf bv be W ((k:Int)-1) 0 0->aW d w0 v x.args->aF F w0 vc x.cond.args->WfP x->k+ptN x<=64->PlcAp [bi,bn,bf] W h z D->SmP h ->
  Calls prog 336 #[ptV x v vc,iq z D h.fb,.pointer (some ⟨bi,0,none⟩),.pointer (some ⟨bv,0,none⟩),.pointer (some ⟨be,0,none⟩)] W (I6 w0 bi bn bf bv be k (dZ k (kK h x)) (ptN x) W)
theorem Eg {op:Int} {a:Pt} {z:Plc} (h:SmP z):SmP (jh op a z):=by
 unfold jh
 split
 ·exact⟨ue _ _,ue _ _⟩
 ·exact h
theorem BA {W:World} {v:Value} {l:List Int} {q:Nat} (h:bD W v l) (J:l≠[]) (hq:W.heap.size<=q) (I:v.ownBlock=some q):False:=by
 obtain⟨A,c,rfl,O,Z,F⟩:=h;have z:=List.length_pos_iff.2 J;obtain⟨b,o,rfl,D⟩:=F 0 l[0] (K9 z);have G:=K8 W ⟨b,_,none⟩ D;have:b=q:=by simpa [Value.ownBlock] using I
 simp only at G;omega
theorem BoxX.set3 {W:World} {b q:Nat} {v:Value} (h:BoxX W b v) (z:q≠b) (D G F:Value):BoxX (((W.setCell ⟨q,0,none⟩ D).setCell ⟨q,1,none⟩ G).setCell ⟨q,2,none⟩ F) b v:=((h.other (Me z) _).other (Me z) _).other (Me z) _
theorem EachW.set3 {w0 W:World} {bi bn bf bv be q:Nat} {i nd e:Int} (h:EachW w0 bi bn bf bv be W i nd e) (z:q≠bi/\q≠bn/\q≠bf/\q≠bv/\q≠be) (hq:w0.heap.size<=q) (D G F:Value):EachW w0 bi bn bf bv be (((W.setCell ⟨q,0,none⟩ D).setCell ⟨q,1,none⟩ G).setCell ⟨q,2,none⟩ F) i nd e :=
 ⟨aA (aA (aA h.bel hq _) hq _) hq _,h.idx.set3 z.1 _ _ _,h.node.set3 z.2.1 _ _ _,h.err.set3 z.2.2.1 _ _ _,h.vis.set3 z.2.2.2.1 _ _ _,h.each.set3 z.2.2.2.2 _ _ _,h.lo,h.ne⟩
structure EachI (w0:World) (bi bn bf bv be k Q:Nat) (x:Pt) (R:Int × Int) (j:Nat) (lj:Plc) (uj sj:Value) (w2 wr:World):Prop where
 each:EachW w0 bi bn bf bv be wr (((k+1+aU (x.args.take j):Nat):Int)-1) 0 0
 keep:KeepX [Q,bi,bn,bf] w2 wr
 box:∃t,wr.heap[Q]?=some (.cells [uj,sj,.int .i64 lj.fb].toArray t (0,0))
 plc:PlcAp [Q,bi,bn,bf] wr lj uj sj
 sm:SmP lj
 scan:dZ (k+1+aU (x.args.take j)) (pc x.op lj (x.args.drop j))=R
theorem sF (w0:World) (bi bn bf bv be:Nat) (hT:Tbl w0) (d:Nat) (P0:∀d',d=d'+1->zy w0 bi bn bf bv be d'):zy w0 bi bn bf bv be d:=by
 intro x lf ec k v vc uv sv W hW hx K1 K2 R0 hL hS;have A5:=jD P0;have HT:=jD hT;have A3:=jD K2;have l':=jD hW;obtain⟨R,hR⟩:=jE (dZ k (kK lf x));have W1:=hR;rw[Ii,dZ]at W1;rw[hR];have E1:=fun (W9:World) (u s':Value) (h9:EachW w0 bi bn bf bv be W9 k 0 0) (hp:PlcIs W9 lf u s')=>IX w0 bi bn bf bv be d ec k x lf v vc u s' W9 h9 hT hx K1 K2 hp hS
 obtain⟨A,c,rfl,h1,h2,K3⟩:=id hx;obtain⟨Ac,cc,rfl,-⟩:=id K1;obtain⟨Au,cu,rfl,-⟩:=id hL.is.us;obtain⟨As,cs,rfl,-⟩:=id hL.is.si;have V3:=ax h1 h2;have P5:=jD K3;have V':=jD hL;have O6:=jD hS;have Y3:=dm x;obtain⟨n,hn⟩:=jF x.args.length;obtain⟨nc,T2⟩:∃n,n=x.cond.args.length:=⟨_,rfl⟩;obtain⟨nu,P'⟩:∃n,n=lf.us.length:=⟨_,rfl⟩;obtain⟨ns,T'⟩:∃n,n=lf.si.length:=⟨_,rfl⟩;have HN:=jD hn;have X7:=jD P';have W7:=jD T';rw[<-hn,<-T2]at E1;rw[<-hn]at V3;rw[<-P',<-T']at V';rw[<-hn,<-T2,<-P',<-T'];have Y2:=jD E1;have T3:=jD W1;have O2:=jD (And.intro Y3 R0);have i0:=hW.idx.cell;have i1:=hW.idx.frozen;have i2:=hW.idx.lt;have T6:IntKind.i64.wrap ((k:Int)-1+1)=(k:Int):=by rw[Int.sub_add_cancel];simp[IntKind.wrap,IntKind.bits,IntKind.signed];omega
 clear hT K2 hW hR W1 E1 hx K1 hL hS h1 h2 K3 hn T2 P' T' P0 Y3 R0;unfold ptV iq at *;have N3:wrap64 (k:Int)=(k:Int):=IntWalk.wrap64_in _ (by have:=O2.out;omega);have X2:bi≠W.heap.size:=by omega
 have A2:bi≠W.heap.size+1:=by omega
 have R2:W.heap.size≠bi:=by omega
 have J':W.heap.size+1≠bi:=by omega
 obtain⟨fb,S'⟩:∃z,z=lf.fb:=⟨_,rfl⟩;have Z5:=jD S';rw[<-S'];rw[<-S']at Y2;clear S';go_enter func336,ntmps336
 go_upto_region 2 with fail
 refine aP fun O e1=>?_
 obtain⟨Q,hQ⟩:∃q,q=W.heap.size+1:=⟨_,rfl⟩;obtain⟨P,hP⟩:∃q,q=W.heap.size:=⟨_,rfl⟩;have Q1:Below (W.setCell ⟨bi,0,none⟩ (.int .i64 (k:Int))).heap.size (W.setCell ⟨bi,0,none⟩ (.int .i64 (k:Int))) O:=by rw[e1];exact aJ (ag _ _) _
 have q':Hid (EachW w0 bi bn bf bv be O k 0 0):=jD ((l'.out.setI k).grow Q1);have P3:Hid (KeepX [bi,bn,bf] W O):=jD ((eZ _ jS _).trans (bw Q1));have p0:KX O P 0 (KW x.op):=by rw[e1,hP];show _=_;go_simp
 have p1:KX O P 1 (.slice A n c):=by rw[e1,hP];show _=_;go_simp
 have p2:KX O P 2 (KW x.ty):=by rw[e1,hP];show _=_;go_simp
 have p3:KX O P 3 (KW x.vr):=by rw[e1,hP];show _=_;go_simp
 have p4:KX O P 4 (KW x.sc):=by rw[e1,hP];show _=_;go_simp
 have p5:KX O P 5 (KW x.sp):=by rw[e1,hP];show _=_;go_simp
 have p6:KX O P 6 (KW x.cond.op):=by rw[e1,hP];show _=_;go_simp
 have p7:KX O P 7 (.slice Ac nc cc):=by rw[e1,hP];show _=_;go_simp
 have p8:KX O P 8 (KW x.cond.vr):=by rw[e1,hP];show _=_;go_simp
 have p9:KX O P 9 (KW x.cond.fl):=by rw[e1,hP];show _=_;go_simp
 have z':KX O P 10 (KW x.cond.kd):=by rw[e1,hP];show _=_;go_simp
 have r':KX O P 11 (KW x.cond.val.kind):=by rw[e1,hP];show _=_;go_simp
 have u':KX O P 12 (KW x.cond.val.num):=by rw[e1,hP];show _=_;go_simp
 have x':KX O P 13 (.string x.cond.val.text):=by rw[e1,hP];show _=_;go_simp
 have hq:O.heap[Q]?=some (.cells [.slice Au nu cu,.slice As ns cs,.int .i64 fb].toArray 332 (0,0)):=by rw[e1,hQ];exact ap _ _ _ jS
 have y0:KX O Q 0 (.slice Au nu cu):=af hq 0;have y1:KX O Q 1 (.slice As ns cs):=af hq 1;have y2:KX O Q 2 (KW fb):=af hq 2;have g':Hid (P=W.heap.size/\Q=W.heap.size+1/\bi<W.heap.size/\bn<W.heap.size/\bf<W.heap.size/\bv<W.heap.size/\be<W.heap.size):=jD ⟨hP,hQ,l'.out.idx.lt,l'.out.node.lt,l'.out.err.lt,l'.out.vis.lt,l'.out.each.lt⟩;rw[<-hQ,<-hP];have Y4:=K8 O ⟨P,_,none⟩ p0;have Y':=K8 O ⟨Q,_,none⟩ y0;have A4:=jD (V'.out.keep P3.out (fun b h=>h));have b0:=q'.out.vis.cell;have b1:=q'.out.vis.lt;have i0:=q'.out.idx.cell;have i2:=q'.out.idx.lt;have Q6:=jD hq;have O3:=jD (And.intro p0 p1);clear e1 hQ hP Q1 i1 T6 N3 X2 A2 R2 J' hq;go_wp2_with fail;refine (Y2.out _ _ _ q'.out A4.out.is).mono ?_;rintro e w2 (⟨hz,rfl,N',n'⟩|⟨hz,rfl,N'⟩)
 case inr =>
  have G:=T3.out;rw[K7 hz]at G;subst G;go_wp2;go_ret;exact .inr ⟨hz,rfl,_,N'⟩
 have G:=T3.out;rw[K6 (by rw[hz];simp)]at G;have R5:=jD G;have U5:=jD N';have A6:=jD n';have nP:P∉[bi,bn,bf]:=by have:=g'.out;simp;omega
 have nQ:Q∉[bi,bn,bf]:=by have:=g'.out;simp;omega
 have P4:P∉[Q,bi,bn,bf]:=by have:=g'.out;simp;omega
 have NN:=jD (And.intro nP (And.intro nQ P4));have q0:=n'.cell O3.out.1 nP;have q1:=n'.cell O3.out.2 nP;have U6:=jD (n'.heap Q6.out nQ);have Y4:=K8 w2 ⟨P,_,none⟩ q0;have S5:=jD q0;have R':=A4.out.keep n' (fun b h=>h);have Z6:Hid (PlcAp [Q,bi,bn,bf] w2 lf (.slice Au nu cu) (.slice As ns cs)):=jD ⟨R'.is,fun hl g hg hm=>by
   rcases List.mem_cons.1 hm with rfl|h
   ·exact BA V'.out.is.us hl (by have:=g'.out;omega) hg
   ·exact R'.us hl g hg h,fun hl g hg hm=>by
   rcases List.mem_cons.1 hm with rfl|h
   ·exact BA V'.out.is.si hl (by have:=g'.out;omega) hg
   ·exact R'.si hl g hg h⟩
 clear hz G N' n' nP nQ P4 R' p0 p1 p2 p3 p4 p5 p6 p7 p8 p9 z' r' u' x' y0 y1 y2 b0 b1 i0 i2 Y';go_wp2_with fail
 go_loopw [21] (fun i wr=>∃(j:Nat) (J:Plc) (uj sj:Value),j<=n/\i=KW j/\Hid (EachI w0 bi bn bf bv be k Q x R j J uj sj w2 wr)) (fun i _=>n-(intOf i).toNat)
 case atStart=>exact⟨0,lf,_,_,Lb _,rfl,jD ⟨by simpa [aU] using U5.out,KeepX.refl _ _,⟨_,by rw[<-Z5.out];exact U6.out⟩,Z6.out,O6.out,by simpa [aU] using R5.out⟩⟩
 case round =>
  obtain⟨j,J,uj,sj,hj,rfl,hI⟩:=hrel;have hE:=hI.out.each;have F:=hE.bel;obtain⟨tq,hq⟩:=hI.out.box;obtain⟨P1,P2,rfl,-⟩:=id hI.out.plc.is.us;obtain⟨N1,M1,rfl,-⟩:=id hI.out.plc.is.si;obtain⟨T1,T0⟩:∃n,n=J.us.length:=⟨_,rfl⟩;obtain⟨X1,Q0⟩:∃n,n=J.si.length:=⟨_,rfl⟩;have HI:=hI;rw[<-T0,<-Q0]at HI hq;have Q5:=jD hq;have y0:=af hq 0;have y1:=af hq 1;have y2:=af hq 2;simp only[LE,LC]at y0 y1 y2;have Y':=aD hq;have b0:=hE.each.cell;have b1:=hE.each.lt;clear hI hq T0 Q0
  by_cases A8:j<n
  ·have Y6:(j:Int)<(n:Int):=by omega
   have Q2:j<x.args.length:=by have:=HN.out;omega
   obtain⟨b,o,rfl,N2⟩:=P5.out j x.args[j] (K9 Q2);have hg:=jD (K9 Q2);obtain⟨a,ha⟩:=jF (x.args[j]);rw[<-ha]at hg N2;obtain⟨d',e',v',P6,K4,X5,U',k',p0,p1,p2,p3,p4,p5,p6,p7,p8,p9,z',r',u',x'⟩:=cW N2;have R1:=jD U';have S2:=jD (eI (show e'<=d' by omega) k');replace p0:=aa F p0;replace p1:=aa F p1;replace p2:=aa F p2;replace p3:=aa F p3;replace p4:=aa F p4;replace p5:=aa F p5;replace p6:=aa F p6;replace p7:=aa F p7;replace p8:=aa F p8;replace p9:=aa F p9;replace z':=aa F z';replace r':=aa F r';replace u':=aa F u';replace x':=aa F x';have B2:=jD (fI hg.out);have hle:k+1+aU (x.args.take j)+ptN a<=64:=by have h1:=dJ x.args (j+1);have:=B2.out;have:=O2.out;omega
   have H2:=fun (W9:World) (h9:EachW w0 bi bn bf bv be W9 (((k+1+aU (x.args.take j):Nat):Int)-1) 0 0) (hp:PlcAp [bi,bn,bf] W9 J (.slice P1 T1 P2) (.slice N1 X1 M1))=>A5.out d' K4 a J e' (k+1+aU (x.args.take j)) v' P6 _ _ W9 h9 U' k' (A3.out.arg hg.out) hle hp HI.out.sm
   have hD:=HI.out.scan;rw[Dr hg.out,tt,Ed]at hD;have HD:=jD hD;obtain⟨Av,cv,rfl,-⟩:=id U';obtain⟨Ae,ce,rfl,-⟩:=id k';have P7:=K8 wr ⟨b,_,none⟩ p0;obtain⟨na,E2⟩:∃n,n=a.args.length:=⟨_,rfl⟩;obtain⟨ne,Z1⟩:∃n,n=a.cond.args.length:=⟨_,rfl⟩;rw[<-E2,<-Z1]at H2;rw[<-E2]at R1 p1;rw[<-Z1]at S2 p7;have p':=jD (A3.out.arg hg.out);have W4:=jD H2;unfold ptV iq at W4;have U2:=F;have S7:=jD F;have L':=jD hE;clear ha N2 K4 X5 U' k' H2 hD Q2 E2 Z1 hle F U2 hE;go_wp2_with fail;refine aw fun w6 e6=>?_
   obtain⟨V,hV⟩:∃q,q=wr.heap.size:=⟨_,rfl⟩;have S1:KY wr w6:=gb e6;have O1:KX w6 V 0 (KW a.op):=by rw[e6,hV];show _=_;go_simp
   have Z4:KX w6 V 1 (.slice Av na cv):=by rw[e6,hV];show _=_;go_simp
   have H4:KX w6 V 2 (KW a.ty):=by rw[e6,hV];show _=_;go_simp
   have W3:KX w6 V 3 (KW a.vr):=by rw[e6,hV];show _=_;go_simp
   have O4:KX w6 V 4 (KW a.sc):=by rw[e6,hV];show _=_;go_simp
   have S4:KX w6 V 5 (KW a.sp):=by rw[e6,hV];show _=_;go_simp
   have W2:KX w6 V 6 (KW a.cond.op):=by rw[e6,hV];show _=_;go_simp
   have S3:KX w6 V 7 (.slice Ae ne ce):=by rw[e6,hV];show _=_;go_simp
   have B5:KX w6 V 8 (KW a.cond.vr):=by rw[e6,hV];show _=_;go_simp
   have U4:KX w6 V 9 (KW a.cond.fl):=by rw[e6,hV];show _=_;go_simp
   have S0:KX w6 V 10 (KW a.cond.kd):=by rw[e6,hV];show _=_;go_simp
   have V0:KX w6 V 11 (KW a.cond.val.kind):=by rw[e6,hV];show _=_;go_simp
   have K0:KX w6 V 12 (KW a.cond.val.num):=by rw[e6,hV];show _=_;go_simp
   have Y0:KX w6 V 13 (.string a.cond.val.text):=by rw[e6,hV];show _=_;go_simp
   have V5:=jD (ci O1 Z4 H4 W3 O4 S4 W2 S3 B5 U4 S0 V0 K0 Y0);have N6:Hid (V∉[bi,bn,bf]/\V≠Q/\wr.heap.size<=V/\V<w6.heap.size):=jD ⟨by have:=L'.out.idx.lt;have:=L'.out.node.lt;have:=L'.out.err.lt;simp;omega,by omega,by omega,K8 w6 ⟨V,_,none⟩ O1⟩;rw[<-hV];have Y1:=jD (bw (bs:=[bi,bn,bf]) S1);have O':=jD (HI.out.plc.keep Y1.out (fun b h=>by simp at h ⊢;omega));have W5:=jD (Y1.out.heap Q5.out NN.out.2.1);have W6:=jD (L'.out.grow S1);clear e6 hV S1 y0 y1 y2 Y' b0 b1 p0 p1 p2 p3 p4 p5 p6 p7 p8 p9 z' r' u' x' O1 Z4 H4 W3 O4 S4 W2 S3 B5 U4 S0 V0 K0 Y0;refine (W4.out w6 W6.out ⟨O'.out.is,fun hl g hg hm=>O'.out.us hl g hg (Lh _ hm),fun hl g hg hm=>O'.out.si hl g hg (Lh _ hm)⟩).mono ?_;rintro e w7 (⟨hz,rfl,i',h'⟩|⟨hz,rfl,i7,i'⟩)
   case inr =>
    have G:=HD.out;rw[K7 hz]at G;subst G;go_wp2;go_ret;exact .inr ⟨hz,rfl,_,i'⟩
   have G:=HD.out;rw[K6 (by rw[hz];simp)]at G;have X3:Hid (dZ (k+1+aU (x.args.take (j+1))) (pc x.op (jh x.op a J) (x.args.drop (j+1)))=R):=jD (by rw[B2.out,<-LJ];exact G);have I:Hid (EachW w0 bi bn bf bv be w7 (((k+1+aU (x.args.take (j+1)):Nat):Int)-1) 0 0):=jD (by
    rw[B2.out];have h:=i';rw[show (((k+1+aU (x.args.take j):Nat):Int)+(ptN a:Nat)-1)=(((k+1+(aU (x.args.take j)+ptN a):Nat):Int)-1) by omega]at h;exact h)
   have T5:Hid (KeepX [bi,bn,bf] wr w7):=jD (Y1.out.trans h');have V1:Hid (KeepX [Q,bi,bn,bf] w2 w7):=jD (HI.out.keep.trans (T5.out.more (fun b h=>Lh _ h)));have U1:=jD (O'.out.keep h' (fun b h=>Lh _ h));have R3:=jD (h'.heap W5.out NN.out.2.1);have q0:=V1.out.cell S5.out NN.out.2.2;have Y4:=K8 w7 ⟨P,_,none⟩ q0;have H6:Hid (Cells w7 V 0 (aQ a (.slice Av na cv) (.slice Ae ne ce))):=jD fun i u hi=>h'.cell (V5.out i u hi) N6.out.1
   clear hz G i' h'
   by_cases h1:x.op=1
   case neg =>
    have H7:(x.op==1)=false:=jQ h1;go_wp2_with fail
    go_roundw
    case rel=>exact⟨j+1,J,_,_,by omega,by go_num,jD ⟨I.out,V1.out,⟨_,R3.out⟩,U1.out,HI.out.sm,by have h:=X3.out;rw[show jh x.op a J=J by unfold jh;rw[K6 h1]]at h;exact h⟩⟩
    case measure=>simp[intOf];omega
   have H7:(x.op==1)=true:=jQ h1;have V4:jh x.op a J=⟨unI J.us (bB a),unI J.si (aS a),-1⟩:=by unfold jh;rw[K7 h1]
   have H3:=jD V4;have hq:=R3.out;have y0:=af hq 0;have y1:=af hq 1;simp only[LE,LC]at y0 y1;obtain⟨v0,v1,v2,v3,v4,v5,v6,v7,v8,v9,v10,v11,H5,T4⟩:=dv H6.out;have R7:=K8 w7 ⟨V,_,none⟩ v0;have Y':=aD hq;have B':=jD I.out.bel;have R4:=jD (fun (W9:World) (a':KY w7 W9)=>kq d' a _ _ W9 (R1.out.stays (aB d') (ab B'.out a')) (S2.out.stays (ai d') (ab B'.out a')) p'.out.1 (fun y hy h=>(p'.out.okV y hy).2 h));have K5:=jD (fun (W9:World) (a':KY w7 W9)=>ru d' a d' _ _ W9 (HT.out.stays (ab B'.out a')) (R1.out.stays (aB d') (ab B'.out a')) (S2.out.stays (ai d') (ab B'.out a')) p'.out.okV);have A7:=jD (fun (W9:World) (u:Value) (a':KY w7 W9) (hu:bD W9 u (bB a))=>dS J.us (bB a) _ u W9 (U1.out.is.us.stays aL a') hu HI.out.sm.1.1 ip (by have:=HI.out.sm.1.2;have:=mp (evV a) [];unfold bB;omega));have V6:=jD (fun (W9:World) (u:Value) (a':KY w7 W9) (hu:bD W9 u (aS a))=>dS J.si (aS a) _ u W9 (U1.out.is.si.stays aL a') hu HI.out.sm.2.1 (jr p'.out.okV.self.2).1 (by have:=HI.out.sm.2.2;have:=(jr p'.out.okV.self.2).2;omega));unfold ptV at R4 K5;clear h1 V4;go_wp2_with fail
   have m':∀W,KY w7 W->(fun W:World=>KY w7 W/\KX W Q 0 (.slice P1 T1 P2)/\KX W Q 1 (.slice N1 X1 M1)/\KX W V 0 (KW a.op)/\KX W V 1 (.slice Av na cv)/\KX W V 2 (KW a.ty)/\KX W V 3 (KW a.vr)/\KX W V 4 (KW a.sc)/\KX W V 5 (KW a.sp)/\KX W V 6 (KW a.cond.op)/\KX W V 7 (.slice Ae ne ce)/\KX W V 8 (KW a.cond.vr)/\KX W V 9 (KW a.cond.fl)/\KX W V 10 (KW a.cond.kd)/\KX W V 11 (KW a.cond.val.kind)/\KX W V 12 (KW a.cond.val.num)/\KX W V 13 (.string a.cond.val.text)) W:=fun W hW=>⟨hW,aa hW y0,aa hW y1,aa hW v0,aa hW v1,aa hW v2,aa hW v3,aa hW v4,aa hW v5,aa hW v6,aa hW v7,aa hW v8,aa hW v9,aa hW v10,aa hW v11,aa hW H5,aa hW T4⟩
   refine wp_region_noPanic ?_;refine di ((fun W:World=>KY w7 W/\W.cell? ⟨Q,0,none⟩=some (.slice P1 T1 P2)/\W.cell? ⟨Q,1,none⟩=some (.slice N1 X1 M1)/\W.cell? ⟨V,0,none⟩=some (KW a.op)/\W.cell? ⟨V,1,none⟩=some (.slice Av na cv)/\W.cell? ⟨V,2,none⟩=some (KW a.ty)/\W.cell? ⟨V,3,none⟩=some (KW a.vr)/\W.cell? ⟨V,4,none⟩=some (KW a.sc)/\W.cell? ⟨V,5,none⟩=some (KW a.sp)/\W.cell? ⟨V,6,none⟩=some (KW a.cond.op)/\W.cell? ⟨V,7,none⟩=some (.slice Ae ne ce)/\W.cell? ⟨V,8,none⟩=some (KW a.cond.vr)/\W.cell? ⟨V,9,none⟩=some (KW a.cond.fl)/\W.cell? ⟨V,10,none⟩=some (KW a.cond.kd)/\W.cell? ⟨V,11,none⟩=some (KW a.cond.val.kind)/\W.cell? ⟨V,12,none⟩=some (KW a.cond.val.num)/\W.cell? ⟨V,13,none⟩=some (.string a.cond.val.text))) 11 kr (m' _ (La _ _).drew) (fun D=>?_);refine tkP [0,1,2,5,6,7] ?_;refine nxP 3 (fun K hK=>?_)
   (go_simp;refine (R4.out _ D.1).mono ?_;rintro e Y5 ⟨T7,rfl,C',O0,Z0⟩;have f':KY w7 Y5:=ab D.1 Z0;have Q3:=jD C';have N7:=jD O0;obtain⟨Z7,Q7,rfl,-⟩:=id C';clear C' O0)
   refine hK.out _ _ (m' _ f') (fun D=>?_);clear hK K;refine nxP 4 (fun K hK=>?_)
   (go_simp;refine (A7.out _ _ D.1 Q3.out).mono ?_;rintro e Q4 ⟨Y7,rfl,H',N0,A1⟩;have t':KY w7 Q4:=ab D.1 A1;have X4:=jD H';have A0:=jD N0;obtain⟨I',M',rfl,-⟩:=id H';clear H' N0)
   refine hK.out _ _ (m' _ t') (fun D=>?_);clear hK K;refine nxP 8 (fun K hK=>?_)
   (go_simp;refine (K5.out _ D.1).mono ?_;rintro e X6 ⟨V7,rfl,A',U0,G'⟩;have c':KY w7 X6:=ab D.1 G';have U3:=jD A';have O7:=jD U0;obtain⟨O8,N8,rfl,-⟩:=id A';clear A' U0)
   refine hK.out _ _ (m' _ c') (fun D=>?_);clear hK K;refine nxP 9 (fun K hK=>?_)
   (go_simp;refine (V6.out _ _ D.1 U3.out).mono ?_;rintro e Z3 ⟨U7,rfl,F',H0,D'⟩;have Z:KY w7 Z3:=ab D.1 D';have V2:=jD F';have X0:=jD H0;obtain⟨Z',X',rfl,-⟩:=id F';clear F' H0)
   refine hK.out _ _ (m' _ Z) (fun D=>?_);clear hK K;refine tkP [10] ?_;refine dD (fuel:=0) (L:=(true::true::true::true::true::true::true::true::true::true::true::true::[]).toArray) rfl kr kr kr kr kr (fun K hK=>?_);have b':=ao Z hq;have z0:=af b' 0;have z1:=af b' 1;have z2:=af b' 2;simp only[LE,LC]at z0 z1 z2;have g0:=aq b' 0;have g1:=aq b' 1;have g2:=aq b' 2;have R6:=aD b';have HQ:=jD (du b' (.slice I' (unI J.us (bB a)).length M') (.slice Z' (unI J.si (aS a)).length X') (KW (-1)));clear b';go_simp;refine hK.out _ _ ?_;clear hK K;refine⟨by kernel_rfl,NoPanic.normal ?_⟩;rotate_left 1;refine tR (Q:=Exit.inBlock _ _) fun E' y'=>?_
   have N5:Hid (EachW w0 bi bn bf bv be E' (((k+1+aU (x.args.take (j+1)):Nat):Int)-1) 0 0):=jD (by rw[y'];exact (I.out.grow Z).set3 (by have:=g'.out;omega) (by have:=g'.out;have:=I.out.lo;omega) _ _ _);have O5:Hid (KeepX [Q,bi,bn,bf] w2 E'):=jD (by rw[y'];exact (V1.out.trans (bw Z)).trans (((eZ _ jS _).trans (eZ _ jS _)).trans (eZ _ jS _)));have Z2:Hid (∃t,E'.heap[Q]?=some (.cells [.slice I' (unI J.us (bB a)).length M',.slice Z' (unI J.si (aS a)).length X',.int .i64 (-1)].toArray t (0,0))):=jD ⟨_,by rw[y'];exact HQ.out⟩;have j':KY Q4 Z3:=ab G' D';have N4:Hid (PlcIs E' (jh x.op a J) (.slice I' (unI J.us (bB a)).length M') (.slice Z' (unI J.si (aS a)).length X')):=jD (by
    rw[H3.out,y'];exact⟨kF (X4.out.stays aL j') (fun g h=>by have:=A0.out g h;have:=f'.size;omega) _ _ _,kF V2.out (fun g h=>by have:=X0.out g h;have:=c'.size;omega) _ _ _⟩)
   have S6:Hid (PlcAp [Q,bi,bn,bf] E' (jh x.op a J) (.slice I' (unI J.us (bB a)).length M') (.slice Z' (unI J.si (aS a)).length X')):=jD ⟨N4.out,fun _ g h hm=>by have:=A0.out g h;have:=f'.size;have:=I.out.idx.lt;have:=I.out.node.lt;have:=I.out.err.lt;simp at hm;omega,fun _ g h hm=>by have:=X0.out g h;have:=c'.size;have:=I.out.idx.lt;have:=I.out.node.lt;have:=I.out.err.lt;simp at hm;omega⟩;clear y' D m' y0 y1 v0 v1 v2 v3 v4 v5 v6 v7 v8 v9 v10 v11 H5 T4 z0 z1 z2 g0 g1 g2 R6 f' t' c' Z Z0 A1 G' D' j' hq q0;go_wp2_with fail
   go_roundw
   case rel=>exact⟨j+1,jh x.op a J,_,_,by omega,by go_num,jD ⟨N5.out,O5.out,by obtain⟨t,h⟩:=Z2.out;exact⟨t,by rw[H3.out];exact h⟩,S6.out,Eg HI.out.sm,X3.out⟩⟩
   case measure=>simp[intOf];omega
  ·have Y6:¬(j:Int)<(n:Int):=by omega
   have hD:=HI.out.scan;rw[Lq (by have:=HN.out;omega),pc,dZ]at hD;subst hD;have i':EachW w0 bi bn bf bv be wr ((k:Int)+(ptN x:Nat)-1) 0 0:=by
    have h:=HI.out.each;rw[Mn (by have:=HN.out;omega),show (((k+1+aU x.args:Nat):Int)-1)=((k:Int)+(ptN x:Nat)-1) by have:=O2.out.1;omega]at h;exact h
   have h':KeepX [bi,bn,bf] W wr:=(((P3.out.trans A6.out).more (fun b h=>Lh _ h)).trans HI.out.keep).drop (by have:=g'.out;omega);have I:=jD (And.intro i' h');clear i' h';go_wp2;go_ret;exact .inl ⟨rfl,rfl,I.out.1,I.out.2⟩
theorem E9 (w0:World) (bi bn bf bv be:Nat) (z:Tbl w0) (d:Nat):zy w0 bi bn bf bv be d:=by
 induction d with
 | zero=>exact sF w0 bi bn bf bv be z 0 (fun D h=>by omega)
 | succ d F=>exact sF w0 bi bn bf bv be z (d+1) (fun D h=>Ma h▸F)
def fm (l:List Bnd):List Value:=l.flatMap kP
theorem wo (l:List Bnd):∀u∈fm l,u.oneCell'=true:=fun u hu=>by
 obtain⟨x,_,h⟩:=List.mem_flatMap.1 hu;simp only[kP,Lv,LM,LN]at h;rcases h with rfl|rfl|rfl|rfl<;>rfl
theorem gE:∀{l:List Bnd} {k:Nat} {x:Bnd},l[k]?=some x->∀r,r<4->(fm l)[k*4+r]?=(kP x)[r]?
 | [],k,x,h,_,_=>by simp at h
 | y::l,0,x,h,r,hr=>by
  simp at h;subst h;unfold fm;rw[Mk,My,Lu,LR (by simpa [kP] using hr)]
 | y::l,k+1,x,h,r,hr=>by
  have z:=gE (l:=l) (k:=k) (x:=x) (jQ h) r hr;unfold fm at z ⊢;rw[Mk,Mf (by simp[kP];omega),<-z];congr 1;simp[kP];omega
theorem Fd {B:Nat} {wr:World} {D:Value} {l:List Bnd} (h:wr.ownsRow B 80 4 D l.length (fm l)):bQ wr D l:=by
 obtain⟨A,c,rfl,O,F,J⟩:=cU h (wo l);refine⟨A,c,rfl,O,F,fun k x hk=>?_⟩;have G:=(List.getElem?_eq_some_iff.1 hk).1;obtain⟨b,o,I,z⟩:=J.2.2 om;refine⟨b,o,I,z _ _ ?_,?_,?_,?_⟩
 ·have:=gE hk 0 dc;simpa [kP] using this
 ·have:=gE hk 1 dc;rw[LJ];exact z _ _ (by simpa [kP] using this)
 ·have:=gE hk 2 dc;rw[LJ];exact z _ _ (by simpa [kP] using this)
 ·have:=gE hk 3 dc;rw[LJ];exact z _ _ (by simpa [kP] using this)
section
open Go.RowKit Go.Lib
def MatsNew (B:Nat) (W:World) (v:Value) (ms:List MV):Prop:=(∃A c,v=.slice A ms.length c/\ms.length<=c/\c<=maxLen/\∀(k:Nat) e,ms[k]?=some e->∃b o,A=some ⟨b,o,none⟩/\B<=b/\b<W.heap.size/\W.cell? ⟨b,o+k,none⟩=some e.2) /\
 ∀e∈ms,bQ W e.2 e.1/\∀g,e.2.ownBlock=some g->B<=g/\g<W.heap.size
theorem MatsNew.is {B:Nat} {W:World} {v:Value} {ms:List MV} (h:MatsNew B W v ms):qk W v (ms.map (·.1)):=by
 obtain⟨⟨A,c,rfl,G,J,F⟩,I⟩:=h;refine⟨A,c,by rw[Lm],by rw[Lm];exact G,J,fun k m hm=>?_⟩;rw[LI]at hm;obtain⟨e,he,rfl⟩:=Option.map_eq_some_iff.1 hm;obtain⟨b,o,D,-,-,z⟩:=F k e he;exact⟨b,o,D,e.2,(I e (Li he)).1,by rw[LL];exact z⟩
theorem MatsNew.stays {B:Nat} {W W':World} {v:Value} {ms:List MV} (h:MatsNew B W v ms) (z:KY W W'):MatsNew B W' v ms:=by
 obtain⟨⟨A,c,rfl,O,h2,J⟩,D⟩:=h;exact⟨⟨A,c,rfl,O,h2,fun k e he=>by obtain⟨b,o,I,e2,Z,G⟩:=J k e he;exact⟨b,o,I,e2,Ll Z z.size,aa z G⟩⟩,fun e he=>⟨(D e he).1.stays cE z,fun g F=>⟨((D e he).2 g F).1,Ll ((D e he).2 g F).2 z.size⟩⟩⟩
def MtsRet (w:World) (l:List Evt) (x:Pt) (e:Ending) (W:World):Prop:=KY w W /\
 ((cK x≠0/\e=.returned (.tuple #[.slice none 0 0,KW (cK x)]))\/(cK x=0/\bC l≠0/\e=.returned (.tuple #[.slice none 0 0,KW (bC l)])) \/
  (cK x=0/\bC l=0/\∃v ms,e=.returned (.tuple #[v,KW 0])/\MatsNew w.heap.size W v ms/\ms.map (·.1)=fT l x))
theorem lC {l:List Evt} (h:bC l=0):D3 l:=(gx h).1.asc
theorem oV {ms:List (List Bnd)} (h:ms.Pairwise (fun a b=>¬bsC b a<0)) (z:ms.Nodup):ms.Pairwise (fun a b=>bsC a b<0):=by
 rw[List.nodup_iff_pairwise_ne]at z;refine (h.and z).imp fun {a b} hab=>?_
 have D:=jc.anti a b;have F:bsC a b≠0:=fun e=>hab.2 (Fp.1 e)
 have:=hab.1;omega
theorem sI {l:List Evt} {x:Pt} {V:List Int} (F:GoodQ V l.length x) (hs:D3 l) {es es':List MV} (he:es.map (·.1)=(bN l x [] 0).map (mOf l)) (hp:es'.Perm es) (G:(es'.map (·.1)).Pairwise (fun a b=>¬bsC b a<0)):es'.map (·.1)=fT l x:=by
 have J:((bN l x [] 0).map (mOf l)).Nodup:=mX (lz l x [] 0) fun s I t O e=>BN hs (fun z D=>((ir F I).ok.2.2 z D).2) (fun z D=>((ir F O).ok.2.2 z D).2) e
 have h:(es'.map (·.1)).Perm ((bN l x [] 0).map (mOf l)):=he▸hp.map _;rw[<-Ad l F.okA];exact xj (oV G (h.nodup_iff.2 J)) fun k=>h.mem_iff
theorem xD (V:List Int) (l:List Evt) (x:Pt) (d:Nat) (v vc vl:Value) (w:World) (hT:Shp w) (hx:aW d w v x.args) (V':aF d w vc x.cond.args) (hl:bm w vl l) (hN:ptB x<=1048576) (hS:cK x=0->bC l=0->GoodQ V l.length x/\jY V l.length/\l.length<=99) :
  Calls prog 59 #[ptV x v vc,vl] w (MtsRet w l x):=by
 have n':=jD (fun (W:World) (hW:KY w W)=>gP d x v vc W (hT.stays hW) (hx.stays (aB d) hW) (V'.stays (ai d) hW) hN);have P1:=jD (fun (W:World) (hW:KY w W)=>gA l vl W (hl.stays aK hW));have HS:=jD hS;have H5:=jD hN;have HX:=jD hx;have O2:=jD V';have HL:=jD hl;obtain⟨Al,cl,rfl,l1,l2,P'⟩:=hl;obtain⟨A,c,rfl,-⟩:=hx;obtain⟨Ac,cc,rfl,-⟩:=V';have K4:=ax l1 l2;have X6:=jD P';obtain⟨nl,R0⟩:∃n,n=l.length:=⟨_,rfl⟩;obtain⟨na,H4⟩:∃n,n=x.args.length:=⟨_,rfl⟩;obtain⟨nx,B2⟩:∃n,n=x.cond.args.length:=⟨_,rfl⟩;have J':=jD R0;rw[<-R0]at P1 HL K4 ⊢;rw[<-H4]at n' HX ⊢;rw[<-B2]at n' O2 ⊢;obtain⟨pe,S0⟩:∃e,e=cK x:=⟨_,rfl⟩;obtain⟨se,Y'⟩:∃e,e=bC l:=⟨_,rfl⟩;have j':=jD S0;have e':=jD Y';rw[<-S0]at n';rw[<-Y']at P1;obtain⟨j0,W5,V5,Z4,Y6⟩:=LD Gh;obtain⟨i0,Y4,R6,U4,N6⟩:=LD vZ;clear hT P' l1 l2 R0 H4 B2 hS hN S0 Y';unfold ptV at n' ⊢;go_enter func59,ntmps59;go_wp2_with fail;refine aw fun w1 I=>?_
 obtain⟨bp,K0⟩:∃q,q=w.heap.size:=⟨_,rfl⟩;have Z0:KY w w1:=gb I;have Q3:Cells w1 bp 0 (aQ x (.slice A na c) (.slice Ac nx cc)):=by rw[K0];exact ci (jG I) (jG I) (jG I) (jG I) (jG I) (jG I) (jG I) (jG I) (jG I) (jG I) (jG I) (jG I) (jG I) (jG I)
 rw[<-K0];clear I;refine (n'.out _ Z0).mono ?_;rintro e w2 ⟨rfl,T'⟩;have D':=jD (ab Z0 T');have R2:=jD (dE Q3 T');clear Z0 T' Q3 K0
 by_cases A':pe=0
 case neg =>
  have U7:(pe != 0)=true:=jQ A';have T5:=jD A';clear A';go_wp2;exact Lc (v:=.tuple #[.slice none 0 0,KW pe]) (by simp[results,results59,go_sem]) rfl ⟨D'.out,.inl ⟨by rw[<-j'.out];exact T5.out,by rw[<-j'.out]⟩⟩
 subst A';go_wp2_with fail;refine (P1.out _ D'.out).mono ?_;rintro e w3 ⟨rfl,M1⟩;have E1:=jD (ab D'.out M1);have W1:=jD (dE R2.out M1);clear M1 R2 D'
 by_cases C':se=0
 case neg =>
  have R7:(se != 0)=true:=jQ C';have K5:=jD C';clear C';go_wp2;exact Lc (v:=.tuple #[.slice none 0 0,KW se]) (by simp[results,results59,go_sem]) rfl ⟨E1.out,.inr (.inl ⟨j'.out.symm,by rw[<-e'.out];exact K5.out,by rw[<-e'.out]⟩)⟩
 subst C';obtain⟨hG,Z2,V0⟩:=HS.out j'.out.symm e'.out.symm;have HG:=jD hG;have S':=wK hG [] 0;have h':Hid (∀(C:Nat) (W:World),KY w W->W.cell? ⟨C,0,none⟩=some (.slice Al nl cl)->W.cell? ⟨C,1,none⟩=some (.bool false)->Calls prog 117 #[.pointer (some ⟨C,0,none⟩),ptV x (.slice A na c) (.slice Ac nx cc),.slice none 0 0,KW 0] W (kp W (bN l x [] 0))) :=
  jD fun C W hW h1 h2=>Ia V l Z2 V0 (ptN x) (by have:=ld x;have:=H5.out;omega) x (Ld _) hG [] 0 ⟨List.Pairwise.nil,fun z hz=>by simp at hz⟩ (Lb _) d d C _ _ _ _ W h1 h2 (HL.out.stays aK hW) (HX.out.stays (aB d) hW) (O2.out.stays (ai d) hW) (Sl.nil _ _ _ _ _ (Lb _))
 have P3:Hid (∀s∈bN l x [] 0,SetV V 0 l.length s):=jD fun s hs=>ir hG hs
 obtain⟨L,hL⟩:=jF (bN l x [] 0);rw[<-hL]at S' h' P3;have K2:=jD hL;obtain⟨q0,q1,q2,q3,q4,q5,q6,q7,q8,q9,R5,Q5,Z5,S4⟩:=dv W1.out;have V4:=K8 w3 ⟨bp,_,none⟩ q0;have N7:Hid (nl<=99):=jD (by rw[J'.out];exact V0);clear hG Z2 V0 hL;unfold ptV at h';go_wp2_with fail;refine aw fun w4 e4=>?_
 obtain⟨C,hC⟩:∃q,q=w3.heap.size:=⟨_,rfl⟩;have P0:KY w3 w4:=gb e4;have z0:KX w4 C 0 (.slice Al nl cl):=by rw[e4,hC];show _=_;go_simp
 have z1:KX w4 C 1 (.bool false):=by rw[e4,hC];show _=_;go_simp
 rw[<-hC];have P8:Hid (w3.heap.size<=C):=jD om;clear e4 hC;refine (h'.out C _ (ab E1.out P0) z0 z1).mono ?_;rintro e w5 ⟨v5,rfl,X0,Q1⟩;have a':=jD (ab (ab E1.out P0) Q1);have S5:=aa Q1 z1;have O8:=K8 w5 ⟨C,_,none⟩ S5;have X3:=jD X0;obtain⟨A5,c5,rfl,O7⟩:=X0.form;obtain⟨n5,Y0⟩:∃n,n=L.length:=⟨_,rfl⟩;have Z1:=jD Y0;rw[<-Y0]at X3 O7 S' ⊢;clear X0 Y0 q0 q1 q2 q3 q4 q5 q6 q7 q8 q9 R5 Q5 Z5 S4 z0 z1 P0 Q1 h' V4 W1;go_wp2_with fail
 go_loopw [10,38] (fun av t wr=>∃(k:Nat) (ms:List MV),k<=n5/\t=KW k/\ms.length=k/\Hid (ms.map (·.1)=(L.take k).map (mOf l)/\MW w5.heap.size wr av ms/\KY w5 wr)) (fun _ t _=>n5-(intOf t).toNat)
 case atStart=>exact⟨0,[],Lb _,rfl,rfl,jD ⟨rfl,MW.nil _ _,La _ _⟩⟩
 case round =>
  obtain⟨k5,ms,Q8,rfl,N3,k'⟩:=hrel;have D:=k'.out.2.2;have K1:=jD N3;clear N3
  by_cases T7:k5<n5
  ·have Q4:(k5:Int)<(n5:Int):=by omega
   obtain⟨wk,Q2⟩:=jF wr;rw[<-Q2]at k' D ⊢;clear Q2;obtain⟨s,hs⟩:∃s,L[k5]?=some s:=⟨_,K9 (by have:=Z1.out;omega)⟩;have A1:=P3.out s (Li hs);have R3:=A1.n63;have Y5:=jD hs;obtain⟨sb,so,us,rfl,Z',P6⟩:=(SetsIn.stays X3.out D).at hs;have H3:=K8 wk ⟨sb,_,none⟩ Z';obtain⟨gs,os,ks,rfl,X1,Y2,-,-,M'⟩:=P6;have U1:=jD M';have O5:Hid (∀z∈s,z.2<nl):=jD fun z hz=>by rw[J'.out];exact (A1.ok.2.2 z hz).2
   have Z3:Hid (s.length<=nl):=jD (by rw[J'.out];exact R3);have E2:=ax X1 Y2;obtain⟨d',y'⟩:∃n,n=s.length:=⟨_,rfl⟩;rw[<-y']at Z3 E2 Z';have V2:=jD y';have Z:=jD D;have r':=jD k'.out;have L':0<d'->gs<wk.heap.size:=fun h=>by
    obtain⟨z,hz⟩:∃z,s[0]?=some z:=⟨_,K9 om⟩;exact K8 wk ⟨gs,_,none⟩ (U1.out 0 z hz).1
   have X5:=jD L';clear hs A1 R3 M' X1 Y2 y' D k' L';go_wp2_with fail;refine aP fun wM eM=>?_
   obtain⟨M,hM⟩:=jF wk.heap.size;have V3:KY wk wM:=gb eM;have W2:wM.heap[M]?=some (.cells [Value.slice none 0 0].toArray 55 (0,0)):=by rw[eM,hM];exact Mp wk _
   have O4:wM.heap.size=M+1:=by rw[eM,hM];simp
   rw[<-hM];have X4:=jD V3;have U3:=jD W2;have B5:=jD O4;have t':=jD hM;clear eM V3 W2 O4 hM Z' H3
   go_loopw [44] (fun t wr=>∃(k:Nat) (u:Value),k<=d'/\t=KW k/\Hid (wr.cell? ⟨M,0,none⟩=some u/\wr.frozen? ⟨M,0,none⟩=false/\wr.ownsRow (M+1) 80 4 u k (fm ((s.take k).map (bOf l)))/\KY wk wr/\M+1<=wr.heap.size)) (fun t _=>d'-(intOf t).toNat)
   case atStart=>exact⟨0,.slice none 0 0,Lb _,rfl,jD ⟨by rw[af U3.out];rfl,aq U3.out 0,⟨by simp[fm],.inl ⟨rfl,rfl⟩⟩,X4.out,Nat.le_of_eq B5.out.symm⟩⟩
   case round =>
    obtain⟨k,u,hk,rfl,hI⟩:=hrel;have G:=hI.out.2.2.2.1;have A2:=hI.out.2.2.2.2
    by_cases R8:k<d'
    ·have A6:(k:Int)<(d':Int):=by omega
     obtain⟨x,hx⟩:∃x,s[k]?=some x:=⟨_,K9 (by have:=V2.out;omega)⟩;have U':=O5.out x (Li hx);obtain⟨y0,y1⟩:=U1.out k x hx;have H':(s.take (k+1)).map (bOf l)=(s.take k).map (bOf l)++[bOf l x]:=yd hx;obtain⟨pv,j⟩:=x;simp only at y0 y1 U';obtain⟨y,hy⟩:∃y,l[j]?=some y:=⟨_,K9 (by rw[<-J'.out];exact U')⟩;have Y3:bOf l (pv,j)=⟨pv,y.tm,y.src,y.sq⟩:=by unfold bOf;rw[hy];rfl
     rw[Y3]at H';obtain⟨be,oe,rfl,ve,A7,q0,q1,q2,q3,q4⟩:=X6.out j y hy;obtain⟨Ay,cy,rfl,-⟩:=A7;have A3:be<w.heap.size:=K8 w ⟨be,_,none⟩ q0;have Q0:=X5.out om;have J:KY w wr:=(a'.out.trans (Z.out.mono a'.out.size)).trans (G.mono (by have:=a'.out.size;have:=Z.out.size;omega));replace y0:=aa G y0;replace y1:=aa G y1;replace q0:=aa J q0;replace q1:=aa J q1;replace q2:=aa J q2;replace q3:=aa J q3;replace q4:=aa J q4;obtain⟨ny,U2⟩:∃n,n=y.vals.length:=⟨_,rfl⟩;rw[<-U2]at q4;obtain⟨A4,c4,O1⟩:=ay hI.out.2.2.1;subst O1;have T3:gs<wr.heap.size:=by have:=G.size;omega
     go_wp2_with fail;refine aP fun wj ej=>?_
     obtain⟨K,hK⟩:=jF wr.heap.size;have F:KY wr wj:=gb ej;have H2:KX wj K 0 (KW pv):=by rw[ej,hK];show _=_;go_simp
     have S3:KX wj K 1 (KW (j:Int)):=by rw[ej,hK];show _=_;go_simp
     have o0:=aa F hI.out.1;have U5:wj.frozen? ⟨M,0,none⟩=false:=(Nw (a:=⟨M,0,none⟩) (F.block M om)).trans hI.out.2.1;replace q0:=aa F q0;replace q1:=aa F q1;replace q2:=aa F q2;replace q3:=aa F q3;replace q4:=aa F q4;have W6:=F.size;rw[<-hK];clear y0 y1;have y0:=H2;have y1:=S3;clear H2 S3;have N4:M<wj.heap.size:=by omega
     have N8:=K8 wj ⟨K,_,none⟩ y0;have P7:be<wj.heap.size:=K8 wj ⟨be,_,none⟩ q0;have Y7:(j:Int)<(nl:Int):=by omega
     have Z7:k<=99:=by have:=Z3.out;have:=N7.out;omega
     obtain⟨pre,N'⟩:=jF ((s.take k).map (bOf l));rw[<-N']at hI H';have H7:=jD H';have F':Hid (wj.ownsRow (M+1) 80 4 (.slice A4 k c4) k (fm pre)):=jD (aj hI.out.2.2.1 F);have A0:Hid ((Value.slice A4 k c4).ownBlock≠some M):=jD fun e=>by have:=(ah F'.out e).1;omega
     have V1:Hid ((Value.slice A4 k c4).ownBlock≠some K):=jD fun e=>by have:=(ah hI.out.2.2.1 e).2;omega
     have p':Hid ((Value.slice A4 k c4).ownBlock≠some be):=jD fun e=>by have:=(ah F'.out e).1;have:=a'.out.size;have:=Z.out.size;have:=t'.out;omega
     have N5:=jD (G.trans (F.mono G.size));have T2:Hid (M+1<=wj.heap.size):=jD om;clear hx U' H' Y3 hy U2 N' hI G ej hK F J A3 Q0 T3 W6 A2;go_wp2_with fail;have B':∀W,wj.grownBy W (Value.slice A4 k c4).ownBlock->(fun W:World=>wj.grownBy W (Value.slice A4 k c4).ownBlock/\KX W M 0 (.slice A4 k c4)/\KX W K 0 (KW pv)/\KX W K 1 (KW (j:Int))/\KX W be (oe+j*5) (KW y.src)/\KX W be (oe+j*5+1) (KW y.sq)/\KX W be (oe+j*5+2) (KW y.ty)/\KX W be (oe+j*5+3) (KW y.tm)/\KX W be (oe+j*5+4) ((.slice Ay ny cy))) W:=fun W hg=>⟨hg,eY hg (A0.out) o0,eY hg (V1.out) y0,eY hg (V1.out) y1,eY hg (p'.out) q0,eY hg (p'.out) q1,eY hg (p'.out) q2,eY hg (p'.out) q3,eY hg (p'.out) q4⟩
     refine wp_region_noPanic ?_;refine di ((fun W:World=>wj.grownBy W (Value.slice A4 k c4).ownBlock/\W.cell? ⟨M,0,none⟩=some (.slice A4 k c4)/\W.cell? ⟨K,0,none⟩=some (KW pv)/\W.cell? ⟨K,1,none⟩=some (KW (j:Int))/\W.cell? ⟨be,oe+j*5,none⟩=some (KW y.src)/\W.cell? ⟨be,oe+j*5+1,none⟩=some (KW y.sq)/\W.cell? ⟨be,oe+j*5+2,none⟩=some (KW y.ty)/\W.cell? ⟨be,oe+j*5+3,none⟩=some (KW y.tm)/\W.cell? ⟨be,oe+j*5+4,none⟩=some ((.slice Ay ny cy)))) 13 kr (B' _ (bx (La _ _).drew _)) (fun O=>?_);refine tkP [0,1,2,3,4,5,6,7,8] ?_;refine nxP 9 (fun K hK=>?_)
     focus (go_simp;refine (nR _ _ _ _ _ _ _ _).mono ?_;rintro e w7 ⟨rfl,q'⟩;have c':KY wj w7:=ab (show KY wj _ by exact jB) q'.below;have Q7:=c'.size)
     refine hK.out _ _ (B' _ (bx c' _)) (fun O=>?_);clear hK K;refine tkP [10] ?_;refine nxP 11 (fun K hK=>?_)
     go_simp
     refine hK.out _ _ (B' _ (bx (ab c' (ag _ _)) _)) (fun O=>?_);clear hK K;refine nxP 12 (fun K hK=>?_)
     focus ((try (change Oper.wp _ _ _ _ _ _));refine ed _ (.tmp 49) (.tmp 59) 53 rfl (M+1) 80 j0 _ 4 32 underlying53 W5 V5 Z4 Y6 rfl dc (.slice A4 k c4) k (fm pre) jR (aj (aj F'.out c') (ag _ _)) (some ⟨w7.heap.size,0,none⟩) 1 1 [KW pv,KW y.tm,KW y.src,KW y.sq] jR (bE _ [KW pv,KW y.tm,KW y.src,KW y.sq] _ 1 4 _ jS rfl (by simp[Value.oneCell'])) (by unfold maxLen;omega) om (by simp;omega) ?_;intro v8 w8 f' Y1 R1;obtain⟨A8,c8,U6⟩:=ay f';subst U6;have b':wj.grownBy w8 (Value.slice A4 k c4).ownBlock:=gI (bx (ab c' (ag _ _)) _) Y1;have o8:w8.cell? ⟨M,0,none⟩=some (.slice A4 k c4):=eY b' A0.out o0;have f8:w8.frozen? ⟨M,0,none⟩=false:=(Nw (a:=⟨M,0,none⟩) (b'.block M N4 (fun e=>A0.out e.symm))).trans U5)
     refine hK.out _ _ (B' _ b') (fun O=>?_);clear hK K
     focus (refine oJ (fuel:=1) (L:=(true::true::true::true::true::true::true::true::true::true::true::true::true::true::false::[]).toArray) (v:=?_) rfl rfl kr kr kr kr kr ?_ ?_;rotate_left 1;(focus (intro wS;go_simp<;>with_reducible rfl));simp only[Lj,Lk])
     refine ol (i:=14) (fuel:=0) (L:=(true::true::true::true::true::true::true::true::true::true::true::true::true::true::true::[]).toArray) rfl kr kr kr kr (fun K hK=>?_)
     go_simp
     refine hK.out _ _ (NoPanic.normal ?_);clear hK K;rotate_left 1;have z':w8.ownsRow (M+1) 80 4 (.slice A8 (k+1) c8) (k+1) (fm ((s.take (k+1)).map (bOf l))):=by
      rw[H7.out];unfold fm;rw[MP];exact f'
     have O':=jD z';have T6:=jD (N5.out.trans (am b' (by have:=T2.out;have:=t'.out;omega) (fun g hg=>by have:=(ah F'.out hg).1;have:=t'.out;omega)));have O6:M+1<=w8.heap.size:=by have:=b'.size;have:=T2.out;omega
     clear z' f' Y1 R1 O;go_wp2_with fail
     go_roundw
     case rel =>
      refine⟨k+1,.slice A8 (k+1) c8,by omega,by go_num,jD ⟨?_,?_,aT O'.out (fun g hg=>LB w8 ⟨M,0,none⟩ _ g (by have:=(ah O'.out hg).1;simp only;omega)),aA T6.out (by have:=t'.out;omega) _,jQ O6⟩⟩
      ·simp[go_sem,o8]
      ·simp[go_sem,f8]
     case measure=>simp[intOf];omega
    ·have A6:¬(k:Int)<(d':Int):=by omega
     have E':k=d':=by omega
     have i':=hI.out;rw[E',V2.out,LX]at i';have HI:=jD i';obtain⟨A4,c4,O1⟩:=ay i'.2.2.1;subst O1;have o0:=i'.1;have S2:Hid (bQ wr (.slice A4 s.length c4) (mOf l s)):=jD (Fd (l:=(mOf l s)) (by unfold mOf;rw[Lm];exact i'.2.2.1));have N0:=jD G;have V7:=G.size;have R':=jD (fun (g:Nat) (e:(Value.slice A4 s.length c4).ownBlock=some g)=>ah HI.out.2.2.1 e);have S6:Hid ((L.take (k5+1)).map (mOf l)=(L.take k5).map (mOf l)++[mOf l s]):=jD (yd Y5.out);have S7:ms.length<=4096:=by have:=K1.out;omega
     obtain⟨nq,K3⟩:∃n,n=s.length:=⟨_,rfl⟩;rw[<-K3]at o0 S2 R';have N4:M<wr.heap.size:=by omega
     clear hI i' E' G K3;go_wp2_with (at_builtin;refine aR _ rfl (.tmp 63) (.tmp 65) 37 rfl w5.heap.size 55 i0 _ 1 24 underlying37 Y4 R6 U4 N6 rfl dc u10 ms.length (ms.map (·.2)) rfl (aj (MW.grow r'.out.2.1 N0.out).row (ag _ _)) (some ⟨wr.heap.size,0,none⟩) 1 1 [.slice A4 nq c4] rfl (bE _ [.slice A4 nq c4] _ 1 1 _ jS rfl (by simp[Value.oneCell'])) (by unfold maxLen;omega) om (by have:=Z.out.size;simp;omega) ?_;intro v7 w7 m' q' x');have O3:=MW.app (MW.grow r'.out.2.1 N0.out) S2.out (fun g T0=>by
      have h1:=R'.out g T0;have h2:=t'.out;have h3:=Z.out.size;exact⟨by omega,h1.2,fun e=>by have:=(ah r'.out.2.1.row e.symm).2;omega⟩) m' q' x'
     have S1:KY w5 w7:=((Z.out.trans (N0.out.mono Z.out.size)).trans ((ag wr _).mono (by have:=Z.out.size;omega))).trans (am q' (by have:=Z.out.size;simp;omega) (fun g h=>(ah r'.out.2.1.row h).1));have T4:=jD O3;have Q6:=jD S1;clear O3 m' q' x' S1;go_wp2_with fail
     go_roundw
     case rel =>
      refine⟨k5+1,_,by omega,by go_num,?_,jD ⟨?_,T4.out,Q6.out⟩⟩
      ·rw[Le,K1.out];rfl
      ·rw[LH,r'.out.1,S6.out];rfl
     case measure=>simp[intOf];omega
  ·have Q4:¬(k5:Int)<(n5:Int):=by omega
   have E':k5=n5:=by omega
   subst E';have u':=k'.out;rw[Z1.out,LX]at u';have P4:=jD u'.1;have N1:=jD u'.2.1;have X7:=jD D;have s':=u'.2.1.row;have U0:Hid (KY w wr):=jD (a'.out.trans (D.mono a'.out.size));clear k' u' D;rcases AG s' with ⟨hv,h0⟩|⟨g,cap,spare,hv,P2,hh,R4,W3,hl2,hx2⟩
   ·have N2:ms=[]:=L3 h0;subst hv;have V6:=jD N2;clear h0 N2 s';go_wp2_with fail;refine (mF _).mono ?_;rintro e w6 ⟨rfl,X2⟩;have O0:=jD (ab U0.out X2);clear X2;go_wp2_with fail;refine Lc (v:=.tuple #[.slice none 0 0,KW 0]) (by simp[results,results59,go_sem]) rfl ⟨O0.out,.inr (.inr ⟨j'.out.symm,e'.out.symm,_,[],rfl,⟨⟨none,0,rfl,Ld _,Lb _,fun k e he=>by simp at he⟩,fun e he=>by simp at he⟩,?_⟩)⟩;exact sI HG.out (lC e'.out.symm) (es:=[]) (es':=[]) (by have h:=P4.out;rw[V6.out]at h;rw[<-K2.out];exact h) (List.Perm.refl _) List.Pairwise.nil
   ·subst hv;have l':∀e∈ms,MOk wr g e:=fun e he=>⟨(N1.out.bnds e he).1,fun I=>((N1.out.bnds e he).2 g I).2.2 rfl⟩
    have Z6:=jD (mB ms g cap spare wr hh (by have:=K1.out;omega) l');have P5:=jD l';have W7:=aD hh;have G':=jD (And.intro P2 (And.intro R4 W3));clear s' hh P2 hl2 hx2 l' R4 W3;go_wp2_with fail;refine Z6.out.mono ?_;rintro e w6 ⟨rfl,es',I',hp,X',T1,hls,g'⟩;have H0:es'.length=ms.length:=hp.length_eq;have O0:Hid (KY w w6):=jD (U0.out.trans (am g' U0.out.size (fun k e=>by injection e with e;have:=G'.out.1;have:=a'.out.size;omega)));have W4:Hid (MatsNew w.heap.size w6 (.slice (some ⟨g,0,none⟩) ms.length cap) es'):=jD (by
     have S8:=g'.size;refine⟨⟨_,cap,by rw[H0],by rw[H0];exact G'.out.2.1,G'.out.2.2,fun k e he=>⟨g,0,rfl,by have:=G'.out.1;have:=a'.out.size;omega,by omega,?_⟩⟩,fun e he=>?_⟩
     ·rw[Lu,af T1];exact Bg he I'
     ·have h1:=P5.out e (hp.mem_iff.1 he);have h2:=(N1.out.bnds e (hp.mem_iff.1 he)).2;refine⟨qZ h1.1 fun b hb hv=>g'.block b hb (fun I=>h1.2 (by rw[hv,I])),fun g1 T0=>?_⟩;have:=h2 g1 T0;have:=a'.out.size;exact⟨by omega,by omega⟩)
    have H6:Hid (es'.map (·.1)=fT l x):=jD (sI HG.out (lC e'.out.symm) (by rw[<-K2.out];exact P4.out) hp (by first|exact X'|exact X'.imp fun {a b} h=>by omega));clear hp X' T1 hls g' H0;go_wp2;exact Lc (v:=.tuple #[.slice (some ⟨g,0,none⟩) ms.length cap,KW 0]) (by simp[results,results59,go_sem]) rfl ⟨O0.out,.inr (.inr ⟨j'.out.symm,e'.out.symm,_,es',rfl,W4.out,H6.out⟩)⟩
end
end Go.Proofs.YtokconodddedhaaGreatDoor
