/- Part. -/
import Derived.Test.YtokconodddedhaaGreatDoorQ36
import Derived.Test.YtokconodddedhaaGreatDoorQ35
set_option maxRecDepth 100000
set_option maxHeartbeats 16000000
set_option linter.unusedVariables false
set_option linter.unusedSimpArgs false
namespace Go.Proofs.YtokconodddedhaaGreatDoor
open Go.Proofs.Tryz Go.RowKit
theorem iG (ts:List Sch) (vs:List Nv):∀(A B:List Pt) (k:Nat),cB ts vs k (A++B)=if (cB ts vs k A).2≠0 then cB ts vs k A else cB ts vs (k+A.length) B
 | [],B,k=>by rw[MJ,cB,K6 jS];rfl
 | t::A,B,k=>by
  rw[Mr,cB,cB]
  by_cases h:il ts vs t≠0
  ·rw[K7 h,K7 h,K7 h]
  ·rw[K6 h,K6 h,iG ts vs A B (k+1),Lt,LJ,Nb 1]
theorem jb {l:List Pt} {k:Nat} {a:Pt} (h:l[k]?=some a):bG (l.drop k)=aO a++bG (l.drop (k+1)):=by
 obtain⟨z,rfl⟩:=List.getElem?_eq_some_iff.1 h;rw[Lr z,bG]
def GG (vs:List Nv) (y:Pt):Prop:=(y.op=0\/y.op=5->0<=y.vr/\y.vr<(vs.length:Int))/\aM y.cond<=1048576
def JV (w0:World) (h k:Nat) (vt vv:Value) (r:Int × Int) (n:Nat) (W:World) (e:Ending) (W':World):Prop :=
 (r.2=0/\e=.returned (.tuple #[KW 0,KW 0])/\(∃t,W'.heap[h]?=some (.cells [vt,vv,.int .i64 ((k+n:Nat):Int)].toArray t (0,0)))/\KeepX [h] W W') \/
 (r.2≠0/\e=.returned (.tuple #[KW r.1,KW r.2])/\KY w0 W')
structure Ik (w0:World) (WK k:Nat) (x:Pt) (ts:List Sch) (vs:List Nv) (R:Int × Int) (j:Nat) (vt vv:Value) (w4 wr:World):Prop where
 box:∃t,wr.heap[WK]?=some (.cells [vt,vv,.int .i64 ((k+1+aU (x.args.take j):Nat):Int)].toArray t (0,0))
 keep:KeepX [WK] w4 wr
 bel:KY w0 wr
 scan:cB ts vs (k+1+aU (x.args.take j)) (bG (x.args.drop j))=R
def Ef (w0:World) (h:Nat) (ts:List Sch) (vs:List Nv) (vt vv:Value) (d:Nat):Prop :=
 ∀(x:Pt) (z k:Nat) (v vc:Value) (W:World),KY w0 W->(∃t,W.heap[h]?=some (.cells [vt,vv,.int .i64 (k:Int)].toArray t (0,0)))->aW d w0 v x.args->aF z w0 vc x.cond.args->(∀y∈aO x,GG vs y)->k+ptN x<=64 ->
  Calls prog 230 #[.pointer (some ⟨h,0,none⟩),ptV x v vc] W (JV w0 h k vt vv (cB ts vs k (aO x)) (ptN x) W)
theorem D7 {ts:List Sch} {vs:List Nv} {x:Pt} (h:x.op≠0) (z:x.op≠5) (D:x.op≠7):il ts vs x=0:=by
 unfold il iw;rw[K6 om,K6 (by simp;omega)]
theorem FT {ts:List Sch} {vs:List Nv} {x:Pt} (h:x.op=7):il ts vs x=qU ts vs x.cond:=by
 unfold il iw;rw[K6 om,K7 (by simp;omega)]
theorem Fb {ts:List Sch} {vs:List Nv} {x:Pt} {j:Nat} {v:Nv} (h:x.op=0\/x.op=5) (z:x.vr=(j:Int)) (D:vs[j]?=some v) (F:x.ty≠v.ty):il ts vs x=9:=by
 unfold il;rw[K7 ⟨h,by rw[z,MQ,kz D];exact F⟩]
theorem Gi {ts:List Sch} {vs:List Nv} {x:Pt} {j:Nat} {v:Nv} (h:x.op=0\/x.op=5) (z:x.vr=(j:Int)) (D:vs[j]?=some v) (G:x.ty=v.ty):il ts vs x=qU ts vs x.cond:=by
 unfold il iw;rw[K6 (by rw[z,MQ,kz D];exact fun F=>F.2 G),K7 (by simp;omega)]
theorem tH (w0:World) (WK:Nat) (ts:List Sch) (vs:List Nv) (vt vv:Value) (K3:w0.heap.size<=WK) (hT:TypIs w0 ts vs vt vv) (hf:∀s∈ts,fM s) (d:Nat) (U1:∀d',d=d'+1->Ef w0 WK ts vs vt vv d'):Ef w0 WK ts vs vt vv d:=by
 intro x ec k v vc W J V1 hx A2 E2 Z2;have T':=jD U1;have Q1:=jD E2;have S':=jD K3;have N':=jD J;have S0:=E2 x (by rw[da];exact Lg ..);obtain⟨R,hR⟩:=jE (cB ts vs k (aO x));have B2:=hR;rw[da,cB]at B2;rw[hR];have N1:=jD (fun (W9:World) (h9:KY w0 W9)=>Ei ec ts vs x.cond vt vv vc W9 (hT.stays h9) (A2.stays (ai ec) h9) hf S0.2);obtain⟨A,c,rfl,h1,h2,V2⟩:=id hx;obtain⟨Ac,cc,rfl,-⟩:=id A2;obtain⟨At,ct,rfl,-⟩:=id hT.types;obtain⟨R',f',rfl,v1,v2,H3⟩:=id hT.vars;have R2:=ax h1 h2;have N2:=ax v1 v2;have P1:=jD V2;have N3:=jD H3;obtain⟨n,hn⟩:=jF x.args.length;obtain⟨nc,O2⟩:∃n,n=x.cond.args.length:=⟨_,rfl⟩;obtain⟨nt,R1⟩:∃n,n=ts.length:=⟨_,rfl⟩;obtain⟨nv,A1⟩:∃n,n=vs.length:=⟨_,rfl⟩;obtain⟨L',K1⟩:∃q,q=qU ts vs x.cond:=⟨_,rfl⟩;have HN:=jD hn;have P3:=jD A1;have Y2:=jD K1;rw[<-hn]at R2;rw[<-A1]at N2;rw[<-O2,<-R1,<-A1,<-K1]at N1;rw[<-R1,<-A1]at V1 T';rw[<-hn,<-O2,<-R1,<-A1];have B':=jD B2;have U2:=dm x;have U':=jD (And.intro U2 Z2);obtain⟨tw,hq⟩:=V1;have X2:=S0.1;have X0:=jD X2;have z0:=af hq 0;have z1:=af hq 1;have z2:=af hq 2;simp only[LE,LC]at z0 z1 z2;have g2:=aq hq 2;have X1:=aD hq;have HQ:=jD hq;have W2:IntKind.i64.wrap ((k:Int)+1)=(k:Int)+1:=IntWalk.i64_in _ om;have Q2:WK≠W.heap.size:=by omega
 have H2:W.heap.size≠WK:=by omega
 clear hT hf J hq hx A2 E2 hR B2 S0 h1 h2 V2 hn O2 R1 A1 K1 U1 U2 K3 v1 v2 H3 X2;unfold ptV exV at *;go_enter func230,ntmps230
 go_upto_region 3 with fail
 refine aP fun w1 e1=>?_
 obtain⟨P,hP⟩:∃q,q=W.heap.size:=⟨_,rfl⟩;have P2:Below (W.setCell ⟨WK,2,none⟩ (.int .i64 ((k:Int)+1))).heap.size (W.setCell ⟨WK,2,none⟩ (.int .i64 ((k:Int)+1))) w1:=by rw[e1];exact ag _ _
 have M1:Hid (KeepX [WK] W w1):=jD ((eZ _ jS _).trans (bw P2));have P':Hid (KY w0 w1):=jD (N'.out.trans (M1.out.below N'.out.size (fun b h=>by rw[Lz]at h;rw[h];exact S'.out)));have p0:KX w1 P 0 (KW x.op):=by rw[e1,hP];show _=_;go_simp
 have p1:KX w1 P 1 (.slice A n c):=by rw[e1,hP];show _=_;go_simp
 have p2:KX w1 P 2 (KW x.ty):=by rw[e1,hP];show _=_;go_simp
 have p3:KX w1 P 3 (KW x.vr):=by rw[e1,hP];show _=_;go_simp
 have p4:KX w1 P 4 (KW x.sc):=by rw[e1,hP];show _=_;go_simp
 have p5:KX w1 P 5 (KW x.sp):=by rw[e1,hP];show _=_;go_simp
 have p6:KX w1 P 6 (KW x.cond.op):=by rw[e1,hP];show _=_;go_simp
 have p7:KX w1 P 7 (.slice Ac nc cc):=by rw[e1,hP];show _=_;go_simp
 have p8:KX w1 P 8 (KW x.cond.vr):=by rw[e1,hP];show _=_;go_simp
 have p9:KX w1 P 9 (KW x.cond.fl):=by rw[e1,hP];show _=_;go_simp
 have M':KX w1 P 10 (KW x.cond.kd):=by rw[e1,hP];show _=_;go_simp
 have J':KX w1 P 11 (KW x.cond.val.kind):=by rw[e1,hP];show _=_;go_simp
 have F':KX w1 P 12 (KW x.cond.val.num):=by rw[e1,hP];show _=_;go_simp
 have G':KX w1 P 13 (.string x.cond.val.text):=by rw[e1,hP];show _=_;go_simp
 have K0:=ao P2 (fx HQ.out 2 (KW ((k:Int)+1)));simp only[Lj,Lk]at K0;have k0:=af K0 0;have k1:=af K0 1;have k2:=af K0 2;simp only[LE,LC]at k0 k1 k2;have O1:=jD K0;have V':=jD (And.intro p0 p1);have U0:=jD (fun (W9:World) (h9:KY w1 W9)=>N1.out W9 (P'.out.trans (h9.mono P'.out.size)));rw[<-hP];have Y0:=K8 w1 ⟨P,_,none⟩ p0;have R3:=aD K0;clear e1 hP P2 K0 z0 z1 z2 g2 X1 W2 Q2 H2 N1
 by_cases g':x.op=0\/x.op=5
 ·obtain⟨jv,R0⟩:∃j:Nat,x.vr=(j:Int):=⟨x.vr.toNat,by have:=(X0.out g').1;omega⟩;have Z1:jv<vs.length:=by have:=(X0.out g').2;omega
  have S3:jv<nv:=by have:=P3.out;omega
  obtain⟨v,hv⟩:∃v,vs[jv]?=some v:=⟨_,K9 Z1⟩;obtain⟨bv,ov,rfl,d0,d1⟩:=N3.out jv v hv;replace d1:=aa P'.out d1;have Q3:=K8 w1 ⟨bv,_,none⟩ d1;rw[R0]at p3
  by_cases Z0:x.ty=v.ty
  ·have T2:(x.ty != v.ty)=false:=jQ Z0;have H0:Hid (il ts vs x=L'):=jD (by rw[Gi g' R0 hv Z0];exact Y2.out.symm);have O':=B';clear B' hv Z1 d0 Z0 X0;rcases g' with g'|g'
   ·have S1:(x.op==0)=true:=jQ g';clear g' R0;go_wp2_with fail;refine rgn (fun I:World=>KY w1 I/\KX I P 2 (KW x.ty)/\KX I P 3 (KW (jv:Int))/\KX I WK 1 (.slice (some ⟨bv,ov,none⟩) nv f')/\KX I bv (ov+jv*2+1) (KW v.ty)) (Below w1.heap.size w1) (fun I J=>⟨J,aa J p2,aa J p3,aa J k1,aa J d1⟩) ((La _ _).drew) (fun A' G=>?_);refine tkH [0,1,2,3,4,5,6,7,8,9,10,11] ?_;refine wpAnyH_done kr (NoPanic.normal ?_) _;rotate_left 1;go_wp2_with fail;refine aP fun w2 e2=>?_
    have E1:Hid (KY w1 w2):=jD (by rw[e2];exact (La _ _).drew);clear G A' e2;have F:Hid (KY w1 w2):=jD (E1.out);replace p6:=aa F.out p6;replace p7:=aa F.out p7;replace p8:=aa F.out p8;replace p9:=aa F.out p9;replace M':=aa F.out M';replace J':=aa F.out J';replace F':=aa F.out F';replace G':=aa F.out G';replace k0:=aa F.out k0;replace k1:=aa F.out k1;have Y0:=K8 w2 ⟨P,_,none⟩ p6;have X1:=K8 w2 ⟨WK,_,none⟩ k0;refine rgn (fun I:World=>KY w2 I/\KX I P 6 (KW x.cond.op)/\KX I P 7 (.slice Ac nc cc)/\KX I P 8 (KW x.cond.vr)/\KX I P 9 (KW x.cond.fl)/\KX I P 10 (KW x.cond.kd)/\KX I P 11 (KW x.cond.val.kind)/\KX I P 12 (KW x.cond.val.num)/\KX I P 13 (.string x.cond.val.text)/\KX I WK 0 (.slice At nt ct)/\KX I WK 1 (.slice (some ⟨bv,ov,none⟩) nv f')) (Below w2.heap.size w2) (fun I J=>⟨J,aa J p6,aa J p7,aa J p8,aa J p9,aa J M',aa J J',aa J F',aa J G',aa J k0,aa J k1⟩) ((La _ _).drew) (fun A' G=>?_);refine tkH [0,1,2,3,4,5,6,7,8,9] ?_;refine nxH 10 (fun K hK=>?_)
    focus (go_simp;refine (U0.out _ (ab F.out G.1)).mono ?_;rintro e w3 ⟨rfl,X'⟩;have h':KY w2 w3:=ab G.1 X')
    refine hK.out _ _ (A' _ h') (fun G=>?_);clear hK K;refine tkH [11] ?_;refine wpAnyH_done kr (NoPanic.normal ?_) _;rotate_left 1;have D:=jD (ab F.out h');have Y':Hid (KY w0 w3):=jD (P'.out.trans (D.out.mono P'.out.size));clear G A' X' h' p6 p7 p8 p9 M' J' F' G' k0 k1 k2 U0
    by_cases hc:L'=0
    case neg =>
     have S2:(L' != 0)=true:=jQ hc;have C':=O'.out;rw[H0.out,K7 hc]at C';subst C';have HC:=jD hc;clear hc;go_wp2;exact Lc (v:=.tuple #[KW k,KW L']) (by simp[results,results230,go_sem]) rfl (.inr ⟨HC.out,rfl,Y'.out⟩)
    subst hc;have HF:Hid (cB ts vs (k+1) (bG x.args)=R):=jD (by have h:=O'.out;rw[H0.out,K6 jS]at h;exact h);clear O'
    go_upto_region 12 with fail
    refine aP fun w4 e4=>?_
    have H':Hid (KeepX [WK] W w4):=jD (by rw[e4];exact M1.out.trans (bw ((by first|exact D.out|exact D.out.drew))));have y':=ao ((by first|exact D.out|exact D.out.drew)) O1.out;rw[<-e4]at y';have N0:=jD y';have p0:=aa ((by first|exact D.out|exact D.out.drew)) V'.out.1;have p1:=aa ((by first|exact D.out|exact D.out.drew)) V'.out.2;rw[<-e4]at p0 p1;have Y0:=K8 w4 ⟨P,_,none⟩ p0;clear e4 y';go_wp2_with fail
    go_loopw [61] (fun i wr=>∃j:Nat,j<=n/\i=KW j/\Hid (Ik w0 WK k x ts vs R j (.slice At nt ct) (.slice (some ⟨bv,ov,none⟩) nv f') w4 wr)) (fun i _=>n-(intOf i).toNat)
    case atStart=>exact⟨0,Lb _,rfl,jD ⟨⟨_,by simpa [aU] using N0.out⟩,KeepX.refl _ _,N'.out.trans (H'.out.below (N'.out.size) (fun b h=>by rw[Lz]at h;rw[h];exact S'.out)),by simpa [aU] using HF.out⟩⟩
    case round =>
     obtain⟨j,hj,rfl,hI⟩:=hrel;have z:=hI.out.bel
     by_cases W1:j<n
     ·have T0:(j:Int)<(n:Int):=by omega
      have t':j<x.args.length:=by have:=HN.out;omega
      obtain⟨b,o,rfl,q'⟩:=P1.out j x.args[j] (K9 t');have hg:=jD (K9 t');obtain⟨a,ha⟩:=jF (x.args[j]);rw[<-ha]at hg q';obtain⟨d',e',v',Z',E',O0,l',Z,q0,q1,q2,q3,q4,q5,q6,q7,q8,q9,s',r',p',n'⟩:=cW q';replace q0:=aa z q0;replace q1:=aa z q1;replace q2:=aa z q2;replace q3:=aa z q3;replace q4:=aa z q4;replace q5:=aa z q5;replace q6:=aa z q6;replace q7:=aa z q7;replace q8:=aa z q8;replace q9:=aa z q9;replace s':=aa z s';replace r':=aa z r';replace p':=aa z p';replace n':=aa z n';have x':=jD (fI hg.out);have hle:k+1+aU (x.args.take j)+ptN a<=64:=by have h1:=dJ x.args (j+1);have:=x'.out;have:=U'.out;omega
      have j':=fun (W9:World) (P0:KY w0 W9) (h9:∃t,W9.heap[WK]?=some (.cells [.slice At nt ct,(.slice (some ⟨bv,ov,none⟩) nv f'),.int .i64 ((k+1+aU (x.args.take j):Nat):Int)].toArray t (0,0)))=>T'.out d' E' a e' (k+1+aU (x.args.take j)) v' Z' W9 P0 h9 l' Z (fun y hy=>Q1.out y (kD hg.out y hy)) hle
      have hD:=hI.out.scan;rw[jb hg.out,iG,dh]at hD;have HD:=jD hD;obtain⟨Av,cv,rfl,-⟩:=id l';obtain⟨Ae,ce,rfl,-⟩:=id Z;have K2:=K8 wr ⟨b,_,none⟩ q0;obtain⟨na,z'⟩:∃n,n=a.args.length:=⟨_,rfl⟩;obtain⟨ne,u'⟩:∃n,n=a.cond.args.length:=⟨_,rfl⟩;rw[<-z',<-u']at j';rw[<-z']at q1;rw[<-u']at q7;have D':=jD j';unfold ptV at D';have HI:=hI;have k':=jD z;clear ha q' E' O0 l' Z j' hD t' z' u' hle hI z;go_wp2_with fail;refine aw fun w6 e6=>?_
      have I':KY wr w6:=gb e6;have a':=jD I';clear e6 I' q0 q1 q2 q3 q4 q5 q6 q7 q8 q9 s' r' p' n';obtain⟨tq,hq⟩:=HI.out.box;refine (D'.out w6 (ab k'.out a'.out) ⟨tq,ao a'.out hq⟩).mono ?_;rintro e w7 (⟨hz,rfl,c',m'⟩|⟨hz,rfl,c'⟩)
      case inr =>
       have O:=HD.out;rw[K7 hz]at O;subst O;have b':=jD c';obtain⟨⟨r1,r2⟩,hr⟩:∃r,r=cB ts vs (k+1+aU (x.args.take j)) (aO a):=⟨_,rfl⟩;rw[<-hr]at hz ⊢;have Y1:(r2 != 0)=true:=jQ hz;have HZ:=jD hz;have V0:=jD hr;clear c' hr hz hq;go_wp2;exact Lc (v:=.tuple #[KW r1,KW r2]) (by simp[results,results230,go_sem]) rfl (by rw[<-V0.out];exact .inr ⟨HZ.out,rfl,b'.out⟩)
      have O:=HD.out;rw[K6 (by rw[hz];simp)]at O;have A0:Hid (cB ts vs (k+1+aU (x.args.take (j+1))) (bG (x.args.drop (j+1)))=R):=jD (by rw[x'.out,<-LJ];exact O);have b':Hid (∃t,w7.heap[WK]?=some (.cells [.slice At nt ct,(.slice (some ⟨bv,ov,none⟩) nv f'),.int .i64 ((k+1+aU (x.args.take (j+1)):Nat):Int)].toArray t (0,0))):=jD (by rw[x'.out,<-LJ];exact c');have i':Hid (KeepX [WK] w4 w7):=jD ((HI.out.keep.trans (bw a'.out)).trans m');have Q0:Hid (KY w0 w7):=jD ((ab k'.out a'.out).trans (m'.below (by have:=k'.out.size;have:=a'.out.size;omega) (fun b h=>by rw[Lz]at h;rw[h];exact S'.out)));clear O c' m' hz hq;go_wp2_with fail
      go_roundw
      case rel=>exact⟨j+1,by omega,by go_num,jD ⟨b'.out,i'.out,Q0.out,A0.out⟩⟩
      case measure=>simp[intOf];omega
     ·have T0:¬(j:Int)<(n:Int):=by omega
      have hD:=hI.out.scan;rw[Lq (by have:=HN.out;omega),bG,cB]at hD;subst hD;have b':Hid (∃t,wr.heap[WK]?=some (.cells [.slice At nt ct,(.slice (some ⟨bv,ov,none⟩) nv f'),.int .i64 ((k+ptN x:Nat):Int)].toArray t (0,0))):=jD (by
       have h:=hI.out.box;rw[Mn (by have:=HN.out;omega),show k+1+aU x.args=k+ptN x by have:=U'.out.1;omega]at h;exact h)
      have i':=jD (H'.out.trans hI.out.keep);clear hI z;go_wp2;exact Lc (v:=.tuple #[KW 0,KW 0]) (by simp[results,results230,go_sem]) rfl (.inl ⟨rfl,rfl,b'.out,i'.out⟩)
   ·have S1:(x.op==0)=false:=by simp;omega
    have A3:(x.op==5)=true:=jQ g';clear g' R0;go_wp2_with fail;refine rgn (fun I:World=>KY w1 I/\KX I P 2 (KW x.ty)/\KX I P 3 (KW (jv:Int))/\KX I WK 1 (.slice (some ⟨bv,ov,none⟩) nv f')/\KX I bv (ov+jv*2+1) (KW v.ty)) (Below w1.heap.size w1) (fun I J=>⟨J,aa J p2,aa J p3,aa J k1,aa J d1⟩) ((La _ _).drew) (fun A' G=>?_);refine tkH [0,1,2,3,4,5,6,7,8,9,10,11] ?_;refine wpAnyH_done kr (NoPanic.normal ?_) _;rotate_left 1;go_wp2_with fail;refine aP fun w2 e2=>?_
    have E1:Hid (KY w1 w2):=jD (by rw[e2];exact (La _ _).drew);clear G A' e2;have F:Hid (KY w1 w2):=jD (E1.out);replace p6:=aa F.out p6;replace p7:=aa F.out p7;replace p8:=aa F.out p8;replace p9:=aa F.out p9;replace M':=aa F.out M';replace J':=aa F.out J';replace F':=aa F.out F';replace G':=aa F.out G';replace k0:=aa F.out k0;replace k1:=aa F.out k1;have Y0:=K8 w2 ⟨P,_,none⟩ p6;have X1:=K8 w2 ⟨WK,_,none⟩ k0;refine rgn (fun I:World=>KY w2 I/\KX I P 6 (KW x.cond.op)/\KX I P 7 (.slice Ac nc cc)/\KX I P 8 (KW x.cond.vr)/\KX I P 9 (KW x.cond.fl)/\KX I P 10 (KW x.cond.kd)/\KX I P 11 (KW x.cond.val.kind)/\KX I P 12 (KW x.cond.val.num)/\KX I P 13 (.string x.cond.val.text)/\KX I WK 0 (.slice At nt ct)/\KX I WK 1 (.slice (some ⟨bv,ov,none⟩) nv f')) (Below w2.heap.size w2) (fun I J=>⟨J,aa J p6,aa J p7,aa J p8,aa J p9,aa J M',aa J J',aa J F',aa J G',aa J k0,aa J k1⟩) ((La _ _).drew) (fun A' G=>?_);refine tkH [0,1,2,3,4,5,6,7,8,9] ?_;refine nxH 10 (fun K hK=>?_)
    focus (go_simp;refine (U0.out _ (ab F.out G.1)).mono ?_;rintro e w3 ⟨rfl,X'⟩;have h':KY w2 w3:=ab G.1 X')
    refine hK.out _ _ (A' _ h') (fun G=>?_);clear hK K;refine tkH [11] ?_;refine wpAnyH_done kr (NoPanic.normal ?_) _;rotate_left 1;have D:=jD (ab F.out h');have Y':Hid (KY w0 w3):=jD (P'.out.trans (D.out.mono P'.out.size));clear G A' X' h' p6 p7 p8 p9 M' J' F' G' k0 k1 k2 U0
    by_cases hc:L'=0
    case neg =>
     have S2:(L' != 0)=true:=jQ hc;have C':=O'.out;rw[H0.out,K7 hc]at C';subst C';have HC:=jD hc;clear hc;go_wp2;exact Lc (v:=.tuple #[KW k,KW L']) (by simp[results,results230,go_sem]) rfl (.inr ⟨HC.out,rfl,Y'.out⟩)
    subst hc;have HF:Hid (cB ts vs (k+1) (bG x.args)=R):=jD (by have h:=O'.out;rw[H0.out,K6 jS]at h;exact h);clear O'
    go_upto_region 12 with fail
    refine aP fun w4 e4=>?_
    have H':Hid (KeepX [WK] W w4):=jD (by rw[e4];exact M1.out.trans (bw ((by first|exact D.out|exact D.out.drew))));have y':=ao ((by first|exact D.out|exact D.out.drew)) O1.out;rw[<-e4]at y';have N0:=jD y';have p0:=aa ((by first|exact D.out|exact D.out.drew)) V'.out.1;have p1:=aa ((by first|exact D.out|exact D.out.drew)) V'.out.2;rw[<-e4]at p0 p1;have Y0:=K8 w4 ⟨P,_,none⟩ p0;clear e4 y';go_wp2_with fail
    go_loopw [61] (fun i wr=>∃j:Nat,j<=n/\i=KW j/\Hid (Ik w0 WK k x ts vs R j (.slice At nt ct) (.slice (some ⟨bv,ov,none⟩) nv f') w4 wr)) (fun i _=>n-(intOf i).toNat)
    case atStart=>exact⟨0,Lb _,rfl,jD ⟨⟨_,by simpa [aU] using N0.out⟩,KeepX.refl _ _,N'.out.trans (H'.out.below (N'.out.size) (fun b h=>by rw[Lz]at h;rw[h];exact S'.out)),by simpa [aU] using HF.out⟩⟩
    case round =>
     obtain⟨j,hj,rfl,hI⟩:=hrel;have z:=hI.out.bel
     by_cases W1:j<n
     ·have T0:(j:Int)<(n:Int):=by omega
      have t':j<x.args.length:=by have:=HN.out;omega
      obtain⟨b,o,rfl,q'⟩:=P1.out j x.args[j] (K9 t');have hg:=jD (K9 t');obtain⟨a,ha⟩:=jF (x.args[j]);rw[<-ha]at hg q';obtain⟨d',e',v',Z',E',O0,l',Z,q0,q1,q2,q3,q4,q5,q6,q7,q8,q9,s',r',p',n'⟩:=cW q';replace q0:=aa z q0;replace q1:=aa z q1;replace q2:=aa z q2;replace q3:=aa z q3;replace q4:=aa z q4;replace q5:=aa z q5;replace q6:=aa z q6;replace q7:=aa z q7;replace q8:=aa z q8;replace q9:=aa z q9;replace s':=aa z s';replace r':=aa z r';replace p':=aa z p';replace n':=aa z n';have x':=jD (fI hg.out);have hle:k+1+aU (x.args.take j)+ptN a<=64:=by have h1:=dJ x.args (j+1);have:=x'.out;have:=U'.out;omega
      have j':=fun (W9:World) (P0:KY w0 W9) (h9:∃t,W9.heap[WK]?=some (.cells [.slice At nt ct,(.slice (some ⟨bv,ov,none⟩) nv f'),.int .i64 ((k+1+aU (x.args.take j):Nat):Int)].toArray t (0,0)))=>T'.out d' E' a e' (k+1+aU (x.args.take j)) v' Z' W9 P0 h9 l' Z (fun y hy=>Q1.out y (kD hg.out y hy)) hle
      have hD:=hI.out.scan;rw[jb hg.out,iG,dh]at hD;have HD:=jD hD;obtain⟨Av,cv,rfl,-⟩:=id l';obtain⟨Ae,ce,rfl,-⟩:=id Z;have K2:=K8 wr ⟨b,_,none⟩ q0;obtain⟨na,z'⟩:∃n,n=a.args.length:=⟨_,rfl⟩;obtain⟨ne,u'⟩:∃n,n=a.cond.args.length:=⟨_,rfl⟩;rw[<-z',<-u']at j';rw[<-z']at q1;rw[<-u']at q7;have D':=jD j';unfold ptV at D';have HI:=hI;have k':=jD z;clear ha q' E' O0 l' Z j' hD t' z' u' hle hI z;go_wp2_with fail;refine aw fun w6 e6=>?_
      have I':KY wr w6:=gb e6;have a':=jD I';clear e6 I' q0 q1 q2 q3 q4 q5 q6 q7 q8 q9 s' r' p' n';obtain⟨tq,hq⟩:=HI.out.box;refine (D'.out w6 (ab k'.out a'.out) ⟨tq,ao a'.out hq⟩).mono ?_;rintro e w7 (⟨hz,rfl,c',m'⟩|⟨hz,rfl,c'⟩)
      case inr =>
       have O:=HD.out;rw[K7 hz]at O;subst O;have b':=jD c';obtain⟨⟨r1,r2⟩,hr⟩:∃r,r=cB ts vs (k+1+aU (x.args.take j)) (aO a):=⟨_,rfl⟩;rw[<-hr]at hz ⊢;have Y1:(r2 != 0)=true:=jQ hz;have HZ:=jD hz;have V0:=jD hr;clear c' hr hz hq;go_wp2;exact Lc (v:=.tuple #[KW r1,KW r2]) (by simp[results,results230,go_sem]) rfl (by rw[<-V0.out];exact .inr ⟨HZ.out,rfl,b'.out⟩)
      have O:=HD.out;rw[K6 (by rw[hz];simp)]at O;have A0:Hid (cB ts vs (k+1+aU (x.args.take (j+1))) (bG (x.args.drop (j+1)))=R):=jD (by rw[x'.out,<-LJ];exact O);have b':Hid (∃t,w7.heap[WK]?=some (.cells [.slice At nt ct,(.slice (some ⟨bv,ov,none⟩) nv f'),.int .i64 ((k+1+aU (x.args.take (j+1)):Nat):Int)].toArray t (0,0))):=jD (by rw[x'.out,<-LJ];exact c');have i':Hid (KeepX [WK] w4 w7):=jD ((HI.out.keep.trans (bw a'.out)).trans m');have Q0:Hid (KY w0 w7):=jD ((ab k'.out a'.out).trans (m'.below (by have:=k'.out.size;have:=a'.out.size;omega) (fun b h=>by rw[Lz]at h;rw[h];exact S'.out)));clear O c' m' hz hq;go_wp2_with fail
      go_roundw
      case rel=>exact⟨j+1,by omega,by go_num,jD ⟨b'.out,i'.out,Q0.out,A0.out⟩⟩
      case measure=>simp[intOf];omega
     ·have T0:¬(j:Int)<(n:Int):=by omega
      have hD:=hI.out.scan;rw[Lq (by have:=HN.out;omega),bG,cB]at hD;subst hD;have b':Hid (∃t,wr.heap[WK]?=some (.cells [.slice At nt ct,(.slice (some ⟨bv,ov,none⟩) nv f'),.int .i64 ((k+ptN x:Nat):Int)].toArray t (0,0))):=jD (by
       have h:=hI.out.box;rw[Mn (by have:=HN.out;omega),show k+1+aU x.args=k+ptN x by have:=U'.out.1;omega]at h;exact h)
      have i':=jD (H'.out.trans hI.out.keep);clear hI z;go_wp2;exact Lc (v:=.tuple #[KW 0,KW 0]) (by simp[results,results230,go_sem]) rfl (.inl ⟨rfl,rfl,b'.out,i'.out⟩)
  ·have T2:(x.ty != v.ty)=true:=jQ Z0;have C':=B'.out;rw[Fb g' R0 hv Z0,K7 dc]at C';subst C';have T1:Hid (KY w0 w1.drew):=jD P'.out.drew;clear B' hv Z1 d0 Z0 X0;rcases g' with g'|g'
   ·have S1:(x.op==0)=true:=jQ g';clear g' R0;go_wp2_with fail;refine rgn (fun I:World=>KY w1 I/\KX I P 2 (KW x.ty)/\KX I P 3 (KW (jv:Int))/\KX I WK 1 (.slice (some ⟨bv,ov,none⟩) nv f')/\KX I bv (ov+jv*2+1) (KW v.ty)) (Below w1.heap.size w1) (fun I J=>⟨J,aa J p2,aa J p3,aa J k1,aa J d1⟩) ((La _ _).drew) (fun A' G=>?_);refine tkH [0,1,2,3,4,5,6,7,8,9,10,11] ?_;refine wpAnyH_done kr (NoPanic.normal ?_) _;rotate_left 1;go_wp2;exact Lc (v:=.tuple #[KW k,KW 9]) (by simp[results,results230,go_sem]) rfl (.inr ⟨show (9:Int)≠0 by decide,rfl,T1.out⟩)
   ·have S1:(x.op==0)=false:=by simp;omega
    have A3:(x.op==5)=true:=jQ g';clear g' R0;go_wp2_with fail;refine rgn (fun I:World=>KY w1 I/\KX I P 2 (KW x.ty)/\KX I P 3 (KW (jv:Int))/\KX I WK 1 (.slice (some ⟨bv,ov,none⟩) nv f')/\KX I bv (ov+jv*2+1) (KW v.ty)) (Below w1.heap.size w1) (fun I J=>⟨J,aa J p2,aa J p3,aa J k1,aa J d1⟩) ((La _ _).drew) (fun A' G=>?_);refine tkH [0,1,2,3,4,5,6,7,8,9,10,11] ?_;refine wpAnyH_done kr (NoPanic.normal ?_) _;rotate_left 1;go_wp2;exact Lc (v:=.tuple #[KW k,KW 9]) (by simp[results,results230,go_sem]) rfl (.inr ⟨show (9:Int)≠0 by decide,rfl,T1.out⟩)
 have S1:(x.op==0)=false:=by simp;omega
 have A3:(x.op==5)=false:=by simp;omega
 by_cases h7:x.op=7
 ·have O3:(x.op==7)=true:=jQ h7;have H0:Hid (il ts vs x=L'):=jD (by rw[FT h7];exact Y2.out.symm);have O':=B';clear h7 g' X0 B';go_wp2_with fail;have F:Hid (KY w1 w1):=jD (La _ _);refine rgn (fun I:World=>KY w1 I/\KX I P 6 (KW x.cond.op)/\KX I P 7 (.slice Ac nc cc)/\KX I P 8 (KW x.cond.vr)/\KX I P 9 (KW x.cond.fl)/\KX I P 10 (KW x.cond.kd)/\KX I P 11 (KW x.cond.val.kind)/\KX I P 12 (KW x.cond.val.num)/\KX I P 13 (.string x.cond.val.text)/\KX I WK 0 (.slice At nt ct)/\KX I WK 1 (.slice R' nv f')) (Below w1.heap.size w1) (fun I J=>⟨J,aa J p6,aa J p7,aa J p8,aa J p9,aa J M',aa J J',aa J F',aa J G',aa J k0,aa J k1⟩) ((La _ _).drew) (fun A' G=>?_);refine tkH [0,1,2,3,4,5,6,7,8,9] ?_;refine nxH 10 (fun K hK=>?_)
  focus (go_simp;refine (U0.out _ (ab F.out G.1)).mono ?_;rintro e w3 ⟨rfl,X'⟩;have h':KY w1 w3:=ab G.1 X')
  refine hK.out _ _ (A' _ h') (fun G=>?_);clear hK K;refine tkH [11] ?_;refine wpAnyH_done kr (NoPanic.normal ?_) _;rotate_left 1;have D:=jD (ab F.out h');have Y':Hid (KY w0 w3):=jD (P'.out.trans (D.out.mono P'.out.size));clear G A' X' h' p6 p7 p8 p9 M' J' F' G' k0 k1 k2 U0
  by_cases hc:L'=0
  case neg =>
   have S2:(L' != 0)=true:=jQ hc;have C':=O'.out;rw[H0.out,K7 hc]at C';subst C';have HC:=jD hc;clear hc;go_wp2;exact Lc (v:=.tuple #[KW k,KW L']) (by simp[results,results230,go_sem]) rfl (.inr ⟨HC.out,rfl,Y'.out⟩)
  subst hc;have HF:Hid (cB ts vs (k+1) (bG x.args)=R):=jD (by have h:=O'.out;rw[H0.out,K6 jS]at h;exact h);clear O'
  go_upto_region 12 with fail
  refine aP fun w4 e4=>?_
  have H':Hid (KeepX [WK] W w4):=jD (by rw[e4];exact M1.out.trans (bw ((by first|exact D.out|exact D.out.drew))));have y':=ao ((by first|exact D.out|exact D.out.drew)) O1.out;rw[<-e4]at y';have N0:=jD y';have p0:=aa ((by first|exact D.out|exact D.out.drew)) V'.out.1;have p1:=aa ((by first|exact D.out|exact D.out.drew)) V'.out.2;rw[<-e4]at p0 p1;have Y0:=K8 w4 ⟨P,_,none⟩ p0;clear e4 y';go_wp2_with fail
  go_loopw [61] (fun i wr=>∃j:Nat,j<=n/\i=KW j/\Hid (Ik w0 WK k x ts vs R j (.slice At nt ct) (.slice R' nv f') w4 wr)) (fun i _=>n-(intOf i).toNat)
  case atStart=>exact⟨0,Lb _,rfl,jD ⟨⟨_,by simpa [aU] using N0.out⟩,KeepX.refl _ _,N'.out.trans (H'.out.below (N'.out.size) (fun b h=>by rw[Lz]at h;rw[h];exact S'.out)),by simpa [aU] using HF.out⟩⟩
  case round =>
   obtain⟨j,hj,rfl,hI⟩:=hrel;have z:=hI.out.bel
   by_cases W1:j<n
   ·have T0:(j:Int)<(n:Int):=by omega
    have t':j<x.args.length:=by have:=HN.out;omega
    obtain⟨b,o,rfl,q'⟩:=P1.out j x.args[j] (K9 t');have hg:=jD (K9 t');obtain⟨a,ha⟩:=jF (x.args[j]);rw[<-ha]at hg q';obtain⟨d',e',v',Z',E',O0,l',Z,q0,q1,q2,q3,q4,q5,q6,q7,q8,q9,s',r',p',n'⟩:=cW q';replace q0:=aa z q0;replace q1:=aa z q1;replace q2:=aa z q2;replace q3:=aa z q3;replace q4:=aa z q4;replace q5:=aa z q5;replace q6:=aa z q6;replace q7:=aa z q7;replace q8:=aa z q8;replace q9:=aa z q9;replace s':=aa z s';replace r':=aa z r';replace p':=aa z p';replace n':=aa z n';have x':=jD (fI hg.out);have hle:k+1+aU (x.args.take j)+ptN a<=64:=by have h1:=dJ x.args (j+1);have:=x'.out;have:=U'.out;omega
    have j':=fun (W9:World) (P0:KY w0 W9) (h9:∃t,W9.heap[WK]?=some (.cells [.slice At nt ct,(.slice R' nv f'),.int .i64 ((k+1+aU (x.args.take j):Nat):Int)].toArray t (0,0)))=>T'.out d' E' a e' (k+1+aU (x.args.take j)) v' Z' W9 P0 h9 l' Z (fun y hy=>Q1.out y (kD hg.out y hy)) hle
    have hD:=hI.out.scan;rw[jb hg.out,iG,dh]at hD;have HD:=jD hD;obtain⟨Av,cv,rfl,-⟩:=id l';obtain⟨Ae,ce,rfl,-⟩:=id Z;have K2:=K8 wr ⟨b,_,none⟩ q0;obtain⟨na,z'⟩:∃n,n=a.args.length:=⟨_,rfl⟩;obtain⟨ne,u'⟩:∃n,n=a.cond.args.length:=⟨_,rfl⟩;rw[<-z',<-u']at j';rw[<-z']at q1;rw[<-u']at q7;have D':=jD j';unfold ptV at D';have HI:=hI;have k':=jD z;clear ha q' E' O0 l' Z j' hD t' z' u' hle hI z;go_wp2_with fail;refine aw fun w6 e6=>?_
    have I':KY wr w6:=gb e6;have a':=jD I';clear e6 I' q0 q1 q2 q3 q4 q5 q6 q7 q8 q9 s' r' p' n';obtain⟨tq,hq⟩:=HI.out.box;refine (D'.out w6 (ab k'.out a'.out) ⟨tq,ao a'.out hq⟩).mono ?_;rintro e w7 (⟨hz,rfl,c',m'⟩|⟨hz,rfl,c'⟩)
    case inr =>
     have O:=HD.out;rw[K7 hz]at O;subst O;have b':=jD c';obtain⟨⟨r1,r2⟩,hr⟩:∃r,r=cB ts vs (k+1+aU (x.args.take j)) (aO a):=⟨_,rfl⟩;rw[<-hr]at hz ⊢;have Y1:(r2 != 0)=true:=jQ hz;have HZ:=jD hz;have V0:=jD hr;clear c' hr hz hq;go_wp2;exact Lc (v:=.tuple #[KW r1,KW r2]) (by simp[results,results230,go_sem]) rfl (by rw[<-V0.out];exact .inr ⟨HZ.out,rfl,b'.out⟩)
    have O:=HD.out;rw[K6 (by rw[hz];simp)]at O;have A0:Hid (cB ts vs (k+1+aU (x.args.take (j+1))) (bG (x.args.drop (j+1)))=R):=jD (by rw[x'.out,<-LJ];exact O);have b':Hid (∃t,w7.heap[WK]?=some (.cells [.slice At nt ct,(.slice R' nv f'),.int .i64 ((k+1+aU (x.args.take (j+1)):Nat):Int)].toArray t (0,0))):=jD (by rw[x'.out,<-LJ];exact c');have i':Hid (KeepX [WK] w4 w7):=jD ((HI.out.keep.trans (bw a'.out)).trans m');have Q0:Hid (KY w0 w7):=jD ((ab k'.out a'.out).trans (m'.below (by have:=k'.out.size;have:=a'.out.size;omega) (fun b h=>by rw[Lz]at h;rw[h];exact S'.out)));clear O c' m' hz hq;go_wp2_with fail
    go_roundw
    case rel=>exact⟨j+1,by omega,by go_num,jD ⟨b'.out,i'.out,Q0.out,A0.out⟩⟩
    case measure=>simp[intOf];omega
   ·have T0:¬(j:Int)<(n:Int):=by omega
    have hD:=hI.out.scan;rw[Lq (by have:=HN.out;omega),bG,cB]at hD;subst hD;have b':Hid (∃t,wr.heap[WK]?=some (.cells [.slice At nt ct,(.slice R' nv f'),.int .i64 ((k+ptN x:Nat):Int)].toArray t (0,0))):=jD (by
     have h:=hI.out.box;rw[Mn (by have:=HN.out;omega),show k+1+aU x.args=k+ptN x by have:=U'.out.1;omega]at h;exact h)
    have i':=jD (H'.out.trans hI.out.keep);clear hI z;go_wp2;exact Lc (v:=.tuple #[KW 0,KW 0]) (by simp[results,results230,go_sem]) rfl (.inl ⟨rfl,rfl,b'.out,i'.out⟩)
 have O3:(x.op==7)=false:=jQ h7;have HF:Hid (cB ts vs (k+1) (bG x.args)=R):=jD (by have h:=B'.out;rw[D7 om om h7,K6 jS]at h;exact h);clear h7 g' X0 B' U0 p2 p3 p4 p5 p6 p7 p8 p9 M' J' F' G' k0 k1 k2
 go_upto_region 12 with fail
 refine aP fun w4 e4=>?_
 have H':Hid (KeepX [WK] W w4):=jD (by rw[e4];exact M1.out.trans (bw (La _ _)));have y':=ao (La _ _) O1.out;rw[<-e4]at y';have N0:=jD y';have p0:=aa (La _ _) V'.out.1;have p1:=aa (La _ _) V'.out.2;rw[<-e4]at p0 p1;have Y0:=K8 w4 ⟨P,_,none⟩ p0;clear e4 y';go_wp2_with fail
 go_loopw [61] (fun i wr=>∃j:Nat,j<=n/\i=KW j/\Hid (Ik w0 WK k x ts vs R j (.slice At nt ct) (.slice R' nv f') w4 wr)) (fun i _=>n-(intOf i).toNat)
 case atStart=>exact⟨0,Lb _,rfl,jD ⟨⟨_,by simpa [aU] using N0.out⟩,KeepX.refl _ _,N'.out.trans (H'.out.below (N'.out.size) (fun b h=>by rw[Lz]at h;rw[h];exact S'.out)),by simpa [aU] using HF.out⟩⟩
 case round =>
  obtain⟨j,hj,rfl,hI⟩:=hrel;have z:=hI.out.bel
  by_cases W1:j<n
  ·have T0:(j:Int)<(n:Int):=by omega
   have t':j<x.args.length:=by have:=HN.out;omega
   obtain⟨b,o,rfl,q'⟩:=P1.out j x.args[j] (K9 t');have hg:=jD (K9 t');obtain⟨a,ha⟩:=jF (x.args[j]);rw[<-ha]at hg q';obtain⟨d',e',v',Z',E',O0,l',Z,q0,q1,q2,q3,q4,q5,q6,q7,q8,q9,s',r',p',n'⟩:=cW q';replace q0:=aa z q0;replace q1:=aa z q1;replace q2:=aa z q2;replace q3:=aa z q3;replace q4:=aa z q4;replace q5:=aa z q5;replace q6:=aa z q6;replace q7:=aa z q7;replace q8:=aa z q8;replace q9:=aa z q9;replace s':=aa z s';replace r':=aa z r';replace p':=aa z p';replace n':=aa z n';have x':=jD (fI hg.out);have hle:k+1+aU (x.args.take j)+ptN a<=64:=by have h1:=dJ x.args (j+1);have:=x'.out;have:=U'.out;omega
   have j':=fun (W9:World) (P0:KY w0 W9) (h9:∃t,W9.heap[WK]?=some (.cells [.slice At nt ct,(.slice R' nv f'),.int .i64 ((k+1+aU (x.args.take j):Nat):Int)].toArray t (0,0)))=>T'.out d' E' a e' (k+1+aU (x.args.take j)) v' Z' W9 P0 h9 l' Z (fun y hy=>Q1.out y (kD hg.out y hy)) hle
   have hD:=hI.out.scan;rw[jb hg.out,iG,dh]at hD;have HD:=jD hD;obtain⟨Av,cv,rfl,-⟩:=id l';obtain⟨Ae,ce,rfl,-⟩:=id Z;have K2:=K8 wr ⟨b,_,none⟩ q0;obtain⟨na,z'⟩:∃n,n=a.args.length:=⟨_,rfl⟩;obtain⟨ne,u'⟩:∃n,n=a.cond.args.length:=⟨_,rfl⟩;rw[<-z',<-u']at j';rw[<-z']at q1;rw[<-u']at q7;have D':=jD j';unfold ptV at D';have HI:=hI;have k':=jD z;clear ha q' E' O0 l' Z j' hD t' z' u' hle hI z;go_wp2_with fail;refine aw fun w6 e6=>?_
   have I':KY wr w6:=gb e6;have a':=jD I';clear e6 I' q0 q1 q2 q3 q4 q5 q6 q7 q8 q9 s' r' p' n';obtain⟨tq,hq⟩:=HI.out.box;refine (D'.out w6 (ab k'.out a'.out) ⟨tq,ao a'.out hq⟩).mono ?_;rintro e w7 (⟨hz,rfl,c',m'⟩|⟨hz,rfl,c'⟩)
   case inr =>
    have O:=HD.out;rw[K7 hz]at O;subst O;have b':=jD c';obtain⟨⟨r1,r2⟩,hr⟩:∃r,r=cB ts vs (k+1+aU (x.args.take j)) (aO a):=⟨_,rfl⟩;rw[<-hr]at hz ⊢;have Y1:(r2 != 0)=true:=jQ hz;have HZ:=jD hz;have V0:=jD hr;clear c' hr hz hq;go_wp2;exact Lc (v:=.tuple #[KW r1,KW r2]) (by simp[results,results230,go_sem]) rfl (by rw[<-V0.out];exact .inr ⟨HZ.out,rfl,b'.out⟩)
   have O:=HD.out;rw[K6 (by rw[hz];simp)]at O;have A0:Hid (cB ts vs (k+1+aU (x.args.take (j+1))) (bG (x.args.drop (j+1)))=R):=jD (by rw[x'.out,<-LJ];exact O);have b':Hid (∃t,w7.heap[WK]?=some (.cells [.slice At nt ct,(.slice R' nv f'),.int .i64 ((k+1+aU (x.args.take (j+1)):Nat):Int)].toArray t (0,0))):=jD (by rw[x'.out,<-LJ];exact c');have i':Hid (KeepX [WK] w4 w7):=jD ((HI.out.keep.trans (bw a'.out)).trans m');have Q0:Hid (KY w0 w7):=jD ((ab k'.out a'.out).trans (m'.below (by have:=k'.out.size;have:=a'.out.size;omega) (fun b h=>by rw[Lz]at h;rw[h];exact S'.out)));clear O c' m' hz hq;go_wp2_with fail
   go_roundw
   case rel=>exact⟨j+1,by omega,by go_num,jD ⟨b'.out,i'.out,Q0.out,A0.out⟩⟩
   case measure=>simp[intOf];omega
  ·have T0:¬(j:Int)<(n:Int):=by omega
   have hD:=hI.out.scan;rw[Lq (by have:=HN.out;omega),bG,cB]at hD;subst hD;have b':Hid (∃t,wr.heap[WK]?=some (.cells [.slice At nt ct,(.slice R' nv f'),.int .i64 ((k+ptN x:Nat):Int)].toArray t (0,0))):=jD (by
    have h:=hI.out.box;rw[Mn (by have:=HN.out;omega),show k+1+aU x.args=k+ptN x by have:=U'.out.1;omega]at h;exact h)
   have i':=jD (H'.out.trans hI.out.keep);clear hI z;go_wp2;exact Lc (v:=.tuple #[KW 0,KW 0]) (by simp[results,results230,go_sem]) rfl (.inl ⟨rfl,rfl,b'.out,i'.out⟩)
theorem B8 (w0:World) (D:Nat) (ts:List Sch) (vs:List Nv) (vt vv:Value) (z:w0.heap.size<=D) (F:TypIs w0 ts vs vt vv) (hf:∀s∈ts,fM s) (d:Nat):Ef w0 D ts vs vt vv d:=by
 induction d with
 | zero=>exact tH w0 D ts vs vt vv z F hf 0 (fun G h=>by omega)
 | succ d I=>exact tH w0 D ts vs vt vv z F hf (d+1) (fun G h=>Ma h▸I)
end Go.Proofs.YtokconodddedhaaGreatDoor
