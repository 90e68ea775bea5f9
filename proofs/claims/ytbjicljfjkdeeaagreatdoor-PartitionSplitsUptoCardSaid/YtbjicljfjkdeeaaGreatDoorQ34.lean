/- Part. -/
import Derived.Test.YtbjicljfjkdeeaaGreatDoorQ30
set_option maxRecDepth 100000
set_option maxHeartbeats 16000000
set_option linter.unusedVariables false
set_option linter.unusedSimpArgs false
namespace Go.Proofs.YtbjicljfjkdeeaaGreatDoor
open Go.Proofs.Tryz Go.RowKit
theorem KH {p:Nat->Bool} {m k:Nat} (h:(List.range k).all p=true) (hm:m<=k):(List.range m).all p=true:=by
 rw[Pi]at h ⊢;intro x z;rw[List.mem_range]at z;exact h x (List.mem_range.2 om)
theorem Az {s:Bs} (h:s≠[]):mA s (nE s)=true:=by
 cases s with
 | nil=>exact absurd rfl h
 | cons z r=>simp[mA,nE]
theorem ya {l:List Evt} {ty vr:Int} {c:Ex} {b s:Bs} (h:s≠[]):(List.range (nE s+1)).all (dS l ty vr c b s)=true:=by
 refine iY (wd l ty vr c b s) ?_;unfold dS;rw[Az h];simp
theorem ub5 {p:Prop} (h:p:=by
  refine tkH [26] ?_;refine dn ?_;have j':=ab h'.out G.1;clear G;go_wp2_with fail
  go_roundw
  case rel=>exact⟨k+1,by omega,by omega,by go_num,jD ⟨iY hI.out.1 r'.out,j'⟩⟩
  case measure=>simp[intOf];omega):p:=h
theorem Dh (V:List Int) (l:List Evt) (M1:dR V l.length) (x:Pt) (b s:Bs) (i:Nat) (d e C:Nat) (v vc vl u us:Value) (w:World) (m':ScnAt l w C vl) (hx:aU d w v x.args) (G1:aK e w vc x.cond.args) (hb:fo w u b) (hB:BOk i b) (hs:SetIn (fun _=>True) w us s) (f':SetV V i l.length s) (hN:aF x.cond<=1048576) (Q0:x.op=5\/x.op=6\/x.op=7) :
  Mn 209 #[.pointer (some ⟨C,0,none⟩),ptV x v vc,u,us] w (.bool (ik l x.op x.ty x.vr x.sp x.cond b s)):=by
 have q':=f'.ok.last;have S2:=M1.len;have F1:=hB.len;have U2:=f'.n63;have Y0:=f'.merge hB M1;have S0:=f'.ok.1;have Y1:i<=nE s/\nE s<=bW s:=by
  obtain⟨z,r,hz⟩:∃z r,s=z::r:=by
   cases s with
   | nil=>exact absurd rfl f'.ok.1
   | cons z r=>exact⟨z,r,rfl⟩
  have h1:=q'.2.2 z (by rw[hz];exact Mz ..);have h2:=f'.ok.2.2 z (by rw[hz];exact Mz ..);have h3:nE s=z.2:=by rw[hz];rfl
  omega
 have p':(aA b s).length<=1048576:=by rw[lq];omega
 have D':∀x∈aA b s,(0<=x.1/\x.1<16)/\x.2<l.length:=fun x hx=>⟨(Y0.ok x hx).1,by have:=(Y0.ok x hx).2;omega⟩
 have X0:=jD (fun (vt:Value) (W:World) (A':fo W vt (aA b s)) (I:Mm w W)=>wN l (aA b s) l.length C vl vt W (aa I m'.ev) (m'.is.stays aG I) A' D' p');have t':Hid (∀W9,Mm w W9->Calls prog 250 #[u,us] W9 (mz W9 (aA b s))):=by
  refine jD fun W9 h9=>lR b s u us W9 (hb.stays aL h9) (hs.is.stays aL h9) hB.asc f'.ok.2.1 (fun y hy z hz=>by have h1:=(hB.ok y hy).2;have h2:=(f'.ok.2.2 z hz).1;omega) f'.ok.1 (fun y hy=>?_) om
  rcases List.mem_append.1 hy with hy|hy
  ·have:=(hB.ok y hy).2;omega
  ·have:=(f'.ok.2.2 y hy).2;omega
 have G':=jD (fun (W9:World) (h9:Mm w W9)=>yx s us W9 (hs.is.stays aL h9) f'.ok.1);have R0:=jD (fun (k:Nat) (W9:World) (h9:Mm w W9)=>Cg s k us W9 (hs.is.stays aL h9));have I':Hid (∀(v5:Value) (W:World),fW W v5 (cY l (aA b s) l.length)->Mm w W->Calls prog 246 #[exV x.cond vc,.agg #[v5],Mk (-1),cP oz (.slice none 0 0)] W fun e w'=>e=.returned (.bool (cT (cY l (aA b s) l.length) (-1) oz x.cond))/\Mm W w') :=
  jD fun v5 W hv I=>rZ e (cY l (aA b s) l.length) v5 (-1) oz (.slice none 0 0) (fun j=>pX om j) x.cond vc W hv (Sl.nil _ _ _ _ _ (Mu _)) (G1.stays (ai e) I) hN
 have H':Hid (∀(vt:Value) (wt:World),fo wt vt (aA b s)->∀(k:Nat) (y:Evt) (W:World),l[k]?=some y->Mm w W->Mm wt W->Calls prog 199 #[.pointer (some ⟨C,0,none⟩),exV x.cond vc,vt,Mk x.vr,Mk (k:Int)] W fun e w'=>e=.returned (.bool (cT (cY l (aA b s) k) x.vr y x.cond))/\Mm W w') :=
  jD fun vt wt A' k y W hk I R'=>sH l (aA b s) k y x.vr e x.cond C vl vt vc W (aa I m'.ev) (m'.is.stays aG I) (A'.stays aL R') D' p' hk (G1.stays (ai e) I) hN
 obtain⟨eq,heq⟩:∃e,l[bW s]?=some e:=⟨_,Mq q'.2.1⟩;obtain⟨ef,A1⟩:∃e,l[nE s]?=some e:=⟨_,Mq om⟩;have zs:=m'.ev;obtain⟨Al,cl,rfl,l1,l2,s'⟩:=id m'.is;have M3:=jD s';obtain⟨be,oe,rfl,-,-,-,-,-,z',-⟩:=s' _ eq heq;obtain⟨R3,K3,i',-,-,-,-,-,T',-⟩:=s' _ ef A1;injection i' with i';injection i' with h1 h2;subst h1 h2;obtain⟨Ab,cb,rfl,-⟩:=hb;obtain⟨A,c,rfl,-⟩:=hx;obtain⟨Ac,cc,rfl,-⟩:=G1;obtain⟨gs,os,ks,p,rfl,Y2,A4,V'⟩:=EU hs;have u':=Er hs;have S1:=ay l1 l2;obtain⟨nc,G2⟩:∃n,n=x.cond.args.length:=⟨_,rfl⟩;obtain⟨na,W1⟩:∃n,n=x.args.length:=⟨_,rfl⟩;obtain⟨nb,B2⟩:∃n,n=b.length:=⟨_,rfl⟩;obtain⟨nl,Q1⟩:∃n,n=l.length:=⟨_,rfl⟩;rw[<-G2]at I' H' ⊢;rw[<-W1];rw[<-B2]at t' ⊢;obtain⟨v,hv⟩:=jF (Value.slice A na c);obtain⟨u,hu⟩:∃t,t=Value.slice Ab nb cb:=⟨_,rfl⟩;rw[<-hv];rw[<-hu]at t' ⊢;obtain⟨R,hR⟩:=jF (ik l x.op x.ty x.vr x.sp x.cond b s);have HR:=jD hR;have U1:Hid (x.op=6->R=decide (IntKind.i64.wrap (eq.tm-ef.tm)<=x.sp)):=jD fun h=>by
  rw[hR];unfold ik;rw[h,Mo dc,Mp rfl,heq,show l[(s.head?.map (·.2)).getD 0]?=some ef from A1];rfl
 rw[<-hR];obtain⟨f,hf⟩:=jF (nE s);obtain⟨q,hq⟩:=jF (bW s);rw[<-hf]at u' T';rw[<-hq]at V' z' G';rw[<-Q1]at zs S1;have n':Hid (f=nE s/\q=bW s/\s≠[]/\q<l.length/\f<=q):=jD ⟨hf,hq,S0,by omega,by omega⟩;have E2:=jD Q1;have T4:(q:Int)<(nl:Int):=by omega
 have V2:(f:Int)<(nl:Int):=by omega
 have V4:q<nl:=by omega
 have Q4:f<nl:=by omega
 have U4:nl<=4096:=by omega
 have Q3:(0:Int)<(p:Int)+1:=by omega
 have V3:=Ms w ⟨be,_,none⟩ z';have W4:=Ms w ⟨C,_,none⟩ zs;have V0:=t';have H2:=G';have Z2:=R0;have J':=H';have Y':=I';clear t' G' R0 H' I' l1 l2 s' G2 W1 B2 D' F1 hB hN q' Y1 Y0 p' hs f' Y2 hR hf hq U2 heq A1 S2 hv hu m' S0 Q1 M1;unfold ptV;unfold exV cP at Y';unfold exV at J';have h6:(x.op==6)=decide (x.op=6):=by by_cases h:x.op=6<;>simp[h]
 have h7:(x.op==7)=decide (x.op=7):=by by_cases h:x.op=7<;>simp[h]
 by_cases c6:x.op=6
 ·have T3:(x.op==6)=true:=by rw[h6];simp[c6]
  have y':=jD (U1.out c6);clear c6 h6 h7;go_enter func209,ntmps209;go_wp2_with fail;refine bg fun Z e1=>?_
  obtain⟨B,J⟩:=jF w.heap.size;have p5:Ml Z B 5 (Mk x.sp):=jW e1 J;have O:Mm w Z:=gb e1;have k':=jD O;replace zs:=aa O zs;replace V':=aa O V';replace u':=aa O u';replace z':=aa O z';replace T':=aa O T';have X2:=k'.out.size;have Z1:gs<Z.heap.size:=by omega
  have W3:be<Z.heap.size:=by omega
  have U3:C<Z.heap.size:=by omega
  have X1:=Ms Z ⟨B,_,none⟩ p5;rw[<-J];clear e1 J O;refine rgn (fun W:World=>Mm Z W/\Ml W C 0 (.slice (some ⟨be,oe,none⟩) nl cl)/\Ml W gs (os+1) (Mk (f:Int))/\Ml W be (oe+q*5+3) (Mk eq.tm)/\Ml W be (oe+f*5+3) (Mk ef.tm)/\Ml W B 5 (Mk x.sp)) (Below Z.heap.size Z) (fun W I=>⟨I,aa I zs,aa I u',aa I z',aa I T',aa I p5⟩) ((Mr _ _).drew) (fun c' G=>?_);refine tkH [0,1,2,3,4,9,10,11,12,13,14,15,16,17,18,19,21,22] ?_;refine nxH 5 (fun K hK=>?_)
  focus (go_simp;refine (H2.out _ (ab k'.out G.1)).mono ?_;rintro e wl ⟨rfl,F1⟩;have Q2:Mm Z wl:=ab G.1 F1)
  refine hK.out _ _ (c' _ Q2) (fun G=>?_);clear hK K;refine tkH [6,7,8,20,23,24] ?_;refine dn ?_;have j':=ab k'.out G.1;clear G;go_wp2;go_ret;exact⟨by rw[y'.out];rfl,jB⟩
 have T3:(x.op==6)=false:=by rw[h6];simp[c6]
 by_cases c7:x.op=7
 ·have H3:(x.op==7)=true:=by rw[h7];simp[c7]
  have y':Hid (R=cT (cY l (aA b s) l.length) (-1) oz x.cond):=jD (by rw[HR.out];unfold ik;rw[Mo om,Mo c6]);rw[<-y'.out,<-E2.out]at Y';rw[<-E2.out]at X0;clear c6 c7 h6 h7;go_enter func209,ntmps209;go_wp2_with fail;refine bg fun Z e1=>?_
  obtain⟨B,J⟩:=jF w.heap.size;have p6:Ml Z B 6 (Mk x.cond.op):=jW e1 J;have p7:Ml Z B 7 ((.slice Ac nc cc)):=jW e1 J;have p8:Ml Z B 8 (Mk x.cond.vr):=jW e1 J;have p9:Ml Z B 9 (Mk x.cond.fl):=jW e1 J;have C':Ml Z B 10 (Mk x.cond.kd):=jW e1 J;have P':Ml Z B 11 (Mk x.cond.val.kind):=jW e1 J;have N':Ml Z B 12 (Mk x.cond.val.num):=jW e1 J;have E':Ml Z B 13 (.string x.cond.val.text):=jW e1 J;have O:Mm w Z:=gb e1;have k':=jD O;replace zs:=aa O zs;have X2:=k'.out.size;have U3:C<Z.heap.size:=by omega
  have X1:=Ms Z ⟨B,_,none⟩ p6;rw[<-J];clear e1 J O;refine rgn (fun W:World=>Mm Z W/\Ml W B 6 (Mk x.cond.op)/\Ml W B 7 ((.slice Ac nc cc))/\Ml W B 8 (Mk x.cond.vr)/\Ml W B 9 (Mk x.cond.fl)/\Ml W B 10 (Mk x.cond.kd)/\Ml W B 11 (Mk x.cond.val.kind)/\Ml W B 12 (Mk x.cond.val.num)/\Ml W B 13 (.string x.cond.val.text)/\Ml W C 0 (.slice (some ⟨be,oe,none⟩) nl cl)) (Below Z.heap.size Z) (fun W I=>⟨I,aa I p6,aa I p7,aa I p8,aa I p9,aa I C',aa I P',aa I N',aa I E',aa I zs⟩) ((Mr _ _).drew) (fun c' G=>?_);refine tkH [0,1,2,3,4,6,7,8,9,10,12] ?_;refine nxH 5 (fun K hK=>?_)
  focus (go_simp;refine (V0.out _ (ab k'.out G.1)).mono ?_;rintro e wt ⟨vt,rfl,F',a'⟩;have T1:Mm Z wt:=ab G.1 a')
  refine hK.out _ _ (c' _ T1) (fun G=>?_);clear hK K;refine nxH 11 (fun K hK=>?_)
  focus (go_simp;refine (X0.out vt _ F'.is (ab k'.out G.1)).mono ?_;rintro e we ⟨v7,rfl,A3,S3⟩;have V1:Mm Z we:=ab G.1 S3)
  refine hK.out _ _ (c' _ V1) (fun G=>?_);clear hK K;refine nxH 13 (fun K hK=>?_)
  focus (go_simp;refine (Y'.out v7 _ A3 (ab k'.out G.1)).mono ?_;rintro e wu ⟨rfl,B3⟩;have A2:Mm Z wu:=ab G.1 B3)
  refine hK.out _ _ (c' _ A2) (fun G=>?_);clear hK K;refine tkH [14] ?_;refine dn ?_;have j':=ab k'.out G.1;clear G;go_wp2;go_ret;exact⟨rfl,jB⟩
 have H3:(x.op==7)=false:=by rw[h7];simp[c7]
 have y':Hid (R=vZ l x.ty x.vr x.cond b s):=jD (by rw[HR.out,show x.op=5 by rcases Q0 with h|h|h;exact h;exact absurd h c6;exact absurd h c7];rfl);clear Q0 c6 c7 h6 h7 V' z' T' Q3 V2 X0 Y' U1 HR;have Y3:IntKind.i64.wrap ((f:Int)+1)=((f+1:Nat):Int):=by simp[IntKind.wrap,IntKind.bits,IntKind.signed];omega
 go_enter func209,ntmps209;go_wp2_with fail;refine aI fun Z e1=>?_
 obtain⟨B,J⟩:=jF w.heap.size;have p2:Ml Z B 2 (Mk x.ty):=jW e1 J;have p3:Ml Z B 3 (Mk x.vr):=jW e1 J;have p6:Ml Z B 6 (Mk x.cond.op):=jW e1 J;have p7:Ml Z B 7 ((.slice Ac nc cc)):=jW e1 J;have p8:Ml Z B 8 (Mk x.cond.vr):=jW e1 J;have p9:Ml Z B 9 (Mk x.cond.fl):=jW e1 J;have C':Ml Z B 10 (Mk x.cond.kd):=jW e1 J;have P':Ml Z B 11 (Mk x.cond.val.kind):=jW e1 J;have N':Ml Z B 12 (Mk x.cond.val.num):=jW e1 J;have E':Ml Z B 13 (.string x.cond.val.text):=jW e1 J;have O:Mm w Z:=gb e1;rw[<-J];refine (V0.out _ O).mono ?_;rintro e w2 ⟨vt,rfl,F',a'⟩;have g':=jD (ab O a');have E1:=jD (fun (k:Nat) (y:Evt) (W:World) (hy:l[k]?=some y) (I:Mm w W) (R':Mm w2 W)=>J'.out vt w2 F'.is k y W hy I R');obtain⟨At,ct,rfl⟩:=F'.form;obtain⟨nt,hnt⟩:∃n,n=(aA b s).length:=⟨_,rfl⟩;rw[<-hnt]at E1 ⊢;obtain⟨vt,A'⟩:∃t,t=Value.slice At nt ct:=⟨_,rfl⟩;rw[<-A']at E1 ⊢;replace p2:=aa a' p2;replace p3:=aa a' p3;replace p6:=aa a' p6;replace p7:=aa a' p7;replace p8:=aa a' p8;replace p9:=aa a' p9;replace C':=aa a' C';replace P':=aa a' P';replace N':=aa a' N';replace E':=aa a' E';replace zs:=aa g'.out zs;replace u':=aa g'.out u';have Z3:=g'.out.size;have Z1:gs<w2.heap.size:=by omega
 clear e1 J O a' F' hnt A' J' V0;go_wp2_with fail
 go_loopw [10] (fun t wr=>∃k:Nat,f+1<=k/\k<=q+1/\t=Mk k/\Hid ((List.range k).all (dS l x.ty x.vr x.cond b s)=true/\Mm w2 wr)) (fun t _=>q+1-(intOf t).toNat)
 case atStart=>exact⟨f+1,Mt _,by have:=n'.out.2.2.2.2;omega,by go_num,jD ⟨by rw[n'.out.1];exact ya n'.out.2.2.1,Mr _ _⟩⟩
 case round =>
  obtain⟨k,P4,K4,rfl,hI⟩:=hrel;go_wp2_with fail;refine (H2.out _ (ab g'.out hI.out.2)).mono ?_;rintro e wq ⟨rfl,K2⟩;have d':Mm w2 wq:=ab hI.out.2 K2;have h':=jD d'
  by_cases T2:k<q
  ·have R2:(k:Int)<(q:Int):=by omega
   obtain⟨y,K0⟩:∃y,l[k]?=some y:=⟨_,Mq (by have:=n'.out.2.2.2.1;omega)⟩;have X3:(k:Int)<(nl:Int):=by omega
   obtain⟨R3,K3,i',-,-,-,-,d2,-,-⟩:=M3.out k y K0;injection i' with i';injection i' with h1 h2;subst h1 h2;have q2:=aa (ab g'.out d') d2;have hy:=jD K0;have B':Hid (dS l x.ty x.vr x.cond b s k=!(!(mA s k)&&(decide (y.ty=x.ty)&&cT (cY l (aA b s) k) x.vr y x.cond))):=jD (Eu (by rw[<-n'.out.1];omega) K0);have W2:=zs;replace zs:=aa d' zs;have P2:=aa d' p2;have P3:=aa d' p3;have P6:=aa d' p6;have P7:=aa d' p7;have P8:=aa d' p8;have P9:=aa d' p9;have Z':=aa d' C';have U':=aa d' P';have X':=aa d' N';have P0:=aa d' E';have H4:=Ms wq ⟨C,_,none⟩ zs;have R4:=Ms wq ⟨B,_,none⟩ P2;have S4:=Ms wq ⟨be,_,none⟩ q2;obtain⟨hb,Z0⟩:∃t,t=mA s k:=⟨_,rfl⟩;obtain⟨tr,U0⟩:∃t,t=cT (cY l (aA b s) k) x.vr y x.cond:=⟨_,rfl⟩;rw[<-Z0,<-U0]at B';have H0:=jD (fun (W:World) (I:Mm w W)=>Z2.out k W I);have P1:=jD (fun (W:World) (I:Mm w W) (R':Mm w2 W)=>E1.out k y W hy.out I R');rw[<-Z0]at H0;rw[<-U0]at P1;clear K0 d2 Z0 U0 K2 W2
   by_cases x':y.ty=x.ty
   ·have R1:(y.ty==x.ty)=true:=jQ x';have HT:=jD x';clear x';go_wp2_with fail
    cases hb with
    | true =>
     have r':Hid (dS l x.ty x.vr x.cond b s k=true):=jD (by rw[B'.out];simp);refine rgn (fun W:World=>Mm wq W/\Ml W C 0 (.slice (some ⟨be,oe,none⟩) nl cl)/\Ml W B 2 (Mk x.ty)/\Ml W B 3 (Mk x.vr)/\Ml W B 6 (Mk x.cond.op)/\Ml W B 7 ((.slice Ac nc cc))/\Ml W B 8 (Mk x.cond.vr)/\Ml W B 9 (Mk x.cond.fl)/\Ml W B 10 (Mk x.cond.kd)/\Ml W B 11 (Mk x.cond.val.kind)/\Ml W B 12 (Mk x.cond.val.num)/\Ml W B 13 (.string x.cond.val.text)/\Ml W be (oe+k*5+2) (Mk y.ty)) (Below wq.heap.size wq) (fun W I=>⟨I,aa I zs,aa I P2,aa I P3,aa I P6,aa I P7,aa I P8,aa I P9,aa I Z',aa I U',aa I X',aa I P0,aa I q2⟩) ((Mr _ _).drew) (fun c' G=>?_);refine tkH [0,1,2,3,4,5,6,7,8,9,10,11,12,13] ?_;refine nxH 14 (fun K hK=>?_)
     focus (go_simp;refine (H0.out _ (ab g'.out (ab h'.out G.1))).mono ?_;rintro e w4 ⟨rfl,S'⟩;have l':Mm wq w4:=ab G.1 S')
     refine hK.out _ _ (c' _ l') (fun G=>?_);clear hK K;refine tkH [15,16,17] ?_;refine tkS [18,19,20,21,22,23,24,25] ?_;exact ub5
    | false =>
     cases tr with
     | false =>
      have r':Hid (dS l x.ty x.vr x.cond b s k=true):=jD (by rw[B'.out];simp);refine rgn (fun W:World=>Mm wq W/\Ml W C 0 (.slice (some ⟨be,oe,none⟩) nl cl)/\Ml W B 2 (Mk x.ty)/\Ml W B 3 (Mk x.vr)/\Ml W B 6 (Mk x.cond.op)/\Ml W B 7 ((.slice Ac nc cc))/\Ml W B 8 (Mk x.cond.vr)/\Ml W B 9 (Mk x.cond.fl)/\Ml W B 10 (Mk x.cond.kd)/\Ml W B 11 (Mk x.cond.val.kind)/\Ml W B 12 (Mk x.cond.val.num)/\Ml W B 13 (.string x.cond.val.text)/\Ml W be (oe+k*5+2) (Mk y.ty)) (Below wq.heap.size wq) (fun W I=>⟨I,aa I zs,aa I P2,aa I P3,aa I P6,aa I P7,aa I P8,aa I P9,aa I Z',aa I U',aa I X',aa I P0,aa I q2⟩) ((Mr _ _).drew) (fun c' G=>?_);refine tkH [0,1,2,3,4,5,6,7,8,9,10,11,12,13] ?_;refine nxH 14 (fun K hK=>?_)
      focus (go_simp;refine (H0.out _ (ab g'.out (ab h'.out G.1))).mono ?_;rintro e w4 ⟨rfl,S'⟩;have l':Mm wq w4:=ab G.1 S')
      refine hK.out _ _ (c' _ l') (fun G=>?_);clear hK K;refine tkH [15,16,17,18,19,20,21,22,23,24] ?_;refine nxH 25 (fun K hK=>?_)
      focus (go_simp;refine (P1.out _ (ab g'.out (ab h'.out G.1)) (ab h'.out G.1)).mono ?_;rintro e w6 ⟨rfl,K1⟩;have O':Mm wq w6:=ab G.1 K1)
      refine hK.out _ _ (c' _ O') (fun G=>?_);clear hK K;exact ub5
     | true =>
      have r':Hid (dS l x.ty x.vr x.cond b s k=false):=jD (by rw[B'.out,HT.out];simp);refine rgn (fun W:World=>Mm wq W/\Ml W C 0 (.slice (some ⟨be,oe,none⟩) nl cl)/\Ml W B 2 (Mk x.ty)/\Ml W B 3 (Mk x.vr)/\Ml W B 6 (Mk x.cond.op)/\Ml W B 7 ((.slice Ac nc cc))/\Ml W B 8 (Mk x.cond.vr)/\Ml W B 9 (Mk x.cond.fl)/\Ml W B 10 (Mk x.cond.kd)/\Ml W B 11 (Mk x.cond.val.kind)/\Ml W B 12 (Mk x.cond.val.num)/\Ml W B 13 (.string x.cond.val.text)/\Ml W be (oe+k*5+2) (Mk y.ty)) (Below wq.heap.size wq) (fun W I=>⟨I,aa I zs,aa I P2,aa I P3,aa I P6,aa I P7,aa I P8,aa I P9,aa I Z',aa I U',aa I X',aa I P0,aa I q2⟩) ((Mr _ _).drew) (fun c' G=>?_);refine tkH [0,1,2,3,4,5,6,7,8,9,10,11,12,13] ?_;refine nxH 14 (fun K hK=>?_)
      focus (go_simp;refine (H0.out _ (ab g'.out (ab h'.out G.1))).mono ?_;rintro e w4 ⟨rfl,S'⟩;have l':Mm wq w4:=ab G.1 S')
      refine hK.out _ _ (c' _ l') (fun G=>?_);clear hK K;refine tkH [15,16,17,18,19,20,21,22,23,24] ?_;refine nxH 25 (fun K hK=>?_)
      focus (go_simp;refine (P1.out _ (ab g'.out (ab h'.out G.1)) (ab h'.out G.1)).mono ?_;rintro e w6 ⟨rfl,K1⟩;have O':Mm wq w6:=ab G.1 K1)
      refine hK.out _ _ (c' _ O') (fun G=>?_);clear hK K;refine tkH [26] ?_;refine dn ?_;have j':=ab h'.out G.1;clear G;go_wp2;go_ret;exact⟨by rw[y'.out,AQ (by rw[<-n'.out.2.1];exact T2) r'.out];rfl,ab g'.out j'⟩
   ·have R1:(y.ty==x.ty)=false:=jQ x';have r':Hid (dS l x.ty x.vr x.cond b s k=true):=jD (by rw[B'.out];simp[x']);clear x';go_wp2_with fail;refine rgn (fun W:World=>Mm wq W/\Ml W C 0 (.slice (some ⟨be,oe,none⟩) nl cl)/\Ml W B 2 (Mk x.ty)/\Ml W B 3 (Mk x.vr)/\Ml W B 6 (Mk x.cond.op)/\Ml W B 7 ((.slice Ac nc cc))/\Ml W B 8 (Mk x.cond.vr)/\Ml W B 9 (Mk x.cond.fl)/\Ml W B 10 (Mk x.cond.kd)/\Ml W B 11 (Mk x.cond.val.kind)/\Ml W B 12 (Mk x.cond.val.num)/\Ml W B 13 (.string x.cond.val.text)/\Ml W be (oe+k*5+2) (Mk y.ty)) (Below wq.heap.size wq) (fun W I=>⟨I,aa I zs,aa I P2,aa I P3,aa I P6,aa I P7,aa I P8,aa I P9,aa I Z',aa I U',aa I X',aa I P0,aa I q2⟩) ((Mr _ _).drew) (fun c' G=>?_);refine tkH [0,1,2,3,4,5,6,7,8,9,10,11] ?_;refine tkS [12,13,14,15] ?_;refine tkH [16,17] ?_;refine tkS [18,19,20,21,22,23,24,25] ?_;exact ub5
  ·have R2:¬(k:Int)<(q:Int):=by omega
   go_wp2;go_ret;exact⟨by rw[y'.out];have h:=KH hI.out.1 (show bW s<=k by rw[<-n'.out.2.1];omega);rw[show vZ l x.ty x.vr x.cond b s=true from h];rfl,ab g'.out h'.out⟩
section
open Go.RowKit Go.Lib
theorem Dq {α:Type} {P:α->Bool} {L:List α} {k:Nat} {s:α} (h:L[k]?=some s) (hp:P s=true):(L.filter P)[((L.take k).filter P).length]?=some s:=by
 have e:L=L.take k++s::L.drop (k+1):=by
  obtain⟨hk,rfl⟩:=List.getElem?_eq_some_iff.1 h;rw[List.getElem_cons_drop,OB]
 have z:L.filter P=(L.take k).filter P++s::(L.drop (k+1)).filter P:=by
  conv=>lhs;rw[e]
  rw[Oy,List.filter_cons,Mp hp]
 rw[z,M7 (Mt _),Nat.sub_self];rfl
theorem xx {α:Type} {P:α->Bool} {L:List α} {k:Nat} {s:α} (h:L[k]?=some s):((L.take (k+1)).filter P).length=if P s=true then ((L.take k).filter P).length+1 else ((L.take k).filter P).length:=by
 rw[bK h,Oy,List.filter_cons,List.filter_nil]
 split<;>simp
theorem Hz {V:List Int} {l:List Evt} {x a:Pt} {r:List Pt} {b:Bs} {i d e C:Nat} {v vc vl u:Value} {W0 w:World} {n1:Nat} {B:Option Nat} {bc bp bo bf:Nat} (H:SeqHyp l x b i d e C v vc vl u W0 w n1 B bc bp bo bf)
  (U':x.op=5\/x.op=6\/x.op=7) (k':x.args=a::r) (S':dR V l.length) (hB:BOk i b) (hi:i<=l.length) (hN:aF x.cond<=1048576) (hA:jX l a b i) (hL:∀s∈bj l a b i,SetV V i l.length s) :
  SeqC 208 #[.pointer (some ⟨bc,0,none⟩),.pointer (some ⟨bp,0,none⟩),.pointer (some ⟨bo,0,none⟩),.pointer (some ⟨bf,0,none⟩)] (fO l x b i) (InS n1 B) (aE W0.heap.size n1 B) w:=by
 obtain⟨P,hP⟩:∃P:Bs->Bool,P=ik l x.op x.ty x.vr x.sp x.cond b:=⟨_,rfl⟩;obtain⟨L,x'⟩:=jF (bj l a b i);rw[show fO l x b i=L.filter P from by unfold fO;rw[Mo om,Mo om,Mo om,Mo om,k',hP,x'];dsimp only;rw[Mo om]];intro ly J Jx O G hJ A1 hY E';have H0:=H.next (H.grow G);have H1:=jD H0;have HJ:=jD hJ;have HY:=jD hY;have C':=jD E';have z':=jD hL;obtain⟨Al,cl,rfl,-⟩:=id H0.scn.is;obtain⟨Ab,cb,rfl,-⟩:=id H0.bs;obtain⟨A,c,rfl,x1,x2,-⟩:=id H0.pts;obtain⟨Ac,cc,rfl,-⟩:=id H0.exs;have A':=ay x1 x2;have I:=jD (fun (W9:World) (us:Value) (s:Bs) (h9:Mm W0 W9) (hs:SetIn (fun _=>True) W9 us s) (hv:SetV V i l.length s)=>Dh V l S' x b s i d e C _ _ _ _ us W9 (H1.out.scn.stays h9) (H1.out.pts.stays (aB d) h9) (H1.out.exs.stays (ai e) h9) (H1.out.bs.stays aL h9) hB hs hv hN U');obtain⟨Av,cv,Ae,ne,ce,Z,po,rfl,f',-,g'⟩:=mu H1.out rfl (k:=0) (a:=a) (by rw[k'];rfl) i b (.slice Ab b.length cb) hA;simp only[Nn,Nc]at f';obtain⟨p0,p1,p2,p3,p4,p5,p6,p7,p8,p9,D',V',T',H'⟩:=f' O H0.bel;have a':=jD (fun (W9:World) (h9:Mm O W9)=>g' W9 (H1.out.bel.trans (h9.mono H1.out.bel.size)) (H1.out.bs.stays aL (H1.out.bel.trans (h9.mono H1.out.bel.size))));obtain⟨zc,-⟩:=H0.caps.c;obtain⟨zo,-⟩:=H0.caps.o;obtain⟨zf,-⟩:=H0.caps.f;have zp:=H0.caps.p.1 1 _ rfl;rw[MC]at zp;obtain⟨nb,P'⟩:∃n,n=b.length:=⟨_,rfl⟩;obtain⟨n,hn⟩:=jF x.args.length;obtain⟨na,F'⟩:∃n,n=a.args.length:=⟨_,rfl⟩;obtain⟨nx,N'⟩:∃n,n=x.cond.args.length:=⟨_,rfl⟩;have F1:(0:Int)<(n:Int):=by rw[hn,k',MG];omega
 have G1:0<n:=by omega
 rw[<-P']at H1 a' I zo;rw[<-hn]at A' zp H1 I;rw[<-F']at a' p1;rw[<-N']at H1 I;rw[<-x']at a' z';obtain⟨u,hu⟩:=jF (Value.slice Ab nb cb);rw[<-hu]at H1 a' I zo;have X0:=Ms O ⟨Z,_,none⟩ p0;have y':=Ms O ⟨bc,_,none⟩ zc;have m':=Ms O ⟨bo,_,none⟩ zo;have V0:=Ms O ⟨bf,_,none⟩ zf;have p':=Ms O ⟨bp,_,none⟩ zp;have Z':Hid (∀(W9:World) (us:Value) (s:Bs),Mm W0 W9->SetIn (fun _=>True) W9 us s->s∈L->Calls prog 209 #[.pointer (some ⟨C,0,none⟩),ptV x (.slice (some ⟨Z,po,none⟩) n c) (.slice Ac nx cc),u,us] W9 fun e O=>e=.returned (.bool (P s))/\Mm W9 O):=jD fun W9 us s h9 hs hm=>by rw[hP];exact I.out W9 us s h9 hs (z'.out s hm)
 clear H H0 G hJ A1 hY E' hB hA x1 x2 P' hn F' N' U' hP x' hi f' g' hL hN S' I z' hu k';unfold ptV at a' Z';show Calls prog 208 #[.func (.yield ly) #[] #[],.pointer (some ⟨bc,0,none⟩),.pointer (some ⟨bp,0,none⟩),.pointer (some ⟨bo,0,none⟩),.pointer (some ⟨bf,0,none⟩)] O _;go_enter func208,ntmps208;refine (Ok (n:=5)).1 ?_;gi_wp2;refine wpIn_wide.2 ?_;refine rgn (fun W:World=>Mm O W/\Ml W bc 0 (.pointer (some ⟨C,0,none⟩))/\Ml W bp 1 (.slice (some ⟨Z,po,none⟩) n c)/\Ml W bo 0 (u)/\Ml W bf 0 (Mk (i:Int))/\Ml W Z po (Mk a.op)/\Ml W Z (po+1) (.slice Av na cv)/\Ml W Z (po+2) (Mk a.ty)/\Ml W Z (po+3) (Mk a.vr)/\Ml W Z (po+4) (Mk a.sc)/\Ml W Z (po+5) (Mk a.sp)/\Ml W Z (po+6) (Mk a.cond.op)/\Ml W Z (po+7) (.slice Ae ne ce)/\Ml W Z (po+8) (Mk a.cond.vr)/\Ml W Z (po+9) (Mk a.cond.fl)/\Ml W Z (po+10) (Mk a.cond.kd)/\Ml W Z (po+11) (Mk a.cond.val.kind)/\Ml W Z (po+12) (Mk a.cond.val.num)/\Ml W Z (po+13) (.string a.cond.val.text)) (Below O.heap.size O) (fun W G=>⟨G,aa G zc,aa G zp,aa G zo,aa G zf,aa G p0,aa G p1,aa G p2,aa G p3,aa G p4,aa G p5,aa G p6,aa G p7,aa G p8,aa G p9,aa G D',aa G V',aa G T',aa G H'⟩) ((Mr _ _).drew) (fun O' z=>?_);refine tkH [0,1,2,3,4,5,6,9] ?_;refine nxH 7 (fun K hK=>?_)
 focus (go_simp;refine (a'.out _ z.1).mono ?_;rintro e w4 ⟨v4,rfl,h',u'⟩;have c':Mm O w4:=ab z.1 u';replace h':=H1.out.sets z.1 h' u';obtain⟨A4,c4,rfl,U0⟩:=h'.form)
 refine hK.out _ _ (O' _ c') (fun z=>?_);clear hK K;refine tkH [8] ?_;refine dn ?_;have B':Hid (J 0 w4/\aE W0.heap.size n1 B O w4/\SetsIn (Own n1 B w4) w4 (.slice A4 L.length c4) L):=jD ⟨aS HJ.out C'.out c',H1.out.grow c',h'⟩;obtain⟨n4,t'⟩:∃n,n=L.length:=⟨_,rfl⟩;have I':=jD t';rw[<-t']at B' U0 ⊢;clear h' u' c' z O' t' p0 p1 p2 p3 p4 p5 p6 p7 p8 p9 D' V' T' H' zc zo zf zp X0 y' m' V0 p' a' C';gi_wp2
 gi_loopw [17] (fun t wr=>∃k:Nat,k<=n4/\t=Mk k/\Hid (J ((L.take k).filter P).length wr/\aE W0.heap.size n1 B O wr/\SetsIn (Own n1 B wr) wr (.slice A4 n4 c4) L)) (fun t _=>n4-(RowKit.intOf t).toNat)
 case atStart=>exact⟨0,Mu _,rfl,B'⟩
 case round =>
  obtain⟨k,hk,rfl,hI⟩:=hrel
  by_cases G':k<n4
  ·have K0:(k:Int)<(n4:Int):=by omega
   have Hr:=H1.out.next hI.out.2.1;have s':=jD Hr;obtain⟨zc,-⟩:=Hr.caps.c;obtain⟨zo,-⟩:=Hr.caps.o;obtain⟨q0,q1,q2,q3,q4,q5,q6,q7,q8,q9,Z0,E1,P0,Y0⟩:=dU Hr.caps.p.1;obtain⟨s,hs⟩:∃s,L[k]?=some s:=⟨_,Mq (by have:=I'.out;omega)⟩;obtain⟨sb,so,us,rfl,n',l'⟩:=hI.out.2.2.at hs;have j':=jD (Z'.out wr us s Hr.bel (l'.mono fun _ _=>trivial) (MI hs));have R':=jD l';have q':=jD (xx (P:=P) hs);have J':=jD (fun h=>Dq (P:=P) hs h);obtain⟨Au,cu,rfl⟩:=l'.form;obtain⟨ns,Y'⟩:∃n,n=s.length:=⟨_,rfl⟩;obtain⟨p,hp⟩:=jF (P s);rw[<-Y']at n' j' R';rw[<-hp]at j' q';have R0:=Ms wr ⟨sb,_,none⟩ n';have y':=Ms wr ⟨bc,_,none⟩ zc;have m':=Ms wr ⟨bo,_,none⟩ zo;have p':=Ms wr ⟨bp,_,none⟩ q0;have HP:=jD hp;clear hs l' Y' Hr hp;gi_wp2;refine⟨trivial,callsIn_wide.2 ?_⟩;refine j'.out.mono ?_;rintro e w5 ⟨rfl,X'⟩;have i':=jD X';clear X' q0 q1 q2 q3 q4 q5 q6 q7 q8 q9 Z0 E1 P0 Y0 zc zo R0 y' m' p' n' j'
   cases p with
   | false =>
    gi_wp2;refine⟨fun _ _=>trivial,?_⟩;gi_wp2
    go_roundw
    case rel=>exact⟨k+1,by omega,by go_num,jD ⟨by rw[q'.out,Mo jS];exact aS HJ.out hI.out.1 i'.out,aR hI.out.2.1 (s'.out.grow i'.out),SetsIn.keepO (s'.out.grow i'.out) hI.out.2.2⟩⟩
    case measure=>exact jh G'
   | true =>
    have S0:Hid (YieldAt Fence.wide (5-1) prog ly #[.slice Au ns cu] w5 fun e d'=>(e=.returned (.bool true)/\J ((L.take (k+1)).filter P).length d'/\aE W0.heap.size n1 B O d'/\SetsIn (Own n1 B d') d' (.slice (some ⟨sb,so,none⟩) n4 c4) L)\/(e=.returned (.bool false)/\Jx (((L.take k).filter P).length+1) d')):=by
     have r':=s'.out.grow i'.out;refine jD (cg (HY.out _ _ s _ w5 (J'.out HP.out.symm) (aS HJ.out hI.out.1 i'.out) ⟨_,rfl,SetIn.keepO r' R'.out⟩) ?_);rintro e d' (⟨rfl,g1,g2⟩|⟨rfl,g1⟩)
     ·exact .inl ⟨rfl,by rw[q'.out,Mp rfl];exact g1,aR hI.out.2.1 (aR r' g2),SetsIn.keepO (aR r' g2) hI.out.2.2⟩
     ·exact .inr ⟨rfl,g1⟩
    have Q0:Hid (((L.take k).filter P).length<(L.filter P).length):=jD (List.getElem?_eq_some_iff.1 (J'.out HP.out.symm)).1;gi_wp2;refine dx S0.out (fun W7 h7=>?_) (fun W7 h7=>?_)
    ·have H7:=jD h7;clear h7;gi_wp2
     go_roundw
     case rel=>exact⟨k+1,by omega,by go_num,H7⟩
     case measure=>exact jh G'
    ·have H7:=jD h7;clear h7;gi_wp2;refine Mv (v:=.tuple #[]) (NI rfl _ _ _) rfl ?_;exact⟨⟨_,rfl⟩,.inr ⟨_,Q0.out,H7.out⟩⟩
  ·have K0:¬(k:Int)<(n4:Int):=by omega
   obtain rfl:k=n4:=by omega
   have HE:Hid (J (L.filter P).length wr):=jD (by have h:=hI.out.1;rw[I'.out,Nq]at h;exact h);gi_wp2;refine OI (NI rfl _ _ _) rfl ?_;exact⟨⟨_,rfl⟩,.inl HE.out⟩
theorem pI (V:List Int) (l:List Evt) (x:Pt) (b:Bs) (i:Nat) (hG:GoodQ V l.length x) (Z:dR V l.length) (O:x.op=5\/x.op=6\/x.op=7) (hB:BOk i b) (hi:i<=l.length) (hA:∀a∈x.args,fI l a):FinderK 136 l x b i:=by
 intro d e C v vc vl u W0 w a' hx z hu hb;obtain⟨a,r,J⟩:∃a r,x.args=a::r:=by
  cases h:x.args with
  | nil=>rcases hG.good.self.1 with I|I|I;omega;omega;exact absurd h I
  | cons a r=>exact⟨a,r,rfl⟩
 have G:a∈x.args:=by rw[J];exact Mz ..
 have HQ:=jD (fun (n1:Nat) (B:Option Nat) I h2 h3 h4 (tc tp to tf:TypeId)=>Hz (eS (i:=i) (n1:=n1) (B:=B) a' hx z hu hb I h2 h3 h4 tc tp to tf) O J Z hB hi hG.good.self.2 (hA a G b i hB hi) (fun s hs=>eu (hG.arg G) hs));obtain⟨A,c,rfl,-⟩:=id hx;obtain⟨Ac,cc,rfl,-⟩:=id z;obtain⟨Ab,cb,rfl,-⟩:=id hu;clear a' hx z hu hb hB hA O J G hG Z hi;unfold ptV;go_enter func136,ntmps136;go_wp2;go_ret;exact⟨_,_,rfl,fun _ _=>rfl,jB,fun n1 B I h2 h3 h4=>HQ.out n1 B I h2 h3 h4 _ _ _ _⟩
end
end Go.Proofs.YtbjicljfjkdeeaaGreatDoor
