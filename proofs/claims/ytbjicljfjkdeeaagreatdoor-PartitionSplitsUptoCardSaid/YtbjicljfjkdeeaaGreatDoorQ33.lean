/- Part. -/
import Derived.Test.YtbjicljfjkdeeaaGreatDoorQ11
import Derived.Test.YtbjicljfjkdeeaaGreatDoorQ32
set_option maxRecDepth 100000
set_option maxHeartbeats 16000000
set_option linter.unusedVariables false
set_option linter.unusedSimpArgs false
namespace Go.Proofs.YtbjicljfjkdeeaaGreatDoor
open Go.Proofs.Tryz Go.RowKit
theorem zl (d:Nat) (x:Pt) (v vc:Value) (w:World) (hx:aU d w v x.args) (p':aK d w vc x.cond.args) (hN:aF x.cond<=1048576) :
  Mn 140 #[ptV x v vc] w (Mk (ptE x)):=by
 have I:=jD (fun (W:World) (hW:Mm w W)=>AP d x.cond vc W (p'.stays (ai d) hW) hN);have G:=jD (fun (W:World) (hW:Mm w W)=>zR d 0 x.cond nK vc (.slice none 0 0) W (p'.stays (ai d) hW) (CA W));obtain⟨A,c,rfl,h1,h2,-⟩:=hx;obtain⟨Ac,cc,rfl,-⟩:=p';have hlen:=ay h1 h2;obtain⟨nc,q'⟩:=jE x.cond.args.length;rw[q']at I G ⊢;have O:=jD (fun W=>Ir x A c Ac nc cc W);have c':=jD (fun W=>qN x (.slice A x.args.length c) Ac nc cc W);have J:=jD (fun W=>qr x (.slice A x.args.length c) Ac nc cc W);have a':=jD (fun W=>wY x (.slice A x.args.length c) Ac nc cc W);have Z:=jD (fun W=>G7 x (.slice A x.args.length c) Ac nc cc W);obtain⟨n,hn⟩:=jE x.args.length
 by_cases n':x.op<0\/10<x.op
 ·have hE:ptE x=1:=by unfold ptE;rw[Mp n']
  rw[hE,hn];clear I G hE hn q' hlen h1 h2 O c' J a' Z;obtain⟨op,l,ty,vr,sc,sp,⟨i',l2,m',l',k',⟨k0,n0,t0⟩⟩⟩:=x;unfold ptV;simp only[Pt.op,Pt.ty,Pt.vr,Pt.sc,Pt.sp,Pt.cond,Ex.op,Ex.vr,Ex.fl,Ex.kd,Ex.val]at n' ⊢
  by_cases ho:op<0
  ·clear n';go_enter func140,ntmps140;go_wp2;go_ret;exact⟨rfl,af w _⟩
  ·have A':10<op:=by omega
   clear n';go_enter func140,ntmps140;go_wp2;go_ret;exact⟨rfl,af w _⟩
 have h':¬x.op<0:=by omega
 have j':¬10<x.op:=by omega
 have hE:=GO x om om;rw[hE];obtain⟨b1,e1⟩:∃b,dL (cD x.op) x.ty 15=b:=⟨_,rfl⟩;obtain⟨b2,e2⟩:∃b,dL (cD x.op) x.vr 15=b:=⟨_,rfl⟩;obtain⟨b3,e3⟩:∃b,dL (ft x.op) x.sc 63=b:=⟨_,rfl⟩;obtain⟨b4,e4⟩:∃b,dL (fF x.op) x.sp 1099511627776=b:=⟨_,rfl⟩;have g':=jD (fun W=>mi (cD x.op) x.ty 15 W);have d':=jD (fun W=>mi (cD x.op) x.vr 15 W);have h:=jD (fun W=>mi (ft x.op) x.sc 63 W);have f':=jD (fun W=>mi (fF x.op) x.sp 1099511627776 W);obtain⟨z,hz⟩:=jE (kQ x.cond);obtain⟨q,hq⟩:=jE (dK x.cond nK);rw[e1]at g';rw[e2]at d';rw[e3]at h;rw[e4]at f';rw[hz]at I;rw[hq]at G;rw[e1,e2,e3,e4,hz,hq];obtain⟨r,hr⟩:=jE (gM x.op x.args.length);rw[hr]at O ⊢;rw[hn]at O c' J a' Z hlen ⊢;have s':ft x.op=(rS x.op || fF x.op):=rfl;rw[s']at h ⊢;obtain⟨vb,x'⟩:∃b,cD x.op=b:=⟨_,rfl⟩;obtain⟨cb,u'⟩:∃b,mx x.op=b:=⟨_,rfl⟩;obtain⟨nb,t'⟩:∃b,rS x.op=b:=⟨_,rfl⟩;obtain⟨pb,r'⟩:∃b,fF x.op=b:=⟨_,rfl⟩;rw[x']at c' g' d' ⊢;rw[u']at Z ⊢;rw[t']at J h ⊢;rw[r']at a' h f' ⊢;obtain⟨R,hR⟩:∃R,R=(if r=false then (15:Int) else if b1=true\/b2=true\/b3=true\/b4=true then 2 else if cb=true/\z≠0 then z else if (cb=false/\q=false)\/(vb || decide (x.ty=0))=false\/(vb || decide (x.vr=0))=false\/((nb || pb) || decide (x.sc=0))=false\/(pb || decide (x.sp=0))=false then 3 else 0):=⟨_,rfl⟩;rw[<-hR];have HR:=jD hR;clear hR hE e1 e2 e3 e4 hz hq x' u' t' r' hn q' h1 h2 n' hr s'
 obtain⟨op,l,ty,vr,sc,sp,⟨i',l2,m',l',k',⟨k0,n0,t0⟩⟩⟩:=x;unfold ptV at O c' J a' Z ⊢;unfold exV at I G;unfold nK ah at G;simp only[Pt.op,Pt.ty,Pt.vr,Pt.sc,Pt.sp,Pt.cond,Ex.op,Ex.vr,Ex.fl,Ex.kd,Ex.val]at h' j' g' d' h f' O c' J a' Z I G HR ⊢
 cases r with
 | false =>
  obtain rfl:R=15:=by rw[HR.out];simp
  clear HR g' d' h f' c' J a' Z I G;go_enter func140,ntmps140;go_wp2_with fail;refine (O.out _).mono ?_;rintro e w1 ⟨rfl,y'⟩;have z':=jD (ab (af w _) y');clear y';exact fi z'.out
 | true =>
  cases nb with
  | true =>
   simp only[Bool.true_or,On]at h HR
   cases b1 with
   | true=>exact D4 A c Ac cc nc n z q vb cb pb b2 b3 b4 op ty vr sc sp i' m' l' k' k0 n0 t0 w R h' j' ⟨I.out,G.out,O.out,c'.out,J.out,a'.out,Z.out,g'.out,d'.out,h.out,f'.out⟩ (jD (by rw[HR.out];simp))
   | false =>
    cases b2 with
    | true=>exact D6 A c Ac cc nc n z q vb cb pb b3 b4 op ty vr sc sp i' m' l' k' k0 n0 t0 w R h' j' ⟨I.out,G.out,O.out,c'.out,J.out,a'.out,Z.out,g'.out,d'.out,h.out,f'.out⟩ (jD (by rw[HR.out];simp))
    | false =>
     cases b3 with
     | true=>exact Dl A c Ac cc nc n z q vb cb pb b4 op ty vr sc sp i' m' l' k' k0 n0 t0 w R h' j' ⟨I.out,G.out,O.out,c'.out,J.out,a'.out,Z.out,g'.out,d'.out,h.out,f'.out⟩ (jD (by rw[HR.out];simp))
     | false =>
      cases b4 with
      | true=>exact DN A c Ac cc nc n z q vb cb pb op ty vr sc sp i' m' l' k' k0 n0 t0 w R h' j' ⟨I.out,G.out,O.out,c'.out,J.out,a'.out,Z.out,g'.out,d'.out,h.out,f'.out⟩ (jD (by rw[HR.out];simp))
      | false =>
       exact Db A c Ac cc nc n z q vb cb pb op ty vr sc sp i' m' l' k' k0 n0 t0 w R h' j' ⟨I.out,G.out,O.out,c'.out,J.out,a'.out,Z.out,g'.out,d'.out,h.out,f'.out⟩ (jD (by rw[HR.out,Mo jS,Mo jS];rfl))
  | false =>
   simp only[Bool.true_or,On]at h HR
   cases b1 with
   | true=>exact DS A c Ac cc nc n z q vb cb pb b2 b3 b4 op ty vr sc sp i' m' l' k' k0 n0 t0 w R h' j' ⟨I.out,G.out,O.out,c'.out,J.out,a'.out,Z.out,g'.out,d'.out,h.out,f'.out⟩ (jD (by rw[HR.out];simp))
   | false =>
    cases b2 with
    | true=>exact Du A c Ac cc nc n z q vb cb pb b3 b4 op ty vr sc sp i' m' l' k' k0 n0 t0 w R h' j' ⟨I.out,G.out,O.out,c'.out,J.out,a'.out,Z.out,g'.out,d'.out,h.out,f'.out⟩ (jD (by rw[HR.out];simp))
    | false =>
     cases b3 with
     | true=>exact Eq A c Ac cc nc n z q vb cb pb b4 op ty vr sc sp i' m' l' k' k0 n0 t0 w R h' j' ⟨I.out,G.out,O.out,c'.out,J.out,a'.out,Z.out,g'.out,d'.out,h.out,f'.out⟩ (jD (by rw[HR.out];simp))
     | false =>
      cases b4 with
      | true=>exact DX A c Ac cc nc n z q vb cb pb op ty vr sc sp i' m' l' k' k0 n0 t0 w R h' j' ⟨I.out,G.out,O.out,c'.out,J.out,a'.out,Z.out,g'.out,d'.out,h.out,f'.out⟩ (jD (by rw[HR.out];simp))
      | false =>
       exact Ds A c Ac cc nc n z q vb cb pb op ty vr sc sp i' m' l' k' k0 n0 t0 w R h' j' ⟨I.out,G.out,O.out,c'.out,J.out,a'.out,Z.out,g'.out,d'.out,h.out,f'.out⟩ (jD (by rw[HR.out,Mo jS,Mo jS];rfl))
theorem kC {D:Nat} {w:World} {A:Option Addr} {n c:Nat} {l:List Pt} (h:aU D w (.slice A n c) l):n=l.length/\∀(k:Nat) y,l[k]?=some y->∃e b o J O Ac nc cc,A=some ⟨b,o,none⟩/\D<=e+D/\aU D w (.slice J y.args.length O) y.args/\aK D w (.slice Ac nc cc) y.cond.args/\nc=y.cond.args.length /\
  w.cell? ⟨b,o+k*14,none⟩=some (Mk y.op)/\w.cell? ⟨b,o+k*14+1,none⟩=some (.slice J y.args.length O) /\
    w.cell? ⟨b,o+k*14+2,none⟩=some (Mk y.ty)/\w.cell? ⟨b,o+k*14+3,none⟩=some (Mk y.vr)/\w.cell? ⟨b,o+k*14+4,none⟩=some (Mk y.sc)/\w.cell? ⟨b,o+k*14+5,none⟩=some (Mk y.sp) /\
    w.cell? ⟨b,o+k*14+6,none⟩=some (Mk y.cond.op)/\w.cell? ⟨b,o+k*14+7,none⟩=some (.slice Ac nc cc)/\w.cell? ⟨b,o+k*14+8,none⟩=some (Mk y.cond.vr)/\w.cell? ⟨b,o+k*14+9,none⟩=some (Mk y.cond.fl)/\w.cell? ⟨b,o+k*14+10,none⟩=some (Mk y.cond.kd) /\
    w.cell? ⟨b,o+k*14+11,none⟩=some (Mk y.cond.val.kind)/\w.cell? ⟨b,o+k*14+12,none⟩=some (Mk y.cond.val.num)/\w.cell? ⟨b,o+k*14+13,none⟩=some (.string y.cond.val.text):=by
 obtain⟨A',c',hv,h1,h2,h3⟩:=h;injection hv with e1 e2 e3;subst e1 e2 e3;refine⟨rfl,fun k y hk=>?_⟩;obtain⟨b,o,rfl,hy⟩:=h3 k y hk;obtain⟨d',e',v',f',g',a',I,z,p⟩:=eo hy;have Z:=I;have G:=z;obtain⟨J,O,rfl,-⟩:=I;obtain⟨Ae,ce,rfl,-⟩:=z;exact⟨0,b,o,J,O,Ae,_,ce,rfl,by omega,kn om Z,gE om G,rfl,p⟩
theorem ph {D:Nat} {w:World} {A:Option Addr} {n c:Nat} {l:List Pt} (h:aU D w (.slice A n c) l):(n:Int)<=9223372036854775807:=by
 obtain⟨A',c',I,O,J,h3⟩:=h;injection I with z Z G;subst z Z G;exact ay O J
theorem qw (d:Nat) (x:Pt) (v vc:Value) (w:World) (hx:aU d w v x.args) (p':aK d w vc x.cond.args) (hN:ptB x<=1048576) :
  Mn 91 #[ptV x v vc] w (Mk (eY x)):=by
 have Y':=jM x;have k':=jD (fun (W:World) (hW:Mm w W)=>ni w d x v vc W hx p' om hW);have z':Hid (∀(k:Nat) (y:Pt) (u uc:Value) (W:World),(aY x)[k]?=some y->aU (d+3) W u y.args->aK (d+3) W uc y.cond.args->Mn 140 #[ptV y u uc] W (Mk (ptE y))) :=
  jD (fun k y u uc W hk h1 h2=>zl (d+3) y u uc W h1 h2 (by have:=mg y;have:=my x y (MI hk);omega))
 have h':=hx;have x':=p';obtain⟨A,c,rfl,-⟩:=hx;obtain⟨Ac,cc,rfl,-⟩:=p';have c':Hid (∀(W:World),Mm w W->Mn 87 #[ptV x (.slice A x.args.length c) (.slice Ac x.cond.args.length cc),Mk (64:Int)] W (Mk (bX 64 x))):=jD (fun W hW=>qL 64 dc d x _ Ac _ cc W (h'.stays (aB d) hW) om);have O:=jD (fun (W:World) (hW:Mm w W)=>oa d x (.slice A x.args.length c) Ac x.cond.args.length cc W (h'.stays (aB d) hW) om);obtain⟨n,hn⟩:=jF x.args.length;obtain⟨nc,P'⟩:=jF x.cond.args.length;rw[<-hn,<-P']at c' O k' ⊢;obtain⟨N,l'⟩:=jF (bX 64 x);obtain⟨D,j'⟩:=jF (ptD x);obtain⟨R,hR⟩:=jF (eY x);rw[<-l']at c';rw[<-j']at O;rw[<-hR];have O':=qm 64 x;rw[<-l']at O';have HR:Hid (R=if 64<N then 5 else if 12<D then 12 else dJ ((aY x).map ptE)):=jD (by
  rw[hR,j'];unfold eY
  by_cases h:64<ptN x
  ·rw[Mp h,Mp om]
  ·rw[Mo h,Mo (show ¬64<N by omega)])
 clear hR j' l' O' hn P' Y' hN h' x';unfold ptV at c' O k' z' ⊢;go_enter func91,ntmps91;go_wp2_with fail;refine (c'.out _ jB).mono ?_;rintro e w1 ⟨rfl,t'⟩;have g':=(bE t').1;have y':Cells w1 w.heap.size 0 (aM x (.slice A n c) (.slice Ac nc cc)):=fun j u hj=>by rw[MC,g'];exact (OY ..).trans hj
 have r':=jD (ab (af w _) t');clear g' t'
 by_cases n':64<N
 ·have J':(64:Int)<(N:Int):=by omega
  obtain rfl:R=5:=by rw[HR.out,Mp n']
  clear HR;exact fi r'.out
 have J':¬(64:Int)<(N:Int):=by omega
 obtain⟨p0,p1,p2,p3,p4,p5,p6,p7,p8,p9,J,f',d',Z⟩:=dU y';clear y';go_wp2_with fail;refine (O.out _ r'.out).mono ?_;rintro e w2 ⟨rfl,G⟩;have a':=jD (ab r'.out G);have A':Cells w2 w.heap.size 0 (aM x (.slice A n c) (.slice Ac nc cc)):=cU (aa G p0) (aa G p1) (aa G p2) (aa G p3) (aa G p4) (aa G p5) (aa G p6) (aa G p7) (aa G p8) (aa G p9) (aa G J) (aa G f') (aa G d') (aa G Z);clear G p0 p1 p2 p3 p4 p5 p6 p7 p8 p9 J f' d' Z
 by_cases H':12<D
 ·have E':(12:Int)<(D:Int):=by omega
  obtain rfl:R=12:=by rw[HR.out,Mo n',Mp H']
  clear HR;exact fi a'.out
 have E':¬(12:Int)<(D:Int):=by omega
 have B':Hid (R=dJ ((aY x).map ptE)):=jD (by rw[HR.out,Mo n',Mo H']);obtain⟨p0,p1,p2,p3,p4,p5,p6,p7,p8,p9,J,f',d',Z⟩:=dU A';clear HR A';go_wp2_with fail;refine (k'.out _ a'.out).mono ?_;intro e w3 hr;obtain⟨u,rfl,hu,D'⟩:=hr.is a'.out;obtain⟨Au,cu,rfl,-⟩:=id hu;obtain⟨hlen,I'⟩:=kC hu;have X':=ph hu;have G':=jD (ab a'.out D');have V':=jD I';obtain⟨m,hm⟩:=jF ((aY x).length);rw[<-hm]at X' ⊢;have HM:=jD hm;clear hm I' hlen hu D' hr p0 p1 p2 p3 p4 p5 p6 p7 p8 p9 J f' d' Z;go_wp2_with fail
 go_loopw [4] (fun i wr=>∃k:Nat,k<=m/\i=Mk k/\Hid ((∀y∈(aY x).take k,ptE y=0)/\Mm w3 wr)) (fun i _=>m-(intOf i).toNat)
 case atStart=>exact⟨0,Mu _,rfl,jD ⟨by simp,Mr _ _⟩⟩
 case round =>
  obtain⟨k,hk,rfl,hI⟩:=hrel
  by_cases Z':k<m
  ·have U':(k:Int)<(m:Int):=by omega
   obtain⟨a,ha⟩:∃a,(aY x)[k]?=some a:=⟨_,Mq (by have:=HM.out;omega)⟩;obtain⟨-,b,o,Av,cv,Ae,ne,ce,rfl,-,N',F',T',q0,q1,q2,q3,q4,q5,q6,q7,q8,q9,u',s',i',q'⟩:=V'.out k a ha;have I:=hI.out.2;have C':=jD (z'.out k a _ _ wr ha (N'.stays (aB _) I) (F'.stays (ai _) I));have HA:=jD ha;replace q0:=aa I q0;replace q1:=aa I q1;replace q2:=aa I q2;replace q3:=aa I q3;replace q4:=aa I q4;replace q5:=aa I q5;replace q6:=aa I q6;replace q7:=aa I q7;replace q8:=aa I q8;replace q9:=aa I q9;replace u':=aa I u';replace s':=aa I s';replace i':=aa I i';replace q':=aa I q';obtain⟨z,hz⟩:=jF (ptE a);rw[<-hz]at C';have HZ:=jD hz;clear N' F' T' I ha hz;go_wp2_with fail;refine C'.out.mono ?_;rintro e w4 ⟨rfl,S'⟩;have R':=jD S';clear S' q0 q1 q2 q3 q4 q5 q6 q7 q8 q9 u' s' i' q'
   by_cases m':z=0
   ·subst m';go_wp2_with fail
    go_roundw
    case rel=>exact⟨k+1,by omega,by go_num,jD ⟨lD hI.out.1 HA.out HZ.out.symm,ab hI.out.2 R'.out⟩⟩
    case measure=>simp[intOf];omega
   ·have H0:(z==0)=false:=jQ m';obtain rfl:R=z:=by rw[B'.out,HZ.out];exact ib HA.out hI.out.1 (by rw[<-HZ.out];exact m')
    go_wp2;go_ret;exact⟨rfl,ab G'.out (ab hI.out.2 R'.out)⟩
  ·have U':¬(k:Int)<(m:Int):=by omega
   obtain rfl:R=0:=by rw[B'.out];exact gQ (by have h:=hI.out.1;rw[show k=(aY x).length by have:=HM.out;omega,Nq]at h;exact h)
   exact fi (ab G'.out hI.out.2)
theorem wH (D:Nat) (l:List Pt) (v:Value) (w:World) (I:aU D w v l) :
  Calls prog 92 #[v] w fun e w'=>e=.returned (.bool (!l.any (fun y=>decide (8<=y.op))))/\Mm w w':=by
 obtain⟨R,hR⟩:=jF (!l.any (fun y=>decide (8<=y.op)));rw[<-hR];have HR:=jD hR;obtain⟨A,c,rfl,-⟩:=id I;obtain⟨-,G⟩:=kC I;have a':=ph I;have Z:=jD G;clear G hR I;go_enter func92,ntmps92;go_wp2
 go_loopw [3] (fun i wr=>∃k:Nat,k<=l.length/\i=Mk k/\Hid ((∀y∈l.take k,¬8<=y.op)/\Mm w wr)) (fun i _=>l.length-(intOf i).toNat)
 case atStart=>exact⟨0,Mu _,rfl,jD ⟨by simp,Mr _ _⟩⟩
 case round =>
  obtain⟨k,hk,rfl,z⟩:=hrel
  by_cases J:k<l.length
  ·have O:(k:Int)<(l.length:Int):=by omega
   obtain⟨a,ha⟩:∃a,l[k]?=some a:=⟨_,Mq J⟩;obtain⟨-,b,o,Av,cv,Ae,ne,ce,rfl,-,-,-,-,q0,-⟩:=Z.out k a ha;replace q0:=aa z.out.2 q0;have HA:=jD ha;clear ha
   by_cases h8:8<=a.op
   ·obtain rfl:R=false:=by
     rw[HR.out];simp only[NG,O7,MK];exact⟨a,MI HA.out,h8⟩
    go_wp2;go_ret;exact⟨rfl,z.out.2⟩
   ·go_wp2_with fail
    go_roundw
    case rel =>
     refine⟨k+1,by omega,by go_num,jD ⟨fun y hy=>?_,z.out.2⟩⟩;rw[bK HA.out,NC,NK]at hy;rcases hy with hy|rfl
     ·exact z.out.1 y hy
     ·exact h8
    case measure=>simp[intOf];omega
  ·have O:¬(k:Int)<(l.length:Int):=by omega
   obtain rfl:R=true:=by
    rw[HR.out];have h:=z.out.1;rw[Of om]at h;simp only[M4,OO,MK];exact h
   go_wp2;go_ret;exact⟨rfl,z.out.2⟩
def EC (x:Pt):Bool:=decide (ptN x<=150)&&(decide (ptD x<=60)&&(aY x).all (fun y=>uq y.cond))
theorem yJ {l:List Pt} {k:Nat} {y:Pt} (h:l[k]?=some y) (v s:Int):fg v s (l.drop k)=((!cD y.op || decide (y.vr=v))&&(!ft y.op || decide (y.sc=s))&&fg (if cD y.op then v+1 else v) (if ft y.op then s+1 else s) (l.drop (k+1))):=by
 obtain⟨z,rfl⟩:=List.getElem?_eq_some_iff.1 h;rw[Nd z,fg]
theorem wn (d:Nat) (x:Pt) (v vc:Value) (w:World) (hx:aU d w v x.args) (m':aK d w vc x.cond.args) (hN:ptB x<=1048576) :
  Mn 58 #[ptV x v vc] w (Mk (fq x)):=by
 have R0:=jM x;have x':=jD (fun (W:World) (Z:Mm w W)=>ni w d x v vc W hx m' om Z);have r':=jD (fun (W:World) (Z:Mm w W)=>qw d x v vc W (hx.stays (aB d) Z) (m'.stays (ai d) Z) hN);have B':=jD (fun (u:Value) (W:World) (h:aU (d+3) W u (aY x))=>wH (d+3) (aY x) u W h);have P':=jD (fun (y:Pt) (u:Value) (A:Option Addr) (n c:Nat) (W:World)=>qN y u A n c W);have G':=jD (fun (y:Pt) (u:Value) (A:Option Addr) (n c:Nat) (W:World)=>qr y u A n c W);have S':=jD (fun (y:Pt) (u:Value) (A:Option Addr) (n c:Nat) (W:World)=>wY y u A n c W);have J':Hid ((aY x).length<=1048576):=jD (by rw[fS];omega);obtain⟨A,c,rfl,-⟩:=id hx;obtain⟨Ac,cc,rfl,-⟩:=id m';obtain⟨n,hn⟩:=jF x.args.length;obtain⟨nc,O'⟩:=jF x.cond.args.length;rw[<-hn,<-O']at r' x' ⊢;obtain⟨z,hz⟩:=jF (eY x);obtain⟨R,hR⟩:=jF (fq x);obtain⟨q,hq⟩:=jF ((aY x).any (fun y=>decide (8<=y.op)));rw[<-hz]at r';rw[<-hR];rw[<-hq]at B';have HR:Hid (R=if z≠0 then z else if q=true then 1 else if fg 0 0 (aY x) then 0 else 14):=jD (by rw[hR,hz,hq];rfl);clear hR hz hq hn O' R0 hN hx m';unfold ptV at r' x' P' G' S' ⊢;go_enter func58,ntmps58;go_wp2_with fail;refine (r'.out _ jB).mono ?_;rintro e w1 ⟨rfl,z'⟩;have u':=(bE z').1;have D':Cells w1 w.heap.size 0 (aM x (.slice A n c) (.slice Ac nc cc)):=fun j u hj=>by rw[MC,u'];exact (OY ..).trans hj
 have p':=jD (ab (af w _) z');clear u' z'
 by_cases y':z=0
 case neg =>
  have X0:(z==0)=false:=jQ y';obtain rfl:R=z:=by rw[HR.out,Mp y']
  clear HR;exact fi p'.out
 subst y';obtain⟨p0,p1,p2,p3,p4,p5,p6,p7,p8,p9,V',Q0,K0,Y'⟩:=dU D';clear D';go_wp2_with fail;refine (x'.out _ p'.out).mono ?_;intro e w3 hr;obtain⟨u,rfl,hu,I'⟩:=hr.is p'.out;obtain⟨Au,cu,rfl,-⟩:=id hu;obtain⟨hlen,N'⟩:=kC hu;have H0:=ph hu;have d':=jD (ab p'.out I');have Z':=jD N';have F':=jD (B'.out _ w3 hu);obtain⟨m,hm⟩:=jF ((aY x).length);rw[<-hm]at H0 F' J' ⊢;have HM:=jD hm;clear hm N' hlen hu I' hr p0 p1 p2 p3 p4 p5 p6 p7 p8 p9 V' Q0 K0 Y';go_wp2_with fail;refine F'.out.mono ?_;rintro e w4 ⟨rfl,T'⟩;have a':=jD T';clear T'
 cases q with
 | true =>
  obtain rfl:R=1:=by rw[HR.out];rfl
  exact fi (ab d'.out a'.out)
 | false =>
 have g':Hid (R=if fg 0 0 (aY x) then 0 else 14):=jD (by rw[HR.out];rfl);clear HR;go_wp2_with fail
 go_loopw [5,6,7] (fun v s i wr=>∃(k V S:Nat),k<=m/\V<=k/\S<=k/\v=Mk V/\s=Mk S/\i=Mk k/\Hid (fg 0 0 (aY x)=fg V S ((aY x).drop k)/\Mm w4 wr)) (fun _ _ i _=>m-(intOf i).toNat)
 case atStart=>exact⟨0,0,0,Mu _,Mt _,Mt _,rfl,rfl,rfl,jD ⟨rfl,Mr _ _⟩⟩
 case round =>
  obtain⟨k,V,S,hk,hV,hS,rfl,rfl,rfl,hI⟩:=hrel
  by_cases V0:k<m
  ·have U':(k:Int)<(m:Int):=by omega
   obtain⟨a,ha⟩:∃a,(aY x)[k]?=some a:=⟨_,Mq (by have:=HM.out;omega)⟩;obtain⟨-,b,o,Av,cv,Ae,ne,ce,rfl,-,-,-,-,q0,q1,q2,q3,q4,q5,q6,q7,q8,q9,s',q',l',n'⟩:=Z'.out k a ha;have hb:=ab a'.out hI.out.2;replace q0:=aa hb q0;replace q1:=aa hb q1;replace q2:=aa hb q2;replace q3:=aa hb q3;replace q4:=aa hb q4;replace q5:=aa hb q5;replace q6:=aa hb q6;replace q7:=aa hb q7;replace q8:=aa hb q8;replace q9:=aa hb q9;replace s':=aa hb s';replace q':=aa hb q';replace l':=aa hb l';replace n':=aa hb n';have X':=J'.out;have U0:IntKind.i64.wrap ((V:Int)+1)=((V+1:Nat):Int):=by rw[show (V:Int)+1=((V+1:Nat):Int) by omega];exact bM om
   have S0:IntKind.i64.wrap ((S:Int)+1)=((S+1:Nat):Int):=by rw[show (S:Int)+1=((S+1:Nat):Int) by omega];exact bM om
   have hO:=yJ ha V S;have C':ft a.op=(rS a.op || fF a.op):=rfl;rw[C']at hO;obtain⟨tb,E'⟩:∃t,t=cD a.op:=⟨_,rfl⟩;obtain⟨nb,H'⟩:∃t,t=rS a.op:=⟨_,rfl⟩;obtain⟨pb,A'⟩:∃t,t=fF a.op:=⟨_,rfl⟩;have H1:=jD (fun W=>P'.out a (.slice Av a.args.length cv) Ae ne ce W);have H2:=jD (fun W=>G'.out a (.slice Av a.args.length cv) Ae ne ce W);have H3:=jD (fun W=>S'.out a (.slice Av a.args.length cv) Ae ne ce W);rw[<-E']at H1 hO;rw[<-H']at H2 hO;rw[<-A']at H3 hO;have HO:=jD hO;have J:=jD hI;have t':∀(W:World),Mm wr W->W.cell? ⟨b,o+k*14,none⟩=some (Mk a.op)/\W.cell? ⟨b,o+k*14+1,none⟩=some (.slice Av a.args.length cv) /\
    W.cell? ⟨b,o+k*14+2,none⟩=some (Mk a.ty)/\W.cell? ⟨b,o+k*14+3,none⟩=some (Mk a.vr)/\W.cell? ⟨b,o+k*14+4,none⟩=some (Mk a.sc)/\W.cell? ⟨b,o+k*14+5,none⟩=some (Mk a.sp) /\
    W.cell? ⟨b,o+k*14+6,none⟩=some (Mk a.cond.op)/\W.cell? ⟨b,o+k*14+7,none⟩=some (.slice Ae ne ce)/\W.cell? ⟨b,o+k*14+8,none⟩=some (Mk a.cond.vr)/\W.cell? ⟨b,o+k*14+9,none⟩=some (Mk a.cond.fl)/\W.cell? ⟨b,o+k*14+10,none⟩=some (Mk a.cond.kd) /\
    W.cell? ⟨b,o+k*14+11,none⟩=some (Mk a.cond.val.kind)/\W.cell? ⟨b,o+k*14+12,none⟩=some (Mk a.cond.val.num)/\W.cell? ⟨b,o+k*14+13,none⟩=some (.string a.cond.val.text):=fun _ Z=>⟨aa Z q0,aa Z q1,aa Z q2,aa Z q3,aa Z q4,aa Z q5,aa Z q6,aa Z q7,aa Z q8,aa Z q9,aa Z s',aa Z q',aa Z l',aa Z n'⟩
   have G:=jD t';clear E' H' A' hO ha hb X' hI t' C';go_wp2_with fail;refine (H1.out _).mono ?_;rintro e w5 ⟨rfl,R'⟩;have h':=jD R';clear R' q0 q1 q2 q3 q4 q5 q6 q7 q8 q9 s' q' l' n'
   cases tb with
   | true =>
    obtain⟨g0,g1,g2,g3,g4,g5,g6,g7,g8,g9,g10,g11,g12,g13⟩:=G.out _ h'.out
    by_cases hv:a.vr=(V:Int)
    case neg =>
     have P0:(a.vr != (V:Int))=true:=jQ hv;obtain rfl:R=14:=by rw[g'.out,J.out.1,HO.out,Mo (by simp[hv])]
     go_wp2;go_ret;exact⟨rfl,ab d'.out (ab a'.out (ab J.out.2 h'.out))⟩
    have P0:(a.vr != (V:Int))=false:=jQ hv;have i':=jD hv;clear hv;clear g0 g1 g2 g3 g4 g5 g6 g7 g8 g9 g10 g11 g12 g13;obtain⟨g0,g1,g2,g3,g4,g5,g6,g7,g8,g9,g10,g11,g12,g13⟩:=G.out _ h'.out;go_wp2_with fail;refine (H2.out _).mono ?_;rintro e w6 ⟨rfl,j'⟩;have I:=jD (ab h'.out j');clear j' g0 g1 g2 g3 g4 g5 g6 g7 g8 g9 g10 g11 g12 g13
    cases nb with
    | true =>
     obtain⟨g0,g1,g2,g3,g4,g5,g6,g7,g8,g9,g10,g11,g12,g13⟩:=G.out _ I.out
     by_cases hs:a.sc=(S:Int)
     case neg =>
      have c':(a.sc != (S:Int))=true:=jQ hs;obtain rfl:R=14:=by rw[g'.out,J.out.1,HO.out,Mo (by simp[i'.out,hs])]
      go_wp2;go_ret;exact⟨rfl,ab d'.out (ab a'.out (ab J.out.2 I.out))⟩
     have c':(a.sc != (S:Int))=false:=jQ hs;have f':=jD hs;clear hs;go_wp2_with fail
     go_roundw
     case rel =>
      refine⟨k+1,(V+1),(S+1),by omega,by omega,by omega,by go_num,by go_num,by go_num,jD ⟨?_,ab J.out.2 I.out⟩⟩;rw[J.out.1,HO.out];simp[i'.out,f'.out,Oe]
     case measure=>simp[intOf];omega
    | false =>
     obtain⟨g0,g1,g2,g3,g4,g5,g6,g7,g8,g9,g10,g11,g12,g13⟩:=G.out _ I.out;go_wp2_with fail;refine (H3.out _).mono ?_;rintro e w7 ⟨rfl,k'⟩;have O:=jD (ab I.out k');clear k' g0 g1 g2 g3 g4 g5 g6 g7 g8 g9 g10 g11 g12 g13
     cases pb with
     | true =>
      obtain⟨g0,g1,g2,g3,g4,g5,g6,g7,g8,g9,g10,g11,g12,g13⟩:=G.out _ O.out
      by_cases hs:a.sc=(S:Int)
      case neg =>
       have c':(a.sc != (S:Int))=true:=jQ hs;obtain rfl:R=14:=by rw[g'.out,J.out.1,HO.out,Mo (by simp[i'.out,hs])]
       go_wp2;go_ret;exact⟨rfl,ab d'.out (ab a'.out (ab J.out.2 O.out))⟩
      have c':(a.sc != (S:Int))=false:=jQ hs;have f':=jD hs;clear hs;go_wp2_with fail
      go_roundw
      case rel =>
       refine⟨k+1,(V+1),(S+1),by omega,by omega,by omega,by go_num,by go_num,by go_num,jD ⟨?_,ab J.out.2 O.out⟩⟩;rw[J.out.1,HO.out];simp[i'.out,f'.out,Oe]
      case measure=>simp[intOf];omega
     | false =>
      go_wp2_with fail
      go_roundw
      case rel =>
       refine⟨k+1,(V+1),S,by omega,by omega,by omega,by go_num,by go_num,by go_num,jD ⟨?_,ab J.out.2 O.out⟩⟩;rw[J.out.1,HO.out];simp[i'.out,Oe]
      case measure=>simp[intOf];omega
   | false =>
    obtain⟨g0,g1,g2,g3,g4,g5,g6,g7,g8,g9,g10,g11,g12,g13⟩:=G.out _ h'.out;go_wp2_with fail;refine (H2.out _).mono ?_;rintro e w6 ⟨rfl,j'⟩;have I:=jD (ab h'.out j');clear j' g0 g1 g2 g3 g4 g5 g6 g7 g8 g9 g10 g11 g12 g13
    cases nb with
    | true =>
     obtain⟨g0,g1,g2,g3,g4,g5,g6,g7,g8,g9,g10,g11,g12,g13⟩:=G.out _ I.out
     by_cases hs:a.sc=(S:Int)
     case neg =>
      have c':(a.sc != (S:Int))=true:=jQ hs;obtain rfl:R=14:=by rw[g'.out,J.out.1,HO.out,Mo (by simp[hs])]
      go_wp2;go_ret;exact⟨rfl,ab d'.out (ab a'.out (ab J.out.2 I.out))⟩
     have c':(a.sc != (S:Int))=false:=jQ hs;have f':=jD hs;clear hs;go_wp2_with fail
     go_roundw
     case rel =>
      refine⟨k+1,V,(S+1),by omega,by omega,by omega,by go_num,by go_num,by go_num,jD ⟨?_,ab J.out.2 I.out⟩⟩;rw[J.out.1,HO.out];simp[f'.out,Oe]
     case measure=>simp[intOf];omega
    | false =>
     obtain⟨g0,g1,g2,g3,g4,g5,g6,g7,g8,g9,g10,g11,g12,g13⟩:=G.out _ I.out;go_wp2_with fail;refine (H3.out _).mono ?_;rintro e w7 ⟨rfl,k'⟩;have O:=jD (ab I.out k');clear k' g0 g1 g2 g3 g4 g5 g6 g7 g8 g9 g10 g11 g12 g13
     cases pb with
     | true =>
      obtain⟨g0,g1,g2,g3,g4,g5,g6,g7,g8,g9,g10,g11,g12,g13⟩:=G.out _ O.out
      by_cases hs:a.sc=(S:Int)
      case neg =>
       have c':(a.sc != (S:Int))=true:=jQ hs;obtain rfl:R=14:=by rw[g'.out,J.out.1,HO.out,Mo (by simp[hs])]
       go_wp2;go_ret;exact⟨rfl,ab d'.out (ab a'.out (ab J.out.2 O.out))⟩
      have c':(a.sc != (S:Int))=false:=jQ hs;have f':=jD hs;clear hs;go_wp2_with fail
      go_roundw
      case rel =>
       refine⟨k+1,V,(S+1),by omega,by omega,by omega,by go_num,by go_num,by go_num,jD ⟨?_,ab J.out.2 O.out⟩⟩;rw[J.out.1,HO.out];simp[f'.out,Oe]
      case measure=>simp[intOf];omega
     | false =>
      go_wp2_with fail
      go_roundw
      case rel =>
       refine⟨k+1,V,S,by omega,by omega,by omega,by go_num,by go_num,by go_num,jD ⟨?_,ab J.out.2 O.out⟩⟩;rw[J.out.1,HO.out];simp[Oe]
      case measure=>simp[intOf];omega
  ·have U':¬(k:Int)<(m:Int):=by omega
   obtain rfl:R=0:=by
    have h:=hI.out.1;rw[No (by have:=HM.out;omega)]at h;rw[g'.out,h];simp[fg]
   go_wp2;go_ret;exact⟨rfl,ab d'.out (ab a'.out hI.out.2)⟩
theorem CM (d:Nat) (x:Pt) (v vc:Value) (w:World) (hx:aU d w v x.args) (m':aK d w vc x.cond.args) (hN:ptB x<=1048576) :
  Mn 54 #[ptV x v vc] w (.bool (EC x)):=by
 have X':=jM x;have k':=jD (fun (W:World) (hW:Mm w W)=>ni w d x v vc W hx m' om hW);have O':Hid (∀(k:Nat) (y:Pt) (u uc:Value) (W:World),(aY x)[k]?=some y->aK (d+3) W uc y.cond.args->Mn 90 #[exV y.cond uc] W (.bool (uq y.cond))) :=
  jD (fun k y _ uc W hk h2=>Dt (d+3) y.cond uc W h2 (by have:=mg y;have:=my x y (MI hk);omega))
 have h':=hx;have u':=m';obtain⟨A,c,rfl,-⟩:=hx;obtain⟨Ac,cc,rfl,-⟩:=m';have c':Hid (∀(W:World),Mm w W->Mn 87 #[ptV x (.slice A x.args.length c) (.slice Ac x.cond.args.length cc),Mk (150:Int)] W (Mk (bX 150 x))):=jD (fun W hW=>qL 150 dc d x _ Ac _ cc W (h'.stays (aB d) hW) om);have O:=jD (fun (W:World) (hW:Mm w W)=>oa d x (.slice A x.args.length c) Ac x.cond.args.length cc W (h'.stays (aB d) hW) om);obtain⟨n,hn⟩:=jF x.args.length;obtain⟨nc,J'⟩:=jF x.cond.args.length;rw[<-hn,<-J']at c' O k' ⊢;obtain⟨N,l'⟩:=jF (bX 150 x);obtain⟨D,j'⟩:=jF (ptD x);obtain⟨R,hR⟩:=jF (EC x);rw[<-l']at c';rw[<-j']at O;rw[<-hR];have p':=qm 150 x;rw[<-l']at p';have HR:Hid (R=(decide (N<=150)&&(decide (D<=60)&&(aY x).all (fun y=>uq y.cond)))):=jD (by
  rw[hR,j'];unfold EC;rw[decide_eq_decide.2 p'])
 have Z':N<=1048576/\D<=1048576:=by have:=gu 150 x;have:=Gn x;omega
 clear hR j' l' p' hn J' X' hN h' u';unfold ptV at c' O k' ⊢;unfold exV at O';go_enter func54,ntmps54;go_wp2_with fail;refine (c'.out _ jB).mono ?_;rintro e w1 ⟨rfl,s'⟩;have g':=(bE s').1;have x':Cells w1 w.heap.size 0 (aM x (.slice A n c) (.slice Ac nc cc)):=fun j u hj=>by rw[MC,g'];exact (OY ..).trans hj
 have q':=jD (ab (af w _) s');clear g' s'
 by_cases B':N<=150
 case neg =>
  have I':(150:Int)<(N:Int):=by omega
  obtain rfl:R=false:=by rw[HR.out];simp[B']
  clear HR;exact fi q'.out
 have I':¬(150:Int)<(N:Int):=by omega
 obtain⟨p0,p1,p2,p3,p4,p5,p6,p7,p8,p9,J,f',d',Z⟩:=dU x';clear x';go_wp2_with fail;refine (O.out _ q'.out).mono ?_;rintro e w2 ⟨rfl,G⟩;have a':=jD (ab q'.out G);have y':Cells w2 w.heap.size 0 (aM x (.slice A n c) (.slice Ac nc cc)):=cU (aa G p0) (aa G p1) (aa G p2) (aa G p3) (aa G p4) (aa G p5) (aa G p6) (aa G p7) (aa G p8) (aa G p9) (aa G J) (aa G f') (aa G d') (aa G Z);clear G p0 p1 p2 p3 p4 p5 p6 p7 p8 p9 J f' d' Z
 by_cases G':D<=60
 case neg =>
  have D':(60:Int)<(D:Int):=by omega
  obtain rfl:R=false:=by rw[HR.out];simp[G']
  clear HR;exact fi a'.out
 have D':¬(60:Int)<(D:Int):=by omega
 have z':Hid (R=(aY x).all (fun y=>uq y.cond)):=jD (by rw[HR.out,Nm B',Nm G',NW,NW]);obtain⟨p0,p1,p2,p3,p4,p5,p6,p7,p8,p9,J,f',d',Z⟩:=dU y';clear HR y';go_wp2_with fail;refine (k'.out _ a'.out).mono ?_;intro e w3 hr;obtain⟨u,rfl,hu,C'⟩:=hr.is a'.out;obtain⟨Au,cu,rfl,-⟩:=id hu;obtain⟨hlen,H'⟩:=kC hu;have V':=ph hu;have F':=jD (ab a'.out C');have T':=jD H';obtain⟨m,hm⟩:=jF ((aY x).length);rw[<-hm]at V' ⊢;have HM:=jD hm;clear hm H' hlen hu C' hr p0 p1 p2 p3 p4 p5 p6 p7 p8 p9 J f' d' Z;go_wp2_with fail
 go_loopw [4] (fun i wr=>∃k:Nat,k<=m/\i=Mk k/\Hid ((∀y∈(aY x).take k,uq y.cond=true)/\Mm w3 wr)) (fun i _=>m-(intOf i).toNat)
 case atStart=>exact⟨0,Mu _,rfl,jD ⟨by simp,Mr _ _⟩⟩
 case round =>
  obtain⟨k,hk,rfl,hI⟩:=hrel
  by_cases Y':k<m
  ·have S':(k:Int)<(m:Int):=by omega
   obtain⟨a,ha⟩:∃a,(aY x)[k]?=some a:=⟨_,Mq (by have:=HM.out;omega)⟩;obtain⟨-,b,o,Av,cv,Ae,ne,ce,rfl,-,U',E',R',q0,q1,q2,q3,q4,q5,q6,q7,q8,q9,t',r',i',n'⟩:=T'.out k a ha;have I:=hI.out.2;have A':=jD (O'.out k a (.slice none 0 0) _ wr ha (E'.stays (ai _) I));have HA:=jD ha;replace q6:=aa I q6;replace q7:=aa I q7;replace q8:=aa I q8;replace q9:=aa I q9;replace t':=aa I t';replace r':=aa I r';replace i':=aa I i';replace n':=aa I n';obtain⟨z,hz⟩:=jF (uq a.cond);rw[<-hz]at A';have HZ:=jD hz;clear q0 q1 q2 q3 q4 q5 ha U' E' R' hz;go_wp2_with fail;refine A'.out.mono ?_;rintro e w4 ⟨rfl,P'⟩;have N':=jD (ab I P');clear P' q6 q7 q8 q9 t' r' i' n'
   cases z with
   | true =>
    go_wp2_with fail
    go_roundw
    case rel =>
     refine⟨k+1,by omega,by go_num,jD ⟨fun y hy=>?_,N'.out⟩⟩;rw[bK HA.out,NC,NK]at hy;rcases hy with hy|rfl
     ·exact hI.out.1 y hy
     ·exact HZ.out.symm
    case measure=>simp[intOf];omega
   | false =>
    obtain rfl:R=false:=by
     rw[z'.out,List.all_eq_false];exact⟨a,MI HA.out,by rw[<-HZ.out];simp⟩
    exact fi (ab F'.out N'.out)
  ·have S':¬(k:Int)<(m:Int):=by omega
   obtain rfl:R=true:=by
    have h:=hI.out.1;rw[Of (by have:=HM.out;omega)]at h;rw[z'.out,Pi];exact h
   exact fi (ab F'.out hI.out.2)
end Go.Proofs.YtbjicljfjkdeeaaGreatDoor
