/- Part. -/
import Derived.Deep.MidRow
import Derived.Test.YtokconodddedhaaGreatDoorQ44
set_option maxRecDepth 100000
set_option maxHeartbeats 16000000
set_option linter.unusedVariables false
set_option linter.unusedSimpArgs false
namespace Go.Proofs.YtokconodddedhaaGreatDoor
open Go.Proofs.Tryz Go.RowKit
structure Kj (p:Prop):Prop where
 out:p
theorem tz {P:Program} {ops:Array Oper} {l:List Oper} {a:Act} {w:World} {Q:Exit->Act->World->Prop} {o:Oper} (t:TypeId) (u:Operand) (_:o.op=.load t u) (h:Kj (wpList P ops Q (o::l) a w)):wpList P ops Q (o::l) a w:=h.out
theorem tV {P:Program} {ops:Array Oper} {l:List Oper} {a:Act} {w:World} {Q:Exit->Act->World->Prop} (h:∀W,W=w->wpList P ops Q l a W):wpList P ops Q l a w:=h w rfl
theorem Jm {α:Type} {R:World->Nat->Nat->α->Prop} {sz:Nat} {w:World} {v:Value} {l:List α} (h:Sl R sz w v l):(l.length:Int)<=9223372036854775807:=by
 obtain⟨A,c,e,z,D,F⟩:=h;exact ax z D
theorem Iz {w:World} {Q:Nat} {a b c r:Value} {p:List Value} (h:w.heap[Q]?=some (.cells (a::b::c::(p++[r])).toArray 33 (0,0))):w.rangeAt Q 3 p:=fun j u z=>by
 rw[af h,Nb];show (p++[r])[j]?=some u;rw[LR (List.getElem?_eq_some_iff.1 z).1,z]
def uy (x:Ex):Bool:=decide (aM x<=200)&&decide (dy x<=100)
theorem Cu (d:Nat) (x:Ex) (v:Value) (w:World) (Z:aF d w v x.args) (hN:aM x<=1048576) :
  KZ 66 #[exV x v] w (.bool (uy x)):=by
 have I:Hid (∀W:World,KY w W->KZ 119 #[exV x v,KW 200] W (KW (db 200 x))):=jD (fun W hW=>pN 200 dc d x v W (Z.stays (ai d) hW) hN);have G:=jD (fun (W:World) (hW:KY w W)=>qR d x v W (Z.stays (ai d) hW) hN);obtain⟨R,hR⟩:=jE (uy x);obtain⟨p,hp⟩:=jE (db 200 x);obtain⟨q,hq⟩:=jE (dy x);have HR:Hid (R=(decide (p<=200)&&decide (q<=100))):=jD (by rw[<-hR,<-hp,<-hq];unfold uy;have:=qt 200 x;simp only[this]);rw[hR];rw[hp]at I;rw[hq]at G;obtain⟨op,l,vr,fl,kd,⟨k0,n0,t0⟩⟩:=x;obtain⟨A,c,rfl,-⟩:=Z;unfold exV at *;simp only[Ex.args,Ex.op,Ex.vr,Ex.fl,Ex.kd,Ex.val]at *;clear hR hp hq hN;go_enter func66,ntmps66;go_wp2_with fail;refine (I.out _ (ag _ _)).mono ?_;rintro e z ⟨rfl,F⟩;have h:=(aY F).1;have y0:z.cell? ⟨w.heap.size,0,none⟩=some (KW op):=by rw[h];rfl
 have y1:z.cell? ⟨w.heap.size,1,none⟩=some (.slice A l.length c):=by rw[h];rfl
 have y2:z.cell? ⟨w.heap.size,2,none⟩=some (KW vr):=by rw[h];rfl
 have y3:z.cell? ⟨w.heap.size,3,none⟩=some (KW fl):=by rw[h];rfl
 have y4:z.cell? ⟨w.heap.size,4,none⟩=some (KW kd):=by rw[h];rfl
 have y5:z.cell? ⟨w.heap.size,5,none⟩=some (KW k0):=by rw[h];rfl
 have y6:z.cell? ⟨w.heap.size,6,none⟩=some (KW n0):=by rw[h];rfl
 have y7:z.cell? ⟨w.heap.size,7,none⟩=some (.string t0):=by rw[h];rfl
 have D:=jD (ab (ag w _) F);clear h F
 by_cases J:p<=200
 case neg =>
  obtain rfl:R=false:=by rw[HR.out];simp[J]
  have a':¬(p:Int)<=(200:Int):=by omega
  clear J HR;exact fi D.out
 have a':(p:Int)<=(200:Int):=by omega
 have HP:=jD J;clear J;go_wp2_with fail;refine (G.out _ D.out).mono ?_;rintro e w3 ⟨rfl,O⟩;go_wp2;go_ret;exact⟨by rw[HR.out];simp[HP.out];omega,ab D.out O⟩
def I8 (x:Pt):Bool:=decide (ptN x<=150)&&(decide (ptD x<=60)&&(aO x).all (fun y=>uy y.cond))
theorem wU {l:List Pt} {k:Nat} {y:Pt} (h:l[k]?=some y) (v s:Int):dY v s (l.drop k)=((!bX y.op || decide (y.vr=v))&&(!fz y.op || decide (y.sc=s))&&dY (if bX y.op then v+1 else v) (if fz y.op then s+1 else s) (l.drop (k+1))):=by
 obtain⟨z,rfl⟩:=List.getElem?_eq_some_iff.1 h;rw[Lr z,dY]
theorem wH (d:Nat) (x:Pt) (v vc:Value) (w:World) (hx:aW d w v x.args) (l':aF d w vc x.cond.args) (hN:ptB x<=1048576) :
  KZ 85 #[ptV x v vc] w (KW (cK x)):=by
 have P':=ld x;have u':=jD (fun (W:World) (hW:KY w W)=>nN w d x v vc W hx l' om hW);have q':=jD (fun (W:World) (hW:KY w W)=>rh d x v vc W (hx.stays (aB d) hW) (l'.stays (ai d) hW) hN);have C':=jD (fun (u:Value) (W:World) (h:aW (d+3) W u (aO x))=>xq (d+3) (aO x) u W h);have O':=jD (fun (y:Pt) (u:Value) (A:Option Addr) (n c:Nat) (W:World)=>pF y u A n c W);have G':=jD (fun (y:Pt) (u:Value) (A:Option Addr) (n c:Nat) (W:World)=>rd y u A n c W);have F':=jD (fun (y:Pt) (u:Value) (A:Option Addr) (n c:Nat) (W:World)=>wT y u A n c W);have I':Hid ((aO x).length<=1048576):=jD (by rw[dh];omega);obtain⟨A,c,rfl,-⟩:=id hx;obtain⟨Ac,cc,rfl,-⟩:=id l';obtain⟨n,hn⟩:=jF x.args.length;obtain⟨nc,M'⟩:=jF x.cond.args.length;rw[<-hn,<-M']at q' u' ⊢;obtain⟨z,hz⟩:=jF (fc x);obtain⟨R,hR⟩:=jF (cK x);obtain⟨q,hq⟩:=jF ((aO x).any (fun y=>decide (8<=y.op)));rw[<-hz]at q';rw[<-hR];rw[<-hq]at C';have HR:Hid (R=if z≠0 then z else if q=true then 1 else if dY 0 0 (aO x) then 0 else 14):=jD (by rw[hR,hz,hq];rfl);clear hR hz hq hn M' P' hN hx l';unfold ptV at q' u' O' G' F' ⊢;go_enter func85,ntmps85;go_wp2_with fail;refine (q'.out _ jB).mono ?_;rintro e w1 ⟨rfl,t'⟩;have s':=(aY t').1;have J':Cells w1 w.heap.size 0 (aQ x (.slice A n c) (.slice Ac nc cc)):=fun j u hj=>by rw[Lu,s'];exact (NF ..).trans hj
 have r':=jD (ab (ag w _) t');clear s' t'
 by_cases x':z=0
 case neg =>
  have N0:(z==0)=false:=jQ x';obtain rfl:R=z:=by rw[HR.out,K7 x']
  clear HR;exact fi r'.out
 subst x';obtain⟨p0,p1,p2,p3,p4,p5,p6,p7,p8,p9,A0,Y',T',V'⟩:=dv J';clear J';go_wp2_with fail;refine (u'.out _ r'.out).mono ?_;intro e w3 hr;obtain⟨u,rfl,hu,L'⟩:=hr.is r'.out;obtain⟨Au,cu,rfl,-⟩:=id hu;obtain⟨hlen,N'⟩:=kI hu;have U':=pD hu;have e':=jD (ab r'.out L');have X':=jD N';have E':=jD (C'.out _ w3 hu);obtain⟨m,hm⟩:=jF ((aO x).length);rw[<-hm]at U' E' I' ⊢;have HM:=jD hm;clear hm N' hlen hu L' hr p0 p1 p2 p3 p4 p5 p6 p7 p8 p9 A0 Y' T' V';go_wp2_with fail;refine E'.out.mono ?_;rintro e w4 ⟨rfl,y'⟩;have b':=jD y';clear y'
 cases q with
 | true =>
  obtain rfl:R=1:=by rw[HR.out];rfl
  exact fi (ab e'.out b'.out)
 | false =>
 have g':Hid (R=if dY 0 0 (aO x) then 0 else 14):=jD (by rw[HR.out];rfl);clear HR;go_wp2_with fail
 go_loopw [5,6,7] (fun v s i wr=>∃(k V S:Nat),k<=m/\V<=k/\S<=k/\v=KW V/\s=KW S/\i=KW k/\Hid (dY 0 0 (aO x)=dY V S ((aO x).drop k)/\KY w4 wr)) (fun _ _ i _=>m-(intOf i).toNat)
 case atStart=>exact⟨0,0,0,Lb _,Ld _,Ld _,rfl,rfl,rfl,jD ⟨rfl,La _ _⟩⟩
 case round =>
  obtain⟨k,V,S,hk,hV,hS,rfl,rfl,rfl,hI⟩:=hrel
  by_cases K0:k<m
  ·have S':(k:Int)<(m:Int):=by omega
   obtain⟨a,ha⟩:∃a,(aO x)[k]?=some a:=⟨_,K9 (by have:=HM.out;omega)⟩;obtain⟨-,b,o,Av,cv,Ae,ne,ce,rfl,-,-,-,-,q0,q1,q2,q3,q4,q5,q6,q7,q8,q9,p',n',m',k'⟩:=X'.out k a ha;have hb:=ab b'.out hI.out.2;replace q0:=aa hb q0;replace q1:=aa hb q1;replace q2:=aa hb q2;replace q3:=aa hb q3;replace q4:=aa hb q4;replace q5:=aa hb q5;replace q6:=aa hb q6;replace q7:=aa hb q7;replace q8:=aa hb q8;replace q9:=aa hb q9;replace p':=aa hb p';replace n':=aa hb n';replace m':=aa hb m';replace k':=aa hb k';have Z':=I'.out;have H0:IntKind.i64.wrap ((V:Int)+1)=((V+1:Nat):Int):=by rw[show (V:Int)+1=((V+1:Nat):Int) by omega];exact dM om
   have O0:IntKind.i64.wrap ((S:Int)+1)=((S+1:Nat):Int):=by rw[show (S:Int)+1=((S+1:Nat):Int) by omega];exact dM om
   have hO:=wU ha V S;have D':fz a.op=(rM a.op || fB a.op):=rfl;rw[D']at hO;obtain⟨tb,B'⟩:∃t,t=bX a.op:=⟨_,rfl⟩;obtain⟨nb,A'⟩:∃t,t=rM a.op:=⟨_,rfl⟩;obtain⟨pb,H'⟩:∃t,t=fB a.op:=⟨_,rfl⟩;have H1:=jD (fun W=>O'.out a (.slice Av a.args.length cv) Ae ne ce W);have H2:=jD (fun W=>G'.out a (.slice Av a.args.length cv) Ae ne ce W);have H3:=jD (fun W=>F'.out a (.slice Av a.args.length cv) Ae ne ce W);rw[<-B']at H1 hO;rw[<-A']at H2 hO;rw[<-H']at H3 hO;have HO:=jD hO;have Z:=jD hI;have keep:∀(W:World),KY wr W->W.cell? ⟨b,o+k*14,none⟩=some (KW a.op)/\W.cell? ⟨b,o+k*14+1,none⟩=some (.slice Av a.args.length cv) /\
    W.cell? ⟨b,o+k*14+2,none⟩=some (KW a.ty)/\W.cell? ⟨b,o+k*14+3,none⟩=some (KW a.vr)/\W.cell? ⟨b,o+k*14+4,none⟩=some (KW a.sc)/\W.cell? ⟨b,o+k*14+5,none⟩=some (KW a.sp) /\
    W.cell? ⟨b,o+k*14+6,none⟩=some (KW a.cond.op)/\W.cell? ⟨b,o+k*14+7,none⟩=some (.slice Ae ne ce)/\W.cell? ⟨b,o+k*14+8,none⟩=some (KW a.cond.vr)/\W.cell? ⟨b,o+k*14+9,none⟩=some (KW a.cond.fl)/\W.cell? ⟨b,o+k*14+10,none⟩=some (KW a.cond.kd) /\
    W.cell? ⟨b,o+k*14+11,none⟩=some (KW a.cond.val.kind)/\W.cell? ⟨b,o+k*14+12,none⟩=some (KW a.cond.val.num)/\W.cell? ⟨b,o+k*14+13,none⟩=some (.string a.cond.val.text):=fun _ hW=>⟨aa hW q0,aa hW q1,aa hW q2,aa hW q3,aa hW q4,aa hW q5,aa hW q6,aa hW q7,aa hW q8,aa hW q9,aa hW p',aa hW n',aa hW m',aa hW k'⟩
   have D:=jD keep;clear B' A' H' hO ha hb Z' hI keep D';go_wp2_with fail;refine (H1.out _).mono ?_;rintro e w5 ⟨rfl,z'⟩;have f':=jD z';clear z' q0 q1 q2 q3 q4 q5 q6 q7 q8 q9 p' n' m' k'
   cases tb with
   | true =>
    obtain⟨g0,g1,g2,g3,g4,g5,g6,g7,g8,g9,F,G,I,J⟩:=D.out _ f'.out
    by_cases hv:a.vr=(V:Int)
    case neg =>
     have R':(a.vr != (V:Int))=true:=jQ hv;obtain rfl:R=14:=by rw[g'.out,Z.out.1,HO.out,K6 (by simp[hv])]
     go_wp2;go_ret;exact⟨rfl,ab e'.out (ab b'.out (ab Z.out.2 f'.out))⟩
    have R':(a.vr != (V:Int))=false:=jQ hv;have i':=jD hv;clear hv;clear g0 g1 g2 g3 g4 g5 g6 g7 g8 g9 F G I J;obtain⟨g0,g1,g2,g3,g4,g5,g6,g7,g8,g9,F,G,I,J⟩:=D.out _ f'.out;go_wp2_with fail;refine (H2.out _).mono ?_;rintro e w6 ⟨rfl,j'⟩;have O:=jD (ab f'.out j');clear j' g0 g1 g2 g3 g4 g5 g6 g7 g8 g9 F G I J
    cases nb with
    | true =>
     obtain⟨g0,g1,g2,g3,g4,g5,g6,g7,g8,g9,F,G,I,J⟩:=D.out _ O.out
     by_cases hs:a.sc=(S:Int)
     case neg =>
      have c':(a.sc != (S:Int))=true:=jQ hs;obtain rfl:R=14:=by rw[g'.out,Z.out.1,HO.out,K6 (by simp[i'.out,hs])]
      go_wp2;go_ret;exact⟨rfl,ab e'.out (ab b'.out (ab Z.out.2 O.out))⟩
     have c':(a.sc != (S:Int))=false:=jQ hs;have d':=jD hs;clear hs;go_wp2_with fail
     go_roundw
     case rel =>
      refine⟨k+1,(V+1),(S+1),by omega,by omega,by omega,by go_num,by go_num,by go_num,jD ⟨?_,ab Z.out.2 O.out⟩⟩;rw[Z.out.1,HO.out];simp[i'.out,d'.out,MF]
     case measure=>simp[intOf];omega
    | false =>
     obtain⟨g0,g1,g2,g3,g4,g5,g6,g7,g8,g9,F,G,I,J⟩:=D.out _ O.out;go_wp2_with fail;refine (H3.out _).mono ?_;rintro e w7 ⟨rfl,h'⟩;have a':=jD (ab O.out h');clear h' g0 g1 g2 g3 g4 g5 g6 g7 g8 g9 F G I J
     cases pb with
     | true =>
      obtain⟨g0,g1,g2,g3,g4,g5,g6,g7,g8,g9,F,G,I,J⟩:=D.out _ a'.out
      by_cases hs:a.sc=(S:Int)
      case neg =>
       have c':(a.sc != (S:Int))=true:=jQ hs;obtain rfl:R=14:=by rw[g'.out,Z.out.1,HO.out,K6 (by simp[i'.out,hs])]
       go_wp2;go_ret;exact⟨rfl,ab e'.out (ab b'.out (ab Z.out.2 a'.out))⟩
      have c':(a.sc != (S:Int))=false:=jQ hs;have d':=jD hs;clear hs;go_wp2_with fail
      go_roundw
      case rel =>
       refine⟨k+1,(V+1),(S+1),by omega,by omega,by omega,by go_num,by go_num,by go_num,jD ⟨?_,ab Z.out.2 a'.out⟩⟩;rw[Z.out.1,HO.out];simp[i'.out,d'.out,MF]
      case measure=>simp[intOf];omega
     | false =>
      go_wp2_with fail
      go_roundw
      case rel =>
       refine⟨k+1,(V+1),S,by omega,by omega,by omega,by go_num,by go_num,by go_num,jD ⟨?_,ab Z.out.2 a'.out⟩⟩;rw[Z.out.1,HO.out];simp[i'.out,MF]
      case measure=>simp[intOf];omega
   | false =>
    obtain⟨g0,g1,g2,g3,g4,g5,g6,g7,g8,g9,F,G,I,J⟩:=D.out _ f'.out;go_wp2_with fail;refine (H2.out _).mono ?_;rintro e w6 ⟨rfl,j'⟩;have O:=jD (ab f'.out j');clear j' g0 g1 g2 g3 g4 g5 g6 g7 g8 g9 F G I J
    cases nb with
    | true =>
     obtain⟨g0,g1,g2,g3,g4,g5,g6,g7,g8,g9,F,G,I,J⟩:=D.out _ O.out
     by_cases hs:a.sc=(S:Int)
     case neg =>
      have c':(a.sc != (S:Int))=true:=jQ hs;obtain rfl:R=14:=by rw[g'.out,Z.out.1,HO.out,K6 (by simp[hs])]
      go_wp2;go_ret;exact⟨rfl,ab e'.out (ab b'.out (ab Z.out.2 O.out))⟩
     have c':(a.sc != (S:Int))=false:=jQ hs;have d':=jD hs;clear hs;go_wp2_with fail
     go_roundw
     case rel =>
      refine⟨k+1,V,(S+1),by omega,by omega,by omega,by go_num,by go_num,by go_num,jD ⟨?_,ab Z.out.2 O.out⟩⟩;rw[Z.out.1,HO.out];simp[d'.out,MF]
     case measure=>simp[intOf];omega
    | false =>
     obtain⟨g0,g1,g2,g3,g4,g5,g6,g7,g8,g9,F,G,I,J⟩:=D.out _ O.out;go_wp2_with fail;refine (H3.out _).mono ?_;rintro e w7 ⟨rfl,h'⟩;have a':=jD (ab O.out h');clear h' g0 g1 g2 g3 g4 g5 g6 g7 g8 g9 F G I J
     cases pb with
     | true =>
      obtain⟨g0,g1,g2,g3,g4,g5,g6,g7,g8,g9,F,G,I,J⟩:=D.out _ a'.out
      by_cases hs:a.sc=(S:Int)
      case neg =>
       have c':(a.sc != (S:Int))=true:=jQ hs;obtain rfl:R=14:=by rw[g'.out,Z.out.1,HO.out,K6 (by simp[hs])]
       go_wp2;go_ret;exact⟨rfl,ab e'.out (ab b'.out (ab Z.out.2 a'.out))⟩
      have c':(a.sc != (S:Int))=false:=jQ hs;have d':=jD hs;clear hs;go_wp2_with fail
      go_roundw
      case rel =>
       refine⟨k+1,V,(S+1),by omega,by omega,by omega,by go_num,by go_num,by go_num,jD ⟨?_,ab Z.out.2 a'.out⟩⟩;rw[Z.out.1,HO.out];simp[d'.out,MF]
      case measure=>simp[intOf];omega
     | false =>
      go_wp2_with fail
      go_roundw
      case rel =>
       refine⟨k+1,V,S,by omega,by omega,by omega,by go_num,by go_num,by go_num,jD ⟨?_,ab Z.out.2 a'.out⟩⟩;rw[Z.out.1,HO.out];simp[MF]
      case measure=>simp[intOf];omega
  ·have S':¬(k:Int)<(m:Int):=by omega
   obtain rfl:R=0:=by
    have h:=hI.out.1;rw[Lq (by have:=HM.out;omega)]at h;rw[g'.out,h];simp[dY]
   go_wp2;go_ret;exact⟨rfl,ab e'.out (ab b'.out hI.out.2)⟩
theorem CI (d:Nat) (x:Pt) (v vc:Value) (w:World) (hx:aW d w v x.args) (i':aF d w vc x.cond.args) (hN:ptB x<=1048576) :
  KZ 29 #[ptV x v vc] w (.bool (I8 x)):=by
 have M':=ld x;have n':=jD (fun (W:World) (hW:KY w W)=>nN w d x v vc W hx i' om hW);have r':Hid (∀(k:Nat) (y:Pt) (u uc:Value) (W:World),(aO x)[k]?=some y->aF (d+3) W uc y.cond.args->KZ 66 #[exV y.cond uc] W (.bool (uy y.cond))) :=
  jD (fun k y _ uc W hk h2=>Cu (d+3) y.cond uc W h2 (by have:=ma y;have:=kC x y (Li hk);omega))
 have h':=hx;have s':=i';obtain⟨A,c,rfl,-⟩:=hx;obtain⟨Ac,cc,rfl,-⟩:=i';have I:Hid (∀(W:World),KY w W->KZ 63 #[ptV x (.slice A x.args.length c) (.slice Ac x.cond.args.length cc),KW (150:Int)] W (KW (de 150 x))):=jD (fun W hW=>pV 150 dc d x _ Ac _ cc W (h'.stays (aB d) hW) om);have O:=jD (fun (W:World) (hW:KY w W)=>oH d x (.slice A x.args.length c) Ac x.cond.args.length cc W (h'.stays (aB d) hW) om);obtain⟨n,hn⟩:=jF x.args.length;obtain⟨nc,I'⟩:=jF x.cond.args.length;rw[<-hn,<-I']at I O n' ⊢;obtain⟨N,f'⟩:=jF (de 150 x);obtain⟨D,p'⟩:=jF (ptD x);obtain⟨R,hR⟩:=jF (I8 x);rw[<-f']at I;rw[<-p']at O;rw[<-hR];have e':=qo 150 x;rw[<-f']at e';have HR:Hid (R=(decide (N<=150)&&(decide (D<=60)&&(aO x).all (fun y=>uy y.cond)))):=jD (by
  rw[hR,p'];unfold I8;rw[decide_eq_decide.2 e'])
 have S':N<=1048576/\D<=1048576:=by have:=gq 150 x;have:=GA x;omega
 clear hR p' f' e' hn I' M' hN h' s';unfold ptV at I O n' ⊢;unfold exV at r';go_enter func29,ntmps29;go_wp2_with fail;refine (I.out _ jB).mono ?_;rintro e w1 ⟨rfl,m'⟩;have d':=(aY m').1;have E':Cells w1 w.heap.size 0 (aQ x (.slice A n c) (.slice Ac nc cc)):=fun j u hj=>by rw[Lu,d'];exact (NF ..).trans hj
 have q':=jD (ab (ag w _) m');clear d' m'
 by_cases G':N<=150
 case neg =>
  have C':(150:Int)<(N:Int):=by omega
  obtain rfl:R=false:=by rw[HR.out];simp[G']
  clear HR;exact fi q'.out
 have C':¬(150:Int)<(N:Int):=by omega
 obtain⟨p0,p1,p2,p3,p4,p5,p6,p7,p8,p9,c',b',Z,a'⟩:=dv E';clear E';go_wp2_with fail;refine (O.out _ q'.out).mono ?_;rintro e w2 ⟨rfl,F⟩;have J:=jD (ab q'.out F);have B':Cells w2 w.heap.size 0 (aQ x (.slice A n c) (.slice Ac nc cc)):=ci (aa F p0) (aa F p1) (aa F p2) (aa F p3) (aa F p4) (aa F p5) (aa F p6) (aa F p7) (aa F p8) (aa F p9) (aa F c') (aa F b') (aa F Z) (aa F a');clear F p0 p1 p2 p3 p4 p5 p6 p7 p8 p9 c' b' Z a'
 by_cases y':D<=60
 case neg =>
  have t':(60:Int)<(D:Int):=by omega
  obtain rfl:R=false:=by rw[HR.out];simp[y']
  clear HR;exact fi J.out
 have t':¬(60:Int)<(D:Int):=by omega
 have z':Hid (R=(aO x).all (fun y=>uy y.cond)):=jD (by rw[HR.out,Nc G',Nc y',L5,L5]);obtain⟨p0,p1,p2,p3,p4,p5,p6,p7,p8,p9,c',b',Z,a'⟩:=dv B';clear HR B';go_wp2_with fail;refine (n'.out _ J.out).mono ?_;intro e w3 hr;obtain⟨u,rfl,hu,F'⟩:=hr.is J.out;obtain⟨Au,cu,rfl,-⟩:=id hu;obtain⟨hlen,J'⟩:=kI hu;have O':=pD hu;have D':=jD (ab J.out F');have R':=jD J';obtain⟨m,hm⟩:=jF ((aO x).length);rw[<-hm]at O' ⊢;have HM:=jD hm;clear hm J' hlen hu F' hr p0 p1 p2 p3 p4 p5 p6 p7 p8 p9 c' b' Z a';go_wp2_with fail
 go_loopw [4] (fun i wr=>∃k:Nat,k<=m/\i=KW k/\Hid ((∀y∈(aO x).take k,uy y.cond=true)/\KY w3 wr)) (fun i _=>m-(intOf i).toNat)
 case atStart=>exact⟨0,Lb _,rfl,jD ⟨by simp,La _ _⟩⟩
 case round =>
  obtain⟨k,hk,rfl,hI⟩:=hrel
  by_cases T':k<m
  ·have N':(k:Int)<(m:Int):=by omega
   obtain⟨a,ha⟩:∃a,(aO x)[k]?=some a:=⟨_,K9 (by have:=HM.out;omega)⟩;obtain⟨-,b,o,Av,cv,Ae,ne,ce,rfl,-,L',A',P',q0,q1,q2,q3,q4,q5,q6,q7,q8,q9,l',k',j',g'⟩:=R'.out k a ha;have G:=hI.out.2;have x':=jD (r'.out k a (.slice none 0 0) _ wr ha (A'.stays (ai _) G));have HA:=jD ha;replace q6:=aa G q6;replace q7:=aa G q7;replace q8:=aa G q8;replace q9:=aa G q9;replace l':=aa G l';replace k':=aa G k';replace j':=aa G j';replace g':=aa G g';obtain⟨z,hz⟩:=jF (uy a.cond);rw[<-hz]at x';have HZ:=jD hz;clear q0 q1 q2 q3 q4 q5 ha L' A' P' hz;go_wp2_with fail;refine x'.out.mono ?_;rintro e w4 ⟨rfl,u'⟩;have H':=jD (ab G u');clear u' q6 q7 q8 q9 l' k' j' g'
   cases z with
   | true =>
    go_wp2_with fail
    go_roundw
    case rel =>
     refine⟨k+1,by omega,by go_num,jD ⟨fun y hy=>?_,H'.out⟩⟩;rw[bZ HA.out,L0,Lz]at hy;rcases hy with hy|rfl
     ·exact hI.out.1 y hy
     ·exact HZ.out.symm
    case measure=>simp[intOf];omega
   | false =>
    obtain rfl:R=false:=by
     rw[z'.out,List.all_eq_false];exact⟨a,Li HA.out,by rw[<-HZ.out];simp⟩
    exact fi (ab D'.out H'.out)
  ·have N':¬(k:Int)<(m:Int):=by omega
   obtain rfl:R=true:=by
    have h:=hI.out.1;rw[Mn (by have:=HM.out;omega)]at h;rw[z'.out,M7];exact h
   exact fi (ab D'.out hI.out.2)
theorem og (d:Nat) (q:Qry) (l:List Evt) (vv vk va vc vr vl:Value) (w:World) (z:PartAsk d w q l vv vk va vc vr vl) :
  Calls prog 41 #[dO q vv vk va vc vr,vl] w (mG w (aZ q l)):=by
 have D:=jD (fun (W:World) (hW:KY w W)=>wH d q.pat va vc W (z.qry.args.stays (aB d) hW) (z.qry.cond.stays (ai d) hW) z.few);have c':=jD (fun (W:World) (hW:KY w W)=>zJ l q.key vl vk W (z.evs.stays aK hW) (z.qry.key.stays aL hW));have i':=jD z;obtain⟨O,F⟩:∃e,e=cK q.pat:=⟨_,rfl⟩;have k':=jD F;rw[<-F]at D;obtain⟨R,hR⟩:=jE (aZ q l);have HR:Hid ((if O≠0 then (([],[]),O) else dI q.key l)=R):=jD (by rw[<-hR,aZ,<-F]);rw[hR];obtain⟨Ak,ck,rfl,-⟩:=id z.qry.key;obtain⟨Al,cl,rfl,-⟩:=id z.evs;obtain⟨nk,d'⟩:∃n,n=q.key.length:=⟨_,rfl⟩;obtain⟨nl,a'⟩:∃n,n=l.length:=⟨_,rfl⟩;rw[<-d',<-a']at c' ⊢;obtain⟨Av,cv,rfl,-⟩:=id z.qry.vars;obtain⟨Aa,ca,rfl,-⟩:=id z.qry.args;obtain⟨Ac,cc,rfl,-⟩:=id z.qry.cond;obtain⟨Ar,cr,rfl,-⟩:=id z.qry.rets;clear z F hR d' a';unfold ptV at D;unfold dO;go_enter func41,ntmps41;go_wp2_with fail;refine aw fun w1 e1=>?_
 have J:KY w w1:=gb e1;have x2:KX w1 w.heap.size 2 (.slice Ak nk ck):=jG e1;clear e1;refine (D.out _ J).mono ?_;rintro e w2 ⟨rfl,G⟩;replace x2:=aa G x2;have I:=jD (ab J G);clear J G D
 by_cases h0:O=0
 case neg =>
  have j':(O != 0)=true:=jQ h0;obtain rfl:(([],[]),O)=R:=by have h:=HR.out;rw[K7 h0]at h;exact h
  clear h0;go_wp2;exact Lc (v:=.tuple #[.slice none 0 0,.slice none 0 0,KW O]) (by simp[results,results41,go_sem]) rfl ⟨_,_,rfl,Sl.nil _ _ _ _ _ (Lb _),Sl.nil _ _ _ _ _ (Lb _),I.out⟩
 subst h0;obtain rfl:dI q.key l=R:=by have h:=HR.out;rw[K6 jS]at h;exact h
 go_wp2_with fail;refine (c'.out _ I.out).mono ?_;rintro e w3 ⟨kv,pv,rfl,b',e',Z⟩;have h':=jD (ab I.out Z);have f':=jD b';have g':=jD e';obtain⟨A1,c1,rfl,-⟩:=b';obtain⟨A2,c2,rfl,-⟩:=e';clear Z x2;go_wp2;exact Lc (v:=.tuple #[.slice A1 _ c1,.slice A2 _ c2,KW (dI q.key l).2]) (by simp[results,results41,go_sem]) rfl ⟨_,_,rfl,f'.out,g'.out,h'.out⟩
theorem zj (d:Nat) (q:Qry) (l:List Evt) (vv vk va vc vr vl:Value) (w:World) (I:PartAsk d w q l vv vk va vc vr vl) :
  Calls prog 31 #[dO q vv vk va vc vr,vl] w (AM w ((aZ q l).1.1,(aZ q l).2)):=by
 have h:=jD (fun (W:World) (hW:KY w W)=>og d q l vv vk va vc vr vl W (I.stays hW));obtain⟨R,hR⟩:=jE (aZ q l);rw[hR]at h ⊢;obtain⟨Av,cv,Ak,ck,Aa,ca,Ac,cc,Ar,cr,Al,cl,rfl,rfl,rfl,rfl,rfl,rfl⟩:=I.form;clear I hR;unfold dO at h ⊢;go_enter func31,ntmps31;have Z:(w.alloc (.cells #[.string q.nm,.slice Av q.vars.length cv,.slice Ak q.key.length ck,.int .i64 q.pat.op,.slice Aa q.pat.args.length ca,.int .i64 q.pat.ty,.int .i64 q.pat.vr,.int .i64 q.pat.sc,.int .i64 q.pat.sp,.int .i64 q.pat.cond.op,.slice Ac q.pat.cond.args.length cc,.int .i64 q.pat.cond.vr,.int .i64 q.pat.cond.fl,.int .i64 q.pat.cond.kd,.int .i64 q.pat.cond.val.kind,.int .i64 q.pat.cond.val.num,.string q.pat.cond.val.text,.slice Ar q.rets.length cr] 33 (0,0))).heap[w.heap.size]?=some (.cells #[.string q.nm,.slice Av q.vars.length cv,.slice Ak q.key.length ck,.int .i64 q.pat.op,.slice Aa q.pat.args.length ca,.int .i64 q.pat.ty,.int .i64 q.pat.vr,.int .i64 q.pat.sc,.int .i64 q.pat.sp,.int .i64 q.pat.cond.op,.slice Ac q.pat.cond.args.length cc,.int .i64 q.pat.cond.vr,.int .i64 q.pat.cond.fl,.int .i64 q.pat.cond.kd,.int .i64 q.pat.cond.val.kind,.int .i64 q.pat.cond.val.num,.string q.pat.cond.val.text,.slice Ar q.rets.length cr] 33 (0,0)):=ap _ _ _ rfl;go_wp2_with (refine Md rfl 33 (.tmp 2) rfl w.heap.size rfl 33 _ (0,0) _ Z underlying33 rfl bM ?_);refine aw fun w1 e1=>?_
 have z:KY w w1:=gb e1;clear e1;refine (h.out _ z).mono ?_;rintro e w3 ⟨kv,pv,rfl,F,O,D⟩;have J:=jD (ab z D);have G:=jD F;obtain⟨A1,c1,rfl,-⟩:=F;obtain⟨A2,c2,rfl,-⟩:=O;clear z D;go_wp2;exact Lc (v:=.tuple #[.slice A1 _ c1,KW R.2]) (by simp[results,results31,go_sem]) rfl ⟨_,rfl,G.out,J.out⟩
theorem ug (d:Nat) (q:Qry) (l:List Evt) (key:Vl) (vv vk va vc vr vl:Value) (w:World) (hA:PartAsk d w q l vv vk va vc vr vl) :
  Calls prog 32 #[dO q vv vk va vc vr,vl,vlV key] w (sB w (iS q l key)):=by
 have Z:=jD (fun (W:World) (O:KY w W)=>og d q l vv vk va vc vr vl W (hA.stays O));have g':=jD (jP q l);obtain⟨S,hS⟩:=jE (iS q l key);obtain⟨⟨⟨ks,ps⟩,se⟩,hR⟩:∃R,aZ q l=R:=⟨_,rfl⟩;have HS:Hid (S=if se≠0 then ([],se) else (fF (ks.zip ps) key,0)):=jD (by rw[<-hS,iS,hR]);rw[hS];rw[hR]at Z g';obtain⟨Av,cv,Ak,ck,Aa,ca,Ac,cc,Ar,cr,Al,cl,rfl,rfl,rfl,rfl,rfl,rfl⟩:=hA.form;clear hA hR hS;unfold dO at Z ⊢;unfold vlV;have m':∀o1:Obj,((w.alloc (.cells #[.string q.nm,.slice Av q.vars.length cv,.slice Ak q.key.length ck,.int .i64 q.pat.op,.slice Aa q.pat.args.length ca,.int .i64 q.pat.ty,.int .i64 q.pat.vr,.int .i64 q.pat.sc,.int .i64 q.pat.sp,.int .i64 q.pat.cond.op,.slice Ac q.pat.cond.args.length cc,.int .i64 q.pat.cond.vr,.int .i64 q.pat.cond.fl,.int .i64 q.pat.cond.kd,.int .i64 q.pat.cond.val.kind,.int .i64 q.pat.cond.val.num,.string q.pat.cond.val.text,.slice Ar q.rets.length cr] 33 (0,0))).alloc o1).heap[w.heap.size]?=some (.cells #[.string q.nm,.slice Av q.vars.length cv,.slice Ak q.key.length ck,.int .i64 q.pat.op,.slice Aa q.pat.args.length ca,.int .i64 q.pat.ty,.int .i64 q.pat.vr,.int .i64 q.pat.sc,.int .i64 q.pat.sp,.int .i64 q.pat.cond.op,.slice Ac q.pat.cond.args.length cc,.int .i64 q.pat.cond.vr,.int .i64 q.pat.cond.fl,.int .i64 q.pat.cond.kd,.int .i64 q.pat.cond.val.kind,.int .i64 q.pat.cond.val.num,.string q.pat.cond.val.text,.slice Ar q.rets.length cr] 33 (0,0)):=fun o1=>aE (ap _ _ _ rfl)
 go_enter func32,ntmps32;go_wp2_with (refine Md rfl 33 (.tmp 3) rfl w.heap.size rfl 33 _ (0,0) _ (m' _) underlying33 rfl bM ?_);refine aw fun w1 e1=>?_
 have e':KY w w1:=gb e1;obtain⟨X,hX⟩:∃b,b=w.heap.size+1:=⟨_,rfl⟩;have x0:KX w1 X 0 (KW key.kind):=by rw[e1,hX];show _=_;go_simp
 have x1:KX w1 X 1 (KW key.num):=by rw[e1,hX];show _=_;go_simp
 have x2:KX w1 X 2 (.string key.text):=by rw[e1,hX];show _=_;go_simp
 rw[<-hX];clear e1 hX m';refine (Z.out _ e').mono ?_;rintro e w2 ⟨kv,pv,rfl,k',c',z⟩;have HX:=jD (And.intro (aa z x0) (And.intro (aa z x1) (aa z x2)));have B':=jD c';obtain⟨A1,c1,rfl,k1,k2,b'⟩:=id k';obtain⟨A2,c2,rfl,-,-,a'⟩:=id c';have i':=ax k1 k2;have t':=jD b';have p':=jD a';have d':=jD (ab e' z);clear k' c' e' z Z x0 x1 x2 k1 k2 b' a'
 by_cases h0:se=0
 case neg =>
  have E':(se != 0)=true:=jQ h0;obtain rfl:S=([],se):=by have h:=HS.out;rw[K7 h0]at h;exact h
  clear h0 HS;go_wp2;exact Lc (v:=.tuple #[.slice none 0 0,KW se]) (by simp[results,results32,go_sem]) rfl ⟨_,rfl,Sl.nil _ _ _ _ _ (Lb _),d'.out⟩
 subst h0;obtain rfl:S=(fF (ks.zip ps) key,0):=by have h:=HS.out;rw[K6 jS]at h;exact h
 clear HS;obtain⟨n,hn⟩:=jF ks.length;have HN:=jD hn;have s':Hid (ps.length=n):=jD (by rw[g'.out,hn]);rw[g'.out];rw[<-hn]at i' ⊢;clear hn;go_wp2_with fail
 go_loopw [11] (fun i wr=>∃k:Nat,k<=n/\i=KW k/\Hid ((∀p∈(ks.zip ps).take k,p.1≠key)/\KY w2 wr)) (fun i _=>n-(intOf i).toNat)
 case atStart=>exact⟨0,Lb _,rfl,jD ⟨by simp,La _ _⟩⟩
 case round =>
  obtain⟨k,hk,rfl,hI⟩:=hrel;have G:=hI.out.2;have x0:=aa G HX.out.1;have x1:=aa G HX.out.2.1;have x2:=aa G HX.out.2.2;have D':=K8 wr ⟨X,_,none⟩ x0
  by_cases A':k<n
  ·have q':(k:Int)<(n:Int):=by omega
   have n':k<ks.length:=by have:=HN.out;omega
   have j':k<ps.length:=by have:=s'.out;omega
   have J:=K9 n';have I:=K9 j';obtain⟨y,hy⟩:=jF (ks[k]);obtain⟨s,hs⟩:=jF (ps[k]);rw[<-hy]at J;rw[<-hs]at I;obtain⟨bk,ok,rfl,y0,y1,y2⟩:=t'.out k y J;obtain⟨bq,oq,rfl,us,f',zs⟩:=p'.out k s I;rw[LL]at zs;obtain⟨As,cs,rfl,-⟩:=id f';have HZ:Hid ((ks.zip ps)[k]?=some (y,s)):=jD (List.getElem?_zip_eq_some.2 ⟨J,I⟩);have C':bk<wr.heap.size:=Ll (K8 w2 ⟨bk,_,none⟩ y0) G.size;have y':bq<wr.heap.size:=Ll (K8 w2 ⟨bq,_,none⟩ zs) G.size;replace y0:=aa G y0;replace y1:=aa G y1;replace y2:=aa G y2;have r':=jD zs;have x':=jD f';obtain⟨r,hr⟩:=jF (cC y key);have heq:∀W,(binOp .eql 27 (.agg #[KW y.kind,KW y.num,.string y.text]) (.agg #[KW key.kind,KW key.num,.string key.text])).run prog W=.ok (.bool r) W:=fun W=>by rw[hr];exact vu y key W
   have HR:=jD hr;clear hy hs hr J I n' j' f' zs;go_wp2_with fail;refine rgn (fun W:World=>KY wr W/\KX W X 0 (KW key.kind)/\KX W X 1 (KW key.num)/\KX W X 2 (.string key.text)/\KX W bk (ok+k*3) (KW y.kind)/\KX W bk (ok+k*3+1) (KW y.num)/\KX W bk (ok+k*3+2) (.string y.text)) (Below wr.heap.size wr) (fun W O=>⟨O,aa O x0,aa O x1,aa O x2,aa O y0,aa O y1,aa O y2⟩) ((La _ _).drew) (fun u' h'=>?_);refine tkH [0,1,2,3,4,5] ?_;refine wpAnyH_done kr (NoPanic.normal ?_) _;rotate_left 1;refine lp (Q:=Exit.then _ _) fun w5 e5=>?_
   have l':KY wr w5:=gb e5;have D:=ab G l';have zs:=aa D r'.out;have z':=K8 w5 ⟨bq,_,none⟩ zs;have F:=jD D;clear h' u' e5 l' D
   cases r with
   | true =>
    have he:y=key:=ew.1 HR.out.symm;have HP:Hid (fF (ks.zip ps) key=s):=jD (qn HZ.out hI.out.1 he);clear he;go_wp2;exact Lc (v:=.tuple #[.slice As s.length cs,KW 0]) (by simp[results,results32,go_sem]) rfl ⟨_,rfl,(by show bm _ _ (fF (ks.zip ps) key);rw[HP.out];exact x'.out.stays aK F.out),ab d'.out F.out⟩
   | false =>
    have he:y≠key:=fun e=>by have h:=HR.out;rw[ew.2 e]at h;cases h
    have HE:=jD he;clear he;go_wp2_with fail;refine⟨⟨k+1,by omega,by go_num,jD ⟨?_,F.out⟩⟩,by simp[intOf];omega⟩;intro p hp;rw[aX HZ.out,L0,Lz]at hp;rcases hp with hp|rfl
    ·exact hI.out.1 p hp
    ·exact HE.out
  ·have q':¬(k:Int)<(n:Int):=by omega
   have HP:Hid (fF (ks.zip ps) key=[]):=jD (ln fun p hp=>hI.out.1 p (by rw[Mn (by rw[List.length_zip];have:=HN.out;omega)];exact hp));go_wp2;exact Lc (v:=.tuple #[.slice none 0 0,KW 0]) (by simp[results,results32,go_sem]) rfl ⟨_,rfl,(by show bm _ _ (fF (ks.zip ps) key);rw[HP.out];exact Sl.nil _ _ _ _ _ (Lb _)),ab d'.out G⟩
end Go.Proofs.YtokconodddedhaaGreatDoor
