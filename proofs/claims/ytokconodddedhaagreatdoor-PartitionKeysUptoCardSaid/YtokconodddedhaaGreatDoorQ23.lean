/- Part. -/
import Derived.Lib.Bytealg
import Derived.Test.YtokconodddedhaaGreatDoorQ22
import Derived.Test.YtokconodddedhaaGreatDoorQ20
set_option maxRecDepth 100000
set_option maxHeartbeats 16000000
set_option linter.unusedVariables false
set_option linter.unusedSimpArgs false
namespace Go.Proofs.YtokconodddedhaaGreatDoor
open Go.Proofs.Tryz Go.RowKit
theorem vU:∀a b:List UInt8,Lib.compareBytes a b=cZ a b
 | [],[]=>rfl
 | [],_::_=>rfl
 | _::_,[]=>rfl
 | a::x,b::y=>by rw[Lib.compareBytes,cZ,vU x y]
theorem qV:∀a b:List UInt8,cZ a b=-1\/cZ a b=0\/cZ a b=1
 | [],[]=>by simp[cZ]
 | [],_::_=>by simp[cZ]
 | _::_,[]=>by simp[cZ]
 | a::x,b::y=>by
  rw[cZ]
  split
  ·simp
  ·split
   ·simp
   ·exact qV x y
theorem xe (a b:Int) (w:World):KZ 272 #[KW a,KW b] w (KW (bL a b)):=by
 obtain⟨r,hr⟩:=jE (bL a b);rw[hr];unfold bL at hr
 by_cases h:a<b
 ·rw[K7 h]at hr;subst hr;go_enter func272,ntmps272;go_wp2;go_ret;exact⟨rfl,La _ _⟩
 ·rw[K6 h]at hr
  by_cases z:b<a
  ·rw[K7 z]at hr;subst hr;go_enter func272,ntmps272;go_wp2;go_ret;exact⟨rfl,La _ _⟩
  ·rw[K6 z]at hr;subst hr;go_enter func272,ntmps272;go_wp2;go_ret;exact⟨rfl,La _ _⟩
theorem BW (a b:Vl) (w:World):KZ 198 #[vlV a,vlV b] w (KW (vlC a b)):=by
 have H1:=jD (fun W=>xe a.kind b.kind W);have H2:=jD (fun W=>xe a.num b.num W);obtain⟨r1,F⟩:∃r,bL a.kind b.kind=r:=⟨_,rfl⟩;obtain⟨r2,G⟩:∃r,bL a.num b.num=r:=⟨_,rfl⟩;obtain⟨R,hR⟩:=jF (vlC a b);have Z:Hid (R=if r1≠0 then r1 else if r2≠0 then r2 else cZ a.text.toList b.text.toList):=jD (by rw[hR,<-F,<-G];unfold vlC orI;by_cases O:bL a.kind b.kind=0<;>by_cases e2:bL a.num b.num=0<;>simp[O,e2]);have K1:Hid (a.kind=b.kind↔r1=0):=jD (by rw[<-F,ii]);have K2:Hid (a.num=b.num↔r2=0):=jD (by rw[<-G,ii]);rw[F]at H1;rw[G]at H2;rw[<-hR];clear hR F G;obtain⟨ak,an,tx⟩:=a;obtain⟨bk,bn,ty⟩:=b;unfold vlV at *;simp only at *
 by_cases h1:ak=bk
 ·subst h1;have O:r1=0:=K1.out.1 rfl;subst O
  by_cases h2:an=bn
  ·subst h2;have e2:r2=0:=K2.out.1 rfl;subst e2;have z:=sS tx.toList ty.toList;have h:(tx.toList==ty.toList)=decide (cZ tx.toList ty.toList=0):=by rw[LW,Ly,pu,LO]
   obtain⟨q,hq⟩:=jE (cZ tx.toList ty.toList);have HQ:q=-1\/q=0\/q=1:=by rw[<-hq];exact qV _ _
   have D:Hid (R=q):=jD (by rw[Z.out,<-hq];simp);rw[hq]at z h;clear Z H1 H2 K1 K2 hq;rcases HQ with rfl|rfl|rfl
   ·obtain rfl:R=-1:=D.out;have I:Op.bytesLess tx.toList ty.toList=true:=by rw[z];rfl
    have J:(tx.toList==ty.toList)=false:=by rw[h];rfl
    clear z h D;go_enter func198,ntmps198;go_wp2;go_ret;exact⟨rfl,jB⟩
   ·obtain rfl:R=0:=D.out;have I:Op.bytesLess tx.toList ty.toList=false:=by rw[z];rfl
    have J:(tx.toList==ty.toList)=true:=by rw[h];rfl
    clear z h D;go_enter func198,ntmps198;go_wp2;go_ret;exact⟨rfl,jB⟩
   ·obtain rfl:R=1:=D.out;have I:Op.bytesLess tx.toList ty.toList=false:=by rw[z];rfl
    have J:(tx.toList==ty.toList)=false:=by rw[h];rfl
    clear z h D;go_enter func198,ntmps198;go_wp2;go_ret;exact⟨rfl,jB⟩
  ·have b2:(an==bn)=false:=jQ h2;have e2:r2≠0:=fun e=>h2 (K2.out.2 e)
   obtain rfl:R=r2:=by rw[Z.out];simp[e2]
   clear Z K1 K2 e2;go_enter func198,ntmps198;go_wp2_with fail;refine (H2.out _).mono ?_;rintro e w1 ⟨rfl,a'⟩;go_wp2;go_ret;exact⟨rfl,jB⟩
 ·have b1:(ak==bk)=false:=jQ h1;have O:r1≠0:=fun e=>h1 (K1.out.2 e)
  obtain rfl:R=r1:=by rw[Z.out];simp[O]
  clear Z K1 K2 O;go_enter func198,ntmps198;go_wp2_with fail;refine (H1.out _).mono ?_;rintro e w1 ⟨rfl,a'⟩;go_wp2;go_ret;exact⟨rfl,jB⟩
theorem EQ {x:Ex} {s:Plc} (h:¬(1<=x.op/\x.op<=4)):rJ x s=0:=by unfold rJ;rw[K6 h]
theorem I2 {x:Ex} {s:Plc} (h:1<=x.op/\x.op<=4) (z:s.us.contains x.vr=false):rJ x s=10:=by unfold rJ;rw[K7 h,K7 (by rw[z];rfl)]
theorem IU {x:Ex} {s:Plc} (h:1<=x.op/\x.op<=4) (z:s.us.contains x.vr=true):rJ x s=if ((x.op=1\/x.op=2)/\!s.si.contains x.vr)\/((x.op=3\/x.op=4)/\x.vr=s.fb) then 11 else 0:=by
 unfold rJ;rw[K7 h,K6 (by rw[z];simp)]
theorem sk (s:Plc) (d:Nat) (I':∀d',d=d'+1->∀(x:Ex) (vx uv sv:Value) (w:World),aF d' w vx x.args->PlcIs w s uv sv->KZ 294 #[exV x vx,iq uv sv s.fb] w (KW (eb s x)))
  (x:Ex) (vx uv sv:Value) (w:World) (hx:aF d w vx x.args) (hL:PlcIs w s uv sv):KZ 294 #[exV x vx,iq uv sv s.fb] w (KW (eb s x)):=by
 obtain⟨R,hR⟩:=jE (eb s x);have J':=hR;rw[Fa]at J';rw[hR];have HL:=jD hL;have q':=jD I';obtain⟨q1,L'⟩:∃q,s.us.contains x.vr=q:=⟨_,rfl⟩;obtain⟨q2,O'⟩:∃q,s.si.contains x.vr=q:=⟨_,rfl⟩;have l':=jD (fun (W:World) (hW:KY w W)=>kU s.us uv x.vr W (HL.out.us.stays aL hW));have k':=jD (fun (W:World) (hW:KY w W)=>kU s.si sv x.vr W (HL.out.si.stays aL hW));rw[L']at l';rw[O']at k';obtain⟨A,c,rfl,h1,h2,T'⟩:=hx;have P':=ax h1 h2;have s':=jD T';obtain⟨Au,cu,rfl,-⟩:=id hL.us;obtain⟨As,cs,rfl,-⟩:=id hL.si;obtain⟨nu,F'⟩:∃n,n=s.us.length:=⟨_,rfl⟩;obtain⟨ns,B'⟩:∃n,n=s.si.length:=⟨_,rfl⟩;obtain⟨n,hn⟩:=jF x.args.length;have x':=jD F';have t':=jD B';have m':=jD hn;rw[<-F']at l';rw[<-B']at k';rw[<-hn]at P';rw[<-F',<-B',<-hn];have R':=jD L';have U':=jD O';have z':=jD J';clear hR J' I' hL T' h1 h2 F' B' hn L' O';unfold exV iq at *
 by_cases y':1<=x.op/\x.op<=4
 case neg =>
  have HF:Hid (fw s x.args=R):=jD (by have h:=z'.out;rw[EQ y',K6 jS]at h;exact h)
  by_cases E':1<=x.op
  ·have N':¬x.op<=4:=fun h=>y' ⟨E',h⟩
   clear y' l' k';go_enter func294,ntmps294;go_wp2_with fail;refine aP fun w3 e3=>?_
   obtain⟨Y,hY⟩:∃q,q=w.heap.size+1:=⟨_,rfl⟩;have i':KY w w3:=gb e3;have y0:KX w3 Y 0 (.slice Au nu cu):=by rw[e3,hY];show _=_;go_simp
   have y1:KX w3 Y 1 (.slice As ns cs):=by rw[e3,hY];show _=_;go_simp
   have y2:KX w3 Y 2 (KW s.fb):=by rw[e3,hY];show _=_;go_simp
   rw[<-hY];have HC:=jD (And.intro y0 (And.intro y1 y2));have z:=jD i';clear e3 hY i' y0 y1 y2
   go_loopw [54] (fun i wr=>∃k:Nat,k<=n/\i=KW k/\Hid (fw s (x.args.drop k)=R/\KY w3 wr)) (fun i _=>n-(intOf i).toNat)
   case atStart=>exact⟨0,Lb _,rfl,jD ⟨by rw[L1];exact HF.out,La _ _⟩⟩
   case round =>
    obtain⟨k,hk,rfl,hI⟩:=hrel;have I:=hI.out.2;have y0:=aa I HC.out.1;have y1:=aa I HC.out.2.1;have y2:=aa I HC.out.2.2;have H':=K8 wr ⟨Y,_,none⟩ y0
    by_cases C':k<n
    ·have p':(k:Int)<(n:Int):=by omega
     have Z:k<x.args.length:=by have:=m'.out;omega
     obtain⟨b,o,rfl,G⟩:=s'.out k x.args[k] (K9 Z);have hg:=jD (K9 Z);obtain⟨a,ha⟩:=jF (x.args[k]);rw[<-ha]at hg G;obtain⟨d',v',f',b',p0,p1,p2,p3,p4,p5,p6,p7⟩:=cL (ai d _ _ _ _ _ (ab z.out I) G);have D:=fun (W:World) (hW:KY wr W)=>q'.out d' f' a v' _ _ W (b'.stays (ai d') hW) (HL.out.stays (ab (ab z.out I) hW))
     rw[<-x'.out,<-t'.out]at D;have F:=jD D;have hD:=hI.out.1;rw[gK hg.out]at hD;obtain⟨fe,j'⟩:∃q,eb s a=q:=⟨_,rfl⟩;rw[j']at hD F;have HD:=jD hD;obtain⟨A',c',rfl,-⟩:=b';have G':=K8 wr ⟨b,_,none⟩ p0;obtain⟨nn,g'⟩:∃n,n=a.args.length:=⟨_,rfl⟩;rw[<-g']at F p1;clear ha G f' hD Z g' j' D;go_wp2_with fail;refine (F.out _ ?_).mono ?_
     ·exact jB
     rintro e w2 ⟨rfl,a'⟩;have h':Hid (KY wr w2):=jD (ab (by exact jB) a');have e':=jD (ab I h'.out);clear a' p0 p1 p2 p3 p4 p5 p6 p7 y0 y1 y2
     by_cases hz:fe=0
     case neg =>
      have D':(fe != 0)=true:=jQ hz;obtain rfl:fe=R:=by have h:=HD.out;rw[K7 hz]at h;exact h
      clear hz;exact fi (ab z.out e'.out)
     subst hz;have J:=HD.out;rw[K6 jS]at J;have n':=jD J;clear J;go_wp2_with fail
     go_roundw
     case rel=>exact⟨k+1,by omega,by go_num,jD ⟨n'.out,e'.out⟩⟩
     case measure=>simp[intOf];omega
    ·have p':¬(k:Int)<(n:Int):=by omega
     obtain rfl:0=R:=by have h:=hI.out.1;rw[Lq (by have:=m'.out;omega),fw]at h;exact h
     exact fi (ab z.out I)
  ·clear y' l' k';go_enter func294,ntmps294;go_wp2_with fail;refine aP fun w3 e3=>?_
   obtain⟨Y,hY⟩:∃q,q=w.heap.size+1:=⟨_,rfl⟩;have i':KY w w3:=gb e3;have y0:KX w3 Y 0 (.slice Au nu cu):=by rw[e3,hY];show _=_;go_simp
   have y1:KX w3 Y 1 (.slice As ns cs):=by rw[e3,hY];show _=_;go_simp
   have y2:KX w3 Y 2 (KW s.fb):=by rw[e3,hY];show _=_;go_simp
   rw[<-hY];have HC:=jD (And.intro y0 (And.intro y1 y2));have z:=jD i';clear e3 hY i' y0 y1 y2
   go_loopw [54] (fun i wr=>∃k:Nat,k<=n/\i=KW k/\Hid (fw s (x.args.drop k)=R/\KY w3 wr)) (fun i _=>n-(intOf i).toNat)
   case atStart=>exact⟨0,Lb _,rfl,jD ⟨by rw[L1];exact HF.out,La _ _⟩⟩
   case round =>
    obtain⟨k,hk,rfl,hI⟩:=hrel;have I:=hI.out.2;have y0:=aa I HC.out.1;have y1:=aa I HC.out.2.1;have y2:=aa I HC.out.2.2;have H':=K8 wr ⟨Y,_,none⟩ y0
    by_cases C':k<n
    ·have p':(k:Int)<(n:Int):=by omega
     have Z:k<x.args.length:=by have:=m'.out;omega
     obtain⟨b,o,rfl,G⟩:=s'.out k x.args[k] (K9 Z);have hg:=jD (K9 Z);obtain⟨a,ha⟩:=jF (x.args[k]);rw[<-ha]at hg G;obtain⟨d',v',f',b',p0,p1,p2,p3,p4,p5,p6,p7⟩:=cL (ai d _ _ _ _ _ (ab z.out I) G);have D:=fun (W:World) (hW:KY wr W)=>q'.out d' f' a v' _ _ W (b'.stays (ai d') hW) (HL.out.stays (ab (ab z.out I) hW))
     rw[<-x'.out,<-t'.out]at D;have F:=jD D;have hD:=hI.out.1;rw[gK hg.out]at hD;obtain⟨fe,j'⟩:∃q,eb s a=q:=⟨_,rfl⟩;rw[j']at hD F;have HD:=jD hD;obtain⟨A',c',rfl,-⟩:=b';have G':=K8 wr ⟨b,_,none⟩ p0;obtain⟨nn,g'⟩:∃n,n=a.args.length:=⟨_,rfl⟩;rw[<-g']at F p1;clear ha G f' hD Z g' j' D;go_wp2_with fail;refine (F.out _ ?_).mono ?_
     ·exact jB
     rintro e w2 ⟨rfl,a'⟩;have h':Hid (KY wr w2):=jD (ab (by exact jB) a');have e':=jD (ab I h'.out);clear a' p0 p1 p2 p3 p4 p5 p6 p7 y0 y1 y2
     by_cases hz:fe=0
     case neg =>
      have D':(fe != 0)=true:=jQ hz;obtain rfl:fe=R:=by have h:=HD.out;rw[K7 hz]at h;exact h
      clear hz;exact fi (ab z.out e'.out)
     subst hz;have J:=HD.out;rw[K6 jS]at J;have n':=jD J;clear J;go_wp2_with fail
     go_roundw
     case rel=>exact⟨k+1,by omega,by go_num,jD ⟨n'.out,e'.out⟩⟩
     case measure=>simp[intOf];omega
    ·have p':¬(k:Int)<(n:Int):=by omega
     obtain rfl:0=R:=by have h:=hI.out.1;rw[Lq (by have:=m'.out;omega),fw]at h;exact h
     exact fi (ab z.out I)
 obtain⟨E',N'⟩:=y'
 cases q1 with
 | false =>
  obtain rfl:10=R:=by have h:=z'.out;rw[I2 ⟨E',N'⟩ R'.out,K7 dc]at h;exact h
  obtain⟨p1,u'⟩:∃q,(x.op==1)=q:=⟨_,rfl⟩;obtain⟨p2,M'⟩:∃q,(x.op==2)=q:=⟨_,rfl⟩;clear z' k'
  cases p1<;>cases p2
  all_goals
   go_enter func294,ntmps294;go_wp2_with (go_at_call 338;first|(refine (l'.out _ (by exact jB)).mono ?_;rintro e w' ⟨rfl,rfl⟩)|(refine (k'.out _ (by exact jB)).mono ?_;rintro e w' ⟨rfl,rfl⟩));go_ret;exact⟨rfl,jB⟩
 | true =>
  have hU:=z'.out;rw[IU ⟨E',N'⟩ R'.out,U'.out]at hU;have HU:=jD hU;clear z' hU
  by_cases O:x.op=1\/x.op=2
  ·cases q2 with
   | false =>
    obtain rfl:11=R:=by have h:=HU.out;rw[K7 (by rw[K7 (.inl ⟨O,rfl⟩)];decide),K7 (.inl ⟨O,rfl⟩)]at h;exact h
    clear HU;rcases O with O|O
    ·have u':(x.op==1)=true:=jQ O;clear O;go_enter func294,ntmps294;go_wp2_with (go_at_call 338;first|(refine (l'.out _ (by exact jB)).mono ?_;rintro e w' ⟨rfl,rfl⟩)|(refine (k'.out _ (by exact jB)).mono ?_;rintro e w' ⟨rfl,rfl⟩));go_ret;exact⟨rfl,jB⟩
    ·have u':(x.op==1)=false:=by simp;omega
     have M':(x.op==2)=true:=jQ O;clear O;go_enter func294,ntmps294;go_wp2_with (go_at_call 338;first|(refine (l'.out _ (by exact jB)).mono ?_;rintro e w' ⟨rfl,rfl⟩)|(refine (k'.out _ (by exact jB)).mono ?_;rintro e w' ⟨rfl,rfl⟩));go_ret;exact⟨rfl,jB⟩
   | true =>
    have HF:Hid (fw s x.args=R):=jD (by have h:=HU.out;rw[K6 (show ¬(((x.op=1\/x.op=2)/\(!true)=true)\/((x.op=3\/x.op=4)/\x.vr=s.fb)) by rintro (⟨_,h⟩|⟨h,_⟩);cases h;omega),K6 jS]at h;exact h);clear HU;rcases O with O|O
    ·have u':(x.op==1)=true:=jQ O;clear O;go_enter func294,ntmps294;go_wp2_with (go_at_call 338;first|(refine (l'.out _ (by exact jB)).mono ?_;rintro e w' ⟨rfl,rfl⟩)|(refine (k'.out _ (by exact jB)).mono ?_;rintro e w' ⟨rfl,rfl⟩));refine aP fun w3 e3=>?_
     obtain⟨Y,hY⟩:∃q,q=w.heap.size+1:=⟨_,rfl⟩;have i':KY w w3:=gb e3;have y0:KX w3 Y 0 (.slice Au nu cu):=by rw[e3,hY];show _=_;go_simp
     have y1:KX w3 Y 1 (.slice As ns cs):=by rw[e3,hY];show _=_;go_simp
     have y2:KX w3 Y 2 (KW s.fb):=by rw[e3,hY];show _=_;go_simp
     rw[<-hY];have HC:=jD (And.intro y0 (And.intro y1 y2));have z:=jD i';clear e3 hY i' y0 y1 y2
     go_loopw [54] (fun i wr=>∃k:Nat,k<=n/\i=KW k/\Hid (fw s (x.args.drop k)=R/\KY w3 wr)) (fun i _=>n-(intOf i).toNat)
     case atStart=>exact⟨0,Lb _,rfl,jD ⟨by rw[L1];exact HF.out,La _ _⟩⟩
     case round =>
      obtain⟨k,hk,rfl,hI⟩:=hrel;have I:=hI.out.2;have y0:=aa I HC.out.1;have y1:=aa I HC.out.2.1;have y2:=aa I HC.out.2.2;have H':=K8 wr ⟨Y,_,none⟩ y0
      by_cases C':k<n
      ·have p':(k:Int)<(n:Int):=by omega
       have Z:k<x.args.length:=by have:=m'.out;omega
       obtain⟨b,o,rfl,G⟩:=s'.out k x.args[k] (K9 Z);have hg:=jD (K9 Z);obtain⟨a,ha⟩:=jF (x.args[k]);rw[<-ha]at hg G;obtain⟨d',v',f',b',p0,p1,p2,p3,p4,p5,p6,p7⟩:=cL (ai d _ _ _ _ _ (ab z.out I) G);have D:=fun (W:World) (hW:KY wr W)=>q'.out d' f' a v' _ _ W (b'.stays (ai d') hW) (HL.out.stays (ab (ab z.out I) hW))
       rw[<-x'.out,<-t'.out]at D;have F:=jD D;have hD:=hI.out.1;rw[gK hg.out]at hD;obtain⟨fe,j'⟩:∃q,eb s a=q:=⟨_,rfl⟩;rw[j']at hD F;have HD:=jD hD;obtain⟨A',c',rfl,-⟩:=b';have G':=K8 wr ⟨b,_,none⟩ p0;obtain⟨nn,g'⟩:∃n,n=a.args.length:=⟨_,rfl⟩;rw[<-g']at F p1;clear ha G f' hD Z g' j' D;go_wp2_with fail;refine (F.out _ ?_).mono ?_
       ·exact jB
       rintro e w2 ⟨rfl,a'⟩;have h':Hid (KY wr w2):=jD (ab (by exact jB) a');have e':=jD (ab I h'.out);clear a' p0 p1 p2 p3 p4 p5 p6 p7 y0 y1 y2
       by_cases hz:fe=0
       case neg =>
        have D':(fe != 0)=true:=jQ hz;obtain rfl:fe=R:=by have h:=HD.out;rw[K7 hz]at h;exact h
        clear hz;exact fi (ab z.out e'.out)
       subst hz;have J:=HD.out;rw[K6 jS]at J;have n':=jD J;clear J;go_wp2_with fail
       go_roundw
       case rel=>exact⟨k+1,by omega,by go_num,jD ⟨n'.out,e'.out⟩⟩
       case measure=>simp[intOf];omega
      ·have p':¬(k:Int)<(n:Int):=by omega
       obtain rfl:0=R:=by have h:=hI.out.1;rw[Lq (by have:=m'.out;omega),fw]at h;exact h
       exact fi (ab z.out I)
    ·have u':(x.op==1)=false:=by simp;omega
     have M':(x.op==2)=true:=jQ O;clear O;go_enter func294,ntmps294;go_wp2_with (go_at_call 338;first|(refine (l'.out _ (by exact jB)).mono ?_;rintro e w' ⟨rfl,rfl⟩)|(refine (k'.out _ (by exact jB)).mono ?_;rintro e w' ⟨rfl,rfl⟩));refine aP fun w3 e3=>?_
     obtain⟨Y,hY⟩:∃q,q=w.heap.size+1:=⟨_,rfl⟩;have i':KY w w3:=gb e3;have y0:KX w3 Y 0 (.slice Au nu cu):=by rw[e3,hY];show _=_;go_simp
     have y1:KX w3 Y 1 (.slice As ns cs):=by rw[e3,hY];show _=_;go_simp
     have y2:KX w3 Y 2 (KW s.fb):=by rw[e3,hY];show _=_;go_simp
     rw[<-hY];have HC:=jD (And.intro y0 (And.intro y1 y2));have z:=jD i';clear e3 hY i' y0 y1 y2
     go_loopw [54] (fun i wr=>∃k:Nat,k<=n/\i=KW k/\Hid (fw s (x.args.drop k)=R/\KY w3 wr)) (fun i _=>n-(intOf i).toNat)
     case atStart=>exact⟨0,Lb _,rfl,jD ⟨by rw[L1];exact HF.out,La _ _⟩⟩
     case round =>
      obtain⟨k,hk,rfl,hI⟩:=hrel;have I:=hI.out.2;have y0:=aa I HC.out.1;have y1:=aa I HC.out.2.1;have y2:=aa I HC.out.2.2;have H':=K8 wr ⟨Y,_,none⟩ y0
      by_cases C':k<n
      ·have p':(k:Int)<(n:Int):=by omega
       have Z:k<x.args.length:=by have:=m'.out;omega
       obtain⟨b,o,rfl,G⟩:=s'.out k x.args[k] (K9 Z);have hg:=jD (K9 Z);obtain⟨a,ha⟩:=jF (x.args[k]);rw[<-ha]at hg G;obtain⟨d',v',f',b',p0,p1,p2,p3,p4,p5,p6,p7⟩:=cL (ai d _ _ _ _ _ (ab z.out I) G);have D:=fun (W:World) (hW:KY wr W)=>q'.out d' f' a v' _ _ W (b'.stays (ai d') hW) (HL.out.stays (ab (ab z.out I) hW))
       rw[<-x'.out,<-t'.out]at D;have F:=jD D;have hD:=hI.out.1;rw[gK hg.out]at hD;obtain⟨fe,j'⟩:∃q,eb s a=q:=⟨_,rfl⟩;rw[j']at hD F;have HD:=jD hD;obtain⟨A',c',rfl,-⟩:=b';have G':=K8 wr ⟨b,_,none⟩ p0;obtain⟨nn,g'⟩:∃n,n=a.args.length:=⟨_,rfl⟩;rw[<-g']at F p1;clear ha G f' hD Z g' j' D;go_wp2_with fail;refine (F.out _ ?_).mono ?_
       ·exact jB
       rintro e w2 ⟨rfl,a'⟩;have h':Hid (KY wr w2):=jD (ab (by exact jB) a');have e':=jD (ab I h'.out);clear a' p0 p1 p2 p3 p4 p5 p6 p7 y0 y1 y2
       by_cases hz:fe=0
       case neg =>
        have D':(fe != 0)=true:=jQ hz;obtain rfl:fe=R:=by have h:=HD.out;rw[K7 hz]at h;exact h
        clear hz;exact fi (ab z.out e'.out)
       subst hz;have J:=HD.out;rw[K6 jS]at J;have n':=jD J;clear J;go_wp2_with fail
       go_roundw
       case rel=>exact⟨k+1,by omega,by go_num,jD ⟨n'.out,e'.out⟩⟩
       case measure=>simp[intOf];omega
      ·have p':¬(k:Int)<(n:Int):=by omega
       obtain rfl:0=R:=by have h:=hI.out.1;rw[Lq (by have:=m'.out;omega),fw]at h;exact h
       exact fi (ab z.out I)
  ·have u':(x.op==1)=false:=by simp;omega
   have M':(x.op==2)=false:=by simp;omega
   by_cases r':x.vr=s.fb
   ·have S':(x.vr==s.fb)=true:=jQ r';obtain rfl:11=R:=by have h:=HU.out;rw[K7 (by rw[K7 (.inr ⟨by omega,r'⟩)];decide),K7 (.inr ⟨by omega,r'⟩)]at h;exact h
    clear HU O r';go_enter func294,ntmps294;go_wp2_with (go_at_call 338;first|(refine (l'.out _ (by exact jB)).mono ?_;rintro e w' ⟨rfl,rfl⟩)|(refine (k'.out _ (by exact jB)).mono ?_;rintro e w' ⟨rfl,rfl⟩));go_ret;exact⟨rfl,jB⟩
   ·have S':(x.vr==s.fb)=false:=jQ r';have HF:Hid (fw s x.args=R):=jD (by have h:=HU.out;rw[K6 (show ¬(((x.op=1\/x.op=2)/\(!q2)=true)\/((x.op=3\/x.op=4)/\x.vr=s.fb)) by rintro (⟨h,_⟩|⟨_,h⟩);exact O h;exact r' h),K6 jS]at h;exact h);clear HU O r';go_enter func294,ntmps294;go_wp2_with (go_at_call 338;first|(refine (l'.out _ (by exact jB)).mono ?_;rintro e w' ⟨rfl,rfl⟩)|(refine (k'.out _ (by exact jB)).mono ?_;rintro e w' ⟨rfl,rfl⟩));refine aP fun w3 e3=>?_
    obtain⟨Y,hY⟩:∃q,q=w.heap.size+1:=⟨_,rfl⟩;have i':KY w w3:=gb e3;have y0:KX w3 Y 0 (.slice Au nu cu):=by rw[e3,hY];show _=_;go_simp
    have y1:KX w3 Y 1 (.slice As ns cs):=by rw[e3,hY];show _=_;go_simp
    have y2:KX w3 Y 2 (KW s.fb):=by rw[e3,hY];show _=_;go_simp
    rw[<-hY];have HC:=jD (And.intro y0 (And.intro y1 y2));have z:=jD i';clear e3 hY i' y0 y1 y2
    go_loopw [54] (fun i wr=>∃k:Nat,k<=n/\i=KW k/\Hid (fw s (x.args.drop k)=R/\KY w3 wr)) (fun i _=>n-(intOf i).toNat)
    case atStart=>exact⟨0,Lb _,rfl,jD ⟨by rw[L1];exact HF.out,La _ _⟩⟩
    case round =>
     obtain⟨k,hk,rfl,hI⟩:=hrel;have I:=hI.out.2;have y0:=aa I HC.out.1;have y1:=aa I HC.out.2.1;have y2:=aa I HC.out.2.2;have H':=K8 wr ⟨Y,_,none⟩ y0
     by_cases C':k<n
     ·have p':(k:Int)<(n:Int):=by omega
      have Z:k<x.args.length:=by have:=m'.out;omega
      obtain⟨b,o,rfl,G⟩:=s'.out k x.args[k] (K9 Z);have hg:=jD (K9 Z);obtain⟨a,ha⟩:=jF (x.args[k]);rw[<-ha]at hg G;obtain⟨d',v',f',b',p0,p1,p2,p3,p4,p5,p6,p7⟩:=cL (ai d _ _ _ _ _ (ab z.out I) G);have D:=fun (W:World) (hW:KY wr W)=>q'.out d' f' a v' _ _ W (b'.stays (ai d') hW) (HL.out.stays (ab (ab z.out I) hW))
      rw[<-x'.out,<-t'.out]at D;have F:=jD D;have hD:=hI.out.1;rw[gK hg.out]at hD;obtain⟨fe,j'⟩:∃q,eb s a=q:=⟨_,rfl⟩;rw[j']at hD F;have HD:=jD hD;obtain⟨A',c',rfl,-⟩:=b';have G':=K8 wr ⟨b,_,none⟩ p0;obtain⟨nn,g'⟩:∃n,n=a.args.length:=⟨_,rfl⟩;rw[<-g']at F p1;clear ha G f' hD Z g' j' D;go_wp2_with fail;refine (F.out _ ?_).mono ?_
      ·exact jB
      rintro e w2 ⟨rfl,a'⟩;have h':Hid (KY wr w2):=jD (ab (by exact jB) a');have e':=jD (ab I h'.out);clear a' p0 p1 p2 p3 p4 p5 p6 p7 y0 y1 y2
      by_cases hz:fe=0
      case neg =>
       have D':(fe != 0)=true:=jQ hz;obtain rfl:fe=R:=by have h:=HD.out;rw[K7 hz]at h;exact h
       clear hz;exact fi (ab z.out e'.out)
      subst hz;have J:=HD.out;rw[K6 jS]at J;have n':=jD J;clear J;go_wp2_with fail
      go_roundw
      case rel=>exact⟨k+1,by omega,by go_num,jD ⟨n'.out,e'.out⟩⟩
      case measure=>simp[intOf];omega
     ·have p':¬(k:Int)<(n:Int):=by omega
      obtain rfl:0=R:=by have h:=hI.out.1;rw[Lq (by have:=m'.out;omega),fw]at h;exact h
      exact fi (ab z.out I)
theorem xL (s:Plc) (d:Nat):∀(x:Ex) (z D F:Value) (w:World),aF d w z x.args->PlcIs w s D F->KZ 294 #[exV x z,iq D F s.fb] w (KW (eb s x)):=by
 induction d with
 | zero=>exact sk s 0 (fun G h=>by omega)
 | succ d I=>exact sk s (d+1) (fun G h=>Ma h▸I)
theorem yR (a b:ByteArray) (w:World):Calls prog 265 #[.string a,.string b] w fun e w'=>e=.returned (KW (cZ a.toList b.toList))/\Gr w w':=by
 obtain⟨r,hr⟩:=jE (cZ a.toList b.toList);rw[hr];have h:Lib.compareBytes a.data.toList b.data.toList=r:=by rw[vU,<-hr,Na,Na]
 clear hr;go_enter func265,ntmps265;go_wp2;rw[run_callFunc_extern func325 kr kr kr (e:=Extern.BytealgCompare.compare) kr,Lib.run_compareString];simp only[Result.andThen];rw[Oper.upon_value,h];go_wp2;go_ret;exact⟨rfl,Gr.refl _⟩
theorem CL (a b:ByteArray) (w:World):Calls prog 191 #[.string a,.string b] w fun e w'=>e=.returned (KW (cZ a.toList b.toList))/\Gr w w':=by
 have h:=jD (fun W=>yR a b W);obtain⟨r,hr⟩:=jE (cZ a.toList b.toList);rw[hr]at h ⊢;clear hr;go_enter func191,ntmps191;go_wp2_with fail;refine (h.out _).mono ?_;rintro e D ⟨rfl,z⟩;exact fi z
theorem Eo (a b:Vl) (w:World):Calls prog 189 #[vlV a,vlV b] w fun e w'=>e=.returned (KW (bL a.kind b.kind))/\Gr w w':=by
 have h:=jD (fun W=>eS a.kind b.kind W);obtain⟨r,hr⟩:=jE (bL a.kind b.kind);rw[hr]at h ⊢;clear hr;obtain⟨D,z,tx⟩:=a;obtain⟨G,bn,ty⟩:=b;unfold vlV;simp only at h ⊢;go_enter func189,ntmps189;go_wp2_with fail;refine (h.out _).mono ?_;rintro e F ⟨rfl,rfl⟩;go_wp2;go_ret;exact⟨rfl,jC⟩
theorem FX (a b:Vl) (w:World):Calls prog 190 #[vlV a,vlV b] w fun e w'=>e=.returned (KW (bL a.num b.num))/\Gr w w':=by
 have h:=jD (fun W=>eS a.num b.num W);obtain⟨r,hr⟩:=jE (bL a.num b.num);rw[hr]at h ⊢;clear hr;obtain⟨D,z,tx⟩:=a;obtain⟨G,bn,ty⟩:=b;unfold vlV;simp only at h ⊢;go_enter func190,ntmps190;go_wp2_with fail;refine (h.out _).mono ?_;rintro e F ⟨rfl,rfl⟩;go_wp2;go_ret;exact⟨rfl,jC⟩
theorem Ic (a b:Vl) (w:World):Calls prog 127 #[vlV a,vlV b] w fun e w'=>e=.returned (KW (vlC a b))/\Gr w w':=by
 have H1:=jD (fun W=>Eo a b W);have H2:=jD (fun W=>FX a b W);have H3:=jD (fun W=>CL a.text b.text W);obtain⟨r1,J⟩:∃r,bL a.kind b.kind=r:=⟨_,rfl⟩;obtain⟨r2,O⟩:∃r,bL a.num b.num=r:=⟨_,rfl⟩;obtain⟨r3,Z⟩:∃r,cZ a.text.toList b.text.toList=r:=⟨_,rfl⟩;obtain⟨R,hR⟩:=jF (vlC a b);have HR:Hid (R=if r1≠0 then r1 else if r2≠0 then r2 else r3):=jD (by rw[hR,<-J,<-O,<-Z];unfold vlC orI;by_cases D:bL a.kind b.kind=0<;>by_cases e2:bL a.num b.num=0<;>simp[D,e2]);rw[J]at H1;rw[O]at H2;rw[Z]at H3;rw[<-hR];clear hR J O Z;obtain⟨ak,an,tx⟩:=a;obtain⟨bk,bn,ty⟩:=b;unfold vlV at *;simp only at *;go_enter func127,ntmps127;go_wp2;refine aP fun F D=>?_
 have y0:KX F w.heap.size 0 (KW ak):=jG D;have y1:KX F w.heap.size 1 (KW an):=jG D;have y2:KX F w.heap.size 2 (.string tx):=jG D;have z0:KX F (w.heap.size+1) 0 (KW bk):=jG D;have z1:KX F (w.heap.size+1) 1 (KW bn):=jG D;have z2:KX F (w.heap.size+1) 2 (.string ty):=jG D;have t0:KX F (w.heap.size+2) 0 (.func (.func 189) #[] #[]):=jG D;have t1:KX F (w.heap.size+2) 1 (.func (.func 190) #[] #[]):=jG D;have a':Hid (Gr w F):=jD (by rw[D];exact jC);clear D
 go_loopw [10] (fun i wr=>∃k:Nat,k<=2/\i=KW k/\Hid ((1<=k->r1=0)/\(2<=k->r2=0)/\Gr F wr)) (fun i _=>2-(intOf i).toNat)
 case atStart=>exact⟨0,by omega,rfl,jD ⟨by omega,by omega,Gr.refl _⟩⟩
 case round =>
  obtain⟨k,hk,rfl,G⟩:=hrel;have I:=G.out.2.2.below;replace y0:=aa I y0;replace y1:=aa I y1;replace y2:=aa I y2;replace z0:=aa I z0;replace z1:=aa I z1;replace z2:=aa I z2;replace t0:=aa I t0;replace t1:=aa I t1;clear I
  match k,hk with
  | 0,_ =>
   go_wp2_with fail;refine (H1.out _).mono ?_;rintro e w2 ⟨rfl,z⟩
   by_cases h0:r1=0
   ·subst h0;go_wp2_with fail
    go_roundw
    case rel=>exact⟨1,by omega,rfl,jD ⟨by simp,by omega,G.out.2.2.trans z⟩⟩
    case measure=>simp[intOf]
   ·have b0:(r1==0)=false:=jQ h0;obtain rfl:R=r1:=by rw[HR.out,K7 h0]
    clear HR;go_wp2;go_ret;exact⟨rfl,a'.out.trans (G.out.2.2.trans z)⟩
  | 1,_ =>
   obtain rfl:=G.out.1 om;go_wp2_with fail;refine (H2.out _).mono ?_;rintro e w2 ⟨rfl,z⟩
   by_cases h0:r2=0
   ·subst h0;go_wp2_with fail
    go_roundw
    case rel=>exact⟨2,by omega,rfl,jD ⟨by simp,by simp,G.out.2.2.trans z⟩⟩
    case measure=>simp[intOf]
   ·have b0:(r2==0)=false:=jQ h0;obtain rfl:R=r2:=by rw[HR.out,K6 jS,K7 h0]
    clear HR;go_wp2;go_ret;exact⟨rfl,a'.out.trans (G.out.2.2.trans z)⟩
  | 2,_ =>
   obtain rfl:=G.out.1 om;obtain rfl:=G.out.2.1 om;obtain rfl:R=r3:=by rw[HR.out];simp
   clear HR;go_wp2_with fail;refine (H3.out _).mono ?_;rintro e w2 ⟨rfl,z⟩;go_wp2;go_ret;exact⟨rfl,a'.out.trans (G.out.2.2.trans z)⟩
  | k+3,h=>exact absurd h om
section
section
open Go.RowKit Go.Shelf
open Go.Sort (SWO PermIn SortedIn HoldsK grow)
instance vlInh:Inhabited Vl:=⟨au⟩
theorem yF (args:Array Value) (W:World):(callFunc 127 args).run prog W=.ok (.enter 127 args) W:=enters_of func127 kr rfl args W
theorem Dg (x:Vl) {w:World} {g p:Nat} (h:lU w g p x) {r:Nat} (hr:r<3):w.cell? ⟨g,p+r,none⟩=(bY x)[r]?:=by
 obtain⟨h0,z,D⟩:=h
 match r,hr with
 | 0,_=>exact h0
 | 1,_=>exact z
 | 2,_=>exact D
theorem tT (es:List Vl) (g cap:Nat) (cur:List Value) (w:World) (O:w.heap[g]?=some (.cells cur.toArray 27 (0,0))) (hc:∀(k:Nat) (x:Vl),es[k]?=some x->lU w g (0+k*3) x) (c':es.length<=1048576) :
  Calls prog 126 #[.slice (some ⟨g,0,none⟩) es.length cap,.func (.func 127) #[] #[]] w fun e W=>e=.returned (.tuple #[])/\∃es':List Vl,es'.Perm es/\es'.Pairwise (fun a b=>¬vlC b a<0)/\(∀(k:Nat) (x:Vl),es'[k]?=some x->lU W g (0+k*3) x)/\w.grownBy W (some g):=by
 have hH:HoldsK bY 3 w g 0 es.toArray:=by
  intro t ht;rw[Go.Sort.size_flatK]at ht;rw[Go.Sort.get_flatK _ _ _ _ ht];simp only[MM]at ht;have hq:t / 3<es.length:=by omega
  have I:es.toArray[t / 3]! =es[t / 3]:=by simp[hq]
  rw[I];refine⟨?_,aq O _⟩;have h1:=Dg es[t / 3] (hc (t / 3) es[t / 3] (K9 hq)) (r:=t%3) om;have h2:0+t / 3*3+t%3=0+t:=by omega
  rw[h2]at h1;rw[h1];have h3:t%3<(bY es[t / 3]).length:=by simp[bY];omega
  rw[K9 h3,getElem!_pos (bY es[t / 3]) (t%3) h3];rfl
 have G:CmpLays prog 127 #[] bY 3 vlC g 0 es.toArray.size w:=by
  intro m os dk _ x y;refine (Ic x y _).mono ?_;rintro e w' ⟨rfl,h2⟩;exact⟨rfl,vg h2⟩
 have hlen:es.toArray.size=es.length:=by simp
 have h:=AnyQ.slices_SortFunc Tryz.sortVal 3 Tryz.isAgg27 Tryz.sizeOf27 bY (fun _=>rfl) (fun x v hv=>by
   simp only[bY,Lv,LM,LN]at hv;rcases hv with rfl|rfl|rfl<;>rfl) vlC (tX nM) 127 #[] g 0 cap es.toArray w yF G hH (aD O) (by rw[hlen];omega)
 change Calls prog 126 _ _ _ at h
 rw[hlen]at h;refine h.mono ?_;rintro e W ⟨rfl,z,n,os,⟨hs,_,hp⟩,a',rfl⟩;rw[hlen]at hs;have hex:∀d:Array Vl,d.size=es.length->(d.extract 0 es.length).toList=d.toList:=fun d hd=>by rw[<-hd];simp
 rw[hex z hs,hex es.toArray hlen]at hp;have F:HoldsK bY 3 (sortWorldK bY 3 w g 0 n z os) g 0 z:=holdsK_sortWorldK_c bY 3 w g 0 es.toArray z n os hH (aD O) (by rw[hs,hlen]);have hW:=gW bY 3 w g 0 n z os;refine⟨rfl,z.toList,jQ hp,?_,?_,hW⟩
 ·rw[NQ];intro i j hi J Z;have:=a' i j (Lb _) Z (by rw[<-hs];simpa using J);simp only[NI]at hi J;rw[getElem!_pos z i hi,getElem!_pos z j J]at this;unfold ltOf at this
  simpa only [LG,Array.getElem_toList] using this
 ·intro k x I;have D:k<z.size:=by have:=(List.getElem?_eq_some_iff.1 I).1;simpa using this
  have hz:z[k]! =z[k]:=getElem!_pos z k D;have b':z[k]=x:=by
   rw[M5,NP D]at I;exact LK I
  have q0:=(F.cell (c:=0) D dc).1;have q1:=(F.cell (c:=1) D dc).1;have q2:=(F.cell (c:=2) D dc).1;rw[hz,b']at q0 q1 q2;refine⟨?_,?_,?_⟩
  ·simpa [bY] using q0
  ·simpa [bY] using q1
  ·simpa [bY] using q2
end
end
section
section
open Go.RowKit Go.Shelf
open Go.Sort (SWO PermIn SortedIn HoldsK grow pdq pdq_sorts)
abbrev PX:Type:={ x:Int × Nat // x.2<=1048576 }
instance pxInh:Inhabited PX:=⟨⟨(0,0),Nat.zero_le _⟩⟩
def pxC (x y:PX):Int:=(x.1.2:Int)-(y.1.2:Int)
def ia (x:PX):List Value:=[KW x.1.1,KW (x.1.2:Int)]
theorem G4:PC pxC:=⟨fun a b=>by unfold pxC;omega,fun a b d z D=>by unfold pxC at *;omega,fun a b d h=>by unfold pxC at *;omega⟩
theorem xC (args:Array Value) (W:World):(callFunc 372 args).run prog W=.ok (.enter 372 args) W:=enters_of func372 kr rfl args W
theorem zN (args:Array Value) (W:World):(callFunc 399 args).run prog W=.ok (.enter 399 args) W:=enters_of func399 kr rfl args W
theorem Gd (x y:PX) (w:World):Calls prog 372 #[prV x.1,prV y.1] w fun e w'=>e=.returned (KW (pxC x y))/\Gr w w':=by
 obtain⟨⟨F,z⟩,D⟩:=x;obtain⟨⟨G,h⟩,hy⟩:=y;unfold pxC prV;simp only at D hy ⊢;have hw:IntKind.i64.wrap ((z:Int)-(h:Int))=(z:Int)-(h:Int):=by simp[IntKind.wrap,IntKind.bits,IntKind.signed];omega
 go_enter func372,ntmps372;go_wp2;go_ret;exact⟨rfl,jC⟩
theorem G3 (x:PX) {w:World} {g p:Nat} (h:vz w g p x.1) {r:Nat} (hr:r<2):w.cell? ⟨g,p+r,none⟩=(ia x)[r]?:=by
 obtain⟨h0,z⟩:=h
 match r,hr with
 | 0,_=>exact h0
 | 1,_=>exact z
def J2 (w:World) (g:Nat) (es:List PX) (e:Ending) (W:World):Prop:=e=.returned (.tuple #[])/\∃es':List PX,es'.Perm es/\es'.Pairwise (fun a b=>¬pxC b a<0)/\(∀(k:Nat) (x:PX),es'[k]?=some x->vz W g (0+k*2) x.1)/\w.grownBy W (some g)
theorem uH (es:List PX) (g cap:Nat) (cur:List Value) (w:World) (I:w.heap[g]?=some (.cells cur.toArray 188 (0,0))) (hc:∀(k:Nat) (x:PX),es[k]?=some x->vz w g (0+k*2) x.1) (h':es.length<=1048576) :
  Calls prog 371 #[.slice (some ⟨g,0,none⟩) es.length cap,.func (.func 372) #[] #[]] w (J2 w g es):=by
 have hH:HoldsK ia 2 w g 0 es.toArray:=by
  intro t ht;rw[Go.Sort.size_flatK]at ht;rw[Go.Sort.get_flatK _ _ _ _ ht];simp only[MM]at ht;have hq:t / 2<es.length:=by omega
  have O:es.toArray[t / 2]! =es[t / 2]:=by simp[hq]
  rw[O];refine⟨?_,aq I _⟩;have h1:=G3 es[t / 2] (hc (t / 2) es[t / 2] (K9 hq)) (r:=t%2) om;have h2:0+t / 2*2+t%2=0+t:=by omega
  rw[h2]at h1;rw[h1];have h3:t%2<(ia es[t / 2]).length:=by simp[ia];omega
  rw[K9 h3,getElem!_pos (ia es[t / 2]) (t%2) h3];rfl
 have F:CmpLays prog 372 #[] ia 2 pxC g 0 es.toArray.size w:=by
  intro m os dk _ x y;refine (Gd x y _).mono ?_;rintro e w' ⟨rfl,h2⟩;exact⟨rfl,vg h2⟩
 have hlen:es.toArray.size=es.length:=by simp
 have G:Lib.bitLen es.toArray.size<4611686018427387904:=Nat.lt_of_le_of_lt (Lib.bitLen_le es.toArray.size 62 om om) om;have hp:=AnyQ.pdqsortCmpFunc_all Tryz.pdqSet 2 Tryz.isAgg188 Tryz.sizeOf188 ia pxC 372 #[] (tX G4) g 0 cap es.toArray w xC F ⟨fun _=>rfl,fun x v hv=>by
   simp only[ia,Lv,LM,LN]at hv;rcases hv with rfl|rfl<;>rfl,hH,aD I⟩ (es.toArray.size+1) 0 es.toArray.size (Lib.bitLen es.toArray.size) es.toArray w om rfl (SWK.start hH) (Lb _) (Ld _) om G (Or.inl rfl)
 change Calls prog 399 _ _ _ at hp
 have hl:Calls prog 79 #[.int .u64 (es.toArray.size:Int)] w fun e w'=>e=.returned (KW (Lib.bitLen es.toArray.size:Nat))/\w'=w:=by
  have h:=Any.bits_Len (SlLaysF0.n15.bits (P:=prog) (ρ:=Tryz.sortVal_ren) { Tryz.sortVal with }) (es.toArray.size:Int) w om om
  rwa [MQ]at h
 rw[hlen]at hp hl;have wr:IntKind.u64.wrap (es.length:Int)=es.length:=by simp[IntKind.wrap,IntKind.bits,IntKind.signed];omega
 have g':=zN;have HH:=jD hH;have HG:=jD I;have HQ:=jD (pdq_sorts (ltOf pxC) (tX G4) es.toArray 0 es.toArray.size (Lib.bitLen es.toArray.size) true true (Lb _) (Ld _) (Or.inl rfl));rw[hlen]at HQ;clear hH F hc G I;go_enter func371,ntmps371;go_wp2_with (first|(go_at_call 79;refine hl.mono ?_;rintro e w' ⟨rfl,a'⟩;rw[a'];clear a' w')|(go_at_call 399;refine hp.mono ?_;rintro e w' ⟨rfl,n,os,rfl⟩))
 go_end0
 obtain⟨z,b'⟩:=jF (pdq (ltOf pxC) es.toArray 0 es.length (Lib.bitLen es.length) true true);have hQ:=HQ.out;rw[<-b']at hQ ⊢;obtain⟨⟨hs,-,J⟩,e'⟩:=hQ;have I:=HG.out;rw[hlen]at hs;have hex:∀d:Array PX,d.size=es.length->(d.extract 0 es.length).toList=d.toList:=fun d hd=>by rw[<-hd];simp
 rw[hex z hs,hex es.toArray hlen]at J;have Z:HoldsK ia 2 (sortWorldK ia 2 w g 0 n z os) g 0 z:=holdsK_sortWorldK_c ia 2 w g 0 es.toArray z n os HH.out (aD I) (by rw[hs,hlen]);have hW:=gW ia 2 w g 0 n z os;refine⟨rfl,z.toList,jQ J,?_,?_,hW⟩
 ·rw[NQ];intro i j hi hj c';have:=e' i j (Lb _) c' (by rw[<-hs];simpa using hj);simp only[NI]at hi hj;rw[getElem!_pos z i hi,getElem!_pos z j hj]at this;unfold ltOf at this
  simpa only [LG,Array.getElem_toList] using this
 ·intro k x O;have D:k<z.size:=by have:=(List.getElem?_eq_some_iff.1 O).1;simpa using this
  have hz:z[k]! =z[k]:=getElem!_pos z k D;have f':z[k]=x:=by
   rw[M5,NP D]at O;exact LK O
  have q0:=(Z.cell (c:=0) D dc).1;have q1:=(Z.cell (c:=1) D dc).1;rw[hz,f']at q0 q1;refine⟨?_,?_⟩
  ·simpa [ia] using q0
  ·simpa [ia] using q1
end
end
theorem zK:(prog.info? 188).map (fun i=>(i.zero,i.size,i.bytes))=some (some (.agg #[KW 0,KW 0]),2,16):=kr
theorem JC:∀{S T:Bs},S.Pairwise (fun x y=>x.2<y.2)->T.Pairwise (fun x y=>x.2<y.2)->(∀k,k∈S↔k∈T)->S=T
 | [],[],_,_,_=>rfl
 | [],y::T,_,_,h=>absurd ((h y).2 (Lg ..)) jS
 | x::S,[],_,_,h=>absurd ((h x).1 (Lg ..)) jS
 | x::S,y::T,hs,ht,h=>by
  rw[MZ]at hs ht;have F:x=y:=by
   have z:=(h x).1 (Lg ..);have D:=(h y).2 (Lg ..);rcases List.mem_cons.1 z with z|z
   ·exact z
   ·rcases List.mem_cons.1 D with D|D
    ·exact D.symm
    ·have:=ht.1 x z;have:=hs.1 y D;omega
  subst F;rw[JC hs.2 ht.2 fun k=>⟨fun hk=>?_,fun hk=>?_⟩]
  ·rcases List.mem_cons.1 ((h k).1 (Lh _ hk)) with e|e
   ·have:=hs.1 k hk;subst e;omega
   ·exact e
  ·rcases List.mem_cons.1 ((h k).2 (Lh _ hk)) with e|e
   ·have:=ht.1 k hk;subst e;omega
   ·exact e
theorem Bi:∀(s:Bs),(∀x∈s,x.2<=1048576)->∃es:List PX,es.map (·.1)=s
 | [],_=>⟨[],rfl⟩
 | x::r,h=>by
  obtain⟨es,he⟩:=Bi r fun y hy=>h y (Lh _ hy)
  exact⟨⟨x,h x (Lg ..)⟩::es,by rw[LF,he]⟩
theorem vd {es es':List PX} {s t:Bs} (he:es.map (·.1)=s++t) (hp:es'.Perm es) (z:es'.Pairwise (fun a b=>¬pxC b a<0)) (hs:CT s) (I:CT t) (G:∀x∈s,∀y∈t,x.2≠y.2):es'.map (·.1)=bg s t:=by
 refine JC ?_ (eH s t hs I G) fun k=>?_
 ·have D:(es.map (·.1)).Pairwise (fun x y=>x.2≠y.2):=by
   rw[he,Np];exact⟨hs.imp fun h=>Ns h,I.imp fun h=>Ns h,G⟩
  have F:(es'.map (·.1)).Pairwise (fun x y=>x.2≠y.2):=(List.Perm.pairwise_iff (fun h=>Me h) (hp.map _)).2 D;rw[NE]at F ⊢;exact (z.and F).imp fun ⟨a,b⟩=>by unfold pxC at a;omega
 ·rw[(hp.map _).mem_iff,he,L0,cP]
def tW (w:World) (L:Bs) (e:Ending) (W:World):Prop:=∃v,e=.returned v/\SetIn (fun b=>w.heap.size<=b) W v L/\KY w W
theorem xT (s t:Bs) (u v:Value) (w:World) (hu:jw w u s) (hv:jw w v t) (hs:CT s) (ht:CT t) (hd:∀x∈s,∀y∈t,x.2≠y.2) (s':t≠[]) (hb:∀x∈s++t,x.2<=1048576) (hl:s.length+t.length<=1048576) :
  Calls prog 349 #[u,v] w (tW w (bg s t)):=by
 obtain⟨es,O⟩:=Bi (s++t) hb;have M':=jD (fun (es':List PX) (hp:es'.Perm es) (I:es'.Pairwise (fun a b=>¬pxC b a<0))=>vd O hp I hs ht hd);obtain⟨As,c1,rfl,h1,h2,-⟩:=id hu;obtain⟨At,c2,rfl,k1,k2,-⟩:=id hv;obtain⟨cs,n',e',-⟩:=im lV hu;obtain⟨ds,p',g',-⟩:=im lV hv;have A':=ax h1 h2;have D':=ax k1 k2;have t':=List.length_pos_iff.2 s';have F':=jD (n'.app p');have G':=jD O;have a':es.length=s.length+t.length:=by have:=congrArg List.length O;simpa using this
 have h':Hid ((s++t).length=s.length+t.length):=jD Le;obtain⟨n,hn⟩:=jF s.length;obtain⟨m,hm⟩:=jF t.length;rw[<-hn]at e' A' hl a' h' ⊢;rw[<-hm]at g' D' hl a' t' h' ⊢;obtain⟨N,hN⟩:=jF (n+m);have hw:IntKind.i64.wrap ((n:Int)+(m:Int))=(N:Int):=by rw[hN];simp[IntKind.wrap,IntKind.bits,IntKind.signed];omega
 have E':=jD e';have J':=jD g';clear e' g' n' p' h1 h2 k1 k2 O hu hv hs ht hd s' hb hn hm;obtain⟨i0,hi,j',d',f'⟩:=LD zK;have O':(N:Int)<=9223372036854775807:=by omega
 have N':N<=1048576:=by omega
 clear hN;go_enter func349,ntmps349;go_wp2_with (first
  | (at_make;refine wpList_make_own _ rfl (.const (KW 0)) (.tmp 10) 186 rfl w.heap.size 188 i0 _ 2 underlying186 hi j' d' .i64 .i64 (N:Int) N rfl rfl rfl (by rw[f'];omega) (by unfold maxLen;omega) (Ld _) ?_;intro w7 F y';have G:KY w w7:=am y' (Ld _) (fun g h=>by cases h))
  | (at_builtin;refine aR _ rfl (.tmp 11) (.tmp 12) 186 rfl w.heap.size 188 i0 _ 2 16 underlying186 hi j' d' f' rfl dc (.slice (some ⟨w.heap.size,0,none⟩) 0 N) 0 [] rfl F As n c1 cs rfl (E'.out.stays G) (by unfold maxLen;omega) om G.size ?_;intro v8 w8 D u' l';have J:KY w w8:=G.trans (am u' G.size (fun g h=>(ah F h).1)))
  | (at_builtin;refine aR _ rfl (.tmp 13) (.tmp 14) 186 rfl w.heap.size 188 i0 _ 2 16 underlying186 hi j' d' f' rfl dc v8 (0+n) ([]++cs) rfl D At m c2 ds rfl (J'.out.stays J) (by unfold maxLen;omega) om J.size ?_;intro v9 w9 z x' k';have Z:KY w w9:=J.trans (am x' J.size (fun g h=>(ah D h).1))))
 have e0:0+n+m=es.length:=by omega
 rw[e0]at z;obtain⟨g,cap,spare,rfl,hg,z',L',H'⟩:=lH z om;have m':Sl vz 2 w9 (.slice (some ⟨g,0,none⟩) es.length cap) (s++t):=dC F'.out Z (by rw[h'.out,<-a'];exact z);have q':∀(k:Nat) (x:PX),es[k]?=some x->vz w9 g (0+k*2) x.1:=fun k x hx=>by
  obtain⟨A,c,hA,-,-,h3⟩:=m';obtain⟨b,o,I',hp⟩:=h3 k x.1 (by rw[<-G'.out,LI,hx];rfl);rw[I']at hA;injection hA with hA;injection hA with hA;injection hA with e1 e2;subst e1 e2;exact hp
 refine (uH es g cap _ w9 z' q' om).mono ?_;rintro e C' ⟨rfl,es',hp,I,c',r'⟩;have hm:=M'.out es' hp (by first|exact I|exact I.imp fun h=>Int.not_lt.1 h);have b':KY w C':=Z.trans (am r' Z.size (fun k e=>by cases e;exact hg));have B':=jD c';have HM:=jD hm;have HB:=jD b';have HP:=jD hp;clear q' c' hm b' hp I r' F D z G J Z y' u' x' l' k' z' m';go_wp2;go_ret;refine⟨_,rfl,?_,HB.out⟩;rw[<-HM.out];have i':=HP.out.length_eq;refine⟨g,0,cap,by rw[Lm,i',a'];rfl,by rw[Lm,i'];exact L',H',fun e=>?_,hg,fun k x hk=>?_⟩
 ·have:=congrArg List.length e;rw[Lm,i',MG]at this;omega
 ·rw[LI]at hk;obtain⟨y,hy,rfl⟩:=Option.map_eq_some_iff.1 hk;exact B'.out k y hy
end Go.Proofs.YtokconodddedhaaGreatDoor
