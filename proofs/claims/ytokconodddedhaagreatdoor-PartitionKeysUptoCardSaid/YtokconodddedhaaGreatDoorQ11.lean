/- Part. -/
import Derived.Test.YtokconodddedhaaGreatDoorQ10
set_option maxRecDepth 100000
set_option maxHeartbeats 16000000
set_option linter.unusedVariables false
set_option linter.unusedSimpArgs false
namespace Go.Proofs.YtokconodddedhaaGreatDoor
open Go.Proofs.Tryz Go.RowKit
theorem Cb (x:Ex) (A:Option Addr) (n c:Nat) (w:World) (h:x.op<0\/12<x.op) :
  KZ 355 #[exV x (.slice A n c)] w (KW (bh x)):=by
 have D:bh x=1:=by unfold bh;rw[K7 (by unfold arN;rw[K7 h];omega)]
 rw[D];have F:=jD (eL x.op);rw[show arN x.op=-1 by unfold arN;rw[K7 h]]at F;clear D h;unfold exV;go_enter func355,ntmps355;go_wp2_with fail;refine (F.out _).mono ?_;rintro e G ⟨rfl,z⟩;go_wp2;go_ret;exact⟨rfl,ab (ag w _) z⟩
theorem Hp (x:Ex) (A:Option Addr) (c:Nat) (w:World) (h2:x.op=2) (hn:x.args.length<=1048576) :
  KZ 355 #[exV x (.slice A x.args.length c)] w (KW (bh x)):=by
 obtain⟨op,l,vr,fl,kd,⟨I,n0,t0⟩⟩:=x;obtain⟨R,hR⟩:=jE (bh (.mk op l vr fl kd ⟨I,n0,t0⟩));rw[hR];have HA:=jD (eL op);have HS:=jD (gt op);have HQ:Hid (∀W,(binOp .neq 27 (.agg #[KW I,KW n0,.string t0]) (.agg #[KW 0,KW 0,.string ⟨#[]⟩])).run prog W=.ok (.bool (!cC ⟨I,n0,t0⟩ au)) W):=jD (fun W=>dg ⟨I,n0,t0⟩ au W);have HC:=jD (fun (W:World) (_:True)=>eR ⟨I,n0,t0⟩ W);have HU:=jD (fun (W:World)=>fL kd ⟨I,n0,t0⟩ W);obtain⟨b,b'⟩:=jE (gL kd ⟨I,n0,t0⟩);rw[b']at HU;obtain⟨q,hq⟩:=jE (cC ⟨I,n0,t0⟩ au);obtain⟨z,hz⟩:=jE (eu ⟨I,n0,t0⟩);rw[hq]at HQ;rw[hz]at HC;unfold exV vlV at *;simp only[Ex.op,Ex.vr,Ex.fl,Ex.kd,Ex.val,Ex.args]at *;subst h2;obtain⟨n,O⟩:=jE l.length;rw[O]at hn ⊢;have F:Hid (R=if (n:Int)≠0 then 15 else if (vr<0\/16<=vr) then 2 else if fl≠0\/kd≠0\/q=false then 3 else 0):=jD (by rw[<-hR,<-hq,<-O];simp[bh,dr,arN,Ex.op,Ex.args,Ex.vr,Ex.fl,Ex.kd,Ex.val,Mu]);clear hR hq hz O hn b';go_enter func355,ntmps355;go_wp2_with fail;refine (HA.out _).mono ?_;rintro e J ⟨rfl,Z⟩;have h:=(aY Z).1;have y0:J.cell? ⟨w.heap.size,0,none⟩=some (KW 2):=by rw[h];rfl
 have y1:J.cell? ⟨w.heap.size,1,none⟩=some (.slice A n c):=by rw[h];rfl
 have y2:J.cell? ⟨w.heap.size,2,none⟩=some (KW vr):=by rw[h];rfl
 have y3:J.cell? ⟨w.heap.size,3,none⟩=some (KW fl):=by rw[h];rfl
 have y4:J.cell? ⟨w.heap.size,4,none⟩=some (KW kd):=by rw[h];rfl
 have y5:J.cell? ⟨w.heap.size,5,none⟩=some (KW I):=by rw[h];rfl
 have y6:J.cell? ⟨w.heap.size,6,none⟩=some (KW n0):=by rw[h];rfl
 have y7:J.cell? ⟨w.heap.size,7,none⟩=some (.string t0):=by rw[h];rfl
 have a':=jD (ab (ag w _) Z);clear h Z;rw[show arN 2=0 from rfl]
 by_cases h0:(n:Int)=0
 case neg =>
  have d':((n:Int)==0)=false:=jQ h0;obtain rfl:R=15:=by rw[F.out,K7 h0]
  clear F h0;go_wp2_with fail
  all_goals
   go_ret;exact⟨rfl,a'.out⟩
 have H0:=jD h0;obtain rfl:n=0:=by omega
 clear h0 H0;go_wp2_with fail;refine (HS.out _).mono ?_;rintro e w2 ⟨rfl,D⟩;replace y0:=aa D y0;replace y1:=aa D y1;replace y2:=aa D y2;replace y3:=aa D y3;replace y4:=aa D y4;replace y5:=aa D y5;replace y6:=aa D y6;replace y7:=aa D y7;have G:=jD (ab a'.out D);rw[show dr 2=(true,false) from rfl];have hQ:=HQ.out;clear HA HS HQ D
 by_cases q0:vr<0
 case pos =>
  obtain rfl:R=2:=by rw[F.out];simp[q0]
  clear F;go_wp2_with fail
  all_goals exact en (G.out)
 by_cases q1:16<=vr
 case pos =>
  obtain rfl:R=2:=by rw[F.out];simp[q0,q1]
  clear F;go_wp2_with fail
  all_goals exact en (G.out)
 clear HC HU
 by_cases p1:fl=0
 case neg =>
  have f':(fl==0)=false:=jQ p1;have e':=jD p1;obtain rfl:R=3:=by rw[F.out];simp[q0,q1,p1]
  clear F p1;go_wp2_with fail
  all_goals exact en (G.out)
 subst p1
 by_cases p2:kd=0
 case neg =>
  have g':(kd==0)=false:=jQ p2;have c':=jD p2;obtain rfl:R=3:=by rw[F.out];simp[q0,q1,p2]
  clear F p2;go_wp2_with fail
  all_goals exact en (G.out)
 subst p2
 cases q with
 | false =>
  obtain rfl:R=3:=by rw[F.out];simp[q0,q1]
  clear F;go_wp2_with fail
  all_goals exact en (G.out)
 | true =>
  obtain rfl:R=0:=by rw[F.out];simp[q0,q1]
  clear F;go_wp2_with fail
  all_goals exact en (G.out)
theorem I9 (x:Ex) (A:Option Addr) (c:Nat) (w:World) (h2:x.op=3) (hn:x.args.length<=1048576) :
  KZ 355 #[exV x (.slice A x.args.length c)] w (KW (bh x)):=by
 obtain⟨op,l,vr,fl,kd,⟨I,n0,t0⟩⟩:=x;obtain⟨R,hR⟩:=jE (bh (.mk op l vr fl kd ⟨I,n0,t0⟩));rw[hR];have HA:=jD (eL op);have HS:=jD (gt op);have HQ:Hid (∀W,(binOp .neq 27 (.agg #[KW I,KW n0,.string t0]) (.agg #[KW 0,KW 0,.string ⟨#[]⟩])).run prog W=.ok (.bool (!cC ⟨I,n0,t0⟩ au)) W):=jD (fun W=>dg ⟨I,n0,t0⟩ au W);have HC:=jD (fun (W:World) (_:True)=>eR ⟨I,n0,t0⟩ W);have HU:=jD (fun (W:World)=>fL kd ⟨I,n0,t0⟩ W);obtain⟨b,b'⟩:=jE (gL kd ⟨I,n0,t0⟩);rw[b']at HU;obtain⟨q,hq⟩:=jE (cC ⟨I,n0,t0⟩ au);obtain⟨z,hz⟩:=jE (eu ⟨I,n0,t0⟩);rw[hq]at HQ;rw[hz]at HC;unfold exV vlV at *;simp only[Ex.op,Ex.vr,Ex.fl,Ex.kd,Ex.val,Ex.args]at *;subst h2;obtain⟨n,O⟩:=jE l.length;rw[O]at hn ⊢;have F:Hid (R=if (n:Int)≠0 then 15 else if (vr<0\/16<=vr) then 2 else if fl≠0\/kd≠0\/q=false then 3 else 0):=jD (by rw[<-hR,<-hq,<-O];simp[bh,dr,arN,Ex.op,Ex.args,Ex.vr,Ex.fl,Ex.kd,Ex.val,Mu]);clear hR hq hz O hn b';go_enter func355,ntmps355;go_wp2_with fail;refine (HA.out _).mono ?_;rintro e J ⟨rfl,Z⟩;have h:=(aY Z).1;have y0:J.cell? ⟨w.heap.size,0,none⟩=some (KW 3):=by rw[h];rfl
 have y1:J.cell? ⟨w.heap.size,1,none⟩=some (.slice A n c):=by rw[h];rfl
 have y2:J.cell? ⟨w.heap.size,2,none⟩=some (KW vr):=by rw[h];rfl
 have y3:J.cell? ⟨w.heap.size,3,none⟩=some (KW fl):=by rw[h];rfl
 have y4:J.cell? ⟨w.heap.size,4,none⟩=some (KW kd):=by rw[h];rfl
 have y5:J.cell? ⟨w.heap.size,5,none⟩=some (KW I):=by rw[h];rfl
 have y6:J.cell? ⟨w.heap.size,6,none⟩=some (KW n0):=by rw[h];rfl
 have y7:J.cell? ⟨w.heap.size,7,none⟩=some (.string t0):=by rw[h];rfl
 have a':=jD (ab (ag w _) Z);clear h Z;rw[show arN 3=0 from rfl]
 by_cases h0:(n:Int)=0
 case neg =>
  have d':((n:Int)==0)=false:=jQ h0;obtain rfl:R=15:=by rw[F.out,K7 h0]
  clear F h0;go_wp2_with fail
  all_goals
   go_ret;exact⟨rfl,a'.out⟩
 have H0:=jD h0;obtain rfl:n=0:=by omega
 clear h0 H0;go_wp2_with fail;refine (HS.out _).mono ?_;rintro e w2 ⟨rfl,D⟩;replace y0:=aa D y0;replace y1:=aa D y1;replace y2:=aa D y2;replace y3:=aa D y3;replace y4:=aa D y4;replace y5:=aa D y5;replace y6:=aa D y6;replace y7:=aa D y7;have G:=jD (ab a'.out D);rw[show dr 3=(true,false) from rfl];have hQ:=HQ.out;clear HA HS HQ D
 by_cases q0:vr<0
 case pos =>
  obtain rfl:R=2:=by rw[F.out];simp[q0]
  clear F;go_wp2_with fail
  all_goals exact en (G.out)
 by_cases q1:16<=vr
 case pos =>
  obtain rfl:R=2:=by rw[F.out];simp[q0,q1]
  clear F;go_wp2_with fail
  all_goals exact en (G.out)
 clear HC HU
 by_cases p1:fl=0
 case neg =>
  have f':(fl==0)=false:=jQ p1;have e':=jD p1;obtain rfl:R=3:=by rw[F.out];simp[q0,q1,p1]
  clear F p1;go_wp2_with fail
  all_goals exact en (G.out)
 subst p1
 by_cases p2:kd=0
 case neg =>
  have g':(kd==0)=false:=jQ p2;have c':=jD p2;obtain rfl:R=3:=by rw[F.out];simp[q0,q1,p2]
  clear F p2;go_wp2_with fail
  all_goals exact en (G.out)
 subst p2
 cases q with
 | false =>
  obtain rfl:R=3:=by rw[F.out];simp[q0,q1]
  clear F;go_wp2_with fail
  all_goals exact en (G.out)
 | true =>
  obtain rfl:R=0:=by rw[F.out];simp[q0,q1]
  clear F;go_wp2_with fail
  all_goals exact en (G.out)
theorem Ht (x:Ex) (A:Option Addr) (c:Nat) (w:World) (h2:x.op=1) (hn:x.args.length<=1048576) :
  KZ 355 #[exV x (.slice A x.args.length c)] w (KW (bh x)):=by
 obtain⟨op,l,vr,fl,kd,⟨I,n0,t0⟩⟩:=x;obtain⟨R,hR⟩:=jE (bh (.mk op l vr fl kd ⟨I,n0,t0⟩));rw[hR];have HA:=jD (eL op);have HS:=jD (gt op);have HQ:Hid (∀W,(binOp .neq 27 (.agg #[KW I,KW n0,.string t0]) (.agg #[KW 0,KW 0,.string ⟨#[]⟩])).run prog W=.ok (.bool (!cC ⟨I,n0,t0⟩ au)) W):=jD (fun W=>dg ⟨I,n0,t0⟩ au W);have HC:=jD (fun (W:World) (_:True)=>eR ⟨I,n0,t0⟩ W);have HU:=jD (fun (W:World)=>fL kd ⟨I,n0,t0⟩ W);obtain⟨b,c'⟩:=jE (gL kd ⟨I,n0,t0⟩);rw[c']at HU;obtain⟨q,hq⟩:=jE (cC ⟨I,n0,t0⟩ au);obtain⟨z,hz⟩:=jE (eu ⟨I,n0,t0⟩);rw[hq]at HQ;rw[hz]at HC;unfold exV vlV at *;simp only[Ex.op,Ex.vr,Ex.fl,Ex.kd,Ex.val,Ex.args]at *;subst h2;obtain⟨n,Z⟩:=jE l.length;rw[Z]at hn ⊢;have F:Hid (R=if (n:Int)≠0 then 15 else if (vr<0\/16<=vr)\/fl<0\/8<=fl then 2 else if kd≠0\/q=false then 3 else 0):=jD (by rw[<-hR,<-hq,<-Z];simp[bh,dr,arN,Ex.op,Ex.args,Ex.vr,Ex.fl,Ex.kd,Ex.val,Mu]);clear hR hq hz Z hn c';go_enter func355,ntmps355;go_wp2_with fail;refine (HA.out _).mono ?_;rintro e J ⟨rfl,a'⟩;have h:=(aY a').1;have y0:J.cell? ⟨w.heap.size,0,none⟩=some (KW 1):=by rw[h];rfl
 have y1:J.cell? ⟨w.heap.size,1,none⟩=some (.slice A n c):=by rw[h];rfl
 have y2:J.cell? ⟨w.heap.size,2,none⟩=some (KW vr):=by rw[h];rfl
 have y3:J.cell? ⟨w.heap.size,3,none⟩=some (KW fl):=by rw[h];rfl
 have y4:J.cell? ⟨w.heap.size,4,none⟩=some (KW kd):=by rw[h];rfl
 have y5:J.cell? ⟨w.heap.size,5,none⟩=some (KW I):=by rw[h];rfl
 have y6:J.cell? ⟨w.heap.size,6,none⟩=some (KW n0):=by rw[h];rfl
 have y7:J.cell? ⟨w.heap.size,7,none⟩=some (.string t0):=by rw[h];rfl
 have b':=jD (ab (ag w _) a');clear h a';rw[show arN 1=0 from rfl]
 by_cases h0:(n:Int)=0
 case neg =>
  have e':((n:Int)==0)=false:=jQ h0;obtain rfl:R=15:=by rw[F.out,K7 h0]
  clear F h0;go_wp2_with fail
  all_goals
   go_ret;exact⟨rfl,b'.out⟩
 have H0:=jD h0;obtain rfl:n=0:=by omega
 clear h0 H0;go_wp2_with fail;refine (HS.out _).mono ?_;rintro e w2 ⟨rfl,D⟩;replace y0:=aa D y0;replace y1:=aa D y1;replace y2:=aa D y2;replace y3:=aa D y3;replace y4:=aa D y4;replace y5:=aa D y5;replace y6:=aa D y6;replace y7:=aa D y7;have G:=jD (ab b'.out D);rw[show dr 1=(true,true) from rfl];have hQ:=HQ.out;clear HA HS HQ D
 by_cases O:vr<0
 case pos =>
  obtain rfl:R=2:=by rw[F.out];simp[O]
  clear F;go_wp2_with fail
  all_goals exact en (G.out)
 by_cases q1:16<=vr
 case pos =>
  obtain rfl:R=2:=by rw[F.out];simp[O,q1]
  clear F;go_wp2_with fail
  all_goals exact en (G.out)
 by_cases q2:fl<0
 case pos =>
  obtain rfl:R=2:=by rw[F.out];simp[O,q1,q2]
  clear F;go_wp2_with fail
  all_goals exact en (G.out)
 by_cases q3:8<=fl
 case pos =>
  obtain rfl:R=2:=by rw[F.out];simp[O,q1,q2,q3]
  clear F;go_wp2_with fail
  all_goals exact en (G.out)
 clear HC HU
 by_cases p2:kd=0
 case neg =>
  have f':(kd==0)=false:=jQ p2;have d':=jD p2;obtain rfl:R=3:=by rw[F.out];simp[O,q1,q2,q3,p2]
  clear F p2;go_wp2_with fail
  all_goals exact en (G.out)
 subst p2
 cases q with
 | false =>
  obtain rfl:R=3:=by rw[F.out];simp[O,q1,q2,q3]
  clear F;go_wp2_with fail
  all_goals exact en (G.out)
 | true =>
  obtain rfl:R=0:=by rw[F.out];simp[O,q1,q2,q3]
  clear F;go_wp2_with fail
  all_goals exact en (G.out)
theorem Hh (x:Ex) (A:Option Addr) (c:Nat) (w:World) (h2:x.op=0) (hn:x.args.length<=1048576) :
  KZ 355 #[exV x (.slice A x.args.length c)] w (KW (bh x)):=by
 obtain⟨op,l,vr,fl,kd,⟨J,n0,t0⟩⟩:=x;obtain⟨R,hR⟩:=jE (bh (.mk op l vr fl kd ⟨J,n0,t0⟩));rw[hR];have HA:=jD (eL op);have HS:=jD (gt op);have HQ:Hid (∀W,(binOp .neq 27 (.agg #[KW J,KW n0,.string t0]) (.agg #[KW 0,KW 0,.string ⟨#[]⟩])).run prog W=.ok (.bool (!cC ⟨J,n0,t0⟩ au)) W):=jD (fun W=>dg ⟨J,n0,t0⟩ au W);have HC:=jD (fun (W:World) (_:True)=>eR ⟨J,n0,t0⟩ W);have HU:=jD (fun (W:World)=>fL kd ⟨J,n0,t0⟩ W);obtain⟨b,c'⟩:=jE (gL kd ⟨J,n0,t0⟩);rw[c']at HU;obtain⟨q,hq⟩:=jE (cC ⟨J,n0,t0⟩ au);obtain⟨z,hz⟩:=jE (eu ⟨J,n0,t0⟩);rw[hq]at HQ;rw[hz]at HC;unfold exV vlV at *;simp only[Ex.op,Ex.vr,Ex.fl,Ex.kd,Ex.val,Ex.args]at *;subst h2;obtain⟨n,Z⟩:=jE l.length;rw[Z]at hn ⊢;have G:Hid (R=if (n:Int)≠0 then 15 else if z≠0 then z else if vr≠0\/fl≠0\/kd≠0 then 3 else 0):=jD (by rw[<-hR,<-hz,<-Z];simp only[bh,dr,arN,pa,Ex.op,Ex.args,Ex.vr,Ex.fl,Ex.kd,Ex.val];simp[Mu];(repeat' split)<;>simp_all);clear hR hq hz Z hn c';go_enter func355,ntmps355;go_wp2_with fail;refine (HA.out _).mono ?_;rintro e O ⟨rfl,a'⟩;have h:=(aY a').1;have y0:O.cell? ⟨w.heap.size,0,none⟩=some (KW 0):=by rw[h];rfl
 have y1:O.cell? ⟨w.heap.size,1,none⟩=some (.slice A n c):=by rw[h];rfl
 have y2:O.cell? ⟨w.heap.size,2,none⟩=some (KW vr):=by rw[h];rfl
 have y3:O.cell? ⟨w.heap.size,3,none⟩=some (KW fl):=by rw[h];rfl
 have y4:O.cell? ⟨w.heap.size,4,none⟩=some (KW kd):=by rw[h];rfl
 have y5:O.cell? ⟨w.heap.size,5,none⟩=some (KW J):=by rw[h];rfl
 have y6:O.cell? ⟨w.heap.size,6,none⟩=some (KW n0):=by rw[h];rfl
 have y7:O.cell? ⟨w.heap.size,7,none⟩=some (.string t0):=by rw[h];rfl
 have b':=jD (ab (ag w _) a');clear h a';rw[show arN 0=0 from rfl]
 by_cases h0:(n:Int)=0
 case neg =>
  have f':((n:Int)==0)=false:=jQ h0;obtain rfl:R=15:=by rw[G.out,K7 h0]
  clear G h0;go_wp2_with fail
  all_goals
   go_ret;exact⟨rfl,b'.out⟩
 have H0:=jD h0;obtain rfl:n=0:=by omega
 clear h0 H0;go_wp2_with fail;refine (HS.out _).mono ?_;rintro e w2 ⟨rfl,D⟩;replace y0:=aa D y0;replace y1:=aa D y1;replace y2:=aa D y2;replace y3:=aa D y3;replace y4:=aa D y4;replace y5:=aa D y5;replace y6:=aa D y6;replace y7:=aa D y7;have d':=jD (ab b'.out D);rw[show dr 0=(false,false) from rfl];have hQ:=HQ.out;clear HA HS HQ D;go_wp2_with fail
 all_goals first|(exfalso;omega)|skip
 refine (HC.out _ trivial).mono ?_;rintro e w3 ⟨rfl,F⟩;replace y0:=aa F y0;replace y2:=aa F y2;replace y3:=aa F y3;replace y4:=aa F y4;replace y5:=aa F y5;replace y6:=aa F y6;replace y7:=aa F y7;have I:=jD (ab d'.out F);clear F
 by_cases qz:z=0
 case neg =>
  have bz:(z==0)=false:=jQ qz;obtain rfl:R=z:=by rw[G.out];simp[qz]
  clear G qz;go_wp2_with fail
  all_goals
   go_ret;exact⟨rfl,I.out⟩
 subst qz
 by_cases p0:vr=0
 case neg =>
  have j':(vr==0)=false:=jQ p0;have g':=jD p0;obtain rfl:R=3:=by rw[G.out];simp[p0]
  clear G p0;go_wp2_with fail
  all_goals exact en (I.out)
 subst p0
 by_cases p1:fl=0
 case neg =>
  have i':(fl==0)=false:=jQ p1;have h':=jD p1;obtain rfl:R=3:=by rw[G.out];simp[p1]
  clear G p1;go_wp2_with fail
  all_goals exact en (I.out)
 subst p1
 by_cases p2:kd=0
 case neg =>
  have k':(kd==0)=false:=jQ p2;have e':=jD p2;obtain rfl:R=3:=by rw[G.out];simp[p2]
  clear G p2;go_wp2_with fail
  all_goals exact en (I.out)
 subst p2;obtain rfl:R=0:=by rw[G.out];simp[]
 clear G;go_wp2_with fail
 all_goals exact en (I.out)
theorem Hq (x:Ex) (A:Option Addr) (c:Nat) (w:World) (h2:x.op=4) (hn:x.args.length<=1048576) :
  KZ 355 #[exV x (.slice A x.args.length c)] w (KW (bh x)):=by
 obtain⟨op,l,vr,fl,kd,⟨O,n0,t0⟩⟩:=x;obtain⟨R,hR⟩:=jE (bh (.mk op l vr fl kd ⟨O,n0,t0⟩));rw[hR];have HA:=jD (eL op);have HS:=jD (gt op);have HQ:Hid (∀W,(binOp .neq 27 (.agg #[KW O,KW n0,.string t0]) (.agg #[KW 0,KW 0,.string ⟨#[]⟩])).run prog W=.ok (.bool (!cC ⟨O,n0,t0⟩ au)) W):=jD (fun W=>dg ⟨O,n0,t0⟩ au W);have HC:=jD (fun (W:World) (_:True)=>eR ⟨O,n0,t0⟩ W);have HU:=jD (fun (W:World)=>fL kd ⟨O,n0,t0⟩ W);obtain⟨b,b'⟩:=jE (gL kd ⟨O,n0,t0⟩);rw[b']at HU;obtain⟨q,hq⟩:=jE (cC ⟨O,n0,t0⟩ au);obtain⟨z,hz⟩:=jE (eu ⟨O,n0,t0⟩);rw[hq]at HQ;rw[hz]at HC;unfold exV vlV at *;simp only[Ex.op,Ex.vr,Ex.fl,Ex.kd,Ex.val,Ex.args]at *;subst h2;obtain⟨n,a'⟩:=jE l.length;rw[a']at hn ⊢;have D:Hid (R=if (n:Int)≠0 then 15 else if (vr<0\/16<=vr)\/fl<0\/8<=fl then 2 else if kd<1\/5<kd then 1 else if z≠0 then z else if b=false\/kd=1/\q=false then 9 else 0):=jD (by rw[<-hR,<-hz,<-a',<-hq,<-b'];simp only[bh,dr,arN,pa,Ex.op,Ex.args,Ex.vr,Ex.fl,Ex.kd,Ex.val];simp[Mu];(repeat' split)<;>simp_all);clear hR hq hz a' hn b';go_enter func355,ntmps355;go_wp2_with fail;refine (HA.out _).mono ?_;rintro e w1 ⟨rfl,c'⟩;have h:=(aY c').1;have y0:w1.cell? ⟨w.heap.size,0,none⟩=some (KW 4):=by rw[h];rfl
 have y1:w1.cell? ⟨w.heap.size,1,none⟩=some (.slice A n c):=by rw[h];rfl
 have y2:w1.cell? ⟨w.heap.size,2,none⟩=some (KW vr):=by rw[h];rfl
 have y3:w1.cell? ⟨w.heap.size,3,none⟩=some (KW fl):=by rw[h];rfl
 have y4:w1.cell? ⟨w.heap.size,4,none⟩=some (KW kd):=by rw[h];rfl
 have y5:w1.cell? ⟨w.heap.size,5,none⟩=some (KW O):=by rw[h];rfl
 have y6:w1.cell? ⟨w.heap.size,6,none⟩=some (KW n0):=by rw[h];rfl
 have y7:w1.cell? ⟨w.heap.size,7,none⟩=some (.string t0):=by rw[h];rfl
 have d':=jD (ab (ag w _) c');clear h c';rw[show arN 4=0 from rfl]
 by_cases h0:(n:Int)=0
 case neg =>
  have f':((n:Int)==0)=false:=jQ h0;obtain rfl:R=15:=by rw[D.out,K7 h0]
  clear D h0;go_wp2_with fail
  all_goals
   go_ret;exact⟨rfl,d'.out⟩
 have H0:=jD h0;obtain rfl:n=0:=by omega
 clear h0 H0;go_wp2_with fail;refine (HS.out _).mono ?_;rintro e w2 ⟨rfl,F⟩;replace y0:=aa F y0;replace y1:=aa F y1;replace y2:=aa F y2;replace y3:=aa F y3;replace y4:=aa F y4;replace y5:=aa F y5;replace y6:=aa F y6;replace y7:=aa F y7;have J:=jD (ab d'.out F);rw[show dr 4=(true,true) from rfl];have hQ:=HQ.out;clear HA HS HQ F
 by_cases q0:vr<0
 case pos =>
  obtain rfl:R=2:=by rw[D.out];simp[q0]
  clear D;go_wp2_with fail
  all_goals exact en (J.out)
 by_cases q1:16<=vr
 case pos =>
  obtain rfl:R=2:=by rw[D.out];simp[q0,q1]
  clear D;go_wp2_with fail
  all_goals exact en (J.out)
 by_cases q2:fl<0
 case pos =>
  obtain rfl:R=2:=by rw[D.out];simp[q0,q1,q2]
  clear D;go_wp2_with fail
  all_goals exact en (J.out)
 by_cases q3:8<=fl
 case pos =>
  obtain rfl:R=2:=by rw[D.out];simp[q0,q1,q2,q3]
  clear D;go_wp2_with fail
  all_goals exact en (J.out)
 by_cases q4:kd<1
 case pos =>
  obtain rfl:R=1:=by rw[D.out];simp[q0,q1,q2,q3,q4]
  clear D;go_wp2_with fail
  all_goals exact en (J.out)
 by_cases q5:5<kd
 case pos =>
  obtain rfl:R=1:=by rw[D.out];simp[q0,q1,q2,q3,q4,q5]
  clear D;go_wp2_with fail
  all_goals exact en (J.out)
 go_wp2_with fail
 all_goals first|(exfalso;omega)|skip
 refine (HC.out _ trivial).mono ?_;rintro e w3 ⟨rfl,G⟩;replace y0:=aa G y0;replace y2:=aa G y2;replace y3:=aa G y3;replace y4:=aa G y4;replace y5:=aa G y5;replace y6:=aa G y6;replace y7:=aa G y7;have e':=jD (ab J.out G);clear G
 by_cases qz:z=0
 case neg =>
  have bz:(z==0)=false:=jQ qz;obtain rfl:R=z:=by rw[D.out];rw[K6 om,K6 om,K6 om];simp[qz]
  clear D qz;go_wp2_with fail
  all_goals
   go_ret;exact⟨rfl,e'.out⟩
 subst qz;go_wp2_with fail
 all_goals first|(exfalso;omega)|skip
 refine (HU.out _).mono ?_;rintro e w4 ⟨rfl,I⟩;replace y0:=aa I y0;replace y2:=aa I y2;replace y3:=aa I y3;replace y4:=aa I y4;replace y5:=aa I y5;replace y6:=aa I y6;replace y7:=aa I y7;have Z:=jD (ab e'.out I);clear I
 cases b with
 | false =>
  obtain rfl:R=9:=by rw[D.out];rw[K6 om,K6 om,K6 om];simp
  clear D;go_wp2_with fail
  all_goals exact en (Z.out)
 | true =>
  by_cases k1:kd=1
  case neg =>
   have bk:(kd==1)=false:=jQ k1;obtain rfl:R=0:=by rw[D.out];rw[K6 om,K6 om,K6 om];simp[k1]
   clear D;go_wp2_with fail
   all_goals exact en (Z.out)
  subst k1
  cases q with
  | false =>
   obtain rfl:R=9:=by rw[D.out];rw[K6 om,K6 om,K6 om];simp
   clear D;go_wp2_with fail
   all_goals exact en (Z.out)
  | true =>
   obtain rfl:R=0:=by rw[D.out];rw[K6 om,K6 om,K6 om];simp
   clear D;go_wp2_with fail
   all_goals exact en (Z.out)
theorem Hl (x:Ex) (A:Option Addr) (c:Nat) (w:World) (m:Int) (h2:arP x.op=(m,true)) (h3:arN x.op=m) (h4:dr x.op=(false,false)) (h5:x.op≠4) (h6:x.op≠0) (hm:0<=m) (hn:x.args.length<=1048576) :
  KZ 355 #[exV x (.slice A x.args.length c)] w (KW (bh x)):=by
 obtain⟨op,l,vr,fl,kd,⟨I,n0,t0⟩⟩:=x;obtain⟨R,hR⟩:=jE (bh (.mk op l vr fl kd ⟨I,n0,t0⟩));rw[hR];have HA:=jD (eL op);have HS:=jD (gt op);have HQ:Hid (∀W,(binOp .neq 27 (.agg #[KW I,KW n0,.string t0]) (.agg #[KW 0,KW 0,.string ⟨#[]⟩])).run prog W=.ok (.bool (!cC ⟨I,n0,t0⟩ au)) W):=jD (fun W=>dg ⟨I,n0,t0⟩ au W);have HC:=jD (fun (W:World) (_:True)=>eR ⟨I,n0,t0⟩ W);have HU:=jD (fun (W:World)=>fL kd ⟨I,n0,t0⟩ W);obtain⟨b,b'⟩:=jE (gL kd ⟨I,n0,t0⟩);rw[b']at HU;obtain⟨q,hq⟩:=jE (cC ⟨I,n0,t0⟩ au);obtain⟨z,hz⟩:=jE (eu ⟨I,n0,t0⟩);rw[hq]at HQ;rw[hz]at HC;unfold exV vlV at *;simp only[Ex.op,Ex.vr,Ex.fl,Ex.kd,Ex.val,Ex.args]at *;obtain⟨n,O⟩:=jE l.length;rw[O]at hn ⊢;have F:Hid (R=if (n:Int)≠m then 15 else if vr≠0\/fl≠0\/kd≠0\/q=false then 3 else 0):=jD (by rw[<-hR,<-hq,<-O];unfold bh;simp only[Ex.op,Ex.args,Ex.vr,Ex.fl,Ex.kd,Ex.val,h3,h4];rw[K6 om];simp[h5,h6]);have b4:(op==4)=false:=jQ h5;have b0:(op==0)=false:=jQ h6;have H2:=jD h3;have H4:=jD h4;have j':¬m<0:=by omega
 clear h2 h3 h4 h5 h6 hm;clear hR hq hz O hn b';go_enter func355,ntmps355;go_wp2_with fail;refine (HA.out _).mono ?_;rintro e J ⟨rfl,Z⟩;have h:=(aY Z).1;have y0:J.cell? ⟨w.heap.size,0,none⟩=some (KW op):=by rw[h];rfl
 have y1:J.cell? ⟨w.heap.size,1,none⟩=some (.slice A n c):=by rw[h];rfl
 have y2:J.cell? ⟨w.heap.size,2,none⟩=some (KW vr):=by rw[h];rfl
 have y3:J.cell? ⟨w.heap.size,3,none⟩=some (KW fl):=by rw[h];rfl
 have y4:J.cell? ⟨w.heap.size,4,none⟩=some (KW kd):=by rw[h];rfl
 have y5:J.cell? ⟨w.heap.size,5,none⟩=some (KW I):=by rw[h];rfl
 have y6:J.cell? ⟨w.heap.size,6,none⟩=some (KW n0):=by rw[h];rfl
 have y7:J.cell? ⟨w.heap.size,7,none⟩=some (.string t0):=by rw[h];rfl
 have a':=jD (ab (ag w _) Z);clear h Z;rw[H2.out]
 by_cases h0:(n:Int)=m
 case neg =>
  have d':((n:Int)==m)=false:=jQ h0;obtain rfl:R=15:=by rw[F.out,K7 h0]
  clear F h0;go_wp2_with fail
  all_goals
   go_ret;exact⟨rfl,a'.out⟩
 have H0:=jD h0;subst h0;clear H0;go_wp2_with fail;refine (HS.out _).mono ?_;rintro e w2 ⟨rfl,D⟩;replace y0:=aa D y0;replace y1:=aa D y1;replace y2:=aa D y2;replace y3:=aa D y3;replace y4:=aa D y4;replace y5:=aa D y5;replace y6:=aa D y6;replace y7:=aa D y7;have G:=jD (ab a'.out D);rw[H4.out];have hQ:=HQ.out;clear HA HS HQ D;clear HC HU
 by_cases p0:vr=0
 case neg =>
  have h':(vr==0)=false:=jQ p0;have e':=jD p0;obtain rfl:R=3:=by rw[F.out];simp[p0]
  clear F p0;go_wp2_with fail
  all_goals exact en (G.out)
 subst p0
 by_cases p1:fl=0
 case neg =>
  have g':(fl==0)=false:=jQ p1;have f':=jD p1;obtain rfl:R=3:=by rw[F.out];simp[p1]
  clear F p1;go_wp2_with fail
  all_goals exact en (G.out)
 subst p1
 by_cases p2:kd=0
 case neg =>
  have i':(kd==0)=false:=jQ p2;have c':=jD p2;obtain rfl:R=3:=by rw[F.out];simp[p2]
  clear F p2;go_wp2_with fail
  all_goals exact en (G.out)
 subst p2
 cases q with
 | false =>
  obtain rfl:R=3:=by rw[F.out];simp[]
  clear F;go_wp2_with fail
  all_goals exact en (G.out)
 | true =>
  obtain rfl:R=0:=by rw[F.out];simp[]
  clear F;go_wp2_with fail
  all_goals exact en (G.out)
theorem CD (x:Ex) (A:Option Addr) (c:Nat) (w:World) (h:x.args.length<=1048576) :
  KZ 355 #[exV x (.slice A x.args.length c)] w (KW (bh x)):=by
 by_cases G:x.op=2
 ·exact Hp x A c w G h
 by_cases F:x.op=3
 ·exact I9 x A c w F h
 by_cases D:x.op=1
 ·exact Ht x A c w D h
 by_cases h0:x.op=0
 ·exact Hh x A c w h0 h
 by_cases z:x.op=4
 ·exact Hq x A c w z h
 by_cases I:5<=x.op/\x.op<=12
 ·refine Hl x A c w (arN x.op) ?_ rfl ?_ z h0 ?_ h
  ·unfold arP;rw[K6 om]
  ·unfold dr;rw[K6 om,K6 om]
  ·unfold arN;rw[K6 om];split<;>(try split)<;>omega
 ·exact Cb x A x.args.length c w om
mutual
def bO:Ex->Int
 | .mk o l a b c v=>if bh (.mk o l a b c v)≠0 then bh (.mk o l a b c v) else dL l
def dL:List Ex->Int
 | []=>0
 | a::r=>if bO a≠0 then bO a else dL r
end
theorem iF (x:Ex):bO x=if bh x≠0 then bh x else dL x.args:=by cases x;rw[bO];rfl
theorem mu {l:List Ex} {k:Nat} {a:Ex} (h:l[k]?=some a):dL (l.drop k)=if bO a≠0 then bO a else dL (l.drop (k+1)):=by
 obtain⟨z,rfl⟩:=List.getElem?_eq_some_iff.1 h;rw[Lr z,dL]
theorem lA:∀l:List Ex,l.length<=cQ l
 | []=>by simp
 | a::r=>by
  have:=lA r;have:=dQ a;rw[cQ,Lt];omega
theorem oS (d:Nat) (F:∀d',d=d'+1->∀(x:Ex) (v:Value) (w:World),aF d' w v x.args->aM x<=1048576 ->
   KZ 326 #[exV x v] w (KW (bO x)))
  (x:Ex) (v:Value) (w:World) (hx:aF d w v x.args) (hN:aM x<=1048576) :
  KZ 326 #[exV x v] w (KW (bO x)):=by
 have e':=jD F;obtain⟨op,l,vr,fl,kd,⟨k0,n0,t0⟩⟩:=x;rw[iF];rw[dQ]at hN;obtain⟨A,c,rfl,h1,h2,G⟩:=hx;have O:=jD (fun W=>CD (.mk op l vr fl kd ⟨k0,n0,t0⟩) A c W (by have:=lA l;simp only[Ex.args]at hN ⊢;omega));obtain⟨E,hE⟩:=jE (bh (.mk op l vr fl kd ⟨k0,n0,t0⟩));rw[hE]at O ⊢;simp only[Ex.args]at hN h1 h2 G ⊢;have i':=ax h1 h2;have HL:=jD G;have HN:=jD hN;obtain⟨R,hR⟩:=jE (dL l);have HR:=jD hR;rw[hR];obtain⟨S,hS⟩:=jE (if E≠0 then E else R);rw[hS];have HS:=jD hS;clear hS;unfold exV at *;simp only[Ex.args,Ex.op,Ex.vr,Ex.fl,Ex.kd,Ex.val]at O ⊢;clear G h1 h2 hR hN F hE;go_enter func326,ntmps326;go_wp2_with fail;refine (O.out _).mono ?_;rintro e w1 ⟨rfl,J⟩;have y1:w1.cell? ⟨w.heap.size,1,none⟩=some (.slice A l.length c):=by rw[(aY J).1];rfl
 have D:=jD (ab (ag w _) J);clear J
 by_cases z:E=0
 case neg =>
  have g':(E==0)=false:=jQ z;obtain rfl:E=S:=by have h:=HS.out;rwa [K7 z]at h
  clear z HS;exact fi D.out
 subst z;obtain rfl:R=S:=by have h:=HS.out;rwa [K6 jS]at h
 clear HS;go_wp2_with fail
 go_loopw [4] (fun i wr=>∃k:Nat,k<=l.length/\i=KW k/\Hid (dL (l.drop k)=R/\KY w1 wr)) (fun i _=>l.length-(intOf i).toNat)
 case atStart=>exact⟨0,Lb _,rfl,jD ⟨HR.out,La _ _⟩⟩
 case round =>
  obtain⟨k,hk,rfl,hI⟩:=hrel;have hb:=hI.out.2;have z1:=aa hb y1
  by_cases a':k<l.length
  ·have h':(k:Int)<(l.length:Int):=by omega
   obtain⟨b,o,rfl,I⟩:=HL.out k l[k] (K9 a');have hg:=jD (K9 a');obtain⟨a,ha⟩:=jF (l[k]);rw[<-ha]at hg I;clear ha;obtain⟨d',v',c',Z,p0,p1,p2,p3,p4,p5,p6,p7⟩:=cL (ai d _ _ _ _ _ (ab D.out hb) I);have f':aM a<=1048576:=by have:=km hg.out;have:=HN.out;omega
   obtain⟨Q,hQ⟩:=jE (bO a);have HC:=jD (fun (W:World) (hW:KY wr W)=>e'.out d' c' a v' W (Z.stays (ai d') hW) f');rw[hQ]at HC;have HQ:=jD hQ;clear hQ I c' Z;go_wp2_with fail;refine (HC.out _ (La _ _)).mono ?_;rintro e w' ⟨rfl,b'⟩;have h:=hI.out.1;rw[mu hg.out,HQ.out]at h
   by_cases z:Q=0
   case neg =>
    rw[K7 z]at h;have g':(Q==0)=false:=jQ z;subst h;clear z;go_wp2;go_ret;exact⟨rfl,ab D.out (ab hb b')⟩
   rw[K6 (by simp[z])]at h;have HH:=jD h;subst z;clear h;go_wp2_with fail
   go_roundw
   case rel=>exact⟨k+1,by omega,by go_num,jD ⟨HH.out,ab hb b'⟩⟩
   case measure=>simp[intOf];omega
  ·have h':¬(k:Int)<(l.length:Int):=by omega
   obtain rfl:R=0:=by
    have h:=hI.out.1;rw[Lq om,dL]at h;exact h.symm
   exact fi (ab D.out hb)
theorem yp (d:Nat):∀(x:Ex) (v:Value) (w:World),aF d w v x.args->aM x<=1048576 ->
  KZ 326 #[exV x v] w (KW (bO x)):=by
 induction d with
 | zero=>exact oS 0 (fun z h=>by omega)
 | succ d D=>exact oS (d+1) (fun z h=>Ma h▸D)
theorem qd (d:Nat) (F:∀d',d=d'+1->∀(x:Ex) (v:Value) (w:World),aF d' w v x.args->aM x<=1048576 ->
   KZ 104 #[exV x v,.func (.func 105) #[] #[]] w (KW (bO x)))
  (x:Ex) (v:Value) (w:World) (hx:aF d w v x.args) (hN:aM x<=1048576) :
  KZ 104 #[exV x v,.func (.func 105) #[] #[]] w (KW (bO x)):=by
 have f':=jD F;obtain⟨op,l,vr,fl,kd,⟨k0,n0,t0⟩⟩:=x;rw[iF];rw[dQ]at hN;obtain⟨A,c,rfl,h1,h2,I⟩:=hx;have Z:=jD (fun W=>Eb (.mk op l vr fl kd ⟨k0,n0,t0⟩) A c W (by have:=lA l;simp only[Ex.args]at hN ⊢;omega));obtain⟨E,hE⟩:=jE (bh (.mk op l vr fl kd ⟨k0,n0,t0⟩));rw[hE]at Z ⊢;simp only[Ex.args]at hN h1 h2 I ⊢;have l':=ax h1 h2;have HL:=jD I;have HN:=jD hN;obtain⟨R,hR⟩:=jE (dL l);have HR:=jD hR;rw[hR];obtain⟨S,hS⟩:=jE (if E≠0 then E else R);rw[hS];have HS:=jD hS;clear hS;unfold exV at *;simp only[Ex.args,Ex.op,Ex.vr,Ex.fl,Ex.kd,Ex.val]at Z ⊢;clear I h1 h2 hR hN F hE;go_enter func104,ntmps104;go_wp2_with fail;refine (Z.out _).mono ?_;rintro e w1 ⟨rfl,O⟩;have y1:w1.cell? ⟨w.heap.size,1,none⟩=some (.slice A l.length c):=by rw[(aY O).1];rfl
 have D:=jD (ab (ag w _) O);clear O
 by_cases z:E=0
 case neg =>
  have h':(E==0)=false:=jQ z;obtain rfl:E=S:=by have h:=HS.out;rwa [K7 z]at h
  clear z HS;exact fi D.out
 subst z;obtain rfl:R=S:=by have h:=HS.out;rwa [K6 jS]at h
 clear HS;go_wp2_with fail
 go_loopw [18] (fun i wr=>∃k:Nat,k<=l.length/\i=KW k/\Hid (dL (l.drop k)=R/\KY w1 wr)) (fun i _=>l.length-(intOf i).toNat)
 case atStart=>exact⟨0,Lb _,rfl,jD ⟨HR.out,La _ _⟩⟩
 case round =>
  obtain⟨k,hk,rfl,hI⟩:=hrel;have hb:=hI.out.2
  by_cases a':k<l.length
  ·have i':(k:Int)<(l.length:Int):=by omega
   obtain⟨b,o,rfl,J⟩:=HL.out k l[k] (K9 a');have hg:=jD (K9 a');obtain⟨a,ha⟩:=jF (l[k]);rw[<-ha]at hg J;clear ha;obtain⟨d',v',e',G,p0,p1,p2,p3,p4,p5,p6,p7⟩:=cL (ai d _ _ _ _ _ (ab D.out hb) J);have g':aM a<=1048576:=by have:=km hg.out;have:=HN.out;omega
   have k':=G;obtain⟨A',c',j',-⟩:=k';subst j';obtain⟨Q,hQ⟩:=jE (bO a);have HC:=jD (fun (W:World) (hW:KY wr W)=>f'.out d' e' a _ W (G.stays (ai d') hW) g');rw[hQ]at HC;have HQ:=jD hQ;clear hQ J e' G;go_wp2_with fail;refine (HC.out _ ?_).mono ?_
   ·exact jB
   rintro e w' ⟨rfl,b'⟩;have h:=hI.out.1;rw[mu hg.out,HQ.out]at h
   by_cases z:Q=0
   case neg =>
    rw[K7 z]at h;have h':(Q==0)=false:=jQ z;subst h;clear z;go_wp2;go_ret;exact⟨rfl,ab D.out (ab hb (ab jB b'))⟩
   rw[K6 (by simp[z])]at h;have HH:=jD h;subst z;clear h;go_wp2_with fail
   go_roundw
   case rel=>exact⟨k+1,by omega,by go_num,jD ⟨HH.out,ab hb (ab jB b')⟩⟩
   case measure=>simp[intOf];omega
  ·have i':¬(k:Int)<(l.length:Int):=by omega
   obtain rfl:R=0:=by
    have h:=hI.out.1;rw[Lq om,dL]at h;exact h.symm
   exact fi (ab D.out hb)
theorem CG (d:Nat):∀(x:Ex) (v:Value) (w:World),aF d w v x.args->aM x<=1048576 ->
  KZ 104 #[exV x v,.func (.func 105) #[] #[]] w (KW (bO x)):=by
 induction d with
 | zero=>exact qd 0 (fun z h=>by omega)
 | succ d D=>exact qd (d+1) (fun z h=>Ma h▸D)
def fJ (x:Ex):Int:=if 64<aM x then 5 else if 12<dy x then 12 else bO x
theorem kG (d:Nat) (x:Ex) (v:Value) (w:World) (hx:aF d w v x.args) (hN:aM x<=1048576) :
  KZ 56 #[exV x v] w (KW (fJ x)):=by
 have O:=jD (fun (W:World) (hW:KY w W)=>F2 d x v W (hx.stays (ai d) hW) hN);have J:=jD (fun (W:World) (hW:KY w W)=>CG d x v W (hx.stays (ai d) hW) hN);obtain⟨R,hR⟩:=jE (fJ x);obtain⟨p,hp⟩:=jE (aM x);obtain⟨q,hq⟩:=jE (dy x);obtain⟨z,hz⟩:=jE (bO x);have Z:Hid (R=if 64<p then 5 else if 12<q then 12 else z):=jD (by rw[<-hR,<-hp,<-hq,<-hz];rfl);rw[hR];rw[hp,hq]at O;rw[hz]at J;obtain⟨op,l,vr,fl,kd,⟨k0,n0,t0⟩⟩:=x;obtain⟨A,c,rfl,-⟩:=hx;unfold exV at *;simp only[Ex.args,Ex.op,Ex.vr,Ex.fl,Ex.kd,Ex.val]at *;clear hR hp hq hz hN;go_enter func56,ntmps56;go_wp2_with fail;refine (O.out _ (ag _ _)).mono ?_;rintro e F ⟨rfl,G⟩;have h:=(aY G).1;have y0:F.cell? ⟨w.heap.size,0,none⟩=some (KW op):=by rw[h];rfl
 have y1:F.cell? ⟨w.heap.size,1,none⟩=some (.slice A l.length c):=by rw[h];rfl
 have y2:F.cell? ⟨w.heap.size,2,none⟩=some (KW vr):=by rw[h];rfl
 have y3:F.cell? ⟨w.heap.size,3,none⟩=some (KW fl):=by rw[h];rfl
 have y4:F.cell? ⟨w.heap.size,4,none⟩=some (KW kd):=by rw[h];rfl
 have y5:F.cell? ⟨w.heap.size,5,none⟩=some (KW k0):=by rw[h];rfl
 have y6:F.cell? ⟨w.heap.size,6,none⟩=some (KW n0):=by rw[h];rfl
 have y7:F.cell? ⟨w.heap.size,7,none⟩=some (.string t0):=by rw[h];rfl
 have D:=jD (ab (ag w _) G);clear h G
 by_cases I:64<p
 ·obtain rfl:R=5:=by rw[Z.out,K7 I]
  have c':(64:Int)<(p:Int):=by omega
  clear I;exact fi D.out
 have c':¬(64:Int)<(p:Int):=by omega
 by_cases h2:12<q
 ·obtain rfl:R=12:=by rw[Z.out,K6 I,K7 h2]
  have a':(12:Int)<(q:Int):=by omega
  clear I h2;exact fi D.out
 have a':¬(12:Int)<(q:Int):=by omega
 obtain rfl:R=z:=by rw[Z.out,K6 I,K6 h2]
 clear I h2 Z;go_wp2_with fail;refine (J.out _ D.out).mono ?_;rintro e w2 ⟨rfl,b'⟩;exact fi (ab D.out b')
theorem zd (d:Nat) (x:Ex) (v:Value) (w:World) (hx:aF d w v x.args) (hN:aM x<=1048576) :
  KZ 270 #[exV x v] w (KW (fJ x)):=by
 have b':Hid (∀W:World,KY w W->KZ 119 #[exV x v,KW 64] W (KW (db 64 x))):=jD (fun W hW=>pN 64 dc d x v W (hx.stays (ai d) hW) hN);have Z:=jD (fun (W:World) (hW:KY w W)=>qR d x v W (hx.stays (ai d) hW) hN);have a':=jD (fun (W:World) (hW:KY w W)=>yp d x v W (hx.stays (ai d) hW) hN);obtain⟨R,hR⟩:=jE (fJ x);obtain⟨p,hp⟩:=jE (db 64 x);obtain⟨q,hq⟩:=jE (dy x);obtain⟨z,hz⟩:=jE (bO x);have HR:Hid (R=if 64<p then 5 else if 12<q then 12 else z):=jD (by rw[<-hR,<-hp,<-hq,<-hz];unfold fJ;have:=qt 64 x;split<;>split<;>first|rfl|omega);rw[hR];rw[hp]at b';rw[hq]at Z;rw[hz]at a';obtain⟨op,l,vr,fl,kd,⟨k0,n0,t0⟩⟩:=x;obtain⟨A,c,rfl,-⟩:=hx;unfold exV at *;simp only[Ex.args,Ex.op,Ex.vr,Ex.fl,Ex.kd,Ex.val]at *;clear hR hp hq hz hN;go_enter func270,ntmps270;go_wp2_with fail;refine (b'.out _ (ag _ _)).mono ?_;rintro e F ⟨rfl,J⟩;have h:=(aY J).1;have y0:F.cell? ⟨w.heap.size,0,none⟩=some (KW op):=by rw[h];rfl
 have y1:F.cell? ⟨w.heap.size,1,none⟩=some (.slice A l.length c):=by rw[h];rfl
 have y2:F.cell? ⟨w.heap.size,2,none⟩=some (KW vr):=by rw[h];rfl
 have y3:F.cell? ⟨w.heap.size,3,none⟩=some (KW fl):=by rw[h];rfl
 have y4:F.cell? ⟨w.heap.size,4,none⟩=some (KW kd):=by rw[h];rfl
 have y5:F.cell? ⟨w.heap.size,5,none⟩=some (KW k0):=by rw[h];rfl
 have y6:F.cell? ⟨w.heap.size,6,none⟩=some (KW n0):=by rw[h];rfl
 have y7:F.cell? ⟨w.heap.size,7,none⟩=some (.string t0):=by rw[h];rfl
 have G:=jD (ab (ag w _) J);clear h J
 by_cases O:64<p
 ·obtain rfl:R=5:=by rw[HR.out,K7 O]
  have e':(64:Int)<(p:Int):=by omega
  clear O;exact fi G.out
 have e':¬(64:Int)<(p:Int):=by omega
 go_wp2_with fail;refine (Z.out _ G.out).mono ?_;rintro e w3 ⟨rfl,D⟩;replace y0:=aa D y0;replace y1:=aa D y1;replace y2:=aa D y2;replace y3:=aa D y3;replace y4:=aa D y4;replace y5:=aa D y5;replace y6:=aa D y6;replace y7:=aa D y7;have I:=jD (ab G.out D);clear D
 by_cases h2:12<q
 ·obtain rfl:R=12:=by rw[HR.out,K6 O,K7 h2]
  have c':(12:Int)<(q:Int):=by omega
  clear O h2;exact fi I.out
 have c':¬(12:Int)<(q:Int):=by omega
 obtain rfl:R=z:=by rw[HR.out,K6 O,K6 h2]
 clear O h2 HR;go_wp2_with fail;refine (a'.out _ I.out).mono ?_;rintro e w2 ⟨rfl,d'⟩;exact fi (ab I.out d')
mutual
def pg:Ex->Bool
 | .mk o l _ _ _ _=>(o==0 || o==1 || o==6)&&Bb l
def Bb:List Ex->Bool
 | []=>true
 | a::r=>pg a&&Bb r
end
theorem ye:∀{l:List Ex} (_:Bb l=true) (k:Nat) (a:Ex),l[k]?=some a->pg a=true
 | b::r,h,k,a,hk=>by
  rw[Bb,Lp]at h
  cases k with
  | zero=>simp at hk;subst hk;exact h.1
  | succ k=>exact ye h.2 k a (jQ hk)
theorem Hm {x:Ex} (h:pg x=true):(x.op=0\/x.op=1\/x.op=6)/\∀(k:Nat) (a:Ex),x.args[k]?=some a->pg a=true:=by
 cases x
 rw[pg,Lp]at h;refine⟨?_,ye h.2⟩;have z:=h.1;simp at z;simp only[Ex.op];omega
abbrev sh (x:Ex):Prop:=aM x<=1048576/\pg x=true
end Go.Proofs.YtokconodddedhaaGreatDoor
