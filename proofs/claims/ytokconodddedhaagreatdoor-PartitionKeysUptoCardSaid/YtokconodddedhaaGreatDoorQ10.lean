/- Part. -/
import Derived.Test.YtokconodddedhaaGreatDoorQ08
set_option maxRecDepth 100000
set_option maxHeartbeats 16000000
set_option linter.unusedVariables false
set_option linter.unusedSimpArgs false
namespace Go.Proofs.YtokconodddedhaaGreatDoor
open Go.Proofs.Tryz Go.RowKit
def bh (x:Ex):Int :=
 if arN x.op<0 then 1
 else if (x.args.length:Int)≠arN x.op then 15
 else if (dr x.op).1=true/\(x.vr<0\/16<=x.vr)\/(dr x.op).2=true/\(x.fl<0\/8<=x.fl) then 2
 else if x.op=4/\(x.kd<1\/5<x.kd) then 1
 else if (x.op=4\/x.op=0)/\pa x≠0 then pa x
 else if (dr x.op).1=false/\x.vr≠0\/(dr x.op).2=false/\x.fl≠0\/x.op≠4/\x.kd≠0\/(x.op≠4/\x.op≠0)/\cC x.val au=false then 3 else 0
theorem Gw (x:Ex) (A:Option Addr) (n c:Nat) (w:World) (h:x.op<0\/12<x.op) :
  KZ 105 #[exV x (.slice A n c)] w (KW (bh x)):=by
 have D:bh x=1:=by unfold bh;rw[K7 (by unfold arN;rw[K7 h];omega)]
 rw[D];have F:=jD (fO x.op);rw[show arP x.op=(0,false) by unfold arP;rw[K7 h]]at F;clear D h;unfold exV;go_enter func105,ntmps105;go_wp2_with fail;refine (F.out _).mono ?_;rintro e G ⟨rfl,z⟩;go_wp2;go_ret;exact⟨rfl,ab (ag w _) z⟩
theorem Kd (x:Ex) (A:Option Addr) (c:Nat) (w:World) (h2:x.op=2) (hn:x.args.length<=1048576) :
  KZ 105 #[exV x (.slice A x.args.length c)] w (KW (bh x)):=by
 obtain⟨op,l,vr,fl,kd,⟨O,n0,t0⟩⟩:=x;obtain⟨R,hR⟩:=jE (bh (.mk op l vr fl kd ⟨O,n0,t0⟩));rw[hR];have HA:=jD (fO op);have HS:=jD (iJ op);have HQ:Hid (∀W,(binOp .neq 27 (.agg #[KW O,KW n0,.string t0]) (.agg #[KW 0,KW 0,.string ⟨#[]⟩])).run prog W=.ok (.bool (!cC ⟨O,n0,t0⟩ au)) W):=jD (fun W=>dg ⟨O,n0,t0⟩ au W);have HC:=jD (fun (W:World) (h:op=4->1<=kd)=>dT (.mk op l vr fl kd ⟨O,n0,t0⟩) A l.length c W h);obtain⟨q,hq⟩:=jE (cC ⟨O,n0,t0⟩ au);obtain⟨z,hz⟩:=jE (pa (.mk op l vr fl kd ⟨O,n0,t0⟩));rw[hq]at HQ;rw[hz]at HC;unfold exV at *;simp only[Ex.op,Ex.vr,Ex.fl,Ex.kd,Ex.val,Ex.args]at *;subst h2;obtain⟨n,Z⟩:=jE l.length;rw[Z]at hn HC ⊢;have G:Hid (R=if (n:Int)≠0 then 15 else if (vr<0\/16<=vr) then 2 else if fl≠0\/kd≠0\/q=false then 3 else 0):=jD (by rw[<-hR,<-hq,<-Z];simp[bh,dr,arN,Ex.op,Ex.args,Ex.vr,Ex.fl,Ex.kd,Ex.val,Mu]);clear hR hq hz Z hn;go_enter func105,ntmps105;go_wp2_with fail;refine (HA.out _).mono ?_;rintro e J ⟨rfl,a'⟩;have D:=(aY a').1;have y0:J.cell? ⟨w.heap.size,0,none⟩=some (KW 2):=by rw[D];rfl
 have y1:J.cell? ⟨w.heap.size,1,none⟩=some (.slice A n c):=by rw[D];rfl
 have y2:J.cell? ⟨w.heap.size,2,none⟩=some (KW vr):=by rw[D];rfl
 have y3:J.cell? ⟨w.heap.size,3,none⟩=some (KW fl):=by rw[D];rfl
 have y4:J.cell? ⟨w.heap.size,4,none⟩=some (KW kd):=by rw[D];rfl
 have y5:J.cell? ⟨w.heap.size,5,none⟩=some (KW O):=by rw[D];rfl
 have y6:J.cell? ⟨w.heap.size,6,none⟩=some (KW n0):=by rw[D];rfl
 have y7:J.cell? ⟨w.heap.size,7,none⟩=some (.string t0):=by rw[D];rfl
 have b':=jD (ab (ag w _) a');clear D a';rw[show arP 2=(0,true) from rfl]
 by_cases h0:(n:Int)=0
 case neg =>
  have d':((n:Int)==0)=false:=jQ h0;obtain rfl:R=15:=by rw[G.out,K7 h0]
  clear G h0;go_wp2_with fail
  all_goals
   go_ret;exact⟨rfl,b'.out⟩
 have H0:=jD h0;obtain rfl:n=0:=by omega
 clear h0 H0;go_wp2_with fail;refine (HS.out _).mono ?_;rintro e w2 ⟨rfl,F⟩;replace y0:=aa F y0;replace y1:=aa F y1;replace y2:=aa F y2;replace y3:=aa F y3;replace y4:=aa F y4;replace y5:=aa F y5;replace y6:=aa F y6;replace y7:=aa F y7;have I:=jD (ab b'.out F);rw[show dr 2=(true,false) from rfl];have hQ:=HQ.out;clear HA HS HQ F
 by_cases q0:vr<0
 case pos =>
  obtain rfl:R=2:=by rw[G.out];simp[q0]
  clear G;go_wp2_with fail
  all_goals exact en (I.out)
 by_cases q1:16<=vr
 case pos =>
  obtain rfl:R=2:=by rw[G.out];simp[q0,q1]
  clear G;go_wp2_with fail
  all_goals exact en (I.out)
 clear HC
 by_cases p1:fl=0
 case neg =>
  have f':(fl==0)=false:=jQ p1;have e':=jD p1;obtain rfl:R=3:=by rw[G.out];simp[q0,q1,p1]
  clear G p1;go_wp2_with fail
  all_goals exact en (I.out)
 subst p1
 by_cases p2:kd=0
 case neg =>
  have g':(kd==0)=false:=jQ p2;have c':=jD p2;obtain rfl:R=3:=by rw[G.out];simp[q0,q1,p2]
  clear G p2;go_wp2_with fail
  all_goals exact en (I.out)
 subst p2
 cases q with
 | false =>
  obtain rfl:R=3:=by rw[G.out];simp[q0,q1]
  clear G;go_wp2_with fail
  all_goals exact en (I.out)
 | true =>
  obtain rfl:R=0:=by rw[G.out];simp[q0,q1]
  clear G;go_wp2_with fail
  all_goals exact en (I.out)
theorem KM (x:Ex) (A:Option Addr) (c:Nat) (w:World) (h2:x.op=3) (hn:x.args.length<=1048576) :
  KZ 105 #[exV x (.slice A x.args.length c)] w (KW (bh x)):=by
 obtain⟨op,l,vr,fl,kd,⟨O,n0,t0⟩⟩:=x;obtain⟨R,hR⟩:=jE (bh (.mk op l vr fl kd ⟨O,n0,t0⟩));rw[hR];have HA:=jD (fO op);have HS:=jD (iJ op);have HQ:Hid (∀W,(binOp .neq 27 (.agg #[KW O,KW n0,.string t0]) (.agg #[KW 0,KW 0,.string ⟨#[]⟩])).run prog W=.ok (.bool (!cC ⟨O,n0,t0⟩ au)) W):=jD (fun W=>dg ⟨O,n0,t0⟩ au W);have HC:=jD (fun (W:World) (h:op=4->1<=kd)=>dT (.mk op l vr fl kd ⟨O,n0,t0⟩) A l.length c W h);obtain⟨q,hq⟩:=jE (cC ⟨O,n0,t0⟩ au);obtain⟨z,hz⟩:=jE (pa (.mk op l vr fl kd ⟨O,n0,t0⟩));rw[hq]at HQ;rw[hz]at HC;unfold exV at *;simp only[Ex.op,Ex.vr,Ex.fl,Ex.kd,Ex.val,Ex.args]at *;subst h2;obtain⟨n,Z⟩:=jE l.length;rw[Z]at hn HC ⊢;have G:Hid (R=if (n:Int)≠0 then 15 else if (vr<0\/16<=vr) then 2 else if fl≠0\/kd≠0\/q=false then 3 else 0):=jD (by rw[<-hR,<-hq,<-Z];simp[bh,dr,arN,Ex.op,Ex.args,Ex.vr,Ex.fl,Ex.kd,Ex.val,Mu]);clear hR hq hz Z hn;go_enter func105,ntmps105;go_wp2_with fail;refine (HA.out _).mono ?_;rintro e J ⟨rfl,a'⟩;have D:=(aY a').1;have y0:J.cell? ⟨w.heap.size,0,none⟩=some (KW 3):=by rw[D];rfl
 have y1:J.cell? ⟨w.heap.size,1,none⟩=some (.slice A n c):=by rw[D];rfl
 have y2:J.cell? ⟨w.heap.size,2,none⟩=some (KW vr):=by rw[D];rfl
 have y3:J.cell? ⟨w.heap.size,3,none⟩=some (KW fl):=by rw[D];rfl
 have y4:J.cell? ⟨w.heap.size,4,none⟩=some (KW kd):=by rw[D];rfl
 have y5:J.cell? ⟨w.heap.size,5,none⟩=some (KW O):=by rw[D];rfl
 have y6:J.cell? ⟨w.heap.size,6,none⟩=some (KW n0):=by rw[D];rfl
 have y7:J.cell? ⟨w.heap.size,7,none⟩=some (.string t0):=by rw[D];rfl
 have b':=jD (ab (ag w _) a');clear D a';rw[show arP 3=(0,true) from rfl]
 by_cases h0:(n:Int)=0
 case neg =>
  have d':((n:Int)==0)=false:=jQ h0;obtain rfl:R=15:=by rw[G.out,K7 h0]
  clear G h0;go_wp2_with fail
  all_goals
   go_ret;exact⟨rfl,b'.out⟩
 have H0:=jD h0;obtain rfl:n=0:=by omega
 clear h0 H0;go_wp2_with fail;refine (HS.out _).mono ?_;rintro e w2 ⟨rfl,F⟩;replace y0:=aa F y0;replace y1:=aa F y1;replace y2:=aa F y2;replace y3:=aa F y3;replace y4:=aa F y4;replace y5:=aa F y5;replace y6:=aa F y6;replace y7:=aa F y7;have I:=jD (ab b'.out F);rw[show dr 3=(true,false) from rfl];have hQ:=HQ.out;clear HA HS HQ F
 by_cases q0:vr<0
 case pos =>
  obtain rfl:R=2:=by rw[G.out];simp[q0]
  clear G;go_wp2_with fail
  all_goals exact en (I.out)
 by_cases q1:16<=vr
 case pos =>
  obtain rfl:R=2:=by rw[G.out];simp[q0,q1]
  clear G;go_wp2_with fail
  all_goals exact en (I.out)
 clear HC
 by_cases p1:fl=0
 case neg =>
  have f':(fl==0)=false:=jQ p1;have e':=jD p1;obtain rfl:R=3:=by rw[G.out];simp[q0,q1,p1]
  clear G p1;go_wp2_with fail
  all_goals exact en (I.out)
 subst p1
 by_cases p2:kd=0
 case neg =>
  have g':(kd==0)=false:=jQ p2;have c':=jD p2;obtain rfl:R=3:=by rw[G.out];simp[q0,q1,p2]
  clear G p2;go_wp2_with fail
  all_goals exact en (I.out)
 subst p2
 cases q with
 | false =>
  obtain rfl:R=3:=by rw[G.out];simp[q0,q1]
  clear G;go_wp2_with fail
  all_goals exact en (I.out)
 | true =>
  obtain rfl:R=0:=by rw[G.out];simp[q0,q1]
  clear G;go_wp2_with fail
  all_goals exact en (I.out)
theorem JT (x:Ex) (A:Option Addr) (c:Nat) (w:World) (h2:x.op=1) (hn:x.args.length<=1048576) :
  KZ 105 #[exV x (.slice A x.args.length c)] w (KW (bh x)):=by
 obtain⟨op,l,vr,fl,kd,⟨O,n0,t0⟩⟩:=x;obtain⟨R,hR⟩:=jE (bh (.mk op l vr fl kd ⟨O,n0,t0⟩));rw[hR];have HA:=jD (fO op);have HS:=jD (iJ op);have HQ:Hid (∀W,(binOp .neq 27 (.agg #[KW O,KW n0,.string t0]) (.agg #[KW 0,KW 0,.string ⟨#[]⟩])).run prog W=.ok (.bool (!cC ⟨O,n0,t0⟩ au)) W):=jD (fun W=>dg ⟨O,n0,t0⟩ au W);have HC:=jD (fun (W:World) (h:op=4->1<=kd)=>dT (.mk op l vr fl kd ⟨O,n0,t0⟩) A l.length c W h);obtain⟨q,hq⟩:=jE (cC ⟨O,n0,t0⟩ au);obtain⟨z,hz⟩:=jE (pa (.mk op l vr fl kd ⟨O,n0,t0⟩));rw[hq]at HQ;rw[hz]at HC;unfold exV at *;simp only[Ex.op,Ex.vr,Ex.fl,Ex.kd,Ex.val,Ex.args]at *;subst h2;obtain⟨n,a'⟩:=jE l.length;rw[a']at hn HC ⊢;have G:Hid (R=if (n:Int)≠0 then 15 else if (vr<0\/16<=vr)\/fl<0\/8<=fl then 2 else if kd≠0\/q=false then 3 else 0):=jD (by rw[<-hR,<-hq,<-a'];simp[bh,dr,arN,Ex.op,Ex.args,Ex.vr,Ex.fl,Ex.kd,Ex.val,Mu]);clear hR hq hz a' hn;go_enter func105,ntmps105;go_wp2_with fail;refine (HA.out _).mono ?_;rintro e J ⟨rfl,b'⟩;have D:=(aY b').1;have y0:J.cell? ⟨w.heap.size,0,none⟩=some (KW 1):=by rw[D];rfl
 have y1:J.cell? ⟨w.heap.size,1,none⟩=some (.slice A n c):=by rw[D];rfl
 have y2:J.cell? ⟨w.heap.size,2,none⟩=some (KW vr):=by rw[D];rfl
 have y3:J.cell? ⟨w.heap.size,3,none⟩=some (KW fl):=by rw[D];rfl
 have y4:J.cell? ⟨w.heap.size,4,none⟩=some (KW kd):=by rw[D];rfl
 have y5:J.cell? ⟨w.heap.size,5,none⟩=some (KW O):=by rw[D];rfl
 have y6:J.cell? ⟨w.heap.size,6,none⟩=some (KW n0):=by rw[D];rfl
 have y7:J.cell? ⟨w.heap.size,7,none⟩=some (.string t0):=by rw[D];rfl
 have c':=jD (ab (ag w _) b');clear D b';rw[show arP 1=(0,true) from rfl]
 by_cases h0:(n:Int)=0
 case neg =>
  have e':((n:Int)==0)=false:=jQ h0;obtain rfl:R=15:=by rw[G.out,K7 h0]
  clear G h0;go_wp2_with fail
  all_goals
   go_ret;exact⟨rfl,c'.out⟩
 have H0:=jD h0;obtain rfl:n=0:=by omega
 clear h0 H0;go_wp2_with fail;refine (HS.out _).mono ?_;rintro e w2 ⟨rfl,F⟩;replace y0:=aa F y0;replace y1:=aa F y1;replace y2:=aa F y2;replace y3:=aa F y3;replace y4:=aa F y4;replace y5:=aa F y5;replace y6:=aa F y6;replace y7:=aa F y7;have I:=jD (ab c'.out F);rw[show dr 1=(true,true) from rfl];have hQ:=HQ.out;clear HA HS HQ F
 by_cases Z:vr<0
 case pos =>
  obtain rfl:R=2:=by rw[G.out];simp[Z]
  clear G;go_wp2_with fail
  all_goals exact en (I.out)
 by_cases q1:16<=vr
 case pos =>
  obtain rfl:R=2:=by rw[G.out];simp[Z,q1]
  clear G;go_wp2_with fail
  all_goals exact en (I.out)
 by_cases q2:fl<0
 case pos =>
  obtain rfl:R=2:=by rw[G.out];simp[Z,q1,q2]
  clear G;go_wp2_with fail
  all_goals exact en (I.out)
 by_cases q3:8<=fl
 case pos =>
  obtain rfl:R=2:=by rw[G.out];simp[Z,q1,q2,q3]
  clear G;go_wp2_with fail
  all_goals exact en (I.out)
 clear HC
 by_cases p2:kd=0
 case neg =>
  have f':(kd==0)=false:=jQ p2;have d':=jD p2;obtain rfl:R=3:=by rw[G.out];simp[Z,q1,q2,q3,p2]
  clear G p2;go_wp2_with fail
  all_goals exact en (I.out)
 subst p2
 cases q with
 | false =>
  obtain rfl:R=3:=by rw[G.out];simp[Z,q1,q2,q3]
  clear G;go_wp2_with fail
  all_goals exact en (I.out)
 | true =>
  obtain rfl:R=0:=by rw[G.out];simp[Z,q1,q2,q3]
  clear G;go_wp2_with fail
  all_goals exact en (I.out)
theorem Ku (x:Ex) (A:Option Addr) (c:Nat) (w:World) (h2:x.op=0) (hn:x.args.length<=1048576) :
  KZ 105 #[exV x (.slice A x.args.length c)] w (KW (bh x)):=by
 obtain⟨op,l,vr,fl,kd,⟨Z,n0,t0⟩⟩:=x;obtain⟨R,hR⟩:=jE (bh (.mk op l vr fl kd ⟨Z,n0,t0⟩));rw[hR];have HA:=jD (fO op);have HS:=jD (iJ op);have HQ:Hid (∀W,(binOp .neq 27 (.agg #[KW Z,KW n0,.string t0]) (.agg #[KW 0,KW 0,.string ⟨#[]⟩])).run prog W=.ok (.bool (!cC ⟨Z,n0,t0⟩ au)) W):=jD (fun W=>dg ⟨Z,n0,t0⟩ au W);have HC:=jD (fun (W:World) (h:op=4->1<=kd)=>dT (.mk op l vr fl kd ⟨Z,n0,t0⟩) A l.length c W h);obtain⟨q,hq⟩:=jE (cC ⟨Z,n0,t0⟩ au);obtain⟨z,hz⟩:=jE (pa (.mk op l vr fl kd ⟨Z,n0,t0⟩));rw[hq]at HQ;rw[hz]at HC;unfold exV at *;simp only[Ex.op,Ex.vr,Ex.fl,Ex.kd,Ex.val,Ex.args]at *;subst h2;obtain⟨n,a'⟩:=jE l.length;rw[a']at hn HC ⊢;have I:Hid (R=if (n:Int)≠0 then 15 else if z≠0 then z else if vr≠0\/fl≠0\/kd≠0 then 3 else 0):=jD (by rw[<-hR,<-a',<-hz];simp[bh,dr,arN,Ex.op,Ex.args,Ex.vr,Ex.fl,Ex.kd,Ex.val,Mu]);clear hR hq hz a' hn;go_enter func105,ntmps105;go_wp2_with fail;refine (HA.out _).mono ?_;rintro e O ⟨rfl,b'⟩;have D:=(aY b').1;have y0:O.cell? ⟨w.heap.size,0,none⟩=some (KW 0):=by rw[D];rfl
 have y1:O.cell? ⟨w.heap.size,1,none⟩=some (.slice A n c):=by rw[D];rfl
 have y2:O.cell? ⟨w.heap.size,2,none⟩=some (KW vr):=by rw[D];rfl
 have y3:O.cell? ⟨w.heap.size,3,none⟩=some (KW fl):=by rw[D];rfl
 have y4:O.cell? ⟨w.heap.size,4,none⟩=some (KW kd):=by rw[D];rfl
 have y5:O.cell? ⟨w.heap.size,5,none⟩=some (KW Z):=by rw[D];rfl
 have y6:O.cell? ⟨w.heap.size,6,none⟩=some (KW n0):=by rw[D];rfl
 have y7:O.cell? ⟨w.heap.size,7,none⟩=some (.string t0):=by rw[D];rfl
 have c':=jD (ab (ag w _) b');clear D b';rw[show arP 0=(0,true) from rfl]
 by_cases h0:(n:Int)=0
 case neg =>
  have f':((n:Int)==0)=false:=jQ h0;obtain rfl:R=15:=by rw[I.out,K7 h0]
  clear I h0;go_wp2_with fail
  all_goals
   go_ret;exact⟨rfl,c'.out⟩
 have H0:=jD h0;obtain rfl:n=0:=by omega
 clear h0 H0;go_wp2_with fail;refine (HS.out _).mono ?_;rintro e w2 ⟨rfl,F⟩;replace y0:=aa F y0;replace y1:=aa F y1;replace y2:=aa F y2;replace y3:=aa F y3;replace y4:=aa F y4;replace y5:=aa F y5;replace y6:=aa F y6;replace y7:=aa F y7;have d':=jD (ab c'.out F);rw[show dr 0=(false,false) from rfl];have hQ:=HQ.out;clear HA HS HQ F;go_wp2_with fail
 all_goals first|(exfalso;omega)|skip
 refine (HC.out _ (fun h=>by omega)).mono ?_;rintro e w3 ⟨rfl,G⟩;replace y0:=aa G y0;replace y2:=aa G y2;replace y3:=aa G y3;replace y4:=aa G y4;replace y5:=aa G y5;replace y6:=aa G y6;replace y7:=aa G y7;have J:=jD (ab d'.out G);clear G
 by_cases qz:z=0
 case neg =>
  have bz:(z==0)=false:=jQ qz;obtain rfl:R=z:=by rw[I.out];simp[qz]
  clear I qz;go_wp2_with fail
  all_goals
   go_ret;exact⟨rfl,J.out⟩
 subst qz
 by_cases p0:vr=0
 case neg =>
  have j':(vr==0)=false:=jQ p0;have g':=jD p0;obtain rfl:R=3:=by rw[I.out];simp[p0]
  clear I p0;go_wp2_with fail
  all_goals exact en (J.out)
 subst p0
 by_cases p1:fl=0
 case neg =>
  have i':(fl==0)=false:=jQ p1;have h':=jD p1;obtain rfl:R=3:=by rw[I.out];simp[p1]
  clear I p1;go_wp2_with fail
  all_goals exact en (J.out)
 subst p1
 by_cases p2:kd=0
 case neg =>
  have k':(kd==0)=false:=jQ p2;have e':=jD p2;obtain rfl:R=3:=by rw[I.out];simp[p2]
  clear I p2;go_wp2_with fail
  all_goals exact en (J.out)
 subst p2;obtain rfl:R=0:=by rw[I.out];simp[]
 clear I;go_wp2_with fail
 all_goals exact en (J.out)
theorem KC (x:Ex) (A:Option Addr) (c:Nat) (w:World) (h2:x.op=4) (hn:x.args.length<=1048576) :
  KZ 105 #[exV x (.slice A x.args.length c)] w (KW (bh x)):=by
 obtain⟨op,l,vr,fl,kd,⟨Z,n0,t0⟩⟩:=x;obtain⟨R,hR⟩:=jE (bh (.mk op l vr fl kd ⟨Z,n0,t0⟩));rw[hR];have HA:=jD (fO op);have HS:=jD (iJ op);have HQ:Hid (∀W,(binOp .neq 27 (.agg #[KW Z,KW n0,.string t0]) (.agg #[KW 0,KW 0,.string ⟨#[]⟩])).run prog W=.ok (.bool (!cC ⟨Z,n0,t0⟩ au)) W):=jD (fun W=>dg ⟨Z,n0,t0⟩ au W);have HC:=jD (fun (W:World) (h:op=4->1<=kd)=>dT (.mk op l vr fl kd ⟨Z,n0,t0⟩) A l.length c W h);obtain⟨q,hq⟩:=jE (cC ⟨Z,n0,t0⟩ au);obtain⟨z,hz⟩:=jE (pa (.mk op l vr fl kd ⟨Z,n0,t0⟩));rw[hq]at HQ;rw[hz]at HC;unfold exV at *;simp only[Ex.op,Ex.vr,Ex.fl,Ex.kd,Ex.val,Ex.args]at *;subst h2;obtain⟨n,a'⟩:=jE l.length;rw[a']at hn HC ⊢;have I:Hid (R=if (n:Int)≠0 then 15 else if (vr<0\/16<=vr)\/fl<0\/8<=fl then 2 else if kd<1\/5<kd then 1 else if z≠0 then z else 0):=jD (by rw[<-hR,<-a',<-hz];simp[bh,dr,arN,Ex.op,Ex.args,Ex.vr,Ex.fl,Ex.kd,Ex.val,Mu]);clear hR hq hz a' hn;go_enter func105,ntmps105;go_wp2_with fail;refine (HA.out _).mono ?_;rintro e O ⟨rfl,b'⟩;have D:=(aY b').1;have y0:O.cell? ⟨w.heap.size,0,none⟩=some (KW 4):=by rw[D];rfl
 have y1:O.cell? ⟨w.heap.size,1,none⟩=some (.slice A n c):=by rw[D];rfl
 have y2:O.cell? ⟨w.heap.size,2,none⟩=some (KW vr):=by rw[D];rfl
 have y3:O.cell? ⟨w.heap.size,3,none⟩=some (KW fl):=by rw[D];rfl
 have y4:O.cell? ⟨w.heap.size,4,none⟩=some (KW kd):=by rw[D];rfl
 have y5:O.cell? ⟨w.heap.size,5,none⟩=some (KW Z):=by rw[D];rfl
 have y6:O.cell? ⟨w.heap.size,6,none⟩=some (KW n0):=by rw[D];rfl
 have y7:O.cell? ⟨w.heap.size,7,none⟩=some (.string t0):=by rw[D];rfl
 have c':=jD (ab (ag w _) b');clear D b';rw[show arP 4=(0,true) from rfl]
 by_cases h0:(n:Int)=0
 case neg =>
  have e':((n:Int)==0)=false:=jQ h0;obtain rfl:R=15:=by rw[I.out,K7 h0]
  clear I h0;go_wp2_with fail
  all_goals
   go_ret;exact⟨rfl,c'.out⟩
 have H0:=jD h0;obtain rfl:n=0:=by omega
 clear h0 H0;go_wp2_with fail;refine (HS.out _).mono ?_;rintro e w2 ⟨rfl,F⟩;replace y0:=aa F y0;replace y1:=aa F y1;replace y2:=aa F y2;replace y3:=aa F y3;replace y4:=aa F y4;replace y5:=aa F y5;replace y6:=aa F y6;replace y7:=aa F y7;have J:=jD (ab c'.out F);rw[show dr 4=(true,true) from rfl];have hQ:=HQ.out;clear HA HS HQ F
 by_cases q0:vr<0
 case pos =>
  obtain rfl:R=2:=by rw[I.out];simp[q0]
  clear I;go_wp2_with fail
  all_goals exact en (J.out)
 by_cases q1:16<=vr
 case pos =>
  obtain rfl:R=2:=by rw[I.out];simp[q0,q1]
  clear I;go_wp2_with fail
  all_goals exact en (J.out)
 by_cases q2:fl<0
 case pos =>
  obtain rfl:R=2:=by rw[I.out];simp[q0,q1,q2]
  clear I;go_wp2_with fail
  all_goals exact en (J.out)
 by_cases q3:8<=fl
 case pos =>
  obtain rfl:R=2:=by rw[I.out];simp[q0,q1,q2,q3]
  clear I;go_wp2_with fail
  all_goals exact en (J.out)
 by_cases q4:kd<1
 case pos =>
  obtain rfl:R=1:=by rw[I.out];simp[q0,q1,q2,q3,q4]
  clear I;go_wp2_with fail
  all_goals exact en (J.out)
 by_cases q5:5<kd
 case pos =>
  obtain rfl:R=1:=by rw[I.out];simp[q0,q1,q2,q3,q4,q5]
  clear I;go_wp2_with fail
  all_goals exact en (J.out)
 go_wp2_with fail
 all_goals first|(exfalso;omega)|skip
 refine (HC.out _ (fun _=>by omega)).mono ?_;rintro e w3 ⟨rfl,G⟩;replace y0:=aa G y0;replace y2:=aa G y2;replace y3:=aa G y3;replace y4:=aa G y4;replace y5:=aa G y5;replace y6:=aa G y6;replace y7:=aa G y7;have d':=jD (ab J.out G);clear G
 by_cases qz:z=0
 case neg =>
  have bz:(z==0)=false:=jQ qz;obtain rfl:R=z:=by rw[I.out];rw[K6 om,K6 om,K6 om];simp[qz]
  clear I qz;go_wp2_with fail
  all_goals
   go_ret;exact⟨rfl,d'.out⟩
 subst qz;obtain rfl:R=0:=by rw[I.out];rw[K6 om,K6 om,K6 om];simp
 clear I;go_wp2_with fail
 all_goals exact en (d'.out)
theorem Kk (x:Ex) (A:Option Addr) (c:Nat) (w:World) (m:Int) (h2:arP x.op=(m,true)) (h3:arN x.op=m) (h4:dr x.op=(false,false)) (h5:x.op≠4) (h6:x.op≠0) (hm:0<=m) (hn:x.args.length<=1048576) :
  KZ 105 #[exV x (.slice A x.args.length c)] w (KW (bh x)):=by
 obtain⟨op,l,vr,fl,kd,⟨O,n0,t0⟩⟩:=x;obtain⟨R,hR⟩:=jE (bh (.mk op l vr fl kd ⟨O,n0,t0⟩));rw[hR];have HA:=jD (fO op);have HS:=jD (iJ op);have HQ:Hid (∀W,(binOp .neq 27 (.agg #[KW O,KW n0,.string t0]) (.agg #[KW 0,KW 0,.string ⟨#[]⟩])).run prog W=.ok (.bool (!cC ⟨O,n0,t0⟩ au)) W):=jD (fun W=>dg ⟨O,n0,t0⟩ au W);have HC:=jD (fun (W:World) (h:op=4->1<=kd)=>dT (.mk op l vr fl kd ⟨O,n0,t0⟩) A l.length c W h);obtain⟨q,hq⟩:=jE (cC ⟨O,n0,t0⟩ au);obtain⟨z,hz⟩:=jE (pa (.mk op l vr fl kd ⟨O,n0,t0⟩));rw[hq]at HQ;rw[hz]at HC;unfold exV at *;simp only[Ex.op,Ex.vr,Ex.fl,Ex.kd,Ex.val,Ex.args]at *;obtain⟨n,Z⟩:=jE l.length;rw[Z]at hn HC ⊢;have G:Hid (R=if (n:Int)≠m then 15 else if vr≠0\/fl≠0\/kd≠0\/q=false then 3 else 0):=jD (by rw[<-hR,<-hq,<-Z];unfold bh;simp only[Ex.op,Ex.args,Ex.vr,Ex.fl,Ex.kd,Ex.val,h3,h4];rw[K6 om];simp[h5,h6]);have b4:(op==4)=false:=jQ h5;have b0:(op==0)=false:=jQ h6;have H2:=jD h2;have H4:=jD h4;clear h2 h3 h4 h5 h6 hm;clear hR hq hz Z hn;go_enter func105,ntmps105;go_wp2_with fail;refine (HA.out _).mono ?_;rintro e J ⟨rfl,a'⟩;have D:=(aY a').1;have y0:J.cell? ⟨w.heap.size,0,none⟩=some (KW op):=by rw[D];rfl
 have y1:J.cell? ⟨w.heap.size,1,none⟩=some (.slice A n c):=by rw[D];rfl
 have y2:J.cell? ⟨w.heap.size,2,none⟩=some (KW vr):=by rw[D];rfl
 have y3:J.cell? ⟨w.heap.size,3,none⟩=some (KW fl):=by rw[D];rfl
 have y4:J.cell? ⟨w.heap.size,4,none⟩=some (KW kd):=by rw[D];rfl
 have y5:J.cell? ⟨w.heap.size,5,none⟩=some (KW O):=by rw[D];rfl
 have y6:J.cell? ⟨w.heap.size,6,none⟩=some (KW n0):=by rw[D];rfl
 have y7:J.cell? ⟨w.heap.size,7,none⟩=some (.string t0):=by rw[D];rfl
 have b':=jD (ab (ag w _) a');clear D a';rw[H2.out]
 by_cases h0:(n:Int)=m
 case neg =>
  have d':((n:Int)==m)=false:=jQ h0;obtain rfl:R=15:=by rw[G.out,K7 h0]
  clear G h0;go_wp2_with fail
  all_goals
   go_ret;exact⟨rfl,b'.out⟩
 have H0:=jD h0;subst h0;clear H0;go_wp2_with fail;refine (HS.out _).mono ?_;rintro e w2 ⟨rfl,F⟩;replace y0:=aa F y0;replace y1:=aa F y1;replace y2:=aa F y2;replace y3:=aa F y3;replace y4:=aa F y4;replace y5:=aa F y5;replace y6:=aa F y6;replace y7:=aa F y7;have I:=jD (ab b'.out F);rw[H4.out];have hQ:=HQ.out;clear HA HS HQ F;clear HC
 by_cases p0:vr=0
 case neg =>
  have h':(vr==0)=false:=jQ p0;have e':=jD p0;obtain rfl:R=3:=by rw[G.out];simp[p0]
  clear G p0;go_wp2_with fail
  all_goals exact en (I.out)
 subst p0
 by_cases p1:fl=0
 case neg =>
  have g':(fl==0)=false:=jQ p1;have f':=jD p1;obtain rfl:R=3:=by rw[G.out];simp[p1]
  clear G p1;go_wp2_with fail
  all_goals exact en (I.out)
 subst p1
 by_cases p2:kd=0
 case neg =>
  have i':(kd==0)=false:=jQ p2;have c':=jD p2;obtain rfl:R=3:=by rw[G.out];simp[p2]
  clear G p2;go_wp2_with fail
  all_goals exact en (I.out)
 subst p2
 cases q with
 | false =>
  obtain rfl:R=3:=by rw[G.out];simp[]
  clear G;go_wp2_with fail
  all_goals exact en (I.out)
 | true =>
  obtain rfl:R=0:=by rw[G.out];simp[]
  clear G;go_wp2_with fail
  all_goals exact en (I.out)
theorem Eb (x:Ex) (A:Option Addr) (c:Nat) (w:World) (h:x.args.length<=1048576) :
  KZ 105 #[exV x (.slice A x.args.length c)] w (KW (bh x)):=by
 by_cases G:x.op=2
 ·exact Kd x A c w G h
 by_cases F:x.op=3
 ·exact KM x A c w F h
 by_cases D:x.op=1
 ·exact JT x A c w D h
 by_cases h0:x.op=0
 ·exact Ku x A c w h0 h
 by_cases z:x.op=4
 ·exact KC x A c w z h
 by_cases I:5<=x.op/\x.op<=12
 ·refine Kk x A c w (arN x.op) ?_ rfl ?_ z h0 ?_ h
  ·unfold arP;rw[K6 om]
  ·unfold dr;rw[K6 om,K6 om]
  ·unfold arN;rw[K6 om];split<;>(try split)<;>omega
 ·exact Gw x A x.args.length c w om
end Go.Proofs.YtokconodddedhaaGreatDoor
