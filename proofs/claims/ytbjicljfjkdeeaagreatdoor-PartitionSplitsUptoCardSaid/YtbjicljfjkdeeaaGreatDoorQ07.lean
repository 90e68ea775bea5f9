/- Part. -/
import Derived.Test.YtbjicljfjkdeeaaGreatDoorQ06
set_option maxRecDepth 100000
set_option maxHeartbeats 16000000
set_option linter.unusedVariables false
set_option linter.unusedSimpArgs false
namespace Go.Proofs.YtbjicljfjkdeeaaGreatDoor
open Go.Proofs.Tryz Go.RowKit
def bl (x:Ex):Int :=
 if arN x.op<0 then 1
 else if (x.args.length:Int)≠arN x.op then 15
 else if (ee x.op).1=true/\(x.vr<0\/16<=x.vr)\/(ee x.op).2=true/\(x.fl<0\/8<=x.fl) then 2
 else if x.op=4/\(x.kd<1\/5<x.kd) then 1
 else if (x.op=4\/x.op=0)/\oN x≠0 then oN x
 else if (ee x.op).1=false/\x.vr≠0\/(ee x.op).2=false/\x.fl≠0\/x.op≠4/\x.kd≠0\/(x.op≠4/\x.op≠0)/\bY x.val ah=false then 3 else 0
theorem G0 (x:Ex) (A:Option Addr) (n c:Nat) (w:World) (h:x.op<0\/12<x.op) :
  Mn 172 #[exV x (.slice A n c)] w (Mk (bl x)):=by
 have hE:bl x=1:=by unfold bl;rw[Mp (by unfold arN;rw[Mp h];omega)]
 rw[hE];have HA:=jD (fE x.op);rw[show arP x.op=(0,false) by unfold arP;rw[Mp h]]at HA;clear hE h;unfold exV;go_enter func172,ntmps172;go_wp2_with fail;refine (HA.out _).mono ?_;rintro e w1 ⟨rfl,J⟩;go_wp2;go_ret;exact⟨rfl,ab (af w _) J⟩
theorem uaB {p:Prop} (h:p:=by
  have g':((n:Int)==0)=false:=jQ h0;obtain rfl:R=15:=by rw[G.out,Mp h0]
  clear G h0;go_wp2_with fail
  all_goals
   go_ret;exact⟨rfl,d'.out⟩):p:=h
theorem uaC {p:Prop} (h:p:=by
  obtain rfl:R=2:=by rw[G.out];simp[q0,q1]
  clear G;go_wp2_with fail
  all_goals exact en (I.out)):p:=h
theorem uaD {p:Prop} (h:p:=by
  obtain rfl:R=2:=by rw[G.out];simp[q0]
  clear G;go_wp2_with fail
  all_goals exact en (I.out)):p:=h
theorem uaA {p:Prop} (h:p:=by
  obtain⟨op,l,vr,fl,kd,⟨O,n0,t0⟩⟩:=x;obtain⟨R,hR⟩:=jE (bl (.mk op l vr fl kd ⟨O,n0,t0⟩));rw[hR];have HA:=jD (fE op);have HS:=jD (iw op);have HQ:Hid (∀W,(binOp .neq 27 (.agg #[Mk O,Mk n0,.string t0]) (.agg #[Mk 0,Mk 0,.string ⟨#[]⟩])).run prog W=.ok (.bool (!bY ⟨O,n0,t0⟩ ah)) W):=jD (fun W=>cZ ⟨O,n0,t0⟩ ah W);have HC:=jD (fun (W:World) (h:op=4->1<=kd)=>dH (.mk op l vr fl kd ⟨O,n0,t0⟩) A l.length c W h);obtain⟨q,hq⟩:=jE (bY ⟨O,n0,t0⟩ ah);obtain⟨z,hz⟩:=jE (oN (.mk op l vr fl kd ⟨O,n0,t0⟩));rw[hq]at HQ;rw[hz]at HC;unfold exV at *;simp only[Ex.op,Ex.vr,Ex.fl,Ex.kd,Ex.val,Ex.args]at *;subst h2;obtain⟨n,Z⟩:=jE l.length;rw[Z]at hn HC ⊢;have G:Hid (R=if (n:Int)≠0 then 15 else if (vr<0\/16<=vr) then 2 else if fl≠0\/kd≠0\/q=false then 3 else 0):=jD (by rw[<-hR,<-hq,<-Z];simp[bl,ee,arN,Ex.op,Ex.args,Ex.vr,Ex.fl,Ex.kd,Ex.val,NV]);clear hR hq hz Z hn;go_enter func172,ntmps172;go_wp2_with fail;refine (HA.out _).mono ?_;rintro e w1 ⟨rfl,J⟩;obtain⟨y0,y1,y2,y3,y4,y5,y6,y7⟩:=fY J;have d':=jD (ab (af w _) J);clear J;simp only[Gb,Fw,GC,Hg,GY]
  by_cases h0:(n:Int)=0
  case neg =>
   exact uaB
  have H0:=jD h0;obtain rfl:n=0:=by omega
  clear h0 H0;go_wp2_with fail;refine (HS.out _).mono ?_;rintro e w2 ⟨rfl,a'⟩;replace y0:=jd a' y0 y1 y2 y3 y4 y5 y6 y7;clear y1 y2 y3 y4 y5 y6 y7;obtain⟨y0,y1,y2,y3,y4,y5,y6,y7⟩:=y0;have I:=jD (ab d'.out a');simp only[lf,ld,kT,kW,kV];have hQ:=HQ.out;clear HA HS HQ a'
  by_cases q0:vr<0
  case pos =>
   exact uaD
  by_cases q1:16<=vr
  case pos =>
   exact uaC
  clear HC
  by_cases p1:fl=0
  case neg =>
   have k':(fl==0)=false:=jQ p1;have j':=jD p1;obtain rfl:R=3:=by rw[G.out];simp[q0,q1,p1]
   clear G p1;go_wp2_with fail
   all_goals exact en (I.out)
  subst p1
  by_cases p2:kd=0
  case neg =>
   have i':(kd==0)=false:=jQ p2;have h':=jD p2;obtain rfl:R=3:=by rw[G.out];simp[q0,q1,p2]
   clear G p2;go_wp2_with fail
   all_goals exact en (I.out)
  subst p2
  cases q with
  | false =>
   obtain rfl:R=3:=by rw[G.out];simp[q0,q1]
   clear G;go_wp2_with fail
   all_goals exact en (I.out)
  | true =>
   obtain rfl:R=0:=by rw[G.out];simp[q0,q1]
   clear G;go_wp2_with fail
   all_goals exact en (I.out)):p:=h
theorem L7 (x:Ex) (A:Option Addr) (c:Nat) (w:World) (h2:x.op=2) (hn:x.args.length<=1048576) :
  Mn 172 #[exV x (.slice A x.args.length c)] w (Mk (bl x)):=by
 exact uaA
theorem Lg (x:Ex) (A:Option Addr) (c:Nat) (w:World) (h2:x.op=3) (hn:x.args.length<=1048576) :
  Mn 172 #[exV x (.slice A x.args.length c)] w (Mk (bl x)):=by
 exact uaA
theorem uaE {p:Prop} (h:p:=by
  obtain rfl:R=2:=by rw[G.out];simp[q0,q1,q2,q3]
  clear G;go_wp2_with fail
  all_goals exact en (I.out)):p:=h
theorem LK (x:Ex) (A:Option Addr) (c:Nat) (w:World) (h2:x.op=1) (hn:x.args.length<=1048576) :
  Mn 172 #[exV x (.slice A x.args.length c)] w (Mk (bl x)):=by
 obtain⟨op,l,vr,fl,kd,⟨O,n0,t0⟩⟩:=x;obtain⟨R,hR⟩:=jE (bl (.mk op l vr fl kd ⟨O,n0,t0⟩));rw[hR];have HA:=jD (fE op);have HS:=jD (iw op);have HQ:Hid (∀W,(binOp .neq 27 (.agg #[Mk O,Mk n0,.string t0]) (.agg #[Mk 0,Mk 0,.string ⟨#[]⟩])).run prog W=.ok (.bool (!bY ⟨O,n0,t0⟩ ah)) W):=jD (fun W=>cZ ⟨O,n0,t0⟩ ah W);have HC:=jD (fun (W:World) (h:op=4->1<=kd)=>dH (.mk op l vr fl kd ⟨O,n0,t0⟩) A l.length c W h);obtain⟨q,hq⟩:=jE (bY ⟨O,n0,t0⟩ ah);obtain⟨z,hz⟩:=jE (oN (.mk op l vr fl kd ⟨O,n0,t0⟩));rw[hq]at HQ;rw[hz]at HC;unfold exV at *;simp only[Ex.op,Ex.vr,Ex.fl,Ex.kd,Ex.val,Ex.args]at *;subst h2;obtain⟨n,Z⟩:=jE l.length;rw[Z]at hn HC ⊢;have G:Hid (R=if (n:Int)≠0 then 15 else if (vr<0\/16<=vr)\/fl<0\/8<=fl then 2 else if kd≠0\/q=false then 3 else 0):=jD (by rw[<-hR,<-hq,<-Z];simp[bl,ee,arN,Ex.op,Ex.args,Ex.vr,Ex.fl,Ex.kd,Ex.val,NV]);clear hR hq hz Z hn;go_enter func172,ntmps172;go_wp2_with fail;refine (HA.out _).mono ?_;rintro e w1 ⟨rfl,J⟩;obtain⟨y0,y1,y2,y3,y4,y5,y6,y7⟩:=fY J;have d':=jD (ab (af w _) J);clear J;simp only[Gb,Fw,GC,Hg,GY]
 by_cases h0:(n:Int)=0
 case neg =>
  exact uaB
 have H0:=jD h0;obtain rfl:n=0:=by omega
 clear h0 H0;go_wp2_with fail;refine (HS.out _).mono ?_;rintro e w2 ⟨rfl,a'⟩;replace y0:=jd a' y0 y1 y2 y3 y4 y5 y6 y7;clear y1 y2 y3 y4 y5 y6 y7;obtain⟨y0,y1,y2,y3,y4,y5,y6,y7⟩:=y0;have I:=jD (ab d'.out a');simp only[lf,ld,kT,kW,kV];have hQ:=HQ.out;clear HA HS HQ a'
 by_cases q0:vr<0
 case pos =>
  exact uaD
 by_cases q1:16<=vr
 case pos =>
  exact uaC
 by_cases q2:fl<0
 case pos =>
  obtain rfl:R=2:=by rw[G.out];simp[q0,q1,q2]
  clear G;go_wp2_with fail
  all_goals exact en (I.out)
 by_cases q3:8<=fl
 case pos =>
  exact uaE
 clear HC
 by_cases p2:kd=0
 case neg =>
  have i':(kd==0)=false:=jQ p2;have h':=jD p2;obtain rfl:R=3:=by rw[G.out];simp[q0,q1,q2,q3,p2]
  clear G p2;go_wp2_with fail
  all_goals exact en (I.out)
 subst p2
 cases q with
 | false =>
  obtain rfl:R=3:=by rw[G.out];simp[q0,q1,q2,q3]
  clear G;go_wp2_with fail
  all_goals exact en (I.out)
 | true =>
  obtain rfl:R=0:=by rw[G.out];simp[q0,q1,q2,q3]
  clear G;go_wp2_with fail
  all_goals exact en (I.out)
theorem LJ (x:Ex) (A:Option Addr) (c:Nat) (w:World) (h2:x.op=0) (hn:x.args.length<=1048576) :
  Mn 172 #[exV x (.slice A x.args.length c)] w (Mk (bl x)):=by
 obtain⟨op,l,vr,fl,kd,⟨O,n0,t0⟩⟩:=x;obtain⟨R,hR⟩:=jE (bl (.mk op l vr fl kd ⟨O,n0,t0⟩));rw[hR];have HA:=jD (fE op);have HS:=jD (iw op);have HQ:Hid (∀W,(binOp .neq 27 (.agg #[Mk O,Mk n0,.string t0]) (.agg #[Mk 0,Mk 0,.string ⟨#[]⟩])).run prog W=.ok (.bool (!bY ⟨O,n0,t0⟩ ah)) W):=jD (fun W=>cZ ⟨O,n0,t0⟩ ah W);have HC:=jD (fun (W:World) (h:op=4->1<=kd)=>dH (.mk op l vr fl kd ⟨O,n0,t0⟩) A l.length c W h);obtain⟨q,hq⟩:=jE (bY ⟨O,n0,t0⟩ ah);obtain⟨z,hz⟩:=jE (oN (.mk op l vr fl kd ⟨O,n0,t0⟩));rw[hq]at HQ;rw[hz]at HC;unfold exV at *;simp only[Ex.op,Ex.vr,Ex.fl,Ex.kd,Ex.val,Ex.args]at *;subst h2;obtain⟨n,Z⟩:=jE l.length;rw[Z]at hn HC ⊢;have G:Hid (R=if (n:Int)≠0 then 15 else if z≠0 then z else if vr≠0\/fl≠0\/kd≠0 then 3 else 0):=jD (by rw[<-hR,<-Z,<-hz];simp[bl,ee,arN,Ex.op,Ex.args,Ex.vr,Ex.fl,Ex.kd,Ex.val,NV]);clear hR hq hz Z hn;go_enter func172,ntmps172;go_wp2_with fail;refine (HA.out _).mono ?_;rintro e w1 ⟨rfl,J⟩;obtain⟨y0,y1,y2,y3,y4,y5,y6,y7⟩:=fY J;have d':=jD (ab (af w _) J);clear J;simp only[Gb,Fw,GC,Hg,GY]
 by_cases h0:(n:Int)=0
 case neg =>
  exact uaB
 have H0:=jD h0;obtain rfl:n=0:=by omega
 clear h0 H0;go_wp2_with fail;refine (HS.out _).mono ?_;rintro e w2 ⟨rfl,a'⟩;replace y0:=jd a' y0 y1 y2 y3 y4 y5 y6 y7;clear y1 y2 y3 y4 y5 y6 y7;obtain⟨y0,y1,y2,y3,y4,y5,y6,y7⟩:=y0;have I:=jD (ab d'.out a');simp only[lf,ld,kT,kW,kV];have hQ:=HQ.out;clear HA HS HQ a';go_wp2_with fail
 all_goals first|(exfalso;omega)|skip
 refine (HC.out _ (fun h=>by omega)).mono ?_;rintro e w3 ⟨rfl,c'⟩;replace y0:=aa c' y0;replace y2:=aa c' y2;replace y3:=aa c' y3;replace y4:=aa c' y4;replace y5:=aa c' y5;replace y6:=aa c' y6;replace y7:=aa c' y7;have f':=jD (ab I.out c');clear c'
 by_cases qz:z=0
 case neg =>
  have bz:(z==0)=false:=jQ qz;obtain rfl:R=z:=by rw[G.out];simp[qz]
  clear G qz;go_wp2_with fail
  all_goals
   go_ret;exact⟨rfl,f'.out⟩
 subst qz
 by_cases p0:vr=0
 case neg =>
  have l':(vr==0)=false:=jQ p0;have m':=jD p0;obtain rfl:R=3:=by rw[G.out];simp[p0]
  clear G p0;go_wp2_with fail
  all_goals exact en (f'.out)
 subst p0
 by_cases p1:fl=0
 case neg =>
  have k':(fl==0)=false:=jQ p1;have j':=jD p1;obtain rfl:R=3:=by rw[G.out];simp[p1]
  clear G p1;go_wp2_with fail
  all_goals exact en (f'.out)
 subst p1
 by_cases p2:kd=0
 case neg =>
  have i':(kd==0)=false:=jQ p2;have h':=jD p2;obtain rfl:R=3:=by rw[G.out];simp[p2]
  clear G p2;go_wp2_with fail
  all_goals exact en (f'.out)
 subst p2;obtain rfl:R=0:=by rw[G.out];simp[]
 clear G;go_wp2_with fail
 all_goals exact en (f'.out)
theorem L1 (x:Ex) (A:Option Addr) (c:Nat) (w:World) (h2:x.op=4) (hn:x.args.length<=1048576) :
  Mn 172 #[exV x (.slice A x.args.length c)] w (Mk (bl x)):=by
 obtain⟨op,l,vr,fl,kd,⟨O,n0,t0⟩⟩:=x;obtain⟨R,hR⟩:=jE (bl (.mk op l vr fl kd ⟨O,n0,t0⟩));rw[hR];have HA:=jD (fE op);have HS:=jD (iw op);have HQ:Hid (∀W,(binOp .neq 27 (.agg #[Mk O,Mk n0,.string t0]) (.agg #[Mk 0,Mk 0,.string ⟨#[]⟩])).run prog W=.ok (.bool (!bY ⟨O,n0,t0⟩ ah)) W):=jD (fun W=>cZ ⟨O,n0,t0⟩ ah W);have HC:=jD (fun (W:World) (h:op=4->1<=kd)=>dH (.mk op l vr fl kd ⟨O,n0,t0⟩) A l.length c W h);obtain⟨q,hq⟩:=jE (bY ⟨O,n0,t0⟩ ah);obtain⟨z,hz⟩:=jE (oN (.mk op l vr fl kd ⟨O,n0,t0⟩));rw[hq]at HQ;rw[hz]at HC;unfold exV at *;simp only[Ex.op,Ex.vr,Ex.fl,Ex.kd,Ex.val,Ex.args]at *;subst h2;obtain⟨n,Z⟩:=jE l.length;rw[Z]at hn HC ⊢;have G:Hid (R=if (n:Int)≠0 then 15 else if (vr<0\/16<=vr)\/fl<0\/8<=fl then 2 else if kd<1\/5<kd then 1 else if z≠0 then z else 0):=jD (by rw[<-hR,<-Z,<-hz];simp[bl,ee,arN,Ex.op,Ex.args,Ex.vr,Ex.fl,Ex.kd,Ex.val,NV]);clear hR hq hz Z hn;go_enter func172,ntmps172;go_wp2_with fail;refine (HA.out _).mono ?_;rintro e w1 ⟨rfl,J⟩;obtain⟨y0,y1,y2,y3,y4,y5,y6,y7⟩:=fY J;have d':=jD (ab (af w _) J);clear J;simp only[Gb,Fw,GC,Hg,GY]
 by_cases h0:(n:Int)=0
 case neg =>
  exact uaB
 have H0:=jD h0;obtain rfl:n=0:=by omega
 clear h0 H0;go_wp2_with fail;refine (HS.out _).mono ?_;rintro e w2 ⟨rfl,a'⟩;replace y0:=jd a' y0 y1 y2 y3 y4 y5 y6 y7;clear y1 y2 y3 y4 y5 y6 y7;obtain⟨y0,y1,y2,y3,y4,y5,y6,y7⟩:=y0;have I:=jD (ab d'.out a');simp only[lf,ld,kT,kW,kV];have hQ:=HQ.out;clear HA HS HQ a'
 by_cases q0:vr<0
 case pos =>
  exact uaD
 by_cases q1:16<=vr
 case pos =>
  exact uaC
 by_cases q2:fl<0
 case pos =>
  obtain rfl:R=2:=by rw[G.out];simp[q0,q1,q2]
  clear G;go_wp2_with fail
  all_goals exact en (I.out)
 by_cases q3:8<=fl
 case pos =>
  exact uaE
 by_cases q4:kd<1
 case pos =>
  obtain rfl:R=1:=by rw[G.out];simp[q0,q1,q2,q3,q4]
  clear G;go_wp2_with fail
  all_goals exact en (I.out)
 by_cases q5:5<kd
 case pos =>
  obtain rfl:R=1:=by rw[G.out];simp[q0,q1,q2,q3,q4,q5]
  clear G;go_wp2_with fail
  all_goals exact en (I.out)
 go_wp2_with fail
 all_goals first|(exfalso;omega)|skip
 refine (HC.out _ (fun _=>by omega)).mono ?_;rintro e w3 ⟨rfl,c'⟩;replace y0:=aa c' y0;replace y2:=aa c' y2;replace y3:=aa c' y3;replace y4:=aa c' y4;replace y5:=aa c' y5;replace y6:=aa c' y6;replace y7:=aa c' y7;have f':=jD (ab I.out c');clear c'
 by_cases qz:z=0
 case neg =>
  have bz:(z==0)=false:=jQ qz;obtain rfl:R=z:=by rw[G.out];rw[Mo om,Mo om,Mo om];simp[qz]
  clear G qz;go_wp2_with fail
  all_goals
   go_ret;exact⟨rfl,f'.out⟩
 subst qz;obtain rfl:R=0:=by rw[G.out];rw[Mo om,Mo om,Mo om];simp
 clear G;go_wp2_with fail
 all_goals exact en (f'.out)
theorem Lr (x:Ex) (A:Option Addr) (c:Nat) (w:World) (m:Int) (h2:arP x.op=(m,true)) (h3:arN x.op=m) (h4:ee x.op=(false,false)) (h5:x.op≠4) (h6:x.op≠0) (hm:0<=m) (hn:x.args.length<=1048576) :
  Mn 172 #[exV x (.slice A x.args.length c)] w (Mk (bl x)):=by
 obtain⟨op,l,vr,fl,kd,⟨O,n0,t0⟩⟩:=x;obtain⟨R,hR⟩:=jE (bl (.mk op l vr fl kd ⟨O,n0,t0⟩));rw[hR];have HA:=jD (fE op);have HS:=jD (iw op);have HQ:Hid (∀W,(binOp .neq 27 (.agg #[Mk O,Mk n0,.string t0]) (.agg #[Mk 0,Mk 0,.string ⟨#[]⟩])).run prog W=.ok (.bool (!bY ⟨O,n0,t0⟩ ah)) W):=jD (fun W=>cZ ⟨O,n0,t0⟩ ah W);have HC:=jD (fun (W:World) (h:op=4->1<=kd)=>dH (.mk op l vr fl kd ⟨O,n0,t0⟩) A l.length c W h);obtain⟨q,hq⟩:=jE (bY ⟨O,n0,t0⟩ ah);obtain⟨z,hz⟩:=jE (oN (.mk op l vr fl kd ⟨O,n0,t0⟩));rw[hq]at HQ;rw[hz]at HC;unfold exV at *;simp only[Ex.op,Ex.vr,Ex.fl,Ex.kd,Ex.val,Ex.args]at *;obtain⟨n,Z⟩:=jE l.length;rw[Z]at hn HC ⊢;have G:Hid (R=if (n:Int)≠m then 15 else if vr≠0\/fl≠0\/kd≠0\/q=false then 3 else 0):=jD (by rw[<-hR,<-hq,<-Z];unfold bl;simp only[Ex.op,Ex.args,Ex.vr,Ex.fl,Ex.kd,Ex.val,h3,h4];rw[Mo om];simp[h5,h6]);have b4:(op==4)=false:=jQ h5;have b0:(op==0)=false:=jQ h6;have H2:=jD h2;have H4:=jD h4;clear h2 h3 h4 h5 h6 hm;clear hR hq hz Z hn;go_enter func172,ntmps172;go_wp2_with fail;refine (HA.out _).mono ?_;rintro e w1 ⟨rfl,J⟩;obtain⟨y0,y1,y2,y3,y4,y5,y6,y7⟩:=fY J;have d':=jD (ab (af w _) J);clear J;rw[H2.out]
 by_cases h0:(n:Int)=m
 case neg =>
  have g':((n:Int)==m)=false:=jQ h0;obtain rfl:R=15:=by rw[G.out,Mp h0]
  clear G h0;go_wp2_with fail
  all_goals
   go_ret;exact⟨rfl,d'.out⟩
 have H0:=jD h0;subst h0;clear H0;go_wp2_with fail;refine (HS.out _).mono ?_;rintro e w2 ⟨rfl,a'⟩;replace y0:=jd a' y0 y1 y2 y3 y4 y5 y6 y7;clear y1 y2 y3 y4 y5 y6 y7;obtain⟨y0,y1,y2,y3,y4,y5,y6,y7⟩:=y0;have I:=jD (ab d'.out a');rw[H4.out];have hQ:=HQ.out;clear HA HS HQ a';clear HC
 by_cases p0:vr=0
 case neg =>
  have l':(vr==0)=false:=jQ p0;have m':=jD p0;obtain rfl:R=3:=by rw[G.out];simp[p0]
  clear G p0;go_wp2_with fail
  all_goals exact en (I.out)
 subst p0
 by_cases p1:fl=0
 case neg =>
  have k':(fl==0)=false:=jQ p1;have j':=jD p1;obtain rfl:R=3:=by rw[G.out];simp[p1]
  clear G p1;go_wp2_with fail
  all_goals exact en (I.out)
 subst p1
 by_cases p2:kd=0
 case neg =>
  have i':(kd==0)=false:=jQ p2;have h':=jD p2;obtain rfl:R=3:=by rw[G.out];simp[p2]
  clear G p2;go_wp2_with fail
  all_goals exact en (I.out)
 subst p2
 cases q with
 | false =>
  obtain rfl:R=3:=by rw[G.out];simp[]
  clear G;go_wp2_with fail
  all_goals exact en (I.out)
 | true =>
  obtain rfl:R=0:=by rw[G.out];simp[]
  clear G;go_wp2_with fail
  all_goals exact en (I.out)
theorem FI (x:Ex) (A:Option Addr) (c:Nat) (w:World) (hn:x.args.length<=1048576) :
  Mn 172 #[exV x (.slice A x.args.length c)] w (Mk (bl x)):=by
 by_cases h2:x.op=2
 ·exact L7 x A c w h2 hn
 by_cases h3:x.op=3
 ·exact Lg x A c w h3 hn
 by_cases h1:x.op=1
 ·exact LK x A c w h1 hn
 by_cases h0:x.op=0
 ·exact LJ x A c w h0 hn
 by_cases h4:x.op=4
 ·exact L1 x A c w h4 hn
 by_cases h5:5<=x.op/\x.op<=12
 ·refine Lr x A c w (arN x.op) ?_ rfl ?_ h4 h0 ?_ hn
  ·unfold arP;rw[Mo om]
  ·unfold ee;rw[Mo om,Mo om]
  ·unfold arN;rw[Mo om];split<;>(try split)<;>omega
 ·exact G0 x A x.args.length c w om
end Go.Proofs.YtbjicljfjkdeeaaGreatDoor
