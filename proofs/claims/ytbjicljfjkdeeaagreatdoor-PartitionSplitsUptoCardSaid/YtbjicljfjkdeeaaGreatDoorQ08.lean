/- Part. -/
import Derived.Test.YtbjicljfjkdeeaaGreatDoorQ07
set_option maxRecDepth 100000
set_option maxHeartbeats 16000000
set_option linter.unusedVariables false
set_option linter.unusedSimpArgs false
namespace Go.Proofs.YtbjicljfjkdeeaaGreatDoor
open Go.Proofs.Tryz Go.RowKit
section
open Go.ChangeShapes Go.WideShapes Go.ChangeAt Go.RowKit Go.Deep
inductive Pt
 | mk (op:Int) (args:List Pt) (ty vr sc sp:Int) (cond:Ex)
def Pt.op:Pt->Int|.mk a _ _ _ _ _ _=>a
def Pt.args:Pt->List Pt|.mk _ a _ _ _ _ _=>a
def Pt.ty:Pt->Int|.mk _ _ a _ _ _ _=>a
def Pt.vr:Pt->Int|.mk _ _ _ a _ _ _=>a
def Pt.sc:Pt->Int|.mk _ _ _ _ a _ _=>a
def Pt.sp:Pt->Int|.mk _ _ _ _ _ a _=>a
def Pt.cond:Pt->Ex|.mk _ _ _ _ _ _ a=>a
mutual
def ptB:Pt->Nat
 | .mk _ l _ _ _ _ c=>1+oM l+aF c
def oM:List Pt->Nat
 | []=>0
 | a::r=>ptB a+oM r
end
theorem ur (x:Pt):ptB x=1+oM x.args+aF x.cond:=by cases x;rw[ptB];rfl
theorem wI (l:List Pt):oM l=(l.map ptB).sum:=by
 induction l with
 | nil=>rw[oM];rfl
 | cons a r h=>rw[oM,h];rfl
def kR:Nat->World->Nat->Nat->Pt->Prop
 | 0=>fun _ _ _ _=>False
 | d+1=>fun w b p x=>∃v,Sl (kR d) 14 w v x.args/\w.cell? ⟨b,p,none⟩=some (Mk x.op)/\w.cell? ⟨b,p+1,none⟩=some v /\
   w.cell? ⟨b,p+2,none⟩=some (Mk x.ty)/\w.cell? ⟨b,p+3,none⟩=some (Mk x.vr)/\w.cell? ⟨b,p+4,none⟩=some (Mk x.sc)/\w.cell? ⟨b,p+5,none⟩=some (Mk x.sp)/\rD d w b (p+6) x.cond
theorem aB (d:Nat):jp (kR d):=by
 induction d with
 | zero=>exact fun _ _ _ _ _ _ h=>h
 | succ d G=>exact fun _ _ _ _ _ hb ⟨v,I,h0,Z,J,h3,O,h5,z⟩=>⟨v,I.stays G hb,aa hb h0,aa hb Z,aa hb J,aa hb h3,aa hb O,aa hb h5,ai d _ _ _ _ _ hb z⟩
theorem Ed (d:Nat):∀(w:World) (b p:Nat) (x:Pt),kR d w b p x->kR (d+1) w b p x:=by
 induction d with
 | zero=>exact fun _ _ _ _ h=>h.elim
 | succ d G=>exact fun w b p x ⟨v,I,h0,Z,J,h3,O,h5,z⟩=>⟨v,oW (fun b p x=>G w b p x) I,h0,Z,J,h3,O,h5,sl d _ _ _ _ z⟩
abbrev aU (d:Nat) (w:World) (v:Value) (l:List Pt):Prop:=Sl (kR d) 14 w v l
def ptV (x:Pt) (v vc:Value):Value:=.agg #[Mk x.op,v,Mk x.ty,Mk x.vr,Mk x.sc,Mk x.sp,
 Mk x.cond.op,vc,Mk x.cond.vr,Mk x.cond.fl,Mk x.cond.kd,Mk x.cond.val.kind,Mk x.cond.val.num,.string x.cond.val.text]
theorem sS:prog.cellsOf 31=14:=kr
theorem tF:prog.cellsOf 24=1:=kr
theorem Kl {α:Type} {l:List α} (h:l.length=7):∃a b c d e f g,l=[a,b,c,d,e,f,g]:=by
 match l,h with
 | [a,b,c,d,e,f,g],_=>exact⟨a,b,c,d,e,f,g,rfl⟩
theorem Hu {α:Type} {l:List α} (h:l.length=14):∃a b c d e f g i j k m n o p,l=[a,b,c,d,e,f,g,i,j,k,m,n,o,p]:=by
 match l,h with
 | [a,b,c,d,e,f,g,i,j,k,m,n,o,p],_=>exact⟨a,b,c,d,e,f,g,i,j,k,m,n,o,p,rfl⟩
section
variable {H : Type} {enc : TypeId × Value -> H} {w : World} {base : Nat} {spare : Nat -> Bool} {held : Bool}
theorem Kd (fuel:Nat):∀(n:Nat),n<=fuel->∀(b o:Nat) (cs:List Value) (y:DataW H × List MemPlace),cs.length=14->(∀(j:Nat) (u:Value),cs[j]?=some u->w.cell? ⟨b,o+j,none⟩=some u) ->
  DataW.trod enc prog w base spare held n 31 cs=some y->∃x,kR fuel w b o x/\ptB x<=Rows.uptoBulk y.1:=by
 induction fuel with
 | zero =>
  intro n hn b o cs y hl z h;obtain⟨xs,m,hm,_⟩:=N0 underlying31 h;omega
 | succ fuel ih =>
  intro n hn b o cs y hl z h;obtain⟨c0,c1,c2,c3,c4,c5,c6,c7,c8,c9,d',c',a',g',rfl⟩:=Hu hl;obtain⟨xs,m,hm,hy,_,G,hf⟩:=N0 underlying31 h;obtain⟨x0,x1,x2,x3,x4,x5,x6,rfl⟩:=Kl (jQ G);have f0:=hf 0 _ rfl;have f1:=hf 1 _ rfl;have f2:=hf 2 _ rfl;have f3:=hf 3 _ rfl;have f4:=hf 4 _ rfl;have f5:=hf 5 _ rfl;have f6:=hf 6 _ rfl;simp[dp,tF,lN]at f0 f1 f2 f3 f4 f5 f6;obtain⟨O,e0,_⟩:=MS underlying3 f0;obtain⟨k2,e2,_⟩:=MS underlying3 f2;obtain⟨I,e3,_⟩:=MS underlying3 f3;obtain⟨Z,e4,_⟩:=MS underlying3 f4;obtain⟨k5,e5,_⟩:=MS underlying3 f5;obtain⟨ex,hex,f'⟩:=CC fuel m om b (o+6) _ x6 rfl (fun j u hj=>by have:=z (j+6) u (jQ hj);rw[NT,Nat.add_comm 6 j];exact this) f6;obtain⟨l,J,h'⟩:=lW (m:=ptB) underlying24 sS dc (fun n b o cs y hn h1 h2 h3=>ih n om b o cs y h1 h2 h3) f1;simp only[Nf,Ns]at e0 e2 e3 e4 e5;subst e0 e2 e3 e4 e5;refine⟨.mk O l k2 I Z k5 ex,⟨c1,J,z 0 _ rfl,z 1 _ rfl,z 2 _ rfl,z 3 _ rfl,z 4 _ rfl,z 5 _ rfl,hex⟩,?_⟩;subst hy;rw[ur,show (Pt.mk O l k2 I Z k5 ex).args=l from rfl,show (Pt.mk O l k2 I Z k5 ex).cond=ex from rfl,wI];have h1:Rows.uptoBulkAll [x0.1,x1.1,x2.1,x3.1,x4.1,x5.1,x6.1]=Rows.uptoBulk x0.1+(Rows.uptoBulk x1.1+(Rows.uptoBulk x2.1+(Rows.uptoBulk x3.1+(Rows.uptoBulk x4.1+(Rows.uptoBulk x5.1+(Rows.uptoBulk x6.1+0)))))):=rfl;simp only[Rows.uptoBulk,MF,Om];omega
end
theorem Ji {d:Nat} {w:World} {b p:Nat} {x:Pt} (h:kR d w b p x):∃z v,d=z+1/\aU z w v x.args/\w.cell? ⟨b,p,none⟩=some (Mk x.op)/\w.cell? ⟨b,p+1,none⟩=some v /\
  w.cell? ⟨b,p+2,none⟩=some (Mk x.ty)/\w.cell? ⟨b,p+3,none⟩=some (Mk x.vr)/\w.cell? ⟨b,p+4,none⟩=some (Mk x.sc)/\w.cell? ⟨b,p+5,none⟩=some (Mk x.sp)/\rD z w b (p+6) x.cond:=by
 cases d with
 | zero=>exact h.elim
 | succ d =>
  obtain⟨v,I,h0,Z,J,h3,O,h5,G⟩:=h;exact⟨d,v,rfl,I,h0,Z,J,h3,O,h5,G⟩
end
theorem Ev (x:Ex) (A:Option Addr) (n c:Nat) (w:World) (h:x.op<0\/12<x.op) :
  Mn 275 #[exV x (.slice A n c)] w (Mk (bl x)):=by
 have hE:bl x=1:=by unfold bl;rw[Mp (by unfold arN;rw[Mp h];omega)]
 rw[hE];have HA:=jD (eK x.op);rw[show arN x.op=-1 by unfold arN;rw[Mp h]]at HA;clear hE h;unfold exV;go_enter func275,ntmps275;go_wp2_with fail;refine (HA.out _).mono ?_;rintro e w1 ⟨rfl,O⟩;go_wp2;go_ret;exact⟨rfl,ab (af w _) O⟩
theorem uaJ {p:Prop} (h:p:=by
  have i':((n:Int)==0)=false:=jQ h0;obtain rfl:R=15:=by rw[G.out,Mp h0]
  clear G h0;go_wp2_with fail
  all_goals
   go_ret;exact⟨rfl,f'.out⟩):p:=h
theorem uaK {p:Prop} (h:p:=by
  obtain rfl:R=2:=by rw[G.out];simp[q0,q1]
  clear G;go_wp2_with fail
  all_goals exact en (I.out)):p:=h
theorem uaL {p:Prop} (h:p:=by
  obtain rfl:R=2:=by rw[G.out];simp[q0]
  clear G;go_wp2_with fail
  all_goals exact en (I.out)):p:=h
theorem uaI {p:Prop} (h:p:=by
  obtain⟨op,l,vr,fl,kd,⟨J,n0,t0⟩⟩:=x;obtain⟨R,hR⟩:=jE (bl (.mk op l vr fl kd ⟨J,n0,t0⟩));rw[hR];have HA:=jD (eK op);have HS:=jD (gq op);have HQ:Hid (∀W,(binOp .neq 27 (.agg #[Mk J,Mk n0,.string t0]) (.agg #[Mk 0,Mk 0,.string ⟨#[]⟩])).run prog W=.ok (.bool (!bY ⟨J,n0,t0⟩ ah)) W):=jD (fun W=>cZ ⟨J,n0,t0⟩ ah W);have HC:=jD (fun (W:World) (_:True)=>eQ ⟨J,n0,t0⟩ W);have HU:=jD (fun (W:World)=>fH kd ⟨J,n0,t0⟩ W);obtain⟨b,d'⟩:=jE (eE kd ⟨J,n0,t0⟩);rw[d']at HU;obtain⟨q,hq⟩:=jE (bY ⟨J,n0,t0⟩ ah);obtain⟨z,hz⟩:=jE (dN ⟨J,n0,t0⟩);rw[hq]at HQ;rw[hz]at HC;unfold exV vlV at *;simp only[Ex.op,Ex.vr,Ex.fl,Ex.kd,Ex.val,Ex.args]at *;subst h2;obtain⟨n,Z⟩:=jE l.length;rw[Z]at hn ⊢;have G:Hid (R=if (n:Int)≠0 then 15 else if (vr<0\/16<=vr) then 2 else if fl≠0\/kd≠0\/q=false then 3 else 0):=jD (by rw[<-hR,<-hq,<-Z];simp[bl,ee,arN,Ex.op,Ex.args,Ex.vr,Ex.fl,Ex.kd,Ex.val,NV]);clear hR hq hz Z hn d';go_enter func275,ntmps275;go_wp2_with fail;refine (HA.out _).mono ?_;rintro e w1 ⟨rfl,O⟩;obtain⟨y0,y1,y2,y3,y4,y5,y6,y7⟩:=fY O;have f':=jD (ab (af w _) O);clear O;simp only[Fx,Gx,GN,EW,Ih]
  by_cases h0:(n:Int)=0
  case neg =>
   exact uaJ
  have H0:=jD h0;obtain rfl:n=0:=by omega
  clear h0 H0;go_wp2_with fail;refine (HS.out _).mono ?_;rintro e w2 ⟨rfl,a'⟩;replace y0:=jd a' y0 y1 y2 y3 y4 y5 y6 y7;clear y1 y2 y3 y4 y5 y6 y7;obtain⟨y0,y1,y2,y3,y4,y5,y6,y7⟩:=y0;have I:=jD (ab f'.out a');simp only[lf,ld,kT,kW,kV];have hQ:=HQ.out;clear HA HS HQ a'
  by_cases q0:vr<0
  case pos =>
   exact uaL
  by_cases q1:16<=vr
  case pos =>
   exact uaK
  clear HC HU
  by_cases p1:fl=0
  case neg =>
   have n':(fl==0)=false:=jQ p1;have m':=jD p1;obtain rfl:R=3:=by rw[G.out];simp[q0,q1,p1]
   clear G p1;go_wp2_with fail
   all_goals exact en (I.out)
  subst p1
  by_cases p2:kd=0
  case neg =>
   have l':(kd==0)=false:=jQ p2;have j':=jD p2;obtain rfl:R=3:=by rw[G.out];simp[q0,q1,p2]
   clear G p2;go_wp2_with fail
   all_goals exact en (I.out)
  subst p2
  cases q with
  | false =>
   obtain rfl:R=3:=by rw[G.out];simp[q0,q1]
   clear G;go_wp2_with fail
   all_goals exact en (I.out)
  | true =>
   obtain rfl:R=0:=by rw[G.out];simp[q0,q1]
   clear G;go_wp2_with fail
   all_goals exact en (I.out)):p:=h
theorem JT (x:Ex) (A:Option Addr) (c:Nat) (w:World) (h2:x.op=2) (hn:x.args.length<=1048576) :
  Mn 275 #[exV x (.slice A x.args.length c)] w (Mk (bl x)):=by
 exact uaI
theorem Iy (x:Ex) (A:Option Addr) (c:Nat) (w:World) (h2:x.op=3) (hn:x.args.length<=1048576) :
  Mn 275 #[exV x (.slice A x.args.length c)] w (Mk (bl x)):=by
 exact uaI
theorem uaN {p:Prop} (h:p:=by
  obtain rfl:R=2:=by rw[G.out];simp[q0,q1,q2,q3]
  clear G;go_wp2_with fail
  all_goals exact en (I.out)):p:=h
theorem It (x:Ex) (A:Option Addr) (c:Nat) (w:World) (h2:x.op=1) (hn:x.args.length<=1048576) :
  Mn 275 #[exV x (.slice A x.args.length c)] w (Mk (bl x)):=by
 obtain⟨op,l,vr,fl,kd,⟨J,n0,t0⟩⟩:=x;obtain⟨R,hR⟩:=jE (bl (.mk op l vr fl kd ⟨J,n0,t0⟩));rw[hR];have HA:=jD (eK op);have HS:=jD (gq op);have HQ:Hid (∀W,(binOp .neq 27 (.agg #[Mk J,Mk n0,.string t0]) (.agg #[Mk 0,Mk 0,.string ⟨#[]⟩])).run prog W=.ok (.bool (!bY ⟨J,n0,t0⟩ ah)) W):=jD (fun W=>cZ ⟨J,n0,t0⟩ ah W);have HC:=jD (fun (W:World) (_:True)=>eQ ⟨J,n0,t0⟩ W);have HU:=jD (fun (W:World)=>fH kd ⟨J,n0,t0⟩ W);obtain⟨b,d'⟩:=jE (eE kd ⟨J,n0,t0⟩);rw[d']at HU;obtain⟨q,hq⟩:=jE (bY ⟨J,n0,t0⟩ ah);obtain⟨z,hz⟩:=jE (dN ⟨J,n0,t0⟩);rw[hq]at HQ;rw[hz]at HC;unfold exV vlV at *;simp only[Ex.op,Ex.vr,Ex.fl,Ex.kd,Ex.val,Ex.args]at *;subst h2;obtain⟨n,Z⟩:=jE l.length;rw[Z]at hn ⊢;have G:Hid (R=if (n:Int)≠0 then 15 else if (vr<0\/16<=vr)\/fl<0\/8<=fl then 2 else if kd≠0\/q=false then 3 else 0):=jD (by rw[<-hR,<-hq,<-Z];simp[bl,ee,arN,Ex.op,Ex.args,Ex.vr,Ex.fl,Ex.kd,Ex.val,NV]);clear hR hq hz Z hn d';go_enter func275,ntmps275;go_wp2_with fail;refine (HA.out _).mono ?_;rintro e w1 ⟨rfl,O⟩;obtain⟨y0,y1,y2,y3,y4,y5,y6,y7⟩:=fY O;have f':=jD (ab (af w _) O);clear O;simp only[Fx,Gx,GN,EW,Ih]
 by_cases h0:(n:Int)=0
 case neg =>
  exact uaJ
 have H0:=jD h0;obtain rfl:n=0:=by omega
 clear h0 H0;go_wp2_with fail;refine (HS.out _).mono ?_;rintro e w2 ⟨rfl,a'⟩;replace y0:=jd a' y0 y1 y2 y3 y4 y5 y6 y7;clear y1 y2 y3 y4 y5 y6 y7;obtain⟨y0,y1,y2,y3,y4,y5,y6,y7⟩:=y0;have I:=jD (ab f'.out a');simp only[lf,ld,kT,kW,kV];have hQ:=HQ.out;clear HA HS HQ a'
 by_cases q0:vr<0
 case pos =>
  exact uaL
 by_cases q1:16<=vr
 case pos =>
  exact uaK
 by_cases q2:fl<0
 case pos =>
  obtain rfl:R=2:=by rw[G.out];simp[q0,q1,q2]
  clear G;go_wp2_with fail
  all_goals exact en (I.out)
 by_cases q3:8<=fl
 case pos =>
  exact uaN
 clear HC HU
 by_cases p2:kd=0
 case neg =>
  have l':(kd==0)=false:=jQ p2;have j':=jD p2;obtain rfl:R=3:=by rw[G.out];simp[q0,q1,q2,q3,p2]
  clear G p2;go_wp2_with fail
  all_goals exact en (I.out)
 subst p2
 cases q with
 | false =>
  obtain rfl:R=3:=by rw[G.out];simp[q0,q1,q2,q3]
  clear G;go_wp2_with fail
  all_goals exact en (I.out)
 | true =>
  obtain rfl:R=0:=by rw[G.out];simp[q0,q1,q2,q3]
  clear G;go_wp2_with fail
  all_goals exact en (I.out)
theorem J8 (x:Ex) (A:Option Addr) (c:Nat) (w:World) (h2:x.op=0) (hn:x.args.length<=1048576) :
  Mn 275 #[exV x (.slice A x.args.length c)] w (Mk (bl x)):=by
 obtain⟨op,l,vr,fl,kd,⟨J,n0,t0⟩⟩:=x;obtain⟨R,hR⟩:=jE (bl (.mk op l vr fl kd ⟨J,n0,t0⟩));rw[hR];have HA:=jD (eK op);have HS:=jD (gq op);have HQ:Hid (∀W,(binOp .neq 27 (.agg #[Mk J,Mk n0,.string t0]) (.agg #[Mk 0,Mk 0,.string ⟨#[]⟩])).run prog W=.ok (.bool (!bY ⟨J,n0,t0⟩ ah)) W):=jD (fun W=>cZ ⟨J,n0,t0⟩ ah W);have HC:=jD (fun (W:World) (_:True)=>eQ ⟨J,n0,t0⟩ W);have HU:=jD (fun (W:World)=>fH kd ⟨J,n0,t0⟩ W);obtain⟨b,d'⟩:=jE (eE kd ⟨J,n0,t0⟩);rw[d']at HU;obtain⟨q,hq⟩:=jE (bY ⟨J,n0,t0⟩ ah);obtain⟨z,hz⟩:=jE (dN ⟨J,n0,t0⟩);rw[hq]at HQ;rw[hz]at HC;unfold exV vlV at *;simp only[Ex.op,Ex.vr,Ex.fl,Ex.kd,Ex.val,Ex.args]at *;subst h2;obtain⟨n,Z⟩:=jE l.length;rw[Z]at hn ⊢;have G:Hid (R=if (n:Int)≠0 then 15 else if z≠0 then z else if vr≠0\/fl≠0\/kd≠0 then 3 else 0):=jD (by rw[<-hR,<-hz,<-Z];simp only[bl,ee,arN,oN,Ex.op,Ex.args,Ex.vr,Ex.fl,Ex.kd,Ex.val];simp[NV];(repeat' split)<;>simp_all);clear hR hq hz Z hn d';go_enter func275,ntmps275;go_wp2_with fail;refine (HA.out _).mono ?_;rintro e w1 ⟨rfl,O⟩;obtain⟨y0,y1,y2,y3,y4,y5,y6,y7⟩:=fY O;have f':=jD (ab (af w _) O);clear O;simp only[Fx,Gx,GN,EW,Ih]
 by_cases h0:(n:Int)=0
 case neg =>
  exact uaJ
 have H0:=jD h0;obtain rfl:n=0:=by omega
 clear h0 H0;go_wp2_with fail;refine (HS.out _).mono ?_;rintro e w2 ⟨rfl,a'⟩;replace y0:=jd a' y0 y1 y2 y3 y4 y5 y6 y7;clear y1 y2 y3 y4 y5 y6 y7;obtain⟨y0,y1,y2,y3,y4,y5,y6,y7⟩:=y0;have I:=jD (ab f'.out a');simp only[lf,ld,kT,kW,kV];have hQ:=HQ.out;clear HA HS HQ a';go_wp2_with fail
 all_goals first|(exfalso;omega)|skip
 refine (HC.out _ trivial).mono ?_;rintro e w3 ⟨rfl,c'⟩;replace y0:=aa c' y0;replace y2:=aa c' y2;replace y3:=aa c' y3;replace y4:=aa c' y4;replace y5:=aa c' y5;replace y6:=aa c' y6;replace y7:=aa c' y7;have h':=jD (ab I.out c');clear c'
 by_cases qz:z=0
 case neg =>
  have bz:(z==0)=false:=jQ qz;obtain rfl:R=z:=by rw[G.out];simp[qz]
  clear G qz;go_wp2_with fail
  all_goals
   go_ret;exact⟨rfl,h'.out⟩
 subst qz
 by_cases p0:vr=0
 case neg =>
  have p':(vr==0)=false:=jQ p0;have q':=jD p0;obtain rfl:R=3:=by rw[G.out];simp[p0]
  clear G p0;go_wp2_with fail
  all_goals exact en (h'.out)
 subst p0
 by_cases p1:fl=0
 case neg =>
  have n':(fl==0)=false:=jQ p1;have m':=jD p1;obtain rfl:R=3:=by rw[G.out];simp[p1]
  clear G p1;go_wp2_with fail
  all_goals exact en (h'.out)
 subst p1
 by_cases p2:kd=0
 case neg =>
  have l':(kd==0)=false:=jQ p2;have j':=jD p2;obtain rfl:R=3:=by rw[G.out];simp[p2]
  clear G p2;go_wp2_with fail
  all_goals exact en (h'.out)
 subst p2;obtain rfl:R=0:=by rw[G.out];simp[]
 clear G;go_wp2_with fail
 all_goals exact en (h'.out)
theorem uaM {p:Prop} (h:p:=by
  obtain rfl:R=9:=by rw[G.out];rw[Mo om,Mo om,Mo om];simp
  clear G;go_wp2_with fail
  all_goals exact en (k'.out)):p:=h
theorem ID (x:Ex) (A:Option Addr) (c:Nat) (w:World) (h2:x.op=4) (hn:x.args.length<=1048576) :
  Mn 275 #[exV x (.slice A x.args.length c)] w (Mk (bl x)):=by
 obtain⟨op,l,vr,fl,kd,⟨J,n0,t0⟩⟩:=x;obtain⟨R,hR⟩:=jE (bl (.mk op l vr fl kd ⟨J,n0,t0⟩));rw[hR];have HA:=jD (eK op);have HS:=jD (gq op);have HQ:Hid (∀W,(binOp .neq 27 (.agg #[Mk J,Mk n0,.string t0]) (.agg #[Mk 0,Mk 0,.string ⟨#[]⟩])).run prog W=.ok (.bool (!bY ⟨J,n0,t0⟩ ah)) W):=jD (fun W=>cZ ⟨J,n0,t0⟩ ah W);have HC:=jD (fun (W:World) (_:True)=>eQ ⟨J,n0,t0⟩ W);have HU:=jD (fun (W:World)=>fH kd ⟨J,n0,t0⟩ W);obtain⟨b,d'⟩:=jE (eE kd ⟨J,n0,t0⟩);rw[d']at HU;obtain⟨q,hq⟩:=jE (bY ⟨J,n0,t0⟩ ah);obtain⟨z,hz⟩:=jE (dN ⟨J,n0,t0⟩);rw[hq]at HQ;rw[hz]at HC;unfold exV vlV at *;simp only[Ex.op,Ex.vr,Ex.fl,Ex.kd,Ex.val,Ex.args]at *;subst h2;obtain⟨n,Z⟩:=jE l.length;rw[Z]at hn ⊢;have G:Hid (R=if (n:Int)≠0 then 15 else if (vr<0\/16<=vr)\/fl<0\/8<=fl then 2 else if kd<1\/5<kd then 1 else if z≠0 then z else if b=false\/kd=1/\q=false then 9 else 0):=jD (by rw[<-hR,<-hz,<-Z,<-hq,<-d'];simp only[bl,ee,arN,oN,Ex.op,Ex.args,Ex.vr,Ex.fl,Ex.kd,Ex.val];simp[NV];(repeat' split)<;>simp_all);clear hR hq hz Z hn d';go_enter func275,ntmps275;go_wp2_with fail;refine (HA.out _).mono ?_;rintro e w1 ⟨rfl,O⟩;obtain⟨y0,y1,y2,y3,y4,y5,y6,y7⟩:=fY O;have f':=jD (ab (af w _) O);clear O;simp only[Fx,Gx,GN,EW,Ih]
 by_cases h0:(n:Int)=0
 case neg =>
  exact uaJ
 have H0:=jD h0;obtain rfl:n=0:=by omega
 clear h0 H0;go_wp2_with fail;refine (HS.out _).mono ?_;rintro e w2 ⟨rfl,a'⟩;replace y0:=jd a' y0 y1 y2 y3 y4 y5 y6 y7;clear y1 y2 y3 y4 y5 y6 y7;obtain⟨y0,y1,y2,y3,y4,y5,y6,y7⟩:=y0;have I:=jD (ab f'.out a');simp only[lf,ld,kT,kW,kV];have hQ:=HQ.out;clear HA HS HQ a'
 by_cases q0:vr<0
 case pos =>
  exact uaL
 by_cases q1:16<=vr
 case pos =>
  exact uaK
 by_cases q2:fl<0
 case pos =>
  obtain rfl:R=2:=by rw[G.out];simp[q0,q1,q2]
  clear G;go_wp2_with fail
  all_goals exact en (I.out)
 by_cases q3:8<=fl
 case pos =>
  exact uaN
 by_cases q4:kd<1
 case pos =>
  obtain rfl:R=1:=by rw[G.out];simp[q0,q1,q2,q3,q4]
  clear G;go_wp2_with fail
  all_goals exact en (I.out)
 by_cases q5:5<kd
 case pos =>
  obtain rfl:R=1:=by rw[G.out];simp[q0,q1,q2,q3,q4,q5]
  clear G;go_wp2_with fail
  all_goals exact en (I.out)
 go_wp2_with fail
 all_goals first|(exfalso;omega)|skip
 refine (HC.out _ trivial).mono ?_;rintro e w3 ⟨rfl,c'⟩;replace y0:=aa c' y0;replace y2:=aa c' y2;replace y3:=aa c' y3;replace y4:=aa c' y4;replace y5:=aa c' y5;replace y6:=aa c' y6;replace y7:=aa c' y7;have h':=jD (ab I.out c');clear c'
 by_cases qz:z=0
 case neg =>
  have bz:(z==0)=false:=jQ qz;obtain rfl:R=z:=by rw[G.out];rw[Mo om,Mo om,Mo om];simp[qz]
  clear G qz;go_wp2_with fail
  all_goals
   go_ret;exact⟨rfl,h'.out⟩
 subst qz;go_wp2_with fail
 all_goals first|(exfalso;omega)|skip
 refine (HU.out _).mono ?_;rintro e w4 ⟨rfl,g'⟩;replace y0:=aa g' y0;replace y2:=aa g' y2;replace y3:=aa g' y3;replace y4:=aa g' y4;replace y5:=aa g' y5;replace y6:=aa g' y6;replace y7:=aa g' y7;have k':=jD (ab h'.out g');clear g'
 cases b with
 | false =>
  exact uaM
 | true =>
  by_cases k1:kd=1
  case neg =>
   have bk:(kd==1)=false:=jQ k1;obtain rfl:R=0:=by rw[G.out];rw[Mo om,Mo om,Mo om];simp[k1]
   clear G;go_wp2_with fail
   all_goals exact en (k'.out)
  subst k1
  cases q with
  | false =>
   exact uaM
  | true =>
   obtain rfl:R=0:=by rw[G.out];rw[Mo om,Mo om,Mo om];simp
   clear G;go_wp2_with fail
   all_goals exact en (k'.out)
theorem Jo (x:Ex) (A:Option Addr) (c:Nat) (w:World) (m:Int) (h2:arP x.op=(m,true)) (h3:arN x.op=m) (h4:ee x.op=(false,false)) (h5:x.op≠4) (h6:x.op≠0) (hm:0<=m) (hn:x.args.length<=1048576) :
  Mn 275 #[exV x (.slice A x.args.length c)] w (Mk (bl x)):=by
 obtain⟨op,l,vr,fl,kd,⟨J,n0,t0⟩⟩:=x;obtain⟨R,hR⟩:=jE (bl (.mk op l vr fl kd ⟨J,n0,t0⟩));rw[hR];have HA:=jD (eK op);have HS:=jD (gq op);have HQ:Hid (∀W,(binOp .neq 27 (.agg #[Mk J,Mk n0,.string t0]) (.agg #[Mk 0,Mk 0,.string ⟨#[]⟩])).run prog W=.ok (.bool (!bY ⟨J,n0,t0⟩ ah)) W):=jD (fun W=>cZ ⟨J,n0,t0⟩ ah W);have HC:=jD (fun (W:World) (_:True)=>eQ ⟨J,n0,t0⟩ W);have HU:=jD (fun (W:World)=>fH kd ⟨J,n0,t0⟩ W);obtain⟨b,d'⟩:=jE (eE kd ⟨J,n0,t0⟩);rw[d']at HU;obtain⟨q,hq⟩:=jE (bY ⟨J,n0,t0⟩ ah);obtain⟨z,hz⟩:=jE (dN ⟨J,n0,t0⟩);rw[hq]at HQ;rw[hz]at HC;unfold exV vlV at *;simp only[Ex.op,Ex.vr,Ex.fl,Ex.kd,Ex.val,Ex.args]at *;obtain⟨n,Z⟩:=jE l.length;rw[Z]at hn ⊢;have G:Hid (R=if (n:Int)≠m then 15 else if vr≠0\/fl≠0\/kd≠0\/q=false then 3 else 0):=jD (by rw[<-hR,<-hq,<-Z];unfold bl;simp only[Ex.op,Ex.args,Ex.vr,Ex.fl,Ex.kd,Ex.val,h3,h4];rw[Mo om];simp[h5,h6]);have b4:(op==4)=false:=jQ h5;have b0:(op==0)=false:=jQ h6;have H2:=jD h3;have H4:=jD h4;have r':¬m<0:=by omega
 clear h2 h3 h4 h5 h6 hm;clear hR hq hz Z hn d';go_enter func275,ntmps275;go_wp2_with fail;refine (HA.out _).mono ?_;rintro e w1 ⟨rfl,O⟩;obtain⟨y0,y1,y2,y3,y4,y5,y6,y7⟩:=fY O;have f':=jD (ab (af w _) O);clear O;rw[H2.out]
 by_cases h0:(n:Int)=m
 case neg =>
  have i':((n:Int)==m)=false:=jQ h0;obtain rfl:R=15:=by rw[G.out,Mp h0]
  clear G h0;go_wp2_with fail
  all_goals
   go_ret;exact⟨rfl,f'.out⟩
 have H0:=jD h0;subst h0;clear H0;go_wp2_with fail;refine (HS.out _).mono ?_;rintro e w2 ⟨rfl,a'⟩;replace y0:=jd a' y0 y1 y2 y3 y4 y5 y6 y7;clear y1 y2 y3 y4 y5 y6 y7;obtain⟨y0,y1,y2,y3,y4,y5,y6,y7⟩:=y0;have I:=jD (ab f'.out a');rw[H4.out];have hQ:=HQ.out;clear HA HS HQ a';clear HC HU
 by_cases p0:vr=0
 case neg =>
  have p':(vr==0)=false:=jQ p0;have q':=jD p0;obtain rfl:R=3:=by rw[G.out];simp[p0]
  clear G p0;go_wp2_with fail
  all_goals exact en (I.out)
 subst p0
 by_cases p1:fl=0
 case neg =>
  have n':(fl==0)=false:=jQ p1;have m':=jD p1;obtain rfl:R=3:=by rw[G.out];simp[p1]
  clear G p1;go_wp2_with fail
  all_goals exact en (I.out)
 subst p1
 by_cases p2:kd=0
 case neg =>
  have l':(kd==0)=false:=jQ p2;have j':=jD p2;obtain rfl:R=3:=by rw[G.out];simp[p2]
  clear G p2;go_wp2_with fail
  all_goals exact en (I.out)
 subst p2
 cases q with
 | false =>
  obtain rfl:R=3:=by rw[G.out];simp[]
  clear G;go_wp2_with fail
  all_goals exact en (I.out)
 | true =>
  obtain rfl:R=0:=by rw[G.out];simp[]
  clear G;go_wp2_with fail
  all_goals exact en (I.out)
theorem EL (x:Ex) (A:Option Addr) (c:Nat) (w:World) (hn:x.args.length<=1048576) :
  Mn 275 #[exV x (.slice A x.args.length c)] w (Mk (bl x)):=by
 by_cases h2:x.op=2
 ·exact JT x A c w h2 hn
 by_cases h3:x.op=3
 ·exact Iy x A c w h3 hn
 by_cases h1:x.op=1
 ·exact It x A c w h1 hn
 by_cases h0:x.op=0
 ·exact J8 x A c w h0 hn
 by_cases h4:x.op=4
 ·exact ID x A c w h4 hn
 by_cases h5:5<=x.op/\x.op<=12
 ·refine Jo x A c w (arN x.op) ?_ rfl ?_ h4 h0 ?_ hn
  ·unfold arP;rw[Mo om]
  ·unfold ee;rw[Mo om,Mo om]
  ·unfold arN;rw[Mo om];split<;>(try split)<;>omega
 ·exact Ev x A x.args.length c w om
end Go.Proofs.YtbjicljfjkdeeaaGreatDoor
