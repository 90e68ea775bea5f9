/- Part. -/
import Derived.Test.YtokconodddedhaaGreatDoorQ31
import Derived.Test.YtokconodddedhaaGreatDoorQ33
set_option maxRecDepth 100000
set_option maxHeartbeats 16000000
set_option linter.unusedVariables false
set_option linter.unusedSimpArgs false
namespace Go.Proofs.YtokconodddedhaaGreatDoor
open Go.Proofs.Tryz Go.RowKit
structure TypIs (w:World) (ts:List Sch) (vs:List Nv) (vt vv:Value):Prop where
 types:iZ w vt ts
 vars:tg w vv vs
theorem TypIs.stays {w w':World} {ts:List Sch} {vs:List Nv} {vt vv:Value} (h:TypIs w ts vs vt vv) (z:KY w w'):TypIs w' ts vs vt vv:=⟨h.types.stays bU z,h.vars.stays jd z⟩
theorem nH {n:Nat}:∀{vs:List Nv},dz n vs=0->∀v∈vs,0<=v.ty/\v.ty<(n:Int)
 | [],_,_,hv=>by simp at hv
 | a::r,h,v,hv=>by
  rw[dz]at h
  split at h
  ·exact absurd h dc
  ·rcases List.mem_cons.1 hv with rfl|hv
   ·omega
   ·exact nH h v hv
theorem IY {x:Ex} (h:bh x=0) (h0:x.args.length=0):0<=x.op/\x.op<=4/\(x.op≠0->0<=x.vr)/\(x.op=1\/x.op=4->0<=x.fl)/\(x.op=4->1<=x.kd):=by
 obtain⟨a,b,c,d⟩:=uu h;have F:=wY a b om;refine⟨a,F,fun e=>?_,d,fun e=>?_⟩
 ·unfold bh at h;rw[K6 (by unfold arN;rw[K6 om,K7 om];decide),K6 (by rw[<-c];simp)]at h
  by_cases D:x.vr<0
  ·have:(dr x.op).1=true:=by
    unfold dr
    by_cases z:x.op=1\/x.op=4
    ·rw[K7 z]
    ·rw[K6 z,K7 om]
   rw[K7 (.inl ⟨this,.inl D⟩)]at h;exact absurd h dc
  ·omega
 ·unfold bh at h;rw[K6 (by unfold arN;rw[K6 om,K7 om];decide),K6 (by rw[<-c];simp)]at h
  by_cases z:(dr x.op).1=true/\(x.vr<0\/16<=x.vr)\/(dr x.op).2=true/\(x.fl<0\/8<=x.fl)
  ·rw[K7 z]at h;exact absurd h dc
  ·rw[K6 z]at h
   by_cases G:x.op=4/\(x.kd<1\/5<x.kd)
   ·rw[K7 G]at h;exact absurd h dc
   ·omega
theorem kz {α:Type} {l:List α} {k:Nat} {x d:α} (h:l[k]?=some x):l.getD k d=x:=by rw[ME,h];rfl
theorem Iv {ts:List Sch} {vs:List Nv} {x:Ex} (h:x.op=0):iM ts vs x=(x.val.kind,0):=by unfold iM;rw[K7 h]
theorem Hw {ts:List Sch} {vs:List Nv} {x:Ex} (h:x.op≠0) (z:(vs.length:Int)<=x.vr):iM ts vs x=(0,6):=by unfold iM;rw[K6 h,K7 z]
theorem IP {ts:List Sch} {vs:List Nv} {x:Ex} (h:x.op≠0) (D:¬(vs.length:Int)<=x.vr) (z:x.op=2\/x.op=3):iM ts vs x=(0,0):=by unfold iM;rw[K6 h,K6 D,K7 z]
theorem Jd {ts:List Sch} {vs:List Nv} {x:Ex} {i j:Nat} {v:Nv} {s:Sch} (h:x.op≠0) (I:¬(vs.length:Int)<=x.vr) (D:¬(x.op=2\/x.op=3)) (J:x.vr=(j:Int)) (F:vs[j]?=some v) (G:v.ty=(i:Int)) (hs:ts[i]?=some s) :
  iM ts vs x=if (s.fields.length:Int)<=x.fl then (0,6) else if x.op=4/\((s.fields.getD x.fl.toNat fy).kind≠x.val.kind\/gL x.kd ⟨(s.fields.getD x.fl.toNat fy).kind,0,⟨#[]⟩⟩=false) then (0,9) else ((s.fields.getD x.fl.toNat fy).kind,0):=by
 have z:fieldsOf ts (vs.getD x.vr.toNat ⟨⟨#[]⟩,0⟩).ty=s.fields:=by
  unfold fieldsOf;have:x.vr.toNat=j:=by omega
  rw[this,kz F,G,MQ,kz hs]
 unfold iM;rw[K6 h,K6 I,K6 D,z]
def AC (vt vv:Value):Value:=.agg #[vt,vv]
def fR (w:World) (r:Int × Int) (e:Ending) (W:World):Prop:=e=.returned (.tuple #[KW r.1,KW r.2])/\KY w W
theorem Ce (ts:List Sch) (vs:List Nv) (x:Ex) (vt vv vx:Value) (w:World) (hT:TypIs w ts vs vt vv) (hr:dz ts.length vs=0) (hx:∃A n c,vx=.slice A n c) (hn:bh x=0) (h0:x.args.length=0) :
  Calls prog 339 #[AC vt vv,exV x vx] w (fR w (iM ts vs x)):=by
 obtain⟨Ax,nx,cx,rfl⟩:=hx;obtain⟨At,ct,rfl,t1,t2,s'⟩:=id hT.types;obtain⟨Av,cv,rfl,v1,v2,D'⟩:=id hT.vars;obtain⟨o0,o4,u',x',Y'⟩:=IY hn h0;have S':=ax t1 t2;have P':=ax v1 v2;have H':=jD (nH hr);have J':=jD s';have M':=jD D';obtain⟨R,hR⟩:=jE (iM ts vs x);have HR:=jD hR;rw[hR];clear hT hr s' D' hR t1 t2 v1 v2 hn h0;unfold exV AC
 by_cases I:x.op=0
 ·obtain rfl:(x.val.kind,0)=R:=by rw[<-HR.out,Iv I]
  have O':(x.op==0)=true:=jQ I;clear I;go_enter func339,ntmps339;go_wp2;exact Lc (v:=.tuple #[KW x.val.kind,KW 0]) (by simp[results,results339,go_sem]) rfl ⟨rfl,jB⟩
 have O':(x.op==0)=false:=jQ I
 by_cases c1:(vs.length:Int)<=x.vr
 ·obtain rfl:(0,6)=R:=by rw[<-HR.out,Hw I c1]
  clear I;go_enter func339,ntmps339;go_wp2;exact Lc (v:=.tuple #[KW 0,KW 6]) (by simp[results,results339,go_sem]) rfl ⟨rfl,jB⟩
 have y':x.vr<(vs.length:Int):=by omega
 by_cases J:x.op=2\/x.op=3
 ·obtain rfl:(0,0)=R:=by rw[<-HR.out,IP I c1 J]
  clear I c1;rcases J with J|J
  ·have k':(x.op==2)=true:=jQ J;clear J;go_enter func339,ntmps339;go_wp2;exact Lc (v:=.tuple #[KW 0,KW 0]) (by simp[results,results339,go_sem]) rfl ⟨rfl,jB⟩
  ·have k':(x.op==2)=false:=by simp;omega
   have L':(x.op==3)=true:=jQ J;clear J;go_enter func339,ntmps339;go_wp2;exact Lc (v:=.tuple #[KW 0,KW 0]) (by simp[results,results339,go_sem]) rfl ⟨rfl,jB⟩
 have k':(x.op==2)=false:=by simp;omega
 have L':(x.op==3)=false:=by simp;omega
 obtain⟨j,hj⟩:∃j:Nat,x.vr=(j:Int):=⟨x.vr.toNat,by have:=u' I;omega⟩;have r':j<vs.length:=by omega
 obtain⟨v,hv⟩:∃v,vs[j]?=some v:=⟨_,K9 r'⟩;obtain⟨p',l'⟩:=H'.out v (Li hv);obtain⟨i,hi⟩:∃i:Nat,v.ty=(i:Int):=⟨v.ty.toNat,by omega⟩;have z':i<ts.length:=by omega
 obtain⟨s,hs⟩:∃s,ts[i]?=some s:=⟨_,K9 z'⟩;obtain⟨bv,ov,rfl,v0,v1⟩:=M'.out j v hv;obtain⟨bt,ot,rfl,vf,B',t0,t1⟩:=J'.out i s hs;obtain⟨Af,cf,rfl,f1,f2,C'⟩:=id B';have K0:=ax f1 f2;have R':=jD C';have Z:=HR.out;rw[Jd I c1 J hj hv hi hs]at Z;obtain⟨fl,F'⟩:∃fl:Nat,x.fl=(fl:Int):=⟨x.fl.toNat,by have:=x' om;omega⟩;rw[F']at Z;rw[hi]at v1;have i':=jD Z;obtain⟨nv,f'⟩:∃n,n=vs.length:=⟨_,rfl⟩;obtain⟨nt,e'⟩:∃n,n=ts.length:=⟨_,rfl⟩;obtain⟨nf,G⟩:∃n,n=s.fields.length:=⟨_,rfl⟩;have X':=jD G;rw[hj]at y';rw[hj,F'];rw[<-f']at r' P' y' ⊢;rw[<-e']at z' S' ⊢;rw[<-G]at t1 K0 i';have I':=K8 w ⟨bv,_,none⟩ v1;have N':=K8 w ⟨bt,_,none⟩ t1;have m':x.op=1\/x.op=4:=by omega
 clear HR Z c1 J hv hs v0 t0 B' C' f1 f2 f' e' G p' l' u' x' hj hi;go_enter func339,ntmps339;go_wp2_with fail;refine aP fun z e3=>?_
 obtain⟨Y,hY⟩:∃q,q=w.heap.size+1:=⟨_,rfl⟩;obtain⟨X,hX⟩:∃q,q=w.heap.size:=⟨_,rfl⟩;have d':KY w z:=gb e3;have x0:KX z X 0 (.slice (some ⟨bt,ot,none⟩) nt ct):=by rw[e3,hX];show _=_;go_simp
 have x1:KX z X 1 (.slice (some ⟨bv,ov,none⟩) nv cv):=by rw[e3,hX];show _=_;go_simp
 have y0:KX z Y 0 (KW x.op):=by rw[e3,hY];show _=_;go_simp
 have y2:KX z Y 2 (KW (j:Int)):=by rw[e3,hY];show _=_;go_simp
 have y3:KX z Y 3 (KW (fl:Int)):=by rw[e3,hY];show _=_;go_simp
 have y4:KX z Y 4 (KW x.kd):=by rw[e3,hY];show _=_;go_simp
 have y5:KX z Y 5 (KW x.val.kind):=by rw[e3,hY];show _=_;go_simp
 replace v1:=aa d' v1;replace t1:=aa d' t1;rw[<-hY,<-hX];have U':=K8 z ⟨X,_,none⟩ x0;have V':=K8 z ⟨Y,_,none⟩ y0;have q':=K8 z ⟨bv,_,none⟩ v1;have A':=K8 z ⟨bt,_,none⟩ t1;have T':=jD d';clear e3 hX hY d';refine rgn (fun W:World=>KY z W/\KX W X 0 (.slice (some ⟨bt,ot,none⟩) nt ct)/\KX W X 1 (.slice (some ⟨bv,ov,none⟩) nv cv)/\KX W Y 2 (KW (j:Int))/\KX W bv (ov+j*2+1) (KW (i:Int))/\KX W bt (ot+i*2+1) (.slice Af nf cf)) (Below z.heap.size z) (fun W hW=>⟨hW,aa hW x0,aa hW x1,aa hW y2,aa hW v1,aa hW t1⟩) ((La _ _).drew) (fun H0 j'=>?_);refine tkH [0,1,2,3,4,5,6,7,8,9,10,11,12] ?_;refine wpAnyH_done kr (NoPanic.normal ?_) _;rotate_left 1;refine lp (Q:=Exit.then _ _) fun w5 e5=>?_
 have F:KY z w5:=gb e5;have D:=jD (ab T'.out F);replace y0:=aa F y0;replace y3:=aa F y3;replace y4:=aa F y4;replace y5:=aa F y5;have V':=K8 w5 ⟨Y,_,none⟩ y0;clear j' H0 e5 F x0 x1 y2 v1 t1 U' q' A' I' N'
 by_cases c5:nf<=fl
 ·have E':(nf:Int)<=(fl:Int):=by omega
  obtain rfl:(0,6)=R:=by have h:=i'.out;rw[K7 E']at h;exact h
  clear c5;go_wp2;exact Lc (v:=.tuple #[KW 0,KW 6]) (by simp[results,results339,go_sem]) rfl ⟨rfl,D.out⟩
 have E':(fl:Int)<(nf:Int):=by omega
 have b':=i'.out;rw[K6 om]at b';obtain⟨f,hf⟩:∃f,s.fields[fl]?=some f:=⟨_,K9 (by rw[<-X'.out];omega)⟩;have n':(s.fields.getD ((fl:Int)).toNat fy).kind=f.kind:=by rw[MQ,ME,hf];rfl
 rw[n']at b';obtain⟨bf,off,rfl,g0,g1⟩:=R'.out fl f hf;replace g1:=aa D.out g1;have N0:=K8 w5 ⟨bf,_,none⟩ g1;have a':=jD b';clear b' hf n' g0;rcases m' with O|O
 ·have Z':(x.op==4)=false:=by rw[O];rfl
  obtain rfl:(f.kind,0)=R:=by have h:=a'.out;rw[K6 om]at h;exact h
  clear O;go_wp2;exact Lc (v:=.tuple #[KW f.kind,KW 0]) (by simp[results,results339,go_sem]) rfl ⟨rfl,D.out⟩
 have Z':(x.op==4)=true:=by rw[O];rfl
 have G':=Y' O
 by_cases c7:f.kind=x.val.kind
 case neg =>
  have A0:(f.kind != x.val.kind)=true:=jQ c7;obtain rfl:(0,9)=R:=by have h:=a'.out;rw[K7 ⟨O,.inl c7⟩]at h;exact h
  clear O c7;go_wp2;exact Lc (v:=.tuple #[KW 0,KW 9]) (by simp[results,results339,go_sem]) rfl ⟨rfl,D.out⟩
 have A0:(f.kind != x.val.kind)=false:=jQ c7;obtain⟨q,hq⟩:=jE (gL x.kd ⟨f.kind,0,⟨#[]⟩⟩);have c':=jD (fun W=>sG x.kd ⟨f.kind,0,⟨#[]⟩⟩ W G');rw[hq]at c';unfold vlV at c';have g':=a'.out;rw[hq]at g';have t':=jD g';clear hq g' a'
 cases q with
 | false =>
  obtain rfl:(0,9)=R:=by have h:=t'.out;rw[K7 ⟨O,.inr rfl⟩]at h;exact h
  clear O c7;go_wp2_with (go_at_call 244;refine (c'.out _).mono ?_;rintro e w6 ⟨rfl,h'⟩);exact Lc (v:=.tuple #[KW 0,KW 9]) (by simp[results,results339,go_sem]) rfl ⟨rfl,ab D.out h'⟩
 | true =>
  obtain rfl:(f.kind,0)=R:=by have h:=t'.out;rw[K6 (fun h=>by rcases h.2 with h|h;exact h c7;cases h)]at h;exact h
  clear O c7;go_wp2_with (go_at_call 244;refine (c'.out _).mono ?_;rintro e w6 ⟨rfl,h'⟩);exact Lc (v:=.tuple #[KW f.kind,KW 0]) (by simp[results,results339,go_sem]) rfl ⟨rfl,ab D.out h'⟩
theorem wP {ts:List Sch} {vs:List Nv} {l:List Ex} {k:Nat} {a:Ex} (h:l[k]?=some a) :
  fA ts vs (l.drop k)=if (fG ts vs a).2≠0 then ([],(fG ts vs a).2) else ((fG ts vs a).1::(fA ts vs (l.drop (k+1))).1,(fA ts vs (l.drop (k+1))).2):=by
 obtain⟨z,rfl⟩:=List.getElem?_eq_some_iff.1 h;rw[Lr z,fA]
theorem DH (op:Int) (pre:List Int):oa op (pre,0)=if opE op pre≠0 then (0,opE op pre) else if op=5\/op=6 then (0,0) else (1,0):=by unfold oa;rw[K6 jS]
theorem rz:∀{l:List Ex},dL l=0->∀a∈l,bO a=0
 | [],_,_,h=>by simp at h
 | b::r,h,a,ha=>by
  rw[dL]at h
  by_cases z:bO b=0
  ·rw[K6 (jQ z)]at h;rcases List.mem_cons.1 ha with rfl|ha
   ·exact z
   ·exact rz h a ha
  ·rw[K7 z]at h;exact absurd h z
theorem qp (ts:List Sch) (vs:List Nv) (vt vv:Value) (hr:dz ts.length vs=0) (d:Nat)
  (ih:∀d',d=d'+1->∀(x:Ex) (vx:Value) (w:World),TypIs w ts vs vt vv->aF d' w vx x.args->bO x=0->x.args.length<=64->Calls prog 296 #[AC vt vv,exV x vx] w (fR w (fG ts vs x)))
  (x:Ex) (vx:Value) (w:World) (hT:TypIs w ts vs vt vv) (hx:aF d w vx x.args) (hn:bO x=0) (S':x.args.length<=64) :
  Calls prog 296 #[AC vt vv,exV x vx] w (fR w (fG ts vs x)):=by
 have O:=hn;rw[iF]at O;have f':bh x=0:=by
  by_cases h:bh x=0
  ·exact h
  ·rw[K7 h]at O;exact absurd O h
 rw[K6 (jQ f')]at O;have F':=jD (rz O);obtain⟨R,hR⟩:=jE (fG ts vs x);have HR:=jD hR;rw[hR];have HT:=jD hT;have j':=jD (fun (W:World) (hW:KY w W) (h0:x.args.length=0)=>Ce ts vs x vt vv vx W (hT.stays hW) hr (by obtain⟨A,c,e,-⟩:=hx;exact⟨A,_,c,e⟩) f' h0);obtain⟨At,ct,rfl,-⟩:=hT.types;obtain⟨Av,cv,rfl,-⟩:=hT.vars;obtain⟨A,c,rfl,h1,h2,r'⟩:=hx;have m':=ax h1 h2;have C':=jD r';obtain⟨i0,hi,T',G',I'⟩:=LD iA;have L':=jD ih;clear hn O f' hT hR r' h1 h2 ih hr;unfold exV AC at *
 by_cases h0:x.args.length=0
 ·have z':((x.args.length:Int)==0)=true:=jQ h0;have B':=jD (fun W hW=>j'.out W hW h0);have hk:iM ts vs x=R:=by rw[<-HR.out,xE,K7 h0]
  rw[hk]at B';clear h0 hk j';go_enter func296,ntmps296;go_wp2_with fail;refine (B'.out _ ?_).mono ?_
  ·exact jB
  unfold fR;rintro e w2 ⟨rfl,D⟩;have F:Hid (KY w w2):=jD (ab (by exact jB) D);clear D;go_wp2;exact Lc (v:=.tuple #[KW R.1,KW R.2]) (by simp[results,results296,go_sem]) rfl ⟨rfl,F.out⟩
 have z':((x.args.length:Int)==0)=false:=jQ h0;have HK:Hid (oa x.op (fA ts vs x.args)=R):=jD (by rw[<-HR.out,xE,K6 h0]);clear h0 j' HR;obtain⟨na,l'⟩:∃n,n=x.args.length:=⟨_,rfl⟩;have t':=jD l';rw[<-l']at S' m' z' ⊢;clear l';go_enter func296,ntmps296;go_wp2_with fail;refine aP fun w3 e3=>?_
 obtain⟨Y,hY⟩:∃q,q=w.heap.size+1:=⟨_,rfl⟩;obtain⟨X,hX⟩:∃q,q=w.heap.size:=⟨_,rfl⟩;have y':KY w w3:=gb e3;have x0:KX w3 X 0 (.slice At ts.length ct):=by rw[e3,hX];show _=_;go_simp
 have x1:KX w3 X 1 (.slice Av vs.length cv):=by rw[e3,hX];show _=_;go_simp
 have y0:KX w3 Y 0 (KW x.op):=by rw[e3,hY];show _=_;go_simp
 rw[<-hY,<-hX];have HC:=jD (And.intro x0 (And.intro x1 y0));have b':=jD y';clear e3 hX hY y' x0 x1 y0
 go_loopw [6,24] (fun av i wr=>∃(k:Nat) (pre:List Int),k<=na/\pre.length=k/\i=KW k/\Hid (wr.ownsRow w3.heap.size 3 1 av k (bl pre))/\Hid (oa x.op (pre++(fA ts vs (x.args.drop k)).1,(fA ts vs (x.args.drop k)).2)=R/\KY w3 wr)) (fun _ i _=>na-(intOf i).toNat)
 case atStart=>exact⟨0,[],Lb _,rfl,rfl,jD ⟨rfl,.inl ⟨rfl,rfl⟩⟩,jD ⟨by rw[L1];exact HK.out,La _ _⟩⟩
 case round =>
  obtain⟨k,pre,hk,q',rfl,J,hI⟩:=hrel;have hb:=hI.out.2;obtain⟨Ar,cr,rfl⟩:=ay J.out;have x0:=aa hb HC.out.1;have x1:=aa hb HC.out.2.1;have y0:=aa hb HC.out.2.2;have N':=K8 wr ⟨X,_,none⟩ x0;have P':=K8 wr ⟨Y,_,none⟩ y0;have Z':=hb.size
  by_cases Y':k<na
  ·have H':(k:Int)<(na:Int):=by omega
   have k':k<x.args.length:=by have:=t'.out;omega
   obtain⟨b,o,rfl,i'⟩:=C'.out k x.args[k] (K9 k');have hg:=jD (K9 k');obtain⟨a,ha⟩:=jF (x.args[k]);rw[<-ha]at hg i';have Z:=F'.out a (Li hg.out);obtain⟨d',v',p',n',p0,p1,p2,p3,p4,p5,p6,p7⟩:=cL (ai d _ _ _ _ _ (ab b'.out hb) i');have e':a.args.length<=64:=by
    have h:=Z;rw[iF]at h
    by_cases I:bh a=0
    ·obtain⟨q1,q2,q3,-⟩:=uu I;have:arN a.op<=2:=by unfold arN;split;omega;split;omega;split<;>omega
     omega
    ·rw[K7 I]at h;exact absurd h I
   obtain⟨⟨fk,fe⟩,hQ⟩:∃r,fG ts vs a=r:=⟨_,rfl⟩;have g':=jD (fun (W:World) (hW:KY wr W)=>L'.out d' p' a v' W (HT.out.stays (ab (ab b'.out hb) hW)) (n'.stays (ai d') hW) Z e');rw[hQ]at g';obtain⟨A',c',rfl,-⟩:=n';have hD:=hI.out.1;rw[wP hg.out,hQ]at hD;have HD:=jD hD;have A0:=K8 wr ⟨b,_,none⟩ p0;obtain⟨nn,s'⟩:∃n,n=a.args.length:=⟨_,rfl⟩;rw[<-s']at g' p1;clear ha i' p' hQ hD Z e' k' s';go_wp2_with fail;refine (g'.out _ ?_).mono ?_
   ·exact jB
   unfold fR;rintro e w2 ⟨rfl,D⟩;have G:Hid (KY wr w2):=jD (ab (by exact jB) D);have F:=jD (ab hb G.out);clear D p0 p1 p2 p3 p4 p5 p6 p7 x0 x1 y0
   by_cases I:fe=0
   case neg =>
    obtain rfl:(0,fe)=R:=by
     have h:=HD.out;rw[K7 I]at h;rw[<-h];unfold oa;rw[K7 I]
    have E':(fe != 0)=true:=jQ I;clear I;go_wp2;exact Lc (v:=.tuple #[KW 0,KW fe]) (by simp[results,results296,go_sem]) rfl ⟨rfl,ab b'.out F.out⟩
   subst I;have D':Hid (oa x.op (pre++(fk::(fA ts vs (x.args.drop (k+1))).1),(fA ts vs (x.args.drop (k+1))).2)=R):=jD (by have h:=HD.out;rw[K6 jS]at h;exact h);have a':=jD (ag w2 (.cells #[KW fk] 3 (0,0)));go_wp2_with (at_builtin;refine aR _ rfl (.tmp 37) (.tmp 39) 23 rfl w3.heap.size 3 i0 _ 1 8 underlying23 hi T' G' I' rfl dc (.slice Ar k cr) k (bl pre) rfl (aj J.out (ab G.out a'.out)) (some ⟨w2.heap.size,0,none⟩) 1 1 [KW fk] rfl (bE _ [KW fk] _ 1 1 _ jS rfl (by simp[Value.oneCell'])) (by unfold maxLen;omega) om (by have:=G.out.size;have:=a'.out.size;omega) ?_;intro v8 w8 h' M' V');have U':KY w3 w8:=(ab hb (ab G.out a'.out)).trans (am M' (by have:=G.out.size;have:=a'.out.size;omega) (fun g h=>(ah J.out h).1));refine⟨⟨k+1,pre++[fk],by omega,by simp[q'],by go_num,jD (by rw[mH];exact h'),jD ⟨?_,U'⟩⟩,by simp[intOf];omega⟩;rw[L7];exact D'.out
  ·have H':¬(k:Int)<(na:Int):=by omega
   have hD:=hI.out.1;rw[Lq (by have:=t'.out;omega),fA,Mz,DH]at hD;have O':=jD (mc (l:=pre) (by rw[q'];exact J.out));obtain⟨oe,u'⟩:∃e,opE x.op pre=e:=⟨_,rfl⟩;have x':=jD (fun (W:World) (hW:KY wr W)=>lK x.op pre (.slice Ar k cr) W (O'.out.stays aL hW));rw[u']at hD x';have HD:=jD hD;clear hD u';go_wp2_with fail;refine (x'.out _ (La _ _)).mono ?_;rintro e w2 ⟨rfl,D⟩;have F:=jD (ab (ab b'.out hb) D);replace y0:=aa D y0;have X':=K8 w2 ⟨Y,_,none⟩ y0;clear D x0 x1 N' P'
   by_cases I:oe=0
   case neg =>
    obtain rfl:(0,oe)=R:=by have h:=HD.out;rw[K7 I]at h;exact h
    have E':(oe != 0)=true:=jQ I;clear I;go_wp2;exact Lc (v:=.tuple #[KW 0,KW oe]) (by simp[results,results296,go_sem]) rfl ⟨rfl,F.out⟩
   subst I;have z:=HD.out;rw[K6 jS]at z
   by_cases h5:x.op=5
   ·obtain rfl:(0,0)=R:=by rw[K7 (.inl h5)]at z;exact z
    have R':(x.op==5)=true:=jQ h5;clear z h5;go_wp2;exact Lc (v:=.tuple #[KW 0,KW 0]) (by simp[results,results296,go_sem]) rfl ⟨rfl,F.out⟩
   have R':(x.op==5)=false:=jQ h5
   by_cases h6:x.op=6
   ·obtain rfl:(0,0)=R:=by rw[K7 (.inr h6)]at z;exact z
    have J':(x.op==6)=true:=jQ h6;clear z h6 h5;go_wp2;exact Lc (v:=.tuple #[KW 0,KW 0]) (by simp[results,results296,go_sem]) rfl ⟨rfl,F.out⟩
   have J':(x.op==6)=false:=jQ h6;obtain rfl:(1,0)=R:=by rw[K6 om]at z;exact z
   clear z h6 h5;go_wp2;exact Lc (v:=.tuple #[KW 1,KW 0]) (by simp[results,results296,go_sem]) rfl ⟨rfl,F.out⟩
theorem CM (ts:List Sch) (vs:List Nv) (vt vv:Value) (hr:dz ts.length vs=0) (d:Nat):∀(x:Ex) (z:Value) (w:World),TypIs w ts vs vt vv->aF d w z x.args->bO x=0->x.args.length<=64 ->
  Calls prog 296 #[AC vt vv,exV x z] w (fR w (fG ts vs x)):=by
 induction d with
 | zero=>exact qp ts vs vt vv hr 0 (fun D h=>by omega)
 | succ d F=>exact qp ts vs vt vv hr (d+1) (fun D h=>Ma h▸F)
theorem wi {n:Nat} {l:List Nv} {k:Nat} {v:Nv} (h:l[k]?=some v):dz n (l.drop k)=if v.ty<0\/(n:Int)<=v.ty then 6 else dz n (l.drop (k+1)):=by
 obtain⟨z,rfl⟩:=List.getElem?_eq_some_iff.1 h;rw[Lr z,dz]
theorem An (x:Ex):x.args.length<=aM x:=by
 rw[dQ,lv];have h:∀l:List Ex,l.length<=(l.map aM).sum:=fun l=>by
  induction l with
  | nil=>simp
  | cons a r z=>have:=dQ a;rw[LF,MB,Lt];omega
 have:=h x.args;omega
theorem AF {x:Ex} (h:fJ x=0):bO x=0/\x.args.length<=64:=by
 unfold fJ at h
 by_cases D:64<aM x
 ·rw[K7 D]at h;exact absurd h dc
 rw[K6 D]at h
 by_cases z:12<dy x
 ·rw[K7 z]at h;exact absurd h dc
 rw[K6 z]at h;exact⟨h,by have:=An x;omega⟩
theorem xw (d:Nat) (ts:List Sch) (vs:List Nv) (x:Ex) (vt vv vx:Value) (w:World) (hT:TypIs w ts vs vt vv) (hx:aF d w vx x.args) (hf:∀s∈ts,fM s) (hN:aM x<=1048576) :
  Calls prog 238 #[vt,vv,exV x vx] w (fR w (iv ts vs x)):=by
 have Z:=jD (fun (W:World) (hW:KY w W)=>kg ts vt W (hT.types.stays bU hW) hf);have h':=jD (fun (W:World) (hW:KY w W)=>kG d x vx W (hx.stays (ai d) hW) hN);have F:=jD (fun (W:World) (hW:KY w W) (h1:dz ts.length vs=0) (h2:fJ x=0)=>CM ts vs vt vv h1 d x vx W (hT.stays hW) (hx.stays (ai d) hW) (AF h2).1 (AF h2).2);obtain⟨R,hR⟩:=jE (iv ts vs x);have G:=hR;unfold iv at G;rw[hR];obtain⟨ae,t'⟩:∃q,fU ts=q:=⟨_,rfl⟩;obtain⟨re,c'⟩:∃q,dz ts.length vs=q:=⟨_,rfl⟩;obtain⟨ce,q'⟩:∃q,fJ x=q:=⟨_,rfl⟩;rw[t']at Z G;rw[c']at G F;rw[q']at h' G F;have HR:=jD G;obtain⟨At,ct,rfl,t1,t2,-⟩:=id hT.types;obtain⟨Av,cv,rfl,v1,v2,r'⟩:=id hT.vars;obtain⟨Ax,cx,rfl,-⟩:=id hx;have E':=ax t1 t2;have B':=ax v1 v2;have y':=jD r';obtain⟨nt,d'⟩:∃n,n=ts.length:=⟨_,rfl⟩;obtain⟨nv,I⟩:∃n,n=vs.length:=⟨_,rfl⟩;obtain⟨nx,e'⟩:∃n,n=x.args.length:=⟨_,rfl⟩;rw[<-d']at Z F c' E' ⊢;rw[<-I]at F B' HR ⊢;rw[<-e']at h' F ⊢;have H':=jD c';have s':=jD I;unfold exV AC at *;clear hT hx hR G t' c' q' r' t1 t2 v1 v2 d' I e' hf hN;go_enter func238,ntmps238;go_wp2_with fail;refine aw fun w1 J=>?_
 obtain⟨X,O⟩:∃q,q=w.heap.size:=⟨_,rfl⟩;have l':KY w w1:=gb J;have x0:KX w1 X 0 (KW x.op):=by rw[J,O];show _=_;go_simp
 have x1:KX w1 X 1 (.slice Ax nx cx):=by rw[J,O];show _=_;go_simp
 have x2:KX w1 X 2 (KW x.vr):=by rw[J,O];show _=_;go_simp
 have x3:KX w1 X 3 (KW x.fl):=by rw[J,O];show _=_;go_simp
 have x4:KX w1 X 4 (KW x.kd):=by rw[J,O];show _=_;go_simp
 have x5:KX w1 X 5 (KW x.val.kind):=by rw[J,O];show _=_;go_simp
 have x6:KX w1 X 6 (KW x.val.num):=by rw[J,O];show _=_;go_simp
 have x7:KX w1 X 7 (.string x.val.text):=by rw[J,O];show _=_;go_simp
 rw[<-O];have HX:=jD (And.intro x0 (And.intro x1 (And.intro x2 (And.intro x3 (And.intro x4 (And.intro x5 (And.intro x6 x7)))))));clear J O x0 x1 x2 x3 x4 x5 x6 x7;refine (Z.out _ l').mono ?_;rintro e w2 ⟨rfl,g'⟩;have G':=jD g';have i':=jD (ab l' g');clear l' g' Z
 by_cases h0:ae=0
 case neg =>
  have M':(ae != 0)=true:=jQ h0;obtain rfl:(0,ae)=R:=by have h:=HR.out;rw[K7 h0]at h;exact h
  clear h0;go_wp2;exact Lc (v:=.tuple #[KW 0,KW ae]) (by simp[results,results238,go_sem]) rfl ⟨rfl,i'.out⟩
 subst h0;have j':Hid ((if 16<nv then (0,5) else if re≠0 then (0,6) else if ce≠0 then (0,ce) else fG ts vs x)=R):=jD (by have h:=HR.out;rw[K6 jS]at h;exact h);clear HR
 by_cases a':16<nv
 ·have p':(16:Int)<(nv:Int):=by omega
  obtain rfl:(0,5)=R:=by have h:=j'.out;rw[K7 a']at h;exact h
  clear a';go_wp2;exact Lc (v:=.tuple #[KW 0,KW 5]) (by simp[results,results238,go_sem]) rfl ⟨rfl,i'.out⟩
 have p':¬(16:Int)<(nv:Int):=by omega
 have b':Hid ((if re≠0 then (0,6) else if ce≠0 then (0,ce) else fG ts vs x)=R):=jD (by have h:=j'.out;rw[K6 a']at h;exact h);clear j' a';go_wp2_with fail
 go_loopw [22] (fun i wr=>∃k:Nat,k<=nv/\i=KW k/\Hid (dz nt (vs.drop k)=re/\KY w2 wr)) (fun i _=>nv-(intOf i).toNat)
 case atStart=>exact⟨0,Lb _,rfl,jD ⟨by rw[L1];exact H'.out,La _ _⟩⟩
 case round =>
  obtain⟨k,hk,rfl,hI⟩:=hrel;have hb:=ab i'.out hI.out.2;have hD:=hI.out.1
  by_cases J':k<nv
  ·have A':(k:Int)<(nv:Int):=by omega
   have f':k<vs.length:=by have:=s'.out;omega
   obtain⟨b,o,rfl,d0,d1⟩:=y'.out k vs[k] (K9 f');have hg:=jD (K9 f');obtain⟨v,hv⟩:=jF (vs[k]);rw[<-hv]at hg d0 d1;rw[wi hg.out]at hD;replace d0:=aa hb d0;replace d1:=aa hb d1;have L':=K8 wr ⟨b,_,none⟩ d0;have HD:=jD hD;have HB:=jD hb;clear hv hD f' hb
   by_cases D':v.ty<0
   ·obtain rfl:6=re:=by have h:=HD.out;rw[K7 (.inl D')]at h;exact h
    obtain rfl:(0,6)=R:=by have h:=b'.out;rw[K7 dc]at h;exact h
    go_wp2;exact Lc (v:=.tuple #[KW 0,KW 6]) (by simp[results,results238,go_sem]) rfl ⟨rfl,aJ HB.out _⟩
   by_cases z':(nt:Int)<=v.ty
   ·obtain rfl:6=re:=by have h:=HD.out;rw[K7 (.inr z')]at h;exact h
    obtain rfl:(0,6)=R:=by have h:=b'.out;rw[K7 dc]at h;exact h
    go_wp2;exact Lc (v:=.tuple #[KW 0,KW 6]) (by simp[results,results238,go_sem]) rfl ⟨rfl,aJ HB.out _⟩
   have x':Hid (dz nt (vs.drop (k+1))=re):=jD (by have h:=HD.out;rw[K6 om]at h;exact h);have C':=jD hI.out.2;clear HD;go_wp2_with fail
   try (any_goals (exfalso;omega))
   go_roundw
   case rel=>exact⟨k+1,by omega,by go_num,jD ⟨x'.out,aJ C'.out _⟩⟩
   case measure=>simp[intOf];omega
  ·have A':¬(k:Int)<(nv:Int):=by omega
   rw[Lq (by have:=s'.out;omega),dz]at hD;subst hD;have k':Hid ((if ce≠0 then (0,ce) else fG ts vs x)=R):=jD (by have h:=b'.out;rw[K6 jS]at h;exact h);obtain⟨x0,x1,x2,x3,x4,x5,x6,x7⟩:=HX.out;have D:=ab G'.out hI.out.2;replace x0:=aa D x0;replace x1:=aa D x1;replace x2:=aa D x2;replace x3:=aa D x3;replace x4:=aa D x4;replace x5:=aa D x5;replace x6:=aa D x6;replace x7:=aa D x7;have F':=K8 wr ⟨X,_,none⟩ x0;clear b' D;go_wp2_with fail;refine (h'.out _ hb).mono ?_;rintro e w4 ⟨rfl,z⟩;have m':=jD (ab hb z);replace x0:=aa z x0;replace x1:=aa z x1;replace x2:=aa z x2;replace x3:=aa z x3;replace x4:=aa z x4;replace x5:=aa z x5;replace x6:=aa z x6;replace x7:=aa z x7;have F':=K8 w4 ⟨X,_,none⟩ x0;clear z hb hI
   by_cases hc:ce=0
   case neg =>
    have I':(ce != 0)=true:=jQ hc;obtain rfl:(0,ce)=R:=by have h:=k'.out;rw[K7 hc]at h;exact h
    clear hc;go_wp2;exact Lc (v:=.tuple #[KW 0,KW ce]) (by simp[results,results238,go_sem]) rfl ⟨rfl,m'.out⟩
   subst hc;obtain⟨⟨r1,r2⟩,hr⟩:∃r,fG ts vs x=r:=⟨_,rfl⟩;rw[hr]at F;obtain rfl:(r1,r2)=R:=by have h:=k'.out;rw[K6 jS,hr]at h;exact h
   clear hr k';go_wp2_with fail;refine (F.out _ m'.out (by trivial) (by trivial)).mono ?_;unfold fR;rintro e w5 ⟨rfl,n'⟩;have u':=jD (ab m'.out n');clear n';go_wp2;exact Lc (v:=.tuple #[KW r1,KW r2]) (by simp[results,results238,go_sem]) rfl ⟨rfl,u'.out⟩
theorem Ei (d:Nat) (ts:List Sch) (vs:List Nv) (x:Ex) (vt vv vx:Value) (w:World) (hT:TypIs w ts vs vt vv) (hx:aF d w vx x.args) (hf:∀s∈ts,fM s) (hN:aM x<=1048576) :
  KZ 291 #[vt,vv,exV x vx] w (KW (qU ts vs x)):=by
 have J:=jD (fun (W:World) (hW:KY w W)=>xw d ts vs x vt vv vx W (hT.stays hW) (hx.stays (ai d) hW) hf hN);obtain⟨R,hR⟩:=jE (qU ts vs x);have D:=hR;unfold qU at D;rw[hR];obtain⟨⟨k,ke⟩,hk⟩:∃r,iv ts vs x=r:=⟨_,rfl⟩;rw[hk]at J D;have HR:=jD D;obtain⟨At,ct,rfl,-⟩:=id hT.types;obtain⟨Av,cv,rfl,-⟩:=id hT.vars;obtain⟨Ax,cx,rfl,-⟩:=id hx;obtain⟨nt,G⟩:∃n,n=ts.length:=⟨_,rfl⟩;obtain⟨nv,F⟩:∃n,n=vs.length:=⟨_,rfl⟩;obtain⟨nx,I⟩:∃n,n=x.args.length:=⟨_,rfl⟩;rw[<-G,<-F,<-I]at J ⊢;unfold exV fR at *;clear hT hx hR D hk hf hN G F I;go_enter func291,ntmps291;go_wp2_with fail;refine (J.out _ jB).mono ?_;rintro e w2 ⟨rfl,Z⟩;have O:Hid (KY w w2):=jD (ab (by exact jB) Z);clear Z
 by_cases h0:ke=0
 case neg =>
  have a':(ke != 0)=true:=jQ h0;obtain rfl:ke=R:=by have h:=HR.out;rw[K7 h0]at h;exact h
  clear h0;exact fi O.out
 subst h0;have z:=HR.out;rw[K6 jS]at z
 by_cases h1:k=1
 case neg =>
  have b':(k != 1)=true:=jQ h1;obtain rfl:9=R:=by rw[K7 h1]at z;exact z
  clear h1 z;exact fi O.out
 subst h1;obtain rfl:0=R:=by rw[K6 jS]at z;exact z
 clear z;exact fi O.out
theorem zB {n:Nat} {seen:List (List UInt8)} {l:List Nv} {k:Nat} {v:Nv} (h:l[k]?=some v):je n seen (l.drop k)=if fh (tx v.name)≠0 then fh (tx v.name) else if seen.contains (tx v.name) then 7 else if v.ty<0\/(n:Int)<=v.ty then 6 else je n (seen++[tx v.name]) (l.drop (k+1)):=by
 obtain⟨z,rfl⟩:=List.getElem?_eq_some_iff.1 h;rw[Lr z,je]
theorem GX (ts:List Sch) (vs:List Nv) (vt vv:Value) (w:World) (hL:Lx w) (hT:TypIs w ts vs vt vv) (hf:∀v∈vs,v.name.size<=1048576):KZ 290 #[vt,vv] w (KW (pU ts vs)):=by
 obtain⟨At,ct,rfl,t1,t2,-⟩:=hT.types;obtain⟨A,c,rfl,h1,h2,h'⟩:=hT.vars;have G':=ax h1 h2;have y':=ax t1 t2;have m':=jD h';have HS:=jD hf;have C':=jD hL;have N':=@run_makeMap prog;obtain⟨R,hR⟩:=jE (pU ts vs);have HR:Hid ((if 16<vs.length then 5 else je ts.length [] vs)=R):=jD hR;rw[hR];obtain⟨nt,O⟩:∃n,n=ts.length:=⟨_,rfl⟩;rw[<-O]at HR y' ⊢;clear hR h' h1 h2 hf t1 t2 hT hL O
 by_cases h8:16<vs.length
 ·have A':(16:Int)<(vs.length:Int):=by omega
  obtain rfl:5=R:=by have h:=HR.out;rw[K7 h8]at h;exact h
  clear h8;go_enter func290,ntmps290;go_wp2;go_ret;exact⟨rfl,La _ _⟩
 have A':¬(16:Int)<(vs.length:Int):=by omega
 have E':Hid (je nt [] vs=R):=jD (by have h:=HR.out;rw[K6 h8]at h;exact h);have P':vs.length<=16:=by omega
 clear HR h8;go_enter func290,ntmps290;go_wp2_with fail;refine aP fun w3 e3=>?_
 obtain⟨M,hM⟩:∃q,q=w.heap.size:=⟨_,rfl⟩;have s':Hid (HasM 9 sKv w3 M 0 []):=jD (by rw[e3,hM];exact gv _ _ w);have z':Hid (KY w w3):=jD (gb e3);have J':w.heap.size<=M:=by omega
 rw[<-hM];clear e3 hM
 go_loopw [15] (fun i wr=>∃k:Nat,k<=vs.length/\i=KW k/\Hid (HasM 9 sKv wr M k ((vs.take k).map (·.name)))/\Hid (je nt ((vs.take k).map (fun f=>tx f.name)) (vs.drop k)=R/\KY w wr)) (fun i _=>vs.length-(intOf i).toNat)
 case atStart=>exact⟨0,Lb _,rfl,s',jD ⟨E'.out,z'.out⟩⟩
 case round =>
  obtain⟨k,hk,rfl,hM,hI⟩:=hrel;have hb:=hI.out.2
  by_cases g':k<vs.length
  ·have u':(k:Int)<(vs.length:Int):=by omega
   obtain⟨b,o,rfl,d0,d1⟩:=m'.out k vs[k] (K9 g');have hg:=jD (K9 g');obtain⟨f,hf⟩:=jF (vs[k]);rw[<-hf]at hg d0 d1;have H':=HS.out f (Li hg.out);have O':b<wr.heap.size:=Ll (K8 w ⟨b,_,none⟩ d0) hb.size;replace d0:=aa hb d0;replace d1:=aa hb d1;have f':=jD (fun (W:World) (hW:KY w W)=>xf f.name.data.toList W (C'.out.stays hW) (by have:f.name.data.toList.length=f.name.size:=rfl;omega));have hD:=hI.out.1;rw[zB hg.out]at hD;obtain⟨se,e'⟩:∃q,fh (tx f.name)=q:=⟨_,rfl⟩;rw[e']at hD;have Z:Hid (∀(W:World),KY w W->KZ 164 #[.string f.name] W (KW se)):=jD fun W hW=>by
    have h:=f'.out W hW;rw[show fh f.name.data.toList=se from e']at h;exact h
   have k':Hid ((vs.take (k+1)).map (fun f=>tx f.name)=(vs.take k).map (fun f=>tx f.name)++[tx f.name]/\(vs.take (k+1)).map (·.name)=(vs.take k).map (·.name)++[f.name]):=jD ⟨by rw[aX hg.out,LH];rfl,by rw[aX hg.out,LH];rfl⟩;have l':=jD hD;have HB:=jD hb;clear hf e' hD f';go_wp2_with fail;refine aw fun w4 e4=>?_
   obtain⟨X,hX⟩:∃q,q=wr.heap.size:=⟨_,rfl⟩;have x0:KX w4 X 0 (.string f.name):=by rw[e4,hX];show _=_;go_simp
   have x1:KX w4 X 1 (KW f.ty):=by rw[e4,hX];show _=_;go_simp
   have c':KY wr w4:=gb e4;rw[<-hX];have F':X≠M:=by have:=hM.out.lt;omega
   clear e4 hX;refine (Z.out _ (ab HB.out c')).mono ?_;rintro e w6 ⟨rfl,J⟩;have x0:=aa J x0;have x1:=aa J x1;have D:=ab c' J;have G:=jD (ab HB.out D);have a':=hM.out.below D;have B':=K8 w6 ⟨X,_,none⟩ x0;clear c' J D d0 d1
   by_cases hz:se=0
   case neg =>
    have L':(se != 0)=true:=jQ hz;obtain rfl:se=R:=by have h:=l'.out;rw[K7 hz]at h;exact h
    clear hz;exact fi G.out
   subst hz;have I:=l'.out;rw[K6 jS]at I;have F:=mx (s:=f.name) (by unfold maxLen;omega);obtain⟨r,hr,r'⟩:=a'.look dR underlying165 (x:=f.name) F;have j':((vs.take k).map (fun f=>tx f.name)).contains (tx f.name)=r:=by
    have h1:=mJ (l:=(vs.take k).map (·.name)) (s:=f.name);rw[Nl]at h1;rw[LW];exact h1.trans hr.symm
   rw[j']at I;obtain⟨w5,M',i',d'⟩:=a'.store dR underlying165 ph F (by unfold maxLen;omega);have t':=jD i';have D':=jD d';have z:=jD I;have n':KX w5 X 1 (KW f.ty):=(Ln (a:=⟨X,1,none⟩) (d'.block X B' (fun e=>F' (by injection e)))).trans x1;have I':=K8 w5 ⟨X,_,none⟩ n';clear hr j' a' i' d' F Z I
   cases r with
   | true =>
    obtain rfl:7=R:=by have h:=z.out;rw[K7 rfl]at h;exact h
    exact fi G.out
   | false =>
    have b':Hid (KY w w5):=jD (G.out.trans (am D'.out G.out.size (fun g e=>by injection e with e;omega)))
    by_cases x':f.ty<0
    ·obtain rfl:6=R:=by have h:=z.out;rw[K6 jS,K7 (.inl x')]at h;exact h
     exact fi b'.out
    by_cases p':(nt:Int)<=f.ty
    ·obtain rfl:6=R:=by have h:=z.out;rw[K6 jS,K7 (.inr p')]at h;exact h
     exact fi b'.out
    have q':Hid (je nt ((vs.take k).map (fun f=>tx f.name)++[tx f.name]) (vs.drop (k+1))=R):=jD (by have h:=z.out;rw[K6 jS,K6 om]at h;exact h);clear z;go_wp2_with fail
    try (any_goals (exfalso;omega))
    refine⟨⟨k+1,by omega,by go_num,jD (by rw[k'.out.2];exact t'.out),jD ⟨by rw[k'.out.1];exact q'.out,b'.out⟩⟩,by simp[intOf];omega⟩
  ·have u':¬(k:Int)<(vs.length:Int):=by omega
   obtain rfl:0=R:=by
    have h:=hI.out.1;rw[Lq om,je]at h;exact h
   exact fi hb
def cG:List (Value × Int × Int)->Int × Int
 | []=>(0,0)
 | p::r=>if p.2.2≠0 then p.2 else cG r
theorem oA {l:List (Value × Int × Int)} {k:Nat} {p:Value × Int × Int} (h:l[k]?=some p):cG (l.drop k)=if p.2.2≠0 then p.2 else cG (l.drop (k+1)):=by
 obtain⟨z,rfl⟩:=List.getElem?_eq_some_iff.1 h;rw[Lr z,cG]
def jZ (I:World->Prop) (r:Int × Int) (e:Ending) (W:World):Prop:=e=.returned (.tuple #[KW r.1,KW r.2])/\I W
def Gm (I:World->Prop) (v:Value) (r:Int × Int):Prop:=∃(g:FuncId) (h:List Value),v=.func (.func g) #[] h.toArray/\(∀args W,(callFunc g args).run prog W=.ok (.enter g args) W)/\∀W,I W->Calls prog g h.toArray W (jZ I r)
theorem C9 (fs:List (Value × Int × Int)) (I:World->Prop) (A:Option Addr) (c:Nat) (w:World) (h0:I w) (hlen:fs.length<=100) (J:∀W W',I W->KY W W'->I W')
  (hc:∀(W:World) (k:Nat) (p:Value × Int × Int),I W->fs[k]?=some p->∃b o,A=some ⟨b,o,none⟩/\W.cell? ⟨b,o+k,none⟩=some p.1)
  (hp:∀(k:Nat) (p:Value × Int × Int),fs[k]?=some p->(∀(j:Nat) (q:Value × Int × Int),j<k->fs[j]?=some q->q.2.2=0)->Gm I p.1 p.2) :
  Calls prog 160 #[.slice A fs.length c] w (jZ I (cG fs)):=by
 obtain⟨R,hR⟩:=jE (cG fs);have HR:=jD hR;rw[hR];have HC:=jD hc;have HP:=jD hp;have c':=jD J;have b':=jD h0;have i':∀(g:Nat) (b c:Array Value) (W:World) (a:Addr),(store a (.func (.func g) b c)).run prog W=stored prog W a (.func (.func g) b c) .plain:=fun g b c W a=>run_store prog W a _ .plain rfl
 have hn:(fs.length:Int)<=9223372036854775807:=by omega
 clear hR hc hp J h0;go_enter func160,ntmps160;go_wp2_with fail
 go_loopw [10] (fun i wr=>∃k:Nat,k<=fs.length/\i=KW k/\Hid (cG (fs.drop k)=R/\(∀(j:Nat) (q:Value × Int × Int),j<k->fs[j]?=some q->q.2.2=0)/\I wr)) (fun i _=>fs.length-(intOf i).toNat)
 case atStart=>exact⟨0,Lb _,rfl,jD ⟨by rw[L1];exact HR.out,fun j q h=>by omega,b'.out⟩⟩
 case round =>
  obtain⟨k,hk,rfl,F⟩:=hrel
  by_cases f':k<fs.length
  ·have e':(k:Int)<(fs.length:Int):=by omega
   have O:=jD (K9 f');obtain⟨p,Z⟩:=jF (fs[k]);rw[<-Z]at O;obtain⟨b,o,rfl,z⟩:=HC.out wr k p F.out.2.2 O.out;obtain⟨g,h',a',eg,D⟩:=HP.out k p O.out F.out.2.1;obtain⟨pv,p1,p2⟩:=p;simp only at a' z;subst a';have g':=jD D;have G:=F.out.1;rw[oA O.out]at G;have HD:=jD G;have j':=K8 wr ⟨b,_,none⟩ z;clear Z D G;go_wp2_with fail;refine (g'.out _ (c'.out _ _ F.out.2.2 jB)).mono ?_;rintro e w2 ⟨rfl,h2⟩;have H2:=jD h2;clear h2 z
   by_cases hz:p2=0
   case neg =>
    have k':(p2 != 0)=true:=jQ hz;obtain rfl:(p1,p2)=R:=by have h:=HD.out;rw[K7 hz]at h;exact h
    clear hz;go_wp2;exact Lc (v:=.tuple #[KW p1,KW p2]) (by simp[results,results160,go_sem]) rfl ⟨rfl,H2.out⟩
   subst hz;have d':Hid (cG (fs.drop (k+1))=R):=jD (by have h:=HD.out;rw[K6 jS]at h;exact h);go_wp2_with fail
   go_roundw
   case rel=>exact⟨k+1,by omega,by go_num,jD ⟨d'.out,fun j q hj hq=>by
     rcases LY j k with h|h
     ·exact F.out.2.1 j q h hq
     ·have:j=k:=by omega
      subst this;rw[O.out]at hq
      cases hq
      rfl,H2.out⟩⟩
   case measure=>simp[intOf];omega
  ·have e':¬(k:Int)<(fs.length:Int):=by omega
   have G:=F.out.1;rw[Lq om,cG]at G;subst G;have HI:=jD F.out.2.2;clear F;go_wp2;exact Lc (v:=.tuple #[KW 0,KW 0]) (by simp[results,results160,go_sem]) rfl ⟨rfl,HI.out⟩
def JW (w:World) (v:Value) (e:Ending) (W:World):Prop:=e=.returned (.agg #[.func (.func 220) #[] #[.pointer (some ⟨w.heap.size,0,none⟩)]])/\W.cell? ⟨w.heap.size,0,none⟩=some v/\KY w W
theorem eF (g:FuncId) (h:Array Value) (w:World):Calls prog 161 #[.func (.func g) #[] h] w (JW w (.func (.func g) #[] h)):=by
 have z:∀(g:Nat) (b c:Array Value) (W:World) (a:Addr),(store a (.func (.func g) b c)).run prog W=stored prog W a (.func (.func g) b c) .plain:=fun g b c W a=>run_store prog W a _ .plain rfl
 go_enter func161,ntmps161;go_wp2;exact Lc (v:=.agg #[.func (.func 220) #[] #[.pointer (some ⟨w.heap.size,0,none⟩)]]) (by simp[results,results161,go_sem]) rfl ⟨rfl,by go_simp,jB⟩
theorem yB (I:World->Prop) (b:Nat) (v:Value) (r:Int) (D:∀W W',I W->KY W W'->I W') (O:∀W,I W->W.cell? ⟨b,0,none⟩=some v)
  (hv:∃(g:FuncId) (z:List Value),v=.func (.func g) #[] z.toArray/\(∀args W,(callFunc g args).run prog W=.ok (.enter g args) W)/\∀W,I W->Calls prog g z.toArray W fun e W'=>e=.returned (KW r)/\I W') :
  Gm I (.func (.func 220) #[] #[.pointer (some ⟨b,0,none⟩)]) (0,r):=by
 refine⟨_,[.pointer (some ⟨b,0,none⟩)],rfl,fun _ _=>rfl,fun W G=>?_⟩;have Z:=O W G;have a':=K8 W ⟨b,_,none⟩ Z;obtain⟨g,z,rfl,eg,h⟩:=hv;have F:=jD (h W G);clear D O h;show Calls prog 220 #[.pointer (some ⟨b,0,none⟩)] W (jZ I (0,r));go_enter func220,ntmps220;go_wp2_with fail;refine F.out.mono ?_;rintro e w2 ⟨rfl,J⟩;have H2:=jD J;clear J;go_wp2;exact Lc (v:=.tuple #[KW 0,KW r]) (by simp[results,results220,go_sem]) rfl ⟨rfl,H2.out⟩
end Go.Proofs.YtokconodddedhaaGreatDoor
