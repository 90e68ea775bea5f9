/- Part. -/
import Derived.Test.YtokconodddedhaaGreatDoorQ32
import Derived.Test.YtokconodddedhaaGreatDoorQ31
set_option maxRecDepth 100000
set_option maxHeartbeats 16000000
set_option linter.unusedVariables false
set_option linter.unusedSimpArgs false
namespace Go.Proofs.YtokconodddedhaaGreatDoor
open Go.Proofs.Tryz Go.RowKit
theorem Jg:∀(n:Nat) (x:Pt),ptN x<=n->∀v∈evV x,∃y∈aO x,y.op=0/\y.vr=v:=by
 intro n
 induction n with
 | zero=>intro x h;have:=dm x;omega
 | succ n I =>
  intro x h v z;have he:=dm x;rw[tZ,L0]at z;rcases z with z|z
  ·split at z
   ·next h0 =>
    rw[Lz]at z;exact⟨x,by rw[da];exact Lg ..,h0,z.symm⟩
   ·simp at z
  ·have:∀F:List Pt,aU F<=n->v∈ga F->∃y∈bG F,y.op=0/\y.vr=v:=fun F=>by
    induction F with
    | nil=>intro _ h;rw[ga]at h;simp at h
    | cons a r G =>
     intro hle h;rw[aU]at hle;rw[ga,L0]at h;rcases h with h|h
     ·obtain⟨y,hy,D⟩:=I a om v h;exact⟨y,by rw[bG];exact List.mem_append_left _ hy,D⟩
     ·obtain⟨y,hy,D⟩:=G om h;exact⟨y,by rw[bG];exact Nf _ hy,D⟩
   obtain⟨y,hy,D⟩:=this x.args om z;exact⟨y,by rw[da];exact Lh _ hy,D⟩
theorem iT {x:Pt} (h:cK x=0):ptN x<=64/\(∀y∈aO x,ptE y=0)/\∀y∈aO x,y.op<8:=by
 unfold cK at h
 by_cases D:fc x=0
 ·rw[K6 (jQ D)]at h
  by_cases F:(aO x).any (fun y=>decide (8<=y.op))=true
  ·rw[K7 F]at h;exact absurd h dc
  ·have z:=D;unfold fc at z
   by_cases I:64<ptN x
   ·rw[K7 I]at z;exact absurd z dc
   rw[K6 I]at z
   by_cases G:12<ptD x
   ·rw[K7 G]at z;exact absurd z dc
   rw[K6 G]at z;refine⟨by omega,fun y hy=>kc z _ (List.mem_map.2 ⟨y,hy,rfl⟩),fun y hy=>?_⟩;rw[NA]at F;refine Int.not_le.1 fun J=>F ⟨y,hy,jQ J⟩
 ·rw[K7 D]at h;exact absurd h D
theorem rx {y:Pt} (h:ptE y=0):0<=y.op/\gU y.op y.args.length=true/\(y.op=0->0<=y.vr/\y.vr<=15):=by
 unfold ptE at h
 by_cases G:y.op<0\/10<y.op
 ·rw[K7 G]at h;exact absurd h dc
 rw[K6 G]at h
 by_cases F:gU y.op y.args.length=false
 ·rw[K7 F]at h;exact absurd h dc
 rw[K6 F]at h
 by_cases z:(dq (bX y.op) y.ty 15 || dq (bX y.op) y.vr 15 || dq (fz y.op) y.sc 63 || dq (fB y.op) y.sp 1099511627776)=true
 ·rw[K7 z]at h;exact absurd h dc
 refine⟨by omega,jQ F,fun h0=>?_⟩;have D:dq (bX y.op) y.vr 15=false:=by
  cases I:dq (bX y.op) y.vr 15 with
  | false=>rfl
  | true=>rw[I]at z;simp at z
 rw[h0]at D;unfold dq bX at D;simp at D;omega
theorem BX {x:Pt} (h:cK x=0) (O:ptB x<=1048576):GoodP (evV x) x/\(∀y∈aO x,0<=y.op/\y.op<=7)/\∀v∈evV x,0<=v/\v<16:=by
 obtain⟨h1,D,I⟩:=iT h;refine⟨⟨fun v F=>F,fun y hy=>⟨?_,?_⟩⟩,fun y hy=>⟨(rx (D y hy)).1,by have:=I y hy;omega⟩,fun v F=>?_⟩
 ·have z:=(rx (D y hy)).2.1;have J:=(rx (D y hy)).1
  by_cases h0:y.op=0
  ·exact .inl h0
  by_cases G:y.op=2
  ·exact .inr (.inl G)
  refine .inr (.inr fun e=>?_);rw[e]at z;unfold gU at z;rw[K6 h0]at z
  split at z
  ·simp at z
  ·split at z<;>simp at z
 ·have Z:=kC x y hy;have e2:=ma y;omega
 ·obtain⟨y,hy,h0,rfl⟩:=Jg _ x (Ld _) v F;have:=(rx (D y hy)).2.2 h0;omega
def SmallN (n:Nat) (x:Pt):Prop:=n<=10/\(((evV x).length+1)^n<=1500\/(kW x=false/\n^(evV x).length<=1500))/\∀y∈aO x,y.op<=1/\pg y.cond=true
theorem SmallN.less {n m:Nat} {x:Pt} (h:SmallN n x) (hm:m<=n):SmallN m x:=by
 refine⟨by have:=h.1;omega,?_,h.2.2⟩;rcases h.2.1 with z|⟨z,h2⟩
 ·exact .inl (Lf (Nat.pow_le_pow_right om hm) z)
 ·exact .inr ⟨z,Lf (NL hm _) h2⟩
theorem DO {n v:Nat} (G:2<=n) (I:n<=10) (h:n^v<=1500):(v+1)^n<=1048576:=by
 have J:v<=10:=by
  refine Nat.le_of_not_lt fun F=>?_
  have O:2^11<=n^v:=Lf (NL G 11) (Nat.pow_le_pow_right om F);have:(2:Nat)^11=2048:=by decide
  omega
 have z:n=2\/n=3\/n=4\/n=5\/n=6\/n=7\/n=8\/n=9\/n=10:=by omega
 have D:v=0\/v=1\/v=2\/v=3\/v=4\/v=5\/v=6\/v=7\/v=8\/v=9\/v=10:=by omega
 rcases z with rfl|rfl|rfl|rfl|rfl|rfl|rfl|rfl|rfl<;>rcases D with rfl|rfl|rfl|rfl|rfl|rfl|rfl|rfl|rfl|rfl|rfl<;>first|decide|(exfalso;revert h;decide)
theorem SmallN.ok {n:Nat} {x:Pt} (h:SmallN n x) (F:(evV x).length<=64):CapP n x/\((evV x).length+1)^n<=1048576:=by
 rcases h.2.1 with D|⟨D,h2⟩
 ·exact⟨.inl om,by omega⟩
 ·by_cases z:2<=n
  ·refine⟨.inr ⟨D,z,?_⟩,DO z h.1 h2⟩;unfold fN
   split
   ·omega
   ·omega
  ·have:n=0\/n=1:=by omega
   rcases this with rfl|rfl
   ·exact⟨.inl (by rw[Nat.pow_zero];omega),by rw[Nat.pow_zero];omega⟩
   ·exact⟨.inl (by rw[Nat.pow_one];omega),by rw[Nat.pow_one];omega⟩
theorem Ai {l:List Evt} {x:Pt} (h:cK x=0) (D:ptB x<=1048576) (z:SmallN l.length x):GoodQ (evV x) l.length x/\jY (evV x) l.length/\l.length<=99:=by
 obtain⟨J,Z,O⟩:=BX h D;have F:=(iT h).1;have hv:=EY x;obtain⟨G,I⟩:=z.ok om;exact⟨⟨J,fun y hy=>⟨⟨(Z y hy).1,(z.2.2 y hy).1⟩,(z.2.2 y hy).2⟩,G⟩,⟨O,I,by have:=z.1;omega⟩,by have:=z.1;omega⟩
theorem rW (l:List Evt) (x:Pt) (d:Nat) (v vc vl:Value) (w:World) (I:Shp w) (G:aW d w v x.args) (z:aF d w vc x.cond.args) (J:bm w vl l) (D:ptB x<=1048576) (F:SmallN l.length x) :
  Calls prog 59 #[ptV x v vc,vl] w (MtsRet w l x) :=
 xD (evV x) l x d v vc vl w I G z J D fun h _=>Ai h D F
theorem MtsRet.box {w F W:World} {l:List Evt} {x:Pt} {e:Ending} (G:KY w F) (h:MtsRet F l x e W):MtsRet w l x e W:=by
 refine⟨ab G h.1,?_⟩;rcases h.2 with h|h|⟨h1,h2,v,ms,h3,h4,h5⟩
 ·exact .inl h
 ·exact .inr (.inl h)
 ·have hs:=G.size;obtain⟨⟨A,c,rfl,c1,c2,O⟩,z⟩:=h4;exact .inr (.inr ⟨h1,h2,_,ms,h3,⟨⟨A,c,rfl,c1,c2,fun k e he=>by obtain⟨b,o,J,e2,Z,I⟩:=O k e he;exact⟨b,o,J,by omega,Z,I⟩⟩,fun e he=>⟨(z e he).1,fun g D=>⟨by have:=((z e he).2 g D).1;omega,((z e he).2 g D).2⟩⟩⟩,h5⟩)
theorem mV (l:List Evt) (x:Pt) (d:Nat) (v vc vl:Value) (w:World) (hT:Shp w) (hx:aW d w v x.args) (z:aF d w vc x.cond.args) (hl:bm w vl l) (hN:ptB x<=1048576) (hS:SmallN l.length x) :
  Calls prog 21 #[ptV x v vc,vl] w (MtsRet w l x):=by
 have Z:=jD (fun (W:World) (J:KY w W)=>rW l x d v vc vl W (hT.stays J) (hx.stays (aB d) J) (z.stays (ai d) J) (hl.stays aK J) hN hS);obtain⟨Al,cl,rfl,-⟩:=hl;obtain⟨A,c,rfl,-⟩:=hx;obtain⟨Ac,cc,rfl,-⟩:=z;obtain⟨nl,D⟩:∃n,n=l.length:=⟨_,rfl⟩;obtain⟨na,G⟩:∃n,n=x.args.length:=⟨_,rfl⟩;obtain⟨nx,F⟩:∃n,n=x.cond.args.length:=⟨_,rfl⟩;rw[<-D,<-G,<-F]at Z ⊢;clear hT hN hS D G F;unfold ptV at Z ⊢;go_enter func21,ntmps21;go_wp2_with fail;refine aw fun w1 e1=>?_
 have h:KY w w1:=gb e1;clear e1;refine (Z.out _ h).mono ?_;intro e w2 I;have O:=jD (I.box h);rcases I.2 with ⟨-,rfl⟩|⟨-,-,rfl⟩|⟨-,-,v2,ms,rfl,hm,-⟩
 ·clear I h;go_wp2;exact Lc (v:=.tuple #[.slice none 0 0,KW (cK x)]) (by simp[results,results21,go_sem]) rfl O.out
 ·clear I h;go_wp2;exact Lc (v:=.tuple #[.slice none 0 0,KW (bC l)]) (by simp[results,results21,go_sem]) rfl O.out
 ·obtain⟨⟨A2,c2,rfl,-⟩,-⟩:=hm;clear I h;go_wp2;exact Lc (v:=.tuple #[.slice A2 ms.length c2,KW 0]) (by simp[results,results21,go_sem]) rfl O.out
theorem pr {x:Pt} (h:cK x=0):WfP x:=by
 obtain⟨O,J,Z⟩:=iT h;refine⟨O,fun y hy=>?_⟩;have F:=rx (J y hy);have h5:=Z y hy;refine⟨⟨F.1,by omega⟩,fun h0=>?_,fun h0=>?_⟩
 ·have z:=J y hy;unfold ptE at z
  by_cases I:y.op<0\/10<y.op
  ·rw[K7 I]at z;exact absurd z dc
  rw[K6 I,K6 (by rw[F.2.1];simp)]at z
  by_cases G:(dq (bX y.op) y.ty 15 || dq (bX y.op) y.vr 15 || dq (fz y.op) y.sc 63 || dq (fB y.op) y.sp 1099511627776)=true
  ·rw[K7 G]at z;exact absurd z dc
  ·simp only[LQ,not_or,Bool.not_eq_true]at G;have D:=G.1.1.2;unfold dq bX at D;have:decide (y.op=0\/y.op=5\/y.op=9)=true:=by simp;omega
   rw[this]at D;simp at D;omega
 ·have z:=F.2.1;unfold gU at z;rw[K6 om,K6 om,K6 om]at z
  simpa using z
theorem lF:∀(l:List (Pt × Plc)) (k:Nat),(dZ k l).2=0->dZ k l=(0,0)
 | [],k,_=>rfl
 | t::r,k,h=>by
  rw[dZ]at h ⊢
  by_cases h0:lX t≠0
  ·rw[K7 h0]at h;exact absurd h h0
  ·rw[K6 h0]at h ⊢;exact lF r _ h
def WalkS (w0:World) (bn bf:Nat) (r:Int × Int) (e:Ending) (W:World):Prop:=e=.returned (.tuple #[])/\BoxX W bn (KW r.1)/\BoxX W bf (KW r.2)/\KY w0 W
theorem Cs (w0 W:World) (bn bf d ec:Nat) (x:Pt) (v vc:Value) (hn:BoxX W bn (KW 0)) (hf:BoxX W bf (KW 0)) (f':bn≠bf) (hT:Tbl w0) (hb:KY w0 W) (h':w0.heap.size<=bn/\w0.heap.size<=bf) (hx:aW d w0 v x.args) (O:aF ec w0 vc x.cond.args) (a':WfP x) :
  Calls prog 292 #[ptV x v vc,.func (.func 293) #[] #[.pointer (some ⟨bf,0,none⟩),.pointer (some ⟨bn,0,none⟩)]] W (WalkS w0 bn bf (dZ 0 (kK mo x))):=by
 have z:=fun (bi bv be:Nat) (W9:World) (h9:EachW w0 bi bn bf bv be W9 (-1) 0 0)=>E9 w0 bi bn bf bv be hT d x mo ec 0 v vc (.slice none 0 0) (.slice none 0 0) W9 (by have h:=h9;rw[show (-1:Int)=((0:Nat):Int)-1 by decide]at h;exact h) hx O a' (by have:=a'.1;omega)
  ⟨⟨Sl.nil _ _ _ _ _ (Lb _),Sl.nil _ _ _ _ _ (Lb _)⟩,fun h=>absurd rfl h,fun h=>absurd rfl h⟩ ⟨lO,lO⟩
 have G:=lF (kK mo x) 0;have j':∀(g:Nat) (b c:Array Value) (W:World) (a:Addr),(store a (.func (.func g) b c)).run prog W=stored prog W a (.func (.func g) b c) .plain:=fun g b c W a=>run_store prog W a _ .plain rfl
 obtain⟨A,c,rfl,-⟩:=id hx;obtain⟨Ac,cc,rfl,-⟩:=id O;obtain⟨n,J⟩:=jF x.args.length;obtain⟨nc,b'⟩:∃n,n=x.cond.args.length:=⟨_,rfl⟩;obtain⟨R,hR⟩:=jF (dZ 0 (kK mo x));rw[<-J,<-b',<-hR]at z;rw[<-hR]at G;rw[<-J,<-b',<-hR];have G:=jD G;have z:=jD z;have l':=hn.lt;have m':=hf.lt;have k':=hb.size;have HB:=jD hb;have HN:=jD (And.intro hn (And.intro hf (And.intro f' h')));clear hT hx O a' J b' hR hb hn hf f' h';unfold ptV iq mo at *;go_enter func292,ntmps292;go_wp2_with fail;refine aw fun w1 e1=>?_
 obtain⟨be,Z⟩:∃q,q=W.heap.size+1+1+1:=⟨_,rfl⟩;obtain⟨bi,F⟩:∃q,q=W.heap.size+1+1:=⟨_,rfl⟩;obtain⟨bv,D⟩:∃q,q=W.heap.size+1:=⟨_,rfl⟩;have I:KY W w1:=gb e1;have g':BoxX w1 be (.func (.func 336) #[] #[.pointer (some ⟨bi,0,none⟩),.pointer (some ⟨bv,0,none⟩),.pointer (some ⟨be,0,none⟩)]):=⟨_,by rw[e1,Z,F,D];exact ap _ _ _ jS⟩;have d':BoxX w1 bi (KW (-1)):=⟨_,by rw[e1,F];exact aE (ap _ _ _ jS)⟩;have e':BoxX w1 bv (.func (.func 293) #[] #[.pointer (some ⟨bf,0,none⟩),.pointer (some ⟨bn,0,none⟩)]):=⟨_,by rw[e1,D];exact aE (aE (ap _ _ _ jS))⟩;have c':EachW w0 bi bn bf bv be w1 (-1) 0 0:=⟨ab HB.out I,d',HN.out.1.keep I,HN.out.2.1.keep I,e',g',⟨by omega,HN.out.2.2.2.1,HN.out.2.2.2.2⟩,⟨by omega,by omega,HN.out.2.2.1,by omega,by omega,by omega,by omega,by omega,by omega⟩⟩;rw[<-Z,<-F,<-D];clear e1 Z F D g' d' e' I;refine (z.out bi bv be w1 c').mono ?_;rintro e w2 (⟨hz,rfl,hE,-⟩|⟨hz,rfl,i,hE⟩)
 ·have i':=G.out hz;have HE:=jD hE;clear hE hz c';subst i';go_wp2_with fail;exact ML (Mv rfl _ _ _) rfl ⟨rfl,HE.out.node,HE.out.err,HE.out.bel⟩
 ·have HE:=jD hE;clear hE hz c';go_wp2_with fail;exact ML (Mv rfl _ _ _) rfl ⟨rfl,HE.out.node,HE.out.err,HE.out.bel⟩
def Fz (w:World) (r:Int × Int) (e:Ending) (W:World):Prop:=e=.returned (.tuple #[KW r.1,KW r.2])/\KY w W
theorem yZ (d:Nat) (x:Pt) (v vc:Value) (w:World) (hS:Shp w) (hT:Tbl w) (hx:aW d w v x.args) (I:aF d w vc x.cond.args) (hN:ptB x<=1048576) :
  Calls prog 232 #[ptV x v vc] w (Fz w (iX x)):=by
 have b':=jD (fun (W:World) (J:KY w W)=>gP d x v vc W (hS.stays J) (hx.stays (aB d) J) (I.stays (ai d) J) hN);have a':=jD (fun (h0:cK x=0) (W:World) (bn bf:Nat) (J:KY w W) (h1:BoxX W bn (KW 0)) (h2:BoxX W bf (KW 0)) (r':bn≠bf) (h3:w.heap.size<=bn/\w.heap.size<=bf)=>Cs w W bn bf d d x v vc h1 h2 r' hT J h3 hx I (pr h0));obtain⟨R,hR⟩:=jE (iX x);have HR:Hid ((if cK x≠0 then (0,cK x) else dZ 0 (kK mo x))=R):=jD hR;rw[hR];obtain⟨pe,n'⟩:∃q,cK x=q:=⟨_,rfl⟩;rw[n']at b' a' HR;obtain⟨A,c,rfl,-⟩:=id hx;obtain⟨Ac,cc,rfl,-⟩:=id I;obtain⟨n,hn⟩:=jF x.args.length;obtain⟨nc,q'⟩:∃n,n=x.cond.args.length:=⟨_,rfl⟩;rw[<-hn,<-q']at b' a' ⊢;clear hS hT hx I hN hR n' hn q';unfold ptV at *;go_enter func232,ntmps232;go_wp2_with fail;refine aw fun G D=>?_
 obtain⟨P,F⟩:∃q,q=w.heap.size:=⟨_,rfl⟩;have e':KY w G:=gb D;have p0:KX G P 0 (KW x.op):=by rw[D,F];show _=_;go_simp
 have p1:KX G P 1 (.slice A n c):=by rw[D,F];show _=_;go_simp
 have p2:KX G P 2 (KW x.ty):=by rw[D,F];show _=_;go_simp
 have p3:KX G P 3 (KW x.vr):=by rw[D,F];show _=_;go_simp
 have p4:KX G P 4 (KW x.sc):=by rw[D,F];show _=_;go_simp
 have p5:KX G P 5 (KW x.sp):=by rw[D,F];show _=_;go_simp
 have p6:KX G P 6 (KW x.cond.op):=by rw[D,F];show _=_;go_simp
 have p7:KX G P 7 (.slice Ac nc cc):=by rw[D,F];show _=_;go_simp
 have p8:KX G P 8 (KW x.cond.vr):=by rw[D,F];show _=_;go_simp
 have p9:KX G P 9 (KW x.cond.fl):=by rw[D,F];show _=_;go_simp
 have j':KX G P 10 (KW x.cond.kd):=by rw[D,F];show _=_;go_simp
 have i':KX G P 11 (KW x.cond.val.kind):=by rw[D,F];show _=_;go_simp
 have g':KX G P 12 (KW x.cond.val.num):=by rw[D,F];show _=_;go_simp
 have h':KX G P 13 (.string x.cond.val.text):=by rw[D,F];show _=_;go_simp
 rw[<-F];clear D;refine (b'.out _ e').mono ?_;rintro e w2 ⟨rfl,z⟩;have d':=jD (ab e' z);replace p0:=aa z p0;replace p1:=aa z p1;replace p2:=aa z p2;replace p3:=aa z p3;replace p4:=aa z p4;replace p5:=aa z p5;replace p6:=aa z p6;replace p7:=aa z p7;replace p8:=aa z p8;replace p9:=aa z p9;replace j':=aa z j';replace i':=aa z i';replace g':=aa z g';replace h':=aa z h';have A':=K8 w2 ⟨P,_,none⟩ p0;have z':w.heap.size<=P:=by omega
 clear e' z F
 by_cases h0:pe=0
 case neg =>
  have C':(pe != 0)=true:=jQ h0;obtain rfl:(0,pe)=R:=by have h:=HR.out;rw[K7 h0]at h;exact h
  clear h0;go_wp2;exact Lc (v:=.tuple #[KW 0,KW pe]) (by simp[results,results232,go_sem]) rfl ⟨rfl,d'.out⟩
 subst h0;obtain rfl:dZ 0 (kK mo x)=R:=by have h:=HR.out;rw[K6 jS]at h;exact h
 go_wp2_with fail;refine aw fun w3 e3=>?_
 obtain⟨bn,c'⟩:∃q,q=w2.heap.size:=⟨_,rfl⟩;obtain⟨bf,f'⟩:∃q,q=w2.heap.size+1:=⟨_,rfl⟩;have p':KY w2 w3:=gb e3;have k':BoxX w3 bn (KW 0):=⟨_,by rw[e3,c'];exact aE (ap _ _ _ jS)⟩;have m':BoxX w3 bf (KW 0):=⟨_,by rw[e3,f'];exact ap _ _ _ jS⟩;rw[<-f',<-c'];have B':=d'.out.size;have y':bn≠bf:=by omega
 have t':w.heap.size<=bn/\w.heap.size<=bf:=by omega
 clear e3 c' f' p0 p1 p2 p3 p4 p5 p6 p7 p8 p9 j' i' g' h';refine (a'.out (by trivial) w3 bn bf (ab d'.out p') k' m' y' t').mono ?_;rintro e w4 ⟨rfl,Z,O,l'⟩;obtain⟨⟨r1,r2⟩,hr⟩:∃r,r=dZ 0 (kK mo x):=⟨_,rfl⟩;rw[<-hr]at Z O ⊢;have n0:=Z.cell;have n1:=Z.lt;have f0:=O.cell;have f1:=O.lt;have u':=jD l';have s':=jD hr;clear hr Z O l' k' m' p';go_wp2_with fail;refine rgn (fun WW:World=>KY w4 WW/\KX WW bn 0 (KW r1)/\KX WW bf 0 (KW r2)) (Below w4.heap.size w4) (fun WW J=>⟨J,aa J n0,aa J f0⟩) ((La _ _).drew) (fun D' x'=>?_);refine tkH [0,1,2,3] ?_;refine wpAnyH_done kr (NoPanic.normal ?_) _;rotate_left 1;go_wp2;exact Lc (v:=.tuple #[KW r1,KW r2]) (by simp[results,results232,go_sem]) rfl ⟨by rw[<-s'.out],u'.out.drew⟩
theorem ux {K:World->Prop} {w:World} {o:Obj} (h:∀w',KY w w'->w'.heap[w.heap.size]?=some o->K w'):K (w.alloc o):=h _ (aJ (La _ _) _) (Mp w o)
theorem pM {K:World->Prop} {w:World} {o:Obj} (h:∀w',KY w w'->w'.heap[w.heap.size]?=some o->K w'):K (w.alloc o).drew:=h _ (aJ (La _ _) _).drew (Mp w o)
theorem ff {w:World} {z:Nat} {v:Value} {l:List Int} (h:bD w v l) (F:∀g,v.ownBlock=some g->g≠z) (Z a1 a2:Value):bD (((w.setCell ⟨z,0,none⟩ Z).setCell ⟨z,1,none⟩ a1).setCell ⟨z,2,none⟩ a2) v l:=by
 obtain⟨A,c,rfl,O,h2,I⟩:=h;refine⟨A,c,rfl,O,h2,fun k x G=>?_⟩;obtain⟨b,o,rfl,D⟩:=I k x G;refine⟨b,o,rfl,?_⟩;have J:b≠z:=F b rfl;unfold mW at *;rw[LL]at D ⊢
 go_simp
theorem fq {F w:World} {z:Nat} {v:Value} {l:List Int} (h:bD F v l) (hb:KY F w) (hz:F.heap.size<=z) (a0 a1 a2:Value):bD (((w.setCell ⟨z,0,none⟩ a0).setCell ⟨z,1,none⟩ a1).setCell ⟨z,2,none⟩ a2) v l:=by
 obtain⟨A,c,rfl,Z,h2,J⟩:=h;refine⟨A,c,rfl,Z,h2,fun k x I=>?_⟩;obtain⟨b,o,rfl,D⟩:=J k x I;refine⟨b,o,rfl,?_⟩;unfold mW at *;have G:=K8 F ⟨b,_,none⟩ D;have O:b≠z:=by simp only at G;omega
 replace D:=aa hb D;rw[LL]at D ⊢
 go_simp
theorem zh {k:Nat} {s:Plc} {l:List Ex} {j:Nat} {x:Ex} (h:l[j]?=some x):jj k s (l.drop j)=if fJ x≠0 then ((k:Int),fJ x) else if eb s x≠0 then ((k:Int),eb s x) else jj (k+1) s (l.drop (j+1)):=by
 obtain⟨z,rfl⟩:=List.getElem?_eq_some_iff.1 h;rw[Lr z,jj]
theorem uC (d:Nat) (x:Pt) (l:List Ex) (v vc vl:Value) (w:World) (hS:Shp w) (hT:Tbl w) (hx:aW d w v x.args) (B':aF d w vc x.cond.args) (hl:aF d w vl l) (hN:ptB x<=1048576) (P0:∀y∈l,aM y<=1048576) :
  Calls prog 240 #[ptV x v vc,vl] w (Fz w (rF x l)):=by
 have I':=jD (fun (W:World) (hW:KY w W)=>gP d x v vc W (hS.stays hW) (hx.stays (aB d) hW) (B'.stays (ai d) hW) hN);have x':=jD (fun (h0:cK x=0) (W:World) (hW:KY w W)=>kq d x v vc W (hx.stays (aB d) hW) (B'.stays (ai d) hW) (pr h0).1 (fun y hy h=>((pr h0).okV y hy).2 h));have y':=jD (fun (h0:cK x=0) (W:World) (hW:KY w W)=>ru d x d v vc W (hT.stays hW) (hx.stays (aB d) hW) (B'.stays (ai d) hW) (pr h0).okV);have U1:=jD P0;obtain⟨R,hR⟩:=jE (rF x l);have HR:Hid ((if cK x≠0 then (0,cK x) else if 256<l.length then (0,5) else jj 0 ⟨bB x,aS x,-1⟩ l)=R):=jD hR;rw[hR];obtain⟨pe,V0⟩:∃q,cK x=q:=⟨_,rfl⟩;rw[V0]at I' x' y' HR;obtain⟨A,c,rfl,-⟩:=id hx;obtain⟨Ac,cc,rfl,-⟩:=id B';obtain⟨Al,cl,rfl,l1,l2,M1⟩:=id hl;have W1:=ax l1 l2;have V1:=jD M1;obtain⟨n,hn⟩:=jF x.args.length;obtain⟨nc,K1⟩:∃n,n=x.cond.args.length:=⟨_,rfl⟩;obtain⟨nl,A'⟩:∃n,n=l.length:=⟨_,rfl⟩;have P':=jD A';rw[<-hn,<-K1]at I' x' y' ⊢;rw[<-A']at HR W1 ⊢;clear hS hT hx B' hN hR V0 hn K1 hl l1 l2 M1 P0 A';unfold ptV at *;go_enter func240,ntmps240;go_wp2_with fail;refine aw fun w1 e1=>?_
 obtain⟨P,hP⟩:∃q,q=w.heap.size:=⟨_,rfl⟩;have V':KY w w1:=gb e1;have p0:KX w1 P 0 (KW x.op):=by rw[e1,hP];show _=_;go_simp
 have p1:KX w1 P 1 (.slice A n c):=by rw[e1,hP];show _=_;go_simp
 have p2:KX w1 P 2 (KW x.ty):=by rw[e1,hP];show _=_;go_simp
 have p3:KX w1 P 3 (KW x.vr):=by rw[e1,hP];show _=_;go_simp
 have p4:KX w1 P 4 (KW x.sc):=by rw[e1,hP];show _=_;go_simp
 have p5:KX w1 P 5 (KW x.sp):=by rw[e1,hP];show _=_;go_simp
 have p6:KX w1 P 6 (KW x.cond.op):=by rw[e1,hP];show _=_;go_simp
 have p7:KX w1 P 7 (.slice Ac nc cc):=by rw[e1,hP];show _=_;go_simp
 have p8:KX w1 P 8 (KW x.cond.vr):=by rw[e1,hP];show _=_;go_simp
 have p9:KX w1 P 9 (KW x.cond.fl):=by rw[e1,hP];show _=_;go_simp
 have O':KX w1 P 10 (KW x.cond.kd):=by rw[e1,hP];show _=_;go_simp
 have M':KX w1 P 11 (KW x.cond.val.kind):=by rw[e1,hP];show _=_;go_simp
 have J':KX w1 P 12 (KW x.cond.val.num):=by rw[e1,hP];show _=_;go_simp
 have L':KX w1 P 13 (.string x.cond.val.text):=by rw[e1,hP];show _=_;go_simp
 rw[<-hP];clear e1;refine (I'.out _ V').mono ?_;rintro e O ⟨rfl,c'⟩;have z':=jD (ab V' c');replace p0:=aa c' p0;replace p1:=aa c' p1;replace p2:=aa c' p2;replace p3:=aa c' p3;replace p4:=aa c' p4;replace p5:=aa c' p5;replace p6:=aa c' p6;replace p7:=aa c' p7;replace p8:=aa c' p8;replace p9:=aa c' p9;replace O':=aa c' O';replace M':=aa c' M';replace J':=aa c' J';replace L':=aa c' L';have O2:=K8 O ⟨P,_,none⟩ p0;have E2:w.heap.size<=P:=by omega
 clear V' c' hP
 by_cases h0:pe=0
 case neg =>
  have R2:(pe != 0)=true:=jQ h0;obtain rfl:(0,pe)=R:=by have h:=HR.out;rw[K7 h0]at h;exact h
  clear h0;go_wp2;exact Lc (v:=.tuple #[KW 0,KW pe]) (by simp[results,results240,go_sem]) rfl ⟨rfl,z'.out⟩
 subst h0;have T':Hid ((if 256<nl then (0,5) else jj 0 ⟨bB x,aS x,-1⟩ l)=R):=jD (by have h:=HR.out;rw[K6 jS]at h;exact h);clear HR
 by_cases h5:256<nl
 ·have Z1:(256:Int)<(nl:Int):=by omega
  obtain rfl:(0,5)=R:=by have h:=T'.out;rw[K7 h5]at h;exact h
  clear h5;go_wp2;exact Lc (v:=.tuple #[KW 0,KW 5]) (by simp[results,results240,go_sem]) rfl ⟨rfl,z'.out⟩
 have Z1:¬(256:Int)<(nl:Int):=by omega
 have Z0:Hid (jj 0 ⟨bB x,aS x,-1⟩ l=R):=jD (by have h:=T'.out;rw[K6 h5]at h;exact h);have S0:=jD (fun (W:World) (hW:KY O W)=>x'.out (by trivial) W (ab z'.out hW));have K0:=jD (fun (W:World) (hW:KY O W)=>y'.out (by trivial) W (ab z'.out hW));clear T' h5 x' y' I';go_wp2_with fail;have k':∀WW,KY O WW->(fun WW:World=>KY O WW/\KX WW P 0 (KW x.op)/\KX WW P 1 (.slice A n c)/\KX WW P 2 (KW x.ty)/\KX WW P 3 (KW x.vr)/\KX WW P 4 (KW x.sc)/\KX WW P 5 (KW x.sp)/\KX WW P 6 (KW x.cond.op)/\KX WW P 7 (.slice Ac nc cc)/\KX WW P 8 (KW x.cond.vr)/\KX WW P 9 (KW x.cond.fl)/\KX WW P 10 (KW x.cond.kd)/\KX WW P 11 (KW x.cond.val.kind)/\KX WW P 12 (KW x.cond.val.num)/\KX WW P 13 (.string x.cond.val.text)) WW:=fun WW hW=>⟨hW,aa hW p0,aa hW p1,aa hW p2,aa hW p3,aa hW p4,aa hW p5,aa hW p6,aa hW p7,aa hW p8,aa hW p9,aa hW O',aa hW M',aa hW J',aa hW L'⟩
 refine wp_region_noPanic ?_;refine di ((fun WW:World=>KY O WW/\WW.cell? ⟨P,0,none⟩=some (KW x.op)/\WW.cell? ⟨P,1,none⟩=some (.slice A n c)/\WW.cell? ⟨P,2,none⟩=some (KW x.ty)/\WW.cell? ⟨P,3,none⟩=some (KW x.vr)/\WW.cell? ⟨P,4,none⟩=some (KW x.sc)/\WW.cell? ⟨P,5,none⟩=some (KW x.sp)/\WW.cell? ⟨P,6,none⟩=some (KW x.cond.op)/\WW.cell? ⟨P,7,none⟩=some (.slice Ac nc cc)/\WW.cell? ⟨P,8,none⟩=some (KW x.cond.vr)/\WW.cell? ⟨P,9,none⟩=some (KW x.cond.fl)/\WW.cell? ⟨P,10,none⟩=some (KW x.cond.kd)/\WW.cell? ⟨P,11,none⟩=some (KW x.cond.val.kind)/\WW.cell? ⟨P,12,none⟩=some (KW x.cond.val.num)/\WW.cell? ⟨P,13,none⟩=some (.string x.cond.val.text))) 6 kr (k' _ (La _ _).drew) (fun D=>?_);refine tkP [0,2] ?_;refine ft (rs:=[1,5]) kr jS kr ?_;refine AllReadyP.cons rfl (fun K hK=>?_) ?_
 (go_simp;refine (S0.out _ D.1).mono ?_;rintro e w4 ⟨u4,rfl,t',G',l'⟩;have D':KY O w4:=ab D.1 l';have i':=jD t';have N':=jD G';obtain⟨A4,c4,rfl,-⟩:=id t';clear t' G')
 refine hK.out _ _ (k' _ D') (fun D=>?_);clear hK K
 try simp only[Act.put,Lw,Lj,Lk]
 refine ft (rs:=[3,5]) kr jS kr ?_;refine AllReadyP.cons rfl (fun K hK=>?_) ?_
 (go_simp;refine (K0.out _ D.1).mono ?_;rintro e w5 ⟨u5,rfl,e',s',I⟩;have p':KY O w5:=ab D.1 I;have f':=jD e';have q':=jD s';obtain⟨A5,c5,rfl,-⟩:=id e';clear e' s')
 refine hK.out _ _ (k' _ p') (fun D=>?_);clear hK K
 try simp only[Act.put,Lw,Lj,Lk]
 refine tkP [4] ?_;refine nxP 5 (fun K hK=>?_)
 (go_simp;(first|(refine ux fun w9 J F=>?_)|(refine pM fun w9 J F=>?_));have n':KY O w9:=(by first|exact ab D.1 J|exact J);first|(obtain⟨Z,hZ⟩:∃q,q=w5.heap.size:=⟨_,rfl⟩;have G:O.heap.size<=Z:=(by have h:=(show KY O w5 from D.1).size;omega);have r':Z<w9.heap.size:=(by have h:=(Array.getElem?_eq_some_iff.1 F).1;omega);rw[<-hZ]at F ⊢;have a':=jD F;have b':=jD hZ;clear F hZ)|(obtain⟨Z,hZ⟩:∃q,q=w4.heap.size:=⟨_,rfl⟩;have G:O.heap.size<=Z:=(by have h:=(show KY O w4 from D.1).size;omega);have r':Z<w9.heap.size:=(by have h:=(Array.getElem?_eq_some_iff.1 F).1;omega);rw[<-hZ]at F ⊢;have a':=jD F;have b':=jD hZ;clear F hZ)|((try simp only[MO]at F J ⊢);(obtain⟨Z,hZ⟩:∃q,q=O.heap.size:=⟨_,rfl⟩;have G:O.heap.size<=Z:=(by have h:=Ld 0;omega);have r':Z<w9.heap.size:=(by have h:=(Array.getElem?_eq_some_iff.1 F).1;omega);rw[<-hZ]at F ⊢;have a':=jD F;have b':=jD hZ;clear F hZ)))
 refine hK.out _ _ (k' _ n') (fun D=>?_);clear hK K;refine dD (fuel:=0) (L:=(true::true::true::true::true::true::true::[]).toArray) rfl kr kr kr kr kr (fun K hK=>?_)
 first|(have z:=ao I (ao l' a'.out);have z0:=af z 0;have z1:=af z 1;have z2:=af z 2;simp only[LE,LC]at z0 z1 z2;have g0:=aq z 0;have g1:=aq z 1;have g2:=aq z 2;have m':=aD z;have HQ:=jD (du z (.slice A4 (bB x).length c4) (.slice A5 (aS x).length c5) (KW (-1)));have h':Hid (PlcIs (((w5.setCell ⟨Z,0,none⟩ (.slice A4 (bB x).length c4)).setCell ⟨Z,1,none⟩ (.slice A5 (aS x).length c5)).setCell ⟨Z,2,none⟩ (.int .i64 (-1))) ⟨bB x,aS x,-1⟩ (.slice A4 (bB x).length c4) (.slice A5 (aS x).length c5)):=jD ⟨ff (i'.out.stays aL I) (fun g h=>by have:=N'.out g h;omega) _ _ _,ff f'.out (fun g h=>by have:=q'.out g h;have:=l'.size;omega) _ _ _⟩;have j':Hid (KY O (((w5.setCell ⟨Z,0,none⟩ (.slice A4 (bB x).length c4)).setCell ⟨Z,1,none⟩ (.slice A5 (aS x).length c5)).setCell ⟨Z,2,none⟩ (.int .i64 (-1)))):=jD (aA (aA (aA D.1 G _) G _) G _);clear z;go_simp)|(have z:=ao I a'.out;have z0:=af z 0;have z1:=af z 1;have z2:=af z 2;simp only[LE,LC]at z0 z1 z2;have g0:=aq z 0;have g1:=aq z 1;have g2:=aq z 2;have m':=aD z;have HQ:=jD (du z (.slice A4 (bB x).length c4) (.slice A5 (aS x).length c5) (KW (-1)));have h':Hid (PlcIs (((w5.setCell ⟨Z,0,none⟩ (.slice A4 (bB x).length c4)).setCell ⟨Z,1,none⟩ (.slice A5 (aS x).length c5)).setCell ⟨Z,2,none⟩ (.int .i64 (-1))) ⟨bB x,aS x,-1⟩ (.slice A4 (bB x).length c4) (.slice A5 (aS x).length c5)):=jD ⟨fq i'.out (ab J I) (by have:=b'.out;omega) _ _ _,ff f'.out (fun g h=>by have:=q'.out g h;omega) _ _ _⟩;have j':Hid (KY O (((w5.setCell ⟨Z,0,none⟩ (.slice A4 (bB x).length c4)).setCell ⟨Z,1,none⟩ (.slice A5 (aS x).length c5)).setCell ⟨Z,2,none⟩ (.int .i64 (-1)))):=jD (aA (aA (aA D.1 G _) G _) G _);clear z;go_simp)|(have z:=a'.out;have z0:=af z 0;have z1:=af z 1;have z2:=af z 2;simp only[LE,LC]at z0 z1 z2;have g0:=aq z 0;have g1:=aq z 1;have g2:=aq z 2;have m':=aD z;have HQ:=jD (du z (.slice A4 (bB x).length c4) (.slice A5 (aS x).length c5) (KW (-1)));have h':Hid (PlcIs (((w9.setCell ⟨Z,0,none⟩ (.slice A4 (bB x).length c4)).setCell ⟨Z,1,none⟩ (.slice A5 (aS x).length c5)).setCell ⟨Z,2,none⟩ (.int .i64 (-1))) ⟨bB x,aS x,-1⟩ (.slice A4 (bB x).length c4) (.slice A5 (aS x).length c5)):=jD ⟨fq i'.out (ab I J) (by have:=b'.out;have:=I.size;omega) _ _ _,fq f'.out J (by have:=b'.out;omega) _ _ _⟩;have j':Hid (KY O (((w9.setCell ⟨Z,0,none⟩ (.slice A4 (bB x).length c4)).setCell ⟨Z,1,none⟩ (.slice A5 (aS x).length c5)).setCell ⟨Z,2,none⟩ (.int .i64 (-1)))):=jD (aA (aA (aA D.1 G _) G _) G _);clear z;go_simp)
 refine hK.out _ _ ?_;clear hK K;refine⟨by kernel_rfl,NoPanic.normal ?_⟩;rotate_left 1;refine AllReadyP.cons rfl (fun K hK=>?_) ?_
 (go_simp;(first|(refine ux fun w9 J F=>?_)|(refine pM fun w9 J F=>?_));have n':KY O w9:=(by first|exact ab D.1 J|exact J);first|(obtain⟨Z,hZ⟩:∃q,q=w5.heap.size:=⟨_,rfl⟩;have G:O.heap.size<=Z:=(by have h:=(show KY O w5 from D.1).size;omega);have r':Z<w9.heap.size:=(by have h:=(Array.getElem?_eq_some_iff.1 F).1;omega);rw[<-hZ]at F ⊢;have a':=jD F;have b':=jD hZ;clear F hZ)|(obtain⟨Z,hZ⟩:∃q,q=w4.heap.size:=⟨_,rfl⟩;have G:O.heap.size<=Z:=(by have h:=(show KY O w4 from D.1).size;omega);have r':Z<w9.heap.size:=(by have h:=(Array.getElem?_eq_some_iff.1 F).1;omega);rw[<-hZ]at F ⊢;have a':=jD F;have b':=jD hZ;clear F hZ)|((try simp only[MO]at F J ⊢);(obtain⟨Z,hZ⟩:∃q,q=O.heap.size:=⟨_,rfl⟩;have G:O.heap.size<=Z:=(by have h:=Ld 0;omega);have r':Z<w9.heap.size:=(by have h:=(Array.getElem?_eq_some_iff.1 F).1;omega);rw[<-hZ]at F ⊢;have a':=jD F;have b':=jD hZ;clear F hZ)))
 refine hK.out _ _ (k' _ n') (fun D=>?_);clear hK K
 try simp only[Act.put,Lw,Lj,Lk]
 refine nxP 3 (fun K hK=>?_)
 (go_simp;refine (K0.out _ D.1).mono ?_;rintro e w5 ⟨u5,rfl,e',s',I⟩;have p':KY O w5:=ab D.1 I;have f':=jD e';have q':=jD s';obtain⟨A5,c5,rfl,-⟩:=id e';clear e' s')
 refine hK.out _ _ (k' _ p') (fun D=>?_);clear hK K;refine tkP [4] ?_;refine dD (fuel:=0) (L:=(true::true::true::true::true::true::true::[]).toArray) rfl kr kr kr kr kr (fun K hK=>?_)
 first|(have z:=ao I (ao l' a'.out);have z0:=af z 0;have z1:=af z 1;have z2:=af z 2;simp only[LE,LC]at z0 z1 z2;have g0:=aq z 0;have g1:=aq z 1;have g2:=aq z 2;have m':=aD z;have HQ:=jD (du z (.slice A4 (bB x).length c4) (.slice A5 (aS x).length c5) (KW (-1)));have h':Hid (PlcIs (((w5.setCell ⟨Z,0,none⟩ (.slice A4 (bB x).length c4)).setCell ⟨Z,1,none⟩ (.slice A5 (aS x).length c5)).setCell ⟨Z,2,none⟩ (.int .i64 (-1))) ⟨bB x,aS x,-1⟩ (.slice A4 (bB x).length c4) (.slice A5 (aS x).length c5)):=jD ⟨ff (i'.out.stays aL I) (fun g h=>by have:=N'.out g h;omega) _ _ _,ff f'.out (fun g h=>by have:=q'.out g h;have:=l'.size;omega) _ _ _⟩;have j':Hid (KY O (((w5.setCell ⟨Z,0,none⟩ (.slice A4 (bB x).length c4)).setCell ⟨Z,1,none⟩ (.slice A5 (aS x).length c5)).setCell ⟨Z,2,none⟩ (.int .i64 (-1)))):=jD (aA (aA (aA D.1 G _) G _) G _);clear z;go_simp)|(have z:=ao I a'.out;have z0:=af z 0;have z1:=af z 1;have z2:=af z 2;simp only[LE,LC]at z0 z1 z2;have g0:=aq z 0;have g1:=aq z 1;have g2:=aq z 2;have m':=aD z;have HQ:=jD (du z (.slice A4 (bB x).length c4) (.slice A5 (aS x).length c5) (KW (-1)));have h':Hid (PlcIs (((w5.setCell ⟨Z,0,none⟩ (.slice A4 (bB x).length c4)).setCell ⟨Z,1,none⟩ (.slice A5 (aS x).length c5)).setCell ⟨Z,2,none⟩ (.int .i64 (-1))) ⟨bB x,aS x,-1⟩ (.slice A4 (bB x).length c4) (.slice A5 (aS x).length c5)):=jD ⟨fq i'.out (ab J I) (by have:=b'.out;omega) _ _ _,ff f'.out (fun g h=>by have:=q'.out g h;omega) _ _ _⟩;have j':Hid (KY O (((w5.setCell ⟨Z,0,none⟩ (.slice A4 (bB x).length c4)).setCell ⟨Z,1,none⟩ (.slice A5 (aS x).length c5)).setCell ⟨Z,2,none⟩ (.int .i64 (-1)))):=jD (aA (aA (aA D.1 G _) G _) G _);clear z;go_simp)|(have z:=a'.out;have z0:=af z 0;have z1:=af z 1;have z2:=af z 2;simp only[LE,LC]at z0 z1 z2;have g0:=aq z 0;have g1:=aq z 1;have g2:=aq z 2;have m':=aD z;have HQ:=jD (du z (.slice A4 (bB x).length c4) (.slice A5 (aS x).length c5) (KW (-1)));have h':Hid (PlcIs (((w9.setCell ⟨Z,0,none⟩ (.slice A4 (bB x).length c4)).setCell ⟨Z,1,none⟩ (.slice A5 (aS x).length c5)).setCell ⟨Z,2,none⟩ (.int .i64 (-1))) ⟨bB x,aS x,-1⟩ (.slice A4 (bB x).length c4) (.slice A5 (aS x).length c5)):=jD ⟨fq i'.out (ab I J) (by have:=b'.out;have:=I.size;omega) _ _ _,fq f'.out J (by have:=b'.out;omega) _ _ _⟩;have j':Hid (KY O (((w9.setCell ⟨Z,0,none⟩ (.slice A4 (bB x).length c4)).setCell ⟨Z,1,none⟩ (.slice A5 (aS x).length c5)).setCell ⟨Z,2,none⟩ (.int .i64 (-1)))):=jD (aA (aA (aA D.1 G _) G _) G _);clear z;go_simp)
 refine hK.out _ _ ?_;clear hK K;refine⟨by kernel_rfl,NoPanic.normal ?_⟩;rotate_left 1;exact AllReadyP.nil;refine AllReadyP.cons rfl (fun K hK=>?_) ?_
 (go_simp;(first|(refine ux fun w9 J F=>?_)|(refine pM fun w9 J F=>?_));have n':KY O w9:=(by first|exact ab D.1 J|exact J);first|(obtain⟨Z,hZ⟩:∃q,q=w5.heap.size:=⟨_,rfl⟩;have G:O.heap.size<=Z:=(by have h:=(show KY O w5 from D.1).size;omega);have r':Z<w9.heap.size:=(by have h:=(Array.getElem?_eq_some_iff.1 F).1;omega);rw[<-hZ]at F ⊢;have a':=jD F;have b':=jD hZ;clear F hZ)|(obtain⟨Z,hZ⟩:∃q,q=w4.heap.size:=⟨_,rfl⟩;have G:O.heap.size<=Z:=(by have h:=(show KY O w4 from D.1).size;omega);have r':Z<w9.heap.size:=(by have h:=(Array.getElem?_eq_some_iff.1 F).1;omega);rw[<-hZ]at F ⊢;have a':=jD F;have b':=jD hZ;clear F hZ)|((try simp only[MO]at F J ⊢);(obtain⟨Z,hZ⟩:∃q,q=O.heap.size:=⟨_,rfl⟩;have G:O.heap.size<=Z:=(by have h:=Ld 0;omega);have r':Z<w9.heap.size:=(by have h:=(Array.getElem?_eq_some_iff.1 F).1;omega);rw[<-hZ]at F ⊢;have a':=jD F;have b':=jD hZ;clear F hZ)))
 refine hK.out _ _ (k' _ n') (fun D=>?_);clear hK K
 try simp only[Act.put,Lw,Lj,Lk]
 refine nxP 1 (fun K hK=>?_)
 (go_simp;refine (S0.out _ D.1).mono ?_;rintro e w4 ⟨u4,rfl,t',G',l'⟩;have D':KY O w4:=ab D.1 l';have i':=jD t';have N':=jD G';obtain⟨A4,c4,rfl,-⟩:=id t';clear t' G')
 refine hK.out _ _ (k' _ D') (fun D=>?_);clear hK K;refine nxP 3 (fun K hK=>?_)
 (go_simp;refine (K0.out _ D.1).mono ?_;rintro e w5 ⟨u5,rfl,e',s',I⟩;have p':KY O w5:=ab D.1 I;have f':=jD e';have q':=jD s';obtain⟨A5,c5,rfl,-⟩:=id e';clear e' s')
 refine hK.out _ _ (k' _ p') (fun D=>?_);clear hK K;refine tkP [4] ?_;refine dD (fuel:=0) (L:=(true::true::true::true::true::true::true::[]).toArray) rfl kr kr kr kr kr (fun K hK=>?_)
 first|(have z:=ao I (ao l' a'.out);have z0:=af z 0;have z1:=af z 1;have z2:=af z 2;simp only[LE,LC]at z0 z1 z2;have g0:=aq z 0;have g1:=aq z 1;have g2:=aq z 2;have m':=aD z;have HQ:=jD (du z (.slice A4 (bB x).length c4) (.slice A5 (aS x).length c5) (KW (-1)));have h':Hid (PlcIs (((w5.setCell ⟨Z,0,none⟩ (.slice A4 (bB x).length c4)).setCell ⟨Z,1,none⟩ (.slice A5 (aS x).length c5)).setCell ⟨Z,2,none⟩ (.int .i64 (-1))) ⟨bB x,aS x,-1⟩ (.slice A4 (bB x).length c4) (.slice A5 (aS x).length c5)):=jD ⟨ff (i'.out.stays aL I) (fun g h=>by have:=N'.out g h;omega) _ _ _,ff f'.out (fun g h=>by have:=q'.out g h;have:=l'.size;omega) _ _ _⟩;have j':Hid (KY O (((w5.setCell ⟨Z,0,none⟩ (.slice A4 (bB x).length c4)).setCell ⟨Z,1,none⟩ (.slice A5 (aS x).length c5)).setCell ⟨Z,2,none⟩ (.int .i64 (-1)))):=jD (aA (aA (aA D.1 G _) G _) G _);clear z;go_simp)|(have z:=ao I a'.out;have z0:=af z 0;have z1:=af z 1;have z2:=af z 2;simp only[LE,LC]at z0 z1 z2;have g0:=aq z 0;have g1:=aq z 1;have g2:=aq z 2;have m':=aD z;have HQ:=jD (du z (.slice A4 (bB x).length c4) (.slice A5 (aS x).length c5) (KW (-1)));have h':Hid (PlcIs (((w5.setCell ⟨Z,0,none⟩ (.slice A4 (bB x).length c4)).setCell ⟨Z,1,none⟩ (.slice A5 (aS x).length c5)).setCell ⟨Z,2,none⟩ (.int .i64 (-1))) ⟨bB x,aS x,-1⟩ (.slice A4 (bB x).length c4) (.slice A5 (aS x).length c5)):=jD ⟨fq i'.out (ab J I) (by have:=b'.out;omega) _ _ _,ff f'.out (fun g h=>by have:=q'.out g h;omega) _ _ _⟩;have j':Hid (KY O (((w5.setCell ⟨Z,0,none⟩ (.slice A4 (bB x).length c4)).setCell ⟨Z,1,none⟩ (.slice A5 (aS x).length c5)).setCell ⟨Z,2,none⟩ (.int .i64 (-1)))):=jD (aA (aA (aA D.1 G _) G _) G _);clear z;go_simp)|(have z:=a'.out;have z0:=af z 0;have z1:=af z 1;have z2:=af z 2;simp only[LE,LC]at z0 z1 z2;have g0:=aq z 0;have g1:=aq z 1;have g2:=aq z 2;have m':=aD z;have HQ:=jD (du z (.slice A4 (bB x).length c4) (.slice A5 (aS x).length c5) (KW (-1)));have h':Hid (PlcIs (((w9.setCell ⟨Z,0,none⟩ (.slice A4 (bB x).length c4)).setCell ⟨Z,1,none⟩ (.slice A5 (aS x).length c5)).setCell ⟨Z,2,none⟩ (.int .i64 (-1))) ⟨bB x,aS x,-1⟩ (.slice A4 (bB x).length c4) (.slice A5 (aS x).length c5)):=jD ⟨fq i'.out (ab I J) (by have:=b'.out;have:=I.size;omega) _ _ _,fq f'.out J (by have:=b'.out;omega) _ _ _⟩;have j':Hid (KY O (((w9.setCell ⟨Z,0,none⟩ (.slice A4 (bB x).length c4)).setCell ⟨Z,1,none⟩ (.slice A5 (aS x).length c5)).setCell ⟨Z,2,none⟩ (.int .i64 (-1)))):=jD (aA (aA (aA D.1 G _) G _) G _);clear z;go_simp)
 refine hK.out _ _ ?_;clear hK K;refine⟨by kernel_rfl,NoPanic.normal ?_⟩;rotate_left 1;exact AllReadyP.nil
 all_goals
  refine tR (Q:=Exit.then _ _) fun Q1 X0=>?_
  have H':=HQ.out;have C':=h'.out;have E':=j'.out;rw[<-X0]at H' C' E';have T0:=jD H';have S':=jD C';have u':=jD (ab z'.out E');obtain⟨nb,Q0⟩:∃n,n=(bB x).length:=⟨_,rfl⟩;obtain⟨no,Y0⟩:∃n,n=(aS x).length:=⟨_,rfl⟩;rw[<-Q0,<-Y0]at T0 S' ⊢;obtain⟨s,hs⟩:∃s:Plc,s=⟨bB x,aS x,-1⟩:=⟨_,rfl⟩;have R0:s.fb=-1:=by rw[hs]
  rw[<-hs]at S' Z0;have A2:=jD R0;clear H' C' E' HQ h' j' X0 Q0 Y0 hs R0 z0 z1 z2 g0 g1 g2 m' D k' p0 p1 p2 p3 p4 p5 p6 p7 p8 p9 O' M' J' L';go_wp2_with fail
  go_loopw [26] (fun i wr=>∃k:Nat,k<=nl/\i=KW k/\Hid (jj k s (l.drop k)=R/\KY Q1 wr)) (fun i _=>nl-(intOf i).toNat)
  case atStart=>exact⟨0,Lb _,rfl,jD ⟨by rw[L1];exact Z0.out,La _ _⟩⟩
  case round =>
   obtain⟨k,hk,rfl,hI⟩:=hrel;have hb:=hI.out.2;have hD:=hI.out.1
   by_cases N2:k<nl
   ·have T1:(k:Int)<(nl:Int):=by omega
    have O0:k<l.length:=by have:=P'.out;omega
    obtain⟨b,o,rfl,U'⟩:=V1.out k l[k] (K9 O0);have hg:=jD (K9 O0);obtain⟨a,ha⟩:=jF (l[k]);rw[<-ha]at hg U';obtain⟨d',v',S1,R',p0,p1,p2,p3,p4,p5,p6,p7⟩:=cL (ai d _ _ _ _ _ (ab u'.out hb) U');have Y':=jD (fun (W:World) (hW:KY wr W)=>kG d' a v' W (R'.stays (ai d') hW) (U1.out a (Li hg.out)));have N0:=fun (W:World) (hW:KY wr W)=>xL s d' a v' _ _ W (R'.stays (ai d') hW) (S'.out.stays (ab hb hW))
    rw[A2.out]at N0;have Z':=jD N0;rw[zh hg.out]at hD;obtain⟨ce,X'⟩:∃q,fJ a=q:=⟨_,rfl⟩;obtain⟨fe,H0⟩:∃q,eb s a=q:=⟨_,rfl⟩;rw[X',H0]at hD;rw[X']at Y';rw[H0]at Z';have HD:=jD hD;obtain⟨Aa,ca,rfl,-⟩:=R';have X1:=K8 wr ⟨b,_,none⟩ p0;obtain⟨na,O1⟩:∃n,n=a.args.length:=⟨_,rfl⟩;rw[<-O1]at Y' Z' p1;unfold exV iq at *;have HB:=jD hb;have P2:=hb.size;have hq:=ao hb T0.out;have Y1:=aD hq;have P1:=jD hq;clear ha U' S1 hD O0 O1 X' H0 N0 hb hI hq;go_wp2_with fail;refine aw fun w6 e6=>?_
    obtain⟨V,hV⟩:∃q,q=wr.heap.size:=⟨_,rfl⟩;have A0:KY wr w6:=gb e6;have v0:KX w6 V 0 (KW a.op):=by rw[e6,hV];show _=_;go_simp
    have v1:KX w6 V 1 (.slice Aa na ca):=by rw[e6,hV];show _=_;go_simp
    have v2:KX w6 V 2 (KW a.vr):=by rw[e6,hV];show _=_;go_simp
    have v3:KX w6 V 3 (KW a.fl):=by rw[e6,hV];show _=_;go_simp
    have v4:KX w6 V 4 (KW a.kd):=by rw[e6,hV];show _=_;go_simp
    have v5:KX w6 V 5 (KW a.val.kind):=by rw[e6,hV];show _=_;go_simp
    have v6:KX w6 V 6 (KW a.val.num):=by rw[e6,hV];show _=_;go_simp
    have v7:KX w6 V 7 (.string a.val.text):=by rw[e6,hV];show _=_;go_simp
    rw[<-hV];clear e6 hV p0 p1 p2 p3 p4 p5 p6 p7;refine (Y'.out w6 A0).mono ?_;rintro e w7 ⟨rfl,g'⟩;have F':=jD (ab A0 g');have U0:=jD (ab HB.out F'.out);replace v0:=aa g' v0;replace v1:=aa g' v1;replace v2:=aa g' v2;replace v3:=aa g' v3;replace v4:=aa g' v4;replace v5:=aa g' v5;replace v6:=aa g' v6;replace v7:=aa g' v7;have H2:=K8 w7 ⟨V,_,none⟩ v0;have hq:=ao F'.out P1.out;have y0:=af hq 0;have y1:=af hq 1;have y2:=af hq 2;simp only[LE,LC]at y0 y1 y2;have Q2:=aD hq;clear A0 g' hq X1 Y1
    by_cases hc:ce=0
    case neg =>
     have K2:(ce != 0)=true:=jQ hc;have B2:(ce==0)=false:=jQ hc;obtain rfl:((k:Int),ce)=R:=by have h:=HD.out;rw[K7 hc]at h;exact h
     clear hc;go_wp2;exact Lc (v:=.tuple #[KW k,KW ce]) (by simp[results,results240,go_sem]) rfl ⟨rfl,ab u'.out U0.out⟩
    subst hc;have A1:Hid ((if fe≠0 then ((k:Int),fe) else jj (k+1) s (l.drop (k+1)))=R):=jD (by have h:=HD.out;rw[K6 jS]at h;exact h);go_wp2_with fail;refine (Z'.out w7 F'.out).mono ?_;rintro e w8 ⟨rfl,E1⟩;have N1:=jD (ab U0.out E1);clear E1 v0 v1 v2 v3 v4 v5 v6 v7 y0 y1 y2
    by_cases hf:fe=0
    case neg =>
     have S2:(fe != 0)=true:=jQ hf;obtain rfl:((k:Int),fe)=R:=by have h:=A1.out;rw[K7 hf]at h;exact h
     clear hf;go_wp2;exact Lc (v:=.tuple #[KW k,KW fe]) (by simp[results,results240,go_sem]) rfl ⟨rfl,ab u'.out N1.out⟩
    subst hf;have R1:Hid (jj (k+1) s (l.drop (k+1))=R):=jD (by have h:=A1.out;rw[K6 jS]at h;exact h);go_wp2_with fail
    go_roundw
    case rel=>exact⟨k+1,by omega,by go_num,jD ⟨R1.out,N1.out⟩⟩
    case measure=>simp[intOf];omega
   ·have T1:¬(k:Int)<(nl:Int):=by omega
    rw[Lq (by have:=P'.out;omega),jj]at hD;subst hD;clear hI;go_wp2;exact Lc (v:=.tuple #[KW 0,KW 0]) (by simp[results,results240,go_sem]) rfl ⟨rfl,ab u'.out hb⟩
end Go.Proofs.YtokconodddedhaaGreatDoor
