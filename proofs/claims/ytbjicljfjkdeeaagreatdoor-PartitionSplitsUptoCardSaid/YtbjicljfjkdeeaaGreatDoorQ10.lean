/- Part. -/
import Derived.Test.YtbjicljfjkdeeaaGreatDoorQ09
set_option maxRecDepth 100000
set_option maxHeartbeats 16000000
set_option linter.unusedVariables false
set_option linter.unusedSimpArgs false
namespace Go.Proofs.YtbjicljfjkdeeaaGreatDoor
open Go.Proofs.Tryz Go.RowKit
def Ga:Nat->List Value
 | 0=>[Mk 0,Mk 0,.bool true,.bool true,.bool false,.bool false]
 | 1=>[Mk 2,Mk 64,.bool false,.bool false,.bool false,.bool false]
 | 2=>[Mk 2,Mk 64,.bool false,.bool false,.bool false,.bool false]
 | 3=>[Mk 2,Mk 64,.bool false,.bool false,.bool false,.bool false]
 | 4=>[Mk 1,Mk 1,.bool false,.bool false,.bool false,.bool false]
 | 5=>[Mk 1,Mk 1,.bool true,.bool true,.bool true,.bool false]
 | 6=>[Mk 1,Mk 1,.bool false,.bool false,.bool true,.bool true]
 | 7=>[Mk 1,Mk 1,.bool false,.bool true,.bool false,.bool false]
 | 8=>[Mk 2,Mk 2,.bool false,.bool false,.bool false,.bool false]
 | 9=>[Mk 1,Mk 1,.bool true,.bool true,.bool true,.bool false]
 | _=>[Mk 1,Mk 1,.bool false,.bool false,.bool true,.bool true]
def Shp (w:World):Prop:=∀k:Nat,k<11->Cells w 0 (k*6) (Ga k)
theorem Shp.stays {w W:World} (h:Shp w) (G:Mm w W):Shp W:=fun k hk j u z=>aa G (h k hk j u z)
theorem Hp {w:World} (h:Shp w) {x:Pt} (h0:0<=x.op) (h1:x.op<=10) (J:x.args.length<=64):∃(k O I:Nat),x.op=(k:Int)/\k<11/\I<=64/\gM x.op x.args.length=decide (O<=x.args.length/\x.args.length<=I) /\
  Cells w 0 (k*6) [Mk (O:Int),Mk (I:Int),.bool (cD x.op),.bool (mx x.op),.bool (ft x.op),.bool (fF x.op)]:=by
 obtain⟨k,hk⟩:∃k:Nat,x.op=(k:Int):=⟨x.op.toNat,by omega⟩;have G:k<11:=by omega
 have z:=h k G;rw[hk];obtain⟨n,Z⟩:=jE x.args.length;rw[Z]at J ⊢;clear Z hk h0 h1 h
 match k,G,z with
 | 0,_,z=>exact⟨0,0,0,rfl,by decide,by decide,(by rw[Nt];simp[gM]),z⟩
 | 1,_,z=>exact⟨1,2,64,rfl,by decide,by decide,(by rw[Nt];simp[gM];omega),z⟩
 | 2,_,z=>exact⟨2,2,64,rfl,by decide,by decide,(by rw[Nt];simp[gM];omega),z⟩
 | 3,_,z=>exact⟨3,2,64,rfl,by decide,by decide,(by rw[Nt];simp[gM];omega),z⟩
 | 4,_,z=>exact⟨4,1,1,rfl,by decide,by decide,(by rw[Nt];simp[gM];omega),z⟩
 | 5,_,z=>exact⟨5,1,1,rfl,by decide,by decide,(by rw[Nt];simp[gM];omega),z⟩
 | 6,_,z=>exact⟨6,1,1,rfl,by decide,by decide,(by rw[Nt];simp[gM];omega),z⟩
 | 7,_,z=>exact⟨7,1,1,rfl,by decide,by decide,(by rw[Nt];simp[gM];omega),z⟩
 | 8,_,z=>exact⟨8,2,2,rfl,by decide,by decide,(by rw[Nt];simp[gM];omega),z⟩
 | 9,_,z=>exact⟨9,1,1,rfl,by decide,by decide,(by rw[Nt];simp[gM];omega),z⟩
 | 10,_,z=>exact⟨10,1,1,rfl,by decide,by decide,(by rw[Nt];simp[gM];omega),z⟩
 | k+11,h,_=>exact absurd h om
theorem gZ (u:Bool) (n m:Int) (w:World):Mn 239 #[.bool u,Mk n,Mk m] w (.bool (!dL u n m)):=by
 obtain⟨r,hr⟩:=jE (!dL u n m);rw[hr];unfold dL at hr
 cases u with
 | false =>
  subst hr;go_enter func239,ntmps239;go_wp2;go_ret;exact⟨rfl,Mr _ _⟩
 | true =>
  by_cases h0:n<0
  ·have G:¬0<=n:=by omega
   obtain rfl:r=false:=by rw[<-hr];simp[h0]
   clear hr h0;go_enter func239,ntmps239;go_wp2;go_ret;exact⟨rfl,Mr _ _⟩
  ·have G:0<=n:=by omega
   by_cases h:m<n
   ·have z:¬n<=m:=by omega
    obtain rfl:r=false:=by rw[<-hr];simp[h]
    clear hr h;go_enter func239,ntmps239;go_wp2;go_ret;exact⟨rfl,Mr _ _⟩
   ·have z:n<=m:=by omega
    obtain rfl:r=true:=by rw[<-hr];simp[h0,h]
    clear hr h h0;go_enter func239,ntmps239;go_wp2;go_ret;exact⟨rfl,Mr _ _⟩
theorem gP (u:Bool) (n:Int) (w:World):Mn 241 #[.bool u,Mk n] w (.bool (u || decide (n=0))):=by
 cases u with
 | true =>
  rw[Bool.true_or];go_enter func241,ntmps241;go_wp2;go_ret;exact⟨rfl,Mr _ _⟩
 | false =>
  rw[On]
  by_cases h:n=0
  ·subst h;go_enter func241,ntmps241;go_wp2;go_ret;exact⟨rfl,Mr _ _⟩
  ·have z:(n==0)=false:=jQ h;rw[Nb h];go_enter func241,ntmps241;go_wp2;go_ret;exact⟨rfl,Mr _ _⟩
theorem GO (x:Pt) (h0:0<=x.op) (G:x.op<=10):ptE x=if gM x.op x.args.length=false then 15
  else if dL (cD x.op) x.ty 15=true\/dL (cD x.op) x.vr 15=true\/dL (ft x.op) x.sc 63=true\/dL (fF x.op) x.sp 1099511627776=true then 2
  else if mx x.op=true/\kQ x.cond≠0 then kQ x.cond
  else if (mx x.op=false/\dK x.cond nK=false)\/(cD x.op || decide (x.ty=0))=false\/(cD x.op || decide (x.vr=0))=false\/(ft x.op || decide (x.sc=0))=false\/(fF x.op || decide (x.sp=0))=false then 3 else 0:=by
 unfold ptE;rw[Mo om];have h:(dL (cD x.op) x.ty 15 || dL (cD x.op) x.vr 15 || dL (ft x.op) x.sc 63 || dL (fF x.op) x.sp 1099511627776)=true↔(dL (cD x.op) x.ty 15=true\/dL (cD x.op) x.vr 15=true\/dL (ft x.op) x.sc 63=true\/dL (fF x.op) x.sp 1099511627776=true):=by
  simp[MU,NV]
 have z:(cD x.op=false/\(x.ty≠0\/x.vr≠0)\/ft x.op=false/\x.sc≠0\/fF x.op=false/\x.sp≠0\/mx x.op=false/\dK x.cond nK=false)↔(mx x.op=false/\dK x.cond nK=false\/(cD x.op || decide (x.ty=0))=false\/(cD x.op || decide (x.vr=0))=false\/(ft x.op || decide (x.sc=0))=false\/(fF x.op || decide (x.sp=0))=false):=by
  simp only[Ng,Na]
  grind
 simp only[h,z]
theorem CA (w:World):aK 0 w (.slice none 0 0) nK.args:=⟨none,0,rfl,Mt _,by decide,fun k x h=>by simp[nK,Ex.args]at h⟩
theorem ubp {p:Prop} (h:p:=by
  obtain rfl:R=15:=by rw[HR.out,Mp (by rw[Na];omega)]
  clear HR;go_enter func185,ntmps185;go_wp2_with fail
  all_goals first|(exfalso;omega)|(go_ret;exact⟨rfl,jB⟩)):p:=h
theorem zd (d:Nat) (x:Pt) (v vc:Value) (w:World) (hT:Shp w) (Y':x.args.length<=64) (hx:aU d w v x.args) (Z':aK d w vc x.cond.args) (hN:aF x.cond<=1048576) :
  Mn 185 #[ptV x v vc] w (Mk (ptE x)):=by
 have s':=jD (fun (W:World) (hW:Mm w W)=>sk d x.cond vc W (Z'.stays (ai d) hW) hN);have r':=jD (fun (W:World) (hW:Mm w W)=>D2 d 0 x.cond nK vc (.slice none 0 0) W (Z'.stays (ai d) hW) (CA W));obtain⟨A,c,rfl,h1,h2,-⟩:=hx;obtain⟨Ac,cc,rfl,-⟩:=Z';have hlen:=ay h1 h2;obtain⟨nc,P0⟩:=jE x.cond.args.length;obtain⟨n,hn⟩:=jE x.args.length;rw[P0]at s' r' ⊢
 by_cases G':x.op<0\/10<x.op
 ·have hE:ptE x=1:=by unfold ptE;rw[Mp G']
  rw[hE,hn];clear hT Y' s' r' hE hn P0 hlen h1 h2;obtain⟨op,l,ty,vr,sc,sp,⟨X0,l2,A1,Z0,Y0,⟨k0,n0,t0⟩⟩⟩:=x;unfold ptV;simp only[Pt.op,Pt.ty,Pt.vr,Pt.sc,Pt.sp,Pt.cond,Ex.op,Ex.vr,Ex.fl,Ex.kd,Ex.val]at G' ⊢
  by_cases ho:op<0
  ·clear G';go_enter func185,ntmps185;go_wp2;go_ret;exact⟨rfl,af w _⟩
  ·have E2:11<=op:=by omega
   clear G';go_enter func185,ntmps185;go_wp2;go_ret;exact⟨rfl,af w _⟩
 have U':0<=x.op:=by omega
 have K0:x.op<=10:=by omega
 obtain⟨k,lo,hi,hk,Y1,M1,S0,q'⟩:=Hp hT U' K0 Y';have hE:=GO x U' K0;rw[S0]at hE;rw[hE];obtain⟨b1,e1⟩:∃b,dL (cD x.op) x.ty 15=b:=⟨_,rfl⟩;obtain⟨b2,e2⟩:∃b,dL (cD x.op) x.vr 15=b:=⟨_,rfl⟩;obtain⟨b3,e3⟩:∃b,dL (ft x.op) x.sc 63=b:=⟨_,rfl⟩;obtain⟨b4,e4⟩:∃b,dL (fF x.op) x.sp 1099511627776=b:=⟨_,rfl⟩;obtain⟨u1,f1⟩:∃b,(cD x.op || decide (x.ty=0))=b:=⟨_,rfl⟩;obtain⟨u2,f2⟩:∃b,(cD x.op || decide (x.vr=0))=b:=⟨_,rfl⟩;obtain⟨u3,f3⟩:∃b,(ft x.op || decide (x.sc=0))=b:=⟨_,rfl⟩;obtain⟨u4,f4⟩:∃b,(fF x.op || decide (x.sp=0))=b:=⟨_,rfl⟩;have O':=jD (fun W=>gZ (cD x.op) x.ty 15 W);have I':=jD (fun W=>gZ (cD x.op) x.vr 15 W);have N':=jD (fun W=>gZ (ft x.op) x.sc 63 W);have J':=jD (fun W=>gZ (fF x.op) x.sp 1099511627776 W);have x':=jD (fun W=>gP (cD x.op) x.ty W);have A':=jD (fun W=>gP (cD x.op) x.vr W);have C':=jD (fun W=>gP (ft x.op) x.sc W);have y':=jD (fun W=>gP (fF x.op) x.sp W);obtain⟨z,hz⟩:=jE (kQ x.cond);obtain⟨q,hq⟩:=jE (dK x.cond nK);rw[e1]at O';rw[e2]at I';rw[e3]at N';rw[e4]at J';rw[f1]at x';rw[f2]at A';rw[f3]at C';rw[f4]at y';rw[hz]at s';rw[hq]at r';rw[e1,e2,e3,e4,f1,f2,f3,f4,hz,hq,hn];obtain⟨tb,V'⟩:∃b,cD x.op=b:=⟨_,rfl⟩;obtain⟨cb,Q0⟩:∃b,mx x.op=b:=⟨_,rfl⟩;obtain⟨sb,H0⟩:∃b,ft x.op=b:=⟨_,rfl⟩;obtain⟨pb,T'⟩:∃b,fF x.op=b:=⟨_,rfl⟩;rw[V',Q0,H0,T']at q';rw[Q0];rw[V']at O' I' x' A';rw[H0]at N' C'
 rw[T']at J' y';rw[hn]at hlen;have c0:=q' 0 _ rfl;have c1:=q' 1 _ rfl;have c2:=q' 2 _ rfl;have c3:=q' 3 _ rfl;have c4:=q' 4 _ rfl;have c5:=q' 5 _ rfl;rw[Nc]at c0;obtain⟨R,hR⟩:∃R,R=(if decide (lo<=n/\n<=hi)=false then (15:Int) else if b1=true\/b2=true\/b3=true\/b4=true then 2 else if cb=true/\z≠0 then z else if (cb=false/\q=false)\/u1=false\/u2=false\/u3=false\/u4=false then 3 else 0):=⟨_,rfl⟩;rw[<-hR];have HR:=jD hR;clear hR q' hE S0 hT Y' e1 e2 e3 e4 f1 f2 f3 f4 hz hq V' Q0 H0 T' hn P0 h1 h2 G';have hg:0<w.heap.size:=Ms w ⟨_,_,none⟩ c0;obtain⟨op,l,ty,vr,sc,sp,⟨X0,l2,A1,Z0,Y0,⟨k0,n0,t0⟩⟩⟩:=x;unfold ptV;unfold exV at s' r';unfold nK ah at r';simp only[Pt.op,Pt.ty,Pt.vr,Pt.sc,Pt.sp,Pt.cond,Ex.op,Ex.vr,Ex.fl,Ex.kd,Ex.val]at hk U' K0 O' I' N' J' x' A' C' y' s' r' ⊢;subst hk;have G1:(k:Int)<11:=by omega
 have S1:¬(k:Int)<0:=by omega
 have P1:¬11<=(k:Int):=by omega
 by_cases A2:n<lo
 ·have F1:(n:Int)<(lo:Int):=by omega
  exact ubp
 have F1:¬(n:Int)<(lo:Int):=by omega
 by_cases M1:hi<n
 ·have V0:(hi:Int)<(n:Int):=by omega
  exact ubp
 have V0:¬(hi:Int)<(n:Int):=by omega
 have U0:Hid (R=if b1=true\/b2=true\/b3=true\/b4=true then 2 else if cb=true/\z≠0 then z else if (cb=false/\q=false)\/u1=false\/u2=false\/u3=false\/u4=false then 3 else 0):=jD (by rw[HR.out,Mo (by rw[Na];omega)]);clear HR;have HR:=U0;clear U0;go_enter func185,ntmps185;go_wp2_with fail;refine aI fun W9 e9=>?_
 have y0:Ml W9 w.heap.size 0 (Mk (k:Int)):=jG e9;have y1:Ml W9 w.heap.size 1 (.slice A n c):=jG e9;have y2:Ml W9 w.heap.size 2 (Mk ty):=jG e9;have y3:Ml W9 w.heap.size 3 (Mk vr):=jG e9;have y4:Ml W9 w.heap.size 4 (Mk sc):=jG e9;have y5:Ml W9 w.heap.size 5 (Mk sp):=jG e9;have y6:Ml W9 w.heap.size 6 (Mk X0):=jG e9;have y7:Ml W9 w.heap.size 7 (.slice Ac nc cc):=jG e9;have y8:Ml W9 w.heap.size 8 (Mk A1):=jG e9;have y9:Ml W9 w.heap.size 9 (Mk Z0):=jG e9;have d':Ml W9 w.heap.size 10 (Mk Y0):=jG e9;have g':Ml W9 w.heap.size 11 (Mk k0):=jG e9;have f':Ml W9 w.heap.size 12 (Mk n0):=jG e9;have h':Ml W9 w.heap.size 13 (.string t0):=jG e9;have z0:Ml W9 (w.heap.size+1) 0 (Mk (lo:Int)):=jG e9;have z1:Ml W9 (w.heap.size+1) 1 (Mk (hi:Int)):=jG e9;have z2:Ml W9 (w.heap.size+1) 2 (.bool tb):=jG e9;have z3:Ml W9 (w.heap.size+1) 3 (.bool cb):=jG e9;have z4:Ml W9 (w.heap.size+1) 4 (.bool sb):=jG e9;have z5:Ml W9 (w.heap.size+1) 5 (.bool pb):=jG e9;have K1:Mm w W9:=gb e9;clear e9 c0 c1 c2 c3 c4 c5;clear y0 y1 z0 z1;refine (O'.out _).mono ?_;rintro e K2 ⟨rfl,i'⟩;have P':=ab K1 i';replace y2:=aa i' y2;replace y3:=aa i' y3;replace y4:=aa i' y4;replace y5:=aa i' y5;replace y6:=aa i' y6;replace y7:=aa i' y7;replace y8:=aa i' y8;replace y9:=aa i' y9;replace d':=aa i' d';replace g':=aa i' g';replace f':=aa i' f';replace h':=aa i' h';replace z2:=aa i' z2;replace z3:=aa i' z3;replace z4:=aa i' z4;replace z5:=aa i' z5;clear i'
 cases b1 with
 | true =>
  obtain rfl:R=2:=by rw[HR.out];simp
  clear HR;go_wp2_with fail
  all_goals exact en P'
 | false =>
  go_wp2_with fail;refine (I'.out _).mono ?_;rintro e G2 ⟨rfl,k'⟩;have S':=ab P' k';replace y2:=aa k' y2;replace y3:=aa k' y3;replace y4:=aa k' y4;replace y5:=aa k' y5;replace y6:=aa k' y6;replace y7:=aa k' y7;replace y8:=aa k' y8;replace y9:=aa k' y9;replace d':=aa k' d';replace g':=aa k' g';replace f':=aa k' f';replace h':=aa k' h';replace z2:=aa k' z2;replace z3:=aa k' z3;replace z4:=aa k' z4;replace z5:=aa k' z5;clear k'
  cases b2 with
  | true =>
   obtain rfl:R=2:=by rw[HR.out];simp
   clear HR;go_wp2_with fail
   all_goals exact en S'
  | false =>
   go_wp2_with fail;refine (N'.out _).mono ?_;rintro e H2 ⟨rfl,j'⟩;have R':=ab S' j';replace y2:=aa j' y2;replace y3:=aa j' y3;replace y4:=aa j' y4;replace y5:=aa j' y5;replace y6:=aa j' y6;replace y7:=aa j' y7;replace y8:=aa j' y8;replace y9:=aa j' y9;replace d':=aa j' d';replace g':=aa j' g';replace f':=aa j' f';replace h':=aa j' h';replace z2:=aa j' z2;replace z3:=aa j' z3;replace z4:=aa j' z4;replace z5:=aa j' z5;clear j'
   cases b3 with
   | true =>
    obtain rfl:R=2:=by rw[HR.out];simp
    clear HR;go_wp2_with fail
    all_goals exact en R'
   | false =>
    go_wp2_with fail;refine (J'.out _).mono ?_;rintro e B2 ⟨rfl,l'⟩;have p':=ab R' l';replace y2:=aa l' y2;replace y3:=aa l' y3;replace y4:=aa l' y4;replace y5:=aa l' y5;replace y6:=aa l' y6;replace y7:=aa l' y7;replace y8:=aa l' y8;replace y9:=aa l' y9;replace d':=aa l' d';replace g':=aa l' g';replace f':=aa l' f';replace h':=aa l' h';replace z2:=aa l' z2;replace z3:=aa l' z3;replace z4:=aa l' z4;replace z5:=aa l' z5;clear l'
    cases b4 with
    | true =>
     obtain rfl:R=2:=by rw[HR.out];simp
     clear HR;go_wp2_with fail
     all_goals exact en p'
    | false =>
     cases cb with
     | true =>
      go_wp2_with fail;refine (s'.out _ p').mono ?_;rintro e wk ⟨rfl,m'⟩;have E1:=ab p' m';replace y2:=aa m' y2;replace y3:=aa m' y3;replace y4:=aa m' y4;replace y5:=aa m' y5;replace y6:=aa m' y6;replace y7:=aa m' y7;replace y8:=aa m' y8;replace y9:=aa m' y9;replace d':=aa m' d';replace g':=aa m' g';replace f':=aa m' f';replace h':=aa m' h';replace z2:=aa m' z2;replace z3:=aa m' z3;replace z4:=aa m' z4;replace z5:=aa m' z5;clear m'
      by_cases X':z=0
      case neg =>
       have bz:(z==0)=false:=jQ X';obtain rfl:R=z:=by rw[HR.out];simp[X']
       clear HR;go_wp2_with fail
       all_goals exact en E1
      obtain rfl:=X';go_wp2_with fail;refine (x'.out _).mono ?_;rintro e U1 ⟨rfl,I⟩;have t':=ab E1 I;replace y2:=aa I y2;replace y3:=aa I y3;replace y4:=aa I y4;replace y5:=aa I y5;replace y6:=aa I y6;replace y7:=aa I y7;replace y8:=aa I y8;replace y9:=aa I y9;replace d':=aa I d';replace g':=aa I g';replace f':=aa I f';replace h':=aa I h';replace z2:=aa I z2;replace z3:=aa I z3;replace z4:=aa I z4;replace z5:=aa I z5;clear I
      cases u1 with
      | false =>
       obtain rfl:R=3:=by rw[HR.out];simp
       clear HR;go_wp2_with fail
       all_goals exact en t'
      | true =>
       go_wp2_with fail;refine (A'.out _).mono ?_;rintro e Z1 ⟨rfl,J⟩;have D':=ab t' J;replace y2:=aa J y2;replace y3:=aa J y3;replace y4:=aa J y4;replace y5:=aa J y5;replace y6:=aa J y6;replace y7:=aa J y7;replace y8:=aa J y8;replace y9:=aa J y9;replace d':=aa J d';replace g':=aa J g';replace f':=aa J f';replace h':=aa J h';replace z2:=aa J z2;replace z3:=aa J z3;replace z4:=aa J z4;replace z5:=aa J z5;clear J
       cases u2 with
       | false =>
        obtain rfl:R=3:=by rw[HR.out];simp
        clear HR;go_wp2_with fail
        all_goals exact en D'
       | true =>
        go_wp2_with fail;refine (C'.out _).mono ?_;rintro e Q1 ⟨rfl,O⟩;have H':=ab D' O;replace y2:=aa O y2;replace y3:=aa O y3;replace y4:=aa O y4;replace y5:=aa O y5;replace y6:=aa O y6;replace y7:=aa O y7;replace y8:=aa O y8;replace y9:=aa O y9;replace d':=aa O d';replace g':=aa O g';replace f':=aa O f';replace h':=aa O h';replace z2:=aa O z2;replace z3:=aa O z3;replace z4:=aa O z4;replace z5:=aa O z5;clear O
        cases u3 with
        | false =>
         obtain rfl:R=3:=by rw[HR.out];simp
         clear HR;go_wp2_with fail
         all_goals exact en H'
        | true =>
         go_wp2_with fail;refine (y'.out _).mono ?_;rintro e R1 ⟨rfl,h⟩;have B':=ab H' h;replace y2:=aa h y2;replace y3:=aa h y3;replace y4:=aa h y4;replace y5:=aa h y5;replace y6:=aa h y6;replace y7:=aa h y7;replace y8:=aa h y8;replace y9:=aa h y9;replace d':=aa h d';replace g':=aa h g';replace f':=aa h f';replace h':=aa h h';replace z2:=aa h z2;replace z3:=aa h z3;replace z4:=aa h z4;replace z5:=aa h z5;clear h
         cases u4 with
         | false =>
          obtain rfl:R=3:=by rw[HR.out];simp
          clear HR;go_wp2_with fail
          all_goals exact en B'
         | true =>
          obtain rfl:R=0:=by rw[HR.out];simp
          clear HR;go_wp2_with fail
          all_goals exact en B'
     | false =>
      go_wp2_with fail;refine (r'.out _ p').mono ?_;rintro e ws ⟨rfl,n'⟩;have R0:=ab p' n';replace y2:=aa n' y2;replace y3:=aa n' y3;replace y4:=aa n' y4;replace y5:=aa n' y5;replace y6:=aa n' y6;replace y7:=aa n' y7;replace y8:=aa n' y8;replace y9:=aa n' y9;replace d':=aa n' d';replace g':=aa n' g';replace f':=aa n' f';replace h':=aa n' h';replace z2:=aa n' z2;replace z3:=aa n' z3;replace z4:=aa n' z4;replace z5:=aa n' z5;clear n'
      cases q with
      | false =>
       obtain rfl:R=3:=by rw[HR.out];simp
       clear HR;go_wp2_with fail
       all_goals exact en R0
      | true =>
       go_wp2_with fail;refine (x'.out _).mono ?_;rintro e W1 ⟨rfl,Z⟩;have u':=ab R0 Z;replace y2:=aa Z y2;replace y3:=aa Z y3;replace y4:=aa Z y4;replace y5:=aa Z y5;replace y6:=aa Z y6;replace y7:=aa Z y7;replace y8:=aa Z y8;replace y9:=aa Z y9;replace d':=aa Z d';replace g':=aa Z g';replace f':=aa Z f';replace h':=aa Z h';replace z2:=aa Z z2;replace z3:=aa Z z3;replace z4:=aa Z z4;replace z5:=aa Z z5;clear Z
       cases u1 with
       | false =>
        obtain rfl:R=3:=by rw[HR.out];simp
        clear HR;go_wp2_with fail
        all_goals exact en u'
       | true =>
        go_wp2_with fail;refine (A'.out _).mono ?_;rintro e V1 ⟨rfl,a'⟩;have F':=ab u' a';replace y2:=aa a' y2;replace y3:=aa a' y3;replace y4:=aa a' y4;replace y5:=aa a' y5;replace y6:=aa a' y6;replace y7:=aa a' y7;replace y8:=aa a' y8;replace y9:=aa a' y9;replace d':=aa a' d';replace g':=aa a' g';replace f':=aa a' f';replace h':=aa a' h';replace z2:=aa a' z2;replace z3:=aa a' z3;replace z4:=aa a' z4;replace z5:=aa a' z5;clear a'
        cases u2 with
        | false =>
         obtain rfl:R=3:=by rw[HR.out];simp
         clear HR;go_wp2_with fail
         all_goals exact en F'
        | true =>
         go_wp2_with fail;refine (C'.out _).mono ?_;rintro e T1 ⟨rfl,c'⟩;have z':=ab F' c';replace y2:=aa c' y2;replace y3:=aa c' y3;replace y4:=aa c' y4;replace y5:=aa c' y5;replace y6:=aa c' y6;replace y7:=aa c' y7;replace y8:=aa c' y8;replace y9:=aa c' y9;replace d':=aa c' d';replace g':=aa c' g';replace f':=aa c' f';replace h':=aa c' h';replace z2:=aa c' z2;replace z3:=aa c' z3;replace z4:=aa c' z4;replace z5:=aa c' z5;clear c'
         cases u3 with
         | false =>
          obtain rfl:R=3:=by rw[HR.out];simp
          clear HR;go_wp2_with fail
          all_goals exact en z'
         | true =>
          go_wp2_with fail;refine (y'.out _).mono ?_;rintro e X1 ⟨rfl,G⟩;have E':=ab z' G;replace y2:=aa G y2;replace y3:=aa G y3;replace y4:=aa G y4;replace y5:=aa G y5;replace y6:=aa G y6;replace y7:=aa G y7;replace y8:=aa G y8;replace y9:=aa G y9;replace d':=aa G d';replace g':=aa G g';replace f':=aa G f';replace h':=aa G h';replace z2:=aa G z2;replace z3:=aa G z3;replace z4:=aa G z4;replace z5:=aa G z5;clear G
          cases u4 with
          | false =>
           obtain rfl:R=3:=by rw[HR.out];simp
           clear HR;go_wp2_with fail
           all_goals exact en E'
          | true =>
           obtain rfl:R=0:=by rw[HR.out];simp
           clear HR;go_wp2_with fail
           all_goals exact en E'
end Go.Proofs.YtbjicljfjkdeeaaGreatDoor
