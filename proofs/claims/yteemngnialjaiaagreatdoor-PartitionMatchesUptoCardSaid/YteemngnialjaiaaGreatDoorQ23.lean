/- Part. -/
import Derived.Test.YteemngnialjaiaaGreatDoorQ22
set_option maxRecDepth 100000
set_option maxHeartbeats 16000000
set_option linter.unusedVariables false
set_option linter.unusedSimpArgs false
namespace Go.Proofs.YteemngnialjaiaaGreatDoor
open Go.Proofs.Tryz Go.RowKit
variable {w:World}{b i k:Nat}{x a:Pt}{v vc:Value}{l m:List Evt}{t s:Bs}{row:Option Nat}{I:List Pt}
def eP(x:Pt)(v vc:Value):List Value:=[OB x.op,v,OB x.ty,OB x.vr,OB x.sc,OB x.sp,OB x.cond.op,vc,OB x.cond.vr,OB x.cond.fl,OB x.cond.kd,OB x.cond.val.kind,OB x.cond.val.num,.string x.cond.val.text]
theorem xd{p:Nat}(c0:w.cell? ⟨b,p,none⟩=some (OB x.op))(c1:w.cell? ⟨b,p+1,none⟩=some v)(c2:w.cell? ⟨b,p+2,none⟩=some (OB x.ty))(c3:w.cell? ⟨b,p+3,none⟩=some (OB x.vr))(c4:w.cell? ⟨b,p+4,none⟩=some (OB x.sc))(c5:w.cell? ⟨b,p+5,none⟩=some (OB x.sp))(c6:w.cell? ⟨b,p+6,none⟩=some (OB x.cond.op))(c7:w.cell? ⟨b,p+7,none⟩=some vc)(c8:w.cell? ⟨b,p+8,none⟩=some (OB x.cond.vr))(c9:w.cell? ⟨b,p+9,none⟩=some (OB x.cond.fl))(Z:w.cell? ⟨b,p+10,none⟩=some (OB x.cond.kd))(J:w.cell? ⟨b,p+11,none⟩=some (OB x.cond.val.kind))(I:w.cell? ⟨b,p+12,none⟩=some (OB x.cond.val.num))(a':w.cell? ⟨b,p+13,none⟩=some (.string x.cond.val.text)):Cells w b p (eP x v vc):=fun j u h=>by
  match j,h with
  | 0,h=>simp[eP]at h;subst h;exact c0
  | 1,h=>simp[eP]at h;subst h;exact c1
  | 2,h=>simp[eP]at h;subst h;exact c2
  | 3,h=>simp[eP]at h;subst h;exact c3
  | 4,h=>simp[eP]at h;subst h;exact c4
  | 5,h=>simp[eP]at h;subst h;exact c5
  | 6,h=>simp[eP]at h;subst h;exact c6
  | 7,h=>simp[eP]at h;subst h;exact c7
  | 8,h=>simp[eP]at h;subst h;exact c8
  | 9,h=>simp[eP]at h;subst h;exact c9
  | 10,h=>simp[eP]at h;subst h;exact Z
  | 11,h=>simp[eP]at h;subst h;exact J
  | 12,h=>simp[eP]at h;subst h;exact I
  | 13,h=>simp[eP]at h;subst h;exact a'
  | j+14,h=>simp[eP]at h
theorem Gn(l:List Evt)(s:Bs)(i v:Nat):(dy l s i)[v]?=if v<16 then some ((s.filter fun x=>decide (x.2<i/\x.1=(v:Int))).filterMap fun x=>l[x.2]?) else none:=by
 unfold dy;rw[OQ]
 by_cases h:v<16
 ·rw[RL h,OG h];rfl
 ·rw[PF (jQ h),OF h];rfl
theorem Gd{j:Nat}(h:(dy l t i)[j]?=some m):m.length<=t.length:=by
 rw[Gn]at h
 split at h
 ·injection h with h;subst h;exact OP (List.length_filterMap_le ..) (QF ..)
 ·cases h
theorem mF{W:World}{o:Nat}(J:w.grownBy W row)(I:row≠some b)(h:w.cell? ⟨b,o,none⟩=some v):W.cell? ⟨b,o,none⟩=some v :=
 (Pf (a:=⟨b,o,none⟩) (J.block b (OV w ⟨b,o,none⟩ h) (fun e=>I e.symm))).trans h
section
open Go.RowKit Go.Lib
def AtL(h P:List Pt)(k0:Nat):Prop:=∀(j:Nat) y,P[j]?=some y->h[k0+j]?=some y
theorem H8{l:List Pt}(h:l[k]?=some a):AtL (dq l) (aV a) (cE (l.take k)):=by
 induction l generalizing k with
 | nil=>simp at h
 | cons b r J =>
  intro j y I;rw[dq]
  cases k with
  | zero =>
   simp at h;subst h;simp only[List.take_zero,cE,Pd];rw[Ph (List.getElem?_eq_some_iff.1 I).1];exact I
  | succ k =>
   rw[Sa,cE,Pz (by rw[gm];omega),gm];have:=J (jQ h) j y I;rw[<-this];congr 1;omega
theorem AtL.arg{k0:Nat}(h:AtL I (aV x) k0)(Z:x.args[k]?=some a):AtL I (aV a) (k0+1+cE (x.args.take k)):=by
 intro j y J;have:=h (1+(cE (x.args.take k)+j)) y (by rw[fG,Nat.add_comm 1,QC];exact H8 Z j y J);rw[<-this];congr 1;omega
theorem Oc(h:Cells w b 0 (eP x v vc)):w.cell? ⟨b,0,none⟩=some (OB x.op)/\w.cell? ⟨b,1,none⟩=some v/\w.cell? ⟨b,2,none⟩=some (OB x.ty)/\w.cell? ⟨b,3,none⟩=some (OB x.vr)/\w.cell? ⟨b,4,none⟩=some (OB x.sc)/\w.cell? ⟨b,5,none⟩=some (OB x.sp) /\
  w.cell? ⟨b,6,none⟩=some (OB x.cond.op)/\w.cell? ⟨b,7,none⟩=some vc/\w.cell? ⟨b,8,none⟩=some (OB x.cond.vr)/\w.cell? ⟨b,9,none⟩=some (OB x.cond.fl)/\w.cell? ⟨b,10,none⟩=some (OB x.cond.kd)/\w.cell? ⟨b,11,none⟩=some (OB x.cond.val.kind)/\w.cell? ⟨b,12,none⟩=some (OB x.cond.val.num)/\w.cell? ⟨b,13,none⟩=some (.string x.cond.val.text) :=
 ⟨h 0 _ rfl,h 1 _ rfl,h 2 _ rfl,h 3 _ rfl,h 4 _ rfl,h 5 _ rfl,h 6 _ rfl,h 7 _ rfl,h 8 _ rfl,h 9 _ rfl,h 10 _ rfl,h 11 _ rfl,h 12 _ rfl,h 13 _ rfl⟩
end
theorem qo(d:Nat)(vs:List (List Evt))(v:Value)(own:Int)(ev:Evt)(u:Value)(G1:∀k,(bR vs k).length<=1048576)(S':∀d',d=d'+1->∀(x:Ex)(vx:Value)(w:World),dU w v vs->bh w u ev.vals->bZ d' w vx x.args->bL x=0 ->
   OE 152 #[exV x vx,.agg #[v],OB own,cM ev u] w (.tuple #[vlV (dK vs own ev x).1,OB (dK vs own ev x).2]))(x:Ex)(vx:Value)(w:World)(hv:dU w v vs)(hu:bh w u ev.vals)(hx:bZ d w vx x.args)(hn:bL x=0) :
  OE 152 #[exV x vx,.agg #[v],OB own,cM ev u] w (.tuple #[vlV (dK vs own ev x).1,OB (dK vs own ev x).2]):=by
 have U':=jD S';have HV:=jD hv;have HU:=jD hu;obtain⟨F1,Z0⟩:=sQ hn;obtain⟨n0,n12,x',H0⟩:=Dl F1;obtain⟨op,l,vr,fl,kd,vl⟩:=x;obtain⟨⟨RV,re⟩,hR⟩:∃r,dK vs own ev (.mk op l vr fl kd vl)=r:=⟨_,rfl⟩;rw[hR];simp only[Ex.op,Ex.args,Ex.fl]at n0 n12 x' H0 Z0 hx;obtain⟨A,c,rfl,-⟩:=hv;obtain⟨Au,cu,rfl,-⟩:=hu;obtain⟨Ax,cx,rfl,h1,h2,S2⟩:=hx;have E1:=aP h1 h2;have HL:=jD S2;have Y1:=jD Z0;have A3:=jD H0;have W2:=jD G1;clear S' hn F1 Z0 h1 h2 S2 H0 G1;rw[xm]at hR
 by_cases C':l.length=0
 ·obtain rfl:l=[]:=Po C';rw[OG C']at hR;have Z1:=yB n0 n12 x'.symm;have C2:=jD (fun W (hW:OD w W)=>EP vs _ own ev _ (.mk op [] vr fl kd vl) Ax 0 cx W (HV.out.stays cz hW) (HU.out.stays aG hW) ⟨n0,Z1⟩ A3.out (W2.out _));rw[hR]at C2;clear hR C' x' HL Y1 U' E1;unfold cM exV at *;simp only[Ex.op,Ex.args,Ex.vr,Ex.fl,Ex.kd,Ex.val,Ri]at *;unfold vlV at *;go_enter func152,ntmps152;go_wp2_with fail;refine aJ fun W9 e1=>?_
  have hB:VBox W9 (w.heap.size+1+1+1):=⟨OB 0,OB 0,.string ⟨#[]⟩,by rw[e1];repeat (first|exact ax _ _ _ jS|apply aI)⟩;have P':OD w W9:=gb e1;clear e1;refine (C2.out _ P').mono ?_;rintro e w1 ⟨rfl,J'⟩;obtain⟨a0,b0,c0,z0,z1,z2,f0,f1,f2⟩:=(hB.stays J').facts;go_wp2;exact OJ (v:=.tuple #[.agg #[OB RV.kind,OB RV.num,.string RV.text],OB re]) (by simp[results,results152,go_sem,am,z0,z1,z2]) rfl ⟨rfl,bH (ae P' J') om _ _ _⟩
 have Y3:((l.length:Int)==0)=false:=by rw[PA];omega
 rw[OF C']at hR;obtain⟨n5,T'⟩:=wZ n0 n12 om;rw[T']at x';have A4:l.length<=2:=by split at x'<;>omega
 obtain⟨FR,B'⟩:∃r,gA vs own ev l=r:=⟨_,rfl⟩;rw[B']at hR;have HR:=jD hR;have Z2:=jD B';have B3:=jD x';clear hR B' C' T' x';unfold cM exV at *;simp only[Ex.op,Ex.args,Ex.vr,Ex.fl,Ex.kd,Ex.val]at *;unfold vlV at *;obtain⟨i0,hi,Z',C1,V0⟩:=Ql kQ;obtain⟨i1,Y',X0,V',C0⟩:=Ql wJ;go_enter func152,ntmps152;go_wp2_with fail;refine bV fun w1 e1=>?_
 have hX:w1.heap[w.heap.size]?=some (.cells [.int .i64 op,.slice Ax l.length cx,.int .i64 vr,.int .i64 fl,.int .i64 kd,.int .i64 vl.kind,.int .i64 vl.num,.string vl.text].toArray 29 (0,0)):=by rw[e1];repeat (first|exact ax _ _ _ jS|apply aI)
 have hE:w1.heap[w.heap.size+1]?=some (.cells [.slice A vs.length c].toArray 65 (0,0)):=by rw[e1];repeat (first|exact ax _ _ _ jS|apply aI)
 have hV:w1.heap[w.heap.size+1+1]?=some (.cells [.int .i64 ev.src,.int .i64 ev.sq,.int .i64 ev.ty,.int .i64 ev.tm,.slice Au ev.vals.length cu].toArray 71 (0,0)):=by rw[e1];repeat (first|exact ax _ _ _ jS|apply aI)
 have hB:VBox w1 (w.heap.size+1+1+1):=⟨OB 0,OB 0,.string ⟨#[]⟩,by rw[e1];repeat (first|exact ax _ _ _ jS|apply aI)⟩;have J':OD w w1:=gb e1;have HX:=jD hX;have HB:=jD hB;have z':=jD J';have HE:=jD (ab hE 0);have V2:=jD hV;have Y2:=hB.lt;obtain⟨X,W1⟩:=jF w.heap.size;have B4:w.heap.size<=X+1+1+1:=by omega
 rw[<-W1]at HX HB HE V2 Y2 ⊢;clear hX hE hV hB J' e1 W1
 go_loopw [10,11,12] (fun av bv i wr=>∃(k:Nat)(pre:List Vl),k<=l.length/\pre.length=k/\i=OB k/\Hid (TW w1.heap.size av bv k k pre (pre.map (·.kind)) wr)/\Hid ((pre++(gA vs own ev (l.drop k)).1,(gA vs own ev (l.drop k)).2)=FR/\OD w1 wr)) (fun _ _ i _=>l.length-(intOf i).toNat)
 case atStart=>exact⟨0,[],OO _,rfl,rfl,jD ⟨⟨rfl,.inl ⟨rfl,rfl⟩⟩,⟨rfl,.inl ⟨rfl,rfl⟩⟩,fun g h=>by simp[Value.ownBlock]at h⟩,jD ⟨by rw[PN,Z2.out];rfl,OK _ _⟩⟩
 case round =>
  obtain⟨k,pre,hk,S0,rfl,p',hI⟩:=hrel;have hb:=hI.out.2;obtain⟨Ar,cr,rfl⟩:=bw p'.out.1;obtain⟨Ak,ck,rfl⟩:=bw p'.out.2.1;have Z3:=hb.size;have x1:OC wr X 1 (.slice Ax l.length cx):=ab (aw hb HX.out) 1
  by_cases V1:k<l.length
  ·have X2:(k:Int)<(l.length:Int):=by omega
   obtain⟨b,o,rfl,U0⟩:=HL.out k l[k] (OH V1);have hg:=jD (OH V1);obtain⟨a,ha⟩:=jF (l[k]);rw[<-ha]at hg U0;clear ha;obtain⟨d',v',T1,Y0,p0,p1,p2,p3,p4,p5,p6,p7⟩:=vN (bi d _ _ _ _ _ (ae z'.out hb) U0);have U1:=Y1.out k a hg.out;have K3:=Y0;obtain⟨A',c',X3,-⟩:=K3;subst X3;obtain⟨⟨fv,fe⟩,hQ⟩:∃r,dK vs own ev a=r:=⟨_,rfl⟩;have HC:=jD (fun(W:World)(hW:OD wr W)=>U'.out d' T1 a _ W (HV.out.stays cz (ae z'.out (ae hb hW))) (HU.out.stays aG (ae z'.out (ae hb hW))) (Y0.stays (bi d') hW) U1);rw[hQ]at HC;have HQ:=jD hQ;have e0:=aa hb HE.out;obtain⟨t0,t1,t2,t3,t4⟩:=I6 (aw hb V2.out);have h:=hI.out.1;rw[qj hg.out,HQ.out]at h;have HH:=jD h;clear hQ U0 T1 Y0 U1 h;go_wp2_with fail
   refine rgn (fun W=>OD wr W/\OC W X 1 (.slice (some ⟨b,o,none⟩) l.length cx)/\OC W b (o+k*8) (OB a.op)/\OC W b (o+k*8+1) (.slice A' a.args.length c')/\OC W b (o+k*8+2) (OB a.vr)/\OC W b (o+k*8+3) (OB a.fl)/\OC W b (o+k*8+4) (OB a.kd)/\OC W b (o+k*8+5) (OB a.val.kind)/\OC W b (o+k*8+6) (OB a.val.num)/\OC W b (o+k*8+7) (.string a.val.text)/\OC W (X+1) 0 (.slice A vs.length c)/\OC W (X+1+1) 0 (OB ev.src)/\OC W (X+1+1) 1 (OB ev.sq)/\OC W (X+1+1) 2 (OB ev.ty)/\OC W (X+1+1) 3 (OB ev.tm)/\OC W (X+1+1) 4 (.slice Au ev.vals.length cu)) (Below wr.heap.size wr) (fun W hW=>⟨hW,aa hW x1,aa hW p0,aa hW p1,aa hW p2,aa hW p3,aa hW p4,aa hW p5,aa hW p6,aa hW p7,aa hW e0,aa hW t0,aa hW t1,aa hW t2,aa hW t3,aa hW t4⟩) ((OK _ _).drew) (fun u' I=>?_);generalize wr.drew=wD at I ⊢;refine tkH [0,1,2,3,4,5,6,7] ?_;refine Qw (rs:=[8,12]) kr jS ?_;refine PI rfl (fun K Z=>?_) ?_
   focus (go_simp;refine (HC.out _ I.1).mono ?_;rintro e w2 ⟨rfl,D'⟩;(try have s':=aw D' s'))
   refine Z.out _ _ (u' _ (ae I.1 D')) (fun I=>?_);clear Z K
   try simp only[Act.put,O9,O6,O4]
   refine tkH [9,10,11] ?_;refine nxH 12 (fun K Z=>?_)
   focus (go_simp;refine py (K:=fun W=>K _ W) fun wA h' s'=>?_;have H':wr.heap.size<=_:=I.1.size)
   refine Z.out _ _ (u' _ (ae I.1 h')) (fun I=>?_);clear Z K;refine nxH 13 (fun K Z=>?_)
   focus (obtain⟨a0,b0,c0,z0,z1,z2,f0,f1,f2⟩:=VBox.facts ⟨_,_,_,s'⟩;go_simp)
   refine Z.out _ _ (u' _ (bH I.1 H' _ _ _)) (fun I=>?_);clear Z K;refine tkH [14] ?_;refine dn ?_;rotate_left 1;refine PI rfl (fun K Z=>?_) ?_
   focus (go_simp;refine py (K:=fun W=>K _ W) fun wA h' s'=>?_;have H':wr.heap.size<=_:=I.1.size)
   refine Z.out _ _ (u' _ (ae I.1 h')) (fun I=>?_);clear Z K
   try simp only[Act.put,O9,O6,O4]
   refine nxH 8 (fun K Z=>?_)
   focus (go_simp;refine (HC.out _ I.1).mono ?_;rintro e w2 ⟨rfl,D'⟩;(try have s':=aw D' s'))
   refine Z.out _ _ (u' _ (ae I.1 D')) (fun I=>?_);clear Z K;refine tkH [9,10,11] ?_;refine nxH 13 (fun K Z=>?_)
   focus (obtain⟨a0,b0,c0,z0,z1,z2,f0,f1,f2⟩:=VBox.facts ⟨_,_,_,s'⟩;go_simp)
   refine Z.out _ _ (u' _ (bH I.1 H' _ _ _)) (fun I=>?_);clear Z K;refine tkH [14] ?_;refine dn ?_;rotate_left 1;exact Qx
   all_goals
    have N':=I.1;have g':=bF s' (OB fv.kind) (OB fv.num) (.string fv.text);clear I s';clear z0 z1 z2 f0 f1 f2 a0 b0 c0 x1 e0 t0 t1 t2 t3 t4 p0 p1 p2 p3 p4 p5 p6 p7 u';generalize World.setCell _ _ _=w5 at g' N' ⊢
    first
     | ((obtain⟨T,y'⟩:=jF wD.heap.size);(rw[<-y']at g');(rw[<-y']at H' ⊢);clear y')
     | ((obtain⟨T,y'⟩:=jF w2.heap.size);(rw[<-y']at g');(rw[<-y']at H' ⊢);clear y')
    have O2:=jD N';have A1:=jD (ae hb N');have q0:OC w5 T 0 (OB fv.kind):=ab g' 0;have q1:OC w5 T 1 (OB fv.num):=ab g' 1;have q2:OC w5 T 2 (.string fv.text):=ab g' 2;clear g' N';have h:=HH.out
    by_cases hz:fe=0
    case neg =>
     rw[OG hz]at h;obtain⟨e1,e2⟩:au=RV/\fe=re:=by
      have h2:=HR.out;rw[<-h,yP,OG hz]at h2;injection h2 with e1 e2;exact⟨e1,e2⟩
     subst e1 e2;obtain⟨a0,b0,c0,z0,z1,z2,f0,f1,f2⟩:=(HB.out.stays A1.out).facts;have H3:(fe != 0)=true:=jQ hz;clear h hz HH q0 q1 q2;go_wp2;exact OJ (v:=.tuple #[.agg #[OB 0,OB 0,.string ⟨#[]⟩],OB fe]) (by simp[results,results152,go_sem,am,z0,z1,z2]) rfl ⟨rfl,bH (ae z'.out A1.out) om _ _ _⟩
    subst hz;rw[OF jS]at h;clear HH;have HH:=jD h;clear h;go_wp2_with fail;have J:=(p'.out.below O2.out).below (OK _ _).drew;have g':∀g,(Value.slice Ar k cr).ownBlock=some g->g≠T:=fun g hg=>by have:=(ao p'.out.1 hg).2;omega
    have q':∀g,(Value.slice Ak k ck).ownBlock=some g->g≠T:=fun g hg=>by have:=(ao p'.out.2.1 hg).2;omega
    obtain⟨av,U2⟩:=jF (Value.slice Ar k cr);obtain⟨bv,T2⟩:=jF (Value.slice Ak k ck);rw[<-U2]at J g' ⊢;rw[<-T2]at J q' ⊢;have K4:k<=2:=by omega
    clear U2 T2;refine PM ?_;refine PQ (S:=fun W=>OD w1 W/\OC W T 0 (OB fv.kind)/\OC W T 1 (OB fv.num)/\OC W T 2 (.string fv.text)) kr (⟨(A1.out).drew,q0,q1,q2⟩) (fun I=>?_);generalize w5.drew=wD at I J ⊢;refine tkH [0,1,4,5,6] ?_;refine Qw (rs:=[2,7]) kr jS ?_;refine PI rfl (fun K Z=>?_) ?_
    focus (go_simp;refine il (K:=fun W=>K _ W) (cs:=[OB fv.kind,OB fv.num,.string fv.text]) (n:=1) (sz:=3) rfl (by intro u hu;simp only[O7,Pw,Px]at hu;rcases hu with rfl|rfl|rfl<;>rfl) fun wA h' r'=>?_;have J:=J.below h';(try have j':=j'.stays h'))
    refine Z.out _ _ (⟨ae I.1 h',aa h' I.2.1,aa h' I.2.2.1,aa h' I.2.2.2⟩) (fun I=>?_);clear Z K
    try simp only[Act.put,O9,O6,O4]
    refine Qw (rs:=[3,7]) kr jS ?_;refine PI rfl (fun K Z=>?_) ?_
    focus (have F':=J.1;refine cU _ (.tmp 50) (.tmp 52) 59 jR w1.heap.size 27 i0 _ 3 32 underlying59 hi Z' C1 V0 rfl dc av k (bS pre) jR J.1 _ 1 1 _ jR r' (by unfold maxLen;omega) om (I.1.size) ?_;intro v8 w8 n' f' l';(try have j':=gI f' j' (fun e=>G' _ e rfl));have J:=J.app6 n' f' l')
    refine Z.out _ _ (⟨I.1.trans (aB f' I.1.size (fun g h=>(ao F' h).1)),ag f' I.2.1 (fun e=>g' _ e rfl),ag f' I.2.2.1 (fun e=>g' _ e rfl),ag f' I.2.2.2 (fun e=>g' _ e rfl)⟩) (fun I=>?_);clear Z K
    try simp only[Act.put,O9,O6,O4]
    refine nxH 7 (fun K Z=>?_)
    focus (go_simp;(try have G':∀g,av.ownBlock=some g->g≠_:=fun g hg=>Q7 (ao J.1 hg).2);refine il (K:=fun W=>K _ W) (cs:=[OB fv.kind]) (n:=1) (sz:=1) rfl (by intro u hu;simp only[O7,Pw,Px]at hu;subst hu;rfl) fun wB a' j'=>?_;have J:=J.below a';(try have r':=r'.stays a'))
    refine Z.out _ _ (⟨ae I.1 a',aa a' I.2.1,aa a' I.2.2.1,aa a' I.2.2.2⟩) (fun I=>?_);clear Z K;refine nxH 8 (fun K Z=>?_)
    focus (have I':=J.2.1;refine cU _ (.tmp 54) (.tmp 57) 23 jR w1.heap.size 3 i1 _ 1 8 underlying23 Y' X0 V' C0 rfl dc bv k (eo (pre.map (·.kind))) jR J.2.1 _ 1 1 _ jR j' (by unfold maxLen;omega) om (I.1.size) ?_;intro v9 w9 k' i' m';have E':=J.app7 k' i' m')
    refine Z.out _ _ (⟨I.1.trans (aB i' I.1.size (fun g h=>(ao I' h).1)),ag i' I.2.1 (fun e=>q' _ e rfl),ag i' I.2.2.1 (fun e=>q' _ e rfl),ag i' I.2.2.2 (fun e=>q' _ e rfl)⟩) (fun I=>?_);clear Z K;refine tkH [9,10] ?_;refine dn ?_;rotate_left 1;refine PI rfl (fun K Z=>?_) ?_
    focus (go_simp;(try have G':∀g,av.ownBlock=some g->g≠_:=fun g hg=>Q7 (ao J.1 hg).2);refine il (K:=fun W=>K _ W) (cs:=[OB fv.kind]) (n:=1) (sz:=1) rfl (by intro u hu;simp only[O7,Pw,Px]at hu;subst hu;rfl) fun wB a' j'=>?_;have J:=J.below a';(try have r':=r'.stays a'))
    refine Z.out _ _ (⟨ae I.1 a',aa a' I.2.1,aa a' I.2.2.1,aa a' I.2.2.2⟩) (fun I=>?_);clear Z K
    try simp only[Act.put,O9,O6,O4]
    refine nxH 3 (fun K Z=>?_)
    focus (have F':=J.1;refine cU _ (.tmp 50) (.tmp 52) 59 jR w1.heap.size 27 i0 _ 3 32 underlying59 hi Z' C1 V0 rfl dc av k (bS pre) jR J.1 _ 1 1 _ jR r' (by unfold maxLen;omega) om (I.1.size) ?_;intro v8 w8 n' f' l';(try have j':=gI f' j' (fun e=>G' _ e rfl));have J:=J.app6 n' f' l')
    refine Z.out _ _ (⟨I.1.trans (aB f' I.1.size (fun g h=>(ao F' h).1)),ag f' I.2.1 (fun e=>g' _ e rfl),ag f' I.2.2.1 (fun e=>g' _ e rfl),ag f' I.2.2.2 (fun e=>g' _ e rfl)⟩) (fun I=>?_);clear Z K;refine nxH 8 (fun K Z=>?_)
    focus (have I':=J.2.1;refine cU _ (.tmp 54) (.tmp 57) 23 jR w1.heap.size 3 i1 _ 1 8 underlying23 Y' X0 V' C0 rfl dc bv k (eo (pre.map (·.kind))) jR J.2.1 _ 1 1 _ jR j' (by unfold maxLen;omega) om (I.1.size) ?_;intro v9 w9 k' i' m';have E':=J.app7 k' i' m')
    refine Z.out _ _ (⟨I.1.trans (aB i' I.1.size (fun g h=>(ao I' h).1)),ag i' I.2.1 (fun e=>q' _ e rfl),ag i' I.2.2.1 (fun e=>q' _ e rfl),ag i' I.2.2.2 (fun e=>q' _ e rfl)⟩) (fun I=>?_);clear Z K;refine tkH [9,10] ?_;refine dn ?_;rotate_left 1;exact Qx;refine PI rfl (fun K Z=>?_) ?_
    focus (go_simp;(try have G':∀g,av.ownBlock=some g->g≠_:=fun g hg=>Q7 (ao J.1 hg).2);refine il (K:=fun W=>K _ W) (cs:=[OB fv.kind]) (n:=1) (sz:=1) rfl (by intro u hu;simp only[O7,Pw,Px]at hu;subst hu;rfl) fun wB a' j'=>?_;have J:=J.below a';(try have r':=r'.stays a'))
    refine Z.out _ _ (⟨ae I.1 a',aa a' I.2.1,aa a' I.2.2.1,aa a' I.2.2.2⟩) (fun I=>?_);clear Z K
    try simp only[Act.put,O9,O6,O4]
    refine nxH 2 (fun K Z=>?_)
    focus (go_simp;refine il (K:=fun W=>K _ W) (cs:=[OB fv.kind,OB fv.num,.string fv.text]) (n:=1) (sz:=3) rfl (by intro u hu;simp only[O7,Pw,Px]at hu;rcases hu with rfl|rfl|rfl<;>rfl) fun wA h' r'=>?_;have J:=J.below h';(try have j':=j'.stays h'))
    refine Z.out _ _ (⟨ae I.1 h',aa h' I.2.1,aa h' I.2.2.1,aa h' I.2.2.2⟩) (fun I=>?_);clear Z K;refine nxH 3 (fun K Z=>?_)
    focus (have F':=J.1;refine cU _ (.tmp 50) (.tmp 52) 59 jR w1.heap.size 27 i0 _ 3 32 underlying59 hi Z' C1 V0 rfl dc av k (bS pre) jR J.1 _ 1 1 _ jR r' (by unfold maxLen;omega) om (I.1.size) ?_;intro v8 w8 n' f' l';(try have j':=gI f' j' (fun e=>G' _ e rfl));have J:=J.app6 n' f' l')
    refine Z.out _ _ (⟨I.1.trans (aB f' I.1.size (fun g h=>(ao F' h).1)),ag f' I.2.1 (fun e=>g' _ e rfl),ag f' I.2.2.1 (fun e=>g' _ e rfl),ag f' I.2.2.2 (fun e=>g' _ e rfl)⟩) (fun I=>?_);clear Z K;refine nxH 8 (fun K Z=>?_)
    focus (have I':=J.2.1;refine cU _ (.tmp 54) (.tmp 57) 23 jR w1.heap.size 3 i1 _ 1 8 underlying23 Y' X0 V' C0 rfl dc bv k (eo (pre.map (·.kind))) jR J.2.1 _ 1 1 _ jR j' (by unfold maxLen;omega) om (I.1.size) ?_;intro v9 w9 k' i' m';have E':=J.app7 k' i' m')
    refine Z.out _ _ (⟨I.1.trans (aB i' I.1.size (fun g h=>(ao I' h).1)),ag i' I.2.1 (fun e=>q' _ e rfl),ag i' I.2.2.1 (fun e=>q' _ e rfl),ag i' I.2.2.2 (fun e=>q' _ e rfl)⟩) (fun I=>?_);clear Z K;refine tkH [9,10] ?_;refine dn ?_;rotate_left 1;exact Qx
    all_goals
     have P':OD w1 w9:=I.1;go_wp2_with fail;refine⟨⟨k+1,pre++[fv],by omega,by simp[S0],by go_num,jD (by rw[Pq];exact E'),jD ⟨?_,P'⟩⟩,by simp[intOf];omega⟩;have h:=HH.out;rw[QH];exact h
  ·have X2:¬(k:Int)<(l.length:Int):=by omega
   have T3:k=l.length:=by omega
   have M3:=jD (wG (l:=pre.map (·.kind)) (by rw[OL,S0];exact p'.out.2.1));have V3:=jD (kG (l:=pre) (by rw[S0];exact p'.out.1));have M1:=jD (fun W (hW:OD wr W)=>si op (pre.map (·.kind)) _ W (M3.out.stays ic hW));have B':FR=(pre,0):=by
    have h:=hI.out.1;rw[QL om,gA,Qf]at h;exact h.symm
   have Q':=HR.out;rw[B',tP]at Q';obtain⟨oe,K2⟩:∃e,opE op (pre.map (·.kind))=e:=⟨_,rfl⟩;rw[K2]at M1 Q';have K1:=jD Q';obtain⟨rv,t'⟩:∃r,iM op (pre.headD au) (pre.getLastD au)=r:=⟨_,rfl⟩;have U3:Hid (∀W,OD wr W->OE 219 #[OB op,.slice Ar k cr] W (.agg #[OB rv.kind,OB rv.num,.string rv.text])):=jD (fun W hW=>by
    have hv:=V3.out.stays aG hW;have hlen:=B3.out
    by_cases A2:op=12
    ·subst A2;rw[OG rfl]at hlen;have S3:pre.length=1:=by omega
     match pre,S3,hv,t' with
     | [a],_,hv,t' =>
      have h:=Bm a _ W hv;have e:iM 12 a a=rv:=t';rw[e]at h;exact h
    ·rw[OF A2]at hlen;have Q3:pre.length=2:=by omega
     match pre,Q3,hv,t' with
     | [a,b],_,hv,t' =>
      have h:=Be op a b _ W hv ⟨n5,by omega⟩;have e:iM op a b=rv:=t';rw[e]at h;exact h)
   obtain⟨q0,q1,q2,q3,q4,q5,q6,q7⟩:=mE (aw hb HX.out);rw[t']at K1;clear B' Q' K2 T3 t';go_wp2_with fail;refine (M1.out _ (OK _ _)).mono ?_;rintro e w3 ⟨rfl,K0⟩;have R':=jD (ae hb K0);have G2:=jD K0;obtain⟨q0,q1,q2,q3,q4,q5,q6,q7⟩:=mE (aw R'.out HX.out);obtain⟨a0,b0,c0,z0,z1,z2,f0,f1,f2⟩:=(HB.out.stays R'.out).facts;have h:=K1.out
   by_cases hz:oe=0
   case neg =>
    rw[OG hz]at h;injection h with e1 e2;subst e1 e2;have H3:(oe != 0)=true:=jQ hz;clear hz;go_wp2;exact OJ (v:=.tuple #[.agg #[OB 0,OB 0,.string ⟨#[]⟩],OB oe]) (by simp[results,results152,go_sem,am,z0,z1,z2]) rfl ⟨rfl,bH (ae z'.out R'.out) om _ _ _⟩
   subst hz;rw[OF jS]at h;injection h with e1 e2;subst e1 e2;clear z0 z1 z2 f0 f1 f2 a0 b0 c0 K0;go_wp2_with fail;refine (U3.out _ G2.out).mono ?_;rintro e w4 ⟨rfl,W3⟩;have H2:=jD (ae R'.out W3);obtain⟨a0,b0,c0,z0,z1,z2,f0,f1,f2⟩:=(HB.out.stays H2.out).facts;go_wp2;exact OJ (v:=.tuple #[.agg #[OB rv.kind,OB rv.num,.string rv.text],OB 0]) (by simp[results,results152,go_sem,am,z0,z1,z2]) rfl ⟨rfl,bH (ae z'.out H2.out) om _ _ _⟩
theorem DK(vs:List (List Evt))(v:Value)(own:Int)(ev:Evt)(u:Value)(I:∀k,(bR vs k).length<=1048576)(d:Nat):∀(x:Ex)(J:Value)(w:World),dU w v vs->bh w u ev.vals->bZ d w J x.args->bL x=0 ->
  OE 152 #[exV x J,.agg #[v],OB own,cM ev u] w (.tuple #[vlV (dK vs own ev x).1,OB (dK vs own ev x).2]):=by
 induction d with
 | zero=>exact qo 0 vs v own ev u I (fun d' h=>by omega)
 | succ d Z=>exact qo (d+1) vs v own ev u I (fun d' h=>Nat.succ.inj h▸Z)
theorem BD(d:Nat)(vs:List (List Evt))(v:Value)(own:Int)(ev:Evt)(u:Value)(d':∀k,(bR vs k).length<=1048576)(x:Ex)(vx:Value)(w:World)(hv:dU w v vs)(hu:bh w u ev.vals)(hx:bZ d w vx x.args)(hN:aC x<=1048576) :
  OE 74 #[exV x vx,.agg #[v],OB own,cM ev u] w (.tuple #[vlV (lD vs own ev x).1,OB (lD vs own ev x).2]):=by
 have Z:=jD (fun W (hW:OD w W)=>BA d x vx W (hx.stays (bi d) hW) hN);have g':=jD (fun W (hW:OD w W) (hn:bL x=0)=>DK vs v own ev u d' d x vx W (hv.stays cz hW) (hu.stays aG hW) (hx.stays (bi d) hW) hn);obtain⟨⟨RV,re⟩,hR⟩:∃r,lD vs own ev x=r:=⟨_,rfl⟩;obtain⟨ce,J⟩:∃c,gV x=c:=⟨_,rfl⟩;obtain⟨⟨QV,qe⟩,hQ⟩:∃r,dK vs own ev x=r:=⟨_,rfl⟩;have HR:Hid ((if ce≠0 then (au,ce) else (QV,qe))=(RV,re)):=jD (by rw[<-hR,<-J,<-hQ];rfl);have HN:Hid (ce=0->bL x=0):=jD (fun h=>tA (J.trans h));rw[hR];rw[J]at Z;rw[hQ]at g';clear hR J hQ d';obtain⟨op,l,vr,fl,kd,vl⟩:=x;obtain⟨A,c,rfl,-⟩:=hv;obtain⟨Au,cu,rfl,-⟩:=hu;obtain⟨Ax,cx,rfl,-⟩:=hx;unfold exV cM at *;simp only[Ex.op,Ex.args,Ex.vr,Ex.fl,Ex.kd,Ex.val]at *;unfold vlV at *;clear hN;go_enter func74,ntmps74;go_wp2_with fail;refine aJ fun W9 e9=>?_
 have hX:W9.heap[w.heap.size]?=some (.cells [.int .i64 op,.slice Ax l.length cx,.int .i64 vr,.int .i64 fl,.int .i64 kd,.int .i64 vl.kind,.int .i64 vl.num,.string vl.text].toArray 29 (0,0)):=by
  rw[e9];repeat (first|exact ax _ _ _ jS|apply aI)
 have hE:W9.heap[w.heap.size+1]?=some (.cells [.slice A vs.length c].toArray 65 (0,0)):=by
  rw[e9];repeat (first|exact ax _ _ _ jS|apply aI)
 have hV:W9.heap[w.heap.size+1+1]?=some (.cells [.int .i64 ev.src,.int .i64 ev.sq,.int .i64 ev.ty,.int .i64 ev.tm,.slice Au ev.vals.length cu].toArray 71 (0,0)):=by
  rw[e9];repeat (first|exact ax _ _ _ jS|apply aI)
 have hB:VBox W9 (w.heap.size+1+1+1):=⟨OB 0,OB 0,.string ⟨#[]⟩,by rw[e9];repeat (first|exact ax _ _ _ jS|apply aI)⟩;have a':OD w W9:=gb e9;clear e9;refine (Z.out _ a').mono ?_;rintro e w3 ⟨rfl,I⟩;have HX:=jD (aw I hX);have HE:=jD (aw I hE);have HV:=jD (aw I hV);have HB:=jD (hB.stays I);have c':=jD (ae a' I);obtain⟨X,f'⟩:=jF w.heap.size;rw[<-f']at HX HE HV HB ⊢;have k':w.heap.size<=X+1+1+1:=by omega
 clear hX hE hV hB a' I f' Z
 by_cases hz:ce=0
 case neg =>
  obtain⟨e1,e2⟩:au=RV/\ce=re:=by have h:=HR.out;rw[OG hz]at h;injection h with e1 e2;exact⟨e1,e2⟩
  subst e1 e2;have j':(ce != 0)=true:=jQ hz;obtain⟨a0,b0,c0,z0,z1,z2,f0,f1,f2⟩:=HB.out.facts;clear hz;go_wp2;exact OJ (v:=.tuple #[.agg #[OB 0,OB 0,.string ⟨#[]⟩],OB ce]) (by simp[results,results74,go_sem,am,z0,z1,z2]) rfl ⟨rfl,bH c'.out om _ _ _⟩
 subst hz;have i':=jD (HN.out rfl);obtain⟨e1,e2⟩:QV=RV/\qe=re:=by have h:=HR.out;rw[OF jS]at h;injection h with e1 e2;exact⟨e1,e2⟩
 subst e1 e2;obtain⟨q0,q1,q2,q3,q4,q5,q6,q7⟩:=mE HX.out;have r0:OC w3 (X+1) 0 (.slice A vs.length c):=ab HE.out 0;obtain⟨t0,t1,t2,t3,t4⟩:=I6 HV.out;go_wp2_with fail;refine (g'.out _ c'.out i'.out).mono ?_;rintro e w4 ⟨rfl,h'⟩;obtain⟨a0,b0,c0,z0,z1,z2,f0,f1,f2⟩:=(HB.out.stays h').facts;go_wp2;exact OJ (v:=.tuple #[.agg #[OB QV.kind,OB QV.num,.string QV.text],OB qe]) (by simp[results,results74,go_sem,am,z0,z1,z2]) rfl ⟨rfl,bH (ae c'.out h') om _ _ _⟩
theorem Bu(d:Nat)(vs:List (List Evt))(v:Value)(own:Int)(ev:Evt)(u:Value)(j':∀k,(bR vs k).length<=1048576)(x:Ex)(vx:Value)(w:World)(hv:dU w v vs)(hu:bh w u ev.vals)(hx:bZ d w vx x.args)(hN:aC x<=1048576) :
  OE 184 #[exV x vx,.agg #[v],OB own,cM ev u] w (.bool (cg vs own ev x)):=by
 have HE:=jD (fun(W:World)(hW:OD w W)=>BD d vs v own ev u j' x vx W (hv.stays cz hW) (hu.stays aG hW) (hx.stays (bi d) hW) hN);have HF:Hid (∀W,OE 49 #[.bool true] W (.agg #[OB 1,OB 1,.string ⟨#[]⟩])):=jD (fun W=>fV true W);obtain⟨A,c,rfl,-⟩:=hv;obtain⟨Au,cu,rfl,-⟩:=hu;obtain⟨Ax,cx,rfl,-⟩:=hx;obtain⟨r,hr⟩:=jE (lD vs own ev x);obtain⟨R,hR⟩:=jF (cg vs own ev x);have I:Hid (R=(decide (r.2=0)&&bI r.1 (bQ true))):=jD (by rw[hR,<-hr];rfl);rw[hr]at HE;rw[<-hR];clear hR hr;obtain⟨⟨J,Z,vt⟩,re⟩:=r;have HQ:Hid (∀W,(binOp .eql 27 (.agg #[OB J,OB Z,.string vt]) (.agg #[OB 1,OB 1,.string ⟨#[]⟩])).run prog W=.ok (.bool (bI ⟨J,Z,vt⟩ (bQ true))) W):=jD (fun W=>rF ⟨J,Z,vt⟩ (bQ true) W);obtain⟨q,hq⟩:=jE (bI ⟨J,Z,vt⟩ (bQ true));simp only at I HE;rw[hq]at HQ I;clear hq;unfold exV cM vlV at *;simp only at *;obtain⟨nx,a'⟩:∃n,n=x.args.length:=⟨_,rfl⟩;obtain⟨nu,f'⟩:∃n,n=ev.vals.length:=⟨_,rfl⟩;rw[<-a',<-f']at HE ⊢;clear a' f';go_enter func184,ntmps184;go_wp2_with fail;refine (HE.out _ jB).mono ?_;rintro e h ⟨rfl,d'⟩;have c':Hid (OD w h):=jD (ae jB d');clear d';have hQ:=HQ.out
 by_cases h0:re=0
 ·subst h0;obtain rfl:R=q:=by rw[I.out];simp
  clear I;go_wp2_with fail;refine cw (fun W=>W.cell? ⟨h.heap.size,0,none⟩=some (OB J)/\W.cell? ⟨h.heap.size,1,none⟩=some (OB Z)/\W.cell? ⟨h.heap.size,2,none⟩=some (.string vt)) (by repeat (first|exact aN _ _ _|exact aM|refine aT ?_ ?_)) kr kr ?hF ?_;(case hF=>(first|exact⟨‹_›,‹_›⟩|(go_simp;done)|(simp[*];done)|(repeat' (first|(refine And.intro ?_ ?_)|(go_simp;done)|exact aa (bA (OK _ _) _) (by assumption)|assumption))));intro g' i';have hG:Hid (Grows (fun W=>W.cell? ⟨h.heap.size,0,none⟩=some (OB J)/\W.cell? ⟨h.heap.size,1,none⟩=some (OB Z)/\W.cell? ⟨h.heap.size,2,none⟩=some (.string vt))):=(by repeat (first|exact aN _ _ _|exact aM|refine aT ?_ ?_));(repeat (go_big_quiet_step ((go_at_call 49;exact lg hG (fun W _=>HF.out W)))));clear hG i' g';refine QI ?_;rintro wq ⟨⟨w',k',h'⟩,rfl⟩;clear h';go_wp2;go_ret;exact⟨rfl,ae (bA c'.out _) k'⟩
 ·have l':(re==0)=false:=jQ h0;obtain rfl:R=false:=by rw[I.out];simp[h0]
  clear I h0;go_wp2_with fail
  go_big_region
  go_wp2;go_ret;exact⟨rfl,ae c'.out jB⟩
theorem DH(d:Nat)(vs:List (List Evt))(v:Value)(own:Int)(ev:Evt)(u:Value)(j':∀k,(bR vs k).length<=1048576)(x:Ex)(vx:Value)(w:World)(hv:dU w v vs)(hu:bh w u ev.vals)(hx:bZ d w vx x.args)(hN:aC x<=1048576) :
  OE 341 #[exV x vx,.agg #[v],OB own,cM ev u] w (.bool (cg vs own ev x)):=by
 have HE:=jD (fun(W:World)(hW:OD w W)=>D8 d vs v own ev u j' x vx W (hv.stays cz hW) (hu.stays aG hW) (hx.stays (bi d) hW) hN);have HF:Hid (∀W,OE 90 #[.bool true] W (.agg #[OB 1,OB 1,.string ⟨#[]⟩])):=jD (fun W=>ia true W);obtain⟨A,c,rfl,-⟩:=hv;obtain⟨Au,cu,rfl,-⟩:=hu;obtain⟨Ax,cx,rfl,-⟩:=hx;obtain⟨r,hr⟩:=jE (lD vs own ev x);obtain⟨R,hR⟩:=jF (cg vs own ev x);have I:Hid (R=(decide (r.2=0)&&bI r.1 (bQ true))):=jD (by rw[hR,<-hr];rfl);rw[hr]at HE;rw[<-hR];clear hR hr;obtain⟨⟨J,Z,vt⟩,re⟩:=r;have HQ:Hid (∀W,(binOp .eql 27 (.agg #[OB J,OB Z,.string vt]) (.agg #[OB 1,OB 1,.string ⟨#[]⟩])).run prog W=.ok (.bool (bI ⟨J,Z,vt⟩ (bQ true))) W):=jD (fun W=>rF ⟨J,Z,vt⟩ (bQ true) W);obtain⟨q,hq⟩:=jE (bI ⟨J,Z,vt⟩ (bQ true));simp only at I HE;rw[hq]at HQ I;clear hq;unfold exV cM vlV at *;simp only at *;obtain⟨nx,a'⟩:∃n,n=x.args.length:=⟨_,rfl⟩;obtain⟨nu,f'⟩:∃n,n=ev.vals.length:=⟨_,rfl⟩;rw[<-a',<-f']at HE ⊢;clear a' f';go_enter func341,ntmps341;go_wp2_with fail;refine (HE.out _ jB).mono ?_;rintro e h ⟨rfl,d'⟩;have c':Hid (OD w h):=jD (ae jB d');clear d';have hQ:=HQ.out
 by_cases h0:re=0
 ·subst h0;obtain rfl:R=q:=by rw[I.out];simp
  clear I;go_wp2_with fail;refine cw (fun W=>W.cell? ⟨h.heap.size,0,none⟩=some (OB J)/\W.cell? ⟨h.heap.size,1,none⟩=some (OB Z)/\W.cell? ⟨h.heap.size,2,none⟩=some (.string vt)) (by repeat (first|exact aN _ _ _|exact aM|refine aT ?_ ?_)) kr kr ?hF ?_;(case hF=>(first|exact⟨‹_›,‹_›⟩|(go_simp;done)|(simp[*];done)|(repeat' (first|(refine And.intro ?_ ?_)|(go_simp;done)|exact aa (bA (OK _ _) _) (by assumption)|assumption))));intro g' i';have hG:Hid (Grows (fun W=>W.cell? ⟨h.heap.size,0,none⟩=some (OB J)/\W.cell? ⟨h.heap.size,1,none⟩=some (OB Z)/\W.cell? ⟨h.heap.size,2,none⟩=some (.string vt))):=(by repeat (first|exact aN _ _ _|exact aM|refine aT ?_ ?_));(repeat (go_big_quiet_step ((go_at_call 90;exact lg hG (fun W _=>HF.out W)))));clear hG i' g';refine QI ?_;rintro wq ⟨⟨w',k',h'⟩,rfl⟩;clear h';go_wp2;go_ret;exact⟨rfl,ae (bA c'.out _) k'⟩
 ·have l':(re==0)=false:=jQ h0;obtain rfl:R=false:=by rw[I.out];simp[h0]
  clear I h0;go_wp2_with fail
  go_big_region
  go_wp2;go_ret;exact⟨rfl,ae c'.out jB⟩
theorem gP(h:s.length<=1048576)(k:Int):(bR (dy l s i) k).length<=1048576:=by
 unfold bR
 split
 ·simp
 ·next hk =>
  have I:k.toNat<(dy l s i).length:=by omega
  rw[R1,OH I,P3];have:=Gd (OH I);omega
theorem fh(l:List Evt):∀ar,fM l ar=ar.map (aU l)
 | []=>by rw[fM];rfl
 | a::r=>by rw[fM,OU,fh l r]
theorem kN(l:List Evt):∀ar,aR l ar=ar.map (bl l)
 | []=>by rw[aR];rfl
 | a::r=>by rw[aR,OU,kN l r]
theorem pG(l:List Evt)(x:Pt):aU l x=if x.op=0 then fun b i=>bO (em l x.ty x.vr x.cond b i) else if x.op=1 then mt (fM l x.args) else if x.op=2 then jI (fM l x.args) else if x.op=3 then Hx (fM l x.args)
  else if x.op=4 then gi (hdF (fM l x.args)) (l.length+1) else fun b i=>bO ((hdF (fM l x.args) b i).filter (cL l x.op x.ty x.vr x.sp x.cond b)):=by
 cases x;rw[aU];rfl
def ii(x:Pt)(ar:List Pt):Pt:=.mk x.op ar x.ty x.vr x.sc x.sp x.cond
theorem rD(x:Pt)(ar:List Pt):(ii x ar).op=x.op:=rfl
theorem fa(x:Pt)(ar:List Pt):(ii x ar).args=ar:=rfl
def ju(S:List Bs)(rest:Bs->Nat->List Bs)(b:Bs):List Bs:=S.flatMap fun s=>(rest (ah b s) (aK s+1)).map (ah s)
def io(l:List Evt)(x:Pt)(b:Bs)(i:Nat):List Bs :=
 if x.op=0 then em l x.ty x.vr x.cond b i
 else if x.op=1 then
  match x.args with
  | []=>[]
  | [a]=>aU l a b i
  | a::r=>ju (aU l a b i) (aU l (ii x r)) b
 else if x.op=2 then x.args.flatMap fun a=>aU l a b i
 else if x.op=3 then im (x.args.map fun a=>aU l a b i) []
 else match x.args with
  | []=>[]
  | a::_=>if x.op=4 then aU l a b i++ju (aU l a b i) (aU l x) b else (aU l a b i).filter (cL l x.op x.ty x.vr x.sp x.cond b)
theorem Fy(l:List Evt)(h:okA x=true):OkF l.length (aU l x):=fun b i s hs=>qX l x b i s ((rR l x h b i s).1 hs)
theorem Gu(h:okA x=true):∀a∈x.args,okA a=true:=by
 obtain⟨o,ar,ty,vr,Z,sp,c⟩:=x;rw[okA,ON]at h;have:∀ar:List Pt,vA ar=true->∀a∈ar,okA a=true:=fun ar=>by
  induction ar with
  | nil=>intro _ a I;simp at I
  | cons y r J =>
   intro h a I;rw[vA,ON]at h;rcases List.mem_cons.1 I with rfl|I
   ·exact h.1
   ·exact J h.2 a I
 exact this ar h.2
theorem lJ(l:List Evt)(x:Pt)(b:Bs)(i:Nat):(aU l x b i).Nodup:=by
 rw[pG]
 by_cases h0:x.op=0
 ·rw[OG h0];exact bG _
 rw[OF h0]
 by_cases h1:x.op=1
 ·rw[OG h1]
  cases fM l x.args with
  | nil=>rw[mt];exact Rr
  | cons f r =>
   rw[mt]
   split
   ·exact bG _
   ·exact bG _
 rw[OF h1]
 by_cases h:x.op=2
 ·rw[OG h];exact bG _
 rw[OF h]
 by_cases J:x.op=3
 ·rw[OG J];exact bG _
 rw[OF J]
 by_cases I:x.op=4
 ·rw[OG I,gi];exact bG _
 rw[OF I];exact bG _
theorem xL(l:List Evt)(h:okA x=true)(b:Bs)(i:Nat):aU l x b i=bO (io l x b i):=by
 have I:=Gu h;rw[pG];unfold io
 by_cases h0:x.op=0
 ·rw[OG h0,OG h0]
 rw[OF h0,OF h0]
 by_cases h1:x.op=1
 ·rw[OG h1,OG h1,fh]
  match har:x.args with
  | []=>rw[P6,mt];rfl
  | [a]=>rw[OU,P6,mt];rfl
  | a::c::r =>
   rw[OU,mt];have e:aU l (ii x (c::r))=mt ((c::r).map (aU l)):=by
    rw[pG,rD,OF h0,OG h1,fa,fh]
   rw[OF jS];show bO ((aU l a b i).flatMap fun s=>(mt ((c::r).map (aU l)) (ah b s) (aK s+1)).map (ah s))=bO (ju (aU l a b i) (aU l (ii x (c::r))) b);rw[e];rfl
 rw[OF h1,OF h1]
 by_cases J:x.op=2
 ·rw[OG J,OG J,fh];unfold jI;rw[R5]
 rw[OF J,OF J]
 by_cases h3:x.op=3
 ·rw[OG h3,OG h3,fh];unfold Hx;rw[PZ];rfl
 rw[OF h3,OF h3]
 by_cases Z:x.op=4
 ·rw[OG Z,fh]
  match har:x.args with
  | [] =>
   have:∀k,gi (hdF (([]:List Pt).map (aU l))) k b i=[]:=fun k=>by
    cases k with
    | zero=>rw[gi]
    | succ k=>rw[gi];rfl
   rw[this];rfl
  | a::r =>
   have hf:hdF ((a::r).map (aU l))=aU l a:=rfl;have a':OkF l.length (aU l a):=Fy l (I a (by rw[har];exact OR ..));have hx:aU l x=gi (aU l a) (l.length+1):=by
    rw[pG,OF h0,OF h1,OF J,OF h3,OG Z,fh,har,hf]
   show gi (hdF ((a::r).map (aU l))) (l.length+1) b i=bO (if x.op=4 then aU l a b i++ju (aU l a b i) (aU l x) b else (aU l a b i).filter (cL l x.op x.ty x.vr x.sp x.cond b));rw[OG Z,hf,gi,hx];unfold ju;refine congrArg (fun z=>bO (aU l a b i++z)) ?_;refine kE fun s hs=>?_
   have c':=(a' b i s hs).last;rw[qL a' l.length (l.length+1) _ _ om om]
 rw[OF Z,fh]
 match har:x.args with
 | []=>rfl
 | a::r =>
  show bO ((aU l a b i).filter _)=bO (if x.op=4 then _ else _);rw[OF Z]
end Go.Proofs.YteemngnialjaiaaGreatDoor
