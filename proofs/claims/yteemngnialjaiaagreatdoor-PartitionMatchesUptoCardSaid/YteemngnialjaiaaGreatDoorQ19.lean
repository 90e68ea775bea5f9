/- Part. -/
import Derived.Test.YteemngnialjaiaaGreatDoorQ12
import Derived.Test.YteemngnialjaiaaGreatDoorQ09
set_option maxRecDepth 100000
set_option maxHeartbeats 16000000
set_option linter.unusedVariables false
set_option linter.unusedSimpArgs false
namespace Go.Proofs.YteemngnialjaiaaGreatDoor
open Go.Proofs.Tryz Go.RowKit
variable {p:Prop}
theorem uaG(h:p:=by
  refine J.out _ _ (I) (fun I=>?_);clear J K;refine nxH 16 (fun K J=>?_)
  focus (go_simp;refine (f'.out _ (aS k'.out I.1 l')).mono ?_;rintro e w4 ⟨rfl,j'⟩)
  refine J.out _ _ (a' _ (dt I.1 (aE j' _)) (I.2.1.stays j')) (fun I=>?_);clear J K;refine nxH 17 (fun K J=>?_)
  focus (obtain⟨a0,b0,c0,z0,z1,z2,f0,f1,f2⟩:=I.2.1.facts;go_simp)
  refine J.out _ _ (a' _ (ci I.1 _ _ _) (I.2.1.set3 _ _ _)) (fun I=>?_);clear J K;refine tkH [18] ?_;refine dn ?_;have HF:=jD (aS k'.out I.1 l');go_wp2;exact OJ (v:=.tuple #[.agg #[OB rv.kind,OB rv.num,.string rv.text],OB 0]) (by simp[results,results44,go_sem,am,z0,z1,z2]) rfl ⟨rfl,HF.out⟩):p:=h
theorem th(d:Nat)(vs:List (List Evt))(v:Value)(own:Int)(ev:Evt)(u:Value)(m:Nat)(K2:∀k,(bR vs k).length<=1048576)(X0:∀d',d=d'+1->∀(x:Ex)(vx:Value)(w:World),dU w v vs->bh w u ev.vals->OpsAt w m->bZ d' w vx x.args->bL x=0 ->
   OE 44 #[oS v own ev u m,exV x vx] w (.tuple #[vlV (dK vs own ev x).1,OB (dK vs own ev x).2]))(x:Ex)(vx:Value)(w:World)(hv:dU w v vs)(hu:bh w u ev.vals)(ho:OpsAt w m)(hx:bZ d w vx x.args)(hn:bL x=0) :
  OE 44 #[oS v own ev u m,exV x vx] w (.tuple #[vlV (dK vs own ev x).1,OB (dK vs own ev x).2]):=by
 have Z0:=jD X0;have HV:=jD hv;have HU:=jD hu;have HO:=jD ho;obtain⟨G2,Z1⟩:=sQ hn;obtain⟨n0,n12,Q',K1⟩:=Dl G2;obtain⟨op,l,vr,fl,kd,vl⟩:=x;obtain⟨⟨RV,re⟩,hR⟩:∃r,dK vs own ev (.mk op l vr fl kd vl)=r:=⟨_,rfl⟩;rw[hR];simp only[Ex.op,Ex.args,Ex.fl]at n0 n12 Q' K1 Z1 hx;obtain⟨A,c,rfl,-⟩:=hv;obtain⟨Au,cu,rfl,-⟩:=hu;obtain⟨Ax,cx,rfl,h1,h2,M3⟩:=hx;have C2:=aP h1 h2;have HL:=jD M3;have Y2:=jD Z1;have Z3:=jD K1;have U3:=jD K2;clear X0 ho hn G2 Z1 h1 h2 M3 K1 K2;rw[xm]at hR
 by_cases Y':l.length=0
 ·obtain rfl:l=[]:=Po Y';rw[OG Y']at hR;have Z2:=yB n0 n12 Q'.symm;have A3:=jD (fun W (hW:OD w W)=>GQ vs _ own ev _ m (.mk op [] vr fl kd vl) Ax 0 cx W (HV.out.stays cz hW) (HU.out.stays aG hW) ⟨n0,Z2⟩ Z3.out (U3.out _));rw[hR]at A3;clear hR Y' Q' HL Y2 Z0 C2;unfold oS exV at *;simp only[Ex.op,Ex.args,Ex.vr,Ex.fl,Ex.kd,Ex.val,Ri]at *;unfold vlV at *;go_enter func44,ntmps44;go_wp2_with fail;refine aJ fun W9 e9=>?_
  have hB:VBox W9 (w.heap.size+1+1):=⟨OB 0,OB 0,.string ⟨#[]⟩,by rw[e9];repeat (first|exact ax _ _ _ jS|apply aI)⟩;have U0:OD w W9:=gb e9;clear e9;refine (A3.out _ U0).mono ?_;rintro e w1 ⟨rfl,S0⟩;obtain⟨a0,b0,c0,z0,z1,z2,f0,f1,f2⟩:=(hB.stays S0).facts;go_wp2;exact OJ (v:=.tuple #[.agg #[OB RV.kind,OB RV.num,.string RV.text],OB re]) (by simp[results,results44,go_sem,am,z0,z1,z2]) rfl ⟨rfl,bH (ae U0 S0) om _ _ _⟩
 have V4:((l.length:Int)==0)=false:=by rw[PA];omega
 rw[OF Y']at hR;obtain⟨n5,Y0⟩:=wZ n0 n12 om;rw[Y0]at Q';have S5:l.length<=2:=by split at Q'<;>omega
 obtain⟨FR,V'⟩:∃r,gA vs own ev l=r:=⟨_,rfl⟩;rw[V']at hR;have HR:=jD hR;have Y3:=jD V';have N':=jD Q';clear hR V' Y' Y0 Q';unfold oS exV at *;simp only[Ex.op,Ex.args,Ex.vr,Ex.fl,Ex.kd,Ex.val]at *;unfold vlV at *;obtain⟨i0,hi,F1,A2,V1⟩:=Ql kQ;obtain⟨i1,E1,W1,C1,G1⟩:=Ql wJ;go_enter func44,ntmps44;go_wp2_with fail;refine bV fun w1 e1=>?_
 have hE:w1.heap[w.heap.size]?=some (.cells [.slice A vs.length c,.int .i64 own,.int .i64 ev.src,.int .i64 ev.sq,.int .i64 ev.ty,.int .i64 ev.tm,.slice Au ev.vals.length cu,.map (some m)].toArray 116 (0,0)):=by
  rw[e1];repeat (first|exact ax _ _ _ jS|apply aI)
 have hX:w1.heap[w.heap.size+1]?=some (.cells [.int .i64 op,.slice Ax l.length cx,.int .i64 vr,.int .i64 fl,.int .i64 kd,.int .i64 vl.kind,.int .i64 vl.num,.string vl.text].toArray 29 (0,0)):=by
  rw[e1];repeat (first|exact ax _ _ _ jS|apply aI)
 have hB:VBox w1 (w.heap.size+1+1):=⟨OB 0,OB 0,.string ⟨#[]⟩,by rw[e1];repeat (first|exact ax _ _ _ jS|apply aI)⟩;have S0:OD w w1:=gb e1;have HE:=jD hE;have HX:=jD hX;have HB:=jD hB;have R':=jD S0;have X3:=hB.lt;obtain⟨X,W2⟩:=jF (w.heap.size+1);obtain⟨E,H2⟩:=jF w.heap.size;have H5:X+1<w1.heap.size:=by omega
 have U5:X<w1.heap.size:=by omega
 have B5:E<w1.heap.size:=by omega
 have W5:w.heap.size<=X:=by omega
 have S':E≠X+1:=by omega
 rw[<-W2]at HX HB ⊢;rw[<-H2]at HE ⊢;clear hE hX hB S0 e1 X3 W2 H2
 go_loopw [6,7,25] (fun av bv i wr=>∃(k:Nat)(pre:List Vl),k<=l.length/\pre.length=k/\i=OB k/\Hid (TW w1.heap.size av bv k k pre (pre.map (·.kind)) wr)/\Hid ((pre++(gA vs own ev (l.drop k)).1,(gA vs own ev (l.drop k)).2)=FR/\OD w1 wr)) (fun _ _ i _=>l.length-(intOf i).toNat)
 case atStart=>exact⟨0,[],OO _,rfl,rfl,jD ⟨⟨rfl,.inl ⟨rfl,rfl⟩⟩,⟨rfl,.inl ⟨rfl,rfl⟩⟩,fun g h=>by simp[Value.ownBlock]at h⟩,jD ⟨by rw[PN,Y3.out];rfl,OK _ _⟩⟩
 case round =>
  obtain⟨k,pre,hk,D',rfl,x',hI⟩:=hrel;have hb:=hI.out.2;obtain⟨Ar,cr,rfl⟩:=bw x'.out.1;obtain⟨Ak,ck,rfl⟩:=bw x'.out.2.1;have Y4:=hb.size;have K5:=jD (HB.out.stays hb)
  by_cases V2:k<l.length
  ·have V3:(k:Int)<(l.length:Int):=by omega
   obtain⟨b,o,rfl,U1⟩:=HL.out k l[k] (OH V2);have hg:=jD (OH V2);obtain⟨a,ha⟩:=jF (l[k]);rw[<-ha]at hg U1;clear ha;obtain⟨d',v',S2,Y1,p0,p1,p2,p3,p4,p5,p6,p7⟩:=vN (bi d _ _ _ _ _ (ae R'.out hb) U1);have U2:=Y2.out k a hg.out;have B4:=Y1;obtain⟨A',c',U4,-⟩:=B4;subst U4;obtain⟨⟨fv,fe⟩,hQ⟩:∃r,dK vs own ev a=r:=⟨_,rfl⟩;have HC:=jD (fun(W:World)(hW:OD wr W)=>Z0.out d' S2 a _ W (HV.out.stays cz (ae R'.out (ae hb hW))) (HU.out.stays aG (ae R'.out (ae hb hW))) (HO.out.stays (ae R'.out (ae hb hW))) (Y1.stays (bi d') hW) U2);rw[hQ]at HC;have HQ:=jD hQ;obtain⟨r0,r1,r2,r3,r4,r5,r6,r7⟩:=mE (aw hb HE.out);have T5:E<wr.heap.size:=by omega
   have A5:X<wr.heap.size:=by omega
   have W4:X+1<wr.heap.size:=by omega
   clear hQ U1 S2 Y1 U2;go_wp2_with fail;refine (HC.out _ ?_).mono ?_
   ·exact jB
   rintro e w2 ⟨rfl,X2⟩;have T':Hid (OD wr w2):=jD (ae (by exact jB) X2);have M1:=jD (ae hb T'.out);clear X2 r0 r1 r2 r3 r4 r5 r6 r7 p0 p1 p2 p3 p4 p5 p6 p7;have Z4:=M1.out.size;have H3:X+1<w2.heap.size:=by omega
   have h:=hI.out.1;rw[qj hg.out,HQ.out]at h
   by_cases hz:fe=0
   case neg =>
    rw[OG hz]at h;obtain⟨e1,e2⟩:au=RV/\fe=re:=by
     have h2:=HR.out;rw[<-h,yP,OG hz]at h2;injection h2 with e1 e2;exact⟨e1,e2⟩
    subst e1 e2;obtain⟨a0,b0,c0,z0,z1,z2,f0,f1,f2⟩:=(HB.out.stays M1.out).facts;have A4:(fe != 0)=true:=jQ hz;clear h hz;go_wp2;exact OJ (v:=.tuple #[.agg #[OB 0,OB 0,.string ⟨#[]⟩],OB fe]) (by simp[results,results44,go_sem,am,z0,z1,z2,H3]) rfl ⟨rfl,bA (bH (ae R'.out M1.out) om _ _ _) _⟩
   subst hz;rw[OF jS]at h;have HH:=jD h;clear h;go_wp2_with fail;refine bV fun w5 e5=>?_
   have q0:OC w5 w2.heap.size 0 (OB fv.kind):=jG e5;have q1:OC w5 w2.heap.size 1 (OB fv.num):=jG e5;have q2:OC w5 w2.heap.size 2 (.string fv.text):=jG e5;have S3:OD w2 w5:=gb e5;clear e5;have A1:=jD (ae T'.out S3);have S4:=jD (ae hb A1.out);have Z:=(x'.out.below A1.out).below (OK _ _).drew;have I':∀g,(Value.slice Ar k cr).ownBlock=some g->g≠w2.heap.size:=fun g hg=>by have:=(ao x'.out.1 hg).2;have:=T'.out.size;omega
   have G':∀g,(Value.slice Ak k ck).ownBlock=some g->g≠w2.heap.size:=fun g hg=>by have:=(ao x'.out.2.1 hg).2;have:=T'.out.size;omega
   obtain⟨av,T3⟩:=jF (Value.slice Ar k cr);obtain⟨bv,Q3⟩:=jF (Value.slice Ak k ck);rw[<-T3]at Z I' ⊢;rw[<-Q3]at Z G' ⊢;have V5:k<=2:=by omega
   clear T3 Q3 S3;refine PM ?_;refine PQ (S:=fun W=>OD w1 W/\OC W w2.heap.size 0 (OB fv.kind)/\OC W w2.heap.size 1 (OB fv.num)/\OC W w2.heap.size 2 (.string fv.text)) kr (⟨(S4.out).drew,q0,q1,q2⟩) (fun I=>?_);generalize w5.drew=wD at I Z ⊢;refine tkH [0,1,4,5,6] ?_;refine Qw (rs:=[2,7]) kr jS ?_;refine PI rfl (fun K J=>?_) ?_
   focus (go_simp;refine il (K:=fun W=>K _ W) (cs:=[OB fv.kind,OB fv.num,.string fv.text]) (n:=1) (sz:=3) rfl (by intro u hu;simp only[O7,Pw,Px]at hu;rcases hu with rfl|rfl|rfl<;>rfl) fun wA u' H'=>?_;have Z:=Z.below u';(try have r':=r'.stays u'))
   refine J.out _ _ (⟨ae I.1 u',aa u' I.2.1,aa u' I.2.2.1,aa u' I.2.2.2⟩) (fun I=>?_);clear J K
   try simp only[Act.put,O9,O6,O4]
   refine Qw (rs:=[3,7]) kr jS ?_;refine PI rfl (fun K J=>?_) ?_
   focus (have C0:=Z.1;refine cU _ (.tmp 39) (.tmp 41) 59 jR w1.heap.size 27 i0 _ 3 32 underlying59 hi F1 A2 V1 rfl dc av k (bS pre) jR Z.1 _ 1 1 _ jR H' (by unfold maxLen;omega) om (I.1.size) ?_;intro v8 w8 F' n' C';(try have r':=gI n' r' (fun e=>H0 _ e rfl));have Z:=Z.app6 F' n' C')
   refine J.out _ _ (⟨I.1.trans (aB n' I.1.size (fun g h=>(ao C0 h).1)),ag n' I.2.1 (fun e=>I' _ e rfl),ag n' I.2.2.1 (fun e=>I' _ e rfl),ag n' I.2.2.2 (fun e=>I' _ e rfl)⟩) (fun I=>?_);clear J K
   try simp only[Act.put,O9,O6,O4]
   refine nxH 7 (fun K J=>?_)
   focus (go_simp;(try have H0:∀g,av.ownBlock=some g->g≠_:=fun g hg=>Q7 (ao Z.1 hg).2);refine il (K:=fun W=>K _ W) (cs:=[OB fv.kind]) (n:=1) (sz:=1) rfl (by intro u hu;simp only[O7,Pw,Px]at hu;subst hu;rfl) fun wB m' r'=>?_;have Z:=Z.below m';(try have H':=H'.stays m'))
   refine J.out _ _ (⟨ae I.1 m',aa m' I.2.1,aa m' I.2.2.1,aa m' I.2.2.2⟩) (fun I=>?_);clear J K;refine nxH 8 (fun K J=>?_)
   focus (have K0:=Z.2.1;refine cU _ (.tmp 43) (.tmp 46) 23 jR w1.heap.size 3 i1 _ 1 8 underlying23 E1 W1 C1 G1 rfl dc bv k (eo (pre.map (·.kind))) jR Z.2.1 _ 1 1 _ jR r' (by unfold maxLen;omega) om (I.1.size) ?_;intro v9 w9 B' p' E';have Z':=Z.app7 B' p' E')
   refine J.out _ _ (⟨I.1.trans (aB p' I.1.size (fun g h=>(ao K0 h).1)),ag p' I.2.1 (fun e=>G' _ e rfl),ag p' I.2.2.1 (fun e=>G' _ e rfl),ag p' I.2.2.2 (fun e=>G' _ e rfl)⟩) (fun I=>?_);clear J K;refine tkH [9,10] ?_;refine dn ?_;rotate_left 1;refine PI rfl (fun K J=>?_) ?_
   focus (go_simp;(try have H0:∀g,av.ownBlock=some g->g≠_:=fun g hg=>Q7 (ao Z.1 hg).2);refine il (K:=fun W=>K _ W) (cs:=[OB fv.kind]) (n:=1) (sz:=1) rfl (by intro u hu;simp only[O7,Pw,Px]at hu;subst hu;rfl) fun wB m' r'=>?_;have Z:=Z.below m';(try have H':=H'.stays m'))
   refine J.out _ _ (⟨ae I.1 m',aa m' I.2.1,aa m' I.2.2.1,aa m' I.2.2.2⟩) (fun I=>?_);clear J K
   try simp only[Act.put,O9,O6,O4]
   refine nxH 3 (fun K J=>?_)
   focus (have C0:=Z.1;refine cU _ (.tmp 39) (.tmp 41) 59 jR w1.heap.size 27 i0 _ 3 32 underlying59 hi F1 A2 V1 rfl dc av k (bS pre) jR Z.1 _ 1 1 _ jR H' (by unfold maxLen;omega) om (I.1.size) ?_;intro v8 w8 F' n' C';(try have r':=gI n' r' (fun e=>H0 _ e rfl));have Z:=Z.app6 F' n' C')
   refine J.out _ _ (⟨I.1.trans (aB n' I.1.size (fun g h=>(ao C0 h).1)),ag n' I.2.1 (fun e=>I' _ e rfl),ag n' I.2.2.1 (fun e=>I' _ e rfl),ag n' I.2.2.2 (fun e=>I' _ e rfl)⟩) (fun I=>?_);clear J K;refine nxH 8 (fun K J=>?_)
   focus (have K0:=Z.2.1;refine cU _ (.tmp 43) (.tmp 46) 23 jR w1.heap.size 3 i1 _ 1 8 underlying23 E1 W1 C1 G1 rfl dc bv k (eo (pre.map (·.kind))) jR Z.2.1 _ 1 1 _ jR r' (by unfold maxLen;omega) om (I.1.size) ?_;intro v9 w9 B' p' E';have Z':=Z.app7 B' p' E')
   refine J.out _ _ (⟨I.1.trans (aB p' I.1.size (fun g h=>(ao K0 h).1)),ag p' I.2.1 (fun e=>G' _ e rfl),ag p' I.2.2.1 (fun e=>G' _ e rfl),ag p' I.2.2.2 (fun e=>G' _ e rfl)⟩) (fun I=>?_);clear J K;refine tkH [9,10] ?_;refine dn ?_;rotate_left 1;exact Qx;refine PI rfl (fun K J=>?_) ?_
   focus (go_simp;(try have H0:∀g,av.ownBlock=some g->g≠_:=fun g hg=>Q7 (ao Z.1 hg).2);refine il (K:=fun W=>K _ W) (cs:=[OB fv.kind]) (n:=1) (sz:=1) rfl (by intro u hu;simp only[O7,Pw,Px]at hu;subst hu;rfl) fun wB m' r'=>?_;have Z:=Z.below m';(try have H':=H'.stays m'))
   refine J.out _ _ (⟨ae I.1 m',aa m' I.2.1,aa m' I.2.2.1,aa m' I.2.2.2⟩) (fun I=>?_);clear J K
   try simp only[Act.put,O9,O6,O4]
   refine nxH 2 (fun K J=>?_)
   focus (go_simp;refine il (K:=fun W=>K _ W) (cs:=[OB fv.kind,OB fv.num,.string fv.text]) (n:=1) (sz:=3) rfl (by intro u hu;simp only[O7,Pw,Px]at hu;rcases hu with rfl|rfl|rfl<;>rfl) fun wA u' H'=>?_;have Z:=Z.below u';(try have r':=r'.stays u'))
   refine J.out _ _ (⟨ae I.1 u',aa u' I.2.1,aa u' I.2.2.1,aa u' I.2.2.2⟩) (fun I=>?_);clear J K;refine nxH 3 (fun K J=>?_)
   focus (have C0:=Z.1;refine cU _ (.tmp 39) (.tmp 41) 59 jR w1.heap.size 27 i0 _ 3 32 underlying59 hi F1 A2 V1 rfl dc av k (bS pre) jR Z.1 _ 1 1 _ jR H' (by unfold maxLen;omega) om (I.1.size) ?_;intro v8 w8 F' n' C';(try have r':=gI n' r' (fun e=>H0 _ e rfl));have Z:=Z.app6 F' n' C')
   refine J.out _ _ (⟨I.1.trans (aB n' I.1.size (fun g h=>(ao C0 h).1)),ag n' I.2.1 (fun e=>I' _ e rfl),ag n' I.2.2.1 (fun e=>I' _ e rfl),ag n' I.2.2.2 (fun e=>I' _ e rfl)⟩) (fun I=>?_);clear J K;refine nxH 8 (fun K J=>?_)
   focus (have K0:=Z.2.1;refine cU _ (.tmp 43) (.tmp 46) 23 jR w1.heap.size 3 i1 _ 1 8 underlying23 E1 W1 C1 G1 rfl dc bv k (eo (pre.map (·.kind))) jR Z.2.1 _ 1 1 _ jR r' (by unfold maxLen;omega) om (I.1.size) ?_;intro v9 w9 B' p' E';have Z':=Z.app7 B' p' E')
   refine J.out _ _ (⟨I.1.trans (aB p' I.1.size (fun g h=>(ao K0 h).1)),ag p' I.2.1 (fun e=>G' _ e rfl),ag p' I.2.2.1 (fun e=>G' _ e rfl),ag p' I.2.2.2 (fun e=>G' _ e rfl)⟩) (fun I=>?_);clear J K;refine tkH [9,10] ?_;refine dn ?_;rotate_left 1;exact Qx
   all_goals
    have U0:OD w1 w9:=I.1;go_wp2_with fail;refine⟨⟨k+1,pre++[fv],by omega,by simp[D'],by go_num,jD (by rw[Pq];exact Z'),jD ⟨?_,U0⟩⟩,by simp[intOf];omega⟩;have h:=HH.out;rw[QH];exact h
  ·have V3:¬(k:Int)<(l.length:Int):=by omega
   have K3:k=l.length:=by omega
   have K4:=jD (wG (l:=pre.map (·.kind)) (by rw[OL,D'];exact x'.out.2.1));have T4:=jD (kG (l:=pre) (by rw[D'];exact x'.out.1));have O2:=jD (fun W (hW:OD wr W)=>tZ op (pre.map (·.kind)) _ W (K4.out.stays ic hW));have V':FR=(pre,0):=by
    have h:=hI.out.1;rw[QL om,gA,Qf]at h;exact h.symm
   have V0:=HR.out;rw[V',tP]at V0;obtain⟨oe,B3⟩:∃e,opE op (pre.map (·.kind))=e:=⟨_,rfl⟩;rw[B3]at O2 V0;have W3:=jD V0;obtain⟨q0,q1,q2,q3,q4,q5,q6,q7⟩:=mE (aw hb HX.out);have HK:=jD K3;clear V' V0 B3 K3;go_wp2_with fail;refine (O2.out _ (OK _ _)).mono ?_;rintro e w3 ⟨rfl,T1⟩;have P':=jD (ae hb T1);have X4:=P'.out.size;have h:=W3.out;obtain⟨q0,q1,q2,q3,q4,q5,q6,q7⟩:=mE (aw P'.out HX.out);obtain⟨a0,b0,c0,z0,z1,z2,f0,f1,f2⟩:=(HB.out.stays P'.out).facts
   by_cases hz:oe=0
   case neg =>
    rw[OG hz]at h;injection h with e1 e2;subst e1 e2;have A4:(oe != 0)=true:=jQ hz;clear hz;go_wp2;exact OJ (v:=.tuple #[.agg #[OB 0,OB 0,.string ⟨#[]⟩],OB oe]) (by simp[results,results44,go_sem,am,z0,z1,z2]) rfl ⟨rfl,bH (ae R'.out P'.out) om _ _ _⟩
   subst hz;rw[OF jS]at h;obtain⟨rv,J'⟩:∃r,iM op (pre.headD au) (pre.getLastD au)=r:=⟨_,rfl⟩;rw[J']at h;injection h with e1 e2;subst e1 e2;have i':=jD (T4.out.stays aG T1);obtain⟨r0,r1,r2,r3,r4,r5,r6,r7⟩:=mE (aw P'.out HE.out);have y':=jD (HB.out.stays P'.out);have k':=jD (ae R'.out P'.out);obtain⟨g,hm,T2⟩:=HO.out;have HM:=jD hm;have HG:=jD T2;have l':w.heap.size<=X+1:=by omega
   have q':∀b o c,Value.slice Ar k cr=.slice (some ⟨b,o,none⟩) k c->b≠X+1:=fun b o c e=>by
    intro e2;have h:=ao x'.out.1 (g:=b) (by rw[e];rfl);omega
   clear q1 q2 q3 q4 q5 q6 q7 r0 r1 r2 r3 r4 r5 r6 hm T2 a0 b0 c0 z0 z1 z2 f0 f1 f2 T1;have P4:op=5\/op=6\/op=7\/op=8\/op=9\/op=10\/op=11\/op=12:=by omega
   rcases P4 with rfl|rfl|rfl|rfl|rfl|rfl|rfl|rfl
   ·obtain rfl:k=2:=by have h:=N'.out;have h2:=HK.out;rw[OF dc]at h;omega
    obtain⟨a,b,rfl⟩:∃a b,pre=[a,b]:=by
     match pre,D' with
     | [a,b],_=>exact⟨a,b,rfl⟩
    obtain⟨b1,o1,s',z',u0,u1,u2⟩:=bB (l:=[a,b]) i'.out (k:=0) jS;obtain⟨b2,o2,g',-,t0,t1,t2⟩:=bB (l:=[a,b]) i'.out (k:=1) jS;subst s';injection g' with g';injection g' with e1 e2;subst e1 e2;have h':b1≠X+1:=q' b1 o1 cr rfl;simp only[QW,QX,P1,QM,P9]at u0 u1 u2 t0 t1 t2;clear q';have f':Hid (∀W:World,OD w W->OE 87 #[OB a.num,OB b.num,.pointer (some ⟨g,0,none⟩)] W (.agg #[OB rv.kind,OB rv.num,.string rv.text])):=jD (fun W hW=>by
     have h:=Kn a.num b.num g W (aa hW HG.out);have e:fK (IntKind.i64.wrap (a.num+b.num))=rv:=J';rw[e]at h;exact h)
    have U':IntKind.i64.wrap 1=1:=eR (n:=1) om;have t':X≠X+1:=by omega
    have a':∀W,w3.grownBy W (some (X+1))->VBox W (X+1)->(fun W=>w3.grownBy W (some (X+1))/\VBox W (X+1)/\OC W E 7 (.map (some m))/\OC W X 0 (OB 5)/\OC W b1 (o1+1) (OB a.num)/\OC W b1 (o1+3+1) (OB b.num)) W:=fun W hg hv=>⟨hg,hv,ag hg r7 (fun e=>S' (by injection e with e;exact e.symm)),ag hg q0 (fun e=>t' (by injection e with e;exact e.symm)),ag hg u1 (fun e=>h' (by injection e with e;exact e.symm)),ag hg t1 (fun e=>h' (by injection e with e;exact e.symm))⟩
    go_wp2_with fail;refine PM ?_;refine PQ (S:=fun W=>w3.grownBy W (some (X+1))/\VBox W (X+1)/\OC W E 7 (.map (some m))/\OC W X 0 (OB 5)/\OC W b1 (o1+1) (OB a.num)/\OC W b1 (o1+3+1) (OB b.num)) kr (a' _ (aE (OK _ _).drew _) (y'.out.stays (OK _ _).drew)) (fun I=>?_);generalize w3.drew=wD at I ⊢;refine tkH [0,1,2,3,5,6,7,8,9,10,11,12,13,14,15] ?_;refine nxH 4 (fun K J=>?_)
    focus (refine js _ (.tmp 69) (.tmp 71) jR m 5 _ _ _ _ jR jR (aw (aS k'.out I.1 l') HM.out) jR ?_)
    exact uaG
   ·obtain rfl:k=2:=by have h:=N'.out;have h2:=HK.out;rw[OF dc]at h;omega
    obtain⟨a,b,rfl⟩:∃a b,pre=[a,b]:=by
     match pre,D' with
     | [a,b],_=>exact⟨a,b,rfl⟩
    obtain⟨b1,o1,s',z',u0,u1,u2⟩:=bB (l:=[a,b]) i'.out (k:=0) jS;obtain⟨b2,o2,g',-,t0,t1,t2⟩:=bB (l:=[a,b]) i'.out (k:=1) jS;subst s';injection g' with g';injection g' with e1 e2;subst e1 e2;have h':b1≠X+1:=q' b1 o1 cr rfl;simp only[QW,QX,P1,QM,P9]at u0 u1 u2 t0 t1 t2;clear q';have f':Hid (∀W:World,OD w W->OE 88 #[OB a.num,OB b.num,.pointer (some ⟨g,0,none⟩)] W (.agg #[OB rv.kind,OB rv.num,.string rv.text])):=jD (fun W hW=>by
     have h:=K7 a.num b.num g W (aa hW HG.out);have e:fK (IntKind.i64.wrap (a.num-b.num))=rv:=J';rw[e]at h;exact h)
    have U':IntKind.i64.wrap 1=1:=eR (n:=1) om;have t':X≠X+1:=by omega
    have a':∀W,w3.grownBy W (some (X+1))->VBox W (X+1)->(fun W=>w3.grownBy W (some (X+1))/\VBox W (X+1)/\OC W E 7 (.map (some m))/\OC W X 0 (OB 6)/\OC W b1 (o1+1) (OB a.num)/\OC W b1 (o1+3+1) (OB b.num)) W:=fun W hg hv=>⟨hg,hv,ag hg r7 (fun e=>S' (by injection e with e;exact e.symm)),ag hg q0 (fun e=>t' (by injection e with e;exact e.symm)),ag hg u1 (fun e=>h' (by injection e with e;exact e.symm)),ag hg t1 (fun e=>h' (by injection e with e;exact e.symm))⟩
    go_wp2_with fail;refine PM ?_;refine PQ (S:=fun W=>w3.grownBy W (some (X+1))/\VBox W (X+1)/\OC W E 7 (.map (some m))/\OC W X 0 (OB 6)/\OC W b1 (o1+1) (OB a.num)/\OC W b1 (o1+3+1) (OB b.num)) kr (a' _ (aE (OK _ _).drew _) (y'.out.stays (OK _ _).drew)) (fun I=>?_);generalize w3.drew=wD at I ⊢;refine tkH [0,1,2,3,5,6,7,8,9,10,11,12,13,14,15] ?_;refine nxH 4 (fun K J=>?_)
    focus (refine js _ (.tmp 69) (.tmp 71) jR m 6 _ _ _ _ jR jR (aw (aS k'.out I.1 l') HM.out) jR ?_)
    exact uaG
   ·obtain rfl:k=2:=by have h:=N'.out;have h2:=HK.out;rw[OF dc]at h;omega
    obtain⟨a,b,rfl⟩:∃a b,pre=[a,b]:=by
     match pre,D' with
     | [a,b],_=>exact⟨a,b,rfl⟩
    obtain⟨b1,o1,s',z',u0,u1,u2⟩:=bB (l:=[a,b]) i'.out (k:=0) jS;obtain⟨b2,o2,g',-,t0,t1,t2⟩:=bB (l:=[a,b]) i'.out (k:=1) jS;subst s';injection g' with g';injection g' with e1 e2;subst e1 e2;have h':b1≠X+1:=q' b1 o1 cr rfl;simp only[QW,QX,P1,QM,P9]at u0 u1 u2 t0 t1 t2;clear q';have f':Hid (∀W:World,OD w W->OE 89 #[OB a.num,OB b.num] W (.agg #[OB rv.kind,OB rv.num,.string rv.text])):=jD (fun W hW=>by
     have h:=K8 a.num b.num W;have e:bQ (decide (a.num<b.num))=rv:=J';rw[e]at h;exact h)
    have U':IntKind.i64.wrap 1=1:=eR (n:=1) om;have t':X≠X+1:=by omega
    have a':∀W,w3.grownBy W (some (X+1))->VBox W (X+1)->(fun W=>w3.grownBy W (some (X+1))/\VBox W (X+1)/\OC W E 7 (.map (some m))/\OC W X 0 (OB 7)/\OC W b1 (o1+1) (OB a.num)/\OC W b1 (o1+3+1) (OB b.num)) W:=fun W hg hv=>⟨hg,hv,ag hg r7 (fun e=>S' (by injection e with e;exact e.symm)),ag hg q0 (fun e=>t' (by injection e with e;exact e.symm)),ag hg u1 (fun e=>h' (by injection e with e;exact e.symm)),ag hg t1 (fun e=>h' (by injection e with e;exact e.symm))⟩
    go_wp2_with fail;refine PM ?_;refine PQ (S:=fun W=>w3.grownBy W (some (X+1))/\VBox W (X+1)/\OC W E 7 (.map (some m))/\OC W X 0 (OB 7)/\OC W b1 (o1+1) (OB a.num)/\OC W b1 (o1+3+1) (OB b.num)) kr (a' _ (aE (OK _ _).drew _) (y'.out.stays (OK _ _).drew)) (fun I=>?_);generalize w3.drew=wD at I ⊢;refine tkH [0,1,2,3,5,6,7,8,9,10,11,12,13,14,15] ?_;refine nxH 4 (fun K J=>?_)
    focus (refine js _ (.tmp 69) (.tmp 71) jR m 7 _ _ _ _ jR jR (aw (aS k'.out I.1 l') HM.out) jR ?_)
    exact uaG
   ·obtain rfl:k=2:=by have h:=N'.out;have h2:=HK.out;rw[OF dc]at h;omega
    obtain⟨a,b,rfl⟩:∃a b,pre=[a,b]:=by
     match pre,D' with
     | [a,b],_=>exact⟨a,b,rfl⟩
    obtain⟨b1,o1,s',z',u0,u1,u2⟩:=bB (l:=[a,b]) i'.out (k:=0) jS;obtain⟨b2,o2,g',-,t0,t1,t2⟩:=bB (l:=[a,b]) i'.out (k:=1) jS;subst s';injection g' with g';injection g' with e1 e2;subst e1 e2;have h':b1≠X+1:=q' b1 o1 cr rfl;simp only[QW,QX,P1,QM,P9]at u0 u1 u2 t0 t1 t2;clear q';have f':Hid (∀W:World,OD w W->OE 91 #[OB a.num,OB b.num] W (.agg #[OB rv.kind,OB rv.num,.string rv.text])):=jD (fun W hW=>by
     have h:=I9 a.num b.num W;have e:bQ (decide (a.num<=b.num))=rv:=J';rw[e]at h;exact h)
    have U':IntKind.i64.wrap 1=1:=eR (n:=1) om;have t':X≠X+1:=by omega
    have a':∀W,w3.grownBy W (some (X+1))->VBox W (X+1)->(fun W=>w3.grownBy W (some (X+1))/\VBox W (X+1)/\OC W E 7 (.map (some m))/\OC W X 0 (OB 8)/\OC W b1 (o1+1) (OB a.num)/\OC W b1 (o1+3+1) (OB b.num)) W:=fun W hg hv=>⟨hg,hv,ag hg r7 (fun e=>S' (by injection e with e;exact e.symm)),ag hg q0 (fun e=>t' (by injection e with e;exact e.symm)),ag hg u1 (fun e=>h' (by injection e with e;exact e.symm)),ag hg t1 (fun e=>h' (by injection e with e;exact e.symm))⟩
    go_wp2_with fail;refine PM ?_;refine PQ (S:=fun W=>w3.grownBy W (some (X+1))/\VBox W (X+1)/\OC W E 7 (.map (some m))/\OC W X 0 (OB 8)/\OC W b1 (o1+1) (OB a.num)/\OC W b1 (o1+3+1) (OB b.num)) kr (a' _ (aE (OK _ _).drew _) (y'.out.stays (OK _ _).drew)) (fun I=>?_);generalize w3.drew=wD at I ⊢;refine tkH [0,1,2,3,5,6,7,8,9,10,11,12,13,14,15] ?_;refine nxH 4 (fun K J=>?_)
    focus (refine js _ (.tmp 69) (.tmp 71) jR m 8 _ _ _ _ jR jR (aw (aS k'.out I.1 l') HM.out) jR ?_)
    exact uaG
   ·obtain rfl:k=2:=by have h:=N'.out;have h2:=HK.out;rw[OF dc]at h;omega
    obtain⟨a,b,rfl⟩:∃a b,pre=[a,b]:=by
     match pre,D' with
     | [a,b],_=>exact⟨a,b,rfl⟩
    obtain⟨b1,o1,s',z',u0,u1,u2⟩:=bB (l:=[a,b]) i'.out (k:=0) jS;obtain⟨b2,o2,g',-,t0,t1,t2⟩:=bB (l:=[a,b]) i'.out (k:=1) jS;subst s';injection g' with g';injection g' with e1 e2;subst e1 e2;have h':b1≠X+1:=q' b1 o1 cr rfl;simp only[QW,QX,P1,QM,P9]at u0 u1 u2 t0 t1 t2;clear q';have heq:=fun W=>rF a b W
    unfold vlV at heq;have f':Hid (∀W:World,OE 90 #[.bool (bI a b)] W (.agg #[OB rv.kind,OB rv.num,.string rv.text])):=jD (fun W=>by
     have h:=ia (bI a b) W;have e:bQ (bI a b)=rv:=J';rw[e]at h;exact h)
    have t':X≠X+1:=by omega
    have a':∀W,w3.grownBy W (some (X+1))->VBox W (X+1)->(fun W=>w3.grownBy W (some (X+1))/\VBox W (X+1)/\OC W b1 o1 (OB a.kind)/\OC W b1 (o1+1) (OB a.num)/\OC W b1 (o1+2) (.string a.text)/\OC W b1 (o1+3) (OB b.kind)/\OC W b1 (o1+3+1) (OB b.num)/\OC W b1 (o1+3+2) (.string b.text)) W:=fun W hg hv=>⟨hg,hv,ag hg u0 (fun e=>h' (by injection e with e;exact e.symm)),ag hg u1 (fun e=>h' (by injection e with e;exact e.symm)),ag hg u2 (fun e=>h' (by injection e with e;exact e.symm)),ag hg t0 (fun e=>h' (by injection e with e;exact e.symm)),ag hg t1 (fun e=>h' (by injection e with e;exact e.symm)),ag hg t2 (fun e=>h' (by injection e with e;exact e.symm))⟩
    go_wp2_with fail;refine PM ?_;refine PQ (S:=fun W=>w3.grownBy W (some (X+1))/\VBox W (X+1)/\OC W b1 o1 (OB a.kind)/\OC W b1 (o1+1) (OB a.num)/\OC W b1 (o1+2) (.string a.text)/\OC W b1 (o1+3) (OB b.kind)/\OC W b1 (o1+3+1) (OB b.num)/\OC W b1 (o1+3+2) (.string b.text)) kr (a' _ (aE (OK _ _).drew _) (y'.out.stays (OK _ _).drew)) (fun I=>?_);generalize w3.drew=wD at I ⊢;refine tkH [0,1,2,3,4,5,6] ?_;refine nxH 7 (fun K J=>?_)
    focus (go_simp;refine (f'.out _).mono ?_;rintro e w4 ⟨rfl,j'⟩)
    refine J.out _ _ (a' _ (dt I.1 (aE j' _)) (I.2.1.stays j')) (fun I=>?_);clear J K;refine nxH 8 (fun K J=>?_)
    focus (obtain⟨a0,b0,c0,z0,z1,z2,f0,f1,f2⟩:=I.2.1.facts;go_simp)
    refine J.out _ _ (a' _ (ci I.1 _ _ _) (I.2.1.set3 _ _ _)) (fun I=>?_);clear J K;refine tkH [9] ?_;refine dn ?_;have HF:=jD (aS k'.out I.1 l');go_wp2;exact OJ (v:=.tuple #[.agg #[OB rv.kind,OB rv.num,.string rv.text],OB 0]) (by simp[results,results44,go_sem,am,z0,z1,z2]) rfl ⟨rfl,HF.out⟩
   ·obtain rfl:k=2:=by have h:=N'.out;have h2:=HK.out;rw[OF dc]at h;omega
    obtain⟨a,b,rfl⟩:∃a b,pre=[a,b]:=by
     match pre,D' with
     | [a,b],_=>exact⟨a,b,rfl⟩
    obtain⟨b1,o1,s',z',u0,u1,u2⟩:=bB (l:=[a,b]) i'.out (k:=0) jS;obtain⟨b2,o2,g',-,t0,t1,t2⟩:=bB (l:=[a,b]) i'.out (k:=1) jS;subst s';injection g' with g';injection g' with e1 e2;subst e1 e2;have h':b1≠X+1:=q' b1 o1 cr rfl;simp only[QW,QX,P1,QM,P9]at u0 u1 u2 t0 t1 t2;clear q';have f':Hid (∀W:World,OD w W->OE 92 #[OB a.num,OB b.num] W (.agg #[OB rv.kind,OB rv.num,.string rv.text])):=jD (fun W hW=>by
     have h:=Hz a.num b.num W;have e:bQ (decide (a.num=1)&&decide (b.num=1))=rv:=J';rw[e]at h;exact h)
    have U':IntKind.i64.wrap 1=1:=eR (n:=1) om;have t':X≠X+1:=by omega
    have a':∀W,w3.grownBy W (some (X+1))->VBox W (X+1)->(fun W=>w3.grownBy W (some (X+1))/\VBox W (X+1)/\OC W E 7 (.map (some m))/\OC W X 0 (OB 10)/\OC W b1 (o1+1) (OB a.num)/\OC W b1 (o1+3+1) (OB b.num)) W:=fun W hg hv=>⟨hg,hv,ag hg r7 (fun e=>S' (by injection e with e;exact e.symm)),ag hg q0 (fun e=>t' (by injection e with e;exact e.symm)),ag hg u1 (fun e=>h' (by injection e with e;exact e.symm)),ag hg t1 (fun e=>h' (by injection e with e;exact e.symm))⟩
    go_wp2_with fail;refine PM ?_;refine PQ (S:=fun W=>w3.grownBy W (some (X+1))/\VBox W (X+1)/\OC W E 7 (.map (some m))/\OC W X 0 (OB 10)/\OC W b1 (o1+1) (OB a.num)/\OC W b1 (o1+3+1) (OB b.num)) kr (a' _ (aE (OK _ _).drew _) (y'.out.stays (OK _ _).drew)) (fun I=>?_);generalize w3.drew=wD at I ⊢;refine tkH [0,1,2,3,5,6,7,8,9,10,11,12,13,14,15] ?_;refine nxH 4 (fun K J=>?_)
    focus (refine js _ (.tmp 69) (.tmp 71) jR m 10 _ _ _ _ jR jR (aw (aS k'.out I.1 l') HM.out) jR ?_)
    exact uaG
   ·obtain rfl:k=2:=by have h:=N'.out;have h2:=HK.out;rw[OF dc]at h;omega
    obtain⟨a,b,rfl⟩:∃a b,pre=[a,b]:=by
     match pre,D' with
     | [a,b],_=>exact⟨a,b,rfl⟩
    obtain⟨b1,o1,s',z',u0,u1,u2⟩:=bB (l:=[a,b]) i'.out (k:=0) jS;obtain⟨b2,o2,g',-,t0,t1,t2⟩:=bB (l:=[a,b]) i'.out (k:=1) jS;subst s';injection g' with g';injection g' with e1 e2;subst e1 e2;have h':b1≠X+1:=q' b1 o1 cr rfl;simp only[QW,QX,P1,QM,P9]at u0 u1 u2 t0 t1 t2;clear q';have f':Hid (∀W:World,OD w W->OE 93 #[OB a.num,OB b.num] W (.agg #[OB rv.kind,OB rv.num,.string rv.text])):=jD (fun W hW=>by
     have h:=G4 a.num b.num W;have e:bQ (decide (a.num=1) || decide (b.num=1))=rv:=J';rw[e]at h;exact h)
    have U':IntKind.i64.wrap 1=1:=eR (n:=1) om;have t':X≠X+1:=by omega
    have a':∀W,w3.grownBy W (some (X+1))->VBox W (X+1)->(fun W=>w3.grownBy W (some (X+1))/\VBox W (X+1)/\OC W E 7 (.map (some m))/\OC W X 0 (OB 11)/\OC W b1 (o1+1) (OB a.num)/\OC W b1 (o1+3+1) (OB b.num)) W:=fun W hg hv=>⟨hg,hv,ag hg r7 (fun e=>S' (by injection e with e;exact e.symm)),ag hg q0 (fun e=>t' (by injection e with e;exact e.symm)),ag hg u1 (fun e=>h' (by injection e with e;exact e.symm)),ag hg t1 (fun e=>h' (by injection e with e;exact e.symm))⟩
    go_wp2_with fail;refine PM ?_;refine PQ (S:=fun W=>w3.grownBy W (some (X+1))/\VBox W (X+1)/\OC W E 7 (.map (some m))/\OC W X 0 (OB 11)/\OC W b1 (o1+1) (OB a.num)/\OC W b1 (o1+3+1) (OB b.num)) kr (a' _ (aE (OK _ _).drew _) (y'.out.stays (OK _ _).drew)) (fun I=>?_);generalize w3.drew=wD at I ⊢;refine tkH [0,1,2,3,5,6,7,8,9,10,11,12,13,14,15] ?_;refine nxH 4 (fun K J=>?_)
    focus (refine js _ (.tmp 69) (.tmp 71) jR m 11 _ _ _ _ jR jR (aw (aS k'.out I.1 l') HM.out) jR ?_)
    exact uaG
   ·obtain rfl:k=1:=by have h:=N'.out;have h2:=HK.out;rw[OG rfl]at h;omega
    obtain⟨a,rfl⟩:∃a,pre=[a]:=by
     match pre,D' with
     | [a],_=>exact⟨a,rfl⟩
    obtain⟨b1,o1,s',z',u0,u1,u2⟩:=bB (l:=[a]) i'.out (k:=0) jS;subst s';have h':b1≠X+1:=q' b1 o1 cr rfl;simp only[QW,QX,P1,QM,P9]at u0 u1 u2;clear q';have f':Hid (∀W:World,OD w W->OE 94 #[OB a.num,OB a.num] W (.agg #[OB rv.kind,OB rv.num,.string rv.text])):=jD (fun W hW=>by
     have h:=FT a.num a.num W;have e:bQ (!decide (a.num=1))=rv:=J';rw[e]at h;exact h)
    have U':IntKind.i64.wrap 0=0:=eR (n:=0) om;have t':X≠X+1:=by omega
    have a':∀W,w3.grownBy W (some (X+1))->VBox W (X+1)->(fun W=>w3.grownBy W (some (X+1))/\VBox W (X+1)/\OC W E 7 (.map (some m))/\OC W X 0 (OB 12)/\OC W b1 (o1+1) (OB a.num)) W:=fun W hg hv=>⟨hg,hv,ag hg r7 (fun e=>S' (by injection e with e;exact e.symm)),ag hg q0 (fun e=>t' (by injection e with e;exact e.symm)),ag hg u1 (fun e=>h' (by injection e with e;exact e.symm))⟩
    go_wp2_with fail;refine PM ?_;refine PQ (S:=fun W=>w3.grownBy W (some (X+1))/\VBox W (X+1)/\OC W E 7 (.map (some m))/\OC W X 0 (OB 12)/\OC W b1 (o1+1) (OB a.num)) kr (a' _ (aE (OK _ _).drew _) (y'.out.stays (OK _ _).drew)) (fun I=>?_);generalize w3.drew=wD at I ⊢;refine tkH [0,1,2,3,5,6,7,8,9,10,11,12,13,14,15] ?_;refine nxH 4 (fun K J=>?_)
    focus (refine js _ (.tmp 69) (.tmp 71) jR m 12 _ _ _ _ jR jR (aw (aS k'.out I.1 l') HM.out) jR ?_)
    exact uaG
theorem FF(vs:List (List Evt))(v:Value)(own:Int)(ev:Evt)(u:Value)(m:Nat)(I:∀k,(bR vs k).length<=1048576)(d:Nat):∀(x:Ex)(J:Value)(w:World),dU w v vs->bh w u ev.vals->OpsAt w m->bZ d w J x.args->bL x=0 ->
  OE 44 #[oS v own ev u m,exV x J] w (.tuple #[vlV (dK vs own ev x).1,OB (dK vs own ev x).2]):=by
 induction d with
 | zero=>exact th 0 vs v own ev u m I (fun d' h=>by omega)
 | succ d Z=>exact th (d+1) vs v own ev u m I (fun d' h=>Nat.succ.inj h▸Z)
theorem ua4(h:p:=by
  obtain⟨e1,e2⟩:au=RV/\10=re:=by have h:=r'.out;rw[uh]at h;injection h with e1 e2;exact⟨e1,e2⟩
  subst e1 e2;go_enter func217,ntmps217;go_wp2_with fail;refine aJ fun W9 e9=>?_
  have hB:VBox W9 (w.heap.size+1+1+1):=⟨OB 0,OB 0,.string ⟨#[]⟩,by rw[e9];repeat (first|exact ax _ _ _ jS|apply aI)⟩;have I:OD w W9:=gb e9;clear e9;refine (d'.out _ I).mono ?_;rintro e w2 ⟨rfl,J⟩;have s':=hB.stays J;have G':=s'.lt;obtain⟨a0,b0,c0,z0,z1,z2,f0,f1,f2⟩:=s'.facts;go_wp2;exact OJ (v:=.tuple #[.agg #[OB 0,OB 0,.string ⟨#[]⟩],OB 10]) (by simp[results,results217,go_sem,am,z0,z1,z2,G']) rfl ⟨rfl,bA (bH (ae I J) om _ _ _) _⟩):p:=h
theorem EP(vs:List (List Evt))(v:Value)(own:Int)(ev:Evt)(u:Value)(x:Ex)(Ax:Option Addr)(nx cx:Nat)(w:World)(hv:dU w v vs)(hu:bh w u ev.vals)(U0:0<=x.op/\x.op<=4)(hf:x.op=1\/x.op=4->0<=x.fl)(z':(bR vs x.vr).length<=1048576) :
  Calls prog 217 #[exV x (.slice Ax nx cx),.agg #[v],OB own,cM ev u] w fun e w' =>
   e=.returned (.tuple #[vlV (iV vs own ev x).1,OB (iV vs own ev x).2])/\OD w w':=by
 obtain⟨op,l,vr,fl,kd,vl⟩:=x;simp only[Ex.op,Ex.vr,Ex.fl]at U0 hf z';have HV:=jD hv;have HU:=jD hu;obtain⟨A1,c1,hl,Q'⟩:=CM vs v vr w hv;have x':=jD Q';have d':=jD (fun W (hW:OD w W)=>E6 vs v vr own ev u W (HV.out.stays cz hW) (HU.out.stays aG hW));obtain⟨A,c,rfl,-⟩:=hv;obtain⟨Au,cu,rfl,-⟩:=hu;obtain⟨evs,q'⟩:∃e,bR vs vr=e:=⟨_,rfl⟩;rw[q']at x' d' hl z';obtain⟨⟨RV,re⟩,hR⟩:∃r,iV vs own ev (.mk op l vr fl kd vl)=r:=⟨_,rfl⟩;rw[hR];have HR:=jD hR;have k':=jD q';have HL:=jD hl;have Z0:=jD z';have H2:(evs.length:Int)<=9223372036854775807:=by obtain⟨A',c',e,h1,h2,h3⟩:=hl;exact aP h1 h2
 clear q' hR z' hl Q';unfold exV cM at *;simp only[Ex.op,Ex.vr,Ex.fl,Ex.kd,Ex.val];unfold vlV at *;have N':op=0\/op=3\/op=4\/op=1\/op=2:=by omega
 clear U0;rcases N' with rfl|rfl|rfl|rfl|rfl
 ·obtain⟨e1,e2⟩:vl=RV/\0=re:=by have h:=HR.out;rw[CO]at h;injection h with e1 e2;exact⟨e1,e2⟩
  subst e1 e2;go_enter func217,ntmps217;go_wp2;exact OJ (v:=.tuple #[.agg #[OB vl.kind,OB vl.num,.string vl.text],OB 0]) (by simp[results,results217,go_sem]) rfl ⟨rfl,jB⟩
 ·obtain⟨e1,e2⟩:fK evs.length=RV/\0=re:=by have h:=HR.out;rw[CH,k'.out]at h;injection h with e1 e2;exact⟨e1,e2⟩
  subst e1 e2;go_enter func217,ntmps217;go_wp2_with fail;refine aJ fun W9 e9=>?_
  have hB:VBox W9 (w.heap.size+1+1+1):=⟨OB 0,OB 0,.string ⟨#[]⟩,by rw[e9];repeat (first|exact ax _ _ _ jS|apply aI)⟩;have I:OD w W9:=gb e9;clear e9;refine (x'.out _ I).mono ?_;rintro e w1 ⟨rfl,m'⟩;obtain⟨a0,b0,c0,z0,z1,z2,f0,f1,f2⟩:=(hB.stays m').facts;go_wp2;exact OJ (v:=.tuple #[.agg #[OB 0,OB evs.length,.string ⟨#[]⟩],OB 0]) (by simp[results,results217,go_sem,am,z0,z1,z2]) rfl ⟨rfl,bH (ae I m') om _ _ _⟩
 ·have V0:0<=fl:=hf jS;obtain⟨FR,P'⟩:∃r,dE fl evs=r:=⟨_,rfl⟩;have C0:Hid ((if FR.2≠0 then (au,6) else ofR kd FR.1 vl)=(RV,re)):=jD (by have h:=HR.out;rw[Dm,k'.out]at h;rw[<-h,<-P'];rfl);have K1:=jD P';obtain⟨i0,hi,G1,C2,Z1⟩:=Ql kQ;clear P' HR k' hf d';go_enter func217,ntmps217;go_wp2_with fail;refine aJ fun W9 e9=>?_
  have hX:W9.heap[w.heap.size]?=some (.cells [.int .i64 4,.slice Ax nx cx,.int .i64 vr,.int .i64 fl,.int .i64 kd,.int .i64 vl.kind,.int .i64 vl.num,.string vl.text].toArray 29 (0,0)):=by rw[e9];repeat (first|exact ax _ _ _ jS|apply aI)
  have hB:VBox W9 (w.heap.size+1+1+1):=⟨OB 0,OB 0,.string ⟨#[]⟩,by rw[e9];repeat (first|exact ax _ _ _ jS|apply aI)⟩;have I:OD w W9:=gb e9;clear e9;refine (x'.out _ I).mono ?_;rintro e w1 ⟨rfl,m'⟩;have HX:=jD (aw m' hX);have HB:=jD (hB.stays m');have C':=jD (ae I m');obtain⟨X,g'⟩:=jF w.heap.size;have j':=HB.out.lt;rw[<-g']at HX HB j' ⊢;have K0:w.heap.size<=X+1+1+1:=by omega
  have S0:X<w1.heap.size:=by omega
  clear hX hB I m' g';go_wp2_with fail
  go_loopw [10,12] (fun av i wr=>∃(k:Nat)(pre:List Vl),k<=evs.length/\pre.length=k/\i=OB k/\Hid (wr.ownsRow w1.heap.size 27 3 av k (bS pre))/\Hid ((pre++(dE fl (evs.drop k)).1,(dE fl (evs.drop k)).2)=FR/\OD w1 wr)) (fun _ i _=>evs.length-(intOf i).toNat)
  case atStart=>exact⟨0,[],OO _,rfl,rfl,jD ⟨rfl,.inl ⟨rfl,rfl⟩⟩,jD ⟨by rw[PN,K1.out];rfl,OK _ _⟩⟩
  case round =>
   obtain⟨k,pre,hk,V',rfl,t',hI⟩:=hrel;have hb:=hI.out.2;obtain⟨Ar,cr,rfl⟩:=bw t'.out;have O2:=hb.size
   by_cases F1:k<evs.length
   ·have C1:(k:Int)<(evs.length:Int):=by omega
    have hg:=jD (OH F1);obtain⟨a,ha⟩:=jF (evs[k]);rw[<-ha]at hg;clear ha;obtain⟨b,o,A',c',rfl,U2,i',p0,p1,p2,p3,p4⟩:=mM HL.out hg.out;have P4:=jD (aa C'.out p4);have Q3:Hid (w1.cell? ⟨X,3,none⟩=some (OB fl)):=jD (ab HX.out 3);have V1:=aa hb P4.out;have A2:=aa hb Q3.out;have p':=jD i';have h:=hI.out.1;rw[mI hg.out]at h;clear p0 p1 p2 p3 p4 i'
    by_cases hc:(a.vals.length:Int)<=fl
    ·rw[oa hc,OG jS]at h;obtain⟨e1,e2⟩:au=RV/\6=re:=by
      have h2:=C0.out;rw[<-h,OG jS]at h2;injection h2 with e1 e2;exact⟨e1,e2⟩
     subst e1 e2;clear h;go_wp2_with fail;refine cw (fun W=>W.cell? ⟨X,3,none⟩=some (OB fl)/\W.cell? ⟨b,o+k*5+4,none⟩=some (.slice A' a.vals.length c')) (by repeat (first|exact aN _ _ _|exact aM|refine aT ?_ ?_)) kr kr ?hF ?_;(case hF=>(first|exact⟨‹_›,‹_›⟩|(go_simp;done)|(simp[*];done)|(repeat' (first|(refine And.intro ?_ ?_)|(go_simp;done)|exact aa (bA (OK _ _) _) (by assumption)|assumption))));intro D' H';have hG:Hid (Grows (fun W=>W.cell? ⟨X,3,none⟩=some (OB fl)/\W.cell? ⟨b,o+k*5+4,none⟩=some (.slice A' a.vals.length c'))):=(by repeat (first|exact aN _ _ _|exact aM|refine aT ?_ ?_));(repeat (go_big_quiet_step (fail)));clear hG H' D';refine QI ?_;rintro _ ⟨⟨w',n',R'⟩,rfl⟩;obtain⟨a0,b0,c0,z0,z1,z2,f0,f1,f2⟩:=(HB.out.stays (ae hb n')).facts;go_wp2;exact OJ (v:=.tuple #[.agg #[OB 0,OB 0,.string ⟨#[]⟩],OB 6]) (by simp[results,results217,go_sem,am,z0,z1,z2]) rfl ⟨rfl,bH (ae C'.out (ae hb n')) om _ _ _⟩
    have B':fl<(a.vals.length:Int):=by omega
    rw[oh V0 B',OF jS]at h;have HH:=jD h;clear h hc;go_wp2_with fail;refine cw (fun W=>W.cell? ⟨X,3,none⟩=some (OB fl)/\W.cell? ⟨b,o+k*5+4,none⟩=some (.slice A' a.vals.length c')) (by repeat (first|exact aN _ _ _|exact aM|refine aT ?_ ?_)) kr kr ?hF ?_;(case hF=>(first|exact⟨‹_›,‹_›⟩|(go_simp;done)|(simp[*];done)|(repeat' (first|(refine And.intro ?_ ?_)|(go_simp;done)|exact aa (bA (OK _ _) _) (by assumption)|assumption))));intro D' H';have hG:Hid (Grows (fun W=>W.cell? ⟨X,3,none⟩=some (OB fl)/\W.cell? ⟨b,o+k*5+4,none⟩=some (.slice A' a.vals.length c'))):=(by repeat (first|exact aN _ _ _|exact aM|refine aT ?_ ?_));(repeat (go_big_quiet_step (fail)));clear hG H' D';refine QI ?_;rintro _ ⟨⟨w',n',R'⟩,rfl⟩;go_wp2_with fail;have M1:=jD (ae hb n');obtain⟨n,T'⟩:∃n:Nat,fl=n:=⟨fl.toNat,by omega⟩;obtain⟨bv,ov,E',Y',t0,t1,t2⟩:=bB (p'.out.stays aG C'.out) (k:=n) om;subst E';have hnt:fl.toNat=n:=by omega
    rw[hnt]at HH;obtain⟨fv,u'⟩:∃y,a.vals.getD n au=y:=⟨_,rfl⟩;rw[u']at t0 t1 t2 HH;have T0:=jD t0;have T1:=jD t1;have T2:=jD t2;have W2:(n:Int)<(a.vals.length:Int):=by omega
    rw[T']at Q3;have V2:k<1048576:=by have:=Z0.out;omega
    have hR:=(aF t'.out n');clear u' t0 t1 t2 R' n' B' hnt V1 A2 Y' T';obtain⟨av,X0⟩:=jF (Value.slice Ar k cr);rw[<-X0]at hR ⊢;clear X0;refine rgn (fun W=>OD w1 W/\OC W X 3 (OB n)/\OC W b (o+k*5+4) (.slice (some ⟨bv,ov,none⟩) a.vals.length c')/\OC W bv (ov+n*3) (OB fv.kind)/\OC W bv (ov+n*3+1) (OB fv.num)/\OC W bv (ov+n*3+2) (.string fv.text)) (Below w1.heap.size w1) (fun W hW=>⟨hW,aa hW Q3.out,aa hW P4.out,aa hW T0.out,aa hW T1.out,aa hW T2.out⟩) (M1.out.drew) (fun U' Z=>?_);have hR:=aF hR (OK _ _).drew;generalize World.drew _=wD at Z hR ⊢;refine tkH [0,1,2,3,4,5,6,7,8,9] ?_;refine nxH 10 (fun K hK=>?_)
    focus (go_simp;refine il (K:=fun W=>K _ W) (cs:=[OB fv.kind,OB fv.num,.string fv.text]) (n:=1) (sz:=3) rfl (by intro u hu;simp only[O7,Pw,Px]at hu;rcases hu with rfl|rfl|rfl<;>rfl) fun wA S' W1=>?_;have hR:=aF hR S')
    refine hK.out _ _ (U' _ (ae Z.1 S')) (fun Z=>?_);clear hK K;refine nxH 11 (fun K hK=>?_)
    focus (refine cU _ (.tmp 52) (.tmp 62) 59 jR w1.heap.size 27 i0 _ 3 32 underlying59 hi G1 C2 Z1 rfl dc av k (bS pre) jR hR _ 1 1 _ jR W1 (by unfold maxLen;omega) om (Z.1.size) ?_;intro v8 w8 J' G2 U1)
    refine hK.out _ _ (U' _ (Z.1.trans (aB G2 Z.1.size (fun g h=>(ao hR h).1)))) (fun Z=>?_);clear hK K;refine tkH [12] ?_;refine dn ?_;have E1:=Z.1;go_wp2_with fail
    go_roundw
    case rel =>
     refine⟨k+1,pre++[fv],by omega,by simp[V'],by go_num,jD (by rw[gD];exact J'),jD ?_⟩;have h:=HH.out;rw[QH];exact⟨h,E1⟩
    case measure=>simp[intOf];omega
   ·have C1:¬(k:Int)<(evs.length:Int):=by omega
    have p':Hid (bh wr (.slice Ar k cr) pre):=jD (kG (by rw[V'];exact t'.out));have H0:ofR kd pre vl=(RV,re):=by
     have h:=hI.out.1;rw[QL om,dE,Qf]at h;have h2:=C0.out;rw[<-h,OF jS]at h2;exact h2
    have HO:=jD (fun W (hW:OD wr W)=>Jk kd pre vl _ W (p'.out.stays aG hW));rw[H0]at HO;unfold vlV at HO;obtain⟨q0,q1,q2,q3,q4,q5,q6,q7⟩:=mE (aw hb HX.out);clear H0;go_wp2_with fail;refine (HO.out _ (OK _ _)).mono ?_;rintro e w2 ⟨rfl,J⟩;obtain⟨a0,b0,c0,z0,z1,z2,f0,f1,f2⟩:=(HB.out.stays (ae hb J)).facts;go_wp2;exact OJ (v:=.tuple #[.agg #[OB RV.kind,OB RV.num,.string RV.text],OB re]) (by simp[results,results217,go_sem,am,z0,z1,z2]) rfl ⟨rfl,bH (ae C'.out (ae hb J)) om _ _ _⟩
 ·obtain⟨R,l'⟩:∃r,oK evs (decide (vr=own)) ev=r:=⟨_,rfl⟩;have h':yU (.mk 1 l vr fl kd vl) R=(RV,re):=by have h:=HR.out;rw[po,k'.out,l']at h;exact h
  rw[l']at d';have r':=jD h';clear l' h' HR k'
  cases R with
  | none =>
   exact ua4
  | some la =>
  go_enter func217,ntmps217;go_wp2_with fail;refine aJ fun W9 e9=>?_
  have hX:W9.heap[w.heap.size]?=some (.cells [.int .i64 1,.slice Ax nx cx,.int .i64 vr,.int .i64 fl,.int .i64 kd,.int .i64 vl.kind,.int .i64 vl.num,.string vl.text].toArray 29 (0,0)):=by rw[e9];repeat (first|exact ax _ _ _ jS|apply aI)
  have hB:VBox W9 (w.heap.size+1+1+1):=⟨OB 0,OB 0,.string ⟨#[]⟩,by rw[e9];repeat (first|exact ax _ _ _ jS|apply aI)⟩;have I:OD w W9:=gb e9;clear e9;refine (d'.out _ I).mono ?_;rintro e w2 ⟨A',c',rfl,i',J⟩;have p':=jD i';have HX:=jD (aw J hX);have HB:=jD (hB.stays J);have y':=jD (ae I J);obtain⟨X,g'⟩:=jF w.heap.size;have j':=HB.out.lt;rw[<-g']at HX HB j' ⊢;have K0:w.heap.size<=X+1+1+1:=by omega
  have S0:X<w2.heap.size:=by omega
  obtain⟨q0,q1,q2,q3,q4,q5,q6,q7⟩:=mE HX.out;obtain⟨a0,b0,c0,z0,z1,z2,f0,f1,f2⟩:=HB.out.facts;clear hX hB I J g' i' d' x';have h:=r'.out;rw[Ai]at h;have V0:0<=fl:=hf jS;obtain⟨n,rfl⟩:∃n:Nat,fl=n:=⟨fl.toNat,by omega⟩
  by_cases hc:(la.vals.length:Int)<=(n:Int)
  ·rw[oa hc,OG jS]at h;injection h with e1 e2;subst e1 e2;go_wp2;exact OJ (v:=.tuple #[.agg #[OB 0,OB 0,.string ⟨#[]⟩],OB 6]) (by simp[results,results217,go_sem,am,z0,z1,z2,j']) rfl ⟨rfl,bA (bH y'.out om _ _ _) _⟩
  have B':(n:Int)<(la.vals.length:Int):=by omega
  rw[oh om B',OF jS,R2]at h;obtain⟨bv,ov,E',Y',t0,t1,t2⟩:=bB p'.out (k:=n) om;subst E';obtain⟨fv,u'⟩:∃y,la.vals.getD n au=y:=⟨_,rfl⟩;rw[u']at t0 t1 t2 h;obtain⟨ce,Y0⟩:∃c,cQ fv=c:=⟨_,rfl⟩;have F':=jD (fun W=>jO fv W);simp only[Y0]at F' h;unfold vlV at F';have HH:=jD h;clear h Y0 u' hc;go_wp2_with fail;refine (F'.out _).mono ?_;rintro e w3 ⟨rfl,I'⟩;have f':=(iW I').1;have y0:w3.cell? ⟨w2.heap.size,0,none⟩=some (OB la.src):=by rw[f'];rfl
  have y1:w3.cell? ⟨w2.heap.size,1,none⟩=some (OB la.sq):=by rw[f'];rfl
  have y2:w3.cell? ⟨w2.heap.size,2,none⟩=some (OB la.ty):=by rw[f'];rfl
  have y3:w3.cell? ⟨w2.heap.size,3,none⟩=some (OB la.tm):=by rw[f'];rfl
  have y4:w3.cell? ⟨w2.heap.size,4,none⟩=some (.slice (some ⟨bv,ov,none⟩) la.vals.length c'):=by rw[f'];rfl
  have a':OD w2 w3:=ae (ay w2 _) I';have Z':=jD (ae y'.out a');replace t0:=aa a' t0;replace t1:=aa a' t1;replace t2:=aa a' t2;replace q3:=aa a' q3;have K2:X+1+1+1<w3.heap.size:=by have:=a'.size;omega
  have Y1:=jD (HB.out.stays a');clear z0 z1 z2 f0 f1 f2 a0 b0 c0 q0 q1 q2 q4 q5 q6 q7 f' I' a';obtain⟨a0,b0,c0,z0,z1,z2,f0,f1,f2⟩:=Y1.out.facts;have h:=HH.out
  by_cases hc:ce=0
  case neg =>
   rw[OG hc]at h;injection h with e1 e2;subst e1 e2;have S2:(ce != 0)=true:=jQ hc;go_wp2;exact OJ (v:=.tuple #[.agg #[OB 0,OB 0,.string ⟨#[]⟩],OB ce]) (by simp[results,results217,go_sem,am,z0,z1,z2]) rfl ⟨rfl,bH Z'.out om _ _ _⟩
  subst hc;rw[OF jS]at h;injection h with e1 e2;subst e1 e2;go_wp2;exact OJ (v:=.tuple #[.agg #[OB fv.kind,OB fv.num,.string fv.text],OB 0]) (by simp[results,results217,go_sem,am,z0,z1,z2]) rfl ⟨rfl,bH Z'.out om _ _ _⟩
 ·obtain⟨R,l'⟩:∃r,oK evs (decide (vr=own)) ev=r:=⟨_,rfl⟩;have h':yU (.mk 2 l vr fl kd vl) R=(RV,re):=by have h:=HR.out;rw[pD,k'.out,l']at h;exact h
  rw[l']at d';have r':=jD h';clear l' h' HR k'
  cases R with
  | none =>
   exact ua4
  | some la =>
  go_enter func217,ntmps217;go_wp2_with fail;refine aJ fun W9 e9=>?_
  have hX:W9.heap[w.heap.size]?=some (.cells [.int .i64 2,.slice Ax nx cx,.int .i64 vr,.int .i64 fl,.int .i64 kd,.int .i64 vl.kind,.int .i64 vl.num,.string vl.text].toArray 29 (0,0)):=by rw[e9];repeat (first|exact ax _ _ _ jS|apply aI)
  have hB:VBox W9 (w.heap.size+1+1+1):=⟨OB 0,OB 0,.string ⟨#[]⟩,by rw[e9];repeat (first|exact ax _ _ _ jS|apply aI)⟩;have I:OD w W9:=gb e9;clear e9;refine (d'.out _ I).mono ?_;rintro e w2 ⟨A',c',rfl,i',J⟩;have p':=jD i';have HX:=jD (aw J hX);have HB:=jD (hB.stays J);have y':=jD (ae I J);obtain⟨X,g'⟩:=jF w.heap.size;have j':=HB.out.lt;rw[<-g']at HX HB j' ⊢;have K0:w.heap.size<=X+1+1+1:=by omega
  have S0:X<w2.heap.size:=by omega
  obtain⟨q0,q1,q2,q3,q4,q5,q6,q7⟩:=mE HX.out;obtain⟨a0,b0,c0,z0,z1,z2,f0,f1,f2⟩:=HB.out.facts;clear hX hB I J g' i' d' x';obtain⟨e1,e2⟩:fK la.tm=RV/\0=re:=by have h:=r'.out;rw[zT]at h;injection h with e1 e2;exact⟨e1,e2⟩
  subst e1 e2;go_wp2;exact OJ (v:=.tuple #[.agg #[OB 0,OB la.tm,.string ⟨#[]⟩],OB 0]) (by simp[results,results217,go_sem,am,z0,z1,z2,j']) rfl ⟨rfl,bA (bH y'.out om _ _ _) _⟩
end Go.Proofs.YteemngnialjaiaaGreatDoor
