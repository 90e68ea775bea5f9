/- Part. -/
import Derived.Test.YtokconodddedhaaGreatDoorQ12
import Derived.Test.YtokconodddedhaaGreatDoorQ13
set_option maxRecDepth 100000
set_option maxHeartbeats 16000000
set_option linter.unusedVariables false
set_option linter.unusedSimpArgs false
namespace Go.Proofs.YtokconodddedhaaGreatDoor
open Go.Proofs.Tryz Go.RowKit
theorem tA (d:Nat) (vs:List (List Evt)) (v:Value) (own:Int) (ev:Evt) (u:Value) (m:Nat) (Y0:∀k,(eG vs k).length<=1048576)
  (F':∀d',d=d'+1->∀(x:Ex) (vx:Value) (w:World),gH w v vs->aV w u ev.vals->OpsAt w m->aF d' w vx x.args->bO x=0->pg x=true ->
   KZ 58 #[rS v own ev u m,exV x vx] w (.tuple #[vlV (fD vs own ev x).1,KW (fD vs own ev x).2]))
  (x:Ex) (vx:Value) (w:World) (hv:gH w v vs) (hu:aV w u ev.vals) (ho:OpsAt w m) (hx:aF d w vx x.args) (hn:bO x=0) (E':pg x=true) :
  KZ 58 #[rS v own ev u m,exV x vx] w (.tuple #[vlV (fD vs own ev x).1,KW (fD vs own ev x).2]):=by
 have D':=jD F';have HV:=jD hv;have HU:=jD hu;have HO:=jD ho;obtain⟨R0,N0⟩:=Dh hn;obtain⟨Z',I'⟩:=Hm E';obtain⟨n0,L',m',P'⟩:=uu R0;obtain⟨op,l,vr,fl,kd,vl⟩:=x;obtain⟨⟨RV,re⟩,hR⟩:∃r,fD vs own ev (.mk op l vr fl kd vl)=r:=⟨_,rfl⟩;rw[hR];simp only[Ex.op,Ex.args,Ex.fl]at n0 L' m' P' N0 Z' I' hx;obtain⟨A,c,rfl,-⟩:=hv;obtain⟨Au,cu,rfl,-⟩:=hu;obtain⟨Ax,cx,rfl,h1,h2,E1⟩:=hx;have Q0:=ax h1 h2;have HL:=jD E1;have N1:=jD N0;have T1:=jD I';have V2:=jD P';have X2:=jD Y0;clear F' ho hn R0 N0 I' E' h1 h2 E1 P' Y0;rw[GY]at hR
 by_cases q':l.length=0
 ·obtain rfl:l=[]:=L3 q';rw[K7 q']at hR;have U1:=wY n0 L' m'.symm;have W1:=jD (fun W (hW:KY w W)=>ED vs _ own ev _ m (.mk op [] vr fl kd vl) Ax 0 cx W (HV.out.stays eT hW) (HU.out.stays aC hW) (show op=0\/op=1 by omega) V2.out (X2.out _));rw[hR]at W1;clear hR q' m' HL N1 T1 D' Q0 Z' U1;unfold rS exV at *;simp only[Ex.op,Ex.args,Ex.vr,Ex.fl,Ex.kd,Ex.val,MG]at *;unfold vlV at *;go_enter func58,ntmps58;go_wp2_with fail;refine aw fun W9 e9=>?_
  have hB:VBox W9 (w.heap.size+1+1):=⟨KW 0,KW 0,.string ⟨#[]⟩,by rw[e9];repeat (first|exact ap _ _ _ jS|apply aE)⟩;have B':KY w W9:=gb e9;clear e9;refine (W1.out _ B').mono ?_;rintro e w1 ⟨rfl,r'⟩;obtain⟨a0,b0,c0,z0,z1,z2,f0,f1,f2⟩:=(hB.stays r').facts;go_wp2;exact Lc (v:=.tuple #[.agg #[KW RV.kind,KW RV.num,.string RV.text],KW re]) (by simp[results,results58,go_sem,ba,z0,z1,z2]) rfl ⟨rfl,ic (ab B' r') om _ _ _⟩
 have H3:((l.length:Int)==0)=false:=by rw[LZ];omega
 rw[K6 q']at hR;obtain⟨n5,C'⟩:=Gg n0 L' om;have H6:Hid (op=6):=jD om;clear Z';rw[C']at m';have W3:l.length<=2:=by split at m'<;>omega
 obtain⟨FR,p'⟩:∃r,jf vs own ev l=r:=⟨_,rfl⟩;rw[p']at hR;have HR:=jD hR;have T2:=jD p';have Z2:=jD m';clear hR p' q' C' m';unfold rS exV at *;simp only[Ex.op,Ex.args,Ex.vr,Ex.fl,Ex.kd,Ex.val]at *;unfold vlV at *;obtain⟨i0,hi,H0,R',U'⟩:=LD mA;obtain⟨i1,V',P0,K0,X'⟩:=LD iA;go_enter func58,ntmps58;go_wp2_with fail;refine aP fun w1 e1=>?_
 have hE:w1.heap[w.heap.size]?=some (.cells [.slice A vs.length c,.int .i64 own,.int .i64 ev.src,.int .i64 ev.sq,.int .i64 ev.ty,.int .i64 ev.tm,.slice Au ev.vals.length cu,.map (some m)].toArray 130 (0,0)):=by
  rw[e1];repeat (first|exact ap _ _ _ jS|apply aE)
 have hX:w1.heap[w.heap.size+1]?=some (.cells [.int .i64 op,.slice Ax l.length cx,.int .i64 vr,.int .i64 fl,.int .i64 kd,.int .i64 vl.kind,.int .i64 vl.num,.string vl.text].toArray 29 (0,0)):=by
  rw[e1];repeat (first|exact ap _ _ _ jS|apply aE)
 have hB:VBox w1 (w.heap.size+1+1):=⟨KW 0,KW 0,.string ⟨#[]⟩,by rw[e1];repeat (first|exact ap _ _ _ jS|apply aE)⟩;have r':KY w w1:=gb e1;have HE:=jD hE;have HX:=jD hX;have HB:=jD hB;have k':=jD r';have U2:=hB.lt;obtain⟨X,S1⟩:=jF (w.heap.size+1);obtain⟨E,K1⟩:=jF w.heap.size;have U3:X+1<w1.heap.size:=by omega
 have O3:X<w1.heap.size:=by omega
 have R3:E<w1.heap.size:=by omega
 have V3:w.heap.size<=X:=by omega
 have K2:E≠X+1:=by omega
 rw[<-S1]at HX HB ⊢;rw[<-K1]at HE ⊢;clear hE hX hB r' e1 U2 S1 K1
 go_loopw [6,7,25] (fun av bv i wr=>∃(k:Nat) (pre:List Vl),k<=l.length/\pre.length=k/\i=KW k/\Hid (TW w1.heap.size av bv k k pre (pre.map (·.kind)) wr)/\Hid ((pre++(jf vs own ev (l.drop k)).1,(jf vs own ev (l.drop k)).2)=FR/\KY w1 wr)) (fun _ _ i _=>l.length-(intOf i).toNat)
 case atStart=>exact⟨0,[],Lb _,rfl,rfl,jD ⟨⟨rfl,.inl ⟨rfl,rfl⟩⟩,⟨rfl,.inl ⟨rfl,rfl⟩⟩,fun g h=>by simp[Value.ownBlock]at h⟩,jD ⟨by rw[L1,T2.out];rfl,La _ _⟩⟩
 case round =>
  obtain⟨k,pre,hk,z',rfl,a',hI⟩:=hrel;have hb:=hI.out.2;obtain⟨Ar,cr,rfl⟩:=ay a'.out.1;obtain⟨Ak,ck,rfl⟩:=ay a'.out.2.1;have Q3:=hb.size;have S3:=jD (HB.out.stays hb)
  by_cases U0:k<l.length
  ·have P2:(k:Int)<(l.length:Int):=by omega
   obtain⟨b,o,rfl,T'⟩:=HL.out k l[k] (K9 U0);have hg:=jD (K9 U0);obtain⟨a,ha⟩:=jF (l[k]);rw[<-ha]at hg T';clear ha;obtain⟨d',v',Z0,M',p0,p1,p2,p3,p4,p5,p6,p7⟩:=cL (ai d _ _ _ _ _ (ab k'.out hb) T');have A2:=N1.out k a hg.out;have B2:=T1.out k a hg.out;have W2:=M';obtain⟨A',c',Q2,-⟩:=W2;subst Q2;obtain⟨⟨fv,fe⟩,hQ⟩:∃r,fD vs own ev a=r:=⟨_,rfl⟩;have HC:=jD (fun (W:World) (hW:KY wr W)=>D'.out d' Z0 a _ W (HV.out.stays eT (ab k'.out (ab hb hW))) (HU.out.stays aC (ab k'.out (ab hb hW))) (HO.out.stays (ab k'.out (ab hb hW))) (M'.stays (ai d') hW) A2 B2);rw[hQ]at HC;have HQ:=jD hQ;obtain⟨r0,r1,r2,r3,r4,r5,r6,r7⟩:=AB (ao hb HE.out);have X3:E<wr.heap.size:=by omega
   have Z3:X<wr.heap.size:=by omega
   have K3:X+1<wr.heap.size:=by omega
   clear hQ T' Z0 M' A2;go_wp2_with fail;refine (HC.out _ ?_).mono ?_
   ·exact jB
   rintro e w2 ⟨rfl,S0⟩;have n':Hid (KY wr w2):=jD (ab (by exact jB) S0);have N':=jD (ab hb n'.out);clear S0 r0 r1 r2 r3 r4 r5 r6 r7 p0 p1 p2 p3 p4 p5 p6 p7;have Y3:=N'.out.size;have Y1:X+1<w2.heap.size:=by omega
   have h:=hI.out.1;rw[Az hg.out,HQ.out]at h
   by_cases hz:fe=0
   case neg =>
    rw[K7 hz]at h;obtain⟨e1,e2⟩:au=RV/\fe=re:=by
     have h2:=HR.out;rw[<-h,BI,K7 hz]at h2;injection h2 with e1 e2;exact⟨e1,e2⟩
    subst e1 e2;obtain⟨a0,b0,c0,z0,z1,z2,f0,f1,f2⟩:=(HB.out.stays N'.out).facts;have N2:(fe != 0)=true:=jQ hz;clear h hz;go_wp2;exact Lc (v:=.tuple #[.agg #[KW 0,KW 0,.string ⟨#[]⟩],KW fe]) (by simp[results,results58,go_sem,ba,z0,z1,z2,Y1]) rfl ⟨rfl,aJ (ic (ab k'.out N'.out) om _ _ _) _⟩
   subst hz;rw[K6 jS]at h;have HH:=jD h;clear h;go_wp2_with fail;refine aP fun w5 e5=>?_
   have q0:KX w5 w2.heap.size 0 (KW fv.kind):=jG e5;have q1:KX w5 w2.heap.size 1 (KW fv.num):=jG e5;have q2:KX w5 w2.heap.size 2 (.string fv.text):=jG e5;have A1:KY w2 w5:=gb e5;clear e5;have H':=jD (ab n'.out A1);have H2:=jD (ab hb H'.out);have D:=(a'.out.below H'.out).below (La _ _).drew;have i':∀g,(Value.slice Ar k cr).ownBlock=some g->g≠w2.heap.size:=fun g hg=>by have:=(ah a'.out.1 hg).2;have:=n'.out.size;omega
   have h':∀g,(Value.slice Ak k ck).ownBlock=some g->g≠w2.heap.size:=fun g hg=>by have:=(ah a'.out.2.1 hg).2;have:=n'.out.size;omega
   obtain⟨av,M1⟩:=jF (Value.slice Ar k cr);obtain⟨bv,X0⟩:=jF (Value.slice Ak k ck);rw[<-M1]at D i' ⊢;rw[<-X0]at D h' ⊢;have N3:k<=2:=by omega
   clear M1 X0 A1;refine wp_region_noPanic ?_;refine wp_region_held_drew (S:=fun W=>KY w1 W/\KX W w2.heap.size 0 (KW fv.kind)/\KX W w2.heap.size 1 (KW fv.num)/\KX W w2.heap.size 2 (.string fv.text)) kr (⟨(H2.out).drew,q0,q1,q2⟩) (fun z=>?_);generalize w5.drew=wD at z D ⊢;refine tkH [0,1,4,5,6] ?_;refine wpAnyH_ready (rs:=[2,7]) kr jS ?_;refine AllReadyH.cons rfl (fun K F=>?_) ?_
   focus (go_simp;refine qS (K:=fun W=>K _ W) (cs:=[KW fv.kind,KW fv.num,.string fv.text]) (n:=1) (sz:=3) rfl (by intro u hu;simp only[Lv,LM,LN]at hu;rcases hu with rfl|rfl|rfl<;>rfl) fun wA Z j'=>?_;have D:=D.below Z;(try have O:=O.stays Z))
   refine F.out _ _ (⟨ab z.1 Z,aa Z z.2.1,aa Z z.2.2.1,aa Z z.2.2.2⟩) (fun z=>?_);clear F K
   try simp only[Act.put,Lw,Lj,Lk]
   refine wpAnyH_ready (rs:=[3,7]) kr jS ?_;refine AllReadyH.cons rfl (fun K F=>?_) ?_
   focus (have x':=D.1;refine ed _ (.tmp 39) (.tmp 41) 56 jR w1.heap.size 27 i0 _ 3 32 underlying56 hi H0 R' U' rfl dc av k (bb pre) jR D.1 _ 1 1 _ jR j' (by unfold maxLen;omega) om (z.1.size) ?_;intro v8 w8 e' G g';(try have O:=nK G O (fun e=>s' _ e rfl));have D:=D.app6 e' G g')
   refine F.out _ _ (⟨z.1.trans (am G z.1.size (fun g h=>(ah x' h).1)),aI G z.2.1 (fun e=>i' _ e rfl),aI G z.2.2.1 (fun e=>i' _ e rfl),aI G z.2.2.2 (fun e=>i' _ e rfl)⟩) (fun z=>?_);clear F K
   try simp only[Act.put,Lw,Lj,Lk]
   refine nxH 7 (fun K F=>?_)
   focus (go_simp;(try have s':∀g,av.ownBlock=some g->g≠_:=fun g hg=>Ns (ah D.1 hg).2);refine qS (K:=fun W=>K _ W) (cs:=[KW fv.kind]) (n:=1) (sz:=1) rfl (by intro u hu;simp only[Lv,LM,LN]at hu;subst hu;rfl) fun wB I O=>?_;have D:=D.below I;(try have j':=j'.stays I))
   refine F.out _ _ (⟨ab z.1 I,aa I z.2.1,aa I z.2.2.1,aa I z.2.2.2⟩) (fun z=>?_);clear F K;refine nxH 8 (fun K F=>?_)
   focus (have u':=D.2.1;refine ed _ (.tmp 43) (.tmp 46) 23 jR w1.heap.size 3 i1 _ 1 8 underlying23 V' P0 K0 X' rfl dc bv k (bl (pre.map (·.kind))) jR D.2.1 _ 1 1 _ jR O (by unfold maxLen;omega) om (z.1.size) ?_;intro v9 w9 b' J f';have t':=D.app7 b' J f')
   refine F.out _ _ (⟨z.1.trans (am J z.1.size (fun g h=>(ah u' h).1)),aI J z.2.1 (fun e=>h' _ e rfl),aI J z.2.2.1 (fun e=>h' _ e rfl),aI J z.2.2.2 (fun e=>h' _ e rfl)⟩) (fun z=>?_);clear F K;refine tkH [9,10] ?_;refine wpAnyH_done kr (NoPanic.normal ?_) _;rotate_left 1;refine AllReadyH.cons rfl (fun K F=>?_) ?_
   focus (go_simp;(try have s':∀g,av.ownBlock=some g->g≠_:=fun g hg=>Ns (ah D.1 hg).2);refine qS (K:=fun W=>K _ W) (cs:=[KW fv.kind]) (n:=1) (sz:=1) rfl (by intro u hu;simp only[Lv,LM,LN]at hu;subst hu;rfl) fun wB I O=>?_;have D:=D.below I;(try have j':=j'.stays I))
   refine F.out _ _ (⟨ab z.1 I,aa I z.2.1,aa I z.2.2.1,aa I z.2.2.2⟩) (fun z=>?_);clear F K
   try simp only[Act.put,Lw,Lj,Lk]
   refine nxH 3 (fun K F=>?_)
   focus (have x':=D.1;refine ed _ (.tmp 39) (.tmp 41) 56 jR w1.heap.size 27 i0 _ 3 32 underlying56 hi H0 R' U' rfl dc av k (bb pre) jR D.1 _ 1 1 _ jR j' (by unfold maxLen;omega) om (z.1.size) ?_;intro v8 w8 e' G g';(try have O:=nK G O (fun e=>s' _ e rfl));have D:=D.app6 e' G g')
   refine F.out _ _ (⟨z.1.trans (am G z.1.size (fun g h=>(ah x' h).1)),aI G z.2.1 (fun e=>i' _ e rfl),aI G z.2.2.1 (fun e=>i' _ e rfl),aI G z.2.2.2 (fun e=>i' _ e rfl)⟩) (fun z=>?_);clear F K;refine nxH 8 (fun K F=>?_)
   focus (have u':=D.2.1;refine ed _ (.tmp 43) (.tmp 46) 23 jR w1.heap.size 3 i1 _ 1 8 underlying23 V' P0 K0 X' rfl dc bv k (bl (pre.map (·.kind))) jR D.2.1 _ 1 1 _ jR O (by unfold maxLen;omega) om (z.1.size) ?_;intro v9 w9 b' J f';have t':=D.app7 b' J f')
   refine F.out _ _ (⟨z.1.trans (am J z.1.size (fun g h=>(ah u' h).1)),aI J z.2.1 (fun e=>h' _ e rfl),aI J z.2.2.1 (fun e=>h' _ e rfl),aI J z.2.2.2 (fun e=>h' _ e rfl)⟩) (fun z=>?_);clear F K;refine tkH [9,10] ?_;refine wpAnyH_done kr (NoPanic.normal ?_) _;rotate_left 1;exact AllReadyH.nil;refine AllReadyH.cons rfl (fun K F=>?_) ?_
   focus (go_simp;(try have s':∀g,av.ownBlock=some g->g≠_:=fun g hg=>Ns (ah D.1 hg).2);refine qS (K:=fun W=>K _ W) (cs:=[KW fv.kind]) (n:=1) (sz:=1) rfl (by intro u hu;simp only[Lv,LM,LN]at hu;subst hu;rfl) fun wB I O=>?_;have D:=D.below I;(try have j':=j'.stays I))
   refine F.out _ _ (⟨ab z.1 I,aa I z.2.1,aa I z.2.2.1,aa I z.2.2.2⟩) (fun z=>?_);clear F K
   try simp only[Act.put,Lw,Lj,Lk]
   refine nxH 2 (fun K F=>?_)
   focus (go_simp;refine qS (K:=fun W=>K _ W) (cs:=[KW fv.kind,KW fv.num,.string fv.text]) (n:=1) (sz:=3) rfl (by intro u hu;simp only[Lv,LM,LN]at hu;rcases hu with rfl|rfl|rfl<;>rfl) fun wA Z j'=>?_;have D:=D.below Z;(try have O:=O.stays Z))
   refine F.out _ _ (⟨ab z.1 Z,aa Z z.2.1,aa Z z.2.2.1,aa Z z.2.2.2⟩) (fun z=>?_);clear F K;refine nxH 3 (fun K F=>?_)
   focus (have x':=D.1;refine ed _ (.tmp 39) (.tmp 41) 56 jR w1.heap.size 27 i0 _ 3 32 underlying56 hi H0 R' U' rfl dc av k (bb pre) jR D.1 _ 1 1 _ jR j' (by unfold maxLen;omega) om (z.1.size) ?_;intro v8 w8 e' G g';(try have O:=nK G O (fun e=>s' _ e rfl));have D:=D.app6 e' G g')
   refine F.out _ _ (⟨z.1.trans (am G z.1.size (fun g h=>(ah x' h).1)),aI G z.2.1 (fun e=>i' _ e rfl),aI G z.2.2.1 (fun e=>i' _ e rfl),aI G z.2.2.2 (fun e=>i' _ e rfl)⟩) (fun z=>?_);clear F K;refine nxH 8 (fun K F=>?_)
   focus (have u':=D.2.1;refine ed _ (.tmp 43) (.tmp 46) 23 jR w1.heap.size 3 i1 _ 1 8 underlying23 V' P0 K0 X' rfl dc bv k (bl (pre.map (·.kind))) jR D.2.1 _ 1 1 _ jR O (by unfold maxLen;omega) om (z.1.size) ?_;intro v9 w9 b' J f';have t':=D.app7 b' J f')
   refine F.out _ _ (⟨z.1.trans (am J z.1.size (fun g h=>(ah u' h).1)),aI J z.2.1 (fun e=>h' _ e rfl),aI J z.2.2.1 (fun e=>h' _ e rfl),aI J z.2.2.2 (fun e=>h' _ e rfl)⟩) (fun z=>?_);clear F K;refine tkH [9,10] ?_;refine wpAnyH_done kr (NoPanic.normal ?_) _;rotate_left 1;exact AllReadyH.nil
   all_goals
    have B':KY w1 w9:=z.1;go_wp2_with fail;refine⟨⟨k+1,pre++[fv],by omega,by simp[z'],by go_num,jD (by rw[LH];exact t'),jD ⟨?_,B'⟩⟩,by simp[intOf];omega⟩;have h:=HH.out;rw[L7];exact h
  ·have P2:¬(k:Int)<(l.length:Int):=by omega
   have T0:k=l.length:=by omega
   have R2:=jD (mc (l:=pre.map (·.kind)) (by rw[Lm,z'];exact a'.out.2.1));have O2:=jD (mi (l:=pre) (by rw[z'];exact a'.out.1));have R1:=jD (fun W (hW:KY wr W)=>lK op (pre.map (·.kind)) _ W (R2.out.stays aL hW));have p':FR=(pre,0):=by
    have h:=hI.out.1;rw[Lq om,jf,Mz]at h;exact h.symm
   have y':=HR.out;rw[p',DM]at y';obtain⟨oe,P1⟩:∃e,opE op (pre.map (·.kind))=e:=⟨_,rfl⟩;rw[P1]at R1 y';have S2:=jD y';obtain⟨q0,q1,q2,q3,q4,q5,q6,q7⟩:=AB (ao hb HX.out);have HK:=jD T0;clear p' y' P1 T0;go_wp2_with fail;refine (R1.out _ (La _ _)).mono ?_;rintro e w3 ⟨rfl,A0⟩;have l':=jD (ab hb A0);have P3:=l'.out.size;have h:=S2.out;obtain⟨q0,q1,q2,q3,q4,q5,q6,q7⟩:=AB (ao l'.out HX.out);obtain⟨a0,b0,c0,z0,z1,z2,f0,f1,f2⟩:=(HB.out.stays l'.out).facts
   by_cases hz:oe=0
   case neg =>
    rw[K7 hz]at h;injection h with e1 e2;subst e1 e2;have N2:(oe != 0)=true:=jQ hz;clear hz;go_wp2;exact Lc (v:=.tuple #[.agg #[KW 0,KW 0,.string ⟨#[]⟩],KW oe]) (by simp[results,results58,go_sem,ba,z0,z1,z2]) rfl ⟨rfl,ic (ab k'.out l'.out) om _ _ _⟩
   subst hz;rw[K6 jS]at h;obtain⟨rv,Z1⟩:∃r,zX op (pre.headD au) (pre.getLastD au)=r:=⟨_,rfl⟩;rw[Z1]at h;injection h with e1 e2;subst e1 e2;have G':=jD (O2.out.stays aC A0);obtain⟨r0,r1,r2,r3,r4,r5,r6,r7⟩:=AB (ao l'.out HE.out);have O1:=jD (HB.out.stays l'.out);have S':=jD (ab k'.out l'.out);obtain⟨g,hm,V1⟩:=HO.out;have HM:=jD hm;have HG:=jD V1;have O':w.heap.size<=X+1:=by omega
   have Q1:∀b o c,Value.slice Ar k cr=.slice (some ⟨b,o,none⟩) k c->b≠X+1:=fun b o c e=>by
    intro e2;have h:=ah a'.out.1 (g:=b) (by rw[e];rfl);omega
   clear q1 q2 q3 q4 q5 q6 q7 r0 r1 r2 r3 r4 r5 r6 hm V1 a0 b0 c0 z0 z1 z2 f0 f1 f2 A0;obtain rfl:op=6:=H6.out;obtain rfl:k=2:=by have h:=Z2.out;have h2:=HK.out;rw[K6 dc]at h;omega
   obtain⟨a,b,rfl⟩:∃a b,pre=[a,b]:=by
    match pre,z' with
    | [a,b],_=>exact⟨a,b,rfl⟩
   obtain⟨b1,o1,E2,A3,u0,u1,u2⟩:=nS (l:=[a,b]) G'.out (k:=0) jS;obtain⟨b2,o2,J',-,t0,t1,t2⟩:=nS (l:=[a,b]) G'.out (k:=1) jS;subst E2;injection J' with J';injection J' with e1 e2;subst e1 e2;have X1:b1≠X+1:=Q1 b1 o1 cr rfl;simp only[List.getD_cons_zero,List.getD_cons_succ,My,Nat.one_mul,Mc]at u0 u1 u2 t0 t1 t2;clear Q1;have Y':Hid (∀W:World,KY w W->KZ 108 #[KW a.num,KW b.num,.pointer (some ⟨g,0,none⟩)] W (.agg #[KW rv.kind,KW rv.num,.string rv.text])):=jD (fun W hW=>by
    have h:=I0 a.num b.num g W (aa hW HG.out);have e:uT (IntKind.i64.wrap (a.num-b.num))=rv:=Z1;rw[e]at h;exact h)
   have T3:IntKind.i64.wrap 1=1:=dM (n:=1) om;have Y2:X≠X+1:=by omega
   have O0:∀W,w3.grownBy W (some (X+1))->VBox W (X+1)->(fun W=>w3.grownBy W (some (X+1))/\VBox W (X+1)/\KX W E 7 (.map (some m))/\KX W X 0 (KW 6)/\KX W b1 (o1+1) (KW a.num)/\KX W b1 (o1+3+1) (KW b.num)) W:=fun W hg hv=>⟨hg,hv,aI hg r7 (fun e=>K2 (by injection e with e;exact e.symm)),aI hg q0 (fun e=>Y2 (by injection e with e;exact e.symm)),aI hg u1 (fun e=>X1 (by injection e with e;exact e.symm)),aI hg t1 (fun e=>X1 (by injection e with e;exact e.symm))⟩
   go_wp2_with fail;refine wp_region_noPanic ?_;refine wp_region_held_drew (S:=fun W=>w3.grownBy W (some (X+1))/\VBox W (X+1)/\KX W E 7 (.map (some m))/\KX W X 0 (KW 6)/\KX W b1 (o1+1) (KW a.num)/\KX W b1 (o1+3+1) (KW b.num)) kr (O0 _ (bx (La _ _).drew _) (O1.out.stays (La _ _).drew)) (fun z=>?_);generalize w3.drew=wD at z ⊢;refine tkH [0,1,2,3,5,6,7,8,9,10,11,12,13,14,15] ?_;refine nxH 4 (fun K F=>?_)
   focus (refine It _ (.tmp 69) (.tmp 71) jR m 6 _ _ _ _ jR jR (ao (iI S'.out z.1 O') HM.out) jR ?_)
   refine F.out _ _ (z) (fun z=>?_);clear F K;refine nxH 16 (fun K F=>?_)
   focus (go_simp;refine (Y'.out _ (iI S'.out z.1 O')).mono ?_;rintro e w4 ⟨rfl,V0⟩)
   refine F.out _ _ (O0 _ (gI z.1 (bx V0 _)) (z.2.1.stays V0)) (fun z=>?_);clear F K;refine nxH 17 (fun K F=>?_)
   focus (obtain⟨a0,b0,c0,z0,z1,z2,f0,f1,f2⟩:=z.2.1.facts;go_simp)
   refine F.out _ _ (O0 _ (qv z.1 _ _ _) (z.2.1.set3 _ _ _)) (fun z=>?_);clear F K;refine tkH [18] ?_;refine wpAnyH_done kr (NoPanic.normal ?_) _;rotate_left 1;have HF:=jD (iI S'.out z.1 O');go_wp2;exact Lc (v:=.tuple #[.agg #[KW rv.kind,KW rv.num,.string rv.text],KW 0]) (by simp[results,results58,go_sem,ba,z0,z1,z2]) rfl ⟨rfl,HF.out⟩
theorem E0 (vs:List (List Evt)) (v:Value) (own:Int) (ev:Evt) (u:Value) (m:Nat) (z:∀k,(eG vs k).length<=1048576) (d:Nat):∀(x:Ex) (D:Value) (w:World),gH w v vs->aV w u ev.vals->OpsAt w m->aF d w D x.args->bO x=0->pg x=true ->
  KZ 58 #[rS v own ev u m,exV x D] w (.tuple #[vlV (fD vs own ev x).1,KW (fD vs own ev x).2]):=by
 induction d with
 | zero=>exact tA 0 vs v own ev u m z (fun F h=>by omega)
 | succ d G=>exact tA (d+1) vs v own ev u m z (fun F h=>Ma h▸G)
def iy (vs:List (List Evt)) (own:Int) (ev:Evt) (x:Ex):Vl × Int:=if fJ x≠0 then (au,fJ x) else fD vs own ev x
theorem BY {x:Ex} (h:fJ x=0):bO x=0:=by
 unfold fJ at h
 split at h
 ·exact absurd h dc
 ·split at h
  ·exact absurd h dc
  ·exact h
theorem tG (d:Nat) (vs:List (List Evt)) (v:Value) (own:Int) (ev:Evt) (u:Value) (e':∀k,(eG vs k).length<=1048576)
  (x:Ex) (vx:Value) (w:World) (hv:gH w v vs) (hu:aV w u ev.vals) (hx:aF d w vx x.args) (hN:sh x) :
  KZ 17 #[exV x vx,.agg #[v],KW own,cJ ev u] w (.tuple #[vlV (iy vs own ev x).1,KW (iy vs own ev x).2]):=by
 have Z:=jD (fun W (hW:KY w W)=>kG d x vx W (hx.stays (ai d) hW) hN.1);have g':=jD (fun m W (hW:KY w W) (hm:OpsAt W m) (hn:bO x=0)=>E0 vs v own ev u m e' d x vx W (hv.stays eT hW) (hu.stays aC hW) hm (hx.stays (ai d) hW) hn hN.2);obtain⟨⟨RV,re⟩,hR⟩:∃r,iy vs own ev x=r:=⟨_,rfl⟩;obtain⟨ce,G⟩:∃c,fJ x=c:=⟨_,rfl⟩;obtain⟨⟨QV,qe⟩,hQ⟩:∃r,fD vs own ev x=r:=⟨_,rfl⟩;have HR:Hid ((if ce≠0 then (au,ce) else (QV,qe))=(RV,re)):=jD (by rw[<-hR,<-G,<-hQ];rfl);have HN:Hid (ce=0->bO x=0):=jD (fun h=>BY (G.trans h));rw[hR];rw[G]at Z;rw[hQ]at g';clear hR G hQ e';obtain⟨op,l,vr,fl,kd,vl⟩:=x;obtain⟨A,c,rfl,-⟩:=hv;obtain⟨Au,cu,rfl,-⟩:=hu;obtain⟨Ax,cx,rfl,-⟩:=hx;unfold exV cJ rS at *;simp only[Ex.op,Ex.args,Ex.vr,Ex.fl,Ex.kd,Ex.val]at *;unfold vlV at *;clear hN;go_enter func17,ntmps17;go_wp2_with fail;refine aw fun W9 e9=>?_
 have hX:W9.heap[w.heap.size]?=some (.cells [.int .i64 op,.slice Ax l.length cx,.int .i64 vr,.int .i64 fl,.int .i64 kd,.int .i64 vl.kind,.int .i64 vl.num,.string vl.text].toArray 29 (0,0)):=by
  rw[e9];repeat (first|exact ap _ _ _ jS|apply aE)
 have hE:W9.heap[w.heap.size+1]?=some (.cells [.slice A vs.length c].toArray 62 (0,0)):=by
  rw[e9];repeat (first|exact ap _ _ _ jS|apply aE)
 have hV:W9.heap[w.heap.size+1+1]?=some (.cells [.int .i64 ev.src,.int .i64 ev.sq,.int .i64 ev.ty,.int .i64 ev.tm,.slice Au ev.vals.length cu].toArray 68 (0,0)):=by
  rw[e9];repeat (first|exact ap _ _ _ jS|apply aE)
 have hB:VBox W9 (w.heap.size+1+1+1):=⟨KW 0,KW 0,.string ⟨#[]⟩,by rw[e9];repeat (first|exact ap _ _ _ jS|apply aE)⟩;have b':KY w W9:=gb e9;clear e9;refine (Z.out _ b').mono ?_;rintro e w3 ⟨rfl,F⟩;have HX:=jD (ao F hX);have HE:=jD (ao F hE);have HV:=jD (ao F hV);have HB:=jD (hB.stays F);have a':=jD (ab b' F);obtain⟨X,h'⟩:=jF w.heap.size;have j':=HB.out.lt;rw[<-h']at HX HE HV HB j' ⊢;have d':w.heap.size<=X+1+1+1:=by omega
 clear hX hE hV hB b' F h' Z
 by_cases hz:ce=0
 case neg =>
  obtain⟨O,e2⟩:au=RV/\ce=re:=by have h:=HR.out;rw[K7 hz]at h;injection h with O e2;exact⟨O,e2⟩
  subst O e2;have k':(ce != 0)=true:=jQ hz;obtain⟨a0,b0,c0,z0,z1,z2,f0,f1,f2⟩:=HB.out.facts;clear hz;go_wp2;exact Lc (v:=.tuple #[.agg #[KW 0,KW 0,.string ⟨#[]⟩],KW ce]) (by simp[results,results17,go_sem,ba,z0,z1,z2]) rfl ⟨rfl,ic a'.out om _ _ _⟩
 subst hz;have i':=jD (HN.out rfl);obtain⟨O,e2⟩:QV=RV/\qe=re:=by have h:=HR.out;rw[K6 jS]at h;injection h with O e2;exact⟨O,e2⟩
 subst O e2;obtain⟨q0,q1,q2,q3,q4,q5,q6,q7⟩:=AB HX.out;have r0:KX w3 (X+1) 0 (.slice A vs.length c):=af HE.out 0;obtain⟨t0,t1,t2,t3,t4⟩:=blk5 HV.out;have I:∀W,w3.grownBy W (some (X+1+1+1))->VBox W (X+1+1+1)->(fun W=>w3.grownBy W (some (X+1+1+1))/\VBox W (X+1+1+1)/\KX W X 0 (KW op)/\KX W X 1 (.slice Ax l.length cx)/\KX W X 2 (KW vr)/\KX W X 3 (KW fl)/\KX W X 4 (KW kd)/\KX W X 5 (KW vl.kind)/\KX W X 6 (KW vl.num)/\KX W X 7 (.string vl.text)/\KX W (X+1) 0 (.slice A vs.length c)/\KX W (X+1+1) 0 (KW ev.src)/\KX W (X+1+1) 1 (KW ev.sq)/\KX W (X+1+1) 2 (KW ev.ty)/\KX W (X+1+1) 3 (KW ev.tm)/\KX W (X+1+1) 4 (.slice Au ev.vals.length cu)) W:=fun W D hv=>⟨D,hv,aI D q0 (fun e=>by injection e with e;omega),aI D q1 (fun e=>by injection e with e;omega),aI D q2 (fun e=>by injection e with e;omega),aI D q3 (fun e=>by injection e with e;omega),aI D q4 (fun e=>by injection e with e;omega),aI D q5 (fun e=>by injection e with e;omega),aI D q6 (fun e=>by injection e with e;omega),aI D q7 (fun e=>by injection e with e;omega),aI D r0 (fun e=>by injection e with e;omega),aI D t0 (fun e=>by injection e with e;omega),aI D t1 (fun e=>by injection e with e;omega),aI D t2 (fun e=>by injection e with e;omega),aI D t3 (fun e=>by injection e with e;omega),aI D t4 (fun e=>by injection e with e;omega)⟩
 go_wp2_with fail;refine wp_region_noPanic ?_;refine wp_region_held_drew (S:=fun W=>w3.grownBy W (some (X+1+1+1))/\VBox W (X+1+1+1)/\KX W X 0 (KW op)/\KX W X 1 (.slice Ax l.length cx)/\KX W X 2 (KW vr)/\KX W X 3 (KW fl)/\KX W X 4 (KW kd)/\KX W X 5 (KW vl.kind)/\KX W X 6 (KW vl.num)/\KX W X 7 (.string vl.text)/\KX W (X+1) 0 (.slice A vs.length c)/\KX W (X+1+1) 0 (KW ev.src)/\KX W (X+1+1) 1 (KW ev.sq)/\KX W (X+1+1) 2 (KW ev.ty)/\KX W (X+1+1) 3 (KW ev.tm)/\KX W (X+1+1) 4 (.slice Au ev.vals.length cu)) kr (I _ (bx (La _ _).drew _) (HB.out.stays (La _ _).drew)) (fun z=>?_);generalize w3.drew=wD at z ⊢;refine tkH [0,1,2,5] ?_;refine nxH 3 (fun K J=>?_)
 focus (go_simp;refine (pI _).mono ?_;rintro e w4 ⟨m,rfl,hm,c'⟩)
 refine J.out _ _ (I _ (gI z.1 (bx c' _)) (z.2.1.stays c')) (fun z=>?_);clear J K;refine tkH [4] ?_;refine nxH 6 (fun K J=>?_)
 focus (go_simp;refine (g'.out m _ (iI a'.out z.1 d') hm i'.out).mono ?_;rintro e w5 ⟨rfl,f'⟩)
 refine J.out _ _ (I _ (gI z.1 (bx f' _)) (z.2.1.stays f')) (fun z=>?_);clear J K;refine tkH [7,8] ?_;refine nxH 9 (fun K J=>?_)
 focus (obtain⟨a0,b0,c0,z0,z1,z2,f0,f1,f2⟩:=z.2.1.facts;go_simp)
 refine J.out _ _ (I _ (qv z.1 _ _ _) (z.2.1.set3 _ _ _)) (fun z=>?_);clear J K;refine tkH [10] ?_;refine wpAnyH_done kr (NoPanic.normal ?_) _;rotate_left 1;have HF:=jD (iI a'.out z.1 d');go_wp2;exact Lc (v:=.tuple #[.agg #[KW QV.kind,KW QV.num,.string QV.text],KW qe]) (by simp[results,results17,go_sem,ba,z0,z1,z2]) rfl ⟨rfl,HF.out⟩
abbrev Bs:=List (Int × Nat)
def bg:Bs->Bs->Bs
 | [],b=>b
 | x::a,[]=>x::a
 | x::a,y::b=>if x.2<y.2 then x::bg a (y::b) else y::bg (x::a) b
termination_by a b=>a.length+b.length
def dp (s:Bs):Nat:=(s.getLast?.map (·.2)).getD 0
def qm (a b:Bs):Bool:=a.all fun x=>!(b.any fun y=>decide (y.2=x.2))
def eo (l:List Evt) (s:Bs) (i:Nat):List (List Evt):=(List.range 16).map fun (v:Nat)=>(s.filter fun x=>decide (x.2<i/\x.1=(v:Int))).filterMap fun x=>l[x.2]?
def eN (env:List (List Evt)) (own:Int) (ev:Evt) (c:Ex):Bool:=decide ((iy env own ev c).2=0)&&cC (iy env own ev c).1 (eE true)
def BQ:Evt:=⟨0,0,0,0,[]⟩
def eA (l:List Bs) (s:Bs):List Bs:=if l.contains s then l else l++[s]
def bd (l:List Bs):List Bs:=l.foldl eA []
def eJ (l:List Evt) (ty vr:Int) (c:Ex) (b:Bs) (i:Nat):List Bs :=
 ((List.range l.length).filter fun k=>decide (i<=k)&&(l[k]?.map fun e=>decide (e.ty=ty)&&eN (eo l b k) vr e c).getD false).map fun k=>[(vr,k)]
def qx (l:List Evt) (op ty vr sp:Int) (c:Ex) (b s:Bs):Bool :=
 if op=5 then (List.range (dp s)).all fun k=>!(decide ((s.head?.map (·.2)).getD 0<=k)&&!(s.any fun y=>decide (y.2=k))&&(l[k]?.map fun e=>decide (e.ty=ty)&&eN (eo l (bg b s) k) vr e c).getD false)
 else if op=6 then decide (IntKind.i64.wrap (((l[dp s]?.map (·.tm)).getD 0)-((l[(s.head?.map (·.2)).getD 0]?.map (·.tm)).getD 0))<=sp)
 else eN (eo l (bg b s) l.length) (-1) BQ c
abbrev Fnd:=Bs->Nat->List Bs
def jI:List Fnd->Fnd
 | []=>fun _ _=>[]
 | f::r=>if r.isEmpty then f else fun b i=>bd ((f b i).flatMap fun s=>(jI r (bg b s) (dp s+1)).map (bg s))
def rq (fs:List Fnd):Fnd:=fun b i=>bd (fs.flatMap fun f=>f b i)
def kj (out s:List Bs):List Bs:=bd (out.flatMap fun x=>(s.filter (qm x)).map (bg x))
def nJ:List Fnd->Fnd
 | []=>fun _ _=>[]
 | f::fs=>fun b i=>(fs.map fun g=>g b i).foldl kj (f b i)
def jg (f:Fnd):Nat->Fnd
 | 0=>fun _ _=>[]
 | k+1=>fun b i=>bd ((f b i).flatMap fun s=>s::(jg f k (bg b s) (dp s+1)).map (bg s))
def hdF (fs:List Fnd):Fnd:=fs.headD fun _ _=>[]
mutual
def iU (l:List Evt):Pt->Fnd
 | .mk o h ty vr _ sp c=>if o=0 then eJ l ty vr c else if o=1 then jI (cY l h) else if o=2 then rq (cY l h) else if o=3 then nJ (cY l h)
  else if o=4 then jg (hdF (cY l h)) (l.length+1) else fun b i=>(hdF (cY l h) b i).filter (qx l o ty vr sp c b)
def cY (l:List Evt):List Pt->List Fnd
 | []=>[]
 | a::r=>iU l a::cY l r
end
def lR:List (List Bs)->Bs->List Bs
 | [],w=>[w]
 | p::ps,w=>(p.filter (qm w)).flatMap fun s=>lR ps (bg w s)
def lI:List Fnd->Fnd
 | []=>fun _ _=>[]
 | f::r=>if r.isEmpty then fun b i=>bd (f b i) else fun b i=>bd ((f b i).flatMap fun s=>(lI r (bg b s) (dp s+1)).map (bg s))
def EU (fs:List Fnd):Fnd:=fun b i=>bd (lR (fs.map fun g=>g b i) [])
def fX (f:Fnd):Nat->Fnd
 | 0=>fun _ _=>[]
 | k+1=>fun b i=>bd (f b i++(f b i).flatMap fun s=>(fX f k (bg b s) (dp s+1)).map (bg s))
mutual
def bN (l:List Evt):Pt->Fnd
 | .mk o h ty vr _ sp c=>if o=0 then fun b i=>bd (eJ l ty vr c b i) else if o=1 then lI (fH l h) else if o=2 then rq (fH l h) else if o=3 then EU (fH l h)
  else if o=4 then fX (hdF (fH l h)) (l.length+1) else fun b i=>bd ((hdF (fH l h) b i).filter (qx l o ty vr sp c b))
def fH (l:List Evt):List Pt->List Fnd
 | []=>[]
 | a::r=>bN l a::fH l r
end
theorem Da {l:List Bs} {s x:Bs}:x∈eA l s↔x∈l\/x=s:=by
 unfold eA
 split
 ·next h =>
  rw[ND]at h;constructor
  ·exact .inl
  ·rintro (z|rfl)
   ·exact z
   ·exact h
 ·simp
theorem bI {l:List Bs} {x:Bs}:x∈bd l↔x∈l:=by
 have:∀(l o:List Bs),x∈l.foldl eA o↔x∈o\/x∈l:=fun l=>by
  induction l with
  | nil=>intro o;simp
  | cons a l h=>intro o;rw[Ms,h,Da,Lv,Mu]
 unfold bd;rw[this];simp
theorem xH {l:List Bs} {s:Bs} (h:l.Nodup):(eA l s).Nodup:=by
 unfold eA
 split
 ·exact h
 ·next z =>
  rw[ND]at z;rw[List.nodup_append];refine⟨h,by simp,fun a F b D=>?_⟩;rw[Lz]at D;subst D;exact fun e=>z (e▸F)
theorem cI (l:List Bs):(bd l).Nodup:=by
 have:∀(l o:List Bs),o.Nodup->(l.foldl eA o).Nodup:=fun l=>by
  induction l with
  | nil=>exact fun o h=>h
  | cons a l z=>exact fun o h=>z _ (xH h)
 exact this l [] Nt
def EqF (f g:Fnd):Prop:=∀b i x,x∈f b i↔x∈g b i
def EqL (fs gs:List Fnd):Prop:=fs.length=gs.length/\∀(k:Nat) f g,fs[k]?=some f->gs[k]?=some g->EqF f g
theorem EqL.cons {f g:Fnd} {fs gs:List Fnd} (h:EqF f g) (hs:EqL fs gs):EqL (f::fs) (g::gs):=by
 refine⟨by rw[Lt,Lt,hs.1],fun k a b z D=>?_⟩
 cases k with
 | zero=>simp at z D;subst z D;exact h
 | succ k=>exact hs.2 k a b (jQ z) (jQ D)
theorem EqL.inv {f g:Fnd} {fs gs:List Fnd} (h:EqL (f::fs) (g::gs)):EqF f g/\EqL fs gs :=
 ⟨h.2 0 f g rfl rfl,jQ h.1,fun k a b z D=>h.2 (k+1) a b (jQ z) (jQ D)⟩
theorem EqL.ind {P:List Fnd->List Fnd->Prop} (h0:P [] []) (z:∀f g fs gs,EqF f g->EqL fs gs->P fs gs->P (f::fs) (g::gs)):∀{fs gs:List Fnd},EqL fs gs->P fs gs
 | [],[],_=>h0
 | [],_::_,h=>by have:=h.1;simp at this
 | _::_,[],h=>by have:=h.1;simp at this
 | f::fs,g::gs,h=>z f g fs gs h.inv.1 h.inv.2 (EqL.ind h0 z h.inv.2)
theorem J4 {fs gs:List Fnd} (h:EqL fs gs):EqF (lI fs) (jI gs):=by
 refine EqL.ind (P:=fun fs gs=>EqF (lI fs) (jI gs)) (fun b i x=>by rw[lI,jI]) (fun f g fs gs hf I G=>?_) h;intro b i x;rw[lI,jI];have z:fs.isEmpty=gs.isEmpty:=by have:=I.1;cases fs<;>cases gs<;>simp_all
 rw[z]
 split
 ·rw[bI];exact hf b i x
 ·rw[bI,bI,L2,L2];constructor
  ·rintro⟨s,hs,F⟩;obtain⟨t,D,rfl⟩:=List.mem_map.1 F;exact⟨s,(hf b i s).1 hs,List.mem_map.2 ⟨t,(G _ _ t).1 D,rfl⟩⟩
  ·rintro⟨s,hs,F⟩;obtain⟨t,D,rfl⟩:=List.mem_map.1 F;exact⟨s,(hf b i s).2 hs,List.mem_map.2 ⟨t,(G _ _ t).2 D,rfl⟩⟩
theorem KN {fs gs:List Fnd} (h:EqL fs gs):EqF (rq fs) (rq gs):=by
 intro b i x;unfold rq;rw[bI,bI];exact EqL.ind (P:=fun fs gs=>(x∈fs.flatMap fun f=>f b i)↔(x∈gs.flatMap fun f=>f b i)) Iff.rfl (fun f g fs gs hf _ z=>by rw[Mk,Mk,L0,L0,hf b i x,z]) h
theorem D4 {ps:List (List Bs)}:∀{out:List Bs} {x:Bs},x∈ps.foldl kj out↔∃w,w∈out/\x∈lR ps w:=by
 induction ps with
 | nil=>intro out x;simp[lR]
 | cons p ps z =>
  intro out x;rw[Ms,z];constructor
  ·rintro⟨w,hw,h⟩;unfold kj at hw;rw[bI,L2]at hw;obtain⟨y,hy,hw⟩:=hw;obtain⟨s,hs,rfl⟩:=List.mem_map.1 hw;exact⟨y,hy,by rw[lR,L2];exact⟨s,hs,h⟩⟩
  ·rintro⟨w,hw,h⟩;rw[lR,L2]at h;obtain⟨s,hs,h⟩:=h;exact⟨bg w s,by unfold kj;rw[bI,L2];exact⟨w,hw,List.mem_map.2 ⟨s,hs,rfl⟩⟩,h⟩
theorem JS {ps qs:List (List Bs)} (F:ps.length=qs.length) (h:∀(k:Nat) p q,ps[k]?=some p->qs[k]?=some q->∀x,x∈p↔x∈q):∀w x,x∈lR ps w↔x∈lR qs w:=by
 induction ps generalizing qs with
 | nil=>cases qs with
  | nil=>exact fun _ _=>Iff.rfl
  | cons q qs=>simp at F
 | cons p ps G =>
  cases qs with
  | nil=>simp at F
  | cons q qs =>
   intro w x;have h0:=h 0 p q rfl rfl;have z:=G (qs:=qs) (jQ F) (fun k a b I J=>h (k+1) a b (jQ I) (jQ J));rw[lR,lR,L2,L2];constructor
   ·rintro⟨s,hs,D⟩;rw[MR]at hs;exact⟨s,List.mem_filter.2 ⟨(h0 s).1 hs.1,hs.2⟩,(z _ _).1 D⟩
   ·rintro⟨s,hs,D⟩;rw[MR]at hs;exact⟨s,List.mem_filter.2 ⟨(h0 s).2 hs.1,hs.2⟩,(z _ _).2 D⟩
theorem pH (s:Bs):bg [] s=s:=by rw[bg]
theorem Kl {fs gs:List Fnd} (h:EqL fs gs) (D:gs≠[]):EqF (EU fs) (nJ gs):=by
 cases gs with
 | nil=>exact absurd rfl D
 | cons g gs =>
  intro b i x;unfold EU;rw[bI,nJ,D4];have hm:∀w x,x∈lR (fs.map fun g=>g b i) w↔x∈lR ((g::gs).map fun g=>g b i) w :=
   JS (by rw[Lm,Lm];exact h.1) (fun k p q hp hq=>by
    rw[LI]at hp hq;obtain⟨f,hf,rfl⟩:=Option.map_eq_some_iff.1 hp;obtain⟨G,F,rfl⟩:=Option.map_eq_some_iff.1 hq;exact h.2 k f G hf F b i)
  rw[hm,LF,lR,L2];have I:∀s:Bs,qm [] s=true:=fun s=>rfl
  constructor
  ·rintro⟨s,hs,z⟩;rw[pH]at z;exact⟨s,(List.mem_filter.1 hs).1,z⟩
  ·rintro⟨s,hs,z⟩;exact⟨s,List.mem_filter.2 ⟨hs,I s⟩,by rw[pH];exact z⟩
theorem BJ {f g:Fnd} (h:EqF f g):∀k,EqF (fX f k) (jg g k)
 | 0=>fun b i x=>by rw[fX,jg]
 | k+1=>fun b i x=>by
  have F:=BJ h k;rw[fX,jg,bI,bI,L0,L2,L2];constructor
  ·rintro (z|⟨s,hs,z⟩)
   ·exact⟨x,(h b i x).1 z,Lg ..⟩
   ·obtain⟨t,D,rfl⟩:=List.mem_map.1 z;exact⟨s,(h b i s).1 hs,Lh _ (List.mem_map.2 ⟨t,(F _ _ t).1 D,rfl⟩)⟩
  ·rintro⟨s,hs,z⟩;rcases List.mem_cons.1 z with rfl|z
   ·exact .inl ((h b i x).2 hs)
   ·obtain⟨t,D,rfl⟩:=List.mem_map.1 z;exact .inr ⟨s,(h b i s).2 hs,List.mem_map.2 ⟨t,(F _ _ t).2 D,rfl⟩⟩
theorem Jt {fs gs:List Fnd} (h:EqL fs gs):EqF (hdF fs) (hdF gs) :=
 EqL.ind (P:=fun fs gs=>EqF (hdF fs) (hdF gs)) (fun _ _ _=>Iff.rfl) (fun _ _ _ _ hf _ _=>hf) h
theorem sL (l:List Evt):∀h,(cY l h).length=h.length
 | []=>by rw[cY];rfl
 | a::r=>by rw[cY,Lt,Lt,sL l r]
mutual
def okA:Pt->Bool
 | .mk o h _ _ _ _ _=>(decide (o≠3) || !h.isEmpty)&&uV h
def uV:List Pt->Bool
 | []=>true
 | a::r=>okA a&&uV r
end
mutual
theorem qQ (l:List Evt):∀p,okA p=true->EqF (bN l p) (iU l p)
 | .mk o ar ty vr sc sp c,hok=>by
  rw[okA,Lp]at hok;have hL:=Bl l ar hok.2;rw[bN,iU]
  by_cases h0:o=0
  ·rw[K7 h0,K7 h0];exact fun b i x=>bI
  rw[K6 h0,K6 h0]
  by_cases D:o=1
  ·rw[K7 D,K7 D];exact J4 hL
  rw[K6 D,K6 D]
  by_cases G:o=2
  ·rw[K7 G,K7 G];exact KN hL
  rw[K6 G,K6 G]
  by_cases z:o=3
  ·rw[K7 z,K7 z];refine Kl hL fun e=>?_
   have hlen:=sL l ar;rw[e]at hlen;have h:=hok.1
   cases ar with
   | nil=>simp[z]at h
   | cons a r=>simp at hlen
  rw[K6 z,K6 z]
  by_cases F:o=4
  ·rw[K7 F,K7 F];exact BJ (Jt hL) _
  rw[K6 F,K6 F];intro b i x;rw[bI,MR,MR,Jt hL b i x]
theorem Bl (l:List Evt):∀z,uV z=true->EqL (fH l z) (cY l z)
 | [],_=>by rw[fH,cY];exact⟨rfl,fun k f g h=>by simp at h⟩
 | a::r,hok=>by
  rw[uV,Lp]at hok;rw[fH,cY];exact EqL.cons (qQ l a hok.1) (Bl l r hok.2)
end
def SetOk (i n:Nat) (s:Bs):Prop:=s≠[]/\s.Pairwise (fun x y=>x.2<y.2)/\∀x∈s,i<=x.2/\x.2<n
theorem cP:∀(a b:Bs) (x:Int × Nat),x∈bg a b↔x∈a\/x∈b
 | [],b,x=>by rw[bg];simp
 | y::a,[],x=>by rw[bg];simp
 | y::a,z::b,x=>by
  rw[bg]
  split
  ·rw[Lv,cP a (z::b),Lv (a:=x) (b:=y),Mu]
  ·rw[Lv,cP (y::a) b,Lv (a:=x) (b:=z),<-Mu,<-Mu,or_comm (a:=x=z)]
termination_by a b=>a.length+b.length
theorem eH:∀(a b:Bs),a.Pairwise (fun x y=>x.2<y.2)->b.Pairwise (fun x y=>x.2<y.2)->(∀x∈a,∀y∈b,x.2≠y.2)->(bg a b).Pairwise fun x y=>x.2<y.2
 | [],b,_,hb,_=>by rw[bg];exact hb
 | y::a,[],ha,_,_=>by rw[bg];exact ha
 | y::a,z::b,ha,hb,hd=>by
  rw[MZ]at ha hb;have G:=hd y (Lg ..) z (Lg ..);rw[bg]
  split
  ·next h =>
   rw[MZ];refine⟨fun x D=>?_,eH a (z::b) ha.2 (List.pairwise_cons.2 hb) (fun x D F hy=>hd x (Lh _ D) F hy)⟩;rcases (cP _ _ _).1 D with D|D
   ·exact ha.1 x D
   ·rcases List.mem_cons.1 D with rfl|D
    ·exact h
    ·have:=hb.1 x D;omega
  ·next h =>
   rw[MZ];refine⟨fun x D=>?_,eH (y::a) b (List.pairwise_cons.2 ha) hb.2 (fun x D F hy=>hd x D F (Lh _ hy))⟩;rcases (cP _ _ _).1 D with D|D
   ·rcases List.mem_cons.1 D with rfl|D
    ·omega
    ·have:=ha.1 x D;omega
   ·exact hb.1 x D
termination_by a b=>a.length+b.length
theorem SetOk.last {i n:Nat} {s:Bs} (h:SetOk i n s):i<=dp s/\dp s<n/\∀x∈s,x.2<=dp s:=by
 obtain⟨z,I,F⟩:=h;have G:s.getLast?=some (s.getLast z):=List.getLast?_eq_some_getLast z;have e:dp s=(s.getLast z).2:=by unfold dp;rw[G];rfl
 have hm:=F _ (List.getLast_mem z);rw[e];refine⟨hm.1,hm.2,fun x D=>?_⟩;obtain⟨k,hk,rfl⟩:=MK D;rw[List.getLast_eq_getElem z];rcases LY k (s.length-1) with h|h
 ·exact Nat.le_of_lt (List.pairwise_iff_getElem.1 I k (s.length-1) hk om h)
 ·have:k=s.length-1:=by omega
  subst this;exact Ld _
theorem SetOk.merge {i n:Nat} {s t:Bs} (hs:SetOk i n s) (D:SetOk i n t) (F:∀x∈s,∀y∈t,x.2≠y.2):SetOk i n (bg s t):=by
 refine⟨fun e=>?_,eH s t hs.2.1 D.2.1 F,fun x z=>?_⟩
 ·obtain⟨x,z⟩:=List.exists_mem_of_ne_nil s hs.1;have:=(cP s t x).2 (.inl z);rw[e]at this;simp at this
 ·rcases (cP s t x).1 z with h|h
  ·exact hs.2.2 x h
  ·exact D.2.2 x h
theorem SetOk.behind {i n:Nat} {s t:Bs} (hs:SetOk i n s) (h:SetOk (dp s+1) n t):SetOk i n (bg s t):=by
 have D:=hs.last;refine hs.merge ⟨h.1,h.2.1,fun x z=>⟨by have:=(h.2.2 x z).1;omega,(h.2.2 x z).2⟩⟩ fun x z y hy=>?_
 have:=D.2.2 x z;have:=(h.2.2 y hy).1;omega
theorem FW {a b:Bs} (h:qm a b=true):∀x∈a,∀y∈b,x.2≠y.2:=by
 intro x z y hy e;unfold qm at h;rw[M7]at h;have:=h x z;rw[LU,MS]at this;exact this y hy (jQ e.symm)
def OkF (n:Nat) (f:Fnd):Prop:=∀b i s,s∈f b i->SetOk i n s
theorem FN (l:List Evt) (ty vr:Int) (c:Ex):OkF l.length (eJ l ty vr c):=fun b i s hs=>by
 unfold eJ at hs;obtain⟨k,hk,rfl⟩:=List.mem_map.1 hs;rw[MR,List.mem_range,Lp]at hk;have:=MA hk.2.1;exact⟨by simp,NJ _ _,fun x h=>by rw[Lz]at h;subst h;exact⟨this,hk.1⟩⟩
theorem Gc {n:Nat}:∀{fs:List Fnd},(∀f∈fs,OkF n f)->OkF n (jI fs)
 | [],_=>fun b i s hs=>by rw[jI]at hs;simp at hs
 | f::r,h=>fun b i s hs=>by
  have hf:=h f (Lg ..);have hr:=Gc (fs:=r) fun g z=>h g (Lh _ z)
  rw[jI]at hs
  split at hs
  ·exact hf b i s hs
  ·rw[bI,L2]at hs;obtain⟨x,F,hs⟩:=hs;obtain⟨t,D,rfl⟩:=List.mem_map.1 hs;exact (hf b i x F).behind (hr _ _ t D)
theorem JQ {n:Nat} {fs:List Fnd} (h:∀f∈fs,OkF n f):OkF n (rq fs):=fun b i s hs=>by
 unfold rq at hs;rw[bI,L2]at hs;obtain⟨f,hf,hs⟩:=hs;exact h f hf b i s hs
theorem vT {i n:Nat}:∀{ps:List (List Bs)} {out:List Bs},(∀s∈out,SetOk i n s)->(∀p∈ps,∀s∈p,SetOk i n s)->∀s∈ps.foldl kj out,SetOk i n s
 | [],_,ho,_=>ho
 | p::ps,out,ho,hp=>by
  rw[Ms];refine vT (fun s hs=>?_) fun q hq=>hp q (Lh _ hq)
  unfold kj at hs;rw[bI,L2]at hs;obtain⟨x,z,hs⟩:=hs;obtain⟨t,h,rfl⟩:=List.mem_map.1 hs;rw[MR]at h;exact (ho x z).merge (hp p (Lg ..) t h.1) (FW h.2)
theorem Ki {n:Nat} {fs:List Fnd} (h:∀f∈fs,OkF n f):OkF n (nJ fs):=fun b i s hs=>by
 cases fs with
 | nil=>rw[nJ]at hs;simp at hs
 | cons f fs =>
  rw[nJ]at hs;refine vT (fun s hs=>h f (Lg ..) b i s hs) (fun p hp s hs=>?_) s hs;obtain⟨g,z,rfl⟩:=List.mem_map.1 hp;exact h g (Lh _ z) b i s hs
theorem AS {n:Nat} {f:Fnd} (h:OkF n f):∀k,OkF n (jg f k)
 | 0=>fun b i s hs=>by rw[jg]at hs;simp at hs
 | k+1=>fun b i s hs=>by
  rw[jg,bI,L2]at hs;obtain⟨x,z,hs⟩:=hs;rcases List.mem_cons.1 hs with rfl|hs
  ·exact h b i s z
  ·obtain⟨t,D,rfl⟩:=List.mem_map.1 hs;exact (h b i x z).behind (AS h k _ _ t D)
theorem JD {n:Nat} {fs:List Fnd} (h:∀f∈fs,OkF n f):OkF n (hdF fs):=by
 cases fs with
 | nil=>exact fun b i s hs=>by simp[hdF]at hs
 | cons f fs=>exact h f (Lg ..)
mutual
theorem rE (l:List Evt):∀p,OkF l.length (iU l p)
 | .mk o h ty vr z sp c=>by
  have hL:=Bw l h;rw[iU]
  split
  ·exact FN l ty vr c
  ·split
   ·exact Gc hL
   ·split
    ·exact JQ hL
    ·split
     ·exact Ki hL
     ·split
      ·exact AS (JD hL) _
      ·exact fun b i s hs=>JD hL b i s (List.mem_filter.1 hs).1
theorem Bw (l:List Evt):∀h,∀f∈cY l h,OkF l.length f
 | [],f,hf=>by rw[cY]at hf;simp at hf
 | a::r,f,hf=>by
  rw[cY]at hf;rcases List.mem_cons.1 hf with rfl|hf
  ·exact rE l a
  ·exact Bw l r f hf
end
theorem jm {α β:Type} {l:List α} {f g:α->List β} (h:∀x∈l,f x=g x):l.flatMap f=l.flatMap g:=by
 induction l with
 | nil=>rfl
 | cons a l D=>rw[Mk,Mk,h a (Lg ..),D fun x z=>h x (Lh _ z)]
theorem qJ {n:Nat} {f:Fnd} (h:OkF n f):∀(k j:Nat) (b:Bs) (i:Nat),n-i<k->n-i<j->fX f k b i=fX f j b i
 | 0,_,_,_,hk,_=>by omega
 | _,0,_,_,_,hj=>by omega
 | k+1,j+1,b,i,hk,hj=>by
  rw[fX,fX];refine congrArg bd (congrArg (f b i++·) (jm fun s hs=>?_));have z:=(h b i s hs).last;rw[qJ h k j _ _ om om]
section
open Go.RowKit Go.Lib
def vz (w:World) (b p:Nat) (x:Int × Nat):Prop:=w.cell? ⟨b,p,none⟩=some (KW x.1)/\w.cell? ⟨b,p+1,none⟩=some (KW (x.2:Int))
theorem cV:gG vz:=fun _ _ _ _ _ hb ⟨h0,h⟩=>⟨aa hb h0,aa hb h⟩
abbrev jw (w:World) (v:Value) (s:Bs):Prop:=Sl vz 2 w v s
theorem lV:pi vz 2:=fun w b p x ⟨h0,D⟩ =>
 ⟨[KW x.1,KW (x.2:Int)],rfl,by simp[Value.oneCell'],fun j u h=>by
  match j,h with
  | 0,h=>simp at h;subst h;exact h0
  | 1,h=>simp at h;subst h;exact D
  | j+2,h=>simp at h,fun W F G _ z=>⟨z 0 _ rfl,z 1 _ rfl⟩⟩
def SetIn (Q:Nat->Prop) (w:World) (v:Value) (s:Bs):Prop:=∃b o c,v=.slice (some ⟨b,o,none⟩) s.length c/\s.length<=c/\c<=maxLen/\s≠[]/\Q b/\∀(k:Nat) x,s[k]?=some x->vz w b (o+k*2) x
theorem SetIn.is {Q:Nat->Prop} {w:World} {v:Value} {s:Bs} (h:SetIn Q w v s):jw w v s:=by
 obtain⟨b,o,c,rfl,z,D,_,_,F⟩:=h;exact⟨_,c,rfl,z,D,fun k x hk=>⟨b,o,rfl,F k x hk⟩⟩
theorem SetIn.mono {Q Q':Nat->Prop} (hq:∀b,Q b->Q' b) {w:World} {v:Value} {s:Bs} (h:SetIn Q w v s):SetIn Q' w v s:=by
 obtain⟨b,o,c,rfl,D,F,G,I,z⟩:=h;exact⟨b,o,c,rfl,D,F,G,hq b I,z⟩
theorem SetIn.stays {Q:Nat->Prop} {w W:World} {v:Value} {s:Bs} (h:SetIn Q w v s) (J:KY w W):SetIn Q W v s:=by
 obtain⟨b,o,c,rfl,F,I,D,G,z⟩:=h;exact⟨b,o,c,rfl,F,I,D,G,fun k x hk=>cV _ _ _ _ _ J (z k x hk)⟩
theorem SetIn.keep {n0 n1:Nat} {B:Option Nat} {X Y:World} (hk:bj n0 n1 B X Y) {v:Value} {s:Bs} (h:SetIn (Cj n0 n1 B X) X v s):SetIn (Cj n0 n1 B Y) Y v s:=by
 obtain⟨b,o,c,rfl,I,J,G,F,D⟩:=h;refine⟨b,o,c,rfl,I,J,G,?_,fun k x z=>⟨(gM hk F (D k x z).1).1,(gM hk F (D k x z).2).1⟩⟩
 cases s with
 | nil=>exact absurd rfl G
 | cons x r=>exact (gM hk F (D 0 x rfl).1).2
def SetsIn (Q:Nat->Prop) (w:World) (v:Value) (L:List Bs):Prop:=∃A c,v=.slice A L.length c/\L.length<=c/\c<=maxLen /\
 ∀(k:Nat) s,L[k]?=some s->∃b o u,A=some ⟨b,o,none⟩/\Q b/\w.cell? ⟨b,o+k,none⟩=some u/\SetIn Q w u s
theorem SetsIn.mono {Q Q':Nat->Prop} (hq:∀b,Q b->Q' b) {w:World} {v:Value} {L:List Bs} (h:SetsIn Q w v L):SetsIn Q' w v L:=by
 obtain⟨A,c,rfl,F,G,D⟩:=h;refine⟨A,c,rfl,F,G,fun k s hk=>?_⟩;obtain⟨b,o,u,e,I,z,hs⟩:=D k s hk;exact⟨b,o,u,e,hq b I,z,hs.mono hq⟩
theorem SetsIn.stays {Q:Nat->Prop} {w W:World} {v:Value} {L:List Bs} (h:SetsIn Q w v L) (z:KY w W):SetsIn Q W v L:=by
 obtain⟨A,c,rfl,G,I,F⟩:=h;refine⟨A,c,rfl,G,I,fun k s hk=>?_⟩;obtain⟨b,o,u,e,hq,D,hs⟩:=F k s hk;exact⟨b,o,u,e,hq,aa z D,hs.stays z⟩
theorem SetsIn.keep {n0 n1:Nat} {B:Option Nat} {X Y:World} (hk:bj n0 n1 B X Y) {v:Value} {L:List Bs} (h:SetsIn (Cj n0 n1 B X) X v L):SetsIn (Cj n0 n1 B Y) Y v L:=by
 obtain⟨A,c,rfl,G,I,F⟩:=h;refine⟨A,c,rfl,G,I,fun k s z=>?_⟩;obtain⟨b,o,u,e,hq,D,hs⟩:=F k s z;exact⟨b,o,u,e,(gM hk hq D).2,(gM hk hq D).1,hs.keep hk⟩
def InS (n1:Nat) (B:Option Nat) (s:Bs) (a:Array Value) (W:World):Prop:=∃v,a=#[v]/\SetIn (fun b=>n1<=b/\¬iE W B b) W v s
end
def prV (x:Int × Nat):Value:=.agg #[KW x.1,KW (x.2:Int)]
theorem Eu (s:Bs) (v:Value) (w:World) (hs:jw w v s) (h:s≠[]) :
  KZ 350 #[v] w (KW (dp s:Int)):=by
 obtain⟨A,c,rfl,F,I,z⟩:=hs;have J:=ax F I;obtain⟨m,hm⟩:∃m,s.length=m+1:=⟨s.length-1,by have:=List.length_pos_iff.2 h;omega⟩;obtain⟨x,D⟩:∃x,s[m]?=some x:=⟨_,K9 om⟩;obtain⟨b,o,rfl,O,Z⟩:=z m x D;have G:dp s=x.2:=by
  unfold dp;rw[List.getLast?_eq_getElem?,hm,Nat.add_sub_cancel,D];rfl
 rw[G,hm];rw[hm]at J;clear z F I G D h hm;have hw:IntKind.i64.wrap (((m+1:Nat):Int)-1)=(m:Int):=by simp[IntKind.wrap,IntKind.bits,IntKind.signed];omega
 go_enter func350,ntmps350;go_wp2;go_ret;exact⟨rfl,La _ _⟩
end Go.Proofs.YtokconodddedhaaGreatDoor
