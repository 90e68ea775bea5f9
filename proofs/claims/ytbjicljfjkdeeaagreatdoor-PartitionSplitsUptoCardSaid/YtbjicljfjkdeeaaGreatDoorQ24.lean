/- Part. -/
import Derived.Test.YtbjicljfjkdeeaaGreatDoorQ22
set_option maxRecDepth 100000
set_option maxHeartbeats 16000000
set_option linter.unusedVariables false
set_option linter.unusedSimpArgs false
namespace Go.Proofs.YtbjicljfjkdeeaaGreatDoor
open Go.Proofs.Tryz Go.RowKit
theorem vK (a b:Vl) (W:World):(binOp .eql 27 (vlV a) (vlV b)).run prog W=.ok (.bool (bY a b)) W:=by
 have O:=underlying3;have a3:=Tryz.isAgg3;have z3:=Tryz.sizeOf3;have J:prog.underlying 9=some .string:=kr;have a9:=Tryz.isAgg9;have z9:=Tryz.sizeOf9;have z:prog.underlying 27=some (.struct (prog.fieldsOf 27)):=kr;have hp:prog.stoodInHeld 27=false:=kr;unfold vlV;rw[run_eql_struct,show (10000:Nat)=9999+1 from rfl,run_equalIn_agg W 9999 27 _ _ z hp];simp only[Program.fieldsOf,underlying27]
 go_simp
 by_cases G:a.kind=b.kind<;>by_cases h:a.num=b.num<;>by_cases I:a.text.toList=b.text.toList<;>simp[bY,G,h,I]
theorem aj {w w':World} {row:Option Nat} {b i:Nat} {v:Value} (G:w.grownBy w' row) (h:w.cell? ⟨b,i,none⟩=some v) (z:row≠some b):w'.cell? ⟨b,i,none⟩=some v :=
 (ML (a:=⟨b,i,none⟩) (G.block b (Ms w ⟨b,i,none⟩ h) (fun e=>z e.symm))).trans h
theorem nO {w w':World} {row:Option Nat} {q n sz:Nat} {cs:List Value} (I:w.grownBy w' row) (h:Src w (some ⟨q,0,none⟩) n sz cs) (z:row≠some q):Src w' (some ⟨q,0,none⟩) n sz cs :=
 ⟨h.1,h.2.1,fun O=>by
  obtain⟨b,o,G,hc⟩:=h.2.2 O;injection G with G;injection G with Z J;subst Z J;exact⟨q,0,rfl,fun j u hj=>aj I (hc j u hj) z⟩⟩
theorem rB {K:World->Prop} {w:World} {cs:List Value} {t n sz:Nat} (z:cs.length=n*sz) (G:∀u∈cs,u.oneCell'=true) (h:∀W:World,Mm w W->Src W (some ⟨w.heap.size,0,none⟩) n sz cs->K W):K (w.alloc (.cells cs.toArray t)) :=
 h _ (bt (Mr _ _) _) (cB _ cs t n sz _ rfl z G)
theorem jc {K:Act->World->Prop} {Q:Exit->Act->World->Prop} {o:Oper} {a:Act} (w:World) (m x:Operand) (z:o.op=Op.lookup 198 m x false) (b:Nat) (k:Int) (i:Nat) (u:Value) (es:Array MapEntry) (clock:Nat)
  (hm:a.eval m=.map (some b)) (J:a.eval x=Mk k) (G:w.heap[b]?=some (.map es clock)) (hf:Instr.findNow (.int .i64) (Mk k) es.toList 0=some (some (i,u)))
  (I:K (a.put o.dst u) w):Oper.wp prog o a w K Q:=by
 have O:∀e,(Instr.checkKey e 10000 3 (Mk k)).run prog w=.ok () w:=fun e=>MapKept.run_checkKey (k:=Mk k) underlying3 (by simp[MapKept.IsKey]) e 9999
 have h:(Instr.lookup 198 (.map (some b)) (Mk k) false).run prog w=.ok u w:=by
  simp[Instr.lookup,M6 opsT,MapKept.run_getObj_map G,O,MapKept.run_findKey underlying3 hf,Result.andThen]
 unfold Oper.wp;simp[execOp,z,hm,J,h,Result.andThen];exact I
def TW (B:Nat) (v6 v7:Value) (k n:Nat) (pre:List Vl) (ks:List Int) (W:World):Prop :=
 W.ownsRow B 27 3 v6 k (aQ pre)/\W.ownsRow B 3 1 v7 n (gj ks)/\∀g,v6.ownBlock=some g->v7.ownBlock≠some g
theorem TW.below {B k n:Nat} {v6 v7:Value} {pre:List Vl} {ks:List Int} {W W':World} (h:TW B v6 v7 k n pre ks W) (z:Mm W W'):TW B v6 v7 k n pre ks W' :=
 ⟨ao h.1 z,ao h.2.1 z,h.2.2⟩
theorem TW.app6 {B k n:Nat} {v6 v7 v8:Value} {pre:List Vl} {ks:List Int} {x:Vl} {W W':World} (h:TW B v6 v7 k n pre ks W)
  (O:W'.ownsRow B 27 3 v8 (k+1) (aQ pre++[Mk x.kind,Mk x.num,.string x.text])) (J:W.grownBy W' v6.ownBlock) (Z:v8.ownBlock=v6.ownBlock\/v8.ownBlock=some W.heap.size):TW B v8 v7 (k+1) n (pre++[x]) ks W':=by
 refine⟨by rw[gk];exact O,aT h.2.1 fun g z=>J.block g (ag h.2.1 z).2 (fun e=>h.2.2 g e.symm z),fun g G I=>?_⟩;rcases Z with e|e
 ·rw[e]at G;exact h.2.2 g G I
 ·rw[e]at G;injection G with G;have:=(ag h.2.1 I).2;omega
theorem TW.app7 {B k n:Nat} {v6 v7 v8:Value} {pre:List Vl} {ks:List Int} {x:Int} {W W':World} (h:TW B v6 v7 k n pre ks W)
  (O:W'.ownsRow B 3 1 v8 (n+1) (gj ks++[Mk x])) (J:W.grownBy W' v7.ownBlock) (Z:v8.ownBlock=v7.ownBlock\/v8.ownBlock=some W.heap.size):TW B v6 v8 k (n+1) pre (ks++[x]) W':=by
 refine⟨aT h.1 fun g G=>J.block g (ag h.1 G).2 (fun e=>h.2.2 g G e.symm),by rw[uY];exact O,fun g I z=>?_⟩;rcases Z with e|e
 ·rw[e]at z;exact h.2.2 g I z
 ·rw[e]at z;injection z with z;have:=(ag h.1 I).2;omega
theorem VBox.set3 {W:World} {B:Nat} (h:VBox W B) (x y z:Value):VBox (((W.setCell ⟨B,0,none⟩ x).setCell ⟨B,1,none⟩ y).setCell ⟨B,2,none⟩ z) B:=by
 obtain⟨a,b,c,h⟩:=h;exact⟨x,y,z,dI h x y z⟩
theorem dB {w W:World} {B:Nat} (h:w.grownBy W (some B)) (x y z:Value):w.grownBy (((W.setCell ⟨B,0,none⟩ x).setCell ⟨B,1,none⟩ y).setCell ⟨B,2,none⟩ z) (some B):=by
 have s:∀(W:World) (i:Nat) (v:Value),w.grownBy W (some B)->w.grownBy (W.setCell ⟨B,i,none⟩ v) (some B):=fun W i v h =>
  ⟨h.os,h.tape,h.output,by simpa [World.setCell] using h.size,fun k hk G=>(Nj W ⟨B,i,none⟩ v k (fun e=>G (by rw[e]))).trans (h.block k hk G)⟩
 exact s _ _ _ (s _ _ _ (s _ _ _ h))
theorem JW {x:Ex} (h:bl x=0):0<=x.op/\x.op<=12/\(x.args.length:Int)=arN x.op/\(x.op=1\/x.op=4->0<=x.fl):=by
 unfold bl at h;have z:¬arN x.op<0:=fun e=>by rw[Mp e]at h;exact absurd h dc
 rw[Mo z]at h;have G:¬(x.args.length:Int)≠arN x.op:=fun e=>by rw[Mp e]at h;exact absurd h dc
 rw[Mo G]at h;have I:0<=x.op/\x.op<=12:=by
  unfold arN at z
  split at z
  ·omega
  ·omega
 refine⟨I.1,I.2,Decidable.not_not.1 G,fun e=>?_⟩
 by_cases J:x.fl<0
 ·have:(ee x.op).2=true:=by unfold ee;rw[Mp e]
  rw[Mp (.inr ⟨this,.inl J⟩)]at h;exact absurd h dc
 ·omega
theorem FB (vs:List (List Evt)) (own:Int) (ev:Evt) (o:Int) (l:List Ex) (a b c:Int) (v:Vl):fy vs own ev (.mk o l a b c v)=if l.length=0 then kZ vs own ev (.mk o l a b c v) else Cp o (ji vs own ev l):=by rw[fy]
theorem EG (op:Int) (pre:List Vl):Cp op (pre,0)=if opE op (pre.map (·.kind))≠0 then (ah,opE op (pre.map (·.kind))) else (An op (pre.headD ah) (pre.getLastD ah),0):=rfl
theorem GW {op:Int} (h0:0<=op) (z:op<=12) (h:arN op=0):op<=4:=by
 unfold arN at h
 split at h
 ·omega
 ·split at h
  ·omega
  ·split at h<;>omega
theorem Fs {op:Int} (h0:0<=op) (I:op<=12) (h:arN op≠0):5<=op/\arN op=if op=12 then 1 else 2:=by
 unfold arN at h ⊢
 split at h
 ·omega
 ·split at h
  ·omega
  ·next z G=>rw[Mo z,Mo G];exact⟨by omega,rfl⟩
theorem Bi {p:Prop} (h:p:=by
  clear G K;refine nxH 8 (fun K hK=>?_)
  focus (have Z:=a'.2.1;refine eG _ (.tmp 43) (.tmp 46) 23 jR w1.heap.size 3 i1 _ 1 8 underlying23 S3 A4 P3 W3 rfl dc bv k (gj (pre.map (·.kind))) jR a'.2.1 _ 1 1 _ jR u' (by unfold maxLen;omega) om (z.1.size) ?_;intro v9 w9 J G I;have O:=a'.app7 J G I)
  refine hK.out _ _ (⟨z.1.trans (au G z.1.size (fun g h=>(ag Z h).1)),aj G z.2.1 (fun e=>K2 _ e rfl),aj G z.2.2.1 (fun e=>K2 _ e rfl),aj G z.2.2.2 (fun e=>K2 _ e rfl)⟩) (fun z=>?_);clear hK K;refine tkH [9,10] ?_;refine wpAnyH_done kr (NoPanic.normal ?_) _;have a':Mm w1 w9:=z.1;go_wp2_with fail;refine⟨⟨k+1,pre++[fv],by omega,by simp[C'],by go_num,jD (by rw[NY];exact O),jD ⟨?_,a'⟩⟩,by simp[intOf];omega⟩;have h:=HH.out;rw[OC];exact h):p:=h
theorem uaW {p:Prop} (h:p:=by
  refine G.out _ _ (z) (fun z=>?_);clear G K;refine nxH 16 (fun K G=>?_)
  focus (go_simp;refine (J.out _ (aZ j'.out z.1 k')).mono ?_;rintro e w4 ⟨rfl,i'⟩)
  refine G.out _ _ (I _ (cV z.1 (aC i' _)) (z.2.1.stays i')) (fun z=>?_);clear G K;refine nxH 17 (fun K G=>?_)
  focus (obtain⟨a0,b0,c0,z0,z1,z2,f0,f1,f2⟩:=z.2.1.facts;go_simp)
  refine G.out _ _ (I _ (dB z.1 _ _ _) (z.2.1.set3 _ _ _)) (fun z=>?_);clear G K;refine tkH [18] ?_;refine dn ?_;have HF:=jD (aZ j'.out z.1 k');go_wp2;exact Mv (v:=.tuple #[.agg #[Mk rv.kind,Mk rv.num,.string rv.text],Mk 0]) (by simp[results,results119,go_sem,ap,z0,z1,z2]) rfl ⟨rfl,HF.out⟩):p:=h
theorem sZ (d:Nat) (vs:List (List Evt)) (v:Value) (own:Int) (ev:Evt) (u:Value) (m:Nat) (G1:∀k,(du vs k).length<=1048576)
  (X':∀d',d=d'+1->∀(x:Ex) (vx:Value) (w:World),fW w v vs->aV w u ev.vals->OpsAt w m->aK d' w vx x.args->cn x=0 ->
   Mn 119 #[oJ v own ev u m,exV x vx] w (.tuple #[vlV (fy vs own ev x).1,Mk (fy vs own ev x).2]))
  (x:Ex) (vx:Value) (w:World) (hv:fW w v vs) (hu:aV w u ev.vals) (ho:OpsAt w m) (hx:aK d w vx x.args) (hn:cn x=0) :
  Mn 119 #[oJ v own ev u m,exV x vx] w (.tuple #[vlV (fy vs own ev x).1,Mk (fy vs own ev x).2]):=by
 have Z':=jD X';have HV:=jD hv;have HU:=jD hu;have HO:=jD ho;obtain⟨E1,Y0⟩:=Dp hn;obtain⟨n0,R0,H',P0⟩:=JW E1;obtain⟨op,l,vr,fl,kd,vl⟩:=x;obtain⟨⟨RV,re⟩,hR⟩:∃r,fy vs own ev (.mk op l vr fl kd vl)=r:=⟨_,rfl⟩;rw[hR];simp only[Ex.op,Ex.args,Ex.fl]at n0 R0 H' P0 Y0 hx;obtain⟨A,c,rfl,-⟩:=hv;obtain⟨Au,cu,rfl,-⟩:=hu;obtain⟨Ax,cx,rfl,h1,h2,B2⟩:=hx;have A1:=ay h1 h2;have HL:=jD B2;have V1:=jD Y0;have U2:=jD P0;have P2:=jD G1;clear X' ho hn E1 Y0 h1 h2 B2 P0 G1;rw[FB]at hR
 by_cases R':l.length=0
 ·obtain rfl:l=[]:=M8 R';rw[Mp R']at hR;have W1:=GW n0 R0 H'.symm;have X1:=jD (fun W (hW:Mm w W)=>Gv vs _ own ev _ m (.mk op [] vr fl kd vl) Ax 0 cx W (HV.out.stays dT hW) (HU.out.stays aD hW) ⟨n0,W1⟩ U2.out (P2.out _));rw[hR]at X1;clear hR R' H' HL V1 Z' A1;unfold oJ exV at *;simp only[Ex.op,Ex.args,Ex.vr,Ex.fl,Ex.kd,Ex.val,Og]at *;unfold vlV at *;go_enter func119,ntmps119;go_wp2_with fail;refine aI fun W9 e9=>?_
  have hB:VBox W9 (w.heap.size+1+1):=⟨Mk 0,Mk 0,.string ⟨#[]⟩,by rw[e9];repeat (first|exact ax _ _ _ jS|apply bB)⟩;have S1:Mm w W9:=gb e9;clear e9;refine (X1.out _ S1).mono ?_;rintro e w1 ⟨rfl,U'⟩;obtain⟨a0,b0,c0,z0,z1,z2,f0,f1,f2⟩:=(hB.stays U').facts;go_wp2;exact Mv (v:=.tuple #[.agg #[Mk RV.kind,Mk RV.num,.string RV.text],Mk re]) (by simp[results,results119,go_sem,ap,z0,z1,z2]) rfl ⟨rfl,di (ab S1 U') om _ _ _⟩
 have H3:((l.length:Int)==0)=false:=by rw[Nl];omega
 rw[Mo R']at hR;obtain⟨n5,Y'⟩:=Fs n0 R0 om;rw[Y']at H';have Y3:l.length<=2:=by split at H'<;>omega
 obtain⟨FR,P'⟩:∃r,ji vs own ev l=r:=⟨_,rfl⟩;rw[P']at hR;have HR:=jD hR;have T2:=jD P';have F':=jD H';clear hR P' R' Y' H';unfold oJ exV at *;simp only[Ex.op,Ex.args,Ex.vr,Ex.fl,Ex.kd,Ex.val]at *;unfold vlV at *;obtain⟨i0,hi,K0,Z0,V0⟩:=Np mo;obtain⟨i1,S3,A4,P3,W3⟩:=Np ET;go_enter func119,ntmps119;go_wp2_with fail;refine bg fun w1 e1=>?_
 have hE:w1.heap[w.heap.size]?=some (.cells [.slice A vs.length c,.int .i64 own,.int .i64 ev.src,.int .i64 ev.sq,.int .i64 ev.ty,.int .i64 ev.tm,.slice Au ev.vals.length cu,.map (some m)].toArray 201 (0,0)):=by
  rw[e1];repeat (first|exact ax _ _ _ jS|apply bB)
 have hX:w1.heap[w.heap.size+1]?=some (.cells [.int .i64 op,.slice Ax l.length cx,.int .i64 vr,.int .i64 fl,.int .i64 kd,.int .i64 vl.kind,.int .i64 vl.num,.string vl.text].toArray 29 (0,0)):=by
  rw[e1];repeat (first|exact ax _ _ _ jS|apply bB)
 have hB:VBox w1 (w.heap.size+1+1):=⟨Mk 0,Mk 0,.string ⟨#[]⟩,by rw[e1];repeat (first|exact ax _ _ _ jS|apply bB)⟩;have U':Mm w w1:=gb e1;have HE:=jD hE;have HX:=jD hX;have HB:=jD hB;have I':=jD U';have S2:=hB.lt;obtain⟨X,T1⟩:=jF (w.heap.size+1);obtain⟨E,F1⟩:=jF w.heap.size;have V3:X+1<w1.heap.size:=by omega
 have H4:X<w1.heap.size:=by omega
 have U3:E<w1.heap.size:=by omega
 have P4:w.heap.size<=X:=by omega
 have J':E≠X+1:=by omega
 rw[<-T1]at HX HB ⊢;rw[<-F1]at HE ⊢;clear hE hX hB U' e1 S2 T1 F1
 go_loopw [6,7,25] (fun av bv i wr=>∃(k:Nat) (pre:List Vl),k<=l.length/\pre.length=k/\i=Mk k/\Hid (TW w1.heap.size av bv k k pre (pre.map (·.kind)) wr)/\Hid ((pre++(ji vs own ev (l.drop k)).1,(ji vs own ev (l.drop k)).2)=FR/\Mm w1 wr)) (fun _ _ i _=>l.length-(intOf i).toNat)
 case atStart=>exact⟨0,[],Mu _,rfl,rfl,jD ⟨⟨rfl,.inl ⟨rfl,rfl⟩⟩,⟨rfl,.inl ⟨rfl,rfl⟩⟩,fun g h=>by simp[Value.ownBlock]at h⟩,jD ⟨by rw[OD,T2.out];rfl,Mr _ _⟩⟩
 case round =>
  obtain⟨k,pre,hk,C',rfl,s',hI⟩:=hrel;have hb:=hI.out.2;obtain⟨Ar,cr,rfl⟩:=aH s'.out.1;obtain⟨Ak,ck,rfl⟩:=aH s'.out.2.1;have Q3:=hb.size;have X3:=jD (HB.out.stays hb)
  by_cases R1:k<l.length
  ·have Q2:(k:Int)<(l.length:Int):=by omega
   obtain⟨b,o,rfl,U0⟩:=HL.out k l[k] (Mq R1);have O:=jD (Mq R1);obtain⟨a,ha⟩:=jF (l[k]);rw[<-ha]at O U0;clear ha;obtain⟨d',v',M1,X0,p0,p1,p2,p3,p4,p5,p6,p7⟩:=fk (ai d _ _ _ _ _ (ab I'.out hb) U0);have Q1:=V1.out k a O.out;have W2:=X0;obtain⟨A',c',B3,-⟩:=W2;subst B3;obtain⟨⟨fv,fe⟩,hQ⟩:∃r,fy vs own ev a=r:=⟨_,rfl⟩;have HC:=jD (fun (W:World) (hW:Mm wr W)=>Z'.out d' M1 a _ W (HV.out.stays dT (ab I'.out (ab hb hW))) (HU.out.stays aD (ab I'.out (ab hb hW))) (HO.out.stays (ab I'.out (ab hb hW))) (X0.stays (ai d') hW) Q1);rw[hQ]at HC;have HQ:=jD hQ;obtain⟨r0,r1,r2,r3,r4,r5,r6,r7⟩:=xm (am hb HE.out);have Z3:E<wr.heap.size:=by omega
   have T3:X<wr.heap.size:=by omega
   have K3:X+1<wr.heap.size:=by omega
   clear hQ U0 M1 X0 Q1;go_wp2_with fail;refine (HC.out _ ?_).mono ?_
   ·exact jB
   rintro e w2 ⟨rfl,U1⟩;have N':Hid (Mm wr w2):=jD (ab (by exact jB) U1);have Q0:=jD (ab hb N'.out);clear U1 r0 r1 r2 r3 r4 r5 r6 r7 p0 p1 p2 p3 p4 p5 p6 p7;have R3:=Q0.out.size;have Z1:X+1<w2.heap.size:=by omega
   have h:=hI.out.1;rw[zL O.out,HQ.out]at h
   by_cases hz:fe=0
   case neg =>
    rw[Mp hz]at h;obtain⟨e1,e2⟩:ah=RV/\fe=re:=by
     have h2:=HR.out;rw[<-h,Cp,Mp hz]at h2;injection h2 with e1 e2;exact⟨e1,e2⟩
    subst e1 e2;obtain⟨a0,b0,c0,z0,z1,z2,f0,f1,f2⟩:=(HB.out.stays Q0.out).facts;have V2:(fe != 0)=true:=jQ hz;clear h hz;go_wp2;exact Mv (v:=.tuple #[.agg #[Mk 0,Mk 0,.string ⟨#[]⟩],Mk fe]) (by simp[results,results119,go_sem,ap,z0,z1,z2,Z1]) rfl ⟨rfl,bt (di (ab I'.out Q0.out) om _ _ _) _⟩
   subst hz;rw[Mo jS]at h;have HH:=jD h;clear h;go_wp2_with fail;refine bg fun w5 e5=>?_
   have q0:Ml w5 w2.heap.size 0 (Mk fv.kind):=jG e5;have q1:Ml w5 w2.heap.size 1 (Mk fv.num):=jG e5;have q2:Ml w5 w2.heap.size 2 (.string fv.text):=jG e5;have G2:Mm w2 w5:=gb e5;clear e5;have H0:=jD (ab N'.out G2);have Z2:=jD (ab hb H0.out);have a':=(s'.out.below H0.out).below (Mr _ _).drew;have D':∀g,(Value.slice Ar k cr).ownBlock=some g->g≠w2.heap.size:=fun g O=>by have:=(ag s'.out.1 O).2;have:=N'.out.size;omega
   have K2:∀g,(Value.slice Ak k ck).ownBlock=some g->g≠w2.heap.size:=fun g O=>by have:=(ag s'.out.2.1 O).2;have:=N'.out.size;omega
   obtain⟨av,H2⟩:=jF (Value.slice Ar k cr);obtain⟨bv,E2⟩:=jF (Value.slice Ak k ck);rw[<-H2]at a' D' ⊢;rw[<-E2]at a' K2 ⊢;have K4:k<=2:=by omega
   clear H2 E2 G2;refine wp_region_noPanic ?_;refine wp_region_held_drew (S:=fun W=>Mm w1 W/\Ml W w2.heap.size 0 (Mk fv.kind)/\Ml W w2.heap.size 1 (Mk fv.num)/\Ml W w2.heap.size 2 (.string fv.text)) kr (⟨(Z2.out).drew,q0,q1,q2⟩) (fun z=>?_);generalize w5.drew=wD at z a' ⊢;refine tkH [0,1,4,5,6] ?_;refine wpAnyH_ready (rs:=[2,7]) kr jS ?_;refine AllReadyH.cons rfl (fun K G=>?_) ?_
   focus (go_simp;refine rB (K:=fun W=>K _ W) (cs:=[Mk fv.kind,Mk fv.num,.string fv.text]) (n:=1) (sz:=3) rfl (by intro u hu;simp only[MN,Nh,Ni]at hu;rcases hu with rfl|rfl|rfl<;>rfl) fun wA r' B'=>?_;have a':=a'.below r';(try have u':=u'.stays r'))
   refine G.out _ _ (⟨ab z.1 r',aa r' z.2.1,aa r' z.2.2.1,aa r' z.2.2.2⟩) (fun z=>?_);clear G K
   try simp only[Act.put,NA,MZ,MY]
   refine wpAnyH_ready (rs:=[3,7]) kr jS ?_;refine AllReadyH.cons rfl (fun K G=>?_) ?_
   focus (have S':=a'.1;refine eG _ (.tmp 39) (.tmp 41) 41 jR w1.heap.size 27 i0 _ 3 32 underlying41 hi K0 Z0 V0 rfl dc av k (aQ pre) jR a'.1 _ 1 1 _ jR B' (by unfold maxLen;omega) om (z.1.size) ?_;intro v8 w8 z' m' y';(try have u':=nO m' u' (fun e=>T' _ e rfl));have a':=a'.app6 z' m' y')
   refine G.out _ _ (⟨z.1.trans (au m' z.1.size (fun g h=>(ag S' h).1)),aj m' z.2.1 (fun e=>D' _ e rfl),aj m' z.2.2.1 (fun e=>D' _ e rfl),aj m' z.2.2.2 (fun e=>D' _ e rfl)⟩) (fun z=>?_);clear G K
   try simp only[Act.put,NA,MZ,MY]
   refine nxH 7 (fun K G=>?_)
   focus (go_simp;(try have T':∀g,av.ownBlock=some g->g≠_:=fun g O=>Pd (ag a'.1 O).2);refine rB (K:=fun W=>K _ W) (cs:=[Mk fv.kind]) (n:=1) (sz:=1) rfl (by intro u hu;simp only[MN,Nh,Ni]at hu;subst hu;rfl) fun wB l' u'=>?_;have a':=a'.below l';(try have B':=B'.stays l'))
   refine G.out _ _ (⟨ab z.1 l',aa l' z.2.1,aa l' z.2.2.1,aa l' z.2.2.2⟩) (fun z=>?_);exact Bi;refine AllReadyH.cons rfl (fun K G=>?_) ?_
   focus (go_simp;(try have T':∀g,av.ownBlock=some g->g≠_:=fun g O=>Pd (ag a'.1 O).2);refine rB (K:=fun W=>K _ W) (cs:=[Mk fv.kind]) (n:=1) (sz:=1) rfl (by intro u hu;simp only[MN,Nh,Ni]at hu;subst hu;rfl) fun wB l' u'=>?_;have a':=a'.below l';(try have B':=B'.stays l'))
   refine G.out _ _ (⟨ab z.1 l',aa l' z.2.1,aa l' z.2.2.1,aa l' z.2.2.2⟩) (fun z=>?_);clear G K
   try simp only[Act.put,NA,MZ,MY]
   refine nxH 3 (fun K G=>?_)
   focus (have S':=a'.1;refine eG _ (.tmp 39) (.tmp 41) 41 jR w1.heap.size 27 i0 _ 3 32 underlying41 hi K0 Z0 V0 rfl dc av k (aQ pre) jR a'.1 _ 1 1 _ jR B' (by unfold maxLen;omega) om (z.1.size) ?_;intro v8 w8 z' m' y';(try have u':=nO m' u' (fun e=>T' _ e rfl));have a':=a'.app6 z' m' y')
   refine G.out _ _ (⟨z.1.trans (au m' z.1.size (fun g h=>(ag S' h).1)),aj m' z.2.1 (fun e=>D' _ e rfl),aj m' z.2.2.1 (fun e=>D' _ e rfl),aj m' z.2.2.2 (fun e=>D' _ e rfl)⟩) (fun z=>?_);exact Bi;exact AllReadyH.nil;refine AllReadyH.cons rfl (fun K G=>?_) ?_
   focus (go_simp;(try have T':∀g,av.ownBlock=some g->g≠_:=fun g O=>Pd (ag a'.1 O).2);refine rB (K:=fun W=>K _ W) (cs:=[Mk fv.kind]) (n:=1) (sz:=1) rfl (by intro u hu;simp only[MN,Nh,Ni]at hu;subst hu;rfl) fun wB l' u'=>?_;have a':=a'.below l';(try have B':=B'.stays l'))
   refine G.out _ _ (⟨ab z.1 l',aa l' z.2.1,aa l' z.2.2.1,aa l' z.2.2.2⟩) (fun z=>?_);clear G K
   try simp only[Act.put,NA,MZ,MY]
   refine nxH 2 (fun K G=>?_)
   focus (go_simp;refine rB (K:=fun W=>K _ W) (cs:=[Mk fv.kind,Mk fv.num,.string fv.text]) (n:=1) (sz:=3) rfl (by intro u hu;simp only[MN,Nh,Ni]at hu;rcases hu with rfl|rfl|rfl<;>rfl) fun wA r' B'=>?_;have a':=a'.below r';(try have u':=u'.stays r'))
   refine G.out _ _ (⟨ab z.1 r',aa r' z.2.1,aa r' z.2.2.1,aa r' z.2.2.2⟩) (fun z=>?_);clear G K;refine nxH 3 (fun K G=>?_)
   focus (have S':=a'.1;refine eG _ (.tmp 39) (.tmp 41) 41 jR w1.heap.size 27 i0 _ 3 32 underlying41 hi K0 Z0 V0 rfl dc av k (aQ pre) jR a'.1 _ 1 1 _ jR B' (by unfold maxLen;omega) om (z.1.size) ?_;intro v8 w8 z' m' y';(try have u':=nO m' u' (fun e=>T' _ e rfl));have a':=a'.app6 z' m' y')
   refine G.out _ _ (⟨z.1.trans (au m' z.1.size (fun g h=>(ag S' h).1)),aj m' z.2.1 (fun e=>D' _ e rfl),aj m' z.2.2.1 (fun e=>D' _ e rfl),aj m' z.2.2.2 (fun e=>D' _ e rfl)⟩) (fun z=>?_);exact Bi;exact AllReadyH.nil
  ·have Q2:¬(k:Int)<(l.length:Int):=by omega
   have A2:k=l.length:=by omega
   have X2:=jD (EO (l:=pre.map (·.kind)) (by rw[MB,C'];exact s'.out.2.1));have A3:=jD (mH (l:=pre) (by rw[C'];exact s'.out.1));have K1:=jD (fun W (hW:Mm wr W)=>ug op (pre.map (·.kind)) _ W (X2.out.stays eN hW));have P':FR=(pre,0):=by
    have h:=hI.out.1;rw[No om,ji,OV]at h;exact h.symm
   have V':=HR.out;rw[P',EG]at V';obtain⟨oe,Y1⟩:∃e,opE op (pre.map (·.kind))=e:=⟨_,rfl⟩;rw[Y1]at K1 V';have R2:=jD V';obtain⟨q0,q1,q2,q3,q4,q5,q6,q7⟩:=xm (am hb HX.out);have HK:=jD A2;clear P' V' Y1 A2;go_wp2_with fail;refine (K1.out _ (Mr _ _)).mono ?_;rintro e w3 ⟨rfl,S0⟩;have G':=jD (ab hb S0);have M3:=G'.out.size;have h:=R2.out;obtain⟨q0,q1,q2,q3,q4,q5,q6,q7⟩:=xm (am G'.out HX.out);obtain⟨a0,b0,c0,z0,z1,z2,f0,f1,f2⟩:=(HB.out.stays G'.out).facts
   by_cases hz:oe=0
   case neg =>
    rw[Mp hz]at h;injection h with e1 e2;subst e1 e2;have V2:(oe != 0)=true:=jQ hz;clear hz;go_wp2;exact Mv (v:=.tuple #[.agg #[Mk 0,Mk 0,.string ⟨#[]⟩],Mk oe]) (by simp[results,results119,go_sem,ap,z0,z1,z2]) rfl ⟨rfl,di (ab I'.out G'.out) om _ _ _⟩
   subst hz;rw[Mo jS]at h;obtain⟨rv,E'⟩:∃r,An op (pre.headD ah) (pre.getLastD ah)=r:=⟨_,rfl⟩;rw[E']at h;injection h with e1 e2;subst e1 e2;have h':=jD (A3.out.stays aD S0);obtain⟨r0,r1,r2,r3,r4,r5,r6,r7⟩:=xm (am G'.out HE.out);have t':=jD (HB.out.stays G'.out);have j':=jD (ab I'.out G'.out);obtain⟨g,hm,P1⟩:=HO.out;have HM:=jD hm;have HG:=jD P1;have k':w.heap.size<=X+1:=by omega
   have n':∀b o c,Value.slice Ar k cr=.slice (some ⟨b,o,none⟩) k c->b≠X+1:=fun b o c e=>by
    intro e2;have h:=ag s'.out.1 (g:=b) (by rw[e];rfl);omega
   clear q1 q2 q3 q4 q5 q6 q7 r0 r1 r2 r3 r4 r5 r6 hm P1 a0 b0 c0 z0 z1 z2 f0 f1 f2 S0;have Y2:op=5\/op=6\/op=7\/op=8\/op=9\/op=10\/op=11\/op=12:=by omega
   rcases Y2 with rfl|rfl|rfl|rfl|rfl|rfl|rfl|rfl
   ·obtain rfl:k=2:=by have h:=F'.out;have h2:=HK.out;rw[Mo dc]at h;omega
    obtain⟨a,b,rfl⟩:∃a b,pre=[a,b]:=by
     match pre,C' with
     | [a,b],_=>exact⟨a,b,rfl⟩
    obtain⟨Z,o1,p',x',u0,u1,u2⟩:=bT (l:=[a,b]) h'.out (k:=0) jS;obtain⟨b2,o2,f',-,t0,t1,t2⟩:=bT (l:=[a,b]) h'.out (k:=1) jS;subst p';injection f' with f';injection f' with e1 e2;subst e1 e2;have g':Z≠X+1:=n' Z o1 cr rfl;simp only[OL,OM,Nn,Oq,Nc]at u0 u1 u2 t0 t1 t2;clear n';have J:Hid (∀W:World,Mm w W->Mn 174 #[Mk a.num,Mk b.num,.pointer (some ⟨g,0,none⟩)] W (.agg #[Mk rv.kind,Mk rv.num,.string rv.text])):=jD (fun W hW=>by
     have h:=Jy a.num b.num g W (aa hW HG.out);have e:jt (IntKind.i64.wrap (a.num+b.num))=rv:=E';rw[e]at h;exact h)
    have O':IntKind.i64.wrap 1=1:=bM (n:=1) om;have q':X≠X+1:=by omega
    have I:∀W,w3.grownBy W (some (X+1))->VBox W (X+1)->(fun W=>w3.grownBy W (some (X+1))/\VBox W (X+1)/\Ml W E 7 (.map (some m))/\Ml W X 0 (Mk 5)/\Ml W Z (o1+1) (Mk a.num)/\Ml W Z (o1+3+1) (Mk b.num)) W:=fun W O hv=>⟨O,hv,aj O r7 (fun e=>J' (by injection e with e;exact e.symm)),aj O q0 (fun e=>q' (by injection e with e;exact e.symm)),aj O u1 (fun e=>g' (by injection e with e;exact e.symm)),aj O t1 (fun e=>g' (by injection e with e;exact e.symm))⟩
    go_wp2_with fail;refine wp_region_noPanic ?_;refine wp_region_held_drew (S:=fun W=>w3.grownBy W (some (X+1))/\VBox W (X+1)/\Ml W E 7 (.map (some m))/\Ml W X 0 (Mk 5)/\Ml W Z (o1+1) (Mk a.num)/\Ml W Z (o1+3+1) (Mk b.num)) kr (I _ (aC (Mr _ _).drew _) (t'.out.stays (Mr _ _).drew)) (fun z=>?_);generalize w3.drew=wD at z ⊢;refine tkH [0,1,2,3,5,6,7,8,9,10,11,12,13,14,15] ?_;refine nxH 4 (fun K G=>?_)
    focus (refine jc _ (.tmp 69) (.tmp 71) jR m 5 _ _ _ _ jR jR (am (aZ j'.out z.1 k') HM.out) jR ?_)
    exact uaW
   ·obtain rfl:k=2:=by have h:=F'.out;have h2:=HK.out;rw[Mo dc]at h;omega
    obtain⟨a,b,rfl⟩:∃a b,pre=[a,b]:=by
     match pre,C' with
     | [a,b],_=>exact⟨a,b,rfl⟩
    obtain⟨Z,o1,p',x',u0,u1,u2⟩:=bT (l:=[a,b]) h'.out (k:=0) jS;obtain⟨b2,o2,f',-,t0,t1,t2⟩:=bT (l:=[a,b]) h'.out (k:=1) jS;subst p';injection f' with f';injection f' with e1 e2;subst e1 e2;have g':Z≠X+1:=n' Z o1 cr rfl;simp only[OL,OM,Nn,Oq,Nc]at u0 u1 u2 t0 t1 t2;clear n';have J:Hid (∀W:World,Mm w W->Mn 175 #[Mk a.num,Mk b.num,.pointer (some ⟨g,0,none⟩)] W (.agg #[Mk rv.kind,Mk rv.num,.string rv.text])):=jD (fun W hW=>by
     have h:=JQ a.num b.num g W (aa hW HG.out);have e:jt (IntKind.i64.wrap (a.num-b.num))=rv:=E';rw[e]at h;exact h)
    have O':IntKind.i64.wrap 1=1:=bM (n:=1) om;have q':X≠X+1:=by omega
    have I:∀W,w3.grownBy W (some (X+1))->VBox W (X+1)->(fun W=>w3.grownBy W (some (X+1))/\VBox W (X+1)/\Ml W E 7 (.map (some m))/\Ml W X 0 (Mk 6)/\Ml W Z (o1+1) (Mk a.num)/\Ml W Z (o1+3+1) (Mk b.num)) W:=fun W O hv=>⟨O,hv,aj O r7 (fun e=>J' (by injection e with e;exact e.symm)),aj O q0 (fun e=>q' (by injection e with e;exact e.symm)),aj O u1 (fun e=>g' (by injection e with e;exact e.symm)),aj O t1 (fun e=>g' (by injection e with e;exact e.symm))⟩
    go_wp2_with fail;refine wp_region_noPanic ?_;refine wp_region_held_drew (S:=fun W=>w3.grownBy W (some (X+1))/\VBox W (X+1)/\Ml W E 7 (.map (some m))/\Ml W X 0 (Mk 6)/\Ml W Z (o1+1) (Mk a.num)/\Ml W Z (o1+3+1) (Mk b.num)) kr (I _ (aC (Mr _ _).drew _) (t'.out.stays (Mr _ _).drew)) (fun z=>?_);generalize w3.drew=wD at z ⊢;refine tkH [0,1,2,3,5,6,7,8,9,10,11,12,13,14,15] ?_;refine nxH 4 (fun K G=>?_)
    focus (refine jc _ (.tmp 69) (.tmp 71) jR m 6 _ _ _ _ jR jR (am (aZ j'.out z.1 k') HM.out) jR ?_)
    exact uaW
   ·obtain rfl:k=2:=by have h:=F'.out;have h2:=HK.out;rw[Mo dc]at h;omega
    obtain⟨a,b,rfl⟩:∃a b,pre=[a,b]:=by
     match pre,C' with
     | [a,b],_=>exact⟨a,b,rfl⟩
    obtain⟨Z,o1,p',x',u0,u1,u2⟩:=bT (l:=[a,b]) h'.out (k:=0) jS;obtain⟨b2,o2,f',-,t0,t1,t2⟩:=bT (l:=[a,b]) h'.out (k:=1) jS;subst p';injection f' with f';injection f' with e1 e2;subst e1 e2;have g':Z≠X+1:=n' Z o1 cr rfl;simp only[OL,OM,Nn,Oq,Nc]at u0 u1 u2 t0 t1 t2;clear n';have J:Hid (∀W:World,Mm w W->Mn 176 #[Mk a.num,Mk b.num] W (.agg #[Mk rv.kind,Mk rv.num,.string rv.text])):=jD (fun W hW=>by
     have h:=JR a.num b.num W;have e:cL (decide (a.num<b.num))=rv:=E';rw[e]at h;exact h)
    have O':IntKind.i64.wrap 1=1:=bM (n:=1) om;have q':X≠X+1:=by omega
    have I:∀W,w3.grownBy W (some (X+1))->VBox W (X+1)->(fun W=>w3.grownBy W (some (X+1))/\VBox W (X+1)/\Ml W E 7 (.map (some m))/\Ml W X 0 (Mk 7)/\Ml W Z (o1+1) (Mk a.num)/\Ml W Z (o1+3+1) (Mk b.num)) W:=fun W O hv=>⟨O,hv,aj O r7 (fun e=>J' (by injection e with e;exact e.symm)),aj O q0 (fun e=>q' (by injection e with e;exact e.symm)),aj O u1 (fun e=>g' (by injection e with e;exact e.symm)),aj O t1 (fun e=>g' (by injection e with e;exact e.symm))⟩
    go_wp2_with fail;refine wp_region_noPanic ?_;refine wp_region_held_drew (S:=fun W=>w3.grownBy W (some (X+1))/\VBox W (X+1)/\Ml W E 7 (.map (some m))/\Ml W X 0 (Mk 7)/\Ml W Z (o1+1) (Mk a.num)/\Ml W Z (o1+3+1) (Mk b.num)) kr (I _ (aC (Mr _ _).drew _) (t'.out.stays (Mr _ _).drew)) (fun z=>?_);generalize w3.drew=wD at z ⊢;refine tkH [0,1,2,3,5,6,7,8,9,10,11,12,13,14,15] ?_;refine nxH 4 (fun K G=>?_)
    focus (refine jc _ (.tmp 69) (.tmp 71) jR m 7 _ _ _ _ jR jR (am (aZ j'.out z.1 k') HM.out) jR ?_)
    exact uaW
   ·obtain rfl:k=2:=by have h:=F'.out;have h2:=HK.out;rw[Mo dc]at h;omega
    obtain⟨a,b,rfl⟩:∃a b,pre=[a,b]:=by
     match pre,C' with
     | [a,b],_=>exact⟨a,b,rfl⟩
    obtain⟨Z,o1,p',x',u0,u1,u2⟩:=bT (l:=[a,b]) h'.out (k:=0) jS;obtain⟨b2,o2,f',-,t0,t1,t2⟩:=bT (l:=[a,b]) h'.out (k:=1) jS;subst p';injection f' with f';injection f' with e1 e2;subst e1 e2;have g':Z≠X+1:=n' Z o1 cr rfl;simp only[OL,OM,Nn,Oq,Nc]at u0 u1 u2 t0 t1 t2;clear n';have J:Hid (∀W:World,Mm w W->Mn 178 #[Mk a.num,Mk b.num] W (.agg #[Mk rv.kind,Mk rv.num,.string rv.text])):=jD (fun W hW=>by
     have h:=IB a.num b.num W;have e:cL (decide (a.num<=b.num))=rv:=E';rw[e]at h;exact h)
    have O':IntKind.i64.wrap 1=1:=bM (n:=1) om;have q':X≠X+1:=by omega
    have I:∀W,w3.grownBy W (some (X+1))->VBox W (X+1)->(fun W=>w3.grownBy W (some (X+1))/\VBox W (X+1)/\Ml W E 7 (.map (some m))/\Ml W X 0 (Mk 8)/\Ml W Z (o1+1) (Mk a.num)/\Ml W Z (o1+3+1) (Mk b.num)) W:=fun W O hv=>⟨O,hv,aj O r7 (fun e=>J' (by injection e with e;exact e.symm)),aj O q0 (fun e=>q' (by injection e with e;exact e.symm)),aj O u1 (fun e=>g' (by injection e with e;exact e.symm)),aj O t1 (fun e=>g' (by injection e with e;exact e.symm))⟩
    go_wp2_with fail;refine wp_region_noPanic ?_;refine wp_region_held_drew (S:=fun W=>w3.grownBy W (some (X+1))/\VBox W (X+1)/\Ml W E 7 (.map (some m))/\Ml W X 0 (Mk 8)/\Ml W Z (o1+1) (Mk a.num)/\Ml W Z (o1+3+1) (Mk b.num)) kr (I _ (aC (Mr _ _).drew _) (t'.out.stays (Mr _ _).drew)) (fun z=>?_);generalize w3.drew=wD at z ⊢;refine tkH [0,1,2,3,5,6,7,8,9,10,11,12,13,14,15] ?_;refine nxH 4 (fun K G=>?_)
    focus (refine jc _ (.tmp 69) (.tmp 71) jR m 8 _ _ _ _ jR jR (am (aZ j'.out z.1 k') HM.out) jR ?_)
    exact uaW
   ·obtain rfl:k=2:=by have h:=F'.out;have h2:=HK.out;rw[Mo dc]at h;omega
    obtain⟨a,b,rfl⟩:∃a b,pre=[a,b]:=by
     match pre,C' with
     | [a,b],_=>exact⟨a,b,rfl⟩
    obtain⟨Z,o1,p',x',u0,u1,u2⟩:=bT (l:=[a,b]) h'.out (k:=0) jS;obtain⟨b2,o2,f',-,t0,t1,t2⟩:=bT (l:=[a,b]) h'.out (k:=1) jS;subst p';injection f' with f';injection f' with e1 e2;subst e1 e2;have g':Z≠X+1:=n' Z o1 cr rfl;simp only[OL,OM,Nn,Oq,Nc]at u0 u1 u2 t0 t1 t2;clear n';have heq:=fun W=>vK a b W
    unfold vlV at heq;have J:Hid (∀W:World,Mn 177 #[.bool (bY a b)] W (.agg #[Mk rv.kind,Mk rv.num,.string rv.text])):=jD (fun W=>by
     have h:=gH (bY a b) W;have e:cL (bY a b)=rv:=E';rw[e]at h;exact h)
    have q':X≠X+1:=by omega
    have I:∀W,w3.grownBy W (some (X+1))->VBox W (X+1)->(fun W=>w3.grownBy W (some (X+1))/\VBox W (X+1)/\Ml W Z o1 (Mk a.kind)/\Ml W Z (o1+1) (Mk a.num)/\Ml W Z (o1+2) (.string a.text)/\Ml W Z (o1+3) (Mk b.kind)/\Ml W Z (o1+3+1) (Mk b.num)/\Ml W Z (o1+3+2) (.string b.text)) W:=fun W O hv=>⟨O,hv,aj O u0 (fun e=>g' (by injection e with e;exact e.symm)),aj O u1 (fun e=>g' (by injection e with e;exact e.symm)),aj O u2 (fun e=>g' (by injection e with e;exact e.symm)),aj O t0 (fun e=>g' (by injection e with e;exact e.symm)),aj O t1 (fun e=>g' (by injection e with e;exact e.symm)),aj O t2 (fun e=>g' (by injection e with e;exact e.symm))⟩
    go_wp2_with fail;refine wp_region_noPanic ?_;refine wp_region_held_drew (S:=fun W=>w3.grownBy W (some (X+1))/\VBox W (X+1)/\Ml W Z o1 (Mk a.kind)/\Ml W Z (o1+1) (Mk a.num)/\Ml W Z (o1+2) (.string a.text)/\Ml W Z (o1+3) (Mk b.kind)/\Ml W Z (o1+3+1) (Mk b.num)/\Ml W Z (o1+3+2) (.string b.text)) kr (I _ (aC (Mr _ _).drew _) (t'.out.stays (Mr _ _).drew)) (fun z=>?_);generalize w3.drew=wD at z ⊢;refine tkH [0,1,2,3,4,5,6] ?_;refine nxH 7 (fun K G=>?_)
    focus (go_simp;refine (J.out _).mono ?_;rintro e w4 ⟨rfl,i'⟩)
    refine G.out _ _ (I _ (cV z.1 (aC i' _)) (z.2.1.stays i')) (fun z=>?_);clear G K;refine nxH 8 (fun K G=>?_)
    focus (obtain⟨a0,b0,c0,z0,z1,z2,f0,f1,f2⟩:=z.2.1.facts;go_simp)
    refine G.out _ _ (I _ (dB z.1 _ _ _) (z.2.1.set3 _ _ _)) (fun z=>?_);clear G K;refine tkH [9] ?_;refine dn ?_;have HF:=jD (aZ j'.out z.1 k');go_wp2;exact Mv (v:=.tuple #[.agg #[Mk rv.kind,Mk rv.num,.string rv.text],Mk 0]) (by simp[results,results119,go_sem,ap,z0,z1,z2]) rfl ⟨rfl,HF.out⟩
   ·obtain rfl:k=2:=by have h:=F'.out;have h2:=HK.out;rw[Mo dc]at h;omega
    obtain⟨a,b,rfl⟩:∃a b,pre=[a,b]:=by
     match pre,C' with
     | [a,b],_=>exact⟨a,b,rfl⟩
    obtain⟨Z,o1,p',x',u0,u1,u2⟩:=bT (l:=[a,b]) h'.out (k:=0) jS;obtain⟨b2,o2,f',-,t0,t1,t2⟩:=bT (l:=[a,b]) h'.out (k:=1) jS;subst p';injection f' with f';injection f' with e1 e2;subst e1 e2;have g':Z≠X+1:=n' Z o1 cr rfl;simp only[OL,OM,Nn,Oq,Nc]at u0 u1 u2 t0 t1 t2;clear n';have J:Hid (∀W:World,Mm w W->Mn 179 #[Mk a.num,Mk b.num] W (.agg #[Mk rv.kind,Mk rv.num,.string rv.text])):=jD (fun W hW=>by
     have h:=Ha a.num b.num W;have e:cL (decide (a.num=1)&&decide (b.num=1))=rv:=E';rw[e]at h;exact h)
    have O':IntKind.i64.wrap 1=1:=bM (n:=1) om;have q':X≠X+1:=by omega
    have I:∀W,w3.grownBy W (some (X+1))->VBox W (X+1)->(fun W=>w3.grownBy W (some (X+1))/\VBox W (X+1)/\Ml W E 7 (.map (some m))/\Ml W X 0 (Mk 10)/\Ml W Z (o1+1) (Mk a.num)/\Ml W Z (o1+3+1) (Mk b.num)) W:=fun W O hv=>⟨O,hv,aj O r7 (fun e=>J' (by injection e with e;exact e.symm)),aj O q0 (fun e=>q' (by injection e with e;exact e.symm)),aj O u1 (fun e=>g' (by injection e with e;exact e.symm)),aj O t1 (fun e=>g' (by injection e with e;exact e.symm))⟩
    go_wp2_with fail;refine wp_region_noPanic ?_;refine wp_region_held_drew (S:=fun W=>w3.grownBy W (some (X+1))/\VBox W (X+1)/\Ml W E 7 (.map (some m))/\Ml W X 0 (Mk 10)/\Ml W Z (o1+1) (Mk a.num)/\Ml W Z (o1+3+1) (Mk b.num)) kr (I _ (aC (Mr _ _).drew _) (t'.out.stays (Mr _ _).drew)) (fun z=>?_);generalize w3.drew=wD at z ⊢;refine tkH [0,1,2,3,5,6,7,8,9,10,11,12,13,14,15] ?_;refine nxH 4 (fun K G=>?_)
    focus (refine jc _ (.tmp 69) (.tmp 71) jR m 10 _ _ _ _ jR jR (am (aZ j'.out z.1 k') HM.out) jR ?_)
    exact uaW
   ·obtain rfl:k=2:=by have h:=F'.out;have h2:=HK.out;rw[Mo dc]at h;omega
    obtain⟨a,b,rfl⟩:∃a b,pre=[a,b]:=by
     match pre,C' with
     | [a,b],_=>exact⟨a,b,rfl⟩
    obtain⟨Z,o1,p',x',u0,u1,u2⟩:=bT (l:=[a,b]) h'.out (k:=0) jS;obtain⟨b2,o2,f',-,t0,t1,t2⟩:=bT (l:=[a,b]) h'.out (k:=1) jS;subst p';injection f' with f';injection f' with e1 e2;subst e1 e2;have g':Z≠X+1:=n' Z o1 cr rfl;simp only[OL,OM,Nn,Oq,Nc]at u0 u1 u2 t0 t1 t2;clear n';have J:Hid (∀W:World,Mm w W->Mn 180 #[Mk a.num,Mk b.num] W (.agg #[Mk rv.kind,Mk rv.num,.string rv.text])):=jD (fun W hW=>by
     have h:=GG a.num b.num W;have e:cL (decide (a.num=1) || decide (b.num=1))=rv:=E';rw[e]at h;exact h)
    have O':IntKind.i64.wrap 1=1:=bM (n:=1) om;have q':X≠X+1:=by omega
    have I:∀W,w3.grownBy W (some (X+1))->VBox W (X+1)->(fun W=>w3.grownBy W (some (X+1))/\VBox W (X+1)/\Ml W E 7 (.map (some m))/\Ml W X 0 (Mk 11)/\Ml W Z (o1+1) (Mk a.num)/\Ml W Z (o1+3+1) (Mk b.num)) W:=fun W O hv=>⟨O,hv,aj O r7 (fun e=>J' (by injection e with e;exact e.symm)),aj O q0 (fun e=>q' (by injection e with e;exact e.symm)),aj O u1 (fun e=>g' (by injection e with e;exact e.symm)),aj O t1 (fun e=>g' (by injection e with e;exact e.symm))⟩
    go_wp2_with fail;refine wp_region_noPanic ?_;refine wp_region_held_drew (S:=fun W=>w3.grownBy W (some (X+1))/\VBox W (X+1)/\Ml W E 7 (.map (some m))/\Ml W X 0 (Mk 11)/\Ml W Z (o1+1) (Mk a.num)/\Ml W Z (o1+3+1) (Mk b.num)) kr (I _ (aC (Mr _ _).drew _) (t'.out.stays (Mr _ _).drew)) (fun z=>?_);generalize w3.drew=wD at z ⊢;refine tkH [0,1,2,3,5,6,7,8,9,10,11,12,13,14,15] ?_;refine nxH 4 (fun K G=>?_)
    focus (refine jc _ (.tmp 69) (.tmp 71) jR m 11 _ _ _ _ jR jR (am (aZ j'.out z.1 k') HM.out) jR ?_)
    exact uaW
   ·obtain rfl:k=1:=by have h:=F'.out;have h2:=HK.out;rw[Mp rfl]at h;omega
    obtain⟨a,rfl⟩:∃a,pre=[a]:=by
     match pre,C' with
     | [a],_=>exact⟨a,rfl⟩
    obtain⟨Z,o1,p',x',u0,u1,u2⟩:=bT (l:=[a]) h'.out (k:=0) jS;subst p';have g':Z≠X+1:=n' Z o1 cr rfl;simp only[OL,OM,Nn,Oq,Nc]at u0 u1 u2;clear n';have J:Hid (∀W:World,Mm w W->Mn 181 #[Mk a.num,Mk a.num] W (.agg #[Mk rv.kind,Mk rv.num,.string rv.text])):=jD (fun W hW=>by
     have h:=Fm a.num a.num W;have e:cL (!decide (a.num=1))=rv:=E';rw[e]at h;exact h)
    have O':IntKind.i64.wrap 0=0:=bM (n:=0) om;have q':X≠X+1:=by omega
    have I:∀W,w3.grownBy W (some (X+1))->VBox W (X+1)->(fun W=>w3.grownBy W (some (X+1))/\VBox W (X+1)/\Ml W E 7 (.map (some m))/\Ml W X 0 (Mk 12)/\Ml W Z (o1+1) (Mk a.num)) W:=fun W O hv=>⟨O,hv,aj O r7 (fun e=>J' (by injection e with e;exact e.symm)),aj O q0 (fun e=>q' (by injection e with e;exact e.symm)),aj O u1 (fun e=>g' (by injection e with e;exact e.symm))⟩
    go_wp2_with fail;refine wp_region_noPanic ?_;refine wp_region_held_drew (S:=fun W=>w3.grownBy W (some (X+1))/\VBox W (X+1)/\Ml W E 7 (.map (some m))/\Ml W X 0 (Mk 12)/\Ml W Z (o1+1) (Mk a.num)) kr (I _ (aC (Mr _ _).drew _) (t'.out.stays (Mr _ _).drew)) (fun z=>?_);generalize w3.drew=wD at z ⊢;refine tkH [0,1,2,3,5,6,7,8,9,10,11,12,13,14,15] ?_;refine nxH 4 (fun K G=>?_)
    focus (refine jc _ (.tmp 69) (.tmp 71) jR m 12 _ _ _ _ jR jR (am (aZ j'.out z.1 k') HM.out) jR ?_)
    exact uaW
theorem E6 (vs:List (List Evt)) (v:Value) (own:Int) (ev:Evt) (u:Value) (m:Nat) (z:∀k,(du vs k).length<=1048576) (d:Nat):∀(x:Ex) (G:Value) (w:World),fW w v vs->aV w u ev.vals->OpsAt w m->aK d w G x.args->cn x=0 ->
  Mn 119 #[oJ v own ev u m,exV x G] w (.tuple #[vlV (fy vs own ev x).1,Mk (fy vs own ev x).2]):=by
 induction d with
 | zero=>exact sZ 0 vs v own ev u m z (fun J h=>by omega)
 | succ d I=>exact sZ (d+1) vs v own ev u m z (fun J h=>NU h▸I)
def ti (vs:List (List Evt)) (own:Int) (ev:Evt) (x:Ex):Vl × Int:=if kQ x≠0 then (ah,kQ x) else fy vs own ev x
theorem D9 {x:Ex} (h:kQ x=0):cn x=0:=by
 unfold kQ at h
 split at h
 ·exact absurd h dc
 ·split at h
  ·exact absurd h dc
  ·exact h
theorem Dr (d:Nat) (vs:List (List Evt)) (v:Value) (own:Int) (ev:Evt) (u:Value) (f':∀k,(du vs k).length<=1048576)
  (x:Ex) (vx:Value) (w:World) (hv:fW w v vs) (hu:aV w u ev.vals) (hx:aK d w vx x.args) (hN:aF x<=1048576) :
  Mn 67 #[exV x vx,.agg #[v],Mk own,cP ev u] w (.tuple #[vlV (ti vs own ev x).1,Mk (ti vs own ev x).2]):=by
 have a':=jD (fun W (hW:Mm w W)=>sk d x vx W (hx.stays (ai d) hW) hN);have j':=jD (fun m W (hW:Mm w W) (hm:OpsAt W m) (hn:cn x=0)=>E6 vs v own ev u m f' d x vx W (hv.stays dT hW) (hu.stays aD hW) hm (hx.stays (ai d) hW) hn);obtain⟨⟨RV,re⟩,hR⟩:∃r,ti vs own ev x=r:=⟨_,rfl⟩;obtain⟨ce,O⟩:∃c,kQ x=c:=⟨_,rfl⟩;obtain⟨⟨QV,qe⟩,hQ⟩:∃r,fy vs own ev x=r:=⟨_,rfl⟩;have HR:Hid ((if ce≠0 then (ah,ce) else (QV,qe))=(RV,re)):=jD (by rw[<-hR,<-O,<-hQ];rfl);have HN:Hid (ce=0->cn x=0):=jD (fun h=>D9 (O.trans h));rw[hR];rw[O]at a';rw[hQ]at j';clear hR O hQ f';obtain⟨op,l,vr,fl,kd,vl⟩:=x;obtain⟨A,c,rfl,-⟩:=hv;obtain⟨Au,cu,rfl,-⟩:=hu;obtain⟨Ax,cx,rfl,-⟩:=hx;unfold exV cP oJ at *;simp only[Ex.op,Ex.args,Ex.vr,Ex.fl,Ex.kd,Ex.val]at *;unfold vlV at *;clear hN;go_enter func67,ntmps67;go_wp2_with fail;refine aI fun W9 e9=>?_
 have hX:W9.heap[w.heap.size]?=some (.cells [.int .i64 op,.slice Ax l.length cx,.int .i64 vr,.int .i64 fl,.int .i64 kd,.int .i64 vl.kind,.int .i64 vl.num,.string vl.text].toArray 29 (0,0)):=by
  rw[e9];repeat (first|exact ax _ _ _ jS|apply bB)
 have hE:W9.heap[w.heap.size+1]?=some (.cells [.slice A vs.length c].toArray 138 (0,0)):=by
  rw[e9];repeat (first|exact ax _ _ _ jS|apply bB)
 have hV:W9.heap[w.heap.size+1+1]?=some (.cells [.int .i64 ev.src,.int .i64 ev.sq,.int .i64 ev.ty,.int .i64 ev.tm,.slice Au ev.vals.length cu].toArray 60 (0,0)):=by
  rw[e9];repeat (first|exact ax _ _ _ jS|apply bB)
 have hB:VBox W9 (w.heap.size+1+1+1):=⟨Mk 0,Mk 0,.string ⟨#[]⟩,by rw[e9];repeat (first|exact ax _ _ _ jS|apply bB)⟩;have c':Mm w W9:=gb e9;clear e9;refine (a'.out _ c').mono ?_;rintro e w3 ⟨rfl,I⟩;have HX:=jD (am I hX);have HE:=jD (am I hE);have HV:=jD (am I hV);have HB:=jD (hB.stays I);have d':=jD (ab c' I);obtain⟨X,g'⟩:=jF w.heap.size;have m':=HB.out.lt;rw[<-g']at HX HE HV HB m' ⊢;have h':w.heap.size<=X+1+1+1:=by omega
 clear hX hE hV hB c' I g' a'
 by_cases hz:ce=0
 case neg =>
  obtain⟨e1,e2⟩:ah=RV/\ce=re:=by have h:=HR.out;rw[Mp hz]at h;injection h with e1 e2;exact⟨e1,e2⟩
  subst e1 e2;have n':(ce != 0)=true:=jQ hz;obtain⟨a0,b0,c0,z0,z1,z2,f0,f1,f2⟩:=HB.out.facts;clear hz;go_wp2;exact Mv (v:=.tuple #[.agg #[Mk 0,Mk 0,.string ⟨#[]⟩],Mk ce]) (by simp[results,results67,go_sem,ap,z0,z1,z2]) rfl ⟨rfl,di d'.out om _ _ _⟩
 subst hz;have l':=jD (HN.out rfl);obtain⟨e1,e2⟩:QV=RV/\qe=re:=by have h:=HR.out;rw[Mo jS]at h;injection h with e1 e2;exact⟨e1,e2⟩
 subst e1 e2;obtain⟨q0,q1,q2,q3,q4,q5,q6,q7⟩:=xm HX.out;have r0:Ml w3 (X+1) 0 (.slice A vs.length c):=ae HE.out 0;obtain⟨t0,t1,t2,t3,t4⟩:=blk5 HV.out;have J:∀W,w3.grownBy W (some (X+1+1+1))->VBox W (X+1+1+1)->(fun W=>w3.grownBy W (some (X+1+1+1))/\VBox W (X+1+1+1)/\Ml W X 0 (Mk op)/\Ml W X 1 (.slice Ax l.length cx)/\Ml W X 2 (Mk vr)/\Ml W X 3 (Mk fl)/\Ml W X 4 (Mk kd)/\Ml W X 5 (Mk vl.kind)/\Ml W X 6 (Mk vl.num)/\Ml W X 7 (.string vl.text)/\Ml W (X+1) 0 (.slice A vs.length c)/\Ml W (X+1+1) 0 (Mk ev.src)/\Ml W (X+1+1) 1 (Mk ev.sq)/\Ml W (X+1+1) 2 (Mk ev.ty)/\Ml W (X+1+1) 3 (Mk ev.tm)/\Ml W (X+1+1) 4 (.slice Au ev.vals.length cu)) W:=fun W G hv=>⟨G,hv,aj G q0 (fun e=>by injection e with e;omega),aj G q1 (fun e=>by injection e with e;omega),aj G q2 (fun e=>by injection e with e;omega),aj G q3 (fun e=>by injection e with e;omega),aj G q4 (fun e=>by injection e with e;omega),aj G q5 (fun e=>by injection e with e;omega),aj G q6 (fun e=>by injection e with e;omega),aj G q7 (fun e=>by injection e with e;omega),aj G r0 (fun e=>by injection e with e;omega),aj G t0 (fun e=>by injection e with e;omega),aj G t1 (fun e=>by injection e with e;omega),aj G t2 (fun e=>by injection e with e;omega),aj G t3 (fun e=>by injection e with e;omega),aj G t4 (fun e=>by injection e with e;omega)⟩
 go_wp2_with fail;refine wp_region_noPanic ?_;refine wp_region_held_drew (S:=fun W=>w3.grownBy W (some (X+1+1+1))/\VBox W (X+1+1+1)/\Ml W X 0 (Mk op)/\Ml W X 1 (.slice Ax l.length cx)/\Ml W X 2 (Mk vr)/\Ml W X 3 (Mk fl)/\Ml W X 4 (Mk kd)/\Ml W X 5 (Mk vl.kind)/\Ml W X 6 (Mk vl.num)/\Ml W X 7 (.string vl.text)/\Ml W (X+1) 0 (.slice A vs.length c)/\Ml W (X+1+1) 0 (Mk ev.src)/\Ml W (X+1+1) 1 (Mk ev.sq)/\Ml W (X+1+1) 2 (Mk ev.ty)/\Ml W (X+1+1) 3 (Mk ev.tm)/\Ml W (X+1+1) 4 (.slice Au ev.vals.length cu)) kr (J _ (aC (Mr _ _).drew _) (HB.out.stays (Mr _ _).drew)) (fun z=>?_);generalize w3.drew=wD at z ⊢;refine tkH [0,1,2,5] ?_;refine nxH 3 (fun K Z=>?_)
 focus (go_simp;refine (qY _).mono ?_;rintro e w4 ⟨m,rfl,hm,k'⟩)
 refine Z.out _ _ (J _ (cV z.1 (aC k' _)) (z.2.1.stays k')) (fun z=>?_);clear Z K;refine tkH [4] ?_;refine nxH 6 (fun K Z=>?_)
 focus (go_simp;refine (j'.out m _ (aZ d'.out z.1 h') hm l'.out).mono ?_;rintro e w5 ⟨rfl,i'⟩)
 refine Z.out _ _ (J _ (cV z.1 (aC i' _)) (z.2.1.stays i')) (fun z=>?_);clear Z K;refine tkH [7,8] ?_;refine nxH 9 (fun K Z=>?_)
 focus (obtain⟨a0,b0,c0,z0,z1,z2,f0,f1,f2⟩:=z.2.1.facts;go_simp)
 refine Z.out _ _ (J _ (dB z.1 _ _ _) (z.2.1.set3 _ _ _)) (fun z=>?_);clear Z K;refine tkH [10] ?_;refine dn ?_;have HF:=jD (aZ d'.out z.1 h');go_wp2;exact Mv (v:=.tuple #[.agg #[Mk QV.kind,Mk QV.num,.string QV.text],Mk qe]) (by simp[results,results67,go_sem,ap,z0,z1,z2]) rfl ⟨rfl,HF.out⟩
end Go.Proofs.YtbjicljfjkdeeaaGreatDoor
