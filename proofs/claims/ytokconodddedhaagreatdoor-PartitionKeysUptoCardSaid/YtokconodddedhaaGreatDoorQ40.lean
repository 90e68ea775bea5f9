/- Part. -/
import Derived.Test.YtokconodddedhaaGreatDoorQ39
set_option maxRecDepth 100000
set_option maxHeartbeats 16000000
set_option linter.unusedVariables false
set_option linter.unusedSimpArgs false
namespace Go.Proofs.YtokconodddedhaaGreatDoor
open Go.Proofs.Tryz Go.RowKit
abbrev iKv (n:Int):Value:=KW n
theorem GL {n:Int} (h:-9223372036854775808<=n/\n<=9223372036854775807):(Lit.int .i64 n).wf=true:=by
 have:=RowKit.wrap64_wf n;rw[IntWalk.wrap64_in _ h]at this;exact this
def pW (ts:List Sch) (q:Qry):Int:=if q.key=[] then 0 else if q.key.length≠ts.length then 15 else gB ts q.vars 0 (-1) q.key
theorem yq {ts:List Sch} {vs:List Nv} {i:Nat} {kd:Int} {l:List Int} {j:Nat} {k:Int} (h:l[j]?=some k):gB ts vs i kd (l.drop j) =
  if vs.any (fun v=>decide (v.ty=(i:Int)))=false then (if k≠-1 then 16 else gB ts vs (i+1) kd (l.drop (j+1)))
  else if k<0\/((fieldsOf ts i).length:Int)<=k then 16
  else if 0<=kd/\((fieldsOf ts i).getD k.toNat fy).kind≠kd then 9 else gB ts vs (i+1) ((fieldsOf ts i).getD k.toNat fy).kind (l.drop (j+1)):=by
 obtain⟨z,rfl⟩:=List.getElem?_eq_some_iff.1 h;rw[Lr z,gB]
theorem vN {ts:List Sch} {i:Nat} {s:Sch} (h:ts[i]?=some s):fieldsOf ts (i:Int)=s.fields:=by unfold fieldsOf;rw[MQ,kz h]
theorem Ip (ts:List Sch) (q:Qry) (d:Nat) (vt vv vk va vc vr:Value) (w:World) (hT:iZ w vt ts) (hq:QryIs d w q vv vk va vc vr) (hr:dz ts.length q.vars=0) (Y0:q.vars.length<=16) (H0:ts.length<=16) :
  Calls prog 234 #[vt,dO q vv vk va vc vr] w (lM w (pW ts q)):=by
 obtain⟨R,hR⟩:=jE (pW ts q);have e':=hR;unfold pW at e';rw[hR];have O0:=jD (nH hr);have E2:=@run_makeMap prog;obtain⟨At,ct,rfl,t1,t2,I'⟩:=hT;obtain⟨Av,cv,rfl,v1,v2,X'⟩:=hq.vars;obtain⟨Ak,ck,rfl,k1,k2,K0⟩:=hq.key;obtain⟨Aa,ca,rfl,-⟩:=hq.args;obtain⟨Ac,cc,rfl,-⟩:=hq.cond;obtain⟨Ar,cr,rfl,-⟩:=hq.rets;have p':=ax t1 t2;have u':=ax v1 v2;have s':=ax k1 k2;have P0:=jD I';have Q0:=jD X';have N0:=jD K0;obtain⟨nt,h'⟩:∃n,n=ts.length:=⟨_,rfl⟩;obtain⟨nv,r'⟩:∃n,n=q.vars.length:=⟨_,rfl⟩;obtain⟨J,i'⟩:∃n,n=q.key.length:=⟨_,rfl⟩;have D':=jD h';have A0:=jD r';have g':=jD i';rw[<-h']at H0 p' ⊢;rw[<-r']at Y0 u' ⊢;rw[<-i']at s' ⊢;rw[<-h',<-i']at e';have HR:=jD e';clear hR e' hq hr I' X' K0 t1 t2 v1 v2 k1 k2 h' r' i';unfold dO;go_enter func234,ntmps234
 go_upto_region 1 with fail
 refine aP fun w1 e1=>?_
 obtain⟨Q,hQ⟩:∃q,q=w.heap.size:=⟨_,rfl⟩;have M':KY w w1:=gb e1;have q1:KX w1 Q 1 (.slice Av nv cv):=by rw[e1,hQ];show _=_;go_simp
 have q2:KX w1 Q 2 (.slice Ak J ck):=by rw[e1,hQ];show _=_;go_simp
 have K1:=K8 w1 ⟨Q,_,none⟩ q1;rw[<-hQ];have z:=jD M';clear e1 hQ M'
 by_cases d':J=0
 ·have O':((J:Int)==0)=true:=jQ d';obtain rfl:0=R:=by have h:=HR.out;rw[K7 (L3 (by have:=g'.out;omega))]at h;exact h
  clear d';exact fi z.out
 have O':((J:Int)==0)=false:=jQ d';have m':Hid ((if J≠nt then 15 else gB ts q.vars 0 (-1) q.key)=R):=jD (by have h:=HR.out;rw[K6 (fun e=>by have:=g'.out;rw[e]at this;simp at this;omega)]at h;exact h);clear HR d'
 by_cases b':J=nt
 case neg =>
  have T':((J:Int) != (nt:Int))=true:=by simp;omega
  obtain rfl:15=R:=by have h:=m'.out;rw[K7 b']at h;exact h
  clear b';exact fi z.out
 have T':((J:Int) != (nt:Int))=false:=by simp;omega
 have O1:Hid (gB ts q.vars 0 (-1) q.key=R):=jD (by have h:=m'.out;rw[K6 (jQ b')]at h;exact h);have R0:=jD b';clear m' b';go_wp2_with fail;refine aP fun w3 e3=>?_
 obtain⟨M,hM⟩:∃q,q=w1.heap.size:=⟨_,rfl⟩;have H':Hid (HasM 3 iKv w3 M 0 []):=jD (by rw[e3,hM];exact gv _ _ w1);have P':Hid (KY w1 w3):=jD (gb e3);have Z1:w1.heap.size<=M:=by omega
 rw[<-hM];clear e3 hM
 go_loopw [26] (fun i wr=>∃k:Nat,k<=nv/\i=KW k/\Hid (HasM 3 iKv wr M k ((q.vars.take k).map (·.ty)))/\Hid (KY w1 wr)) (fun i _=>nv-(intOf i).toNat)
 case atStart=>exact⟨0,Lb _,rfl,H',P'⟩
 case round =>
  obtain⟨k,hk,rfl,hM,hI⟩:=hrel;have hb:=ab z.out hI.out
  by_cases A2:k<nv
  ·have V0:(k:Int)<(nv:Int):=by omega
   have k':k<q.vars.length:=by have:=A0.out;omega
   obtain⟨b,o,rfl,d0,d1⟩:=Q0.out k q.vars[k] (K9 k');have hg:=jD (K9 k');obtain⟨f,hf⟩:=jF (q.vars[k]);rw[<-hf]at hg d0 d1;obtain⟨C',F'⟩:=O0.out f (Li hg.out);replace d0:=aa hb d0;replace d1:=aa hb d1;have Z0:=K8 wr ⟨b,_,none⟩ d0;have E1:Hid ((q.vars.take (k+1)).map (·.ty)=(q.vars.take k).map (·.ty)++[f.ty]):=jD (by rw[aX hg.out,LH];rfl);have l':=ag wr (.cells #[.string f.name,.int .i64 f.ty] 146 (0,0));have G':=hM.out.below l';have Y':=jD (ab hI.out l');have D:=xl (n:=f.ty) (GL (by have:=D'.out;omega));obtain⟨w5,B2,L',E'⟩:=G'.store rt underlying338 Ep D (by unfold maxLen;omega);have U0:=jD L';have N1:=jD E';clear hf G' L' E' D l' C' F' k' hb hI;go_wp2_with fail;refine⟨⟨k+1,by omega,by go_num,jD (by rw[E1.out];exact U0.out),jD (Y'.out.trans (am N1.out Y'.out.size (fun g e=>by injection e with e;omega)))⟩,by simp[intOf];omega⟩
  ·have V0:¬(k:Int)<(nv:Int):=by omega
   obtain rfl:k=nv:=by omega
   have M1:Hid (HasM 3 iKv wr M k (q.vars.map (·.ty))):=jD (by have h:=hM.out;rw[Mn (by have:=A0.out;omega)]at h;exact h);have I:=jD hI.out;replace q1:=aa hI.out q1;replace q2:=aa hI.out q2;have K1:=K8 wr ⟨Q,_,none⟩ q1;obtain⟨wa,X0⟩:∃wa:World,wa=wr:=⟨_,rfl⟩;subst X0;clear hI hM H' P';go_wp2_with fail
   go_loopw [8,37] (fun s i wr=>∃(j:Nat) (kd:Int),j<=J/\i=KW j/\s=KW kd/\wr=wa/\Hid (gB ts q.vars j kd (q.key.drop j)=R)) (fun _ i _=>J-(intOf i).toNat)
   case atStart=>exact⟨0,-1,Lb _,rfl,rfl,rfl,jD (by rw[L1];exact O1.out)⟩
   case round =>
    obtain⟨j,kd,hj,rfl,rfl,rfl,hD⟩:=hrel;have hb:=ab z.out I.out
    by_cases S1:j<J
    ·have Q1:(j:Int)<(J:Int):=by omega
     have n':j<q.key.length:=by have:=g'.out;omega
     obtain⟨b,o,rfl,d0⟩:=N0.out j q.key[j] (K9 n');have hg:=jD (K9 n');obtain⟨kk,R'⟩:∃f,f=q.key[j]:=⟨_,rfl⟩;rw[<-R']at hg d0;unfold mW at d0;rw[LL]at d0;replace d0:=aa hb d0;have Z0:=K8 wr ⟨b,_,none⟩ d0;have Y1:j<nt:=by have:=R0.out;omega
     have a':j<ts.length:=by have:=D'.out;omega
     obtain⟨bt,ot,rfl,vf,S',s0,s1⟩:=P0.out j ts[j] (K9 a');have B':=jD (K9 a');obtain⟨sc,J'⟩:∃f,f=ts[j]:=⟨_,rfl⟩;rw[<-J']at B' s0 S';obtain⟨Af,cf,rfl,f1,f2,V'⟩:=S';have q':=ax f1 f2;have A1:=jD V';replace s1:=aa hb s1;have T1:=K8 wr ⟨bt,_,none⟩ s1;have c':=hD.out;rw[yq hg.out,vN B'.out]at c';have D:=xl (n:=(j:Int)) (GL om);obtain⟨r,hr,S0⟩:=M1.out.look rt underlying338 (x:=(j:Int)) D;have N':q.vars.any (fun v=>decide (v.ty=(j:Int)))=r:=by
      rw[LW,NA,hr,List.mem_map];simp
     rw[N']at c';obtain⟨nf,x'⟩:∃n,n=sc.fields.length:=⟨_,rfl⟩;have P1:=jD x';rw[<-x']at c' s1 q';have F:=jD c';have X1:(j:Int)<(nt:Int):=by omega
     clear R' J' c' hr N' V' f1 f2 s0 x' D n' a' hD hb
     cases r with
     | false =>
      by_cases Z:kk=-1
      case neg =>
       have Z':(kk != -1)=true:=jQ Z;obtain rfl:16=R:=by have h:=F.out;rw[K7 rfl,K7 Z]at h;exact h
       clear Z;exact fi (ab z.out I.out)
      have Z':(kk != -1)=false:=jQ Z;have G:Hid (gB ts q.vars (j+1) kd (q.key.drop (j+1))=R):=jD (by have h:=F.out;rw[K7 rfl,K6 (jQ Z)]at h;exact h);clear Z F;go_wp2_with fail
      go_roundw
      case rel=>exact⟨j+1,kd,by omega,by go_num,rfl,by trivial,G⟩
      case measure=>simp[intOf];omega
     | true =>
      by_cases U':kk<0
      ·obtain rfl:16=R:=by have h:=F.out;rw[K6 jS,K7 (.inl U')]at h;exact h
       exact fi (ab z.out I.out)
      by_cases z':(nf:Int)<=kk
      ·obtain rfl:16=R:=by have h:=F.out;rw[K6 jS,K7 (.inr z')]at h;exact h
       exact fi (ab z.out I.out)
      have f':=F.out;rw[K6 jS,K6 om]at f';obtain⟨kn,rfl⟩:∃kn:Nat,kk=(kn:Int):=⟨kk.toNat,by omega⟩;have R1:kn<nf:=by omega
      have j':kn<sc.fields.length:=by have:=P1.out;omega
      obtain⟨f,hf⟩:∃f,sc.fields[kn]?=some f:=⟨_,K9 j'⟩;obtain⟨bf,off,rfl,g0,g1⟩:=A1.out kn f hf;replace g1:=aa (ab z.out I.out) g1;have V1:=K8 wr ⟨bf,_,none⟩ g1;rw[MQ,kz hf]at f';have G:=jD f';have W1:¬((kn:Int)<0):=by omega
      have U1:¬((nf:Int)<=(kn:Int)):=by omega
      have T0:(kn:Int)<(nf:Int):=by omega
      clear f' F hf g0 U' z' j'
      by_cases y':0<=kd
      ·by_cases O:f.kind=kd
       case neg =>
        have A':(f.kind != kd)=true:=jQ O;obtain rfl:9=R:=by have h:=G.out;rw[K7 ⟨y',O⟩]at h;exact h
        clear O;exact fi (ab z.out I.out)
       have A':(f.kind != kd)=false:=jQ O;have t':Hid (gB ts q.vars (j+1) f.kind (q.key.drop (j+1))=R):=jD (by have h:=G.out;rw[K6 (fun hh=>hh.2 O)]at h;exact h);clear O G;go_wp2_with fail
       go_roundw
       case rel=>exact⟨j+1,f.kind,by omega,by go_num,rfl,by trivial,t'⟩
       case measure=>simp[intOf];omega
      ·have t':Hid (gB ts q.vars (j+1) f.kind (q.key.drop (j+1))=R):=jD (by have h:=G.out;rw[K6 (fun hh=>y' hh.1)]at h;exact h);clear G;go_wp2_with fail
       go_roundw
       case rel=>exact⟨j+1,f.kind,by omega,by go_num,rfl,by trivial,t'⟩
       case measure=>simp[intOf];omega
    ·have Q1:¬(j:Int)<(J:Int):=by omega
     obtain rfl:0=R:=by have h:=hD.out;rw[Lq (by have:=g'.out;omega),gB]at h;exact h
     exact fi (ab z.out I.out)
def QBox (w:World) (b:Nat) (q:Qry) (vv vk va vc vr:Value):Prop:=w.heap[b]?=some (.cells (ef q vv vk va vc vr).toArray 33 (0,0))
theorem QBox.stays {w W:World} {b:Nat} {q:Qry} {vv vk va vc vr:Value} (h:QBox w b q vv vk va vc vr) (z:KY w W):QBox W b q vv vk va vc vr:=ao z h
theorem FL {l:List Sch} (h:fU l=0):l.length<=16:=by
 unfold fU at h
 by_cases z:16<l.length
 ·rw[K7 z]at h;exact absurd h dc
 ·omega
theorem oB {n:Nat}:∀{l:List Nv} {s:List (List UInt8)},je n s l=0->dz n l=0
 | [],_,_=>rfl
 | v::r,s,h=>by
  rw[je]at h;rw[dz]
  by_cases z:fh (tx v.name)=0
  ·rw[K6 (jQ z)]at h
   by_cases F:s.contains (tx v.name)=true
   ·rw[K7 F]at h;exact absurd h dc
   ·rw[K6 F]at h
    by_cases D:v.ty<0\/(n:Int)<=v.ty
    ·rw[K7 D]at h;exact absurd h dc
    ·rw[K6 D]at h ⊢;exact oB h
  ·rw[K7 z]at h;exact absurd h z
theorem Ba {ts:List Sch} {vs:List Nv} (h:pU ts vs=0):vs.length<=16/\dz ts.length vs=0:=by
 unfold pU at h
 by_cases z:16<vs.length
 ·rw[K7 z]at h;exact absurd h dc
 ·rw[K6 z]at h;exact⟨by omega,oB h⟩
theorem EW (ts:List Sch) (q:Qry) (d:Nat) (vt vv vk va vc vr:Value) (T Q:Nat) (w:World) (ht:w.cell? ⟨T,0,none⟩=some vt) (G:QBox w Q q vv vk va vc vr) (I:iZ w vt ts) (hq:QryIs d w q vv vk va vc vr) (hr:dz ts.length q.vars=0) (D:q.vars.length<=16) (h:ts.length<=16) :
  Calls prog 233 #[.pointer (some ⟨T,0,none⟩),.pointer (some ⟨Q,0,none⟩)] w (lM w (pW ts q)):=by
 have O:=jD (Ip ts q d vt vv vk va vc vr w I hq hr D h);obtain⟨At,ct,rfl,-⟩:=id I;obtain⟨Z,cv,rfl,-⟩:=id hq.vars;obtain⟨Ak,ck,rfl,-⟩:=id hq.key;obtain⟨Aa,ca,rfl,-⟩:=id hq.args;obtain⟨Ac,cc,rfl,-⟩:=id hq.cond;obtain⟨Ar,cr,rfl,-⟩:=id hq.rets;have b':=K8 w ⟨T,_,none⟩ ht;have a':=aD G;have z:w.heap[Q]?=some (.cells #[.string q.nm,.slice Z q.vars.length cv,.slice Ak q.key.length ck,.int .i64 q.pat.op,.slice Aa q.pat.args.length ca,.int .i64 q.pat.ty,.int .i64 q.pat.vr,.int .i64 q.pat.sc,.int .i64 q.pat.sp,.int .i64 q.pat.cond.op,.slice Ac q.pat.cond.args.length cc,.int .i64 q.pat.cond.vr,.int .i64 q.pat.cond.fl,.int .i64 q.pat.cond.kd,.int .i64 q.pat.cond.val.kind,.int .i64 q.pat.cond.val.num,.string q.pat.cond.val.text,.slice Ar q.rets.length cr] 33 (0,0)):=G;unfold dO at O;clear I hq hr D h G;go_enter func233,ntmps233;go_wp2_with (refine Md rfl 33 (.tmp 1) rfl Q rfl 33 _ (0,0) _ (z) underlying33 rfl bM ?_);refine O.out.mono ?_;rintro e w2 ⟨rfl,F⟩;have J:=jD F;clear F z;exact fi J.out
structure QryAsk (w:World) (ts:List Sch) (q:Qry) (d:Nat) (vt vv vk va vc vr:Value):Prop where
 typ:TypAsk w ts q.vars vt vv
 qry:QryIs d w q vv vk va vc vr
 big:xr q<=1048576
 nm:q.nm.size<=1048576
theorem QryAsk.stays {w W:World} {ts:List Sch} {q:Qry} {d:Nat} {vt vv vk va vc vr:Value} (h:QryAsk w ts q d vt vv vk va vc vr) (z:KY w W):QryAsk W ts q d vt vv vk va vc vr:=⟨h.typ.stays z,h.qry.stays z,h.big,h.nm⟩
theorem QryAsk.pat {w:World} {ts:List Sch} {q:Qry} {d:Nat} {vt vv vk va vc vr:Value} (h:QryAsk w ts q d vt vv vk va vc vr):ptB q.pat<=1048576:=by have:=h.big;unfold xr at this;omega
theorem QryAsk.ret {w:World} {ts:List Sch} {q:Qry} {d:Nat} {vt vv vk va vc vr:Value} (h:QryAsk w ts q d vt vv vk va vc vr):∀x∈q.rets,aM x<=1048576:=fun x D=>by
 have:=h.big;unfold xr at this;have G:∀l:List Ex,x∈l->aM x<=(l.map aM).sum:=fun l z=>by
  induction l with
  | nil=>simp at z
  | cons a r F =>
   rw[LF,MB];rcases List.mem_cons.1 z with rfl|z
   ·omega
   ·have:=F z;omega
 have:=G _ D;omega
theorem FF (d:Nat) (ts:List Sch) (q:Qry) (vt vv vk va vc vr:Value) (w:World) (hA:QryAsk w ts q d vt vv vk va vc vr) :
  Calls prog 168 #[vt,dO q vv vk va vc vr] w (lM w (kyT ts q)):=by
 have g':=jD hA;have hq:=hA.qry;obtain⟨At,ct,rfl,-⟩:=id hA.typ.typ.types;obtain⟨Av,cv,rfl,-⟩:=id hq.vars;obtain⟨Ak,ck,rfl,-⟩:=id hq.key;obtain⟨Aa,ca,rfl,-⟩:=id hq.args;obtain⟨Ac,cc,rfl,-⟩:=id hq.cond;obtain⟨Ar,cr,rfl,-⟩:=id hq.rets;obtain⟨nt,k'⟩:∃n,n=ts.length:=⟨_,rfl⟩;rw[<-k']at g';rw[<-k'];obtain⟨j0,S',R',N',M'⟩:=LD sY;clear hA hq k';unfold dO;go_enter func168,ntmps168;go_wp2_with fail;refine aw fun w1 e1=>?_
 obtain⟨Q,hQ⟩:∃q,q=w.heap.size+1:=⟨_,rfl⟩;obtain⟨T,hT⟩:∃q,q=w.heap.size:=⟨_,rfl⟩;have t':KY w w1:=gb e1;have t0:KX w1 T 0 (.slice At nt ct):=by rw[e1,hT];show _=_;go_simp
 have C':Hid (QBox w1 Q q (.slice Av q.vars.length cv) (.slice Ak q.key.length ck) (.slice Aa q.pat.args.length ca) (.slice Ac q.pat.cond.args.length cc) (.slice Ar q.rets.length cr)):=jD (by rw[e1,hQ];exact ap _ _ _ jS);have H':=jD t0;have O':=jD t';rw[<-hQ,<-hT];clear e1 hQ hT t0 t';refine (lN _ _ _ _ _ _ w1).mono ?_;rintro e w2 ⟨b1,b2,T',V',v2,rfl,D,s',q',n',z',h',m'⟩;have d':=jD h';have A':=jD D;have c':=jD (And.intro s' (And.intro q' (And.intro n' z')));have j':=jD m';obtain⟨A2,c2,rfl⟩:=ay D;clear D s' q' n' z' m' h';go_wp2_with fail;refine (eF _ _ w2).mono ?_;rintro e w3 ⟨rfl,i',e'⟩;obtain⟨b3,O⟩:∃q,q=w2.heap.size:=⟨_,rfl⟩;rw[<-O]at i' ⊢;have L':Hid (w3.cell? ⟨b3,0,none⟩=some (clV 233 [T,Q])):=jD i';have a':=jD e';have B':=jD (aj A'.out e');have D':w1.heap.size<=w3.heap.size:=Lf j'.out.size e'.size;have p':=jD O;clear i' e' O
 go_wp2_with (at_builtin;refine aR _ rfl (.tmp 11) (.tmp 14) 289 rfl w1.heap.size 231 j0 _ 1 8 underlying289 S' R' N' M' rfl dc (.slice A2 2 c2) 2 [clV 220 [b1],clV 220 [b2]] rfl (aj B'.out (ag w3 _)) (some ⟨w3.heap.size,0,none⟩) 1 1 [clV 220 [b3]] rfl (bE _ [clV 220 [b3]] _ 1 1 _ rfl rfl (by simp[Value.oneCell'])) (by unfold maxLen;omega) om (by rw[L4];omega) ?_;intro v8 w8 z y' l';have I':=jD z;have u':=jD y';obtain⟨A8,c8,rfl⟩:=ay z;clear z y' l');have P':Hid (Below w1.heap.size w3 w8):=jD (((ag w3 _).mono D').trans (am u'.out (by rw[L4];omega) (fun g e=>(ah B'.out e).1)));have h:∀(b p:Nat) (u:Value),(∀g,(Value.slice A2 2 c2).ownBlock=some g->b≠g)->w3.cell? ⟨b,p,none⟩=some u->w8.cell? ⟨b,p,none⟩=some u:=fun b p u J' hc=>by
  have h1:=aa (ag w3 (.cells #[clV 220 [b3]] 231 (0,0))) hc;exact (Ln (a:=⟨b,p,none⟩) (u'.out.block b (K8 _ ⟨b,p,none⟩ h1) (fun e=>J' b e.symm rfl))).trans h1
 have r':∀g,(Value.slice A2 2 c2).ownBlock=some g->w1.heap.size<=g/\g<w2.heap.size:=fun g hg=>ah A'.out hg
 have q1:=h _ _ _ (fun g hg=>(d'.out g hg).1) (aa a'.out c'.out.1);have q2:=h _ _ _ (fun g hg=>(d'.out g hg).2.1) (aa a'.out c'.out.2.1);have q3:=h _ _ _ (fun g hg=>(d'.out g hg).2.2.1) (aa a'.out c'.out.2.2.1);have q4:=h _ _ _ (fun g hg=>(d'.out g hg).2.2.2) (aa a'.out c'.out.2.2.2);have q5:=h _ _ _ (fun g hg=>by have:=r' g hg;have:=p'.out;omega) L'.out;have Z:Hid (KY w1 w8):=jD ((j'.out.trans (a'.out.mono j'.out.size)).trans P'.out);have f':=jD (ab O'.out Z.out);have q6:=aa Z.out H'.out;have HQ:=jD (And.intro q1 (And.intro q2 (And.intro q3 (And.intro q4 (And.intro q5 q6)))));have E':=jD (C'.out.stays Z.out);have F:=jD (g'.out.stays f'.out);obtain⟨fs,I⟩:∃fs:List (Value × Int × Int),fs=[(clV 220 [b1],0,fU ts),(clV 220 [b2],0,pU ts q.vars),(clV 220 [b3],0,pW ts q)]:=⟨_,rfl⟩;have hF:=nD fs w1.heap.size (.slice A8 (2+1) c8) w8 (by rw[I];simp) (by rw[I];exact I'.out) (by rw[I];intro p hp;simp at hp;rcases hp with rfl|rfl|rfl<;>rfl) (fun k p hk G=>by
  rw[I]at hk G
  match k,hk with
  | 0,hk =>
   simp at hk;subst hk;exact dn w8 b1 _ [T'] _ HQ.out.1 (fun _ _=>rfl) fun W J=>tM ts _ T' W (aa J HQ.out.2.2.1) (F.out.typ.typ.types.stays bU J) F.out.typ.fit
  | 1,hk =>
   simp at hk;subst hk;exact dn w8 b2 _ [T',V'] _ HQ.out.2.1 (fun _ _=>rfl) fun W J=>th ts q.vars _ _ T' V' W (aa J HQ.out.2.2.1) (aa J HQ.out.2.2.2.1) (F.out.typ.lx.stays J) (F.out.typ.typ.stays J) F.out.typ.nms
  | 2,hk =>
   simp at hk;subst hk;have h0:fU ts=0:=G 0 _ om rfl;have h1:pU ts q.vars=0:=G 1 _ om rfl;exact dn w8 b3 _ [T,Q] _ HQ.out.2.2.2.2.1 (fun _ _=>rfl) fun W J=>EW ts q d _ _ _ _ _ _ T Q W (aa J HQ.out.2.2.2.2.2) (E'.out.stays J) (F.out.typ.typ.types.stays bU J) (F.out.qry.stays J) (Ba h1).2 (Ba h1).1 (FL h0)
  | k+3,hk=>simp at hk)
 have b':(cG fs).2=kyT ts q:=by
  rw[I];unfold kyT tv;simp only[cG]
  by_cases h1:fU ts=0
  ·by_cases h2:pU ts q.vars=0
   ·simp only[h1,h2,LP,not_true_eq_false,if_false];show _=pW ts q
    by_cases h3:pW ts q=0
    ·simp[h3]
    ·simp[h3]
   ·simp[h1,h2]
  ·simp[h1]
 obtain⟨⟨r1,r2⟩,hr⟩:∃r,r=cG fs:=⟨_,rfl⟩;rw[<-hr]at hF b';simp only at b';have F':=jD b';have HF:=jD hF;clear b' hF hr I h r' q1 q2 q3 q4 q5 q6;go_wp2_with fail;refine HF.out.mono ?_;rintro e w9 ⟨rfl,x'⟩;have G':=jD (ab f'.out x');clear x';go_wp2;go_ret;exact⟨by rw[<-F'.out];rfl,G'.out⟩
section
def JH (I J:World->Prop) (v:Value) (r:Int × Int):Prop:=∃(g:FuncId) (h:List Value),v=.func (.func g) #[] h.toArray/\(∀args W,(callFunc g args).run prog W=.ok (.enter g args) W)/\∀W,I W->Calls prog g h.toArray W (jZ J r)
theorem yE (fs:List (Value × Int × Int)) (I:Nat->World->Prop) (A:Option Addr) (c:Nat) (w:World) (h0:I 0 w) (hlen:fs.length<=100) (J:∀k W W',I k W->KY W W'->I k W')
  (hc:∀(W:World) (k:Nat) (p:Value × Int × Int),I k W->fs[k]?=some p->∃b o,A=some ⟨b,o,none⟩/\W.cell? ⟨b,o+k,none⟩=some p.1)
  (hp:∀(k:Nat) (p:Value × Int × Int),fs[k]?=some p->(∀(j:Nat) (q:Value × Int × Int),j<k->fs[j]?=some q->q.2.2=0)->JH (I k) (I (k+1)) p.1 p.2) :
  Calls prog 160 #[.slice A fs.length c] w (jZ (fun W=>∃k,I k W) (cG fs)):=by
 obtain⟨R,hR⟩:=jE (cG fs);have HR:=jD hR;rw[hR];have HC:=jD hc;have HP:=jD hp;have c':=jD J;have b':=jD h0;have i':∀(g:Nat) (b c:Array Value) (W:World) (a:Addr),(store a (.func (.func g) b c)).run prog W=stored prog W a (.func (.func g) b c) .plain:=fun g b c W a=>run_store prog W a _ .plain rfl
 have hn:(fs.length:Int)<=9223372036854775807:=by omega
 clear hR hc hp J h0;go_enter func160,ntmps160;go_wp2_with fail
 go_loopw [10] (fun i wr=>∃k:Nat,k<=fs.length/\i=KW k/\Hid (cG (fs.drop k)=R/\(∀(j:Nat) (q:Value × Int × Int),j<k->fs[j]?=some q->q.2.2=0)/\I k wr)) (fun i _=>fs.length-(intOf i).toNat)
 case atStart=>exact⟨0,Lb _,rfl,jD ⟨by rw[L1];exact HR.out,fun j q h=>by omega,b'.out⟩⟩
 case round =>
  obtain⟨k,hk,rfl,F⟩:=hrel
  by_cases f':k<fs.length
  ·have e':(k:Int)<(fs.length:Int):=by omega
   have O:=jD (K9 f');obtain⟨p,Z⟩:=jF (fs[k]);rw[<-Z]at O;obtain⟨b,o,rfl,z⟩:=HC.out wr k p F.out.2.2 O.out;obtain⟨g,h',a',eg,D⟩:=HP.out k p O.out F.out.2.1;obtain⟨pv,p1,p2⟩:=p;simp only at a' z;subst a';have g':=jD D;have G:=F.out.1;rw[oA O.out]at G;have HD:=jD G;have j':=K8 wr ⟨b,_,none⟩ z;clear Z D G;go_wp2_with fail;refine (g'.out _ (c'.out _ _ _ F.out.2.2 jB)).mono ?_;rintro e w2 ⟨rfl,h2⟩;have H2:=jD h2;clear h2 z
   by_cases hz:p2=0
   case neg =>
    have k':(p2 != 0)=true:=jQ hz;obtain rfl:(p1,p2)=R:=by have h:=HD.out;rw[K7 hz]at h;exact h
    clear hz;go_wp2;exact Lc (v:=.tuple #[KW p1,KW p2]) (by simp[results,results160,go_sem]) rfl ⟨rfl,_,H2.out⟩
   subst hz;have d':Hid (cG (fs.drop (k+1))=R):=jD (by have h:=HD.out;rw[K6 jS]at h;exact h);go_wp2_with fail
   go_roundw
   case rel=>exact⟨k+1,by omega,by go_num,jD ⟨d'.out,fun j q hj hq=>by
     rcases LY j k with h|h
     ·exact F.out.2.1 j q h hq
     ·have:j=k:=by omega
      subst this;rw[O.out]at hq
      cases hq
      rfl,H2.out⟩⟩
   case measure=>simp[intOf];omega
  ·have e':¬(k:Int)<(fs.length:Int):=by omega
   have G:=F.out.1;rw[Lq om,cG]at G;subst G;have HI:=jD F.out.2.2;clear F;go_wp2;exact Lc (v:=.tuple #[KW 0,KW 0]) (by simp[results,results160,go_sem]) rfl ⟨rfl,_,HI.out⟩
theorem oL (I J:World->Prop) (b:Nat) (v:Value) (r:Int) (O:∀W,I W->W.cell? ⟨b,0,none⟩=some v)
  (hv:∃(g:FuncId) (z:List Value),v=.func (.func g) #[] z.toArray/\(∀args W,(callFunc g args).run prog W=.ok (.enter g args) W)/\∀W,I W->Calls prog g z.toArray W fun e W'=>e=.returned (KW r)/\J W') :
  JH I J (.func (.func 220) #[] #[.pointer (some ⟨b,0,none⟩)]) (0,r):=by
 refine⟨_,[.pointer (some ⟨b,0,none⟩)],rfl,fun _ _=>rfl,fun W F=>?_⟩;have Z:=O W F;have a':=K8 W ⟨b,_,none⟩ Z;obtain⟨g,z,rfl,eg,h⟩:=hv;have D:=jD (h W F);clear O h;show Calls prog 220 #[.pointer (some ⟨b,0,none⟩)] W (jZ J (0,r));go_enter func220,ntmps220;go_wp2_with fail;refine D.out.mono ?_;rintro e w2 ⟨rfl,G⟩;have H2:=jD G;clear G;go_wp2;exact Lc (v:=.tuple #[KW 0,KW r]) (by simp[results,results220,go_sem]) rfl ⟨rfl,H2.out⟩
section
variable {ts : List Sch} {q : Qry} {d : Nat} {vt vv vk va vc vr : Value} {T Q : Nat} {w : World}
theorem F5 (z:QryAsk w ts q d vt vv vk va vc vr) (ht:w.cell? ⟨T,0,none⟩=some vt) (hQ:QBox w Q q vv vk va vc vr) :
  Calls prog 235 #[.pointer (some ⟨T,0,none⟩),.pointer (some ⟨Q,0,none⟩)] w (ur w (kM ts q.vars q.pat)):=by
 have HK:=jD (oT d ts q.vars q.pat vt vv va vc w z.typ z.qry.args z.qry.cond z.pat);have hq:=z.qry;obtain⟨At,ct,rfl,-⟩:=id z.typ.typ.types;obtain⟨Av,cv,rfl,-⟩:=id hq.vars;obtain⟨Ak,ck,rfl,-⟩:=id hq.key;obtain⟨Aa,ca,rfl,-⟩:=id hq.args;obtain⟨Ac,cc,rfl,-⟩:=id hq.cond;obtain⟨Ar,cr,rfl,-⟩:=id hq.rets;have e':=K8 w ⟨T,_,none⟩ ht;have d':=aD hQ;have h:w.heap[Q]?=some (.cells ([.string q.nm,.slice Av q.vars.length cv,.slice Ak q.key.length ck,KW q.pat.op,.slice Aa q.pat.args.length ca,KW q.pat.ty,KW q.pat.vr,KW q.pat.sc,KW q.pat.sp,KW q.pat.cond.op,.slice Ac q.pat.cond.args.length cc,KW q.pat.cond.vr,KW q.pat.cond.fl,KW q.pat.cond.kd,KW q.pat.cond.val.kind,KW q.pat.cond.val.num,.string q.pat.cond.val.text,.slice Ar q.rets.length cr]:List Value).toArray 33 (0,0)):=hQ;have y1:=af h 1;have y3:=af h 3;have y4:=af h 4;have y5:=af h 5;have y6:=af h 6;have y7:=af h 7;have y8:=af h 8;have y9:=af h 9;have F:=af h 10;have a':=af h 11;have Z:=af h 12;have I:=af h 13;have G:=af h 14;have O:=af h 15;have D:=af h 16;simp only[LE,LC]at y1 y3 y4 y5 y6 y7 y8 y9 F a' Z I G O D;obtain⟨⟨r1,r2⟩,hr⟩:∃r,r=kM ts q.vars q.pat:=⟨_,rfl⟩;have b':=jD hr;rw[<-hr]at HK;unfold ptV at HK;clear z hq hQ h hr
 go_enter func235,ntmps235;go_wp2_with fail;refine HK.out.mono ?_;rintro e w2 ⟨rfl,J⟩;have c':=jD J;clear J y1 y3 y4 y5 y6 y7 y8 y9 F a' Z I G O D;go_wp2;exact Lc (v:=.tuple #[KW r1,KW r2]) (by simp[results,results235,go_sem]) rfl ⟨by rw[<-b'.out],c'.out⟩
def yy (n:Nat):Int:=if n=0 then 15 else if 256<n then 5 else 0
theorem GB (Z:QryAsk w ts q d vt vv vk va vc vr) (F:QBox w Q q vv vk va vc vr) :
  Calls prog 236 #[.pointer (some ⟨Q,0,none⟩)] w (lM w (yy q.rets.length)):=by
 have hq:=Z.qry;obtain⟨Av,cv,rfl,-⟩:=id hq.vars;obtain⟨Ak,ck,rfl,-⟩:=id hq.key;obtain⟨Aa,ca,rfl,-⟩:=id hq.args;obtain⟨Ac,cc,rfl,-⟩:=id hq.cond;obtain⟨Ar,cr,rfl,r1,O,-⟩:=id hq.rets;have I:=ax r1 O;have b':=aD F;have h:w.heap[Q]?=some (.cells ([.string q.nm,.slice Av q.vars.length cv,.slice Ak q.key.length ck,KW q.pat.op,.slice Aa q.pat.args.length ca,KW q.pat.ty,KW q.pat.vr,KW q.pat.sc,KW q.pat.sp,KW q.pat.cond.op,.slice Ac q.pat.cond.args.length cc,KW q.pat.cond.vr,KW q.pat.cond.fl,KW q.pat.cond.kd,KW q.pat.cond.val.kind,KW q.pat.cond.val.num,.string q.pat.cond.val.text,.slice Ar q.rets.length cr]:List Value).toArray 33 (0,0)):=F;have z:=af h 17;simp only[LE,LC]at z;clear Z hq F h r1 O;obtain⟨n,J⟩:=jF q.rets.length;rw[<-J]at z I ⊢;clear J;unfold yy
 by_cases h0:n=0
 ·subst h0;go_enter func236,ntmps236;go_wp2;go_ret;exact⟨rfl,La _ _⟩
 have a':((n:Int)==0)=false:=jQ h0;rw[K6 h0]
 by_cases D:256<n
 ·have G:(256:Int)<(n:Int):=by omega
  rw[K7 D];clear D h0;go_enter func236,ntmps236;go_wp2;go_ret;exact⟨rfl,La _ _⟩
 have G:¬(256:Int)<(n:Int):=by omega
 rw[K6 D];clear D h0;go_enter func236,ntmps236;go_wp2;go_ret;exact⟨rfl,La _ _⟩
theorem Es (z:QryAsk w ts q d vt vv vk va vc vr) (hQ:QBox w Q q vv vk va vc vr) :
  Calls prog 239 #[.pointer (some ⟨Q,0,none⟩)] w (ur w (rF q.pat q.rets)):=by
 have HK:=jD (uC d q.pat q.rets va vc vr w z.typ.shp z.typ.tbl z.qry.args z.qry.cond z.qry.rets z.pat z.ret);have hq:=z.qry;obtain⟨Av,cv,rfl,-⟩:=id hq.vars;obtain⟨Ak,ck,rfl,-⟩:=id hq.key;obtain⟨Aa,ca,rfl,-⟩:=id hq.args;obtain⟨Ac,cc,rfl,-⟩:=id hq.cond;obtain⟨Ar,cr,rfl,-⟩:=id hq.rets;have e':=aD hQ;have h:w.heap[Q]?=some (.cells ([.string q.nm,.slice Av q.vars.length cv,.slice Ak q.key.length ck,KW q.pat.op,.slice Aa q.pat.args.length ca,KW q.pat.ty,KW q.pat.vr,KW q.pat.sc,KW q.pat.sp,KW q.pat.cond.op,.slice Ac q.pat.cond.args.length cc,KW q.pat.cond.vr,KW q.pat.cond.fl,KW q.pat.cond.kd,KW q.pat.cond.val.kind,KW q.pat.cond.val.num,.string q.pat.cond.val.text,.slice Ar q.rets.length cr]:List Value).toArray 33 (0,0)):=hQ;have y3:=af h 3;have y4:=af h 4;have y5:=af h 5;have y6:=af h 6;have y7:=af h 7;have y8:=af h 8;have y9:=af h 9;have F:=af h 10;have b':=af h 11;have Z:=af h 12;have I:=af h 13;have G:=af h 14;have O:=af h 15;have D:=af h 16;have a':=af h 17;simp only[LE,LC]at y3 y4 y5 y6 y7 y8 y9 F b' Z I G O D a';obtain⟨⟨r1,r2⟩,hr⟩:∃r,r=rF q.pat q.rets:=⟨_,rfl⟩;have c':=jD hr;rw[<-hr]at HK;unfold ptV at HK;clear z hq hQ h hr;go_enter func239,ntmps239;go_wp2_with fail;refine HK.out.mono ?_;rintro e w2 ⟨rfl,J⟩;have d':=jD J;clear J y3 y4 y5 y6 y7 y8 y9 F b' Z I G O D a';go_wp2;exact Lc (v:=.tuple #[KW r1,KW r2]) (by simp[results,results239,go_sem]) rfl ⟨by rw[<-c'.out],d'.out⟩
end
structure KndI (w8:World) (KB m:Nat) (W:World):Prop where
 keep:KeepX [KB] w8 W
 row:∃u l,Boxed W KB 23 u/\W.ownsRow w8.heap.size 3 1 u l.length (bl l)/\l.length<=m
theorem KndI.stays {w8 W W':World} {F m:Nat} (h:KndI w8 F m W) (z:KY W W'):KndI w8 F m W':=by
 obtain⟨u,l,D,I,G⟩:=h.row;exact⟨h.keep.trans (bw z),u,l,(z.block _ D.lt).trans D,aj I z,G⟩
theorem KndI.more {w8 W:World} {z m D:Nat} (h:KndI w8 z m W) (hm:m<=D):KndI w8 z D W:=by
 obtain⟨u,l,F,G,I⟩:=h.row;exact⟨h.keep,u,l,F,G,by omega⟩
theorem zY {ts:List Sch} {vs:List Nv} {l:List Ex} {k:Nat} {a:Ex} (h:l[k]?=some a):(iu ts vs (l.drop k)).2=if (iv ts vs a).2≠0 then (iv ts vs a).2 else (iu ts vs (l.drop (k+1))).2:=by
 obtain⟨z,rfl⟩:=List.getElem?_eq_some_iff.1 h;rw[Lr z,iu]
 split<;>rfl
theorem KeepX.grown {bs:List Nat} {a b c:World} {row:Option Nat} (h:KeepX bs a b) (z:b.grownBy c row) (hr:∀g,row=some g->a.heap.size<=g):KeepX bs a c :=
 ⟨z.os.trans h.os,z.tape.trans h.tape,z.output.trans h.output,Lf h.size z.size,fun k hk D=>(z.block k (Ll hk h.size) (fun e=>by have:=hr k e.symm;omega)).trans (h.block k hk D)⟩
theorem Ev {ts:List Sch} {q:Qry} {d:Nat} {vt vv vk va vc vr:Value} {T Q D:Nat} {w0 w8 w:World} (hA:QryAsk w0 ts q d vt vv vk va vc vr) (hB:KY w0 w8) (z':w0.heap.size<=D) (A0:D<w8.heap.size) (ht:w8.cell? ⟨T,0,none⟩=some vt) (hQ:QBox w8 Q q vv vk va vc vr) (m':T≠D) (D':Q≠D) (I:KndI w8 D 0 w) (u':q.rets.length<=256) :
  Calls prog 237 #[.pointer (some ⟨Q,0,none⟩),.pointer (some ⟨T,0,none⟩),.pointer (some ⟨D,0,none⟩)] w fun e W=>e=.returned (KW (iu ts q.vars q.rets).2)/\KndI w8 D 256 W:=by
 have q':=jD (fun (W:World) (hk:KeepX [D] w8 W)=>hB.trans (hk.below hB.size (fun b h=>by rw[Lz]at h;rw[h];exact z')));have HT:=jD (fun (W:World) (hk:KeepX [D] w8 W)=>hk.cell ht (jQ m'));have B':=jD (fun (W:World) (hk:KeepX [D] w8 W)=>hk.heap hQ (jQ D'));have Z:=jD hA;have F':=jD I;obtain⟨R,hR⟩:=jE ((iu ts q.vars q.rets).2);have HR:=jD hR;rw[hR];have hq:=hA.qry;obtain⟨At,ct,rfl,-⟩:=id hA.typ.typ.types;obtain⟨Av,cv,rfl,-⟩:=id hq.vars;obtain⟨Ak,ck,rfl,-⟩:=id hq.key;obtain⟨Aa,ca,rfl,-⟩:=id hq.args;obtain⟨Ac,cc,rfl,-⟩:=id hq.cond;obtain⟨Ar,cr,rfl,r1,r2,C'⟩:=id hq.rets;have J':=ax r1 r2;have Y':=jD C';obtain⟨j0,Z',X',U',O'⟩:=LD iA;have h':w.heap[Q]?=some (.cells ([.string q.nm,.slice Av q.vars.length cv,.slice Ak q.key.length ck,KW q.pat.op,.slice Aa q.pat.args.length ca,KW q.pat.ty,KW q.pat.vr,KW q.pat.sc,KW q.pat.sp,KW q.pat.cond.op,.slice Ac q.pat.cond.args.length cc,KW q.pat.cond.vr,KW q.pat.cond.fl,KW q.pat.cond.kd,KW q.pat.cond.val.kind,KW q.pat.cond.val.num,.string q.pat.cond.val.text,.slice Ar q.rets.length cr]:List Value).toArray 33 (0,0)):=B'.out w I.keep;have t':=af h' 17;simp only[LE,LC]at t';have P0:=aD h';obtain⟨n,hn⟩:=jF q.rets.length;have HN:=jD hn;rw[<-hn]at t' J' u';clear hA hB ht hQ m' D' I hR hq r1 r2 C' h' hn z';go_enter func237,ntmps237;go_wp2_with fail
 go_loopw [11] (fun i wr=>∃j:Nat,j<=n/\i=KW j/\Hid ((iu ts q.vars (q.rets.drop j)).2=R/\KndI w8 D j wr)) (fun i _=>n-(intOf i).toNat)
 case atStart=>exact⟨0,Lb _,rfl,jD ⟨by rw[L1];exact HR.out,F'.out⟩⟩
 case round =>
  obtain⟨j,hj,rfl,I⟩:=hrel;have hk:=I.out.2.keep
  by_cases K0:j<n
  ·have S':(j:Int)<(n:Int):=by omega
   have j':j<q.rets.length:=by have:=HN.out;omega
   obtain⟨b,o,rfl,i'⟩:=Y'.out j q.rets[j] (K9 j');have hg:=jD (K9 j');obtain⟨a,ha⟩:=jF (q.rets[j]);rw[<-ha]at hg i';obtain⟨d',v',L',n',p0,p1,p2,p3,p4,p5,p6,p7⟩:=cL (ai d _ _ _ _ _ (q'.out wr hk) i');have e':=jD (fun (W:World) (hW:KY wr W)=>xw d' ts q.vars a _ _ v' W (Z.out.typ.typ.stays (ab (q'.out wr hk) hW)) (n'.stays (ai d') hW) Z.out.typ.fit (Z.out.ret a (Li hg.out)));have hD:=I.out.1;rw[zY hg.out]at hD;obtain⟨⟨kk,ke⟩,y'⟩:∃r,r=iv ts q.vars a:=⟨_,rfl⟩;rw[<-y']at e' hD;have HD:=jD hD;obtain⟨Ay,Q0,rfl,-⟩:=n';have N':=K8 wr ⟨b,_,none⟩ p0;obtain⟨na,E'⟩:∃n,n=a.args.length:=⟨_,rfl⟩;rw[<-E']at e' p1;unfold exV at e';have tc:=HT.out wr hk;have R':=K8 wr ⟨T,_,none⟩ tc;have g':wr.heap[Q]?=some (.cells ([.string q.nm,.slice Av q.vars.length cv,.slice Ak q.key.length ck,KW q.pat.op,.slice Aa q.pat.args.length ca,KW q.pat.ty,KW q.pat.vr,KW q.pat.sc,KW q.pat.sp,KW q.pat.cond.op,.slice Ac q.pat.cond.args.length cc,KW q.pat.cond.vr,KW q.pat.cond.fl,KW q.pat.cond.kd,KW q.pat.cond.val.kind,KW q.pat.cond.val.num,.string q.pat.cond.val.text,.slice (some ⟨b,o,none⟩) q.rets.length cr]:List Value).toArray 33 (0,0)):=B'.out wr hk;have y1:=af g' 1;simp only[LE,LC]at y1;have r':=aD g';have HK:=I;clear ha i' L' hD j' E' y' I hk g';go_wp2_with fail;refine (e'.out _ jB).mono ?_;unfold fR;rintro e w7 ⟨rfl,l'⟩;have P':Hid (KY wr w7):=jD (ab (by exact jB) l');have b':=jD (HK.out.2.stays P'.out);clear l' p0 p1 p2 p3 p4 p5 p6 p7 tc y1 R' r' N'
   by_cases hz:ke=0
   case neg =>
    have N0:(ke != 0)=true:=jQ hz;obtain rfl:ke=R:=by have h:=HD.out;rw[K7 hz]at h;exact h
    clear hz;go_wp2;go_ret;exact⟨rfl,b'.out.more om⟩
   subst hz;have I':Hid ((iu ts q.vars (q.rets.drop (j+1))).2=R):=jD (by have h:=HD.out;rw[K6 jS]at h;exact h);obtain⟨u,l,G,F,T'⟩:=b'.out.row;obtain⟨Au,cu,rfl⟩:=ay F;obtain⟨nl,k'⟩:∃n,n=l.length:=⟨_,rfl⟩;rw[<-k']at F G T';have J:=jD F;have H':=jD G;have s':=jD k';have c7:=G.cell;have l7:=G.lt;have O0:=b'.out.keep.size;clear F G k';go_wp2_with (at_builtin;refine aR _ rfl (.tmp 26) (.tmp 28) 23 rfl w8.heap.size 3 j0 _ 1 8 underlying23 Z' X' U' O' rfl dc (.slice Au nl cu) nl (bl l) rfl (aj J.out (ag w7 _)) (some ⟨w7.heap.size,0,none⟩) 1 1 [KW kk] rfl (bE _ [KW kk] _ 1 1 _ rfl rfl (by simp[Value.oneCell'])) (by unfold maxLen;omega) om (by rw[L4];omega) ?_;intro v10 p' z a' c';have G':=jD a';have O:Boxed p' D 23 (.slice Au nl cu):=(H'.out.alloc _).kept a' (fun e=>by have:=(ah J.out e.symm).1;omega);have H0:=O.cell;have f10:=O.frozen;have l10:=O.lt;have A':=jD O;obtain⟨V',x',rfl⟩:=ay z;have f':=jD z;clear O z a' c');have M':Hid (KndI w8 D (j+1) (p'.setCell ⟨D,0,none⟩ (.slice V' (nl+1) x'))):=jD ⟨((b'.out.keep.trans (bw (ag w7 _))).grown G'.out (fun g e=>(ah J.out e).1)).trans (eZ _ jS _),_,l++[kk],A'.out.set _,by
    rw[Le,<-s'.out,jq];exact aT f'.out fun g hg=>LB _ _ _ g (by have:=(ah f'.out hg).1;simp only;omega),by rw[Le,<-s'.out];simp;omega⟩
   go_roundw
   case rel=>exact⟨j+1,by omega,by go_num,jD ⟨I'.out,M'.out⟩⟩
   case measure=>simp[intOf];omega
  ·have S':¬(j:Int)<(n:Int):=by omega
   have hD:=I.out.1;rw[Lq (by have:=HN.out;omega)]at hD;obtain rfl:0=R:=hD;have HK:=I;clear I hk;go_wp2;go_ret;exact⟨rfl,HK.out.2.more om⟩
end
end Go.Proofs.YtokconodddedhaaGreatDoor
