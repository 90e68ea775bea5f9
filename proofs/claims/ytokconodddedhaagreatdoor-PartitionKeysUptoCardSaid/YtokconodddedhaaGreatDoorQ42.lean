/- Part. -/
import Derived.Test.YtokconodddedhaaGreatDoorQ40
import Derived.Deep.MidRow
set_option maxRecDepth 100000
set_option maxHeartbeats 16000000
set_option linter.unusedVariables false
set_option linter.unusedSimpArgs false
namespace Go.Proofs.YtokconodddedhaaGreatDoor
open Go.Proofs.Tryz Go.RowKit
section
def JZ (w:World) (r:Int) (e:Ending) (W:World):Prop:=∃v,e=.returned (.tuple #[v,KW r])/\KY w W
theorem Jl {n:Nat} (h:yy n=0):n<=256:=by
 unfold yy at h
 by_cases h0:n=0
 ·omega
 ·rw[K6 h0]at h
  by_cases z:256<n
  ·rw[K7 z]at h;exact absurd h dc
  ·omega
theorem uF (d:Nat) (ts:List Sch) (q:Qry) (vt vv vk va vc vr:Value) (w:World) (hA:QryAsk w ts q d vt vv vk va vc vr) :
  Calls prog 170 #[vt,dO q vv vk va vc vr] w (JZ w (yJ ts q)):=by
 have b':=jD hA;have hq:=hA.qry;obtain⟨At,ct,rfl,-⟩:=id hA.typ.typ.types;obtain⟨Av,cv,rfl,-⟩:=id hq.vars;obtain⟨Ak,ck,rfl,-⟩:=id hq.key;obtain⟨Aa,ca,rfl,-⟩:=id hq.args;obtain⟨Ac,cc,rfl,-⟩:=id hq.cond;obtain⟨Ar,cr,rfl,-⟩:=id hq.rets;obtain⟨nt,p'⟩:∃n,n=ts.length:=⟨_,rfl⟩;rw[<-p']at b';rw[<-p'];clear hA hq p';unfold dO;go_enter func170,ntmps170;go_wp2_with fail;refine aw fun w1 e1=>?_
 obtain⟨O,s'⟩:∃q,q=w.heap.size+1+1:=⟨_,rfl⟩;obtain⟨Q,hQ⟩:∃q,q=w.heap.size+1:=⟨_,rfl⟩;obtain⟨T,hT⟩:∃q,q=w.heap.size:=⟨_,rfl⟩;have B':KY w w1:=gb e1;have t0:KX w1 T 0 (.slice At nt ct):=by rw[e1,hT];show _=_;go_simp
 have M':Hid (QBox w1 Q q (.slice Av q.vars.length cv) (.slice Ak q.key.length ck) (.slice Aa q.pat.args.length ca) (.slice Ac q.pat.cond.args.length cc) (.slice Ar q.rets.length cr)):=jD (by rw[e1,hQ];exact aE (ap _ _ _ jS));have m':Hid (Boxed w1 O 23 (.slice none 0 0)):=jD (by rw[e1,s'];exact ap _ _ _ jS);have P':=jD t0;have U':=jD B';have D:Hid (T≠O/\Q≠O/\w.heap.size<=O):=jD om;rw[<-s',<-hQ,<-hT];clear e1 hQ hT s' t0 B';refine (eF _ _ w1).mono ?_;rintro e w2 ⟨rfl,l',t'⟩;obtain⟨b2,c'⟩:∃q,q=w1.heap.size:=⟨_,rfl⟩;rw[<-c']at l' ⊢;have N':Hid (w2.cell? ⟨b2,0,none⟩=some (clV 236 [Q])):=jD l';have x':=jD t';have C':=jD c';clear l' t' c';go_wp2_with fail;refine (eF _ _ w2).mono ?_;rintro e w3 ⟨rfl,k',G'⟩;obtain⟨b3,Z⟩:∃q,q=w2.heap.size:=⟨_,rfl⟩;rw[<-Z]at k' ⊢;have R':Hid (w3.cell? ⟨b3,0,none⟩=some (clV 237 [Q,T,O])):=jD k';have q':=jD G';have u':=jD Z;clear k' G' Z;go_wp2_with fail;refine aw fun w8 e8=>?_
 obtain⟨G,hG⟩:∃q,q=w3.heap.size:=⟨_,rfl⟩;have r':KY w3 w8:=gb e8;have HG:Hid (w8.heap[G]?=some (.cells [clV 235 [T,Q],clV 220 [b2],clV 220 [b3],clV 239 [Q]].toArray 231 (0,0))):=jD (by rw[e8,hG];exact ap _ _ _ rfl);have O':=jD hG;rw[<-hG];clear e8 hG;have y':=jD (ab x'.out q'.out);have I:=jD (ab y'.out r');have a':=jD r';have F:=jD (ab U'.out I.out);have L':=m'.out.lt;have H':Boxed w8 O 23 (.slice none 0 0):=(I.out.block _ m'.out.lt).trans m'.out;have f':=jD (M'.out.stays I.out);have J':=jD (aa I.out P'.out);have F':=jD (aa (ab q'.out a'.out) N'.out);have E':=jD (aa a'.out R'.out);have g':Hid (O<w1.heap.size/\w1.heap.size<=w2.heap.size/\w2.heap.size<=w3.heap.size/\w3.heap.size<=w8.heap.size):=jD ⟨L',x'.out.size,q'.out.size,a'.out.size⟩;have I':KndI w8 O 0 w8:=⟨KeepX.refl _ _,_,[],H',⟨rfl,.inl ⟨rfl,rfl⟩⟩,Ld _⟩;obtain⟨fs,J⟩:∃fs:List (Value × Int × Int),fs=[(clV 235 [T,Q],kM ts q.vars q.pat),(clV 220 [b2],0,yy q.rets.length),(clV 220 [b3],0,(iu ts q.vars q.rets).2),(clV 239 [Q],rF q.pat q.rets)]:=⟨_,rfl⟩;have n':=jD (fun (W:World) (hk:KeepX [O] w8 W)=>b'.out.stays (F.out.trans (hk.below F.out.size (fun b h=>by rw[Lz]at h;rw[h];exact D.out.2.2))));have hF:=yE fs (fun k W=>KndI w8 O (if k<=2 then 0 else 256) W) (some ⟨G,0,none⟩) 4 w8 I' (by rw[J];simp) (fun k W W' h hb=>h.stays hb) (fun W k p z hk=>by
  refine⟨G,0,rfl,?_⟩;have S':=z.keep.heap HG.out (by have:=g'.out;have:=O'.out;simp;omega);rw[af S',Lu];rw[J]at hk
  match k,hk with
  | 0,hk=>simp at hk;subst hk;rfl
  | 1,hk=>simp at hk;subst hk;rfl
  | 2,hk=>simp at hk;subst hk;rfl
  | 3,hk=>simp at hk;subst hk;rfl
  | k+4,hk=>simp at hk) (fun k p hk d'=>by
  rw[J]at hk d'
  match k,hk with
  | 0,hk =>
   simp at hk;subst hk;refine⟨_,[.pointer (some ⟨T,0,none⟩),.pointer (some ⟨Q,0,none⟩)],rfl,fun _ _=>rfl,fun W z=>?_⟩;refine (F5 (T:=T) (Q:=Q) (n'.out W z.keep) (z.keep.cell J'.out (jQ D.out.1)) (z.keep.heap f'.out (jQ D.out.2.1))).mono ?_;rintro e W' ⟨rfl,hb⟩;exact⟨rfl,z.stays hb⟩
  | 1,hk =>
   simp at hk;subst hk;refine oL _ _ b2 (clV 236 [Q]) _ (fun W z=>z.keep.cell F'.out (by have:=g'.out;have:=C'.out;simp;omega)) ⟨_,[.pointer (some ⟨Q,0,none⟩)],rfl,fun _ _=>rfl,fun W z=>?_⟩;refine (GB (Q:=Q) (n'.out W z.keep) (z.keep.heap f'.out (jQ D.out.2.1))).mono ?_;rintro e W' ⟨rfl,hb⟩;exact⟨rfl,z.stays hb⟩
  | 2,hk =>
   simp at hk;subst hk;have hn:yy q.rets.length=0:=d' 1 _ om rfl;refine oL _ _ b3 (clV 237 [Q,T,O]) _ (fun W z=>z.keep.cell E'.out (by have:=g'.out;have:=u'.out;simp;omega)) ⟨_,[.pointer (some ⟨Q,0,none⟩),.pointer (some ⟨T,0,none⟩),.pointer (some ⟨O,0,none⟩)],rfl,fun _ _=>rfl,fun W z=>?_⟩;exact Ev b'.out F.out D.out.2.2 (by have:=g'.out;omega) J'.out f'.out D.out.1 D.out.2.1 z (Jl hn)
  | 3,hk =>
   simp at hk;subst hk;refine⟨_,[.pointer (some ⟨Q,0,none⟩)],rfl,fun _ _=>rfl,fun W z=>?_⟩;refine (Es (Q:=Q) (n'.out W z.keep) (z.keep.heap f'.out (jQ D.out.2.1))).mono ?_;rintro e W' ⟨rfl,hb⟩;exact⟨rfl,z.stays hb⟩
  | k+4,hk=>simp at hk)
 have D':fs.length=4:=by rw[J];rfl
 rw[D']at hF;have e':(cG fs).2=yJ ts q:=by
  rw[J];unfold yJ yy;simp only[cG]
  by_cases h1:(kM ts q.vars q.pat).2=0
  ·by_cases h2:q.rets.length=0
   ·simp[h1,h2]
   ·by_cases h3:256<q.rets.length
    ·simp[h1,h2,h3]
    ·by_cases h4:(iu ts q.vars q.rets).2=0
     ·simp only[h1,h2,h3,h4,LP,not_true_eq_false,if_false]
      by_cases h5:(rF q.pat q.rets).2=0
      ·simp[h5]
      ·simp[h5]
     ·simp[h1,h2,h3,h4]
  ·simp[h1]
 obtain⟨⟨r1,r2⟩,hr⟩:∃r,r=cG fs:=⟨_,rfl⟩;rw[<-hr]at hF e';simp only at e';have z':=jD e';have HF:=jD hF;clear e' hF hr J D' I' H' r';refine HF.out.mono ?_;rintro e w9 ⟨rfl,k9,j'⟩;obtain⟨u,l,i',h',T'⟩:=j'.row;obtain⟨Au,cu,rfl⟩:=ay h';have A':Hid (KY w w9):=jD (F.out.trans (j'.keep.below F.out.size (fun b h=>by rw[Lz]at h;rw[h];exact D.out.2.2)));have c9:=i'.cell;have l9:=i'.lt;clear j' h' T' i'
 by_cases hz:r2=0
 case neg =>
  have V':(r2 != 0)=true:=jQ hz;clear hz;go_wp2;exact Lc (v:=.tuple #[.slice none 0 0,KW r2]) (by simp[results,results170,go_sem]) rfl ⟨_,by rw[<-z'.out],A'.out⟩
 subst hz;go_wp2;exact Lc (v:=.tuple #[.slice Au l.length cu,KW 0]) (by simp[results,results170,go_sem]) rfl ⟨_,by rw[<-z'.out],A'.out⟩
section
variable {ts : List Sch} {q : Qry} {d : Nat} {vt vv vk va vc vr : Value} {T Q : Nat} {w : World}
theorem G1 (z:QryAsk w ts q d vt vv vk va vc vr) (I:w.cell? ⟨T,0,none⟩=some vt):Calls prog 162 #[.pointer (some ⟨T,0,none⟩)] w (lM w (fU ts)):=by
 have F:=jD (kg ts vt w z.typ.typ.types z.typ.fit);have G:=K8 w ⟨T,_,none⟩ I;obtain⟨Z,J,rfl,-⟩:=z.typ.typ.types;clear z;go_enter func162,ntmps162;go_wp2_with fail;refine F.out.mono ?_;rintro e O ⟨rfl,h⟩;have D:=jD h;clear h;exact fi D.out
theorem GQ (D:QryAsk w ts q d vt vv vk va vc vr) (F:QBox w Q q vv vk va vc vr):Calls prog 163 #[.pointer (some ⟨Q,0,none⟩)] w (lM w (fh (tx q.nm))):=by
 have G:Hid (KZ 164 #[.string q.nm] w (KW (fh (tx q.nm)))):=jD (xf q.nm.data.toList w D.typ.lx (by have:q.nm.data.toList.length=q.nm.size:=rfl;have:=D.nm;omega));have hq:=D.qry;obtain⟨O,cv,rfl,-⟩:=id hq.vars;obtain⟨Ak,ck,rfl,-⟩:=id hq.key;obtain⟨Aa,ca,rfl,-⟩:=id hq.args;obtain⟨Ac,cc,rfl,-⟩:=id hq.cond;obtain⟨Ar,Z,rfl,-⟩:=id hq.rets;have a':=aD F;have h:w.heap[Q]?=some (.cells ([.string q.nm,.slice O q.vars.length cv,.slice Ak q.key.length ck,KW q.pat.op,.slice Aa q.pat.args.length ca,KW q.pat.ty,KW q.pat.vr,KW q.pat.sc,KW q.pat.sp,KW q.pat.cond.op,.slice Ac q.pat.cond.args.length cc,KW q.pat.cond.vr,KW q.pat.cond.fl,KW q.pat.cond.kd,KW q.pat.cond.val.kind,KW q.pat.cond.val.num,.string q.pat.cond.val.text,.slice Ar q.rets.length Z]:List Value).toArray 33 (0,0)):=F;have J:=af h 0;simp only[LE,LC]at J;clear D hq F h;go_enter func163,ntmps163;go_wp2_with fail;refine G.out.mono ?_;rintro e w2 ⟨rfl,z⟩;have I:=jD z;clear z J;exact fi I.out
theorem EX (z:QryAsk w ts q d vt vv vk va vc vr) (ht:w.cell? ⟨T,0,none⟩=some vt) (hQ:QBox w Q q vv vk va vc vr) :
  Calls prog 165 #[.pointer (some ⟨T,0,none⟩),.pointer (some ⟨Q,0,none⟩)] w (ur w (kM ts q.vars q.pat)):=by
 have HK:=jD (oT d ts q.vars q.pat vt vv va vc w z.typ z.qry.args z.qry.cond z.pat);have hq:=z.qry;obtain⟨At,ct,rfl,-⟩:=id z.typ.typ.types;obtain⟨Av,cv,rfl,-⟩:=id hq.vars;obtain⟨Ak,ck,rfl,-⟩:=id hq.key;obtain⟨Aa,ca,rfl,-⟩:=id hq.args;obtain⟨Ac,cc,rfl,-⟩:=id hq.cond;obtain⟨Ar,cr,rfl,-⟩:=id hq.rets;have e':=K8 w ⟨T,_,none⟩ ht;have d':=aD hQ;have h:w.heap[Q]?=some (.cells ([.string q.nm,.slice Av q.vars.length cv,.slice Ak q.key.length ck,KW q.pat.op,.slice Aa q.pat.args.length ca,KW q.pat.ty,KW q.pat.vr,KW q.pat.sc,KW q.pat.sp,KW q.pat.cond.op,.slice Ac q.pat.cond.args.length cc,KW q.pat.cond.vr,KW q.pat.cond.fl,KW q.pat.cond.kd,KW q.pat.cond.val.kind,KW q.pat.cond.val.num,.string q.pat.cond.val.text,.slice Ar q.rets.length cr]:List Value).toArray 33 (0,0)):=hQ;have y1:=af h 1;have y3:=af h 3;have y4:=af h 4;have y5:=af h 5;have y6:=af h 6;have y7:=af h 7;have y8:=af h 8;have y9:=af h 9;have F:=af h 10;have a':=af h 11;have Z:=af h 12;have I:=af h 13;have G:=af h 14;have O:=af h 15;have D:=af h 16;simp only[LE,LC]at y1 y3 y4 y5 y6 y7 y8 y9 F a' Z I G O D;obtain⟨⟨r1,r2⟩,hr⟩:∃r,r=kM ts q.vars q.pat:=⟨_,rfl⟩;have b':=jD hr;rw[<-hr]at HK;unfold ptV at HK;clear z hq hQ h hr
 go_enter func165,ntmps165;go_wp2_with fail;refine HK.out.mono ?_;rintro e w2 ⟨rfl,J⟩;have c':=jD J;clear J y1 y3 y4 y5 y6 y7 y8 y9 F a' Z I G O D;go_wp2;exact Lc (v:=.tuple #[KW r1,KW r2]) (by simp[results,results165,go_sem]) rfl ⟨by rw[<-b'.out],c'.out⟩
theorem ET (D:QryAsk w ts q d vt vv vk va vc vr) (ht:w.cell? ⟨T,0,none⟩=some vt) (F:QBox w Q q vv vk va vc vr) :
  Calls prog 167 #[.pointer (some ⟨T,0,none⟩),.pointer (some ⟨Q,0,none⟩)] w (lM w (kyT ts q)):=by
 have I:=jD (FF d ts q vt vv vk va vc vr w D);have hq:=D.qry;obtain⟨At,ct,rfl,-⟩:=id D.typ.typ.types;obtain⟨J,Z,rfl,-⟩:=id hq.vars;obtain⟨Ak,ck,rfl,-⟩:=id hq.key;obtain⟨Aa,ca,rfl,-⟩:=id hq.args;obtain⟨Ac,cc,rfl,-⟩:=id hq.cond;obtain⟨Ar,O,rfl,-⟩:=id hq.rets;have b':=K8 w ⟨T,_,none⟩ ht;have a':=aD F;have h:w.heap[Q]?=some (.cells #[.string q.nm,.slice J q.vars.length Z,.slice Ak q.key.length ck,.int .i64 q.pat.op,.slice Aa q.pat.args.length ca,.int .i64 q.pat.ty,.int .i64 q.pat.vr,.int .i64 q.pat.sc,.int .i64 q.pat.sp,.int .i64 q.pat.cond.op,.slice Ac q.pat.cond.args.length cc,.int .i64 q.pat.cond.vr,.int .i64 q.pat.cond.fl,.int .i64 q.pat.cond.kd,.int .i64 q.pat.cond.val.kind,.int .i64 q.pat.cond.val.num,.string q.pat.cond.val.text,.slice Ar q.rets.length O] 33 (0,0)):=F;unfold dO at I;clear D hq F;go_enter func167,ntmps167;go_wp2_with (refine Md rfl 33 (.tmp 1) rfl Q rfl 33 _ (0,0) _ (h) underlying33 rfl bM ?_);refine I.out.mono ?_;rintro e w2 ⟨rfl,z⟩;have G:=jD z;clear z h;exact fi G.out
theorem FJ (D:QryAsk w ts q d vt vv vk va vc vr) (ht:w.cell? ⟨T,0,none⟩=some vt) (F:QBox w Q q vv vk va vc vr) :
  Calls prog 169 #[.pointer (some ⟨T,0,none⟩),.pointer (some ⟨Q,0,none⟩)] w (lM w (yJ ts q)):=by
 have I:=jD (uF d ts q vt vv vk va vc vr w D);have hq:=D.qry;obtain⟨At,ct,rfl,-⟩:=id D.typ.typ.types;obtain⟨J,Z,rfl,-⟩:=id hq.vars;obtain⟨Ak,ck,rfl,-⟩:=id hq.key;obtain⟨Aa,ca,rfl,-⟩:=id hq.args;obtain⟨Ac,cc,rfl,-⟩:=id hq.cond;obtain⟨Ar,O,rfl,-⟩:=id hq.rets;have b':=K8 w ⟨T,_,none⟩ ht;have a':=aD F;have h:w.heap[Q]?=some (.cells #[.string q.nm,.slice J q.vars.length Z,.slice Ak q.key.length ck,.int .i64 q.pat.op,.slice Aa q.pat.args.length ca,.int .i64 q.pat.ty,.int .i64 q.pat.vr,.int .i64 q.pat.sc,.int .i64 q.pat.sp,.int .i64 q.pat.cond.op,.slice Ac q.pat.cond.args.length cc,.int .i64 q.pat.cond.vr,.int .i64 q.pat.cond.fl,.int .i64 q.pat.cond.kd,.int .i64 q.pat.cond.val.kind,.int .i64 q.pat.cond.val.num,.string q.pat.cond.val.text,.slice Ar q.rets.length O] 33 (0,0)):=F;unfold dO at I;clear D hq F;go_enter func169,ntmps169;go_wp2_with (refine Md rfl 33 (.tmp 1) rfl Q rfl 33 _ (0,0) _ (h) underlying33 rfl bM ?_);refine I.out.mono ?_;rintro e w2 ⟨v2,rfl,z⟩;have G:=jD z;clear z h;exact fi G.out
end
end
theorem zC (d:Nat) (ts:List Sch) (q:Qry) (vt vv vk va vc vr:Value) (w:World) (hA:QryAsk w ts q d vt vv vk va vc vr) :
  Calls prog 96 #[vt,dO q vv vk va vc vr] w (lM w (vC ts q)):=by
 have f':=jD hA;have hq:=hA.qry;obtain⟨At,ct,rfl,-⟩:=id hA.typ.typ.types;obtain⟨Av,cv,rfl,-⟩:=id hq.vars;obtain⟨Ak,ck,rfl,-⟩:=id hq.key;obtain⟨Aa,ca,rfl,-⟩:=id hq.args;obtain⟨Ac,cc,rfl,-⟩:=id hq.cond;obtain⟨Ar,cr,rfl,-⟩:=id hq.rets;obtain⟨nt,m'⟩:∃n,n=ts.length:=⟨_,rfl⟩;rw[<-m']at f';rw[<-m'];clear hA hq m';unfold dO;go_enter func96,ntmps96;go_wp2_with fail;refine aw fun w1 e1=>?_
 obtain⟨Q,hQ⟩:∃q,q=w.heap.size+1:=⟨_,rfl⟩;obtain⟨T,hT⟩:∃q,q=w.heap.size:=⟨_,rfl⟩;have u':KY w w1:=gb e1;have t0:KX w1 T 0 (.slice At nt ct):=by rw[e1,hT];show _=_;go_simp
 have C':Hid (QBox w1 Q q (.slice Av q.vars.length cv) (.slice Ak q.key.length ck) (.slice Aa q.pat.args.length ca) (.slice Ac q.pat.cond.args.length cc) (.slice Ar q.rets.length cr)):=jD (by rw[e1,hQ];exact ap _ _ _ jS);have L':=jD t0;have T':=jD u';rw[<-hQ,<-hT];clear e1 hQ hT t0 u';refine (eF _ _ w1).mono ?_;rintro e w2 ⟨rfl,k',q'⟩;obtain⟨b2,i'⟩:∃q,q=w1.heap.size:=⟨_,rfl⟩;rw[<-i']at k' ⊢;have I':Hid (w2.cell? ⟨b2,0,none⟩=some (clV 162 [T])):=jD k';have E':=jD q';clear k' q' i';go_wp2_with fail;refine (eF _ _ w2).mono ?_;rintro e w3 ⟨rfl,j',y'⟩;obtain⟨b3,a'⟩:∃q,q=w2.heap.size:=⟨_,rfl⟩;rw[<-a']at j' ⊢;have N':Hid (w3.cell? ⟨b3,0,none⟩=some (clV 163 [Q])):=jD j';have P':=jD y';clear j' y' a';go_wp2_with fail;refine (eF _ _ w3).mono ?_;rintro e w4 ⟨rfl,p',r'⟩;obtain⟨b4,Z⟩:∃q,q=w3.heap.size:=⟨_,rfl⟩;rw[<-Z]at p' ⊢;have R':Hid (w4.cell? ⟨b4,0,none⟩=some (clV 167 [T,Q])):=jD p';have S':=jD r';clear p' r' Z;go_wp2_with fail;refine (eF _ _ w4).mono ?_;rintro e w5 ⟨rfl,l',t'⟩;obtain⟨b5,e'⟩:∃q,q=w4.heap.size:=⟨_,rfl⟩;rw[<-e']at l' ⊢;have F':Hid (w5.cell? ⟨b5,0,none⟩=some (clV 169 [T,Q])):=jD l';have B':=jD t';clear l' t' e';go_wp2_with fail;refine aw fun w8 e8=>?_
 have z':KY w5 w8:=gb e8;have g':w8.ownsRow w5.heap.size 231 1 (.slice (some ⟨w5.heap.size,0,none⟩) 5 5) 5 [clV 220 [b2],clV 220 [b3],clV 165 [T,Q],clV 220 [b4],clV 220 [b5]]:=by
  rw[e8];exact⟨rfl,.inr ⟨w5.heap.size,5,_,rfl,Ld _,ap _ _ _ rfl,Ld _,by unfold maxLen;omega,rfl,rfl⟩⟩
 have s':=jD g';clear e8 g';have O:=jD z';have b':=jD (ab B'.out O.out);have d':=jD (ab S'.out b'.out);have h':=jD (ab P'.out d'.out);have D:=jD (ab E'.out h'.out);have c':=jD (ab T'.out D.out);have I:=jD (C'.out.stays D.out);have J:=jD (aa D.out L'.out);have D':=jD (aa h'.out I'.out);have H':=jD (aa d'.out N'.out);have O':=jD (aa b'.out R'.out);have A':=jD (aa O.out F'.out);have F:=jD (f'.out.stays c'.out);obtain⟨fs,z⟩:∃fs:List (Value × Int × Int),fs=[(clV 220 [b2],0,fU ts),(clV 220 [b3],0,fh (tx q.nm)),(clV 165 [T,Q],kM ts q.vars q.pat),(clV 220 [b4],0,kyT ts q),(clV 220 [b5],0,yJ ts q)]:=⟨_,rfl⟩;have hF:=nD fs w5.heap.size (.slice (some ⟨w5.heap.size,0,none⟩) 5 5) w8 (by rw[z];simp) (by rw[z];exact s'.out) (by rw[z];intro p hp;simp at hp;rcases hp with rfl|rfl|rfl|rfl|rfl<;>rfl) (fun k p hk n'=>by
  rw[z]at hk n'
  match k,hk with
  | 0,hk =>
   simp at hk;subst hk;exact dn w8 b2 _ [T] _ D'.out (fun _ _=>rfl) fun W h=>G1 (T:=T) (F.out.stays h) (aa h J.out)
  | 1,hk =>
   simp at hk;subst hk;exact dn w8 b3 _ [Q] _ H'.out (fun _ _=>rfl) fun W h=>GQ (Q:=Q) (F.out.stays h) (I.out.stays h)
  | 2,hk =>
   simp at hk;subst hk;exact qE w8 _ [T,Q] _ (fun _ _=>rfl) fun W h=>EX (T:=T) (Q:=Q) (F.out.stays h) (aa h J.out) (I.out.stays h)
  | 3,hk =>
   simp at hk;subst hk;exact dn w8 b4 _ [T,Q] _ O'.out (fun _ _=>rfl) fun W h=>ET (T:=T) (Q:=Q) (F.out.stays h) (aa h J.out) (I.out.stays h)
  | 4,hk =>
   simp at hk;subst hk;exact dn w8 b5 _ [T,Q] _ A'.out (fun _ _=>rfl) fun W h=>FJ (T:=T) (Q:=Q) (F.out.stays h) (aa h J.out) (I.out.stays h)
  | k+5,hk=>simp at hk)
 have G:(cG fs).2=vC ts q:=by
  rw[z];unfold vC;simp only[cG]
  by_cases h1:fU ts=0
  ·by_cases h2:fh (tx q.nm)=0
   ·by_cases h3:(kM ts q.vars q.pat).2=0
    ·by_cases h4:kyT ts q=0
     ·by_cases h5:yJ ts q=0
      ·simp[h1,h2,h3,h4,h5]
      ·simp[h1,h2,h3,h4,h5]
     ·simp[h1,h2,h3,h4]
    ·simp[h1,h2,h3]
   ·simp[h1,h2]
  ·simp[h1]
 obtain⟨⟨r1,r2⟩,hr⟩:∃r,r=cG fs:=⟨_,rfl⟩;rw[<-hr]at hF G;simp only at G;have M':fs.length=5:=by rw[z];rfl
 have G':=jD G;have HF:=jD hF;clear G hF hr z M' z';refine HF.out.mono ?_;rintro e w9 ⟨rfl,x'⟩;have J':=jD (ab c'.out x');clear x';go_wp2;go_ret;exact⟨by rw[<-G'.out];rfl,J'.out⟩
def QAt (d:Nat) (w:World) (b p:Nat) (q:Qry):Prop:=∃vv vk va vc vr,Cells w b p (ef q vv vk va vc vr)/\QryIs d w q vv vk va vc vr
theorem Cm (d:Nat):gG (QAt d):=fun _ _ _ _ _ hb ⟨vv,vk,va,vc,vr,h,D⟩=>⟨vv,vk,va,vc,vr,fun i u z=>aa hb (h i u z),D.stays hb⟩
abbrev EF (d:Nat) (w:World) (v:Value) (l:List Qry):Prop:=Sl (QAt d) 18 w v l
structure ProgAsk (w:World) (ts:List Sch) (qs:List Qry) (d:Nat) (vt vq:Value):Prop where
 shp:Shp w
 tbl:Tbl w
 lx:Lx w
 typ:iZ w vt ts
 fit:∀s∈ts,fM s
 qry:EF d w vq qs
 nms:∀q∈qs,(∀v∈q.vars,v.name.size<=1048576)/\xr q<=1048576/\q.nm.size<=1048576
theorem ProgAsk.stays {w W:World} {ts:List Sch} {qs:List Qry} {d:Nat} {vt D:Value} (h:ProgAsk w ts qs d vt D) (z:KY w W):ProgAsk W ts qs d vt D:=⟨h.shp.stays z,h.tbl.stays z,h.lx.stays z,h.typ.stays bU z,h.fit,h.qry.stays (Cm d) z,h.nms⟩
theorem ProgAsk.ask {w:World} {ts:List Sch} {qs:List Qry} {d:Nat} {vt F:Value} (h:ProgAsk w ts qs d vt F) {q:Qry} (hq:q∈qs) {W:World} (z:KY w W) {vv vk va vc vr:Value} (D:QryIs d W q vv vk va vc vr):QryAsk W ts q d vt vv vk va vc vr :=
 ⟨⟨h.shp.stays z,h.tbl.stays z,h.lx.stays z,⟨h.typ.stays bU z,D.vars⟩,h.fit,(h.nms q hq).1⟩,D,(h.nms q hq).2.1,(h.nms q hq).2.2⟩
theorem yt {ts:List Sch} {k:Nat} {seen:List (List UInt8)} {l:List Qry} {j:Nat} {q:Qry} (h:l[j]?=some q):kT ts k seen (l.drop j)=if vC ts q≠0 then ((k:Int),vC ts q) else if seen.contains (tx q.nm) then ((k:Int),7) else kT ts (k+1) (seen++[tx q.nm]) (l.drop (j+1)):=by
 obtain⟨z,rfl⟩:=List.getElem?_eq_some_iff.1 h;rw[Lr z,kT]
theorem DV (d:Nat) (ts:List Sch) (qs:List Qry) (vt vq:Value) (w:World) (hA:ProgAsk w ts qs d vt vq) :
  Calls prog 47 #[.agg #[vt,vq]] w (ur w (sR ts qs)):=by
 have G:=jD hA;have g':=jD (fun (W:World) (hW:KY w W)=>kg ts vt W (hA.typ.stays bU hW) hA.fit);have K0:=@run_makeMap prog;obtain⟨R,hR⟩:=jE (sR ts qs);have a':=hR;unfold sR at a';rw[hR];obtain⟨ae,F'⟩:∃q,fU ts=q:=⟨_,rfl⟩;rw[F']at g' a';obtain⟨At,ct,rfl,-⟩:=id hA.typ;obtain⟨Aq,cq,rfl,q1,q2,t'⟩:=id hA.qry;have J':=ax q1 q2;have U':=jD t';obtain⟨nt,n'⟩:∃n,n=ts.length:=⟨_,rfl⟩;obtain⟨nq,I⟩:∃n,n=qs.length:=⟨_,rfl⟩;have E':=jD I;rw[<-n']at G g';rw[<-I]at G a' J';rw[<-n',<-I];have HR:=jD a';clear hA hR a' F' t' q1 q2 n' I;go_enter func47,ntmps47;go_wp2_with fail;refine aw fun w1 e1=>?_
 obtain⟨P,hP⟩:∃q,q=w.heap.size:=⟨_,rfl⟩;have m':KY w w1:=gb e1;have p0:KX w1 P 0 (.slice At nt ct):=by rw[e1,hP];show _=_;go_simp
 have p1:KX w1 P 1 (.slice Aq nq cq):=by rw[e1,hP];show _=_;go_simp
 rw[<-hP];clear e1 hP;refine (g'.out _ m').mono ?_;rintro e w2 ⟨rfl,d'⟩;have O:=jD (ab m' d');replace p0:=aa d' p0;replace p1:=aa d' p1;have I':=K8 w2 ⟨P,_,none⟩ p0;clear m' d' g'
 by_cases h0:ae=0
 case neg =>
  have P0:(ae != 0)=true:=jQ h0;obtain rfl:(0,ae)=R:=by have h:=HR.out;rw[K7 h0]at h;exact h
  clear h0;go_wp2;exact Lc (v:=.tuple #[KW 0,KW ae]) (by simp[results,results47,go_sem]) rfl ⟨rfl,O.out⟩
 subst h0;have l':Hid ((if 16<nq then (0,5) else kT ts 0 [] qs)=R):=jD (by have h:=HR.out;rw[K6 jS]at h;exact h);clear HR
 by_cases h':16<nq
 ·have x':(16:Int)<(nq:Int):=by omega
  obtain rfl:(0,5)=R:=by have h:=l'.out;rw[K7 h']at h;exact h
  clear h';go_wp2;exact Lc (v:=.tuple #[KW 0,KW 5]) (by simp[results,results47,go_sem]) rfl ⟨rfl,O.out⟩
 have x':¬(16:Int)<(nq:Int):=by omega
 have T':Hid (kT ts 0 [] qs=R):=jD (by have h:=l'.out;rw[K6 h']at h;exact h);have X':nq<=16:=by omega
 clear l' h';go_wp2_with fail;refine aP fun w3 e3=>?_
 obtain⟨M,hM⟩:∃q,q=w2.heap.size:=⟨_,rfl⟩;have M':Hid (HasM 9 sKv w3 M 0 []):=jD (by rw[e3,hM];exact gv _ _ w2);have p':Hid (KY w2 w3):=jD (gb e3);have Y':w2.heap.size<=M:=by omega
 rw[<-hM];clear e3 hM;have P':=jD (And.intro p0 p1);replace p0:=aa p'.out p0;replace p1:=aa p'.out p1;have I':=K8 w3 ⟨P,_,none⟩ p0;go_wp2_with fail
 go_loopw [23] (fun i wr=>∃k:Nat,k<=nq/\i=KW k/\Hid (HasM 9 sKv wr M k ((qs.take k).map (·.nm)))/\Hid (kT ts k ((qs.take k).map (fun f=>tx f.nm)) (qs.drop k)=R/\KY w2 wr)) (fun i _=>nq-(intOf i).toNat)
 case atStart=>exact⟨0,Lb _,rfl,M',jD ⟨T'.out,p'.out⟩⟩
 case round =>
  obtain⟨k,hk,rfl,hM,hI⟩:=hrel;have hb:=ab O.out hI.out.2
  by_cases Z':k<nq
  ·have O':(k:Int)<(nq:Int):=by omega
   have j':k<qs.length:=by have:=E'.out;omega
   obtain⟨b,o,rfl,vv,vk,va,vc,vr,r',D⟩:=U'.out k qs[k] (K9 j');have hg:=jD (K9 j');obtain⟨q,hq⟩:∃f,f=qs[k]:=⟨_,rfl⟩;rw[<-hq]at hg r' D;have J:=Li hg.out;have e':=jD (fun (W:World) (hW:KY wr W)=>zC d ts q _ vv vk va vc vr W (G.out.ask J (ab hb hW) (D.stays (ab hb hW))));have V':=(G.out.nms q J).2.2;have c':Cells wr b (o+k*18) (ef q vv vk va vc vr):=fun i u hi=>aa hb (r' i u hi)
   obtain⟨Av,cv,rfl,-⟩:=id D.vars;obtain⟨Ak,ck,rfl,-⟩:=id D.key;obtain⟨Aa,ca,rfl,-⟩:=id D.args;obtain⟨Ac,cc,rfl,-⟩:=id D.cond;obtain⟨Ar,cr,rfl,-⟩:=id D.rets;have y0:=c' 0 _ rfl;rw[Mc]at y0;have s':Hid (wr.rangeAt b (o+k*18) [.string q.nm,.slice Av q.vars.length cv,.slice Ak q.key.length ck,KW q.pat.op,.slice Aa q.pat.args.length ca,KW q.pat.ty,KW q.pat.vr,KW q.pat.sc,KW q.pat.sp,KW q.pat.cond.op,.slice Ac q.pat.cond.args.length cc,KW q.pat.cond.vr,KW q.pat.cond.fl,KW q.pat.cond.kd,KW q.pat.cond.val.kind,KW q.pat.cond.val.num,.string q.pat.cond.val.text,.slice Ar q.rets.length cr]):=jD c';have N0:=K8 wr ⟨b,_,none⟩ y0;have hD:=hI.out.1;rw[yt hg.out]at hD;obtain⟨se,C'⟩:∃z,vC ts q=z:=⟨_,rfl⟩;rw[C']at hD e';have B':Hid ((qs.take (k+1)).map (fun f=>tx f.nm)=(qs.take k).map (fun f=>tx f.nm)++[tx q.nm]/\(qs.take (k+1)).map (·.nm)=(qs.take k).map (·.nm)++[q.nm]):=jD ⟨by rw[aX hg.out,LH];rfl,by rw[aX hg.out,LH];rfl⟩;have G':=jD hD;have R':=jD hI.out.2;have z':=aa hI.out.2 P'.out.1;have D':=K8 wr ⟨P,_,none⟩ z';unfold dO at e';clear hq C' hD r' c' D J j' hI
   go_wp2_with (first|(refine wpList_load_mid rfl 33 (.tmp 26) rfl b (o+k*18) rfl [.string q.nm,.slice Av q.vars.length cv,.slice Ak q.key.length ck,KW q.pat.op,.slice Aa q.pat.args.length ca,KW q.pat.ty,KW q.pat.vr,KW q.pat.sc,KW q.pat.sp,KW q.pat.cond.op,.slice Ac q.pat.cond.args.length cc,KW q.pat.cond.vr,KW q.pat.cond.fl,KW q.pat.cond.kd,KW q.pat.cond.val.kind,KW q.pat.cond.val.num,.string q.pat.cond.val.text,.slice Ar q.rets.length cr] _ s'.out underlying33 rfl bM ?_)|(refine Md rfl 33 (.tmp 7) rfl wr.heap.size rfl 33 _ (0,0) _ (ap _ _ _ rfl) underlying33 rfl bM ?_));refine aw fun w4 e4=>?_
   obtain⟨X,hX⟩:∃q,q=wr.heap.size:=⟨_,rfl⟩;have x0:KX w4 X 0 (.string q.nm):=by rw[e4,hX];show _=_;go_simp
   have k':KY wr w4:=gb e4;rw[<-hX];have Q0:X≠M:=by have:=hM.out.lt;omega
   clear e4 hX y0 s';refine (e'.out _ k').mono ?_;rintro e w6 ⟨rfl,q'⟩;have x0:=aa q' x0;have Z:=ab k' q';have f':=jD (ab R'.out Z);have i':=hM.out.below Z;have O0:=K8 w6 ⟨X,_,none⟩ x0;clear k' q' Z z' D'
   by_cases hz:se=0
   case neg =>
    have A0:(se != 0)=true:=jQ hz;obtain rfl:((k:Int),se)=R:=by have h:=G'.out;rw[K7 hz]at h;exact h
    clear hz;go_wp2;exact Lc (v:=.tuple #[KW k,KW se]) (by simp[results,results47,go_sem]) rfl ⟨rfl,ab O.out f'.out⟩
   subst hz;have F:=G'.out;rw[K6 jS]at F;have b':=mx (s:=q.nm) (by unfold maxLen;omega);obtain⟨r,hr,L'⟩:=i'.look dR underlying165 (x:=q.nm) b';have A':((qs.take k).map (fun f=>tx f.nm)).contains (tx q.nm)=r:=by
    have h1:=mJ (l:=(qs.take k).map (·.nm)) (s:=q.nm);rw[Nl]at h1;rw[LW];exact h1.trans hr.symm
   rw[A']at F;obtain⟨w5,H0,y',u'⟩:=i'.store dR underlying165 ph b' (by unfold maxLen;omega);have N':=jD y';have S':=jD u';clear hr A' i' y' u' b' e'
   cases r with
   | true =>
    obtain rfl:((k:Int),7)=R:=by rw[K7 rfl]at F;exact F
    go_wp2;exact Lc (v:=.tuple #[KW k,KW 7]) (by simp[results,results47,go_sem]) rfl ⟨rfl,ab O.out f'.out⟩
   | false =>
    have H':Hid (kT ts (k+1) ((qs.take k).map (fun f=>tx f.nm)++[tx q.nm]) (qs.drop (k+1))=R):=jD (by rw[K6 jS]at F;exact F);clear F;go_wp2_with fail;refine⟨⟨k+1,by omega,by go_num,jD (by rw[B'.out.2];exact N'.out),jD ⟨by rw[B'.out.1];exact H'.out,f'.out.trans (am S'.out f'.out.size (fun g e=>by injection e with e;omega))⟩⟩,by simp[intOf];omega⟩
  ·have O':¬(k:Int)<(nq:Int):=by omega
   obtain rfl:(0,0)=R:=by
    have h:=hI.out.1;rw[Lq (by have:=E'.out;omega),kT]at h;exact h
   go_wp2;exact Lc (v:=.tuple #[KW 0,KW 0]) (by simp[results,results47,go_sem]) rfl ⟨rfl,hb⟩
end Go.Proofs.YtokconodddedhaaGreatDoor
