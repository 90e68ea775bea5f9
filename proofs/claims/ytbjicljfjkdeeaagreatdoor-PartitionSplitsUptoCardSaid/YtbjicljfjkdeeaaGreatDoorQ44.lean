/- Part. -/
import Derived.Deep.MidRow
import Derived.Test.YtbjicljfjkdeeaaGreatDoorQ43
import Derived.Test.YtbjicljfjkdeeaaGreatDoorQ42
import Derived.Test.YtbjicljfjkdeeaaGreatDoorQ23
set_option maxRecDepth 100000
set_option maxHeartbeats 16000000
set_option linter.unusedVariables false
set_option linter.unusedSimpArgs false
namespace Go.Proofs.YtbjicljfjkdeeaaGreatDoor
open Go.Proofs.Tryz Go.RowKit
structure Stop (p:Prop):Prop where
 out:p
theorem gv {P:Program} {ops:Array Oper} {l:List Oper} {a:Act} {w:World} {Q:Exit->Act->World->Prop} {o:Oper} (t:TypeId) (u:Operand) (_:o.op=.load t u) (h:Stop (wpList P ops Q (o::l) a w)):wpList P ops Q (o::l) a w:=h.out
theorem kK {P:Program} {ops:Array Oper} {l:List Oper} {a:Act} {w:World} {Q:Exit->Act->World->Prop} (h:∀W,W=w->wpList P ops Q l a W):wpList P ops Q l a w:=h w rfl
theorem kL {α:Type} {R:World->Nat->Nat->α->Prop} {sz:Nat} {w:World} {v:Value} {l:List α} (h:Sl R sz w v l):(l.length:Int)<=9223372036854775807:=by
 obtain⟨A,c,e,G,z,I⟩:=h;exact ay G z
theorem CG {w:World} {Q:Nat} {a b c r:Value} {p:List Value} (h:w.heap[Q]?=some (.cells (a::b::c::(p++[r])).toArray 33 (0,0))):w.rangeAt Q 3 p:=fun j u z=>by
 rw[ae h,Nat.add_comm];show (p++[r])[j]?=some u;rw[MQ (List.getElem?_eq_some_iff.1 z).1,z]
theorem nz:(prog.info? 31).map (·.size)=some 14:=kr
def js (x:Pt) (l:List Evt):Bool :=
 (EC x&&decide (l.length<=10))&&(l.all (fun e=>decide (e.vals.length<=9))&&(decide (((evV x).length+1)^l.length<=1500) || (!eW x&&decide (l.length^(evV x).length<=1500))))
theorem iM {x:Pt} {l:List Evt} (h:js x l=true):SmallN l.length x/\(∀e∈l,e.vals.length<=9)/\EC x=true:=by
 unfold js at h;rw[My,My,My,MU,My,MK,MK,MK,M4]at h;obtain⟨⟨I,z⟩,J,G⟩:=h;refine⟨⟨z,G⟩,fun e he=>?_,I⟩;exact NB (List.all_eq_true.1 J e he)
theorem Bm (d:Nat) (x:Pt) (l:List Evt) (v vc vl:Value) (w:World) (hx:aU d w v x.args) (p':aK d w vc x.cond.args) (hl:bh w vl l) (hN:ptB x<=1048576) :
  Mn 31 #[ptV x v vc,vl] w (.bool (js x l)):=by
 have U':=jM x;have c':=qa x;obtain⟨Ac,cc,rfl,-⟩:=id p';have I:=jD (fun (W:World) (hW:Mm w W)=>CM d x v _ W (hx.stays (aB d) hW) (p'.stays (ai d) hW) hN);have t':=jD (fun (W:World) (hW:Mm w W)=>yO d x v Ac x.cond.args.length cc W (hx.stays (aB d) hW) om);have j':=jD (fun (W:World) (hW:Mm w W)=>C1 d x v Ac x.cond.args.length cc W (hx.stays (aB d) hW));obtain⟨fp,l'⟩:∃t,EC x=t:=⟨_,rfl⟩;obtain⟨ip,f'⟩:∃t,eW x=t:=⟨_,rfl⟩;obtain⟨nv,d'⟩:∃t,(evV x).length=t:=⟨_,rfl⟩;obtain⟨r,hr⟩:=jE (js x l);have HR:Hid (r=((fp&&decide (l.length<=10))&&(l.all (fun e=>decide (e.vals.length<=9))&&(decide ((nv+1)^l.length<=1500) || (!ip&&decide (l.length^nv<=1500)))))):=jD (by rw[<-hr];unfold js;rw[l',f',d']);rw[hr];rw[l']at I;rw[f']at j';rw[d']at t' c';obtain⟨Aa,ca,rfl,-⟩:=id hx;obtain⟨Al,cl,rfl,l1,l2,a'⟩:=id hl;have X':=ay l1 l2;have R':=jD a';have V':(((nv+1:Nat)):Int)=(nv:Int)+1:=by omega
 have B':=jD (fun (b n:Nat) (Z:b<=1048577) (hn:n<=1048577) (W:World)=>AO b n W Z hn);have Y':nv<=1048576:=by omega
 clear l' f' d' hr hx p' hl a' l1 l2 hN U' c';unfold ptV at I t' j' ⊢;go_enter func31,ntmps31;go_wp2_with (refine gv 31 (.tmp 2) rfl ?_);refine⟨kK fun w1 e1=>?_⟩;obtain⟨X,i'⟩:∃q,q=w.heap.size:=⟨_,rfl⟩;have hX:w1.heap[X]?=some (.cells [.int .i64 x.op,.slice Aa x.args.length ca,.int .i64 x.ty,.int .i64 x.vr,.int .i64 x.sc,.int .i64 x.sp,.int .i64 x.cond.op,.slice Ac x.cond.args.length cc,.int .i64 x.cond.vr,.int .i64 x.cond.fl,.int .i64 x.cond.kd,.int .i64 x.cond.val.kind,.int .i64 x.cond.val.num,.string x.cond.val.text].toArray 31 (0,0)):=by rw[e1];exact ax _ _ _ i'
 have I':Mm w w1:=gb e1;rw[<-i'];have q':=jD I';have n':=jD hX;clear e1 i' hX I';go_wp2_with (refine Od rfl 31 (.tmp 2) rfl X rfl 31 [Mk x.op,.slice Aa x.args.length ca,Mk x.ty,Mk x.vr,Mk x.sc,Mk x.sp,Mk x.cond.op,.slice Ac x.cond.args.length cc,Mk x.cond.vr,Mk x.cond.fl,Mk x.cond.kd,Mk x.cond.val.kind,Mk x.cond.val.num,.string x.cond.val.text].toArray (0,0) _ n'.out underlying31 rfl nz ?_);refine (I.out _ q'.out).mono ?_;rintro e w2 ⟨rfl,k'⟩;have z:=jD (ab q'.out k');have F':=jD (am k' n'.out);clear k' n' q' I
 cases fp with
 | false =>
  obtain rfl:r=false:=by have h:=HR.out;simpa using h
  exact fi z.out
 | true =>
 by_cases g1:10<l.length
 ·have T':(10:Int)<(l.length:Int):=by omega
  obtain rfl:r=false:=by have h:=HR.out;rw[Nb (show ¬l.length<=10 by omega)]at h;simpa using h
  clear g1;exact fi z.out
 have T':¬(10:Int)<(l.length:Int):=by omega
 have G1:=jD g1;clear g1;go_wp2_with fail
 go_loopw [5] (fun i wr=>∃k:Nat,k<=l.length/\i=Mk k/\Hid ((∀e∈l.take k,e.vals.length<=9)/\Mm w2 wr)) (fun i _=>l.length-(intOf i).toNat)
 case atStart=>exact⟨0,Mu _,rfl,jD ⟨by simp,Mr _ _⟩⟩
 case round =>
  obtain⟨k,hk,rfl,hI⟩:=hrel;have Z:=hI.out.2
  by_cases g':k<l.length
  ·have J':(k:Int)<(l.length:Int):=by omega
   have O:=Mq g';obtain⟨y,hy⟩:=jF (l[k]);rw[<-hy]at O;obtain⟨b,o,rfl,u,hu,-,-,-,-,y4⟩:=R'.out k y O;replace y4:=aa (ab z.out Z) y4;obtain⟨Au,cu,rfl,u1,u2,-⟩:=hu;have Z':=ay u1 u2;have HG:=jD O;clear hy O g' u1 u2
   by_cases g2:9<y.vals.length
   ·have N':(9:Int)<(y.vals.length:Int):=by omega
    obtain rfl:r=false:=by
     have h:=HR.out;have h2:l.all (fun e=>decide (e.vals.length<=9))=false:=by
      rw[List.all_eq_false];exact⟨y,MI HG.out,by simp;omega⟩
     rw[h2]at h;simpa using h
    clear g2;exact fi (ab z.out Z)
   ·have N':¬(9:Int)<(y.vals.length:Int):=by omega
    have G2:=jD g2;clear g2;go_wp2_with fail;refine⟨⟨k+1,by omega,by go_num,jD ⟨fun e he=>?_,Z⟩⟩,by simp[intOf];omega⟩;rw[bP HG.out,NC,NK]at he;rcases he with he|rfl
    ·exact hI.out.1 e he
    ·have:=G2.out;omega
  ·have J':¬(k:Int)<(l.length:Int):=by omega
   have E':Hid (l.all (fun e=>decide (e.vals.length<=9))=true):=jD (List.all_eq_true.2 fun e he=>Nm (hI.out.1 e (by rw[Of om];exact he)));have A':=jD (ab z.out Z);have s':=jD (am Z F'.out);clear g' hI hk Z F';go_wp2_with (refine Od rfl 31 (.tmp 2) rfl X rfl 31 [Mk x.op,.slice Aa x.args.length ca,Mk x.ty,Mk x.vr,Mk x.sc,Mk x.sp,Mk x.cond.op,.slice Ac x.cond.args.length cc,Mk x.cond.vr,Mk x.cond.fl,Mk x.cond.kd,Mk x.cond.val.kind,Mk x.cond.val.num,.string x.cond.val.text].toArray (0,0) _ s'.out underlying31 rfl nz ?_);refine (t'.out _ A'.out).mono ?_;rintro e w3 ⟨rfl,m'⟩;have P':=jD (ab A'.out m');have C':=jD (am m' s'.out);have u':=jD (B'.out (nv+1) l.length om om w3);rw[V']at u';clear m' s';go_wp2_with fail;refine u'.out.mono ?_;rintro e w4 ⟨r1,rfl,J,x'⟩;have r':=jD (ab P'.out x');have S':=jD (am x' C'.out);clear x' C' u'
   by_cases g3:r1<=1500
   ·have O':(r1:Int)<=1500:=by omega
    obtain rfl:r=true:=by
     have h:=HR.out;rw[E'.out,Nm (J.1 g3),Nm (show l.length<=10 by omega)]at h
     simpa using h
    clear g3 J;exact fi r'.out
   ·have O':¬(r1:Int)<=1500:=by omega
    have h':Hid (r=(!ip&&decide (l.length^nv<=1500))):=jD (by
     have h:=HR.out;rw[E'.out,Nb (fun h=>g3 (J.2 h)),Nm (show l.length<=10 by omega)]at h
     simpa using h)
    clear g3 J;go_wp2_with (refine Od rfl 31 (.tmp 2) rfl X rfl 31 [Mk x.op,.slice Aa x.args.length ca,Mk x.ty,Mk x.vr,Mk x.sc,Mk x.sp,Mk x.cond.op,.slice Ac x.cond.args.length cc,Mk x.cond.vr,Mk x.cond.fl,Mk x.cond.kd,Mk x.cond.val.kind,Mk x.cond.val.num,.string x.cond.val.text].toArray (0,0) _ S'.out underlying31 rfl nz ?_);refine (j'.out _ r'.out).mono ?_;rintro e w5 ⟨rfl,H'⟩;have G':=jD (ab r'.out H');clear H'
    cases ip with
    | true =>
     obtain rfl:r=false:=by have h:=h'.out;simpa using h
     exact fi G'.out
    | false =>
     have y':=jD (B'.out l.length nv om om w5);go_wp2_with fail;refine y'.out.mono ?_;rintro e w6 ⟨r2,rfl,G,D'⟩;have z':=jD (ab G'.out D');clear D' y'
     by_cases g4:r2<=1500
     ·have H0:(r2:Int)<=1500:=by omega
      obtain rfl:r=true:=by have h:=h'.out;rw[Nm (G.1 g4)]at h;simpa using h
      clear g4 G;exact fi z'.out
     ·have d4:decide ((r2:Int)<=1500)=false:=Nb om;obtain rfl:r=false:=by have h:=h'.out;rw[Nb (fun h=>g4 (G.2 h))]at h;simpa using h
      clear g4 G;exact fi z'.out
def rH (q:Qry) (l:List Evt):Bool:=js q.pat l&&(decide (q.key.length<=20)&&(decide (q.rets.length<=4)&&decide (q.vars.length<=20)))
theorem lu {q:Qry} {l:List Evt} (h:rH q l=true):js q.pat l=true/\q.key.length<=20/\q.rets.length<=4/\q.vars.length<=20:=by
 unfold rH at h;rw[My,My,My,MK,MK,MK]at h;exact h
theorem DM (d:Nat) (q:Qry) (l:List Evt) (vv vk va vc vr vl:Value) (w:World) (hq:QryIs d w q vv vk va vc vr) (hl:bh w vl l) (hB:ptB q.pat<=1048576) :
  Mn 18 #[gN q vv vk va vc vr,vl] w (.bool (rH q l)):=by
 have G:=jD (fun (W:World) (hW:Mm w W)=>Bm d q.pat l va vc vl W (hq.args.stays (aB d) hW) (hq.cond.stays (ai d) hW) (hl.stays aG hW) hB);obtain⟨sm,O⟩:∃t,js q.pat l=t:=⟨_,rfl⟩;obtain⟨r,hr⟩:=jE (rH q l);have HR:Hid (r=(sm&&(decide (q.key.length<=20)&&(decide (q.rets.length<=4)&&decide (q.vars.length<=20))))):=jD (by rw[<-hr];unfold rH;rw[O]);rw[hr];rw[O]at G;have k':=kL hq.key;have j':=kL hq.vars;have l':=kL hq.rets;obtain⟨Av,cv,rfl,-⟩:=id hq.vars;obtain⟨Ak,ck,rfl,-⟩:=id hq.key;obtain⟨Aa,ca,rfl,-⟩:=id hq.args;obtain⟨Ac,cc,rfl,-⟩:=id hq.cond;obtain⟨Ar,cr,rfl,-⟩:=id hq.rets;obtain⟨Al,cl,rfl,-⟩:=id hl;clear O hr hq hl hB;unfold gN;unfold ptV at G;go_enter func18,ntmps18;go_wp2_with (refine gv 31 (.tmp 5) rfl ?_);refine⟨kK fun w1 e1=>?_⟩;obtain⟨Q,J⟩:∃q,q=w.heap.size:=⟨_,rfl⟩;have hQ:w1.heap[Q]?=some (.cells [.string q.nm,.slice Av q.vars.length cv,.slice Ak q.key.length ck,.int .i64 q.pat.op,.slice Aa q.pat.args.length ca,.int .i64 q.pat.ty,.int .i64 q.pat.vr,.int .i64 q.pat.sc,.int .i64 q.pat.sp,.int .i64 q.pat.cond.op,.slice Ac q.pat.cond.args.length cc,.int .i64 q.pat.cond.vr,.int .i64 q.pat.cond.fl,.int .i64 q.pat.cond.kd,.int .i64 q.pat.cond.val.kind,.int .i64 q.pat.cond.val.num,.string q.pat.cond.val.text,.slice Ar q.rets.length cr].toArray 33 (0,0)):=by rw[e1];exact ax _ _ _ J
 have f':Mm w w1:=gb e1;have c':=jD (CG (p:=[Mk q.pat.op,.slice Aa q.pat.args.length ca,Mk q.pat.ty,Mk q.pat.vr,Mk q.pat.sc,Mk q.pat.sp,Mk q.pat.cond.op,.slice Ac q.pat.cond.args.length cc,Mk q.pat.cond.vr,Mk q.pat.cond.fl,Mk q.pat.cond.kd,Mk q.pat.cond.val.kind,Mk q.pat.cond.val.num,.string q.pat.cond.val.text]) hQ);rw[<-J];have Z:=jD f';have d':=jD hQ;clear e1 J hQ f';go_wp2_with (refine wpList_load_mid rfl 31 (.tmp 5) rfl Q 3 rfl [Mk q.pat.op,.slice Aa q.pat.args.length ca,Mk q.pat.ty,Mk q.pat.vr,Mk q.pat.sc,Mk q.pat.sp,Mk q.pat.cond.op,.slice Ac q.pat.cond.args.length cc,Mk q.pat.cond.vr,Mk q.pat.cond.fl,Mk q.pat.cond.kd,Mk q.pat.cond.val.kind,Mk q.pat.cond.val.num,.string q.pat.cond.val.text] _ c'.out underlying31 rfl kr ?_);refine (G.out _ Z.out).mono ?_;rintro e w2 ⟨rfl,a'⟩;have z:=jD (ab Z.out a');have I:=am a' d'.out;have y1:Ml w2 Q 1 (.slice Av q.vars.length cv):=ae I 1;have y2:Ml w2 Q 2 (.slice Ak q.key.length ck):=ae I 2;have m':Ml w2 Q 17 (.slice Ar q.rets.length cr):=ae I 17;clear a' c' d' Z G I
 cases sm with
 | false =>
  obtain rfl:r=false:=by have h:=HR.out;simpa using h
  exact fi z.out
 | true =>
 by_cases g1:q.key.length<=20
 case neg =>
  have g':decide ((q.key.length:Int)<=20)=false:=Nb om;obtain rfl:r=false:=by have h:=HR.out;rw[Nb g1]at h;simpa using h
  clear g1;exact fi z.out
 have g':decide ((q.key.length:Int)<=20)=true:=Nm om
 by_cases g2:q.rets.length<=4
 case neg =>
  have h':decide ((q.rets.length:Int)<=4)=false:=Nb om;obtain rfl:r=false:=by have h:=HR.out;rw[Nb g2]at h;simpa using h
  clear g1 g2;exact fi z.out
 have h':decide ((q.rets.length:Int)<=4)=true:=Nm om
 by_cases g3:q.vars.length<=20
 case neg =>
  have i':decide ((q.vars.length:Int)<=20)=false:=Nb om;obtain rfl:r=false:=by have h:=HR.out;rw[Nb g3]at h;simpa using h
  clear g1 g2 g3;exact fi z.out
 have i':decide ((q.vars.length:Int)<=20)=true:=Nm om;obtain rfl:r=true:=by have h:=HR.out;rw[Nm g1,Nm g2,Nm g3]at h;simpa using h
 clear g1 g2 g3;exact fi z.out
def yS (q:Qry) (l:List Evt):Bool:=rH q l&&decide ((aN q l).2=0)
theorem F0 (d:Nat) (q:Qry) (l:List Evt) (vv vk va vc vr vl:Value) (w:World) (hq:QryIs d w q vv vk va vc vr) (hl:bh w vl l) (h':∀e∈l,∀x∈e.vals,ja x) (hB:ptB q.pat<=1048576) (hS:Shp w) :
  Mn 4 #[gN q vv vk va vc vr,vl] w (.bool (yS q l)):=by
 have z:=jD (fun (W:World) (hW:Mm w W)=>DM d q l vv vk va vc vr vl W (hq.stays hW) (hl.stays aG hW) hB);have HK:Hid (rH q l=true->∀W,Mm w W->_):=jD fun hf W hW=>zD d q l vv vk va vc vr vl W ⟨hS.stays hW,hq.stays hW,hl.stays aG hW,hB,h',fun e he=>by have:=(iM (lu hf).1).2.1 e he;omega⟩
 obtain⟨R,hR⟩:∃r,yS q l=r:=⟨_,rfl⟩;have I:=hR;unfold yS at I;rw[hR];obtain⟨⟨ks,se⟩,hs⟩:∃r,((aN q l).1.1,(aN q l).2)=r:=⟨_,rfl⟩;have g':(aN q l).2=se:=by injection hs
 obtain⟨fw,J⟩:∃t,rH q l=t:=⟨_,rfl⟩;rw[hs]at HK;rw[J]at z HK;rw[J,g']at I;have f':=jD I;obtain⟨Av,cv,rfl,-⟩:=id hq.vars;obtain⟨Ak,ck,rfl,-⟩:=id hq.key;obtain⟨Aa,ca,rfl,-⟩:=id hq.args;obtain⟨Ac,cc,rfl,-⟩:=id hq.cond;obtain⟨Ar,cr,rfl,-⟩:=id hq.rets;obtain⟨Al,cl,rfl,-⟩:=id hl;clear hR I hs g' J hq hl h' hB hS;obtain⟨E,hE⟩:=jF ((uy q (.slice Av q.vars.length cv) (.slice Ak q.key.length ck) (.slice Aa q.pat.args.length ca) (.slice Ac q.pat.cond.args.length cc) (.slice Ar q.rets.length cr)).toArray);have l':gN q (.slice Av q.vars.length cv) (.slice Ak q.key.length ck) (.slice Aa q.pat.args.length ca) (.slice Ac q.pat.cond.args.length cc) (.slice Ar q.rets.length cr)=.agg E:=by rw[hE];rfl
 rw[l']at z HK;have Z:Hid ((prog.info? 33).map (·.size)=some E.size):=jD (by rw[hE];exact ko);unfold gN;go_enter func4,ntmps4;go_wp2_with (refine gv 33 (.tmp 2) rfl ?_);refine⟨kK fun w1 e1=>?_⟩;obtain⟨Q,O⟩:∃q,q=w.heap.size:=⟨_,rfl⟩;have hQ:w1.heap[Q]?=some (.cells E 33 (0,0)):=by rw[e1,hE];exact ax _ _ _ O
 have j':Mm w w1:=gb e1;rw[<-O];have a':=jD j';have c':=jD hQ;clear e1 O;clear hQ j' hE l';go_wp2_with (refine Od rfl 33 (.tmp 2) rfl Q rfl 33 E (0,0) _ c'.out underlying33 rfl Z.out ?_);refine (z.out _ a'.out).mono ?_;rintro e w2 ⟨rfl,d'⟩;have G:=jD (ab a'.out d');have i':=jD (am d' c'.out);clear d' c' a' z
 cases fw with
 | false =>
  obtain rfl:false=R:=by have h:=f'.out;simpa using h
  exact fi G.out
 | true =>
 go_wp2_with (refine Od rfl 33 (.tmp 2) rfl Q rfl 33 E (0,0) _ i'.out underlying33 rfl Z.out ?_);refine (HK.out (by trivial) _ G.out).mono ?_;rintro e w3 ⟨v3,rfl,n',k'⟩;obtain⟨A3,c3,rfl,-⟩:=n';have m':=jD (ab G.out k');clear k' i';have p':decide (se=0)=R:=by have h:=f'.out;simpa using h
 clear f' G HK Z;go_wp2;go_ret;exact⟨by rw[<-p'];rfl,m'.out⟩
structure Ks (q:Qry) (l:List Evt) (ks:List Vl) (ps:List (List Evt)) (M:List (List Bnd)):Prop where
 len:ps.length=ks.length
 few:ks.length<=l.length
 all:tL q l=(M,0)
 keys:((aN q l).1.1,(aN q l).2)=(ks,0)
 strm:∀(k:Nat) v s,ks[k]?=some v->ps[k]?=some s->mw q l v=(s,0)
 part:∀s∈ps,s≠[]/\bH s=0/\SmallN s.length q.pat
 pat:fq q.pat=0
 has:∀s∈ps,∀m∈cI s q.pat,m∈M/\∀b∈m,∃e∈s,cJ (cF e) b=0
 sum:(ps.map fun s=>(cI s q.pat).length).sum=M.length
 most:M.length<=4096
 ask:SmallN l.length q.pat/\(bG q.pat (bV q.key l)).length<=4096
theorem Ld {ks:List Vl} (h:ks.Pairwise fun a b=>vlC a b<0) {k j:Nat} {v u:Vl} (hk:ks[k]?=some v) (G:ks[j]?=some u) (J:j<k):u≠v:=fun e=>by
 subst e;obtain⟨I,a2⟩:=List.getElem?_eq_some_iff.1 hk;obtain⟨z,O⟩:=List.getElem?_eq_some_iff.1 G;have:=List.pairwise_iff_getElem.1 h j k z I J;rw[a2,O]at this;have h0:vlC u u=0:=mJ.2 rfl;omega
theorem Ej {n m:Nat} {x:Pt} (h:SmallN m x) (G:n<=m):SmallN n x:=by
 refine⟨by have:=h.1;omega,?_⟩;rcases h.2 with z|⟨z,h3⟩
 ·exact .inl (Mx (PN om G) z)
 ·exact .inr ⟨z,Mx (OX G _) h3⟩
theorem splOk {q:Qry} {l:List Evt} (hf:rH q l=true) (he:(aN q l).2=0):Ks q l (cA q.key l) (bV q.key l) (fa (bG q.pat (bV q.key l))):=by
 obtain⟨I,O,J⟩:=tR he;have z:=(iM (lu hf).1).1;have Z:=iS O;have hlen:(bV q.key l).length=(cA q.key l).length:=by unfold bV;rw[MB]
 refine⟨hlen,yg q.key l,?_,?_,?_,?_,I,?_,?_,?_,z,xq I z⟩
 ·unfold tL;rw[Mo (by rw[he];simp),J]
 ·rw[J,he]
 ·intro k v s hk hs;unfold mw;rw[Mo (by rw[he];simp),J];have hz:((cA q.key l).zip (bV q.key l))[k]?=some (v,s):=by rw[List.getElem?_zip_eq_some];exact⟨hk,hs⟩
  have:=pG (v:=v) hz (fun p hp e=>by
   obtain⟨j,h⟩:=List.mem_iff_getElem?.1 hp;rw[NP]at h
   split at h
   ·next G =>
    rw[List.getElem?_zip_eq_some]at h;exact Ld (iV q.key l).1 hk h.1 G e
   ·cases h) rfl
  rw[this]
 ·intro s hs;refine⟨B9 s hs,xd O s hs,Ej z ?_⟩;obtain⟨v,hv,rfl⟩:=List.mem_map.1 hs;exact Ow _ _
 ·exact fun s hs m hm=>⟨FT hs hm,Fz hm⟩
 ·exact (jf Z).symm
 ·rw[jf Z];have:=xq (key:=q.key) I z;unfold bG at this;rw[Pw]at this;exact this
theorem J9 {w W:World} {s:List Evt} {x:Pt} {e:Ending} (h:MtsRet w s x e W) (G:fq x=0) (z:bH s=0):∃v,e=.returned (.tuple #[v,Mk 0])/\il W v (cI s x)/\Mm w W:=by
 obtain⟨I,h⟩:=h;rcases h with ⟨h,-⟩|⟨-,h,-⟩|⟨-,-,v,ms,h3,h4,h5⟩
 ·exact absurd G h
 ·exact absurd z h
 ·exact⟨v,h3,h5▸h4.is,I⟩
def rK (q:Qry) (ps:List (List Evt)) (k:Nat):Nat:=((ps.take k).map fun s=>(cI s q.pat).length).sum
theorem DO {q:Qry} {ps:List (List Evt)} {k:Nat} {s:List Evt} (h:ps[k]?=some s):rK q ps (k+1)=rK q ps k+(cI s q.pat).length:=by
 unfold rK;rw[bK h,NY,List.sum_append];simp
theorem I9 {q:Qry} {ps:List (List Evt)} (k:Nat):rK q ps k<=(ps.map fun s=>(cI s q.pat).length).sum:=by
 unfold rK
 conv=>rhs;rw[<-OB k ps,NY,List.sum_append]
 omega
theorem yj (d:Nat) (q:Qry) (l:List Evt) (vv vk va vc vr vl:Value) (w:World) (hq:QryIs d w q vv vk va vc vr) (hl:bh w vl l) (J':∀e∈l,∀x∈e.vals,ja x) (hB:ptB q.pat<=1048576) (hS:Shp w) (hT:Tbl w) (hL:Lx w) :
  Mn 3 #[gN q vv vk va vc vr,vl] w (.bool true):=by
 have G1:=jD (fun (W:World) (z:Mm w W)=>wv W (hS.stays z) (hT.stays z) (hL.stays z));have m':=jD (fun (W:World) (z:Mm w W)=>F0 d q l vv vk va vc vr vl W (hq.stays z) (hl.stays aG z) J' hB (hS.stays z));obtain⟨gd,s'⟩:∃t,yS q l=t:=⟨_,rfl⟩;rw[s']at m';have h':gd=true->rH q l=true/\(aN q l).2=0:=fun h=>by rw[<-s']at h;unfold yS at h;simpa using h
 have K1:Hid (gd=true->∃ks ps M,Ks q l ks ps M):=jD fun h=>⟨_,_,_,splOk (h' h).1 (h' h).2⟩
 have G:Hid (gd=true->∀W,Mm w W->PartAsk d W q l vv vk va vc vr vl):=jD fun h W z=>⟨hS.stays z,hq.stays z,hl.stays aG z,hB,J',fun e he=>by have:=(iM (lu (h' h).1).1).2.1 e he;omega⟩
 have T1:Hid (∀(ps:List (List Evt)) (s:List Evt) (u:Value) (W:World),(∀s∈ps,s≠[]/\bH s=0/\SmallN s.length q.pat)->fq q.pat=0->s∈ps->Mm w W->bh W u s ->
   Calls prog 9 #[ptV q.pat va vc,u] W fun e W'=>∃v,e=.returned (.tuple #[v,Mk 0])/\il W' v (cI s q.pat)/\Mm W W') :=
  jD fun ps s u W hp h0 hs z hu=>(ir s q.pat d va vc u W (hS.stays z) (hq.args.stays (aB d) z) (hq.cond.stays (ai d) z) hu hB (hp s hs).2.2).mono fun _ _ h=>J9 h h0 (hp s hs).2.1
 obtain⟨Av,cv,rfl,-⟩:=id hq.vars;obtain⟨Ak,ck,rfl,-⟩:=id hq.key;obtain⟨Aa,ca,rfl,-⟩:=id hq.args;obtain⟨Ac,cc,rfl,-⟩:=id hq.cond;obtain⟨Ar,cr,rfl,-⟩:=id hq.rets;obtain⟨Al,cl,rfl,-⟩:=id hl;have W2:=kL hl;clear s' h' hq hl J' hB hS hT hL;obtain⟨E,hE⟩:=jF ((uy q (.slice Av q.vars.length cv) (.slice Ak q.key.length ck) (.slice Aa q.pat.args.length ca) (.slice Ac q.pat.cond.args.length cc) (.slice Ar q.rets.length cr)).toArray);have A':gN q (.slice Av q.vars.length cv) (.slice Ak q.key.length ck) (.slice Aa q.pat.args.length ca) (.slice Ac q.pat.cond.args.length cc) (.slice Ar q.rets.length cr)=.agg E:=by rw[hE];rfl
 obtain⟨F,hF⟩:=jF (aM q.pat (.slice Aa q.pat.args.length ca) (.slice Ac q.pat.cond.args.length cc));have R1:ptV q.pat (.slice Aa q.pat.args.length ca) (.slice Ac q.pat.cond.args.length cc)=.agg F.toArray:=by rw[hF];rfl
 rw[A']at m';rw[R1]at T1;have i':Hid ((prog.info? 33).map (·.size)=some E.size):=jD (by rw[hE];exact ko);have Z1:Hid ((prog.info? 31).map (·.size)=some F.toArray.size):=jD (by rw[hF];kernel_rfl);have n':Hid (∀(W:World),W.heap[w.heap.size]?=some (.cells E 33 (0,0))->W.rangeAt w.heap.size 3 F):=jD fun W h=>by rw[hE]at h;rw[hF];exact CG h
 have V1:=jD A';unfold gN;go_enter func3,ntmps3;go_wp2_with (refine gv 33 (.tmp 2) rfl ?_);refine⟨kK fun w1 e1=>?_⟩;obtain⟨Q,Z'⟩:∃q,q=w.heap.size:=⟨_,rfl⟩;have hQ:w1.heap[Q]?=some (.cells E 33 (0,0)):=by rw[e1,hE];exact ax _ _ _ Z'
 have U1:Mm w w1:=gb e1;rw[<-Z']at n' ⊢;have S':=jD U1;have z':=jD hQ;clear e1 Z';clear hQ U1 hE A' hF R1;go_wp2_with (refine Od rfl 33 (.tmp 2) rfl Q rfl 33 E (0,0) _ z'.out underlying33 rfl i'.out ?_);refine (m'.out _ S'.out).mono ?_;rintro e w2 ⟨rfl,F'⟩;have J:=jD (ab S'.out F');have H0:=jD (am F' z'.out);clear F' z' S' m'
 cases gd with
 | false =>
  go_wp2_with fail;refine (G1.out _ J.out).mono ?_;rintro e wz ⟨rfl,B2⟩;exact fi (ab J.out B2)
 | true =>
 obtain⟨ks,ps,M,hO⟩:=K1.out (by trivial);have HO:=jD hO;have G:Hid (∀W,Mm w W->PartAsk d W q l _ _ _ _ _ _):=jD (G.out (by trivial));have hM:=fun (W:World) (z:Mm w W)=>vW d q l _ _ _ _ _ _ W (G.out W z) hO.ask.1 (fun _=>hO.ask.2)
 have hK:=fun (W:World) (z:Mm w W)=>Dv d q l _ _ _ _ _ _ W (G.out W z)
 have u':=fun (v:Vl) (W:World) (z:Mm w W)=>xU d q l v _ _ _ _ _ _ W (G.out W z)
 rw[V1.out]at hM hK u';rw[hO.all]at hM;rw[hO.keys]at hK;have HM:=jD hM;have HK:=jD hK;have W1:=jD u';have H3:¬(l.length:Int)<(ks.length:Int):=by have:=hO.few;omega
 clear hM hK u' K1 G V1 hO;go_wp2_with (refine Od rfl 33 (.tmp 2) rfl Q rfl 33 E (0,0) _ H0.out underlying33 rfl i'.out ?_);refine (HM.out _ J.out).mono ?_;rintro e w3 ⟨v3,rfl,P1,G'⟩;have t':=jD P1;obtain⟨A3,c3,rfl,-⟩:=P1;have N':=jD (ab J.out G');have H':=jD (am G' H0.out);clear G' H0 J HM;go_wp2_with (refine Od rfl 33 (.tmp 2) rfl Q rfl 33 E (0,0) _ H'.out underlying33 rfl i'.out ?_);refine (HK.out _ N'.out).mono ?_;rintro e w4 ⟨v4,rfl,Z0,l'⟩;have t':=jD (t'.out.stays ku l');have hn:=kL Z0;obtain⟨A4,c4,rfl,P2,U2,p'⟩:=Z0;have K2:=jD p';have T':=jD (ab N'.out l');have V2:=jD (am l' H'.out);clear l' H' N' HK p' P2 U2;go_wp2_with fail
 go_loopw [9,50] (fun tt i wr=>∃k:Nat,k<=ks.length/\i=Mk k/\tt=Mk (rK q ps k)/\Hid (Mm w4 wr)) (fun _ i _=>ks.length-(intOf i).toNat)
 case atStart=>exact⟨0,Mu _,rfl,rfl,jD (Mr _ _)⟩
 case round =>
  obtain⟨k,hk,rfl,rfl,hI⟩:=hrel;have hb:=hI.out
  by_cases f':k<ks.length
  ·have A2:(k:Int)<(ks.length:Int):=by omega
   obtain⟨b,o,rfl,p0,p1,p2⟩:=K2.out k ks[k] (Mq f');replace p0:=aa hb p0;replace p1:=aa hb p1;replace p2:=aa hb p2;have hg:=jD (Mq f');obtain⟨x,hx⟩:=jF (ks[k]);rw[<-hx]at hg p0 p1 p2;obtain⟨s,hs⟩:∃s,ps[k]?=some s:=⟨_,Mq (by rw[HO.out.len];exact f')⟩;have HS:=jD hs;have hC:=fun (W:World) (z:Mm w W)=>W1.out x W z
   rw[HO.out.strm k x s hg.out hs]at hC;unfold vlV at hC;have HC:=jD hC;have hD:=fun (u:Value) (W:World) (z:Mm w W) (hu:bh W u s)=>T1.out ps s u W HO.out.part HO.out.pat (MI hs) z hu
   obtain⟨ms,j'⟩:=jE (cI s q.pat);have S2:Hid (∀m∈ms,m∈M/\∀b∈m,∃e∈s,cJ (cF e) b=0):=jD (by rw[<-j'];exact HO.out.has s (MI hs));rw[j']at hD;have HD:=jD hD;have D':=DO (q:=q) hs;rw[j']at D';have R2:=jD D';have hle:=I9 (q:=q) (ps:=ps) (k+1);rw[HO.out.sum]at hle;have Y1:=HO.out.most;have B3:((rK q ps k:Nat):Int)+((ms.length:Nat):Int)<=4096:=by omega
   have Y2:((s.length:Int)==0)=false:=by
    have h1:=(HO.out.part s (MI hs)).1;have h2:s.length≠0:=fun h=>h1 (List.length_eq_zero_iff.1 h)
    simp only[Nl,ne_eq];omega
   have O':=jD (ab T'.out hb);have x':=jD (am hb V2.out);have Q2:=Ms wr ⟨b,_,none⟩ p0;clear hx hs hC hD j' D' hle Y1 hI f';go_wp2_with (refine gv 33 (.tmp 2) rfl ?_);refine⟨kK fun w5 e5=>?_⟩;obtain⟨X,hX⟩:=jF wr.heap.size;have a':Mm wr w5:=gb e5;have y0:Ml w5 X 0 (Mk x.kind):=jW e5 hX;have y1:Ml w5 X 1 (Mk x.num):=jW e5 hX;have y2:Ml w5 X 2 (.string x.text):=jW e5 hX;rw[<-hX];have X':=jD a';have E':=jD (am a' x'.out);clear e5 hX a' p0 p1 p2 Q2;go_wp2_with (refine Od rfl 33 (.tmp 2) rfl Q rfl 33 E (0,0) _ E'.out underlying33 rfl i'.out ?_);refine (HC.out _ (ab O'.out X'.out)).mono ?_;rintro e w6 ⟨v6,rfl,U0,P'⟩;have S0:=jD U0;obtain⟨A6,c6,rfl,-⟩:=U0;have Y0:=jD (ab X'.out P');have E1:=jD (am P' E'.out);clear P' E' X' y0 y1 y2 HC;go_wp2_with (refine gv 31 (.tmp 62) rfl ?_);refine⟨kK fun w7 e7=>?_⟩;obtain⟨Y,hY⟩:=jF w6.heap.size;have k':Mm w6 w7:=gb e7;have z0:Ml w7 Y 0 (.slice A6 s.length c6):=jW e7 hY
   rw[<-hY];have Q1:=jD (n'.out w7 (am k' E1.out));have B':=jD (S0.out.stays aG k');have R':=jD (ab Y0.out k');clear e7 hY k' E1 S0;go_wp2_with (refine wpList_load_mid rfl 31 (.tmp 62) rfl Q 3 rfl F _ Q1.out underlying31 rfl Z1.out ?_);refine (HD.out _ _ (ab O'.out R'.out) B'.out).mono ?_;rintro e w8 ⟨v8,rfl,M1,d'⟩;have Z2:=kL M1;obtain⟨A8,c8,rfl,-,-,q'⟩:=M1;have X1:=jD q';have I':=jD (ab R'.out d');have H2:=jD (B'.out.stays aG d');have HZ:=jD (aa d' z0);have z8:=HZ.out;clear d' Q1 B' z0 R' Y0 q' HD;obtain⟨wa,S1⟩:∃wa:World,wa=wr:=⟨_,rfl⟩;rw[<-S1]at hb O' x' I';clear S1 x';have Q0:=jD (ab hb I'.out);clear hb I';go_wp2_with fail
   go_loopw [85] (fun i wr=>∃j:Nat,j<=ms.length/\i=Mk j/\Hid (Mm w8 wr)) (fun i _=>ms.length-(intOf i).toNat)
   case atStart=>exact⟨0,Mu _,rfl,jD (Mr _ _)⟩
   case round =>
    obtain⟨j,hj,rfl,hJ⟩:=hrel;have c':=hJ.out
    by_cases y':j<ms.length
    ·have T2:(j:Int)<(ms.length:Int):=by omega
     obtain⟨bm,om,rfl,um,U',m0⟩:=X1.out j ms[j] (Mq y');simp only[NF]at m0;replace m0:=aa c' m0;have O:=U'.stays bL c';obtain⟨mm,V'⟩:∃m,m=ms[j]:=⟨_,rfl⟩;have r':mm∈ms:=V'▸Nu y';rw[<-V']at O U';have X0:=jD O;have A1:=jD (S2.out mm r');obtain⟨Am,cm,rfl,-⟩:=U';have zr:=aa c' z8;have R0:=Ms wr ⟨bm,_,none⟩ m0;have E2:=Ms wr ⟨Y,_,none⟩ zr;clear hJ y' O V' r' z8;go_wp2_with fail;refine aI fun w9 e9=>?_
     obtain⟨Z,hZ⟩:=jF wr.heap.size;have g':Mm wr w9:=gb e9;have x0:Ml w9 Z 0 (.slice Am mm.length cm):=jW e9 hZ;rw[<-hZ];have z9:=aa g' zr;have C':=jD (ab c' g');have K0:=jD (X0.out.stays bL g');clear e9 hZ g' m0 zr R0 E2 X0;refine (JC M mm _ _ Z w9 (t'.out.stays ku (ab Q0.out C'.out)) K0.out x0 A1.out.1).mono ?_;rintro e wA ⟨rfl,I⟩;have xA:=aa I x0;have zA:=aa I z9;have Y':=jD (ab C'.out I);have F1:=jD (K0.out.stays bL I);clear I x0 z9 C' K0;go_wp2_with fail;refine (IK s mm _ _ Y wA (H2.out.stays aG Y'.out) F1.out zA A1.out.2).mono ?_;rintro e wB ⟨rfl,V0⟩;have G2:=jD (ab Y'.out V0);clear V0 xA zA Y' F1;go_wp2_with fail
     go_roundw
     case rel=>exact⟨j+1,by omega,by go_num,G2⟩
     case measure=>simp[intOf];omega
    ·have T2:¬(j:Int)<(ms.length:Int):=by omega
     have X2:j=ms.length:=by omega
     go_wp2_with fail
     go_roundw
     case rel =>
      refine⟨_,_,_,_,_,_,_,_,_,⟨k+1,by omega,?_,?_,jD (ab Q0.out c')⟩,rfl,rfl,rfl,rfl,rfl,rfl,rfl,rfl,rfl⟩
      ·go_num
      ·rw[R2.out];go_num
     case measure=>simp[intOf];omega
  ·have A2:¬(k:Int)<(ks.length:Int):=by omega
   have P0:rK q ps k=M.length:=by unfold rK;rw[Of (by rw[HO.out.len];omega)];exact HO.out.sum
   have heq:((rK q ps k:Int)==(M.length:Int))=true:=by rw[P0];simp
   go_wp2_with fail;refine (G1.out _ (ab T'.out hb)).mono ?_;rintro e w5 ⟨rfl,a'⟩;go_wp2;go_ret;exact⟨rfl,ab T'.out (ab hb a')⟩
end Go.Proofs.YtbjicljfjkdeeaaGreatDoor
