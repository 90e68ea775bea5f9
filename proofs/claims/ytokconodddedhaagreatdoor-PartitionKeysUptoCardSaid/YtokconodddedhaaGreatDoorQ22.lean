/- Part. -/
import Derived.Test.YtokconodddedhaaGreatDoorQ19
import Derived.Sort.CutIn
set_option maxRecDepth 100000
set_option maxHeartbeats 16000000
set_option linter.unusedVariables false
set_option linter.unusedSimpArgs false
namespace Go.Proofs.YtokconodddedhaaGreatDoor
open Go.Proofs.Tryz Go.RowKit
section
section
variable {n : Nat} {P : Program} {ops : Array Oper} {Q : Exit -> Act -> World -> Prop} {md : Region.Mode} {S : World -> Prop} {s l0 : Nat}
def NoPO (Q:Exit->Act->World->Prop):Exit->Act->World->Prop
 | .panic _,_,_=>False
 | .outgrown,_,_=>False
 | e,a,w=>Q e a w
theorem NoPO.normal {a:Act} {w:World} (h:Q .normal a w):NoPO Q .normal a w:=h
theorem NoPO.imp:∀(e:Exit) (a:Act) (w:World),NoPO Q e a w->Q e a w:=fun e a w h=>by
 cases e<;>first|exact h|exact (h:False).elim
theorem dD {fuel:Nat} {l:List Value} {ds:List Deferred} {listed L:Array Bool} {o:Oper} {rest:List Oper} {w:World}
  (I:ops.toList.drop s=o::rest) (hL:listed.setIfInBounds s true=L) (hr:Region.ready md ops listed=[s]) (hls:listed.getD s false=false) (z:L.getD s false=true)
  (hw:Region.wanted o (yielded ops l.toArray)=true)
  (h:∀K':Act->World->Prop,Shut (∀a w,wpAny P md ops Q fuel L a w->K' a w)->Oper.wp P o ⟨l.toArray,ds⟩ w K' Q):dj P md ops Q S s (fuel+1) listed ⟨l.toArray,ds⟩ w:=by
 subst hL;refine⟨fun h0=>(by rw[h0]at hls;cases hls),fun _=>⟨fun h0=>(by rw[h0]at hr;cases hr),fun j D=>?_⟩⟩;rw[hr]at D;obtain rfl:j=s:=jQ D;refine wpOp_step (gZ I) (fun K' G=>?_);rw[K7 hw];refine h K' (fun a w F=>G a w ⟨fun e=>absurd rfl e,?_⟩)
 cases fuel with
 | zero=>exact F
 | succ fuel=>exact⟨fun _=>F,fun h0=>(by rw[z]at h0;cases h0)⟩
end
end
section
open Go.RowKit Go.Lib
attribute [local go_sem] Oper.semAt_some
def bdv (l:List Pt):List Int:=(l.filter fun y=>decide (y.op=0)).map (·.vr)
mutual
theorem BB:∀x:Pt,evV x=bdv (aO x)
 | .mk o l a v c d e=>by
  rw[evV,aO,wE l];unfold bdv;rw[List.filter_cons]
  by_cases h:o=0
  ·rw[K7 h,K7 (Nc (show (Pt.mk o l a v c d e).op=0 from h))];rfl
  ·rw[K6 h,K6 (show ¬decide ((Pt.mk o l a v c d e).op=0)=true from fun z=>h (MA z))];rfl
theorem wE:∀l:List Pt,ga l=bdv (bG l)
 | []=>by rw[ga,bG];rfl
 | a::r=>by
  rw[ga,bG,BB a,wE r];unfold bdv;rw[MN,LH]
end
theorem Gq {l:List Pt} {k:Nat} {y:Pt} (h:l[k]?=some y):bdv (l.take (k+1))=bdv (l.take k)++(if y.op=0 then [y.vr] else []):=by
 unfold bdv;rw[bZ h,MN,LH]
 by_cases h0:y.op=0<;>simp[h0]
theorem By (l:List Pt):(bdv l).length<=l.length:=by
 unfold bdv;rw[Lm];exact MH _ _
theorem xG {w w':World} {base:Nat} {e:TypeId} {sz n:Nat} {v:Value} {xs:List Value} (h:w.ownsRow base e sz v n xs) {row:Option Nat} (G:w.grownBy w' row) (hr:∀r,row=some r->∃o:Obj,w.heap[r]?=some o/\o.isCells=false):w'.ownsRow base e sz v n xs:=by
 refine aT h fun g z=>G.block g (ah h z).2 fun I=>?_
 obtain⟨o,D,F⟩:=hr g I.symm;rcases h.2 with ⟨rfl,_⟩|⟨g',cap,cur,rfl,_,hh,_⟩
 ·simp[Value.ownBlock]at z
 ·have:g'=g:=by simpa [Value.ownBlock] using z
  subst this;rw[hh]at D
  cases D
  cases F
theorem uZ {B:Nat} {w w':World} {base:Nat} {e:TypeId} {sz n:Nat} {v:Value} {xs:List Value} (h:w.ownsRow base e sz v n xs) (z:w.grownBy w' v.ownBlock):KeepsFrom B w w':=by
 refine⟨z.size,fun k o _ hk F=>(z.block k (Array.getElem?_eq_some_iff.1 hk).1 fun D=>?_).trans hk⟩;rcases h.2 with ⟨rfl,_⟩|⟨g',cap,cur,rfl,_,hh,_⟩
 ·simp[Value.ownBlock]at D
 ·have:k=g':=by simpa [Value.ownBlock] using D
  subst this;rw[hh]at hk
  cases hk
  cases F
def BndI (w:World) (n1 z:Nat) (h:List Pt) (k:Nat) (W:World):Prop :=
 (∃u,Boxed W z 23 u/\W.ownsRow n1 3 1 u (bdv (h.take k)).length (bl (bdv (h.take k))))/\KY w W/\n1<=W.heap.size
theorem GK {w:World} {n1 I B:Nat} {G:List Pt} (hw:w.heap.size<=B):OwnFrom B (BndI w n1 I G) :=
 fun _ _ _ _ ⟨⟨u,z,D⟩,h,F⟩ hg hr=>⟨⟨u,bP z hg (fun r e=>(hr r e).2),xG D hg (fun r e=>(hr r e).2)⟩,gn h h.size hg (fun r e=>Lf hw (hr r e).1),Lf F hg.size⟩
theorem Ch {W W':World} {row:Option Nat} (F:W.grownBy W' row) (hr:∀r,row=some r->∃o:Obj,W.heap[r]?=some o/\o.isCells=false) {v:Value} {l:List Int} (h:bD W v l):bD W' v l:=by
 obtain⟨A,c,e,G,J,D⟩:=h;refine⟨A,c,e,G,J,fun k x z=>?_⟩;obtain⟨b,o,O,I⟩:=D k x z;exact⟨b,o,O,cell_kept I F hr⟩
theorem FK {W:World} {base sz n D:Nat} {e:TypeId} {v:Value} {xs:List Value} {x:Option (List Deferred)} (h:W.ownsRow base e sz v n xs) (hk:W.heap[D]?=some (.deferred x)):v.ownBlock≠some D:=fun z=>by
 rcases h.2 with ⟨rfl,_⟩|⟨g',cap,cur,rfl,_,hh,_⟩
 ·simp[Value.ownBlock]at z
 ·have:g'=D:=by simpa [Value.ownBlock] using z
  subst this;rw[hh]at hk
  cases hk
theorem ua {F:Fence} {n:Nat} {P:Program} (w:World) {ops:Array Oper} {rest:List Oper} {o:Oper} {a:Act} {Q:Exit->Act->World->Prop}
  (hg:o.guard=none) (s x:Operand) (t:TypeId) (h:o.op=Op.call { callee:=Callee.builtin Builtin.append,args:=#[s,x],argTypes:=#[t,t] })
  (base:Nat) (e:TypeId) (i:TypeInfo) (z:Value) (size bytes:Nat) (h1:P.underlying t=some (.slice e)) (h2:P.info? e=some i) (h3:i.zero=some z) (h4:i.size=size) (Z:i.bytes=bytes) (h6:z.cells.size=size) (h7:0<size)
  (v:Value) (k:Nat) (xs:List Value) (hs:a.eval s=v) (I:w.ownsRow base e size v k xs) (A:Option Addr) (m c:Nat) (news:List Value) (hx:a.eval x=.slice A m c) (G:Src w A m size news) (b1:k+m<=maxLen) (b2:(k+m)*bytes<=140737488355328) (b3:base<=w.heap.size)
  (hK:∀v' w',w'.ownsRow base e size v' (k+m) (xs++news)->w.grownBy w' v.ownBlock->(v'.ownBlock=v.ownBlock\/v'.ownBlock=some w.heap.size)->wpListIn F n P ops Q rest (a.put o.dst v') w') :
  wpListIn F n P ops Q (o::rest) a w:=by
 refine wpListIn_plain hg fun K J=>?_
 obtain⟨v',w',D,r1,r2,r3⟩:=lG (P:=P) w base t o.type e i z size bytes h1 h2 h3 h4 Z h6 h7 v k xs I A m c news G b1 b2 b3;unfold Oper.wpIn;refine⟨?_,?_⟩
 ·simp[Oper.about,h,resolve,Target.leads,Sem.run_pure]
 ·rw[Oper.semAt_plain F _ _ (by rw[h];intro c O;cases O)];simp[execOp,h,resolve,invoke,builtin,hs,hx,D,Result.andThen];exact J _ _ (hK v' w' r1 r2 r3)
theorem kq (d:Nat) (x:Pt) (v vc:Value) (w:World) (hx:aW d w v x.args) (P':aF d w vc x.cond.args) (hN:ptN x<=64) (hr:∀y∈aO x,y.op=0->0<=y.vr/\y.vr<16) :
  Calls prog 297 #[ptV x v vc] w (qh w (bB x)):=by
 have U0:Hid (∀z∈bdv (aO x),0<=z/\z<16):=jD fun z hz=>by
  obtain⟨y,hy,rfl⟩:=List.mem_map.1 hz;obtain⟨F',C'⟩:=List.mem_filter.1 hy;exact hr y F' (jQ C')
 have T0:Hid (bB x=Lib.compact (uI (bdv (aO x)))):=jD (by
  unfold bB;rw[BB];exact (rB (fun z=>by simp) U0.out).symm)
 have U':Hid ((aO x).length<=64):=jD (by rw[dh];exact hN);have HX:=jD hx;have M':=jD P';obtain⟨A,c,rfl,-⟩:=hx;obtain⟨Ac,cc,rfl,-⟩:=P';obtain⟨n,hn⟩:=jF x.args.length;obtain⟨nc,H'⟩:=jF x.cond.args.length;rw[<-hn,<-H'];rw[<-hn]at HX;rw[<-H']at M';have S':=jD (fun (W:World)=>gp x A n c Ac nc cc W);have S0:=jD (fun (W:World) (B b:Nat) (hW:KY w W) (hb:b<W.heap.size) (hs:fE W (some b)) (hC:Cells W B 0 (aQ x (.slice A n c) (.slice Ac nc cc)))=>gl w W W.heap.size (some b) (fun z h=>by cases h;exact hb) d x _ _ B HX.out M'.out hW (Ld _) hs hC);obtain⟨j0,R1,Q1,F',C'⟩:=LD iA;clear hn H' hr hN;unfold ptV at S' ⊢;refine (Ng (n:=5)).1 ?_;refine callsIn_of_wp_marks func297 rfl trivial ?_ rfl;simp only[ntmps297,MM,Lt,MG,Nat.reduceAdd,Nat.reduceSub,Nh,Ni,Nj,Nk,MJ,Mr];gi_wp2_with fail;refine⟨trivial,callsIn_wide.2 ?_⟩;refine aw fun W1 e1=>?_
 have N':W1.heap.size=w.heap.size+2:=by rw[e1];simp
 have X':KY w W1:=gb e1;have f':Boxed W1 (w.heap.size+1) 23 (.slice none 0 0):=by rw[e1];exact lE _ _ _ _
 clear e1;refine (S'.out _).mono ?_;rintro e W2 ⟨rfl,e2⟩;have V0:Cells W2 W1.heap.size 0 (aQ x (.slice A n c) (.slice Ac nc cc)):=by rw[e2];exact gm
 have b2:Boxed W2 (w.heap.size+1) 23 (.slice none 0 0):=by rw[e2];exact f'.alloc _
 have d':Hid (KY w W2):=jD (by rw[e2];exact aJ X' _);have K0:Hid (W2.heap.size=w.heap.size+3):=jD (by rw[e2];simp[N']);clear e2 f' X' N';obtain⟨b3,f'⟩:∃b,b=w.heap.size+1:=⟨_,rfl⟩;rw[<-f']at b2;have r':Hid (w.heap.size<=b3/\b3<W2.heap.size):=jD (by have:=K0.out;omega);have X0:fE W2 (some b3):=fun k ⟨b,u,e1,e2,e3⟩=>by
  cases e1
  rw[b2.cell]at e2
  cases e2
  simp[Value.ownBlock]at e3
 rw[<-f'];clear f';gi_wp2_with fail;refine iC fun a0 e0=>?_
 refine nO (n:=5) (gf:=255) (lb:=#[.pointer (some ⟨W1.heap.size,0,none⟩)]) (by rw[e0];rfl) (enters_of func255 kr rfl) (S0.out W2 W1.heap.size b3 d'.out r'.out.2 X0 V0)
  bW (kA d'.out.size (fun b h=>by cases h;exact r'.out.2)) (La _ _) (fun x v=>py w _ x v) (fun x v W h=>mI h)
  (BndI w W2.heap.size b3 (aO x)) (fun _ _ _=>False) (GK d'.out.size) (fun _ _ _ _ _ h _ _=>h) ⟨⟨_,b2,⟨rfl,.inl ⟨rfl,rfl⟩⟩⟩,d'.out,Ld _⟩
  (AxP a0.tmps 7 4 w.heap.size) (fun x v a'=>pz _ _ _ _ _ x v a') ?assign ?body ?done ?stop
 case assign =>
  intro m l k y v W K hl hy hi k' hK;obtain⟨A',n',c',Y',V',Z',rfl⟩:=mw k';have i':w.heap.size<=W.heap.size:=hi.2.1.size;have HI:=jD hi;have Z0:=jD k';have HK:=jD hK;have j':b3<W.heap.size:=by obtain⟨⟨u,h1,-⟩,-⟩:=hi;exact h1.lt
  clear hi k' hK hy;rw[e0];unfold ptV;gi_wp2;refine vE fun W' O=>?_
  have J:KY W W':=gb O;have hc:Cells W' W.heap.size 0 (aQ y (.slice A' n' c') (.slice Y' V' Z')):=ci (jG O) (jG O) (jG O) (jG O) (jG O) (jG O) (jG O) (jG O) (jG O) (jG O) (jG O) (jG O) (jG O) (jG O);clear O;refine HK.out _ _ (bH J) (cM J i' (fun b h=>by cases h;exact j')) ?_ Z0.out ⟨W.heap.size,_,_,i',rfl,by rw[e0];rfl,hc,⟨_,_,_,rfl⟩,⟨_,_,_,rfl⟩⟩;obtain⟨⟨u,h1,h2⟩,h3,h4⟩:=HI.out;exact⟨⟨u,(J.block _ h1.lt).trans h1,aj h2 J⟩,h3.trans (J.mono i'),Lf h4 J.size⟩
 case body =>
  rintro m l k y v a' W hl-hy hi k' ⟨B,u,uc,hB,rfl,rfl,hc,⟨A',n',c',rfl⟩,⟨Y',V',Z',rfl⟩⟩;have i':w.heap.size<=W.heap.size:=hi.2.1.size;obtain⟨⟨uo,I,G⟩,O',R'⟩:=id hi;obtain⟨p0,p1,p2,p3,p4,p5,p6,p7,p8,p9,M1,E1,Y0,A1⟩:=dv hc;have U1:B<W.heap.size:=K8 W ⟨B,_,none⟩ p0;have A0:=Gq hy;have s':=jD A0;have HI:=jD hi;have G':=jD I;have g':=jD O';have O0:(bdv ((aO x).take k)).length<=64:=by have h1:=By ((aO x).take k);have h2:=U'.out;rw[Ml]at h1;omega
  obtain⟨nr,x'⟩:∃n,n=(bdv ((aO x).take k)).length:=⟨_,rfl⟩;rw[<-x']at G O0;have F:=jD G;have R0:=jD x';obtain⟨Ar,cr,rfl⟩:=ay G;have c3:=I.cell;have j':=I.lt;have O1:B≠b3:=fun e=>by rw[e]at p2;have h:=I;simp[World.cell?,show W.heap[b3]?=_ from h]at p2
  have V1:b3≠B:=fun e=>O1 e.symm
  have S1:b3≠W.heap.size:=by omega
  have T1:B≠W.heap.size:=by omega
  have h':=r'.out;clear k' hc hy hi A0 I G O' x' p1 p2 p4 p5 p6 p7 p8 p9 M1 E1 Y0 A1;rw[e0];unfold ptV;simp only[Lw,Lj,Lk]
  by_cases h0:y.op=0
  case neg =>
   have K1:(y.op==0)=false:=jQ h0;rw[K6 h0,Mz]at s';clear h0;gi_wp2_with fail;refine⟨KeepsFrom.refl _ _,gC _ _ _ _,?_⟩;obtain⟨⟨u,h1,h2⟩,h3,h4⟩:=HI.out;exact⟨⟨u,h1,by rw[s'.out];exact h2⟩,h3,h4⟩
  have K1:(y.op==0)=true:=jQ h0;rw[K7 h0]at s';clear h0;gi_wp2_with (gi_at_builtin;refine ua _ rfl (.tmp 11) (.tmp 14) 23 rfl W2.heap.size 3 j0 _ 1 8 underlying23 R1 Q1 F' C' rfl dc (.slice Ar nr cr) nr (bl (bdv ((aO x).take k))) rfl (aj F.out (ag W _)) (some ⟨W.heap.size,0,none⟩) 1 1 [KW y.vr] rfl (bE _ [KW y.vr] _ 1 1 _ rfl rfl (by simp[Value.oneCell'])) (by unfold maxLen;omega) om (by rw[L4];omega) ?_;intro v8 w8 Z D' m';have L':=jD D';have N1:=jD m';have x8:Boxed w8 b3 23 (.slice Ar nr cr):=(G'.out.alloc _).kept D' (fun e=>by have:=(ah F.out e.symm).1;omega);have c8:=x8.cell;have f8:=x8.frozen;have l8:=x8.lt;have P0:=jD x8;obtain⟨A8,T',rfl⟩:=ay Z;have B':=jD Z;have c9:=(x8.set (.slice A8 (nr+1) T')).cell;clear x8 Z D' m');have p':KY W (W.alloc (.cells #[.int .i64 y.vr] 3)):=jB;have I':Hid (bj w.heap.size W2.heap.size (some b3) W ((w8.setCell ⟨b3,0,none⟩ (.slice A8 (nr+1) T')))):=jD (bW (cM p' i' (fun b h=>by cases h;exact j')) (sJ h'.1 h'.2 (aa p' c3) (by rw[L4];omega) L'.out (fun e=>by have:=(ah F.out e).1;omega) (fun g e=>(ah F.out e).1) N1.out (fun g e=>(ah B'.out e).2)));refine⟨(bH p').trans ((uZ (aj F.out p') L'.out).trans ((KeepsOthers.setCell _ _ _).from _)),I'.out,⟨_,P0.out.set _,?_⟩,g'.out.trans I'.out.below,Lf R' I'.out.below.size⟩;rw[s'.out,jq,Le,<-R0.out];exact aT B'.out fun g hg=>LB _ _ _ g (by have:=(ah B'.out hg).1;simp only;omega)
 case done =>
  rintro D W hD ⟨⟨uo,I,G⟩,J,R'⟩ hK;rw[LX]at G;have F:=jD G;have G':=jD I;have g':=jD J;have HK:=jD hK;have hl:(bdv (aO x)).length<=64:=by have h1:=By (aO x);have h2:=U'.out;omega
  obtain⟨Ar,cr,rfl⟩:=ay G;have c3:=I.cell;have j':=I.lt;have h':=r'.out;clear I J hK G;rw[e0];gi_wp2_with fail;refine⟨trivial,callsIn_wide.2 ?_⟩;refine (ti _ _ _ _ F.out om).mono ?_;rintro e w5 ⟨rfl,l',q'⟩;have t':Boxed w5 b3 23 (.slice Ar (bdv (aO x)).length cr):=G'.out.kept q' (fun e=>by have:=(ah F.out e.symm).1;omega);have y':Hid (w5.ownsRow W2.heap.size 3 1 (.slice Ar (bdv (aO x)).length cr) (uI (bdv (aO x))).length (bl (uI (bdv (aO x))))):=jD (by rw[ry];exact l');have J':Hid (Below w.heap.size W w5):=jD (am q' g'.out.size (fun g e=>by have:=(ah F.out e).1;omega));have E':Hid (w5.heap[D]?=some (.deferred (some []))):=jD ((q'.block D (Array.getElem?_eq_some_iff.1 HK.out).1 (fun e=>FK F.out HK.out e.symm)).trans HK.out);have c5:=t'.cell;have l5:=t'.lt;clear t' l' q' c3 j';gi_wp2_with fail;refine⟨trivial,callsIn_wide.2 ?_⟩;refine (tO _ _ _ _ y'.out).mono ?_;rintro e w6 ⟨v6,rfl,b',u'⟩;have N0:Hid (Below w.heap.size w5 w6):=jD (am u' (by have:=J'.out.size;have:=g'.out.size;omega) (fun g e=>by have:=(ah y'.out e).1;omega));have z':Hid (w6.heap[D]?=some (.deferred (some []))):=jD ((u'.block D (Array.getElem?_eq_some_iff.1 E'.out).1 (fun e=>FK y'.out E'.out e.symm)).trans E'.out);have H0:Hid (∀g,v6.ownBlock=some g->w.heap.size<=g):=jD fun g h=>by have:=(ah b' h).1;have:=d'.out.size;omega
  have Q0:Hid (bD w6 v6 (bB x)):=jD (by rw[T0.out];exact mc b');clear b' u' c5 l5;gi_wp2_with fail;refine⟨by simp,.inl ⟨_,_,rfl,run_takeDeferred z'.out,?_⟩⟩;have P1:w.heap.size<=D:=by have:=d'.out.size;omega
  refine⟨v6,?_,v6,rfl,?_,H0.out,((g'.out.trans J'.out).trans N0.out).trans (belowK_b (w:=w) (Ld _) _ D _ _ P1 z'.out rfl rfl)⟩
  ·simp[results,Tryz.f297,go_sem]
  ·exact Ch (grownBy_putObj' _ _ _) (fun r er=>by cases er;exact⟨_,z'.out,rfl⟩) Q0.out
 case stop=>rintro D c k W hD hk h;exact h.elim
end
theorem mp (a b:List Int):(unI a b).length<=16:=by
 unfold unI;refine Lf (MH _ _) ?_;simp
theorem ip {a b:List Int}:∀z∈unI a b,0<=z/\z<16:=fun z h=>(BP.1 h).1
def SmI (l:List Int):Prop:=(∀z∈l,0<=z/\z<16)/\l.length<=16
theorem ue (a b:List Int):SmI (unI a b):=⟨ip,mp a b⟩
theorem lO:SmI []:=⟨fun z h=>by simp at h,by simp⟩
theorem tF:∀(l:List Pt) (out:List Int),SmI out->SmI (gN out l)
 | [],out,h=>by rw[gN];exact h
 | a::r,out,h=>by rw[gN];exact tF r _ (ue _ _)
theorem jr {x:Pt} (h:x.op=0->0<=x.vr/\x.vr<16):SmI (aS x):=by
 rw[xg]
 split
 ·exact lO
 ·split
  ·next h0=>exact⟨fun z D=>by rw[Lz]at D;subst D;exact h h0,by simp⟩
  ·exact tF _ _ lO
theorem vJ {out:List Int} {l:List Pt} {k:Nat} {a:Pt} (h:l[k]?=some a):gN out (l.drop k)=gN (unI out (aS a)) (l.drop (k+1)):=by
 obtain⟨z,rfl⟩:=List.getElem?_eq_some_iff.1 h;rw[Lr z,gN]
def Tbl (w:World):Prop:=∀k:Nat,k<8->w.cell? ⟨1,k*2,none⟩=some (.bool (!decide (k=2\/k=4)))/\w.cell? ⟨1,k*2+1,none⟩=some (.bool (iw k))
theorem Tbl.stays {w W:World} (h:Tbl w) (z:KY w W):Tbl W:=fun k hk=>⟨aa z (h k hk).1,aa z (h k hk).2⟩
def OkV (x:Pt):Prop:=∀y∈aO x,(0<=y.op/\y.op<=7)/\(y.op=0->0<=y.vr/\y.vr<16)
theorem kD {x a:Pt} {k:Nat} (z:x.args[k]?=some a):∀y∈aO a,y∈aO x:=fun y hy=>by
 rw[da];obtain⟨j,h,rfl⟩:=MK hy;exact Lh _ (Li (wO z j _ (K9 h)))
theorem OkV.arg {x a:Pt} {k:Nat} (h:OkV x) (z:x.args[k]?=some a):OkV a:=fun y hy=>h y (kD z y hy)
theorem OkV.self {x:Pt} (h:OkV x):(0<=x.op/\x.op<=7)/\(x.op=0->0<=x.vr/\x.vr<16):=h x (by rw[da];exact Lg ..)
theorem mm {w:World} {b:Nat} {x:Int} (h:w.cell? ⟨b,0,none⟩=some (KW x)):bD w (.slice (some ⟨b,0,none⟩) 1 1) [x]:=by
 refine⟨some ⟨b,0,none⟩,1,rfl,Ld _,by unfold maxLen;omega,fun k y hk=>?_⟩
 match k,hk with
 | 0,hk=>simp at hk;subst hk;exact⟨b,0,rfl,h⟩
 | k+1,hk=>simp at hk
theorem sM (d:Nat) (J:∀d',d=d'+1->∀(x:Pt) (e:Nat) (v vc:Value) (w:World),Tbl w->aW d' w v x.args->aF e w vc x.cond.args->OkV x->Calls prog 298 #[ptV x v vc] w (qh w (aS x)))
  (x:Pt) (e:Nat) (v vc:Value) (w:World) (hT:Tbl w) (hx:aW d w v x.args) (E':aF e w vc x.cond.args) (b':OkV x):Calls prog 298 #[ptV x v vc] w (qh w (aS x)):=by
 obtain⟨⟨o0,o7⟩,ov⟩:=b'.self;obtain⟨op,U'⟩:∃op:Nat,x.op=(op:Int):=⟨x.op.toNat,by omega⟩;obtain⟨t0,t1⟩:=hT op om;have M':1<w.heap.size:=K8 w ⟨_,_,none⟩ t0;obtain⟨kb,F⟩:∃b,b=decide (op=2\/op=4):=⟨_,rfl⟩;rw[<-F]at t0;obtain⟨R,hR⟩:=jE (aS x);have z:=hR;rw[xg]at z;rw[hR];have HT:=jD hT;have r':=jD b';have u':=jD J;obtain⟨A,c,rfl,h1,h2,x'⟩:=hx;obtain⟨Ac,cc,rfl,-⟩:=E';have k':=ax h1 h2;have D':=jD x';have Y':(op:Int)<8:=by omega
 have L':w.heap.size≠1:=by omega
 have p':1≠w.heap.size:=by omega
 obtain⟨nc,B'⟩:=jF x.cond.args.length;rw[<-B'];clear hT b' J x' h1 h2 hR t1 B';unfold ptV;rw[U']
 cases kb with
 | true =>
  obtain rfl:[]=R:=by rw[<-z,K7 (by have:=F.symm;simp only[Ly]at this;omega)]
  clear z F;go_enter func298,ntmps298;go_wp2;go_ret;exact⟨_,rfl,Sl.nil _ _ _ _ _ (Lb _),fun g h=>by simp[Value.ownBlock]at h,jB⟩
 | false =>
  rw[K6 (by have:=F.symm;simp only[LG]at this;omega)]at z;clear F
  by_cases h0:op=0
  ·obtain rfl:[x.vr]=R:=by rw[<-z,K7 om]
   subst h0;clear z;go_enter func298,ntmps298;go_wp2;go_ret;exact⟨_,rfl,mm (by go_simp),fun g h=>by simp[Value.ownBlock]at h;omega,jB⟩
  have O0:((op:Int)==0)=false:=by simp;omega
  rw[K6 om]at z;have HR:=jD z;clear z h0;obtain⟨n,hn⟩:=jF x.args.length;have HN:=jD hn;rw[<-hn]at k' ⊢;clear hn;go_enter func298,ntmps298;go_wp2_with fail;refine aP fun w3 e3=>?_
  have P':Hid (KY w w3):=jD (gb e3);clear e3 t0 M' L' p'
  go_loopw [3,21] (fun av i wr=>∃(k:Nat) (cur:List Int),k<=n/\i=KW k/\Hid (bD wr av cur/\(∀g,av.ownBlock=some g->w.heap.size<=g)/\SmI cur/\gN cur (x.args.drop k)=R/\KY w wr)) (fun _ i _=>n-(intOf i).toNat)
  case atStart=>exact⟨0,[],Lb _,rfl,jD ⟨Sl.nil _ _ _ _ _ (Lb _),fun g h=>by simp[Value.ownBlock]at h,lO,by rw[L1];exact HR.out,P'.out⟩⟩
  case round =>
   obtain⟨k,cur,hk,rfl,G⟩:=hrel;have hb:=G.out.2.2.2.2;obtain⟨Av,cv,rfl,-⟩:=id G.out.1
   by_cases Z':k<n
   ·have F':(k:Int)<(n:Int):=by omega
    have j':k<x.args.length:=by have:=HN.out;omega
    obtain⟨b,o,rfl,f'⟩:=D'.out k x.args[k] (K9 j');have hg:=jD (K9 j');obtain⟨a,ha⟩:=jF (x.args[k]);rw[<-ha]at hg f';obtain⟨d',e',v',C',t',H',n',I,p0,p1,p2,p3,p4,p5,p6,p7,p8,p9,V',R',G',O'⟩:=cW (aB d _ _ _ _ _ hb f');have O:=jD (fun (W:World) (hW:KY wr W)=>u'.out d' t' a e' v' C' W (HT.out.stays (ab hb hW)) (n'.stays (aB d') hW) (I.stays (ai e') hW) (r'.out.arg hg.out));have l':=jD (jr (r'.out.arg hg.out).self.2);have hD:=G.out.2.2.2.1;rw[vJ hg.out]at hD;have HD:=jD hD;obtain⟨A',c',rfl,-⟩:=n';obtain⟨K0,N0,rfl,-⟩:=I;have H0:=K8 wr ⟨b,_,none⟩ p0;obtain⟨nn,a'⟩:∃n,n=a.args.length:=⟨_,rfl⟩;obtain⟨nk,i'⟩:∃n,n=a.cond.args.length:=⟨_,rfl⟩;obtain⟨nu,y'⟩:∃n,n=cur.length:=⟨_,rfl⟩;rw[<-a',<-i']at O;rw[<-a']at p1;rw[<-i']at p7;have h':=G.out.1;rw[<-y']at h' ⊢;have I':=jD h';unfold ptV at O;clear ha f' t' H' hD j' a' i' y' h';go_wp2_with fail;refine (O.out _ ?_).mono ?_
    ·exact jB
    rintro e w2 ⟨v2,rfl,Z,N',m'⟩;have D:Hid (KY wr w2):=jD (ab (by exact jB) m');have s':=dS cur (aS a) _ v2 w2 (I'.out.stays aL D.out) Z G.out.2.2.1.1 l'.out.1 (by have:=G.out.2.2.1.2;have:=l'.out.2;omega);have T':=jD s';obtain⟨A2,c2,rfl,-⟩:=id Z;clear m' Z N' s' p0 p1 p2 p3 p4 p5 p6 p7 p8 p9 V' R' G' O';go_wp2_with fail;refine T'.out.mono ?_;rintro e w4 ⟨v4,rfl,g',z',q'⟩;have X':Hid (KY w w4):=jD ((ab hb D.out).trans (q'.mono (ab hb D.out).size));have J':=jD g';have S':=jD z';obtain⟨A4,c4,rfl,-⟩:=id g';have A0:=(ab hb D.out).size;clear g' z' q';go_wp2_with fail
    go_roundw
    case rel=>exact⟨k+1,unI cur (aS a),by omega,by go_num,jD ⟨J'.out,fun g h=>by have:=S'.out g h;omega,ue _ _,HD.out,X'.out⟩⟩
    case measure=>simp[intOf];omega
   ·have F':¬(k:Int)<(n:Int):=by omega
    obtain rfl:cur=R:=by have h:=G.out.2.2.2.1;rw[Lq (by have:=HN.out;omega),gN]at h;exact h
    go_wp2;go_ret;exact⟨_,rfl,G.out.1,G.out.2.1,hb⟩
theorem ru (d:Nat):∀(x:Pt) (e:Nat) (v vc:Value) (w:World),Tbl w->aW d w v x.args->aF e w vc x.cond.args->OkV x->Calls prog 298 #[ptV x v vc] w (qh w (aS x)):=by
 induction d with
 | zero=>exact sM 0 (fun z h=>by omega)
 | succ d D=>exact sM (d+1) (fun z h=>Ma h▸D)
theorem kU (l:List Int) (v:Value) (x:Int) (w:World) (h:bD w v l):Calls prog 338 #[v,KW x] w fun e W=>e=.returned (.bool (l.contains x))/\W=w:=by
 obtain⟨A,c,rfl,Z,J,G⟩:=h
 by_cases h0:l=[]
 ·subst h0;exact Tryz.slices_Contains_int_empty A c x w
 ·have z:=List.length_pos_iff.2 h0;obtain⟨b,o,rfl,-⟩:=G 0 l[0] (K9 z);have h:=Tryz.slices_Contains_int b o l.length c l x w (Ld _) (by unfold maxLen at J;omega) (fun j F=>by
   obtain⟨b',o',e,D⟩:=G j l[j] (K9 F);injection e with e;injection e with I O;subst I O;unfold mW at D;rw[LL]at D;rw[D,ME,K9 F];rfl)
  rw[LX]at h;exact h
def iq (D h:Value) (z:Int):Value:=.agg #[D,h,KW z]
structure PlcIs (w:World) (s:Plc) (uv sv:Value):Prop where
 us:bD w uv s.us
 si:bD w sv s.si
theorem PlcIs.stays {w W:World} {s:Plc} {z D:Value} (h:PlcIs w s z D) (F:KY w W):PlcIs W s z D:=⟨h.us.stays aL F,h.si.stays aL F⟩
def SmP (s:Plc):Prop:=SmI s.us/\SmI s.si
def pX (w:World) (s:Plc) (e:Ending) (W:World):Prop:=∃h z,e=.returned (iq h z s.fb)/\PlcIs W s h z/\(∀g,h.ownBlock=some g->w.heap.size<=g)/\(∀g,z.ownBlock=some g->w.heap.size<=g)/\KY w W
theorem du {w:World} {g:Nat} {t:TypeId} {I J G:Value} (h:w.heap[g]?=some (.cells [I,J,G].toArray t (0,0))) (z F D:Value) :
  (((w.setCell ⟨g,0,none⟩ z).setCell ⟨g,1,none⟩ F).setCell ⟨g,2,none⟩ D).heap[g]?=some (.cells [z,F,D].toArray t (0,0)):=fx (fx (fx h 0 z) 1 F) 2 D
theorem kF {w:World} {z:Nat} {v:Value} {l:List Int} (h:bD w v l) (F:∀g,v.ownBlock=some g->z<g) (Z a1 a2:Value):bD (((w.setCell ⟨z,0,none⟩ Z).setCell ⟨z,1,none⟩ a1).setCell ⟨z,2,none⟩ a2) v l:=by
 obtain⟨A,c,rfl,O,h2,I⟩:=h;refine⟨A,c,rfl,O,h2,fun k x G=>?_⟩;obtain⟨b,o,rfl,D⟩:=I k x G;refine⟨b,o,rfl,?_⟩;have J:b≠z:=by have:=F b rfl;omega
 unfold mW at *;rw[LL]at D ⊢
 go_simp
theorem mZ {w J D:World} {z:Nat} {s:Plc} {G F:Value} (hb:KY w D) (I:w.heap.size<=z) (Z:z<J.heap.size) (hu:bD D G s.us) (hs:bD D F s.si) (O:∀g,G.ownBlock=some g->J.heap.size<=g) (gs:∀g,F.ownBlock=some g->J.heap.size<=g) (a0 a1 a2:Value) :
  pX w s (.returned (iq G F s.fb)) (((D.setCell ⟨z,0,none⟩ a0).setCell ⟨z,1,none⟩ a1).setCell ⟨z,2,none⟩ a2) :=
 ⟨G,F,rfl,⟨kF hu (fun g h=>by have:=O g h;omega) _ _ _,kF hs (fun g h=>by have:=gs g h;omega) _ _ _⟩,fun g h=>by have:=O g h;omega,fun g h=>by have:=gs g h;omega,aA (aA (aA hb I _) I _) I _⟩
theorem Kz (d e:Nat) (x:Pt) (s:Plc) (v vc uv sv:Value) (w:World) (hx:aW d w v x.args) (e':aF e w vc x.cond.args) (hL:PlcIs w s uv sv) (k':SmP s) (h0:x.op=0) (hv:0<=x.vr/\x.vr<16) :
  Calls prog 295 #[ptV x v vc,iq uv sv s.fb] w (pX w ⟨unI s.us [x.vr],unI s.si [x.vr],-1⟩):=by
 have l':∀z∈[x.vr],0<=z/\z<16:=fun z hz=>by rw[Lz]at hz;subst hz;exact hv
 unfold ptV iq;have HX:=jD hx;have x':=jD e';obtain⟨A,c,rfl,h1,h2,A'⟩:=id hx;obtain⟨Ac,cc,rfl,-⟩:=id e';obtain⟨Au,cu,rfl,-⟩:=id hL.us;obtain⟨As,cs,rfl,-⟩:=id hL.si;obtain⟨nu,g'⟩:∃n,n=s.us.length:=⟨_,rfl⟩;obtain⟨ns,c'⟩:∃n,n=s.si.length:=⟨_,rfl⟩;obtain⟨n,hn⟩:=jF x.args.length;obtain⟨nc,i'⟩:∃n,n=x.cond.args.length:=⟨_,rfl⟩;have s':=jD hL.us;have n':=jD hL.si;have a':=jD k';rw[<-g']at s';rw[<-c']at n';rw[<-hn]at HX;rw[<-i']at x';rw[<-g',<-c',<-hn,<-i'];clear hx e' hL g' c' i' h1 h2 k';rw[h0];clear h0 hn A';go_enter func295,ntmps295;go_wp2_with fail;refine aP fun G e3=>?_
 obtain⟨Z,hZ⟩:∃q,q=w.heap.size+1+1:=⟨_,rfl⟩;obtain⟨Y,hY⟩:∃q,q=w.heap.size+1:=⟨_,rfl⟩;obtain⟨X,hX⟩:∃q,q=w.heap.size:=⟨_,rfl⟩;obtain⟨V,hV⟩:∃q,q=w.heap.size+1+1+1:=⟨_,rfl⟩;have q':KY w G:=gb e3;have y0:KX G Y 0 (.slice Au nu cu):=by rw[e3,hY];show _=_;go_simp
 have y1:KX G Y 1 (.slice As ns cs):=by rw[e3,hY];show _=_;go_simp
 have s0:KX G V 0 (KW x.vr):=by rw[e3,hV];show _=_;go_simp
 have x1:KX G X 1 (.slice A n c):=by rw[e3,hX];show _=_;go_simp
 have x3:KX G X 3 (KW x.vr):=by rw[e3,hX];show _=_;go_simp
 have hz:G.heap[Z]?=some (.cells [.slice none 0 0,.slice none 0 0,.int .i64 0].toArray 332 (0,0)):=by rw[e3,hZ];exact aE (ap _ _ _ jS)
 have y':w.heap.size<=Z:=by omega
 rw[<-hV,<-hZ,<-hY,<-hX];have I':=K8 G ⟨Y,_,none⟩ y0;have F':=K8 G ⟨X,_,none⟩ x1;have t':=K8 G ⟨V,_,none⟩ s0;have G':=aD hz;have h':=jD q';have J:=jD (mm s0);clear e3 hX hY hZ hV;have D':=jD (fun (W:World) (O:KY G W)=>dS s.us [x.vr] _ _ W (s'.out.stays aL (ab h'.out O)) (J.out.stays aL O) a'.out.1.1 l' (by have:=a'.out.1.2;simp;omega));have B':=jD (fun (W:World) (O:KY G W)=>dS s.si [x.vr] _ _ W (n'.out.stays aL (ab h'.out O)) (J.out.stays aL O) a'.out.2.1 l' (by have:=a'.out.2.2;simp;omega));clear s0 x1 x3 q' F' t' hv;have j':∀W,KY G W->(fun W:World=>KY G W/\KX W Y 0 (.slice Au nu cu)/\KX W Y 1 (.slice As ns cs)) W:=fun W O=>⟨O,aa O y0,aa O y1⟩
 refine wp_region_noPanic ?_;refine di ((fun W:World=>KY G W/\W.cell? ⟨Y,0,none⟩=some (.slice Au nu cu)/\W.cell? ⟨Y,1,none⟩=some (.slice As ns cs))) 9 kr (j' _ (La _ _).drew) (fun D=>?_);refine tkP [0,1,2,4,5,6] ?_;refine nxP 3 (fun K hK=>?_)
 (go_simp;refine (D'.out _ D.1).mono ?_;rintro e w4 ⟨v4,rfl,f',r',u'⟩;have b':KY G w4:=ab D.1 u';have C':=jD f';have H':=jD r';obtain⟨A4,c4,rfl,-⟩:=id f';clear f' r')
 refine hK.out _ _ (j' _ b') (fun D=>?_);clear hK K;refine nxP 7 (fun K hK=>?_)
 (go_simp;refine (B'.out _ D.1).mono ?_;rintro e w5 ⟨v5,rfl,d',p',m'⟩;have I:KY G w5:=ab D.1 m';have E':=jD d';have z':=jD p';obtain⟨A5,c5,rfl,-⟩:=id d';clear d' p')
 refine hK.out _ _ (j' _ I) (fun D=>?_);clear hK K;refine tkP [8] ?_;refine dD (fuel:=0) (L:=(true::true::true::true::true::true::true::true::true::true::[]).toArray) rfl kr kr kr kr kr (fun K hK=>?_);have F:=ao I hz;have z0:=af F 0;have z1:=af F 1;have z2:=af F 2;simp only[LE,LC]at z0 z1 z2;have g0:=aq F 0;have g1:=aq F 1;have g2:=aq F 2;have J':=aD F;have HQ:=jD (du F (.slice A4 (unI s.us [x.vr]).length c4) (.slice A5 (unI s.si [x.vr]).length c5) (KW (-1)));clear F;go_simp;refine hK.out _ _ ?_;clear hK K;refine⟨by kernel_rfl,NoPanic.normal ?_⟩;rotate_left 1;go_wp2_with fail;have q0:=af HQ.out 0;have q1:=af HQ.out 1;have q2:=af HQ.out 2;exact Lc (v:=.agg #[.slice A4 (unI s.us [x.vr]).length c4,.slice A5 (unI s.si [x.vr]).length c5,KW (-1)]) (by simp[results,results295,go_sem,q0,q1,q2]) rfl (mZ (s:=⟨unI s.us [x.vr],unI s.si [x.vr],-1⟩) (ab h'.out I) y' G' (C'.out.stays aL m') (E'.out) (fun g h=>by have h2:=H'.out g h;(try rw[MO]at h2);have:=Ld 0;omega) (fun g h=>by have h2:=z'.out g h;(try rw[MO]at h2);have:=b'.size;omega) _ _ _)
theorem KV (d e:Nat) (x a:Pt) (s:Plc) (v vc uv sv:Value) (w:World) (hx:aW d w v x.args) (s':aF e w vc x.cond.args) (hL:PlcIs w s uv sv) (z':SmP s) (h0:x.op=5) (hv:0<=x.vr/\x.vr<16) (hl:x.args.length=1) (ha:x.args[0]?=some a) (D':ptN a<=64/\OkV a) :
  Calls prog 295 #[ptV x v vc,iq uv sv s.fb] w (pX w ⟨unI (unI s.us (bB a)) [x.vr],unI s.si [x.vr],x.vr⟩):=by
 have E':∀z∈[x.vr],0<=z/\z<16:=fun z hz=>by rw[Lz]at hz;subst hz;exact hv
 unfold ptV iq;have HX:=jD hx;have A0:=jD s';obtain⟨A,c,rfl,h1,h2,F'⟩:=id hx;obtain⟨Ac,cc,rfl,-⟩:=id s';obtain⟨Au,cu,rfl,-⟩:=id hL.us;obtain⟨As,cs,rfl,-⟩:=id hL.si;obtain⟨nu,x'⟩:∃n,n=s.us.length:=⟨_,rfl⟩;obtain⟨ns,p'⟩:∃n,n=s.si.length:=⟨_,rfl⟩;obtain⟨n,hn⟩:=jF x.args.length;obtain⟨nc,y'⟩:∃n,n=x.cond.args.length:=⟨_,rfl⟩;have V':=jD hL.us;have H':=jD hL.si;have j':=jD z';rw[<-x']at V';rw[<-p']at H';rw[<-hn]at HX;rw[<-y']at A0;rw[<-x',<-p',<-hn,<-y'];clear hx s' hL x' p' y' h1 h2 z';obtain⟨b,o,rfl,G'⟩:=F' 0 a ha;obtain⟨d',e',v',K1,N0,R0,C',k',p0,p1,p2,p3,p4,p5,p6,p7,p8,p9,i',h',f',g'⟩:=cW G';simp only[My,Mc]at p0 p1 p2 p3 p4 p5 p6 p7 p8 p9 i' h' f' g';have B':=jD C';have R':=jD (eI (show e'<=d' by omega) k');obtain⟨Av,cv,rfl,-⟩:=C';obtain⟨Ae,ce,rfl,-⟩:=k';obtain⟨na,U'⟩:∃n,n=a.args.length:=⟨_,rfl⟩;obtain⟨ne,L'⟩:∃n,n=a.cond.args.length:=⟨_,rfl⟩;rw[<-U']at B' p1;rw[<-L']at R' p7;have Y':n=1:=by omega
 have E1:0<n:=by omega
 have n':=D';have T':=jD n';clear G' N0 R0 U' L' F' D' n' hn Y';rw[h0];clear h0 ha hl hv;go_enter func295,ntmps295;go_wp2_with fail;refine aP fun I e3=>?_
 obtain⟨Z,hZ⟩:∃q,q=w.heap.size+1+1:=⟨_,rfl⟩;obtain⟨Y,hY⟩:∃q,q=w.heap.size+1:=⟨_,rfl⟩;obtain⟨X,hX⟩:∃q,q=w.heap.size:=⟨_,rfl⟩;obtain⟨V,hV⟩:∃q,q=w.heap.size+1+1+1:=⟨_,rfl⟩;have P':KY w I:=gb e3;have y0:KX I Y 0 (.slice Au nu cu):=by rw[e3,hY];show _=_;go_simp
 have y1:KX I Y 1 (.slice As ns cs):=by rw[e3,hY];show _=_;go_simp
 have s0:KX I V 0 (KW x.vr):=by rw[e3,hV];show _=_;go_simp
 have x1:KX I X 1 (.slice (some ⟨b,o,none⟩) n c):=by rw[e3,hX];show _=_;go_simp
 have x3:KX I X 3 (KW x.vr):=by rw[e3,hX];show _=_;go_simp
 have hz:I.heap[Z]?=some (.cells [.slice none 0 0,.slice none 0 0,.int .i64 0].toArray 332 (0,0)):=by rw[e3,hZ];exact aE (ap _ _ _ jS)
 have H0:w.heap.size<=Z:=by omega
 rw[<-hV,<-hZ,<-hY,<-hX];have P1:=K8 I ⟨Y,_,none⟩ y0;have O1:=K8 I ⟨X,_,none⟩ x1;have X':=K8 I ⟨V,_,none⟩ s0;have X0:=aD hz;have F:=jD P';have a':=jD (mm s0);clear e3 hX hY hZ hV;replace p0:=aa F.out p0;replace p1:=aa F.out p1;replace p2:=aa F.out p2;replace p3:=aa F.out p3;replace p4:=aa F.out p4;replace p5:=aa F.out p5;replace p6:=aa F.out p6;replace p7:=aa F.out p7;replace p8:=aa F.out p8;replace p9:=aa F.out p9;replace i':=aa F.out i';replace h':=aa F.out h';replace f':=aa F.out f';replace g':=aa F.out g';have N1:=K8 I ⟨b,_,none⟩ p0;have M':=jD (fun (W:World) (G:KY I W)=>kq d' a _ _ W (B'.out.stays (aB d') (ab F.out G)) (R'.out.stays (ai d') (ab F.out G)) T'.out.1 (fun y hy h=>(T'.out.2 y hy).2 h));unfold ptV at M';have A1:=jD (fun (W:World) (u:Value) (G:KY I W) (hu:bD W u (bB a))=>dS s.us (bB a) _ u W (V'.out.stays aL (ab F.out G)) hu j'.out.1.1 ip (by have:=j'.out.1.2;have:=mp (evV a) [];unfold bB;omega));have Q0:=jD (fun (W:World) (u:Value) (G:KY I W) (hu:bD W u (unI s.us (bB a)))=>dS (unI s.us (bB a)) [x.vr] u _ W hu (a'.out.stays aL G) ip E' (by have:=mp s.us (bB a);simp;omega));have S0:=jD (fun (W:World) (G:KY I W)=>dS s.si [x.vr] _ _ W (H'.out.stays aL (ab F.out G)) (a'.out.stays aL G) j'.out.2.1 E' (by have:=j'.out.2.2;simp;omega));clear s0 P' X'
 have c':∀W,KY I W->(fun W:World=>KY I W/\KX W Y 0 (.slice Au nu cu)/\KX W Y 1 (.slice As ns cs)/\KX W X 1 (.slice (some ⟨b,o,none⟩) n c)/\KX W X 3 (KW x.vr)/\KX W b o (KW a.op)/\KX W b (o+1) (.slice Av na cv)/\KX W b (o+2) (KW a.ty)/\KX W b (o+3) (KW a.vr)/\KX W b (o+4) (KW a.sc)/\KX W b (o+5) (KW a.sp)/\KX W b (o+6) (KW a.cond.op)/\KX W b (o+7) (.slice Ae ne ce)/\KX W b (o+8) (KW a.cond.vr)/\KX W b (o+9) (KW a.cond.fl)/\KX W b (o+10) (KW a.cond.kd)/\KX W b (o+11) (KW a.cond.val.kind)/\KX W b (o+12) (KW a.cond.val.num)/\KX W b (o+13) (.string a.cond.val.text)) W:=fun W G=>⟨G,aa G y0,aa G y1,aa G x1,aa G x3,aa G p0,aa G p1,aa G p2,aa G p3,aa G p4,aa G p5,aa G p6,aa G p7,aa G p8,aa G p9,aa G i',aa G h',aa G f',aa G g'⟩
 refine wp_region_noPanic ?_;refine di ((fun W:World=>KY I W/\W.cell? ⟨Y,0,none⟩=some (.slice Au nu cu)/\W.cell? ⟨Y,1,none⟩=some (.slice As ns cs)/\W.cell? ⟨X,1,none⟩=some (.slice (some ⟨b,o,none⟩) n c)/\W.cell? ⟨X,3,none⟩=some (KW x.vr)/\W.cell? ⟨b,o,none⟩=some (KW a.op)/\W.cell? ⟨b,o+1,none⟩=some (.slice Av na cv)/\W.cell? ⟨b,o+2,none⟩=some (KW a.ty)/\W.cell? ⟨b,o+3,none⟩=some (KW a.vr)/\W.cell? ⟨b,o+4,none⟩=some (KW a.sc)/\W.cell? ⟨b,o+5,none⟩=some (KW a.sp)/\W.cell? ⟨b,o+6,none⟩=some (KW a.cond.op)/\W.cell? ⟨b,o+7,none⟩=some (.slice Ae ne ce)/\W.cell? ⟨b,o+8,none⟩=some (KW a.cond.vr)/\W.cell? ⟨b,o+9,none⟩=some (KW a.cond.fl)/\W.cell? ⟨b,o+10,none⟩=some (KW a.cond.kd)/\W.cell? ⟨b,o+11,none⟩=some (KW a.cond.val.kind)/\W.cell? ⟨b,o+12,none⟩=some (KW a.cond.val.num)/\W.cell? ⟨b,o+13,none⟩=some (.string a.cond.val.text))) 17 kr (c' _ (La _ _).drew) (fun D=>?_);refine tkP [0,1,2,3,4,5,8,10,11,12,14,15] ?_;refine nxP 6 (fun K O=>?_)
 (go_simp;refine (M'.out _ D.1).mono ?_;rintro e w4 ⟨v4,rfl,u',S',Z'⟩;have I':KY I w4:=ab D.1 Z';have T0:=jD u';have Q1:=jD S';obtain⟨A4,c4,rfl,-⟩:=id u';clear u' S')
 refine O.out _ _ (c' _ I') (fun D=>?_);clear O K;refine nxP 7 (fun K O=>?_)
 (go_simp;refine (A1.out _ _ D.1 (T0.out)).mono ?_;rintro e w5 ⟨v5,rfl,q',O',P0⟩;have l':KY I w5:=ab D.1 P0;have U0:=jD q';have M1:=jD O';obtain⟨A5,c5,rfl,-⟩:=id q';clear q' O')
 refine O.out _ _ (c' _ l') (fun D=>?_);clear O K;refine nxP 9 (fun K O=>?_)
 (go_simp;refine (Q0.out _ _ D.1 U0.out).mono ?_;rintro e w6 ⟨v6,rfl,t',N',V0⟩;have m':KY I w6:=ab D.1 V0;have K0:=jD t';have Y0:=jD N';obtain⟨A6,c6,rfl,-⟩:=id t';clear t' N')
 refine O.out _ _ (c' _ m') (fun D=>?_);clear O K;refine nxP 13 (fun K O=>?_)
 (go_simp;refine (S0.out _ D.1).mono ?_;rintro e w7 ⟨v7,rfl,r',J',A'⟩;have b':KY I w7:=ab D.1 A';have Z0:=jD r';have O0:=jD J';obtain⟨A7,c7,rfl,-⟩:=id r';clear r' J')
 refine O.out _ _ (c' _ b') (fun D=>?_);clear O K;refine tkP [16] ?_;refine dD (fuel:=0) (L:=(true::true::true::true::true::true::true::true::true::true::true::true::true::true::true::true::true::true::[]).toArray) rfl kr kr kr kr kr (fun K O=>?_);have J:=ao b' hz;have z0:=af J 0;have z1:=af J 1;have z2:=af J 2;simp only[LE,LC]at z0 z1 z2;have g0:=aq J 0;have g1:=aq J 1;have g2:=aq J 2;have R1:=aD J;have HQ:=jD (du J (.slice A6 (unI (unI s.us (bB a)) [x.vr]).length c6) (.slice A7 (unI s.si [x.vr]).length c7) (KW (x.vr)));clear J;go_simp;refine O.out _ _ ?_;clear O K;refine⟨by kernel_rfl,NoPanic.normal ?_⟩;rotate_left 1;go_wp2_with fail;have q0:=af HQ.out 0;have q1:=af HQ.out 1;have q2:=af HQ.out 2;exact Lc (v:=.agg #[.slice A6 (unI (unI s.us (bB a)) [x.vr]).length c6,.slice A7 (unI s.si [x.vr]).length c7,KW (x.vr)]) (by simp[results,results295,go_sem,q0,q1,q2]) rfl (mZ (s:=⟨unI (unI s.us (bB a)) [x.vr],unI s.si [x.vr],x.vr⟩) (ab F.out b') H0 X0 (K0.out.stays aL A') (Z0.out) (fun g h=>by have h2:=Y0.out g h;(try rw[MO]at h2);have:=l'.size;omega) (fun g h=>by have h2:=O0.out g h;(try rw[MO]at h2);have:=m'.size;omega) _ _ _)
theorem JM (d e:Nat) (x a:Pt) (s:Plc) (v vc uv sv:Value) (w:World) (hT:Tbl w) (hx:aW d w v x.args) (s':aF e w vc x.cond.args) (hL:PlcIs w s uv sv) (B':SmP s) (h0:x.op≠0/\x.op≠5) (hl:x.args.length=1) (ha:x.args[0]?=some a) (F':ptN a<=64/\OkV a) :
  Calls prog 295 #[ptV x v vc,iq uv sv s.fb] w (pX w ⟨unI s.us (bB a),unI s.si (aS a),-1⟩):=by
 have N1:(x.op==0)=false:=jQ h0.1;have R1:(x.op==5)=false:=jQ h0.2;have HT:=jD hT;unfold ptV iq;have HX:=jD hx;have A0:=jD s';obtain⟨A,c,rfl,h1,h2,G'⟩:=id hx;obtain⟨Ac,cc,rfl,-⟩:=id s';obtain⟨Au,cu,rfl,-⟩:=id hL.us;obtain⟨As,cs,rfl,-⟩:=id hL.si;obtain⟨nu,y'⟩:∃n,n=s.us.length:=⟨_,rfl⟩;obtain⟨ns,n'⟩:∃n,n=s.si.length:=⟨_,rfl⟩;obtain⟨n,hn⟩:=jF x.args.length;obtain⟨nc,A'⟩:∃n,n=x.cond.args.length:=⟨_,rfl⟩;have V':=jD hL.us;have I':=jD hL.si;have i':=jD B';rw[<-y']at V';rw[<-n']at I';rw[<-hn]at HX;rw[<-A']at A0;rw[<-y',<-n',<-hn,<-A'];clear hx s' hL y' n' A' h1 h2 B';obtain⟨b,o,rfl,H'⟩:=G' 0 a ha;obtain⟨d',e',v',A1,N0,R0,E',j',p0,p1,p2,p3,p4,p5,p6,p7,p8,p9,h',g',c',f'⟩:=cW H';simp only[My,Mc]at p0 p1 p2 p3 p4 p5 p6 p7 p8 p9 h' g' c' f';have p':=jD E';have z':=jD (eI (show e'<=d' by omega) j');obtain⟨Av,cv,rfl,-⟩:=E';obtain⟨Ae,ce,rfl,-⟩:=j';obtain⟨na,U'⟩:∃n,n=a.args.length:=⟨_,rfl⟩;obtain⟨ne,L'⟩:∃n,n=a.cond.args.length:=⟨_,rfl⟩;rw[<-U']at p' p1;rw[<-L']at z' p7;have Y':n=1:=by omega
 have Z0:0<n:=by omega
 have m':=F';have a':=jD m';clear H' N0 R0 U' L' G' F' m' hn Y';clear h0 ha hl hT;go_enter func295,ntmps295;go_wp2_with fail;refine aP fun G e3=>?_
 obtain⟨Z,hZ⟩:∃q,q=w.heap.size+1+1:=⟨_,rfl⟩;obtain⟨Y,hY⟩:∃q,q=w.heap.size+1:=⟨_,rfl⟩;obtain⟨X,hX⟩:∃q,q=w.heap.size:=⟨_,rfl⟩;obtain⟨V,hV⟩:∃q,q=w.heap.size+1+1+1:=⟨_,rfl⟩;have R':KY w G:=gb e3;have y0:KX G Y 0 (.slice Au nu cu):=by rw[e3,hY];show _=_;go_simp
 have y1:KX G Y 1 (.slice As ns cs):=by rw[e3,hY];show _=_;go_simp
 have s0:KX G V 0 (KW x.vr):=by rw[e3,hV];show _=_;go_simp
 have x1:KX G X 1 (.slice (some ⟨b,o,none⟩) n c):=by rw[e3,hX];show _=_;go_simp
 have x3:KX G X 3 (KW x.vr):=by rw[e3,hX];show _=_;go_simp
 have hz:G.heap[Z]?=some (.cells [.slice none 0 0,.slice none 0 0,.int .i64 0].toArray 332 (0,0)):=by rw[e3,hZ];exact aE (ap _ _ _ jS)
 have H0:w.heap.size<=Z:=by omega
 rw[<-hV,<-hZ,<-hY,<-hX];have M1:=K8 G ⟨Y,_,none⟩ y0;have K1:=K8 G ⟨X,_,none⟩ x1;have X':=K8 G ⟨V,_,none⟩ s0;have V0:=aD hz;have D:=jD R';have t':=jD (mm s0);clear e3 hX hY hZ hV;replace p0:=aa D.out p0;replace p1:=aa D.out p1;replace p2:=aa D.out p2;replace p3:=aa D.out p3;replace p4:=aa D.out p4;replace p5:=aa D.out p5;replace p6:=aa D.out p6;replace p7:=aa D.out p7;replace p8:=aa D.out p8;replace p9:=aa D.out p9;replace h':=aa D.out h';replace g':=aa D.out g';replace c':=aa D.out c';replace f':=aa D.out f';have E1:=K8 G ⟨b,_,none⟩ p0;have M':=jD (fun (W:World) (F:KY G W)=>kq d' a _ _ W (p'.out.stays (aB d') (ab D.out F)) (z'.out.stays (ai d') (ab D.out F)) a'.out.1 (fun y hy h=>(a'.out.2 y hy).2 h));unfold ptV at M';have Y0:=jD (fun (W:World) (u:Value) (F:KY G W) (hu:bD W u (bB a))=>dS s.us (bB a) _ u W (V'.out.stays aL (ab D.out F)) hu i'.out.1.1 ip (by have:=i'.out.1.2;have:=mp (evV a) [];unfold bB;omega));have T':=jD (fun (W:World) (F:KY G W)=>ru d' a d' _ _ W (HT.out.stays (ab D.out F)) (p'.out.stays (aB d') (ab D.out F)) (z'.out.stays (ai d') (ab D.out F)) a'.out.2);unfold ptV at T';have U0:=jD (fun (W:World) (u:Value) (F:KY G W) (hu:bD W u (aS a))=>dS s.si (aS a) _ u W (I'.out.stays aL (ab D.out F)) hu i'.out.2.1 (jr a'.out.2.self.2).1 (by have:=i'.out.2.2;have:=(jr a'.out.2.self.2).2;omega));clear s0 x3 R' X' t'
 have b':∀W,KY G W->(fun W:World=>KY G W/\KX W Y 0 (.slice Au nu cu)/\KX W Y 1 (.slice As ns cs)/\KX W X 1 (.slice (some ⟨b,o,none⟩) n c)/\KX W b o (KW a.op)/\KX W b (o+1) (.slice Av na cv)/\KX W b (o+2) (KW a.ty)/\KX W b (o+3) (KW a.vr)/\KX W b (o+4) (KW a.sc)/\KX W b (o+5) (KW a.sp)/\KX W b (o+6) (KW a.cond.op)/\KX W b (o+7) (.slice Ae ne ce)/\KX W b (o+8) (KW a.cond.vr)/\KX W b (o+9) (KW a.cond.fl)/\KX W b (o+10) (KW a.cond.kd)/\KX W b (o+11) (KW a.cond.val.kind)/\KX W b (o+12) (KW a.cond.val.num)/\KX W b (o+13) (.string a.cond.val.text)) W:=fun W F=>⟨F,aa F y0,aa F y1,aa F x1,aa F p0,aa F p1,aa F p2,aa F p3,aa F p4,aa F p5,aa F p6,aa F p7,aa F p8,aa F p9,aa F h',aa F g',aa F c',aa F f'⟩
 refine wp_region_noPanic ?_;refine di ((fun W:World=>KY G W/\W.cell? ⟨Y,0,none⟩=some (.slice Au nu cu)/\W.cell? ⟨Y,1,none⟩=some (.slice As ns cs)/\W.cell? ⟨X,1,none⟩=some (.slice (some ⟨b,o,none⟩) n c)/\W.cell? ⟨b,o,none⟩=some (KW a.op)/\W.cell? ⟨b,o+1,none⟩=some (.slice Av na cv)/\W.cell? ⟨b,o+2,none⟩=some (KW a.ty)/\W.cell? ⟨b,o+3,none⟩=some (KW a.vr)/\W.cell? ⟨b,o+4,none⟩=some (KW a.sc)/\W.cell? ⟨b,o+5,none⟩=some (KW a.sp)/\W.cell? ⟨b,o+6,none⟩=some (KW a.cond.op)/\W.cell? ⟨b,o+7,none⟩=some (.slice Ae ne ce)/\W.cell? ⟨b,o+8,none⟩=some (KW a.cond.vr)/\W.cell? ⟨b,o+9,none⟩=some (KW a.cond.fl)/\W.cell? ⟨b,o+10,none⟩=some (KW a.cond.kd)/\W.cell? ⟨b,o+11,none⟩=some (KW a.cond.val.kind)/\W.cell? ⟨b,o+12,none⟩=some (KW a.cond.val.num)/\W.cell? ⟨b,o+13,none⟩=some (.string a.cond.val.text))) 17 kr (b' _ (La _ _).drew) (fun z=>?_);refine tkP [0,1,2,3,4,5,8,9,10,11,12,13] ?_;refine nxP 6 (fun K J=>?_)
 (go_simp;refine (M'.out _ z.1).mono ?_;rintro e w4 ⟨v4,rfl,x',S',Z'⟩;have l':KY G w4:=ab z.1 Z';have S0:=jD x';have O1:=jD S';obtain⟨A4,c4,rfl,-⟩:=id x';clear x' S')
 refine J.out _ _ (b' _ l') (fun z=>?_);clear J K;refine nxP 7 (fun K J=>?_)
 (go_simp;refine (Y0.out _ _ z.1 S0.out).mono ?_;rintro e w5 ⟨v5,rfl,q',O',Q0⟩;have D':KY G w5:=ab z.1 Q0;have T0:=jD q';have O0:=jD O';obtain⟨A5,c5,rfl,-⟩:=id q';clear q' O')
 refine J.out _ _ (b' _ D') (fun z=>?_);clear J K;refine nxP 14 (fun K J=>?_)
 (go_simp;refine (T'.out _ z.1).mono ?_;rintro e w6 ⟨v6,rfl,u',N',P'⟩;have k':KY G w6:=ab z.1 P';have K0:=jD u';have P1:=jD N';obtain⟨A6,c6,rfl,-⟩:=id u';clear u' N')
 refine J.out _ _ (b' _ k') (fun z=>?_);clear J K;refine nxP 15 (fun K J=>?_)
 (go_simp;refine (U0.out _ _ z.1 K0.out).mono ?_;rintro e w7 ⟨v7,rfl,r',J',C'⟩;have O:KY G w7:=ab z.1 C';have X0:=jD r';have P0:=jD J';obtain⟨A7,c7,rfl,-⟩:=id r';clear r' J')
 refine J.out _ _ (b' _ O) (fun z=>?_);clear J K;refine tkP [16] ?_;refine dD (fuel:=0) (L:=(true::true::true::true::true::true::true::true::true::true::true::true::true::true::true::true::true::true::[]).toArray) rfl kr kr kr kr kr (fun K J=>?_);have I:=ao O hz;have z0:=af I 0;have z1:=af I 1;have z2:=af I 2;simp only[LE,LC]at z0 z1 z2;have g0:=aq I 0;have g1:=aq I 1;have g2:=aq I 2;have Q1:=aD I;have HQ:=jD (du I (.slice A5 (unI s.us (bB a)).length c5) (.slice A7 (unI s.si (aS a)).length c7) (KW (-1)));clear I;go_simp;refine J.out _ _ ?_;clear J K;refine⟨by kernel_rfl,NoPanic.normal ?_⟩;rotate_left 1;go_wp2_with fail;have q0:=af HQ.out 0;have q1:=af HQ.out 1;have q2:=af HQ.out 2;exact Lc (v:=.agg #[.slice A5 (unI s.us (bB a)).length c5,.slice A7 (unI s.si (aS a)).length c7,KW (-1)]) (by simp[results,results295,go_sem,q0,q1,q2]) rfl (mZ (s:=⟨unI s.us (bB a),unI s.si (aS a),-1⟩) (ab D.out O) H0 V0 (T0.out.stays aL (ab P' C')) (X0.out) (fun g h=>by have h2:=O0.out g h;(try rw[MO]at h2);have:=l'.size;omega) (fun g h=>by have h2:=P0.out g h;(try rw[MO]at h2);have:=k'.size;omega) _ _ _)
end Go.Proofs.YtokconodddedhaaGreatDoor
