/- Part. -/
import Derived.OwnWalkIn
import Derived.LoopNIn
import Derived.Test.YtbjicljfjkdeeaaGreatDoorQ10
import Derived.Test.YtbjicljfjkdeeaaGreatDoorQ26
import Derived.RangeFuncCalls
set_option maxRecDepth 100000
set_option maxHeartbeats 16000000
set_option linter.unusedVariables false
set_option linter.unusedSimpArgs false
namespace Go.Proofs.YtbjicljfjkdeeaaGreatDoor
open Go.Proofs.Tryz Go.RowKit
section
open Go.RowKit Go.Lib
attribute [local go_sem] Oper.semAt_some
def Left (w:World) (B4 h:Nat) (c:Code) (pre:List (ByteArray × Int)) (W:World):Prop :=
 c=.ret/\∃p z e,pre=p++[(z,e)]/\(∀x∈p,x.2=0)/\e≠0/\Boxed W B4 9 (.string L6)/\Boxed W h 38 (Mk e)/\Mm w W
theorem Left.own {w:World} {B4 G B:Nat} {c:Code} {pre:List (ByteArray × Int)} {X Y:World} {row:Option Nat} (h4:B4<B) (h5:G<B) (hw:w.heap.size<=B) (h:Left w B4 G c pre X) (I:X.grownBy Y row)
  (hr:∀r,row=some r->B<=r/\∃o:Obj,X.heap[r]?=some o/\o.isCells=false):Left w B4 G c pre Y:=by
 obtain⟨hc,p,tx,e,h1,Z,h3,b4,O,J⟩:=h;refine⟨hc,p,tx,e,h1,Z,h3,b4.kept I (fun z=>?_),O.kept I (fun z=>?_),J.grown I J.size (fun k z=>?_)⟩
 ·have:=(hr B4 z.symm).1;omega
 ·have:=(hr G z.symm).1;omega
 ·have:=(hr k z).1;omega
end
section
open Go.RowKit Go.Lib
attribute [local go_sem] Oper.semAt_some
theorem BW {K:Act->World->Prop} {a:Act} {w:World} (h:∀W:World,W=w->K a W):K a w:=h w rfl
theorem bF {B:Nat} {W W':World} (h:Mm W W'):KeepsFrom B W W':=⟨h.size,fun k _ _ hk _=>(h.block k (Array.getElem?_eq_some_iff.1 hk).1).trans hk⟩
theorem ls {W W':World} {row:Option Nat} {b p:Nat} {cs:List Value} (h:Cells W b p cs) (G:W.grownBy W' row) (hr:∀r,row=some r->∃o:Obj,W.heap[r]?=some o/\o.isCells=false):Cells W' b p cs :=
 fun j u z=>cell_kept (h j u z) G hr
theorem bS {W W':World} {row:Option Nat} {B:Nat} {t:TypeId} {v:Value} (h:Boxed W B t v) (G:W.grownBy W' row) (hr:∀r,row=some r->∃o:Obj,W.heap[r]?=some o/\o.isCells=false):Boxed W' B t v :=
 h.kept G (fun e=>by obtain⟨o,z,I⟩:=hr B e.symm;rw[show W.heap[B]?=_ from h]at z;cases z;cases I)
theorem gS {n:Nat} {w X Y:World} {row:Option Nat} (h:Below n w X) (G:n<=X.heap.size) (z:X.grownBy Y row) (hr:∀r,row=some r->n<=r):Below n w Y:=h.grown z G (fun k e=>hr k e)
theorem gQ {f:Pt->Int}:∀{l:List Pt},(∀y∈l,f y=0)->dJ (l.map f)=0
 | [],_=>rfl
 | a::r,h=>by
  rw[MF,dJ,Mo (by rw[h a (Mz ..)];simp)];exact gQ fun y hy=>h y (MD _ hy)
theorem ib {f:Pt->Int}:∀{l:List Pt} {k:Nat} {x:Pt},l[k]?=some x->(∀y∈l.take k,f y=0)->f x≠0->dJ (l.map f)=f x
 | [],_,_,h,_,_=>by simp at h
 | a::r,0,x,h,_,h0=>by simp at h;subst h;rw[MF,dJ,Mp h0]
 | a::r,k+1,x,h,ha,h0=>by
  rw[MF,dJ,Mo (by rw[ha a (by rw[Oc];exact Mz ..)];simp)];exact ib (k:=k) (jQ h) (fun y hy=>ha y (by rw[Oc];exact MD _ hy)) h0
theorem rh (w:World) (o:Obj) (t:TypeId) (v:Value):Boxed ((w.alloc o).alloc (.cells #[v] t)) (w.heap.size+1) t v:=by
 have h:=Boxed.new (w.alloc o) t v;rw[Oo]at h;exact h
def Hl (w:World) (h:Nat) (f:Pt->Int) (z:List Pt) (k:Nat) (W:World):Prop:=Boxed W h 38 (Mk 0)/\(∀y∈z.take k,f y=0)/\Mm w W
def Ia (w:World) (z:Nat) (f:Pt->Int) (h:List Pt) (c:Code) (k:Nat) (W:World):Prop :=
 c=.ret/\∃x,h[k-1]?=some x/\(∀y∈h.take (k-1),f y=0)/\f x≠0/\Boxed W z 38 (Mk (f x))/\Mm w W
theorem sK {w:World} {I B:Nat} {f:Pt->Int} {J:List Pt} (hw:w.heap.size<=B):OwnFrom B (Hl w I f J) :=
 fun _ _ _ _ ⟨G,z,h⟩ hg hr=>⟨bS G hg (fun r e=>(hr r e).2),z,gS h h.size hg (fun r e=>Mx hw (hr r e).1)⟩
theorem si {w:World} {O B:Nat} {f:Pt->Int} {Z:List Pt} (hw:w.heap.size<=B) (c:Code):OwnFrom B (Ia w O f Z c) :=
 fun _ _ _ _ ⟨h0,x,I,z,J,G,h⟩ hg hr=>⟨h0,x,I,z,J,bS G hg (fun r e=>(hr r e).2),gS h h.size hg (fun r e=>Mx hw (hr r e).1)⟩
theorem lD {f:Pt->Int} {z:List Pt} {k:Nat} {x:Pt} (h:∀y∈z.take k,f y=0) (G:z[k]?=some x) (h0:f x=0):∀y∈z.take (k+1),f y=0:=fun y hy=>by
 rw[bK G,NC,NK]at hy;rcases hy with hy|rfl
 ·exact h y hy
 ·exact h0
def AxP (T:Array Value) (p b:Nat) (W0:Nat) (x:Pt) (a:Array Value) (h:Act) (W:World):Prop :=
 ∃B v vc,W0<=B/\a=#[ptV x v vc]/\h={ tmps:=(T.setIfInBounds p (ptV x v vc)).setIfInBounds b (.pointer (some ⟨B,0,none⟩)),defers:=[] }/\Cells W B 0 (aM x v vc)/\(∃A n c,v=.slice A n c)/\∃A n c,vc=.slice A n c
theorem ue (T:Array Value) (p b W0 B:Nat) (x:Pt) (a:Array Value) (z:Act):OwnFrom B (fun (_:Unit) W=>AxP T p b W0 x a z W) :=
 fun _ _ _ _ ⟨b,v,vc,h0,I,h,J,G⟩ hg hr=>⟨b,v,vc,h0,I,h,ls J hg (fun r e=>(hr r e).2),G⟩
theorem jU {F:Fence} {n:Nat} {P:Program} {c:Code} {Q:Exit->Act->World->Prop} {a:Act} {w:World} (h:∀a0,a0=a->c.wpIn F n P Q a0 w):c.wpIn F n P Q a w:=h a rfl
theorem pP {W0:World} {x:Pt} {a:Array Value} {W:World} (h:InP W0 x a W):∃A n c Ac G z,a=#[ptV x (.slice A n c) (.slice Ac G z)]:=by
 obtain⟨d,v,vc,rfl,⟨A,c,rfl,-⟩,⟨Ac,z,rfl,-⟩⟩:=h;exact⟨A,_,c,Ac,_,z,rfl⟩
theorem gD {n0 n1:Nat} {W W':World} (h:Mm W W') (G:n0<=W.heap.size):aE n0 n1 none W W':=cf h G (fun b z=>by cases z)
mutual
theorem my:∀(x:Pt) y,y∈aY x->ptB y<=ptB x
 | .mk o l a b c d e,y,h=>by
  rw[aY,MN]at h;rcases h with rfl|h
  ·exact Mt _
  ·have:=tQ l y h;rw[ur (.mk o l a b c d e)];show ptB y<=1+oM l+aF e;omega
theorem tQ:∀(l:List Pt) y,y∈cE l->ptB y<=oM l
 | [],y,h=>by rw[cE]at h;cases h
 | a::r,y,h=>by
  rw[cE,NC]at h;rw[oM];rcases h with h|h
  ·have:=my a y h;omega
  ·have:=tQ r y h;omega
end
mutual
theorem Bu:∀(x:Pt) y,y∈aY x->ptN y<=ptN x
 | .mk o l a b c d e,y,h=>by
  rw[aY,MN]at h;rcases h with rfl|h
  ·exact Mt _
  ·have:=sO l y h;rw[cX (.mk o l a b c d e)];show ptN y<=1+bI l;omega
theorem sO:∀(l:List Pt) y,y∈cE l->ptN y<=bI l
 | [],y,h=>by rw[cE]at h;cases h
 | a::r,y,h=>by
  rw[cE,NC]at h;rw[bI];rcases h with h|h
  ·have:=Bu a y h;omega
  ·have:=sO r y h;omega
end
theorem wR:∀l:List Pt,l.length<=bI l
 | []=>Mu _
 | a::r=>by rw[MG,bI];have:=wR r;have:=cX a;omega
theorem Hk (x:Pt):x.args.length<=ptN x:=by have:=wR x.args;have:=cX x;omega
theorem mg (x:Pt):aF x.cond<=ptB x:=by have:=ur x;omega
theorem qB (d:Nat) (x:Pt) (v vc:Value) (w:World) (hT:Shp w) (hx:aU d w v x.args) (R':aK d w vc x.cond.args) (hN:ptB x<=1048576) :
  Mn 120 #[ptV x v vc] w (Mk (eY x)):=by
 have R0:=jM x;have G':Hid (ptN x<=64->∀(y:Pt) (a:Array Value) (W:World),y∈aY x->InP w y a W->Mm w W->Calls prog 185 a W fun e w'=>e=.returned (Mk (ptE y))/\Mm W w'):=by
  refine jD fun j' y a W hy O hW=>?_
  obtain⟨d',u,uc,rfl,h1,h2⟩:=O;exact zd d' y u uc W (hT.stays hW) (by have:=Hk y;have:=Bu x y hy;omega) (h1.stays (aB d') hW) (h2.stays (ai d') hW) (by have:=mg y;have:=my x y hy;omega)
 have HX:=jD hx;have F':=jD R';obtain⟨A,c,rfl,-⟩:=hx;obtain⟨Ac,cc,rfl,-⟩:=R';obtain⟨n,hn⟩:=jF x.args.length;obtain⟨nc,u'⟩:=jF x.cond.args.length;rw[<-hn,<-u'];rw[<-hn]at HX;rw[<-u']at F';have x':=jD (fun (W:World) (hW:Mm w W)=>CR d x (.slice A n c) Ac nc cc W (HX.out.stays (aB d) hW) om);have E':=jD (fun (W:World)=>iK x A n c Ac nc cc W);have K0:=jD (fun (W:World) (B:Nat) (hW:Mm w W) (hC:Cells W B 0 (aM x (.slice A n c) (.slice Ac nc cc)))=>iX w W W.heap.size none (fun b h=>by cases h) d x _ _ B HX.out F'.out hW (Mt _) (lE W) hC);have X0:Hid (∀y v vc,(aM y v vc).toArray=#[Mk y.op,v,Mk y.ty,Mk y.vr,Mk y.sc,Mk y.sp,Mk y.cond.op,vc,Mk y.cond.vr,Mk y.cond.fl,Mk y.cond.kd,Mk y.cond.val.kind,Mk y.cond.val.num,.string y.cond.val.text]):=jD (fun _ _ _=>rfl);obtain⟨N,i'⟩:=jF (ptN x);obtain⟨D,l'⟩:=jF (ptD x);obtain⟨R,hR⟩:=jF (eY x);rw[<-i',<-l']at x';rw[<-hR];have HR:Hid (R=if 64<N then 5 else if 12<D then 12 else dJ ((aY x).map ptE)):=jD (by rw[hR,i',l'];rfl);have Y':=jD i';clear hR l' i' hn u' R0 hT hN;unfold ptV at x' E' ⊢;refine (OQ (n:=5)).1 ?_;refine callsIn_of_wp_marks func120 rfl trivial ?_ rfl;simp only[ntmps120,N5,MG,Og,Nat.reduceAdd,Nat.reduceSub,O1,O2,O3,O4,OP,Oi];gi_wp2_with fail;refine⟨trivial,callsIn_wide.2 ?_⟩;refine aI fun W9 I=>?_
 have Q0:W9.heap.size=w.heap.size+2:=by rw[I];simp
 have q':Mm w W9:=gb I;have N':Cells W9 w.heap.size 0 (aM x (.slice A n c) (.slice Ac nc cc)):=cU (jG I) (jG I) (jG I) (jG I) (jG I) (jG I) (jG I) (jG I) (jG I) (jG I) (jG I) (jG I) (jG I) (jG I);have y2:Boxed W9 (w.heap.size+1) 38 (Mk 0):=by rw[I];exact rh _ _ _ _
 clear I;refine (x'.out _ q').mono ?_;rintro e W1 ⟨rfl,h'⟩;have V':Cells W1 w.heap.size 0 (aM x (.slice A n c) (.slice Ac nc cc)):=fun j u hj=>aa h' (N' j u hj)
 have z2:Boxed W1 (w.heap.size+1) 38 (Mk 0):=(h'.block _ om).trans y2;have Y0:w.heap.size+2<=W1.heap.size:=by have:=h'.size;omega
 have y':=jD (ab q' h');clear q' h' N' y2 Q0;have c2:=z2.cell;have f2:=z2.frozen
 by_cases j':64<N
 ·have T':(64:Int)<(N:Int):=by omega
  obtain rfl:R=5:=by rw[HR.out,Mp j']
  clear HR;gi_wp2_with fail;refine⟨Mk 5,?_,rfl,aq y'.out om _⟩;have hc:=(z2.set (Mk 5)).cell;simp[results,Tryz.f120,go_sem,hc]
 have T':¬(64:Int)<(N:Int):=by omega
 by_cases S':12<D
 ·have P':(12:Int)<(D:Int):=by omega
  obtain rfl:R=12:=by rw[HR.out,Mo j',Mp S']
  clear HR;gi_wp2_with fail;refine⟨Mk 12,?_,rfl,aq y'.out om _⟩;have hc:=(z2.set (Mk 12)).cell;simp[results,Tryz.f120,go_sem,hc]
 have P':¬(12:Int)<(D:Int):=by omega
 have I':Hid (R=dJ ((aY x).map ptE)):=jD (by rw[HR.out,Mo j',Mo S']);have H':=jD (G'.out (by have:=Y'.out;omega));clear HR G';obtain⟨p0,p1,p2,p3,p4,p5,p6,p7,p8,p9,k',B',z',m'⟩:=dU V';clear V';gi_wp2_with fail;refine⟨trivial,callsIn_wide.2 ?_⟩;refine (E'.out _).mono ?_;rintro e W2 ⟨rfl,e2⟩;have Z':Cells W2 W1.heap.size 0 (aM x (.slice A n c) (.slice Ac nc cc)):=by rw[e2];exact iO
 have b2:Boxed W2 (w.heap.size+1) 38 (Mk 0):=by rw[e2];exact z2.alloc _
 have f':Hid (Mm w W2):=jD (by rw[e2];exact bt y'.out _);have U0:W2.heap.size=W1.heap.size+1:=by rw[e2];simp
 clear e2 p0 p1 p2 p3 p4 p5 p6 p7 p8 p9 k' B' z' m' z2 c2 f2;gi_wp2_with fail;refine jU fun a0 e0=>?_
 refine pU (n:=5) (gf:=186) (lb:=#[.pointer (some ⟨W1.heap.size,0,none⟩)]) (by rw[e0];rfl) (enters_of func186 kr rfl) (K0.out W2 W1.heap.size f'.out Z')
  aR (kO f'.out.size (fun b h=>by cases h)) (Mr _ _) (fun x v=>vd w _ x v) (fun x v W h=>qp h)
  (Hl w (w.heap.size+1) ptE (aY x)) (Ia w (w.heap.size+1) ptE (aY x)) (sK f'.out.size) (si f'.out.size) ⟨b2,by simp,f'.out⟩
  (AxP a0.tmps 18 5 w.heap.size) (fun x v a'=>ue _ _ _ _ _ x v a') ?assign ?body ?done ?stop
 case assign =>
  intro m l k y v W K hl hy hi O hK;obtain⟨A',n',c',O',J',U',rfl⟩:=pP O;have Z:w.heap.size<=W.heap.size:=hi.2.2.size;have HI:=jD hi;have H0:=jD O;have HK:=jD hK;have HY:=jD hy;clear hi O hK hy;rw[e0];unfold ptV;gi_wp2;refine BW fun W' e'=>?_
  have G:Mm W W':=gb e';have hc:Cells W' W.heap.size 0 (aM y (.slice A' n' c') (.slice O' J' U')):=cU (jG e') (jG e') (jG e') (jG e') (jG e') (jG e') (jG e') (jG e') (jG e') (jG e') (jG e') (jG e') (jG e') (jG e');clear e';refine HK.out _ _ (bF G) (gD G Z) ⟨(HI.out.1.lt |> fun h=>(G.block _ h).trans HI.out.1),HI.out.2.1,HI.out.2.2.trans (G.mono Z)⟩ H0.out ⟨W.heap.size,_,_,Z,rfl,by rw[e0];rfl,hc,⟨_,_,_,rfl⟩,⟨_,_,_,rfl⟩⟩
 case body =>
  rintro m l k y v a' W hl-hy hi O ⟨B,u,uc,hB,rfl,rfl,hc,⟨A',n',c',rfl⟩,⟨O',J',U',rfl⟩⟩;have G:=hi.2.2;have Z:w.heap.size<=W.heap.size:=G.size;have X':w.heap.size+1<W.heap.size:=hi.1.lt;have s':=jD (fun (W':World) (h:Mm W W')=>H'.out y _ W' (MI hy) O (ab G h));unfold ptV at s';have HY:=jD hy;have HI:=jD hi;obtain⟨p0,p1,p2,p3,p4,p5,p6,p7,p8,p9,k',B',z',m'⟩:=dU hc;have V0:B<W.heap.size:=Ms W ⟨B,_,none⟩ p0;obtain⟨z,hz⟩:=jF (ptE y);rw[<-hz]at s';have HZ:=jD hz;clear O hc hy hi hz;rw[e0];unfold ptV;simp only[NA,MZ,MY];gi_wp2_with fail;refine⟨trivial,fun h=>by simp[Fence.wide]at h,CallsIn.inRound _ (callsIn_wide.2 ?_)⟩;refine (s'.out _ (Mr _ _)).mono ?_;rintro e W3 ⟨rfl,t'⟩;have b3:Boxed W3 (w.heap.size+1) 38 (Mk 0):=(t'.block _ X').trans HI.out.1;have g':=jD t';have c3:=b3.cell;have f3:=b3.frozen;clear p0 p1 p2 p3 p4 p5 p6 p7 p8 p9 k' B' z' m' t'
  by_cases p':z=0
  ·subst p';gi_wp2_with fail;exact⟨bF g'.out,gD g'.out Z,b3,lD HI.out.2.1 HY.out HZ.out.symm,HI.out.2.2.trans (g'.out.mono Z)⟩
  ·have S0:(z==0)=false:=jQ p';gi_wp2_with fail;refine⟨(bF g'.out).trans ((KeepsOthers.setCell _ _ _).from _),rfl,y,jQ HY.out,jQ HI.out.2.1,by rw[<-HZ.out];exact p',?_,?_⟩
   ·rw[<-HZ.out];exact b3.set _
   ·exact aq (HI.out.2.2.trans (g'.out.mono Z)) om _
 case done =>
  rintro D W hD ⟨b3,J,G⟩ hK;have C':R=0:=by rw[I'.out];exact gQ (jQ J)
  have D':=jD G;have HK:=jD hK;have c3:=b3.cell;have f3:=b3.frozen;subst C';clear J G hK;rw[e0];gi_wp2_with fail;have r':=(KeepsOthers.setCell W ⟨w.heap.size+1,0,none⟩ (Mk 0)).same D _ HK.out rfl;refine⟨by simp,.inl ⟨_,_,rfl,run_takeDeferred r',?_⟩⟩;have q:=b3.set (Mk 0);have hd:=(q.kept (grownBy_putObj' _ D (.deferred none)) (by intro h;cases h;have h2:(World.setCell _ _ _).heap[w.heap.size+1]?=_:=q;rw[r']at h2;cases h2)).cell;refine⟨Mk 0,?_,rfl,(aq D'.out om _).trans (belowK_b (w:=w) (Mt _) _ D _ _ (by have:=f'.out.size;omega) r' rfl rfl)⟩;simp[results,Tryz.f120,go_sem,hd]
 case stop =>
  rintro D c k W hD hk ⟨rfl,y,hy,J,P0,b3,G⟩ hK;have C':R=ptE y:=by rw[I'.out];exact ib (jQ hy) (jQ J) P0
  have D':=jD G;have HK:=jD hK;subst C';clear J G hK hy;rw[e0];gi_wp2;refine⟨by simp,.inl ⟨_,_,rfl,run_takeDeferred HK.out,?_⟩⟩;have hd:=(b3.kept (grownBy_putObj' W D (.deferred none)) (by intro h;cases h;have h2:W.heap[w.heap.size+1]?=_:=b3;rw[HK.out]at h2;cases h2)).cell;refine⟨Mk (ptE y),?_,rfl,D'.out.trans (belowK_b (w:=w) (Mt _) _ D _ _ (by have:=f'.out.size;omega) HK.out rfl rfl)⟩;simp[results,Tryz.f120,go_sem,hd]
end
section
open Go.RowKit Go.Lib
attribute [local go_sem] Oper.semAt_some
def kw (y:Pt):Int:=if 8<=y.op then 1 else 0
def ii (x:Pt):Int:=if eY x≠0 then eY x else dJ ((aY x).map kw)
theorem ov:∀l:List Pt,dJ (l.map kw)=if l.any (fun y=>decide (8<=y.op)) then 1 else 0
 | []=>rfl
 | a::r=>by
  rw[MF,dJ,ov r,List.any_cons];unfold kw
  by_cases h:8<=a.op<;>simp[h]
theorem DW (x:Pt):ii x=if eY x≠0 then eY x else if (aY x).any (fun y=>decide (8<=y.op)) then 1 else 0:=by unfold ii;rw[ov]
theorem CU (d:Nat) (x:Pt) (v vc:Value) (w:World) (hT:Shp w) (hx:aU d w v x.args) (q':aK d w vc x.cond.args) (hN:ptB x<=1048576) :
  Mn 68 #[ptV x v vc] w (Mk (ii x)):=by
 have d':=jD (fun (W:World) (hW:Mm w W)=>qB d x v vc W (hT.stays hW) (hx.stays (aB d) hW) (q'.stays (ai d) hW) hN);have HX:=jD hx;have z':=jD q';obtain⟨A,c,rfl,-⟩:=hx;obtain⟨Ac,cc,rfl,-⟩:=q';obtain⟨n,hn⟩:=jF x.args.length;obtain⟨nc,j'⟩:=jF x.cond.args.length;rw[<-hn,<-j'];rw[<-hn]at HX;rw[<-j']at z';rw[<-hn,<-j']at d';have x':=jD (fun (W:World) (hW:Mm w W)=>d'.out W hW);clear d';have y':=jD (fun (W:World)=>iK x A n c Ac nc cc W);have N':=jD (fun (W:World) (B:Nat) (hW:Mm w W) (hC:Cells W B 0 (aM x (.slice A n c) (.slice Ac nc cc)))=>iX w W W.heap.size none (fun b h=>by cases h) d x _ _ B HX.out z'.out hW (Mt _) (lE W) hC);have V':Hid (∀y v vc,(aM y v vc).toArray=#[Mk y.op,v,Mk y.ty,Mk y.vr,Mk y.sc,Mk y.sp,Mk y.cond.op,vc,Mk y.cond.vr,Mk y.cond.fl,Mk y.cond.kd,Mk y.cond.val.kind,Mk y.cond.val.num,.string y.cond.val.text]):=jD (fun _ _ _=>rfl);obtain⟨z,hz⟩:=jF (eY x);obtain⟨R,hR⟩:=jF (ii x);rw[<-hz]at x';rw[<-hR];have HR:Hid (R=if z≠0 then z else dJ ((aY x).map kw)):=jD (by rw[hR,hz];rfl);clear hR hz hn j' hT hN;unfold ptV at x' y' ⊢;refine (OQ (n:=5)).1 ?_;refine callsIn_of_wp_marks func68 rfl trivial ?_ rfl;simp only[ntmps68,N5,MG,Og,Nat.reduceAdd,Nat.reduceSub,O1,O2,O3,O4,OP,Oi];gi_wp2_with fail;refine⟨trivial,callsIn_wide.2 ?_⟩;refine aI fun W9 I=>?_
 have P':W9.heap.size=w.heap.size+2:=by rw[I];simp
 have m':Mm w W9:=gb I;have D':Cells W9 w.heap.size 0 (aM x (.slice A n c) (.slice Ac nc cc)):=cU (jG I) (jG I) (jG I) (jG I) (jG I) (jG I) (jG I) (jG I) (jG I) (jG I) (jG I) (jG I) (jG I) (jG I);have y2:Boxed W9 (w.heap.size+1) 38 (Mk 0):=by rw[I];exact rh _ _ _ _
 clear I;refine (x'.out _ m').mono ?_;rintro e W1 ⟨rfl,g'⟩;have H':Cells W1 w.heap.size 0 (aM x (.slice A n c) (.slice Ac nc cc)):=fun j u hj=>aa g' (D' j u hj)
 have z2:Boxed W1 (w.heap.size+1) 38 (Mk 0):=(g'.block _ om).trans y2;have X':w.heap.size+2<=W1.heap.size:=by have:=g'.size;omega
 have F':=jD (ab m' g');clear m' g' D' y2 P';have c2:=z2.cell;have f2:=z2.frozen
 by_cases i':z=0
 case neg =>
  have R':(z==0)=false:=jQ i';obtain rfl:R=z:=by rw[HR.out,Mp i']
  clear HR;gi_wp2_with fail;refine⟨Mk R,?_,rfl,aq F'.out om _⟩;have hc:=(z2.set (Mk R)).cell;simp[results,Tryz.f68,go_sem,hc]
 have B':Hid (R=dJ ((aY x).map kw)):=jD (by rw[HR.out,Mo (jQ i')]);subst i';clear HR;obtain⟨p0,p1,p2,p3,p4,p5,p6,p7,p8,p9,k',s',r',l'⟩:=dU H';clear H';gi_wp2_with fail;refine⟨trivial,callsIn_wide.2 ?_⟩;refine (y'.out _).mono ?_;rintro e W2 ⟨rfl,e2⟩;have I':Cells W2 W1.heap.size 0 (aM x (.slice A n c) (.slice Ac nc cc)):=by rw[e2];exact iO
 have b2:Boxed W2 (w.heap.size+1) 38 (Mk 0):=by rw[e2];exact z2.alloc _
 have O:Hid (Mm w W2):=jD (by rw[e2];exact bt F'.out _);have S':W2.heap.size=W1.heap.size+1:=by rw[e2];simp
 clear e2 p0 p1 p2 p3 p4 p5 p6 p7 p8 p9 k' s' r' l' z2 c2 f2;gi_wp2_with fail;refine jU fun a0 e0=>?_
 refine pU (n:=5) (gf:=186) (lb:=#[.pointer (some ⟨W1.heap.size,0,none⟩)]) (by rw[e0];rfl) (enters_of func186 kr rfl) (N'.out W2 W1.heap.size O.out I')
  aR (kO O.out.size (fun b h=>by cases h)) (Mr _ _) (fun x v=>vd w _ x v) (fun x v W h=>qp h)
  (Hl w (w.heap.size+1) kw (aY x)) (Ia w (w.heap.size+1) kw (aY x)) (sK O.out.size) (si O.out.size) ⟨b2,by simp,O.out⟩
  (AxP a0.tmps 12 4 w.heap.size) (fun x v a'=>ue _ _ _ _ _ x v a') ?assign ?body ?done ?stop
 case assign =>
  intro m l k y v W K hl hy hi f' hK;obtain⟨A',n',c',E',C',G',rfl⟩:=pP f';have h':w.heap.size<=W.heap.size:=hi.2.2.size;have Z:=jD hi;have J':=jD f';have HK:=jD hK;have HY:=jD hy;clear hi f' hK hy;rw[e0];unfold ptV;gi_wp2;refine BW fun W' e'=>?_
  have G:Mm W W':=gb e';have hc:Cells W' W.heap.size 0 (aM y (.slice A' n' c') (.slice E' C' G')):=cU (jG e') (jG e') (jG e') (jG e') (jG e') (jG e') (jG e') (jG e') (jG e') (jG e') (jG e') (jG e') (jG e') (jG e');clear e';refine HK.out _ _ (bF G) (gD G h') ⟨(Z.out.1.lt |> fun h=>(G.block _ h).trans Z.out.1),Z.out.2.1,Z.out.2.2.trans (G.mono h')⟩ J'.out ⟨W.heap.size,_,_,h',rfl,by rw[e0];rfl,hc,⟨_,_,_,rfl⟩,⟨_,_,_,rfl⟩⟩
 case body =>
  rintro m l k y v a' W hl-hy hi f' ⟨B,u,uc,hB,rfl,rfl,hc,⟨A',n',c',rfl⟩,⟨E',C',G',rfl⟩⟩;have G:=hi.2.2;have h':w.heap.size<=W.heap.size:=G.size;have U':w.heap.size+1<W.heap.size:=hi.1.lt;have HY:=jD hy;have Z:=jD hi;obtain⟨p0,p1,p2,p3,p4,p5,p6,p7,p8,p9,k',s',r',l'⟩:=dU hc;have T':B<W.heap.size:=Ms W ⟨B,_,none⟩ p0;have c3:=Z.out.1.cell;have f3:=Z.out.1.frozen;clear f' hc hy hi;rw[e0];unfold ptV;simp only[NA,MZ,MY];clear p1 p2 p3 p4 p5 p6 p7 p8 p9 k' s' r' l'
  by_cases h8:8<=y.op
  ·have hm:kw y=1:=Mp h8;gi_wp2_with fail;refine⟨(KeepsOthers.setCell _ _ _).from _,rfl,y,jQ HY.out,jQ Z.out.2.1,by rw[hm];decide,?_,?_⟩
   ·rw[hm];exact Z.out.1.set _
   ·exact aq Z.out.2.2 om _
  ·have hm:kw y=0:=Mo h8;gi_wp2_with fail;exact⟨KeepsFrom.refl _ _,eO _ _ _ _,Z.out.1,lD Z.out.2.1 HY.out hm,Z.out.2.2⟩
 case done =>
  rintro D W hD ⟨b3,J,G⟩ hK;have t':R=0:=by rw[B'.out];exact gQ (jQ J)
  have u':=jD G;have HK:=jD hK;have c3:=b3.cell;have f3:=b3.frozen;subst t';clear J G hK;rw[e0];gi_wp2_with fail;have p':=(KeepsOthers.setCell W ⟨w.heap.size+1,0,none⟩ (Mk 0)).same D _ HK.out rfl;refine⟨by simp,.inl ⟨_,_,rfl,run_takeDeferred p',?_⟩⟩;have q:=b3.set (Mk 0);have hd:=(q.kept (grownBy_putObj' _ D (.deferred none)) (by intro h;cases h;have h2:(World.setCell _ _ _).heap[w.heap.size+1]?=_:=q;rw[p']at h2;cases h2)).cell;refine⟨Mk 0,?_,rfl,(aq u'.out om _).trans (belowK_b (w:=w) (Mt _) _ D _ _ (by have:=O.out.size;omega) p' rfl rfl)⟩;simp[results,Tryz.f68,go_sem,hd]
 case stop =>
  rintro D c k W hD hk ⟨rfl,y,hy,J,O',b3,G⟩ hK;have t':R=kw y:=by rw[B'.out];exact ib (jQ hy) (jQ J) O'
  have u':=jD G;have HK:=jD hK;subst t';clear J G hK hy;rw[e0];gi_wp2;refine⟨by simp,.inl ⟨_,_,rfl,run_takeDeferred HK.out,?_⟩⟩;have hd:=(b3.kept (grownBy_putObj' W D (.deferred none)) (by intro h;cases h;have h2:W.heap[w.heap.size+1]?=_:=b3;rw[HK.out]at h2;cases h2)).cell;refine⟨Mk (kw y),?_,rfl,u'.out.trans (belowK_b (w:=w) (Mt _) _ D _ _ (by have:=O.out.size;omega) HK.out rfl rfl)⟩;simp[results,Tryz.f68,go_sem,hd]
end
section
open Go.RowKit Go.Lib
attribute [local go_sem] Oper.semAt_some
abbrev Cn:=Int × Int × Bool
def bO (st:Cn) (y:Pt):Cn:=(if cD y.op then st.1+1 else st.1,if ft y.op then st.2.1+1 else st.2.1,(if cD y.op then st.2.2&&decide (y.vr=st.1) else st.2.2)&&(!ft y.op || decide (y.sc=st.2.1)))
def jI (l:List Pt):Cn:=l.foldl bO (0,0,true)
theorem pC:∀(l:List Pt) (v s:Int) (o:Bool),(l.foldl bO (v,s,o)).2.2=(o&&fg v s l)
 | [],v,s,o=>by simp[fg]
 | y::r,v,s,o=>by
  rw[N4];show (r.foldl bO (_,_,_)).2.2=_;rw[pC r,fg]
  cases z:cD y.op<;>cases h:ft y.op<;>simp[Bool.and_assoc]
theorem JI (l:List Pt):(jI l).2.2=fg 0 0 l:=by unfold jI;rw[pC];simp
theorem Ee {l:List Pt} {k:Nat} {y:Pt} (h:l[k]?=some y):jI (l.take (k+1))=bO (jI (l.take k)) y:=by
 unfold jI;rw[bK h,Pc];rfl
theorem By:∀(l:List Pt) (v s:Int) (o:Bool),v<=(l.foldl bO (v,s,o)).1/\(l.foldl bO (v,s,o)).1<=v+l.length/\s<=(l.foldl bO (v,s,o)).2.1/\(l.foldl bO (v,s,o)).2.1<=s+l.length
 | [],v,s,o=>by simp
 | y::r,v,s,o=>by
  rw[N4];have h:=By r (bO (v,s,o) y).1 (bO (v,s,o) y).2.1 (bO (v,s,o) y).2.2;have G:(bO (v,s,o) y).1=v\/(bO (v,s,o) y).1=v+1:=by simp only[bO];split<;>simp
  have I:(bO (v,s,o) y).2.1=s\/(bO (v,s,o) y).2.1=s+1:=by simp only[bO];split<;>simp
  have z:((bO (v,s,o) y).1,(bO (v,s,o) y).2.1,(bO (v,s,o) y).2.2)=bO (v,s,o) y:=rfl;rw[z]at h;rw[MG];omega
theorem Jn (l:List Pt) (k:Nat):0<=(jI (l.take k)).1/\(jI (l.take k)).1<=l.length/\0<=(jI (l.take k)).2.1/\(jI (l.take k)).2.1<=l.length:=by
 have h:=By (l.take k) 0 0 true;have z:(l.take k).length<=l.length:=by rw[Nx];omega
 unfold jI;omega
theorem JN {w:World} (h:Shp w) {op:Int} (h0:0<=op) (J:op<=10):∃(k G z:Nat),op=(k:Int)/\k<11/\True/\True /\
  Cells w 0 (k*6) [Mk (G:Int),Mk (z:Int),.bool (cD op),.bool (mx op),.bool (ft op),.bool (fF op)]:=by
 obtain⟨k,G,z,e,I,-,-,O⟩:=Hp h (x:=.mk op [] 0 0 0 0 nK) h0 J (Mu 64);exact⟨k,G,z,e,I,trivial,trivial,O⟩
def Bx3 (W:World) (B:Nat) (st:Cn):Prop:=Boxed W B 3 (Mk st.1)/\Boxed W (B+1) 3 (Mk st.2.1)/\Boxed W (B+1+1) 4 (.bool st.2.2)
def Rd (w:World) (n1 B:Nat) (W W':World) (st:Cn):Prop:=KeepsFrom n1 W W'/\aE w.heap.size n1 none W W'/\Bx3 W' B st/\Mm w W'
section
variable {w W W' : World} {n1 B : Nat} {st : Cn}
theorem Bx3.set0 (h:Bx3 W B st) (v:Int):Bx3 (W.setCell ⟨B,0,none⟩ (.int .i64 v)) B (v,st.2.1,st.2.2) :=
 ⟨h.1.set _,h.2.1.kept (grownBy_setCell' _ _ _) jS,h.2.2.kept (grownBy_setCell' _ _ _) (by simp;omega)⟩
theorem Bx3.set1 (h:Bx3 W B st) (v:Int):Bx3 (W.setCell ⟨B+1,0,none⟩ (.int .i64 v)) B (st.1,v,st.2.2) :=
 ⟨h.1.kept (grownBy_setCell' _ _ _) jS,h.2.1.set _,h.2.2.kept (grownBy_setCell' _ _ _) jS⟩
theorem Bx3.set2 (h:Bx3 W B st) (v:Bool):Bx3 (W.setCell ⟨B+1+1,0,none⟩ (.bool v)) B (st.1,st.2.1,v) :=
 ⟨h.1.kept (grownBy_setCell' _ _ _) (by simp;omega),h.2.1.kept (grownBy_setCell' _ _ _) jS,h.2.2.set _⟩
theorem Bx3.alloc (h:Bx3 W B st) (o:Obj):Bx3 (W.alloc o) B st:=⟨h.1.alloc o,h.2.1.alloc o,h.2.2.alloc o⟩
theorem Rd.al (h:Rd w n1 B W W' st) (z:w.heap.size<=W'.heap.size) (o:Obj):Rd w n1 B W (W'.alloc o) st :=
 ⟨h.1.trans (bF (af W' o)),aR h.2.1 (gD (af W' o) z),h.2.2.1.alloc o,bt h.2.2.2 o⟩
theorem Rd.setC (h:Rd w n1 B W W' st) {b:Nat} {v:Value} {z:Cn} (I:Bx3 (W'.setCell ⟨b,0,none⟩ v) B z) (h0:w.heap.size<=b) (G:b<n1):Rd w n1 B W (W'.setCell ⟨b,0,none⟩ v) z :=
 ⟨h.1.trans ((KeepsOthers.setCell _ _ _).from _),aR h.2.1 (sD W' h0 G jS v),I,aq h.2.2.2 h0 _⟩
theorem Rd.s0 (h:Rd w n1 B W W' st) (h0:w.heap.size<=B) (z:B<n1) (v:Int):Rd w n1 B W (W'.setCell ⟨B,0,none⟩ (.int .i64 v)) (v,st.2.1,st.2.2):=h.setC (h.2.2.1.set0 v) h0 z
theorem Rd.s1 (h:Rd w n1 B W W' st) (h0:w.heap.size<=B+1) (z:B+1<n1) (v:Int):Rd w n1 B W (W'.setCell ⟨B+1,0,none⟩ (.int .i64 v)) (st.1,v,st.2.2):=h.setC (h.2.2.1.set1 v) h0 z
theorem Rd.s2 (h:Rd w n1 B W W' st) (h0:w.heap.size<=B+1+1) (z:B+1+1<n1) (v:Bool):Rd w n1 B W (W'.setCell ⟨B+1+1,0,none⟩ (.bool v)) (st.1,st.2.1,v):=h.setC (h.2.2.1.set2 v) h0 z
theorem Fp (h:Bx3 W B st) {row:Option Nat} (z:W.grownBy W' row) (hr:∀r,row=some r->∃o:Obj,W.heap[r]?=some o/\o.isCells=false):Bx3 W' B st:=⟨bS h.1 z hr,bS h.2.1 z hr,bS h.2.2 z hr⟩
end
def K6 (w:World) (h:List Pt) (k:Nat) (W:World):Prop:=Bx3 W (w.heap.size+1) (jI (h.take k))/\Mm w W
theorem bZ {w W W':World} {n1 k:Nat} {st:Cn} {z:List Pt} (h:Rd w n1 (w.heap.size+1) W W' st) (e:st=jI (z.take k)):KeepsFrom n1 W W'/\aE w.heap.size n1 none W W'/\K6 w z k W':=by
 subst e;exact⟨h.1,h.2.1,h.2.2.1,h.2.2.2⟩
theorem GD {w:World} {B:Nat} {G:List Pt} (hw:w.heap.size<=B):OwnFrom B (K6 w G) :=
 fun _ _ _ _ ⟨z,h⟩ hg hr=>⟨Fp z hg (fun r e=>(hr r e).2),gS h h.size hg (fun r e=>Mx hw (hr r e).1)⟩
def cnV (st:Cn):Value:=.tuple #[Mk st.1,Mk st.2.1,.bool st.2.2]
theorem J4 (w:World) (o:Obj):Bx3 ((((w.alloc o).alloc (.cells #[.int .i64 0] 3)).alloc (.cells #[.int .i64 0] 3)).alloc (.cells #[.bool true] 4)) (w.heap.size+1) (0,0,true):=by
 have z:=Boxed.new (w.alloc o) 3 (Mk 0);have h:=Boxed.new ((w.alloc o).alloc (.cells #[.int .i64 0] 3)) 3 (Mk 0);have G:=Boxed.new (((w.alloc o).alloc (.cells #[.int .i64 0] 3)).alloc (.cells #[.int .i64 0] 3)) 4 (.bool true);simp only[Oo]at z h G;exact⟨(z.alloc _).alloc _,h.alloc _,G⟩
theorem ubT {p:Prop} (h:p:=by
  cases sb with
  | false =>
   gi_wp2_with fail;refine bZ (((O.out.s2 om z false).s0 om om (vv+1)).al (by simpa only [NQ] using G) _) ?_;rw[Z.out];simp[bO,I,J,hv]
  | true =>
   by_cases hs:y.sc=ss
   ·have bs:(y.sc==ss)=true:=jQ hs;gi_wp2_with fail;refine bZ (((((O.out.s2 om z false).s0 om om (vv+1)).s2 om z false).s1 om om (ss+1)).al (by simpa only [NQ] using G) _) ?_;rw[Z.out];simp[bO,I,J,hv,hs]
   ·have bs:(y.sc==ss)=false:=jQ hs;gi_wp2_with fail;refine bZ (((((O.out.s2 om z false).s0 om om (vv+1)).s2 om z false).s1 om om (ss+1)).al (by simpa only [NQ] using G) _) ?_;rw[Z.out];simp[bO,I,J,hv,hs]):p:=h
theorem ubU {p:Prop} (h:p:=by
  gi_wp2_with fail;refine bZ (((O.out.s2 om z false).s1 om om (ss+1)).al (by simpa only [NQ] using G) _) ?_;rw[Z.out];simp[bO,I,J,hs]):p:=h
theorem DT (d:Nat) (x:Pt) (v vc:Value) (w:World) (hT:Shp w) (hx:aU d w v x.args) (z':aK d w vc x.cond.args) (hN:ptB x<=1048576) (D':∀y∈aY x,0<=y.op/\y.op<=10) :
  Mn 69 #[ptV x v vc] w (cnV (jI (aY x))):=by
 have HT:=jD (fun (W:World) (hW:Mm w W)=>hT.stays hW);have H':=jD D';have O':Hid ((aY x).length<=1048576):=jD (by rw[fS];have:=jM x;omega);clear D';have HX:=jD hx;have t':=jD z';obtain⟨A,c,rfl,-⟩:=hx;obtain⟨Ac,cc,rfl,-⟩:=z';obtain⟨n,hn⟩:=jF x.args.length;obtain⟨nc,m'⟩:=jF x.cond.args.length;rw[<-hn,<-m'];rw[<-hn]at HX;rw[<-m']at t';have s':=jD (fun (W:World)=>iK x A n c Ac nc cc W);have R':=jD (fun (W:World) (B:Nat) (hW:Mm w W) (hC:Cells W B 0 (aM x (.slice A n c) (.slice Ac nc cc)))=>iX w W W.heap.size none (fun b h=>by cases h) d x _ _ B HX.out t'.out hW (Mt _) (lE W) hC);have A1:Hid (∀y v vc,(aM y v vc).toArray=#[Mk y.op,v,Mk y.ty,Mk y.vr,Mk y.sc,Mk y.sp,Mk y.cond.op,vc,Mk y.cond.vr,Mk y.cond.fl,Mk y.cond.kd,Mk y.cond.val.kind,Mk y.cond.val.num,.string y.cond.val.text]):=jD (fun _ _ _=>rfl);clear hn m' hT hN;unfold ptV at s' ⊢;refine (OQ (n:=5)).1 ?_;refine callsIn_of_wp_marks func69 rfl trivial ?_ rfl;simp only[ntmps69,N5,MG,Og,Nat.reduceAdd,Nat.reduceSub,O1,O2,O3,O4,OP,Oi];gi_wp2_with fail;refine⟨trivial,callsIn_wide.2 ?_⟩;refine aI fun W1 e1=>?_
 have B':W1.heap.size=w.heap.size+4:=by rw[e1];simp
 have r':Mm w W1:=gb e1;have y':Bx3 W1 (w.heap.size+1) (0,0,true):=by rw[e1];exact J4 _ _
 clear e1;refine (s'.out _).mono ?_;rintro e W2 ⟨rfl,e2⟩;have J':Cells W2 W1.heap.size 0 (aM x (.slice A n c) (.slice Ac nc cc)):=by rw[e2];exact iO
 have b2:Bx3 W2 (w.heap.size+1) (0,0,true):=by rw[e2];exact y'.alloc _
 have i':Hid (Mm w W2):=jD (by rw[e2];exact bt r' _);have N':Hid (W2.heap.size=w.heap.size+5):=jD (by rw[e2];simp[B']);clear e2 y' r' B';gi_wp2_with fail;refine jU fun a0 e0=>?_
 refine pU (n:=5) (gf:=186) (lb:=#[.pointer (some ⟨W1.heap.size,0,none⟩)]) (by rw[e0];rfl) (enters_of func186 kr rfl) (R'.out W2 W1.heap.size i'.out J')
  aR (kO i'.out.size (fun b h=>by cases h)) (Mr _ _) (fun x v=>vd w _ x v) (fun x v W h=>qp h)
  (K6 w (aY x)) (fun _ _ _=>False) (GD i'.out.size) (fun _ _ _ _ _ h _ _=>h) ⟨b2,i'.out⟩
  (AxP a0.tmps 12 8 w.heap.size) (fun x v a'=>ue _ _ _ _ _ x v a') ?assign ?body ?done ?stop
 case assign =>
  intro m l k y v W K hl hy hi j' hK;obtain⟨A',n',c',x',u',C',rfl⟩:=pP j';have G:w.heap.size<=W.heap.size:=hi.2.size;have HI:=jD hi;have P':=jD j';have HK:=jD hK;clear hi j' hK hy;rw[e0];unfold ptV;gi_wp2;refine BW fun W' e'=>?_
  have h':Mm W W':=gb e';have hc:Cells W' W.heap.size 0 (aM y (.slice A' n' c') (.slice x' u' C')):=cU (jG e') (jG e') (jG e') (jG e') (jG e') (jG e') (jG e') (jG e') (jG e') (jG e') (jG e') (jG e') (jG e') (jG e');clear e';have st:∀{b t v},Boxed W b t v->Boxed W' b t v:=fun h=>(h'.block _ h.lt).trans h
  exact HK.out _ _ (bF h') (gD h' G) ⟨⟨st HI.out.1.1,st HI.out.1.2.1,st HI.out.1.2.2⟩,HI.out.2.trans (h'.mono G)⟩ P'.out ⟨W.heap.size,_,_,G,rfl,by rw[e0];rfl,hc,⟨_,_,_,rfl⟩,⟨_,_,_,rfl⟩⟩
 case body =>
  rintro m l k y v a' W hl-hy hi j' ⟨B,u,uc,hB,rfl,rfl,hc,⟨A',n',c',rfl⟩,⟨x',u',C',rfl⟩⟩;have G:w.heap.size<=W.heap.size:=hi.2.size;have X0:w.heap.size+1+1+1<W.heap.size:=hi.1.2.2.lt;obtain⟨p0,p1,p2,p3,p4,p5,p6,p7,p8,p9,G',U',T',I'⟩:=dU hc;have V0:B<W.heap.size:=Ms W ⟨B,_,none⟩ p0;have p':=H'.out y (MI hy);obtain⟨j,lo,P0,hj,Z',-,-,f'⟩:=JN (HT.out W hi.2) p'.1 p'.2;have k':=Jn (aY x) k;have X':=O'.out;obtain⟨st,g'⟩:=jF (jI ((aY x).take k));have l':=Ee hy;rw[<-g']at k' l';have Z:=jD l';have q':Rd w W2.heap.size (w.heap.size+1) W W st:=⟨KeepsFrom.refl _ _,eO _ _ _ _,by rw[g'];exact hi.1,hi.2⟩;have O:=jD q';have d':=q'.2.2.1;obtain⟨vv,ss,oo⟩:=st;obtain⟨tb,I⟩:∃b,cD y.op=b:=⟨_,rfl⟩;obtain⟨sb,J⟩:∃b,ft y.op=b:=⟨_,rfl⟩;obtain⟨cb,S'⟩:∃b,mx y.op=b:=⟨_,rfl⟩;obtain⟨pb,F'⟩:∃b,fF y.op=b:=⟨_,rfl⟩;rw[I,J,S',F']at f';have c0:=f' 0 _ rfl;have c1:=f' 1 _ rfl;have c2:=f' 2 _ rfl;have c3:=f' 3 _ rfl;have c4:=f' 4 _ rfl;have c5:=f' 5 _ rfl;rw[Nc]at c0;have U0:0<W.heap.size:=Ms W ⟨_,_,none⟩ c0;rw[hj]at p0;simp only at k';have w5:Ml W (w.heap.size+1) 0 (Mk vv):=d'.1.cell;have w6:Ml W (w.heap.size+1+1) 0 (Mk ss):=d'.2.1.cell;have w7:Ml W (w.heap.size+1+1+1) 0 (.bool oo):=d'.2.2.cell;have x5:=d'.1.frozen;have x6:=d'.2.1.frozen;have x7:=d'.2.2.frozen;have S0:w.heap.size+1<W.heap.size:=by omega
  have K1:w.heap.size+1+1<W.heap.size:=by omega
  have E1:w.heap.size+1≠W.heap.size:=by omega
  have Q0:w.heap.size+1+1≠W.heap.size:=by omega
  have F1:w.heap.size+1+1+1≠W.heap.size:=by omega
  have Z0:B≠W.heap.size:=by omega
  have M1:B≠w.heap.size+1:=fun e=>by rw[e]at p2;have h:=d'.1;simp[World.cell?,show W.heap[w.heap.size+1]?=_ from h]at p2
  have G1:B≠w.heap.size+1+1:=fun e=>by rw[e]at p2;have h:=d'.2.1;simp[World.cell?,show W.heap[w.heap.size+1+1]?=_ from h]at p2
  have K0:B≠w.heap.size+1+1+1:=fun e=>by rw[e]at p2;have h:=d'.2.2;simp[World.cell?,show W.heap[w.heap.size+1+1+1]?=_ from h]at p2
  have ng:0≠W.heap.size:=by omega
  have R0:IntKind.i64.wrap (vv+1)=vv+1:=by simp[IntKind.wrap,IntKind.bits,IntKind.signed];omega
  have H0:IntKind.i64.wrap (ss+1)=ss+1:=by simp[IntKind.wrap,IntKind.bits,IntKind.signed];omega
  have Y0:(j:Int)<11:=by omega
  have z:w.heap.size+1+1+1<W2.heap.size:=by have:=N'.out;omega
  clear j' hc hy hi f' hj g' l' q' d' p' k' X' p1 p2 p5 p6 p7 p8 p9 G' U' T' I';rw[e0];unfold ptV;simp only[NA,MZ,MY]
  cases oo with
  | true =>
   cases tb with
   | false =>
    cases sb with
    | false =>
     gi_wp2_with fail;refine bZ (O.out.al G _) ?_;rw[Z.out];simp[bO,I,J]
    | true =>
     by_cases hs:y.sc=ss
     ·have bs:(y.sc==ss)=true:=jQ hs;gi_wp2_with fail;refine bZ (((O.out.s2 om z true).s1 om om (ss+1)).al (by simpa only [NQ] using G) _) ?_;rw[Z.out];simp[bO,I,J,hs]
     ·have bs:(y.sc==ss)=false:=jQ hs;exact ubU
   | true =>
    by_cases hv:y.vr=vv
    ·have bv:(y.vr==vv)=true:=jQ hv
     cases sb with
     | false =>
      gi_wp2_with fail;refine bZ (((O.out.s2 om z true).s0 om om (vv+1)).al (by simpa only [NQ] using G) _) ?_;rw[Z.out];simp[bO,I,J,hv]
     | true =>
      by_cases hs:y.sc=ss
      ·have bs:(y.sc==ss)=true:=jQ hs;gi_wp2_with fail;refine bZ (((((O.out.s2 om z true).s0 om om (vv+1)).s2 om z true).s1 om om (ss+1)).al (by simpa only [NQ] using G) _) ?_;rw[Z.out];simp[bO,I,J,hv,hs]
      ·have bs:(y.sc==ss)=false:=jQ hs;gi_wp2_with fail;refine bZ (((((O.out.s2 om z true).s0 om om (vv+1)).s2 om z false).s1 om om (ss+1)).al (by simpa only [NQ] using G) _) ?_;rw[Z.out];simp[bO,I,J,hv,hs]
    ·have bv:(y.vr==vv)=false:=jQ hv
     exact ubT
  | false =>
   cases tb with
   | false =>
    cases sb with
    | false =>
     gi_wp2_with fail;refine bZ (O.out.al G _) ?_;rw[Z.out];simp[bO,I,J]
    | true =>
     by_cases hs:y.sc=ss
     ·have bs:(y.sc==ss)=true:=jQ hs;exact ubU
     ·have bs:(y.sc==ss)=false:=jQ hs;exact ubU
   | true =>
    by_cases hv:y.vr=vv
    ·have bv:(y.vr==vv)=true:=jQ hv
     exact ubT
    ·have bv:(y.vr==vv)=false:=jQ hv
     exact ubT
 case done =>
  rintro D W hD ⟨d',h'⟩ hK;rw[Nq]at d';obtain⟨st,g'⟩:=jF (jI (aY x));rw[<-g']at d';have Y':=jD g';have V':=jD h';have HK:=jD hK;obtain⟨vv,ss,oo⟩:=st;have w5:Ml W (w.heap.size+1) 0 (Mk vv):=d'.1.cell;have w6:Ml W (w.heap.size+1+1) 0 (Mk ss):=d'.2.1.cell;have w7:Ml W (w.heap.size+1+1+1) 0 (.bool oo):=d'.2.2.cell;clear h' hK g';rw[e0];gi_wp2_with fail
  gi_big_region
  gi_wp2_with fail;have E':W.drew.heap[D]?=some (.deferred (some [])):=HK.out;refine⟨by simp,.inl ⟨_,_,rfl,run_takeDeferred E',?_⟩⟩;refine⟨.tuple #[Mk vv,Mk ss,.bool oo],?_,?_,V'.out.drew.trans (belowK_b (w:=w) (Mt _) _ D _ _ (by have:=i'.out.size;omega) E' rfl rfl)⟩
  ·simp[results,Tryz.f69,go_sem]
  ·rw[<-Y'.out];rfl
 case stop=>rintro D c k W hD hk h;exact h.elim
end
theorem jZ:∀{l:List Int},dJ l=0->∀a∈l,a=0
 | [],_,_,h=>by cases h
 | b::r,h,a,ha=>by
  rw[dJ]at h
  by_cases z:b=0
  ·rw[Mo (jQ z)]at h;rcases List.mem_cons.1 ha with rfl|ha
   ·exact z
   ·exact jZ h a ha
  ·rw[Mp z]at h;exact absurd h z
theorem KJ {y:Pt} (h:ptE y=0):0<=y.op/\y.op<=10:=by
 by_cases z:y.op<0\/10<y.op
 ·unfold ptE at h;rw[Mp z]at h;exact absurd h dc
 ·omega
theorem Dg {x:Pt} (h:eY x=0):∀y∈aY x,0<=y.op/\y.op<=10:=fun y hy=>by
 unfold eY at h
 split at h
 ·exact absurd h dc
 ·split at h
  ·exact absurd h dc
  ·exact KJ (jZ h _ (List.mem_map.2 ⟨y,hy,rfl⟩))
theorem zZ {x:Pt} (h:ii x=0):∀y∈aY x,0<=y.op/\y.op<=10:=Dg (by
 unfold ii at h
 by_cases h0:eY x=0
 ·exact h0
 ·rw[Mp h0]at h;exact h)
theorem Aj (x:Pt):fq x=if ii x≠0 then ii x else if (jI (aY x)).2.2 then 0 else 14:=by
 rw[JI,DW];unfold fq
 by_cases h0:eY x=0
 ·have e:¬eY x≠0:=fun h=>h h0
  simp only[Mo e]
  cases z:(aY x).any (fun y=>decide (8<=y.op))<;>simp
 ·rw[Mp h0,Mp h0,Mp h0]
theorem pW (d:Nat) (x:Pt) (v vc:Value) (w:World) (hT:Shp w) (hx:aU d w v x.args) (O:aK d w vc x.cond.args) (hN:ptB x<=1048576) :
  Mn 41 #[ptV x v vc] w (Mk (fq x)):=by
 have HW:=jD (fun (W:World) (hW:Mm w W)=>CU d x v vc W (hT.stays hW) (hx.stays (aB d) hW) (O.stays (ai d) hW) hN);have I:=jD (fun (h0:ii x=0) (W:World) (hW:Mm w W)=>DT d x v vc W (hT.stays hW) (hx.stays (aB d) hW) (O.stays (ai d) hW) hN (zZ h0));have J:=jD (Aj x);obtain⟨A,c,rfl,-⟩:=hx;obtain⟨Ac,cc,rfl,-⟩:=O;obtain⟨n,hn⟩:=jF x.args.length;obtain⟨nc,f'⟩:=jF x.cond.args.length;rw[<-hn,<-f']at HW I ⊢;obtain⟨z,hz⟩:=jF (ii x);obtain⟨st,d'⟩:=jF (jI (aY x));obtain⟨R,hR⟩:=jF (fq x);rw[<-hz]at HW I J;rw[<-d']at I J;rw[<-hR]at J ⊢;obtain⟨vv,ss,oo⟩:=st;clear hn f' hT hz d' hR hN;unfold ptV at HW I ⊢;unfold cnV at I;simp only at I J;go_enter func41,ntmps41;go_wp2_with fail;refine (HW.out _ jB).mono ?_;rintro e G ⟨rfl,c'⟩;have h:=(bE c').1;have y0:G.cell? ⟨w.heap.size,0,none⟩=some (Mk x.op):=by rw[h];rfl
 have y1:G.cell? ⟨w.heap.size,1,none⟩=some (.slice A n c):=by rw[h];rfl
 have y2:G.cell? ⟨w.heap.size,2,none⟩=some (Mk x.ty):=by rw[h];rfl
 have y3:G.cell? ⟨w.heap.size,3,none⟩=some (Mk x.vr):=by rw[h];rfl
 have y4:G.cell? ⟨w.heap.size,4,none⟩=some (Mk x.sc):=by rw[h];rfl
 have y5:G.cell? ⟨w.heap.size,5,none⟩=some (Mk x.sp):=by rw[h];rfl
 have y6:G.cell? ⟨w.heap.size,6,none⟩=some (Mk x.cond.op):=by rw[h];rfl
 have y7:G.cell? ⟨w.heap.size,7,none⟩=some (.slice Ac nc cc):=by rw[h];rfl
 have y8:G.cell? ⟨w.heap.size,8,none⟩=some (Mk x.cond.vr):=by rw[h];rfl
 have y9:G.cell? ⟨w.heap.size,9,none⟩=some (Mk x.cond.fl):=by rw[h];rfl
 have j':G.cell? ⟨w.heap.size,10,none⟩=some (Mk x.cond.kd):=by rw[h];rfl
 have m':G.cell? ⟨w.heap.size,11,none⟩=some (Mk x.cond.val.kind):=by rw[h];rfl
 have l':G.cell? ⟨w.heap.size,12,none⟩=some (Mk x.cond.val.num):=by rw[h];rfl
 have k':G.cell? ⟨w.heap.size,13,none⟩=some (.string x.cond.val.text):=by rw[h];rfl
 have a':=jD (ab (af w _) c');clear h c'
 by_cases Z:z=0
 case neg =>
  have n':(z==0)=false:=jQ Z;obtain rfl:R=z:=by rw[J.out,Mp Z]
  clear J I;exact fi a'.out
 subst Z;have i':Hid (R=if oo=true then 0 else 14):=jD (by rw[J.out,Mo jS]);clear J;go_wp2_with fail;refine (I.out trivial _ a'.out).mono ?_;rintro e w2 ⟨rfl,h'⟩;have g':=jD (ab a'.out h');clear h' y0 y1 y2 y3 y4 y5 y6 y7 y8 y9 j' m' l' k'
 cases oo with
 | true =>
  obtain rfl:R=0:=by rw[i'.out];rfl
  exact fi g'.out
 | false =>
  obtain rfl:R=14:=by rw[i'.out];rfl
  exact fi g'.out
end Go.Proofs.YtbjicljfjkdeeaaGreatDoor
