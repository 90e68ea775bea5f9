/- Part. -/
import Derived.Test.YtokconodddedhaaGreatDoorQ13
set_option maxRecDepth 100000
set_option maxHeartbeats 16000000
set_option linter.unusedVariables false
set_option linter.unusedSimpArgs false
namespace Go.Proofs.YtokconodddedhaaGreatDoor
open Go.Proofs.Tryz Go.RowKit
def aQ (x:Pt) (v vc:Value):List Value:=[KW x.op,v,KW x.ty,KW x.vr,KW x.sc,KW x.sp,KW x.cond.op,vc,KW x.cond.vr,KW x.cond.fl,KW x.cond.kd,KW x.cond.val.kind,KW x.cond.val.num,.string x.cond.val.text]
theorem ci {w:World} {b p:Nat} {x:Pt} {v vc:Value} (c0:w.cell? ⟨b,p,none⟩=some (KW x.op)) (c1:w.cell? ⟨b,p+1,none⟩=some v) (c2:w.cell? ⟨b,p+2,none⟩=some (KW x.ty)) (Z:w.cell? ⟨b,p+3,none⟩=some (KW x.vr)) (c4:w.cell? ⟨b,p+4,none⟩=some (KW x.sc)) (O:w.cell? ⟨b,p+5,none⟩=some (KW x.sp)) (c6:w.cell? ⟨b,p+6,none⟩=some (KW x.cond.op)) (c7:w.cell? ⟨b,p+7,none⟩=some vc) (J:w.cell? ⟨b,p+8,none⟩=some (KW x.cond.vr)) (I:w.cell? ⟨b,p+9,none⟩=some (KW x.cond.fl)) (z:w.cell? ⟨b,p+10,none⟩=some (KW x.cond.kd)) (F:w.cell? ⟨b,p+11,none⟩=some (KW x.cond.val.kind)) (G:w.cell? ⟨b,p+12,none⟩=some (KW x.cond.val.num)) (D:w.cell? ⟨b,p+13,none⟩=some (.string x.cond.val.text)):Cells w b p (aQ x v vc):=fun j u h=>by
  match j,h with
  | 0,h=>simp[aQ]at h;subst h;exact c0
  | 1,h=>simp[aQ]at h;subst h;exact c1
  | 2,h=>simp[aQ]at h;subst h;exact c2
  | 3,h=>simp[aQ]at h;subst h;exact Z
  | 4,h=>simp[aQ]at h;subst h;exact c4
  | 5,h=>simp[aQ]at h;subst h;exact O
  | 6,h=>simp[aQ]at h;subst h;exact c6
  | 7,h=>simp[aQ]at h;subst h;exact c7
  | 8,h=>simp[aQ]at h;subst h;exact J
  | 9,h=>simp[aQ]at h;subst h;exact I
  | 10,h=>simp[aQ]at h;subst h;exact z
  | 11,h=>simp[aQ]at h;subst h;exact F
  | 12,h=>simp[aQ]at h;subst h;exact G
  | 13,h=>simp[aQ]at h;subst h;exact D
  | j+14,h=>simp[aQ]at h
theorem Gk {W:World} {e b p:Nat} {x:Pt} {v vc:Value} (D:aW (e+1) W v x.args) (z:aF e W vc x.cond.args) (h:Cells W b p (aQ x v vc)):kN (e+2) W b p x :=
 ⟨v,D,h 0 _ rfl,h 1 _ rfl,h 2 _ rfl,h 3 _ rfl,h 4 _ rfl,h 5 _ rfl,vc,z,h 6 _ rfl,h 7 _ rfl,h 8 _ rfl,h 9 _ rfl,h 10 _ rfl,h 11 _ rfl,h 12 _ rfl,h 13 _ rfl⟩
theorem Cz {x:Pt} {v vc:Value} (h:v.oneCell'=true) (z:vc.oneCell'=true):∀u∈aQ x v vc,u.oneCell'=true:=by
 intro u hu;simp only[aQ,Lv,LM,LN]at hu;rcases hu with rfl|rfl|rfl|rfl|rfl|rfl|rfl|rfl|rfl|rfl|rfl|rfl|rfl|rfl<;>first|assumption|rfl
theorem yT {w:World} {e:Nat} {x:Pt} {v vc:Value} (z:aW (e+1) w v x.args) (h:aF e w vc x.cond.args):Means (kN (e+2)) 14 w (aQ x v vc) [x] :=
 ⟨rfl,Cz (fK z) (fK h),fun W b o D F k y hk=>by
  cases k with
  | zero =>
   simp at hk;subst hk;rw[My,Mc];exact Gk (z.stays (aB _) D) (h.stays (ai _) D) F
  | succ k=>simp at hk⟩
theorem GE:(prog.info? 31).map (fun i=>(i.zero,i.size,i.bytes))=some (some (.agg #[KW 0,.slice none 0 0,KW 0,KW 0,KW 0,KW 0,KW 0,.slice none 0 0,KW 0,KW 0,KW 0,KW 0,KW 0,.string ⟨#[]⟩]),14,152):=kr
section
open Go.RowKit Go.Lib
def InP (W0:World) (x:Pt) (a:Array Value) (_:World):Prop:=∃d v vc,a=#[ptV x v vc]/\aW d W0 v x.args/\aF d W0 vc x.cond.args
theorem py (W0:World) (B:Nat) (x:Pt) (a:Array Value):OwnFrom B (fun (_:Unit) W=>InP W0 x a W):=fun _ _ _ _ h _ _=>h
theorem mI {W0:World} {x:Pt} {a:Array Value} {W:World} (h:InP W0 x a W):a.size=1:=by
 obtain⟨d,v,vc,rfl,-⟩:=h;rfl
def AH (W0:World) (n1:Nat) (z:Option Nat) (F:List Pt) (l:Nat) (J D:Nat->World->Prop):Prop :=
 ∀(m k:Nat) (x:Pt) (a:Array Value) (h:World),F[k]?=some x->J k h->InP W0 x a h->YieldAt Fence.wide m prog l a h fun e W' =>
  (e=.returned (.bool true)/\J (k+1) W'/\bj W0.heap.size n1 z h W')\/(e=.returned (.bool false)/\D (k+1) W')
def Ih (n0 n1:Nat) (z:Option Nat) (J D:Nat->World->Prop) (h n:Nat) (W:World) (e:Ending) (W':World):Prop :=
 (e=.returned (.bool true)/\J (h+n) W'/\bj n0 n1 z W W')\/(e=.returned (.bool false)/\∃k,k<h+n/\D (k+1) W')
def AtL (h P:List Pt) (z:Nat):Prop:=∀(j:Nat) y,P[j]?=some y->h[z+j]?=some y
theorem fI {l:List Pt} {k:Nat} {a:Pt} (h:l[k]?=some a):aU (l.take (k+1))=aU (l.take k)+ptN a:=by
 induction l generalizing k with
 | nil=>simp at h
 | cons b r z =>
  cases k with
  | zero=>simp at h;subst h;simp[aU]
  | succ k=>rw[Mx,Mx,aU,aU,z (jQ h)];omega
theorem wO {l:List Pt} {k:Nat} {a:Pt} (h:l[k]?=some a):AtL (bG l) (aO a) (aU (l.take k)):=by
 induction l generalizing k with
 | nil=>simp at h
 | cons b r D =>
  intro j y z;rw[bG]
  cases k with
  | zero =>
   simp at h;subst h;simp only[List.take_zero,aU,Lu];rw[LR (List.getElem?_eq_some_iff.1 z).1];exact z
  | succ k =>
   rw[Mx,aU,Mf (by rw[dh];omega),dh];have:=D (jQ h) j y z;rw[<-this];congr 1;omega
theorem AtL.arg {D:List Pt} {x a:Pt} {z k:Nat} (h:AtL D (aO x) z) (G:x.args[k]?=some a):AtL D (aO a) (z+1+aU (x.args.take k)):=by
 intro j y F;have:=h (1+(aU (x.args.take k)+j)) y (by rw[da,Nb 1,LC];exact wO G j y F);rw[<-this];congr 1;omega
theorem AtL.head {z:List Pt} {x:Pt} {D:Nat} (h:AtL z (aO x) D):z[D]?=some x:=by
 have:=h 0 x (by rw[da];rfl)
 simpa using this
theorem dJ (l:List Pt) (k:Nat):aU (l.take k)<=aU l:=by
 induction l generalizing k with
 | nil=>simp
 | cons b r h =>
  cases k with
  | zero=>simp[aU]
  | succ k=>rw[Mx,aU,aU];have:=h k;omega
def zF (W0:World) (n1:Nat) (z:Option Nat) (F:List Pt) (l:Nat) (J D:Nat->World->Prop) (d:Nat):Prop :=
 ∀(x:Pt) (v vc:Value) (h:Nat) (W:World) (e:Nat),aW d W0 v x.args->aF e W0 vc x.cond.args->AtL F (aO x) h->KY W0 W->n1<=W.heap.size->fE W z->J h W ->
  Calls prog 256 #[ptV x v vc,.func (.yield l) #[] #[]] W (Ih W0.heap.size n1 z J D h (ptN x) W)
theorem sU (W0:World) (n1:Nat) (G:Option Nat) (n':∀b,G=some b->b<n1) (Ls:List Pt) (l:Nat) (J Jx:Nat->World->Prop) (S:Nat) (hJ:AbidesFrom S J) (hY:AH W0 n1 G Ls l J Jx)
  (d:Nat) (g':∀d',d=d'+1->zF W0 n1 G Ls l J Jx d'):zF W0 n1 G Ls l J Jx d:=by
 intro x v vc F W ec hx r' h' hW hn hs s';have k':W0.heap.size<=W.heap.size:=hW.size;have b':∀b,G=some b->b<W.heap.size:=fun b z=>by have:=n' b z;omega
 have l':=jn (Nat.le_max_left d ec) hx;have y':=eI (Nat.le_max_right d ec) r';obtain⟨A,c,rfl,h1,h2,E'⟩:=hx;obtain⟨Ac,cc,rfl,-⟩:=r';have hlen:=ax h1 h2;have hN:=dm x;have HR:Hid (∀I,KY W I->I.cell? ⟨W.heap.size,1,none⟩=some (.slice A x.args.length c)->YieldAt Fence.wide (5-1) prog l #[ptV x (.slice A x.args.length c) (.slice Ac x.cond.args.length cc)] I fun e W' =>
   (e=.returned (.bool true)/\J (F+1) W'/\W'.cell? ⟨W.heap.size,1,none⟩=some (.slice A x.args.length c)/\bj W0.heap.size n1 G W W')\/(e=.returned (.bool false)/\Jx (F+1) W')):=by
  refine jD fun I j' c9=>?_
  refine ep (hY (5-1) F x _ I h'.head (cD hJ s' j') ⟨max d ec,_,_,rfl,l',y'⟩) ?_;rintro e W' (⟨rfl,h1,h2⟩|⟨rfl,h1⟩)
  ·exact .inl ⟨rfl,h1,(gD h2 hn (sW hs j' b' (Ld _)) c9).1,bW (cM j' k' b') h2⟩
  ·exact .inr ⟨rfl,h1⟩
 have HC:Hid (∀(k:Nat) a,x.args[k]?=some a->∃Av cv Ac nc cc b o,A=some ⟨b,o,none⟩/\b<W0.heap.size/\(∀wr,KY W0 wr->wr.cell? ⟨b,o+k*14,none⟩=some (KW a.op)/\wr.cell? ⟨b,o+k*14+1,none⟩=some (.slice Av a.args.length cv) /\
    wr.cell? ⟨b,o+k*14+2,none⟩=some (KW a.ty)/\wr.cell? ⟨b,o+k*14+3,none⟩=some (KW a.vr)/\wr.cell? ⟨b,o+k*14+4,none⟩=some (KW a.sc)/\wr.cell? ⟨b,o+k*14+5,none⟩=some (KW a.sp) /\
    wr.cell? ⟨b,o+k*14+6,none⟩=some (KW a.cond.op)/\wr.cell? ⟨b,o+k*14+7,none⟩=some (.slice Ac nc cc)/\wr.cell? ⟨b,o+k*14+8,none⟩=some (KW a.cond.vr)/\wr.cell? ⟨b,o+k*14+9,none⟩=some (KW a.cond.fl)/\wr.cell? ⟨b,o+k*14+10,none⟩=some (KW a.cond.kd) /\
    wr.cell? ⟨b,o+k*14+11,none⟩=some (KW a.cond.val.kind)/\wr.cell? ⟨b,o+k*14+12,none⟩=some (KW a.cond.val.num)/\wr.cell? ⟨b,o+k*14+13,none⟩=some (.string a.cond.val.text)) /\
   ∀wr I,J (F+1+aU (x.args.take k)) wr->bj W0.heap.size n1 G W wr->KY wr I->Calls prog 256 #[ptV a (.slice Av a.args.length cv) (.slice Ac nc cc),.func (.yield l) #[] #[]] I fun e W' =>
    (e=.returned (.bool true)/\J (F+1+aU (x.args.take (k+1))) W'/\bj W0.heap.size n1 G W W')\/(e=.returned (.bool false)/\∃j,j<F+ptN x/\Jx (j+1) W')):=by
  refine jD fun k a ha=>?_
  obtain⟨b,o,rfl,L'⟩:=E' k a ha;obtain⟨d',e',v',P',I',T',p',c',p0,p1,p2,p3,p4,p5,p6,p7,p8,p9,B',z',t',x'⟩:=cW L';have N':=p';have m':=c';obtain⟨Av,cv,rfl,-⟩:=p';obtain⟨Ae,ce,rfl,-⟩:=c';refine⟨Av,cv,Ae,_,ce,b,o,rfl,K8 W0 ⟨b,_,none⟩ p0,fun wr z=>⟨aa z p0,aa z p1,aa z p2,aa z p3,aa z p4,aa z p5,aa z p6,aa z p7,aa z p8,aa z p9,aa z B',aa z z',aa z t',aa z x'⟩,fun wr I hj hk z=>?_⟩;have F':W0.heap.size<=wr.heap.size:=by have:=hk.below.size;omega
  have M':∀b,G=some b->b<wr.heap.size:=fun b z=>by have:=b' b z;have:=hk.below.size;omega
  have a':bj W0.heap.size n1 G W I:=bW hk (cM z F' M');have ht:=fI ha;have Z':=dJ x.args (k+1);refine (g' d' I' a _ _ _ I e' N' m' (h'.arg ha) (hW.trans a'.below) (by have:=a'.below.size;omega) (a'.safe hs) (cD hJ hj z)).mono ?_;rintro e W' (⟨rfl,Z,O⟩|⟨rfl,j,hj,Z⟩)
  ·exact .inl ⟨rfl,by rw[ht,<-LJ];exact Z,bW a' O⟩
  ·exact .inr ⟨rfl,j,by omega,Z⟩
 have HF:Hid (F+1+aU (x.args.take x.args.length)=F+ptN x/\F<F+ptN x):=jD (by rw[LX];omega);have HW:=jD hW;obtain⟨m,hm⟩:=jF x.args.length;obtain⟨nc,D'⟩:=jF x.cond.args.length;have HM:Hid (m=x.args.length):=jD hm;have Y':Hid (n1<=W.heap.size):=jD hn;rw[<-hm]at HR HF hlen ⊢;rw[<-D']at HR ⊢;clear E' h' hY hJ n' g' hW hn hs s' k' b' l' y' h1 h2 hN hm D';unfold ptV at HR ⊢;go_enter func256,ntmps256;refine (wpIn_wide (n:=5)).1 ?_;gi_wp2;refine gy (HR.out _ jB (by go_simp)) ?_ ?_
 ·intro W5 O;obtain⟨q',y1,C'⟩:=O;have A':Hid (J (F+1) W5/\bj W0.heap.size n1 G W W5):=jD ⟨q',C'⟩;clear q' C';gi_wp2
  gi_loopw [14] (fun i wr=>∃k:Nat,k<=m/\i=KW k/\Hid (J (F+1+aU (x.args.take k)) wr/\bj W0.heap.size n1 G W wr)) (fun i _=>m-(RowKit.intOf i).toNat)
  case atStart=>exact⟨0,Lb _,rfl,jD ⟨by simpa [aU] using A'.out.1,A'.out.2⟩⟩
  case round =>
   obtain⟨k,hk,rfl,hi⟩:=hrel
   by_cases G':k<m
   ·have J':(k:Int)<(m:Int):=by omega
    obtain⟨a,ha⟩:∃a,x.args[k]?=some a:=⟨_,K9 (by have:=HM.out;omega)⟩;obtain⟨Av,cv,V',S',X',b,o,rfl,u',f',D⟩:=HC.out k a ha;unfold ptV at D;have H':=jD D;have i':=HW.out.trans hi.out.2.below;obtain⟨p0,p1,p2,p3,p4,p5,p6,p7,p8,p9,B',z',t',x'⟩:=f' wr i';have R':b<wr.heap.size:=Ll u' i'.size;have U':b≠wr.heap.size:=by omega
    have O':wr.heap.size≠b:=by omega
    clear f' D i' u' ha;gi_wp2;refine⟨trivial,callsIn_wide.2 ?_⟩;refine (H'.out wr _ hi.out.1 hi.out.2 jB).mono ?_;rintro e W6 (⟨rfl,Z,O⟩|⟨rfl,Z⟩)
    ·have H6:=jD (And.intro Z O);clear Z O;gi_wp2
     go_roundw
     case rel=>exact⟨k+1,by omega,rfl,H6⟩
     case measure=>exact AT G'
    ·have H6:=jD Z;clear Z;gi_wp2;go_ret;exact Or.inr ⟨rfl,H6.out⟩
   ·have J':¬(k:Int)<(m:Int):=by omega
    have HE:Hid (J (F+ptN x) wr/\bj W0.heap.size n1 G W wr):=jD ⟨by have h:=hi.out.1;rw[show k=m by omega,HF.out.1]at h;exact h,hi.out.2⟩;gi_wp2;go_ret;exact Or.inl ⟨rfl,HE.out⟩
 ·intro W5 O;have H5:=jD O;clear O;gi_wp2;go_ret;exact Or.inr ⟨rfl,F,HF.out.2,H5.out⟩
theorem F9 (W0:World) (n1:Nat) (z:Option Nat) (D:∀b,z=some b->b<n1) (G:List Pt) (l:Nat) (J F:Nat->World->Prop) (S:Nat) (I:AbidesFrom S J) (O:AH W0 n1 z G l J F) (d:Nat):zF W0 n1 z G l J F d:=by
 induction d with
 | zero=>exact sU W0 n1 z D G l J F S I O 0 (fun Z h=>by omega)
 | succ d ih=>exact sU W0 n1 z D G l J F S I O (d+1) (fun Z h=>Ma h▸ih)
theorem dv {w:World} {x:Pt} {v vc:Value} {b:Nat} (h:Cells w b 0 (aQ x v vc)):w.cell? ⟨b,0,none⟩=some (KW x.op)/\w.cell? ⟨b,1,none⟩=some v/\w.cell? ⟨b,2,none⟩=some (KW x.ty)/\w.cell? ⟨b,3,none⟩=some (KW x.vr)/\w.cell? ⟨b,4,none⟩=some (KW x.sc)/\w.cell? ⟨b,5,none⟩=some (KW x.sp) /\
  w.cell? ⟨b,6,none⟩=some (KW x.cond.op)/\w.cell? ⟨b,7,none⟩=some vc/\w.cell? ⟨b,8,none⟩=some (KW x.cond.vr)/\w.cell? ⟨b,9,none⟩=some (KW x.cond.fl)/\w.cell? ⟨b,10,none⟩=some (KW x.cond.kd)/\w.cell? ⟨b,11,none⟩=some (KW x.cond.val.kind)/\w.cell? ⟨b,12,none⟩=some (KW x.cond.val.num)/\w.cell? ⟨b,13,none⟩=some (.string x.cond.val.text) :=
 ⟨h 0 _ rfl,h 1 _ rfl,h 2 _ rfl,h 3 _ rfl,h 4 _ rfl,h 5 _ rfl,h 6 _ rfl,h 7 _ rfl,h 8 _ rfl,h 9 _ rfl,h 10 _ rfl,h 11 _ rfl,h 12 _ rfl,h 13 _ rfl⟩
def Kv (w:World) (x:Pt) (v vc:Value) (e:Ending) (W:World):Prop:=e=.returned (.func (.func 255) #[] #[.pointer (some ⟨w.heap.size,0,none⟩)])/\W=w.alloc (.cells (aQ x v vc).toArray 31)
theorem gp (x:Pt) (A:Option Addr) (n c:Nat) (Ac:Option Addr) (z h:Nat) (w:World):Calls prog 187 #[ptV x (.slice A n c) (.slice Ac z h)] w (Kv w x (.slice A n c) (.slice Ac z h)):=by
 unfold ptV;go_enter func187,ntmps187;go_wp2;go_ret;exact⟨rfl,rfl⟩
theorem gm {w:World} {x:Pt} {v vc:Value}:Cells (w.alloc (.cells (aQ x v vc).toArray 31)) w.heap.size 0 (aQ x v vc):=fun j u z=>by
 have h:(w.alloc (.cells (aQ x v vc).toArray 31)).heap[w.heap.size]?=some (.cells (aQ x v vc).toArray 31):=Mp w _;rw[Lu];simp only[World.cell?,h];exact (NF ..).trans z
theorem gl (W0 w:World) (n1:Nat) (G:Option Nat) (D:∀b,G=some b->b<n1) (d:Nat) (x:Pt) (v vc:Value) (C:Nat) (hx:aW d W0 v x.args) (Z:aF d W0 vc x.cond.args) (hb:KY W0 w) (hn:n1<=w.heap.size) (hs:fE w G) (hC:Cells w C 0 (aQ x v vc)) :
  SeqC 255 #[.pointer (some ⟨C,0,none⟩)] (aO x) (InP W0) (bj W0.heap.size n1 G) w:=by
 intro l J Jx W F hJ b' hY h0;have z:∀b,G=some b->b<w.heap.size:=fun b h=>by have:=D b h;omega
 have O:fE W G:=(cM (n1:=n1) F (hb.size) z).safe hs;have a':Cells W C 0 (aQ x v vc):=fun j u hj=>aa F (hC j u hj)
 have I:=jD (fun (W9:World) (h9:KY W W9)=>F9 W0 n1 G D (aO x) l J Jx W.heap.size hJ hY d x v vc 0 W9 d hx Z (fun j y hj=>by rw[Lu];exact hj) (ab (ab hb F) h9) (by have:=F.size;have:=h9.size;omega)
  ((cM (n1:=n1) h9 (by have:=hb.size;have:=F.size;omega) (fun b h=>by have:=z b h;have:=F.size;omega)).safe O) (cD hJ h0 h9))
 have HL:=jD (dh x);obtain⟨A,c,rfl,-⟩:=hx;obtain⟨Ac,cc,rfl,-⟩:=Z;obtain⟨p0,p1,p2,p3,p4,p5,p6,p7,p8,p9,d',g',c',f'⟩:=dv a';have e':C<W.heap.size:=K8 W ⟨C,_,none⟩ p0;clear a' hC hY hJ b' h0 O hs F hb z D hn;unfold ptV at I;show Calls prog 255 #[.func (.yield l) #[] #[],.pointer (some ⟨C,0,none⟩)] W _;go_enter func255,ntmps255;go_wp2_with fail;refine (I.out _ jB).mono ?_;rintro e W6 (⟨rfl,h4,h5⟩|⟨rfl,h4⟩)
 ·have H6:=jD h4;clear h4 h5;go_wp2;refine ML (Mv rfl _ _ _) rfl ?_;exact⟨⟨_,rfl⟩,.inl (by rw[HL.out];simpa using H6.out)⟩
 ·have H6:=jD h4;clear h4;go_wp2;refine ML (Mv rfl _ _ _) rfl ?_;obtain⟨k,hk,h⟩:=H6.out;exact⟨⟨_,rfl⟩,.inr ⟨k,by rw[HL.out];omega,h⟩⟩
end
def Jv:Nat->List Value
 | 0=>[KW 0,KW 0,.bool true,.bool true,.bool false,.bool false]
 | 1=>[KW 2,KW 64,.bool false,.bool false,.bool false,.bool false]
 | 2=>[KW 2,KW 64,.bool false,.bool false,.bool false,.bool false]
 | 3=>[KW 2,KW 64,.bool false,.bool false,.bool false,.bool false]
 | 4=>[KW 1,KW 1,.bool false,.bool false,.bool false,.bool false]
 | 5=>[KW 1,KW 1,.bool true,.bool true,.bool true,.bool false]
 | 6=>[KW 1,KW 1,.bool false,.bool false,.bool true,.bool true]
 | 7=>[KW 1,KW 1,.bool false,.bool true,.bool false,.bool false]
 | 8=>[KW 2,KW 2,.bool false,.bool false,.bool false,.bool false]
 | 9=>[KW 1,KW 1,.bool true,.bool true,.bool true,.bool false]
 | _=>[KW 1,KW 1,.bool false,.bool false,.bool true,.bool true]
def Shp (w:World):Prop:=∀k:Nat,k<11->Cells w 0 (k*6) (Jv k)
theorem Shp.stays {w W:World} (h:Shp w) (D:KY w W):Shp W:=fun k hk j u z=>aa D (h k hk j u z)
theorem Ga {w:World} (h:Shp w) {x:Pt} (h0:0<=x.op) (O:x.op<=10) (F:x.args.length<=64):∃(k J G:Nat),x.op=(k:Int)/\k<11/\G<=64/\gU x.op x.args.length=decide (J<=x.args.length/\x.args.length<=G) /\
  Cells w 0 (k*6) [KW (J:Int),KW (G:Int),.bool (bX x.op),.bool (lP x.op),.bool (fz x.op),.bool (fB x.op)]:=by
 obtain⟨k,hk⟩:∃k:Nat,x.op=(k:Int):=⟨x.op.toNat,by omega⟩;have D:k<11:=by omega
 have z:=h k D;rw[hk];obtain⟨n,I⟩:=jE x.args.length;rw[I]at F ⊢;clear I hk h0 O h
 match k,D,z with
 | 0,_,z=>exact⟨0,0,0,rfl,by decide,by decide,(by rw[LW];simp[gU]),z⟩
 | 1,_,z=>exact⟨1,2,64,rfl,by decide,by decide,(by rw[LW];simp[gU];omega),z⟩
 | 2,_,z=>exact⟨2,2,64,rfl,by decide,by decide,(by rw[LW];simp[gU];omega),z⟩
 | 3,_,z=>exact⟨3,2,64,rfl,by decide,by decide,(by rw[LW];simp[gU];omega),z⟩
 | 4,_,z=>exact⟨4,1,1,rfl,by decide,by decide,(by rw[LW];simp[gU];omega),z⟩
 | 5,_,z=>exact⟨5,1,1,rfl,by decide,by decide,(by rw[LW];simp[gU];omega),z⟩
 | 6,_,z=>exact⟨6,1,1,rfl,by decide,by decide,(by rw[LW];simp[gU];omega),z⟩
 | 7,_,z=>exact⟨7,1,1,rfl,by decide,by decide,(by rw[LW];simp[gU];omega),z⟩
 | 8,_,z=>exact⟨8,2,2,rfl,by decide,by decide,(by rw[LW];simp[gU];omega),z⟩
 | 9,_,z=>exact⟨9,1,1,rfl,by decide,by decide,(by rw[LW];simp[gU];omega),z⟩
 | 10,_,z=>exact⟨10,1,1,rfl,by decide,by decide,(by rw[LW];simp[gU];omega),z⟩
 | k+11,h,_=>exact absurd h om
theorem io (u:Bool) (n m:Int) (w:World):KZ 319 #[.bool u,KW n,KW m] w (.bool (!dq u n m)):=by
 obtain⟨r,hr⟩:=jE (!dq u n m);rw[hr];unfold dq at hr
 cases u with
 | false =>
  subst hr;go_enter func319,ntmps319;go_wp2;go_ret;exact⟨rfl,La _ _⟩
 | true =>
  by_cases h0:n<0
  ·have z:¬0<=n:=by omega
   obtain rfl:r=false:=by rw[<-hr];simp[h0]
   clear hr h0;go_enter func319,ntmps319;go_wp2;go_ret;exact⟨rfl,La _ _⟩
  ·have z:0<=n:=by omega
   by_cases h:m<n
   ·have D:¬n<=m:=by omega
    obtain rfl:r=false:=by rw[<-hr];simp[h]
    clear hr h;go_enter func319,ntmps319;go_wp2;go_ret;exact⟨rfl,La _ _⟩
   ·have D:n<=m:=by omega
    obtain rfl:r=true:=by rw[<-hr];simp[h0,h]
    clear hr h h0;go_enter func319,ntmps319;go_wp2;go_ret;exact⟨rfl,La _ _⟩
theorem gX (u:Bool) (n:Int) (w:World):KZ 321 #[.bool u,KW n] w (.bool (u || decide (n=0))):=by
 cases u with
 | true =>
  rw[Bool.true_or];go_enter func321,ntmps321;go_wp2;go_ret;exact⟨rfl,La _ _⟩
 | false =>
  rw[Bool.false_or]
  by_cases h:n=0
  ·subst h;go_enter func321,ntmps321;go_wp2;go_ret;exact⟨rfl,La _ _⟩
  ·have z:(n==0)=false:=jQ h;rw[MC h];go_enter func321,ntmps321;go_wp2;go_ret;exact⟨rfl,La _ _⟩
theorem FI (x:Pt) (h0:0<=x.op) (D:x.op<=10):ptE x=if gU x.op x.args.length=false then 15
  else if dq (bX x.op) x.ty 15=true\/dq (bX x.op) x.vr 15=true\/dq (fz x.op) x.sc 63=true\/dq (fB x.op) x.sp 1099511627776=true then 2
  else if lP x.op=true/\fJ x.cond≠0 then fJ x.cond
  else if (lP x.op=false/\dX x.cond mf=false)\/(bX x.op || decide (x.ty=0))=false\/(bX x.op || decide (x.vr=0))=false\/(fz x.op || decide (x.sc=0))=false\/(fB x.op || decide (x.sp=0))=false then 3 else 0:=by
 unfold ptE;rw[K6 om];have h:(dq (bX x.op) x.ty 15 || dq (bX x.op) x.vr 15 || dq (fz x.op) x.sc 63 || dq (fB x.op) x.sp 1099511627776)=true↔(dq (bX x.op) x.ty 15=true\/dq (bX x.op) x.vr 15=true\/dq (fz x.op) x.sc 63=true\/dq (fB x.op) x.sp 1099511627776=true):=by
  simp[LQ,Mu]
 have z:(bX x.op=false/\(x.ty≠0\/x.vr≠0)\/fz x.op=false/\x.sc≠0\/fB x.op=false/\x.sp≠0\/lP x.op=false/\dX x.cond mf=false)↔(lP x.op=false/\dX x.cond mf=false\/(bX x.op || decide (x.ty=0))=false\/(bX x.op || decide (x.vr=0))=false\/(fz x.op || decide (x.sc=0))=false\/(fB x.op || decide (x.sp=0))=false):=by
  simp only[LT,LG]
  grind
 simp only[h,z]
theorem AO (w:World):aF 0 w (.slice none 0 0) mf.args:=⟨none,0,rfl,Ld _,by decide,fun k x h=>by simp[mf,Ex.args]at h⟩
theorem zS (d:Nat) (x:Pt) (v vc:Value) (w:World) (hT:Shp w) (T':x.args.length<=64) (hx:aW d w v x.args) (N':aF d w vc x.cond.args) (hN:aM x.cond<=1048576) :
  KZ 254 #[ptV x v vc] w (KW (ptE x)):=by
 have n':=jD (fun (W:World) (hW:KY w W)=>kG d x.cond vc W (N'.stays (ai d) hW) hN);have m':=jD (fun (W:World) (hW:KY w W)=>C6 d 0 x.cond mf vc (.slice none 0 0) W (N'.stays (ai d) hW) (AO W));obtain⟨A,c,rfl,h1,h2,-⟩:=hx;obtain⟨Ac,cc,rfl,-⟩:=N';have hlen:=ax h1 h2;obtain⟨nc,V'⟩:=jE x.cond.args.length;obtain⟨n,hn⟩:=jE x.args.length;rw[V']at n' m' ⊢
 by_cases A':x.op<0\/10<x.op
 ·have hE:ptE x=1:=by unfold ptE;rw[K7 A']
  rw[hE,hn];clear hT T' n' m' hE hn V' hlen h1 h2;obtain⟨op,l,ty,vr,sc,sp,⟨A0,l2,H0,P0,N0,⟨k0,n0,t0⟩⟩⟩:=x;unfold ptV;simp only[Pt.op,Pt.ty,Pt.vr,Pt.sc,Pt.sp,Pt.cond,Ex.op,Ex.vr,Ex.fl,Ex.kd,Ex.val]at A' ⊢
  by_cases ho:op<0
  ·clear A';go_enter func254,ntmps254;go_wp2;go_ret;exact⟨rfl,ag w _⟩
  ·have V1:11<=op:=by omega
   clear A';go_enter func254,ntmps254;go_wp2;go_ret;exact⟨rfl,ag w _⟩
 have X':0<=x.op:=by omega
 have R':x.op<=10:=by omega
 obtain⟨k,lo,hi,hk,E1,U0,R0,l'⟩:=Ga hT X' R' T';have hE:=FI x X' R';rw[R0]at hE;rw[hE];obtain⟨b1,e1⟩:∃b,dq (bX x.op) x.ty 15=b:=⟨_,rfl⟩;obtain⟨b2,e2⟩:∃b,dq (bX x.op) x.vr 15=b:=⟨_,rfl⟩;obtain⟨b3,e3⟩:∃b,dq (fz x.op) x.sc 63=b:=⟨_,rfl⟩;obtain⟨b4,e4⟩:∃b,dq (fB x.op) x.sp 1099511627776=b:=⟨_,rfl⟩;obtain⟨u1,f1⟩:∃b,(bX x.op || decide (x.ty=0))=b:=⟨_,rfl⟩;obtain⟨u2,f2⟩:∃b,(bX x.op || decide (x.vr=0))=b:=⟨_,rfl⟩;obtain⟨u3,f3⟩:∃b,(fz x.op || decide (x.sc=0))=b:=⟨_,rfl⟩;obtain⟨u4,f4⟩:∃b,(fB x.op || decide (x.sp=0))=b:=⟨_,rfl⟩;have E':=jD (fun W=>io (bX x.op) x.ty 15 W);have G':=jD (fun W=>io (bX x.op) x.vr 15 W);have F':=jD (fun W=>io (fz x.op) x.sc 63 W);have H':=jD (fun W=>io (fB x.op) x.sp 1099511627776 W);have C':=jD (fun W=>gX (bX x.op) x.ty W);have x':=jD (fun W=>gX (bX x.op) x.vr W);have z':=jD (fun W=>gX (fz x.op) x.sc W);have B':=jD (fun W=>gX (fB x.op) x.sp W);obtain⟨z,hz⟩:=jE (fJ x.cond);obtain⟨q,hq⟩:=jE (dX x.cond mf);rw[e1]at E';rw[e2]at G';rw[e3]at F';rw[e4]at H';rw[f1]at C';rw[f2]at x';rw[f3]at z';rw[f4]at B';rw[hz]at n';rw[hq]at m';rw[e1,e2,e3,e4,f1,f2,f3,f4,hz,hq,hn];obtain⟨tb,O'⟩:∃b,bX x.op=b:=⟨_,rfl⟩;obtain⟨cb,M'⟩:∃b,lP x.op=b:=⟨_,rfl⟩;obtain⟨sb,S'⟩:∃b,fz x.op=b:=⟨_,rfl⟩;obtain⟨pb,P'⟩:∃b,fB x.op=b:=⟨_,rfl⟩;rw[O',M',S',P']at l';rw[M'];rw[O']at E' G' C' x';rw[S']at F' z'
 rw[P']at H' B';rw[hn]at hlen;have c0:=l' 0 _ rfl;have c1:=l' 1 _ rfl;have c2:=l' 2 _ rfl;have c3:=l' 3 _ rfl;have c4:=l' 4 _ rfl;have c5:=l' 5 _ rfl;rw[Mc]at c0;obtain⟨R,hR⟩:∃R,R=(if decide (lo<=n/\n<=hi)=false then (15:Int) else if b1=true\/b2=true\/b3=true\/b4=true then 2 else if cb=true/\z≠0 then z else if (cb=false/\q=false)\/u1=false\/u2=false\/u3=false\/u4=false then 3 else 0):=⟨_,rfl⟩;rw[<-hR];have HR:=jD hR;clear hR l' hE R0 hT T' e1 e2 e3 e4 f1 f2 f3 f4 hz hq O' M' S' P' hn V' h1 h2 A';have hg:0<w.heap.size:=K8 w ⟨_,_,none⟩ c0;obtain⟨op,l,ty,vr,sc,sp,⟨A0,l2,H0,P0,N0,⟨k0,n0,t0⟩⟩⟩:=x;unfold ptV;unfold exV at n' m';unfold mf au at m';simp only[Pt.op,Pt.ty,Pt.vr,Pt.sc,Pt.sp,Pt.cond,Ex.op,Ex.vr,Ex.fl,Ex.kd,Ex.val]at hk X' R' E' G' F' H' C' x' z' B' n' m' ⊢;subst hk;have S0:(k:Int)<11:=by omega
 have K1:¬(k:Int)<0:=by omega
 have V0:¬11<=(k:Int):=by omega
 by_cases U1:n<lo
 ·have Y':(n:Int)<(lo:Int):=by omega
  obtain rfl:R=15:=by rw[HR.out,K7 (by rw[LG];omega)]
  clear HR;go_enter func254,ntmps254;go_wp2_with fail
  all_goals first|(exfalso;omega)|(go_ret;exact⟨rfl,jB⟩)
 have Y':¬(n:Int)<(lo:Int):=by omega
 by_cases U0:hi<n
 ·have O0:(hi:Int)<(n:Int):=by omega
  obtain rfl:R=15:=by rw[HR.out,K7 (by rw[LG];omega)]
  clear HR;go_enter func254,ntmps254;go_wp2_with fail
  all_goals first|(exfalso;omega)|(go_ret;exact⟨rfl,jB⟩)
 have O0:¬(hi:Int)<(n:Int):=by omega
 have Z':Hid (R=if b1=true\/b2=true\/b3=true\/b4=true then 2 else if cb=true/\z≠0 then z else if (cb=false/\q=false)\/u1=false\/u2=false\/u3=false\/u4=false then 3 else 0):=jD (by rw[HR.out,K6 (by rw[LG];omega)]);clear HR;have HR:=Z';clear Z';go_enter func254,ntmps254;go_wp2_with fail;refine aw fun W9 e9=>?_
 have y0:KX W9 w.heap.size 0 (KW (k:Int)):=jG e9;have y1:KX W9 w.heap.size 1 (.slice A n c):=jG e9;have y2:KX W9 w.heap.size 2 (KW ty):=jG e9;have y3:KX W9 w.heap.size 3 (KW vr):=jG e9;have y4:KX W9 w.heap.size 4 (KW sc):=jG e9;have y5:KX W9 w.heap.size 5 (KW sp):=jG e9;have y6:KX W9 w.heap.size 6 (KW A0):=jG e9;have y7:KX W9 w.heap.size 7 (.slice Ac nc cc):=jG e9;have y8:KX W9 w.heap.size 8 (KW H0):=jG e9;have y9:KX W9 w.heap.size 9 (KW P0):=jG e9;have a':KX W9 w.heap.size 10 (KW N0):=jG e9;have b':KX W9 w.heap.size 11 (KW k0):=jG e9;have d':KX W9 w.heap.size 12 (KW n0):=jG e9;have c':KX W9 w.heap.size 13 (.string t0):=jG e9;have z0:KX W9 (w.heap.size+1) 0 (KW (lo:Int)):=jG e9;have z1:KX W9 (w.heap.size+1) 1 (KW (hi:Int)):=jG e9;have z2:KX W9 (w.heap.size+1) 2 (.bool tb):=jG e9;have z3:KX W9 (w.heap.size+1) 3 (.bool cb):=jG e9;have z4:KX W9 (w.heap.size+1) 4 (.bool sb):=jG e9;have z5:KX W9 (w.heap.size+1) 5 (.bool pb):=jG e9;have T0:KY w W9:=gb e9;clear e9 c0 c1 c2 c3 c4 c5;clear y0 y1 z0 z1;refine (E'.out _).mono ?_;rintro e T1 ⟨rfl,e'⟩;have L':=ab T0 e';replace y2:=aa e' y2;replace y3:=aa e' y3;replace y4:=aa e' y4;replace y5:=aa e' y5;replace y6:=aa e' y6;replace y7:=aa e' y7;replace y8:=aa e' y8;replace y9:=aa e' y9;replace a':=aa e' a';replace b':=aa e' b';replace d':=aa e' d';replace c':=aa e' c';replace z2:=aa e' z2;replace z3:=aa e' z3;replace z4:=aa e' z4;replace z5:=aa e' z5;clear e'
 cases b1 with
 | true =>
  obtain rfl:R=2:=by rw[HR.out];simp
  clear HR;go_wp2_with fail
  all_goals exact en L'
 | false =>
  go_wp2_with fail;refine (G'.out _).mono ?_;rintro e S1 ⟨rfl,f'⟩;have J':=ab L' f';replace y2:=aa f' y2;replace y3:=aa f' y3;replace y4:=aa f' y4;replace y5:=aa f' y5;replace y6:=aa f' y6;replace y7:=aa f' y7;replace y8:=aa f' y8;replace y9:=aa f' y9;replace a':=aa f' a';replace b':=aa f' b';replace d':=aa f' d';replace c':=aa f' c';replace z2:=aa f' z2;replace z3:=aa f' z3;replace z4:=aa f' z4;replace z5:=aa f' z5;clear f'
  cases b2 with
  | true =>
   obtain rfl:R=2:=by rw[HR.out];simp
   clear HR;go_wp2_with fail
   all_goals exact en J'
  | false =>
   go_wp2_with fail;refine (F'.out _).mono ?_;rintro e Q1 ⟨rfl,h'⟩;have I':=ab J' h';replace y2:=aa h' y2;replace y3:=aa h' y3;replace y4:=aa h' y4;replace y5:=aa h' y5;replace y6:=aa h' y6;replace y7:=aa h' y7;replace y8:=aa h' y8;replace y9:=aa h' y9;replace a':=aa h' a';replace b':=aa h' b';replace d':=aa h' d';replace c':=aa h' c';replace z2:=aa h' z2;replace z3:=aa h' z3;replace z4:=aa h' z4;replace z5:=aa h' z5;clear h'
   cases b3 with
   | true =>
    obtain rfl:R=2:=by rw[HR.out];simp
    clear HR;go_wp2_with fail
    all_goals exact en I'
   | false =>
    go_wp2_with fail;refine (H'.out _).mono ?_;rintro e R1 ⟨rfl,g'⟩;have k':=ab I' g';replace y2:=aa g' y2;replace y3:=aa g' y3;replace y4:=aa g' y4;replace y5:=aa g' y5;replace y6:=aa g' y6;replace y7:=aa g' y7;replace y8:=aa g' y8;replace y9:=aa g' y9;replace a':=aa g' a';replace b':=aa g' b';replace d':=aa g' d';replace c':=aa g' c';replace z2:=aa g' z2;replace z3:=aa g' z3;replace z4:=aa g' z4;replace z5:=aa g' z5;clear g'
    cases b4 with
    | true =>
     obtain rfl:R=2:=by rw[HR.out];simp
     clear HR;go_wp2_with fail
     all_goals exact en k'
    | false =>
     cases cb with
     | true =>
      go_wp2_with fail;refine (n'.out _ k').mono ?_;rintro e wk ⟨rfl,i'⟩;have K0:=ab k' i';replace y2:=aa i' y2;replace y3:=aa i' y3;replace y4:=aa i' y4;replace y5:=aa i' y5;replace y6:=aa i' y6;replace y7:=aa i' y7;replace y8:=aa i' y8;replace y9:=aa i' y9;replace a':=aa i' a';replace b':=aa i' b';replace d':=aa i' d';replace c':=aa i' c';replace z2:=aa i' z2;replace z3:=aa i' z3;replace z4:=aa i' z4;replace z5:=aa i' z5;clear i'
      by_cases U':z=0
      case neg =>
       have bz:(z==0)=false:=jQ U';obtain rfl:R=z:=by rw[HR.out];simp[U']
       clear HR;go_wp2_with fail
       all_goals exact en K0
      obtain rfl:=U';go_wp2_with fail;refine (C'.out _).mono ?_;rintro e X0 ⟨rfl,h⟩;have q':=ab K0 h;replace y2:=aa h y2;replace y3:=aa h y3;replace y4:=aa h y4;replace y5:=aa h y5;replace y6:=aa h y6;replace y7:=aa h y7;replace y8:=aa h y8;replace y9:=aa h y9;replace a':=aa h a';replace b':=aa h b';replace d':=aa h d';replace c':=aa h c';replace z2:=aa h z2;replace z3:=aa h z3;replace z4:=aa h z4;replace z5:=aa h z5;clear h
      cases u1 with
      | false =>
       obtain rfl:R=3:=by rw[HR.out];simp
       clear HR;go_wp2_with fail
       all_goals exact en q'
      | true =>
       go_wp2_with fail;refine (x'.out _).mono ?_;rintro e O1 ⟨rfl,J⟩;have p':=ab q' J;replace y2:=aa J y2;replace y3:=aa J y3;replace y4:=aa J y4;replace y5:=aa J y5;replace y6:=aa J y6;replace y7:=aa J y7;replace y8:=aa J y8;replace y9:=aa J y9;replace a':=aa J a';replace b':=aa J b';replace d':=aa J d';replace c':=aa J c';replace z2:=aa J z2;replace z3:=aa J z3;replace z4:=aa J z4;replace z5:=aa J z5;clear J
       cases u2 with
       | false =>
        obtain rfl:R=3:=by rw[HR.out];simp
        clear HR;go_wp2_with fail
        all_goals exact en p'
       | true =>
        go_wp2_with fail;refine (z'.out _).mono ?_;rintro e Z0 ⟨rfl,I⟩;have y':=ab p' I;replace y2:=aa I y2;replace y3:=aa I y3;replace y4:=aa I y4;replace y5:=aa I y5;replace y6:=aa I y6;replace y7:=aa I y7;replace y8:=aa I y8;replace y9:=aa I y9;replace a':=aa I a';replace b':=aa I b';replace d':=aa I d';replace c':=aa I c';replace z2:=aa I z2;replace z3:=aa I z3;replace z4:=aa I z4;replace z5:=aa I z5;clear I
        cases u3 with
        | false =>
         obtain rfl:R=3:=by rw[HR.out];simp
         clear HR;go_wp2_with fail
         all_goals exact en y'
        | true =>
         go_wp2_with fail;refine (B'.out _).mono ?_;rintro e Y0 ⟨rfl,Z⟩;have u':=ab y' Z;replace y2:=aa Z y2;replace y3:=aa Z y3;replace y4:=aa Z y4;replace y5:=aa Z y5;replace y6:=aa Z y6;replace y7:=aa Z y7;replace y8:=aa Z y8;replace y9:=aa Z y9;replace a':=aa Z a';replace b':=aa Z b';replace d':=aa Z d';replace c':=aa Z c';replace z2:=aa Z z2;replace z3:=aa Z z3;replace z4:=aa Z z4;replace z5:=aa Z z5;clear Z
         cases u4 with
         | false =>
          obtain rfl:R=3:=by rw[HR.out];simp
          clear HR;go_wp2_with fail
          all_goals exact en u'
         | true =>
          obtain rfl:R=0:=by rw[HR.out];simp
          clear HR;go_wp2_with fail
          all_goals exact en u'
     | false =>
      go_wp2_with fail;refine (m'.out _ k').mono ?_;rintro e ws ⟨rfl,j'⟩;have Q0:=ab k' j';replace y2:=aa j' y2;replace y3:=aa j' y3;replace y4:=aa j' y4;replace y5:=aa j' y5;replace y6:=aa j' y6;replace y7:=aa j' y7;replace y8:=aa j' y8;replace y9:=aa j' y9;replace a':=aa j' a';replace b':=aa j' b';replace d':=aa j' d';replace c':=aa j' c';replace z2:=aa j' z2;replace z3:=aa j' z3;replace z4:=aa j' z4;replace z5:=aa j' z5;clear j'
      cases q with
      | false =>
       obtain rfl:R=3:=by rw[HR.out];simp
       clear HR;go_wp2_with fail
       all_goals exact en Q0
      | true =>
       go_wp2_with fail;refine (C'.out _).mono ?_;rintro e P1 ⟨rfl,O⟩;have r':=ab Q0 O;replace y2:=aa O y2;replace y3:=aa O y3;replace y4:=aa O y4;replace y5:=aa O y5;replace y6:=aa O y6;replace y7:=aa O y7;replace y8:=aa O y8;replace y9:=aa O y9;replace a':=aa O a';replace b':=aa O b';replace d':=aa O d';replace c':=aa O c';replace z2:=aa O z2;replace z3:=aa O z3;replace z4:=aa O z4;replace z5:=aa O z5;clear O
       cases u1 with
       | false =>
        obtain rfl:R=3:=by rw[HR.out];simp
        clear HR;go_wp2_with fail
        all_goals exact en r'
       | true =>
        go_wp2_with fail;refine (x'.out _).mono ?_;rintro e N1 ⟨rfl,F⟩;have s':=ab r' F;replace y2:=aa F y2;replace y3:=aa F y3;replace y4:=aa F y4;replace y5:=aa F y5;replace y6:=aa F y6;replace y7:=aa F y7;replace y8:=aa F y8;replace y9:=aa F y9;replace a':=aa F a';replace b':=aa F b';replace d':=aa F d';replace c':=aa F c';replace z2:=aa F z2;replace z3:=aa F z3;replace z4:=aa F z4;replace z5:=aa F z5;clear F
        cases u2 with
        | false =>
         obtain rfl:R=3:=by rw[HR.out];simp
         clear HR;go_wp2_with fail
         all_goals exact en s'
        | true =>
         go_wp2_with fail;refine (z'.out _).mono ?_;rintro e A1 ⟨rfl,D⟩;have D':=ab s' D;replace y2:=aa D y2;replace y3:=aa D y3;replace y4:=aa D y4;replace y5:=aa D y5;replace y6:=aa D y6;replace y7:=aa D y7;replace y8:=aa D y8;replace y9:=aa D y9;replace a':=aa D a';replace b':=aa D b';replace d':=aa D d';replace c':=aa D c';replace z2:=aa D z2;replace z3:=aa D z3;replace z4:=aa D z4;replace z5:=aa D z5;clear D
         cases u3 with
         | false =>
          obtain rfl:R=3:=by rw[HR.out];simp
          clear HR;go_wp2_with fail
          all_goals exact en D'
         | true =>
          go_wp2_with fail;refine (B'.out _).mono ?_;rintro e M1 ⟨rfl,G⟩;have t':=ab D' G;replace y2:=aa G y2;replace y3:=aa G y3;replace y4:=aa G y4;replace y5:=aa G y5;replace y6:=aa G y6;replace y7:=aa G y7;replace y8:=aa G y8;replace y9:=aa G y9;replace a':=aa G a';replace b':=aa G b';replace d':=aa G d';replace c':=aa G c';replace z2:=aa G z2;replace z3:=aa G z3;replace z4:=aa G z4;replace z5:=aa G z5;clear G
          cases u4 with
          | false =>
           obtain rfl:R=3:=by rw[HR.out];simp
           clear HR;go_wp2_with fail
           all_goals exact en t'
          | true =>
           obtain rfl:R=0:=by rw[HR.out];simp
           clear HR;go_wp2_with fail
           all_goals exact en t'
end Go.Proofs.YtokconodddedhaaGreatDoor
