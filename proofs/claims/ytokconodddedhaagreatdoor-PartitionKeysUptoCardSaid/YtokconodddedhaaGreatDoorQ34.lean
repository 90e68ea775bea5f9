/- Part. -/
import Derived.Test.YtokconodddedhaaGreatDoorQ53
import Derived.Test.YtokconodddedhaaGreatDoorQ16
set_option maxRecDepth 100000
set_option maxHeartbeats 16000000
set_option linter.unusedVariables false
set_option linter.unusedSimpArgs false
namespace Go.Proofs.YtokconodddedhaaGreatDoor
open Go.Proofs.Tryz Go.RowKit
def rM (op:Int):Bool:=decide (op=5\/op=9)
abbrev P14 (W:World) (X:Nat) (A:Option Addr) (c:Nat) (Ac:Option Addr) (G J n:Nat) (op ty vr I sp h z F D O n0:Int) (t0:ByteArray):Prop:=W.cell? ⟨X,0,none⟩=some (KW op)/\W.cell? ⟨X,1,none⟩=some (.slice A n c)/\W.cell? ⟨X,2,none⟩=some (KW ty)/\W.cell? ⟨X,3,none⟩=some (KW vr)/\W.cell? ⟨X,4,none⟩=some (KW I)/\W.cell? ⟨X,5,none⟩=some (KW sp)/\W.cell? ⟨X,6,none⟩=some (KW h)/\W.cell? ⟨X,7,none⟩=some (.slice Ac G J)/\W.cell? ⟨X,8,none⟩=some (KW z)/\W.cell? ⟨X,9,none⟩=some (KW F)/\W.cell? ⟨X,10,none⟩=some (KW D)/\W.cell? ⟨X,11,none⟩=some (KW O)/\W.cell? ⟨X,12,none⟩=some (KW n0)/\W.cell? ⟨X,13,none⟩=some (.string t0)
theorem P14.stays {w W:World} {X:Nat} {A:Option Addr} {c:Nat} {Ac:Option Addr} {nc cc n:Nat} {op ty vr sc sp D F I G k0 n0:Int} {t0:ByteArray} (h:P14 w X A c Ac nc cc n op ty vr sc sp D F I G k0 n0 t0) (z:KY w W):P14 W X A c Ac nc cc n op ty vr sc sp D F I G k0 n0 t0:=by
 obtain⟨y0,y1,y2,y3,y4,y5,y6,y7,y8,y9,J,a',Z,O⟩:=h;exact⟨aa z y0,aa z y1,aa z y2,aa z y3,aa z y4,aa z y5,aa z y6,aa z y7,aa z y8,aa z y9,aa z J,aa z a',aa z Z,aa z O⟩
theorem fP {w W:World} {t:TypeId} {A:Option Addr} {c:Nat} {Ac:Option Addr} {I O n:Nat} {op ty vr J sp z D G F Z n0:Int} {t0:ByteArray} (hb:Below (w.alloc (.cells #[.int .i64 op,.slice A n c,.int .i64 ty,.int .i64 vr,.int .i64 J,.int .i64 sp,.int .i64 z,.slice Ac I O,.int .i64 D,.int .i64 G,.int .i64 F,.int .i64 Z,.int .i64 n0,.string t0] t)).heap.size (w.alloc (.cells #[.int .i64 op,.slice A n c,.int .i64 ty,.int .i64 vr,.int .i64 J,.int .i64 sp,.int .i64 z,.slice Ac I O,.int .i64 D,.int .i64 G,.int .i64 F,.int .i64 Z,.int .i64 n0,.string t0] t)) W):P14 W w.heap.size A c Ac I O n op ty vr J sp z D G F Z n0 t0:=by
 have h:=(aY hb).1;exact⟨by rw[h];rfl,by rw[h];rfl,by rw[h];rfl,by rw[h];rfl,by rw[h];rfl,by rw[h];rfl,by rw[h];rfl,by rw[h];rfl,by rw[h];rfl,by rw[h];rfl,by rw[h];rfl,by rw[h];rfl,by rw[h];rfl,by rw[h];rfl⟩
theorem rd (x:Pt) (v:Value) (Ac:Option Addr) (F O:Nat) (w:World):KZ 142 #[ptV x v (.slice Ac F O)] w (.bool (rM x.op)):=by
 obtain⟨op,l,ty,vr,sc,sp,⟨G,l2,J,D,Z,⟨k0,n0,t0⟩⟩⟩:=x;unfold ptV;simp only[Pt.op,Pt.ty,Pt.vr,Pt.sc,Pt.sp,Pt.cond,Ex.op,Ex.vr,Ex.fl,Ex.kd,Ex.val]
 by_cases h:op=5
 ·subst h;go_enter func142,ntmps142;go_wp2;go_ret;exact⟨rfl,ag w _⟩
 ·have I:(op==5)=false:=jQ h
  by_cases z:op=9
  ·subst z;go_enter func142,ntmps142;go_wp2;go_ret;exact⟨rfl,ag w _⟩
  ·have a':(op==9)=false:=jQ z;have e:rM op=false:=by simp[rM,h,z]
   rw[e];clear e;go_enter func142,ntmps142;go_wp2;go_ret;exact⟨rfl,ag w _⟩
theorem wT (x:Pt) (v:Value) (Ac:Option Addr) (F O:Nat) (w:World):KZ 143 #[ptV x v (.slice Ac F O)] w (.bool (fB x.op)):=by
 obtain⟨op,l,ty,vr,sc,sp,⟨G,l2,J,D,Z,⟨k0,n0,t0⟩⟩⟩:=x;unfold ptV;simp only[Pt.op,Pt.ty,Pt.vr,Pt.sc,Pt.sp,Pt.cond,Ex.op,Ex.vr,Ex.fl,Ex.kd,Ex.val]
 by_cases h:op=6
 ·subst h;go_enter func143,ntmps143;go_wp2;go_ret;exact⟨rfl,ag w _⟩
 ·have I:(op==6)=false:=jQ h
  by_cases z:op=10
  ·subst z;go_enter func143,ntmps143;go_wp2;go_ret;exact⟨rfl,ag w _⟩
  ·have a':(op==10)=false:=jQ z;have e:fB op=false:=by simp[fB,h,z]
   rw[e];clear e;go_enter func143,ntmps143;go_wp2;go_ret;exact⟨rfl,ag w _⟩
theorem pF (x:Pt) (v:Value) (Ac:Option Addr) (J O:Nat) (w:World):KZ 141 #[ptV x v (.slice Ac J O)] w (.bool (bX x.op)):=by
 have h:=jD (fun W=>rd x v Ac J O W)
 by_cases h0:x.op=0
 ·have e:bX x.op=true:=by simp[bX,h0]
  rw[e];clear e h;obtain⟨op,l,ty,vr,sc,sp,⟨D,l2,F,z,G,⟨k0,n0,t0⟩⟩⟩:=x;unfold ptV;simp only[Pt.op,Pt.ty,Pt.vr,Pt.sc,Pt.sp,Pt.cond,Ex.op,Ex.vr,Ex.fl,Ex.kd,Ex.val]at h0 ⊢;subst h0;go_enter func141,ntmps141;go_wp2;go_ret;exact⟨rfl,ag w _⟩
 ·have e:bX x.op=rM x.op:=by simp[bX,rM,h0]
  rw[e];clear e;obtain⟨r,hr⟩:=jE (rM x.op);rw[hr]at h ⊢;clear hr;obtain⟨op,l,ty,vr,sc,sp,⟨D,l2,F,z,G,⟨k0,n0,t0⟩⟩⟩:=x;unfold ptV at h ⊢;simp only[Pt.op,Pt.ty,Pt.vr,Pt.sc,Pt.sp,Pt.cond,Ex.op,Ex.vr,Ex.fl,Ex.kd,Ex.val]at h0 h ⊢;have Z:(op==0)=false:=jQ h0;go_enter func141,ntmps141;go_wp2_with fail;refine (h.out _).mono ?_;rintro e w1 ⟨rfl,I⟩;go_wp2;go_ret;exact⟨rfl,ab (ag w _) I⟩
theorem E5 (x:Pt) (v:Value) (Ac:Option Addr) (I J:Nat) (w:World):KZ 268 #[ptV x v (.slice Ac I J)] w (.bool (lP x.op)):=by
 have D:=jD (fun W=>pF x v Ac I J W);obtain⟨r,hr⟩:=jE (bX x.op);have e:lP x.op=(r || decide (x.op=7)):=by rw[<-hr];unfold lP bX;by_cases h:x.op=7<;>simp[h]
 rw[hr]at D;rw[e];clear e hr;obtain⟨op,l,ty,vr,sc,sp,⟨Z,l2,a',O,c',⟨k0,n0,t0⟩⟩⟩:=x;unfold ptV at D ⊢;simp only[Pt.op,Pt.ty,Pt.vr,Pt.sc,Pt.sp,Pt.cond,Ex.op,Ex.vr,Ex.fl,Ex.kd,Ex.val]at D ⊢
 cases r with
 | true =>
  rw[Bool.true_or];go_enter func268,ntmps268;go_wp2_with fail;refine (D.out _).mono ?_;rintro e F ⟨rfl,z⟩;go_wp2;go_ret;exact⟨rfl,ab (ag w _) z⟩
 | false =>
  rw[Bool.false_or]
  by_cases G:op=7
  ·subst G;go_enter func268,ntmps268;go_wp2_with fail;refine (D.out _).mono ?_;rintro e F ⟨rfl,z⟩;have y0:F.cell? ⟨w.heap.size,0,none⟩=some (KW 7):=by rw[(aY z).1];rfl
   go_wp2;go_ret;exact⟨rfl,ab (ag w _) z⟩
  ·have b':(op==7)=false:=jQ G;simp only[G,MT];go_enter func268,ntmps268;go_wp2_with fail;refine (D.out _).mono ?_;rintro e F ⟨rfl,z⟩;have y0:F.cell? ⟨w.heap.size,0,none⟩=some (KW op):=by rw[(aY z).1];rfl
   go_wp2;go_ret;exact⟨rfl,ab (ag w _) z⟩
theorem lS (u:Bool) (n m:Int) (w:World):KZ 269 #[.bool u,KW n,KW m] w (.bool (dq u n m)):=by
 obtain⟨r,hr⟩:=jE (dq u n m);rw[hr];unfold dq at hr
 cases u with
 | false =>
  subst hr;go_enter func269,ntmps269;go_wp2;go_ret;exact⟨rfl,La _ _⟩
 | true =>
  by_cases h0:n<0
  ·obtain rfl:r=true:=by rw[<-hr];simp[h0]
   clear hr;go_enter func269,ntmps269;go_wp2;go_ret;exact⟨rfl,La _ _⟩
  ·by_cases h:m<n
   ·obtain rfl:r=true:=by rw[<-hr];simp[h]
    clear hr;go_enter func269,ntmps269;go_wp2;go_ret;exact⟨rfl,La _ _⟩
   ·obtain rfl:r=false:=by rw[<-hr];simp[h0,h]
    clear hr;go_enter func269,ntmps269;go_wp2;go_ret;exact⟨rfl,La _ _⟩
theorem EJ (x:Pt) (A:Option Addr) (c:Nat) (Ac:Option Addr) (O cc:Nat) (w:World):KZ 267 #[ptV x (.slice A x.args.length c) (.slice Ac O cc)] w (.bool (gU x.op x.args.length)):=by
 obtain⟨n,I⟩:=jE x.args.length;rw[I];clear I;obtain⟨r,hr⟩:=jE (gU x.op n);rw[hr];obtain⟨op,l,ty,vr,sc,sp,⟨Z,l2,a',J,b',⟨k0,n0,t0⟩⟩⟩:=x;unfold ptV;simp only[Pt.op,Pt.ty,Pt.vr,Pt.sc,Pt.sp,Pt.cond,Ex.op,Ex.vr,Ex.fl,Ex.kd,Ex.val]at hr ⊢;unfold gU at hr
 by_cases h0:op=0
 ·subst h0;have z:r=((n:Int)==0):=by rw[<-hr,K7 rfl,LW];simp
  rw[z];clear hr z;go_enter func267,ntmps267;go_wp2;go_ret;exact⟨by simp,ag w _⟩
 ·rw[K6 h0]at hr;have G:(op==0)=false:=jQ h0
  by_cases F:1<=op/\op<=3
  ·rw[K7 F]at hr;have z:r=decide (2<=(n:Int)):=by rw[<-hr];exact decide_eq_decide.2 om
   rw[z];clear hr z h0;obtain rfl|rfl|rfl:op=1\/op=2\/op=3:=by omega
   all_goals
    go_enter func267,ntmps267;go_wp2;go_ret;exact⟨by simp,ag w _⟩
  ·rw[K6 F]at hr;have g1:(op==1)=false:=by simp;omega
   have g2:(op==2)=false:=by simp;omega
   have g3:(op==3)=false:=by simp;omega
   by_cases D:op=8
   ·rw[K7 D]at hr;have z:r=((n:Int)==2):=by rw[<-hr];by_cases h:n=2<;>simp[h]<;>omega
    rw[z];clear hr z h0 F g1 g2 g3 G;subst D;go_enter func267,ntmps267;go_wp2;go_ret;exact⟨by simp,ag w _⟩
   ·rw[K6 D]at hr;have c':(op==8)=false:=jQ D;have z:r=((n:Int)==1):=by rw[<-hr];by_cases h:n=1<;>simp[h]<;>omega
    rw[z];clear hr z h0 F D;go_enter func267,ntmps267;go_wp2;go_ret;exact⟨by simp,ag w _⟩
structure NdH (A:Option Addr) (c:Nat) (Ac:Option Addr) (cc nc n:Nat) (z:Int) (q vb cb pb nb sb b1 b2 b3 b4:Bool) (op ty vr sc sp op2 vr2 fl2 kd2 k0 n0:Int) (t0:ByteArray) (w:World):Prop where
 ck:∀W,KY w W->KZ 270 #[.agg #[KW op2,.slice Ac nc cc,KW vr2,KW fl2,KW kd2,KW k0,KW n0,.string t0]] W (KW z)
 sm:∀W,KY w W->KZ 271 #[.agg #[KW op2,.slice Ac nc cc,KW vr2,KW fl2,KW kd2,KW k0,KW n0,.string t0],.agg #[KW 0,.slice none 0 0,KW 0,KW 0,KW 0,KW 0,KW 0,.string ⟨#[]⟩]] W (.bool q)
 ar:∀W,KZ 267 #[.agg #[KW op,.slice A n c,KW ty,KW vr,KW sc,KW sp,KW op2,.slice Ac nc cc,KW vr2,KW fl2,KW kd2,KW k0,KW n0,.string t0]] W (.bool true)
 va:∀W,KZ 141 #[.agg #[KW op,.slice A n c,KW ty,KW vr,KW sc,KW sp,KW op2,.slice Ac nc cc,KW vr2,KW fl2,KW kd2,KW k0,KW n0,.string t0]] W (.bool vb)
 ng:∀W,KZ 142 #[.agg #[KW op,.slice A n c,KW ty,KW vr,KW sc,KW sp,KW op2,.slice Ac nc cc,KW vr2,KW fl2,KW kd2,KW k0,KW n0,.string t0]] W (.bool nb)
 tm:∀W,KZ 143 #[.agg #[KW op,.slice A n c,KW ty,KW vr,KW sc,KW sp,KW op2,.slice Ac nc cc,KW vr2,KW fl2,KW kd2,KW k0,KW n0,.string t0]] W (.bool pb)
 co:∀W,KZ 268 #[.agg #[KW op,.slice A n c,KW ty,KW vr,KW sc,KW sp,KW op2,.slice Ac nc cc,KW vr2,KW fl2,KW kd2,KW k0,KW n0,.string t0]] W (.bool cb)
 w1:∀W,KZ 269 #[.bool vb,KW ty,KW 15] W (.bool b1)
 w2:∀W,KZ 269 #[.bool vb,KW vr,KW 15] W (.bool b2)
 w3:∀W,KZ 269 #[.bool sb,KW sc,KW 63] W (.bool b3)
 w4:∀W,KZ 269 #[.bool pb,KW sp,KW 1099511627776] W (.bool b4)
theorem DX (A:Option Addr) (c:Nat) (Ac:Option Addr) (cc nc n:Nat) (z:Int) (q vb cb pb:Bool) (b2 b3 b4:Bool) (op ty vr sc sp Z a' g' e' k0 n0:Int) (t0:ByteArray) (w:World) (R:Int) (q':¬op<0) (m':¬10<op)
  (H:NdH A c Ac cc nc n z q vb cb pb true true true b2 b3 b4 op ty vr sc sp Z a' g' e' k0 n0 t0 w)
  (HR:Hid (R=2)) :
  KZ 197 #[.agg #[KW op,.slice A n c,KW ty,KW vr,KW sc,KW sp,KW Z,.slice Ac nc cc,KW a',KW g',KW e',KW k0,KW n0,.string t0]] w (KW R):=by
 go_enter func197,ntmps197;go_wp2_with fail;refine (H.ar _).mono ?_;rintro e w1 ⟨rfl,h'⟩;have G:=jD (fP h');obtain⟨y0,y1,y2,y3,y4,y5,y6,y7,y8,y9,O,d',f',c'⟩:=G.out;have j':=jD (ab (ag w _) h');clear h';go_wp2_with fail;refine rgn (fun W=>KY w1 W/\P14 W w.heap.size A c Ac nc cc n op ty vr sc sp Z a' g' e' k0 n0 t0) (Below w1.heap.size w1) (fun W hW=>⟨hW,G.out.stays hW⟩) ((La _ _).drew) (fun F h=>?_);generalize w1.drew=wDa at h ⊢;refine tkH [0,2,8] ?_;refine nxH 1 (fun K I=>?_)
 focus (go_simp;refine (H.va _).mono ?_;rintro e l' ⟨rfl,D⟩)
 refine I.out _ _ (F _ (ab h.1 D)) (fun h=>?_);clear I K;refine nxH 3 (fun K I=>?_)
 focus (go_simp;refine (H.ng _).mono ?_;rintro e n' ⟨rfl,D⟩)
 refine I.out _ _ (F _ (ab h.1 D)) (fun h=>?_);clear I K;refine tkH [4] ?_;refine tkS [5,6] ?_;refine tkH [7] ?_;refine nxH 9 (fun K I=>?_)
 focus (go_simp;refine (H.co _).mono ?_;rintro e b' ⟨rfl,D⟩)
 refine I.out _ _ (F _ (ab h.1 D)) (fun h=>?_);clear I K;refine tkH [10,11,12] ?_;refine wpAnyH_done kr (NoPanic.normal ?_) _;rotate_left 1;clear F G y0 y1 y2 y3 y4 y5 y6 y7 y8 y9 O d' f' c';obtain⟨J,G⟩:=h;replace G:=jD G;obtain⟨y0,y1,y2,y3,y4,y5,y6,y7,y8,y9,O,d',f',c'⟩:=G.out;have i':=jD (ab j'.out J);clear J;go_wp2_with fail;refine rgn (fun W=>KY b' W/\P14 W w.heap.size A c Ac nc cc n op ty vr sc sp Z a' g' e' k0 n0 t0) (Below b'.heap.size b') (fun W hW=>⟨hW,G.out.stays hW⟩) ((La _ _).drew) (fun F h=>?_);generalize b'.drew=wDb at h ⊢;refine tkH [0,1,2] ?_;refine nxH 3 (fun K I=>?_)
 focus (go_simp;refine (H.w1 _).mono ?_;rintro e p' ⟨rfl,D⟩)
 refine I.out _ _ (F _ (ab h.1 D)) (fun h=>?_);clear I K;refine tkH [4] ?_;refine tkS [5,6,7,8] ?_;refine tkH [9,10] ?_;refine tkS [11,12,13,14] ?_;refine tkH [15,16] ?_;refine tkS [17,18,19,20,21] ?_;refine tkH [22] ?_;refine wpAnyH_done kr (NoPanic.normal ?_) _;rotate_left 1;clear F G y0 y1 y2 y3 y4 y5 y6 y7 y8 y9 O d' f' c';obtain⟨J,G⟩:=h;replace G:=jD G;obtain⟨y0,y1,y2,y3,y4,y5,y6,y7,y8,y9,O,d',f',c'⟩:=G.out;have k':=jD (ab i'.out J);clear J;obtain rfl:R=2:=HR.out;clear HR;go_wp2_with fail
 all_goals exact en k'.out
theorem Dn (A:Option Addr) (c:Nat) (Ac:Option Addr) (cc nc n:Nat) (z:Int) (q vb cb pb:Bool) (b3 b4:Bool) (op ty vr sc sp Z a' g' e' k0 n0:Int) (t0:ByteArray) (w:World) (R:Int) (r':¬op<0) (m':¬10<op)
  (H:NdH A c Ac cc nc n z q vb cb pb true true false true b3 b4 op ty vr sc sp Z a' g' e' k0 n0 t0 w)
  (HR:Hid (R=2)) :
  KZ 197 #[.agg #[KW op,.slice A n c,KW ty,KW vr,KW sc,KW sp,KW Z,.slice Ac nc cc,KW a',KW g',KW e',KW k0,KW n0,.string t0]] w (KW R):=by
 go_enter func197,ntmps197;go_wp2_with fail;refine (H.ar _).mono ?_;rintro e w1 ⟨rfl,h'⟩;have I:=jD (fP h');obtain⟨y0,y1,y2,y3,y4,y5,y6,y7,y8,y9,O,d',f',c'⟩:=I.out;have j':=jD (ab (ag w _) h');clear h';go_wp2_with fail;refine rgn (fun W=>KY w1 W/\P14 W w.heap.size A c Ac nc cc n op ty vr sc sp Z a' g' e' k0 n0 t0) (Below w1.heap.size w1) (fun W hW=>⟨hW,I.out.stays hW⟩) ((La _ _).drew) (fun F h=>?_);generalize w1.drew=wDa at h ⊢;refine tkH [0,2,8] ?_;refine nxH 1 (fun K G=>?_)
 focus (go_simp;refine (H.va _).mono ?_;rintro e l' ⟨rfl,D⟩)
 refine G.out _ _ (F _ (ab h.1 D)) (fun h=>?_);clear G K;refine nxH 3 (fun K G=>?_)
 focus (go_simp;refine (H.ng _).mono ?_;rintro e n' ⟨rfl,D⟩)
 refine G.out _ _ (F _ (ab h.1 D)) (fun h=>?_);clear G K;refine tkH [4] ?_;refine tkS [5,6] ?_;refine tkH [7] ?_;refine nxH 9 (fun K G=>?_)
 focus (go_simp;refine (H.co _).mono ?_;rintro e b' ⟨rfl,D⟩)
 refine G.out _ _ (F _ (ab h.1 D)) (fun h=>?_);clear G K;refine tkH [10,11,12] ?_;refine wpAnyH_done kr (NoPanic.normal ?_) _;rotate_left 1;clear F I y0 y1 y2 y3 y4 y5 y6 y7 y8 y9 O d' f' c';obtain⟨J,I⟩:=h;replace I:=jD I;obtain⟨y0,y1,y2,y3,y4,y5,y6,y7,y8,y9,O,d',f',c'⟩:=I.out;have i':=jD (ab j'.out J);clear J;go_wp2_with fail;refine rgn (fun W=>KY b' W/\P14 W w.heap.size A c Ac nc cc n op ty vr sc sp Z a' g' e' k0 n0 t0) (Below b'.heap.size b') (fun W hW=>⟨hW,I.out.stays hW⟩) ((La _ _).drew) (fun F h=>?_);generalize b'.drew=wDb at h ⊢;refine tkH [0,1,2] ?_;refine nxH 3 (fun K G=>?_)
 focus (go_simp;refine (H.w1 _).mono ?_;rintro e q' ⟨rfl,D⟩)
 refine G.out _ _ (F _ (ab h.1 D)) (fun h=>?_);clear G K;refine tkH [4,5,6,7] ?_;refine nxH 8 (fun K G=>?_)
 focus (go_simp;refine (H.w2 _).mono ?_;rintro e p' ⟨rfl,D⟩)
 refine G.out _ _ (F _ (ab h.1 D)) (fun h=>?_);clear G K;refine tkH [9,10] ?_;refine tkS [11,12,13,14] ?_;refine tkH [15,16] ?_;refine tkS [17,18,19,20,21] ?_;refine tkH [22] ?_;refine wpAnyH_done kr (NoPanic.normal ?_) _;rotate_left 1;clear F I y0 y1 y2 y3 y4 y5 y6 y7 y8 y9 O d' f' c';obtain⟨J,I⟩:=h;replace I:=jD I;obtain⟨y0,y1,y2,y3,y4,y5,y6,y7,y8,y9,O,d',f',c'⟩:=I.out;have k':=jD (ab i'.out J);clear J;obtain rfl:R=2:=HR.out;clear HR;go_wp2_with fail
 all_goals exact en k'.out
theorem Do (A:Option Addr) (c:Nat) (Ac:Option Addr) (cc nc n:Nat) (z:Int) (q vb cb pb:Bool) (b4:Bool) (op ty vr sc sp Z a' g' e' k0 n0:Int) (t0:ByteArray) (w:World) (R:Int) (s':¬op<0) (n':¬10<op)
  (H:NdH A c Ac cc nc n z q vb cb pb true true false false true b4 op ty vr sc sp Z a' g' e' k0 n0 t0 w)
  (HR:Hid (R=2)) :
  KZ 197 #[.agg #[KW op,.slice A n c,KW ty,KW vr,KW sc,KW sp,KW Z,.slice Ac nc cc,KW a',KW g',KW e',KW k0,KW n0,.string t0]] w (KW R):=by
 go_enter func197,ntmps197;go_wp2_with fail;refine (H.ar _).mono ?_;rintro e w1 ⟨rfl,h'⟩;have I:=jD (fP h');obtain⟨y0,y1,y2,y3,y4,y5,y6,y7,y8,y9,O,d',f',c'⟩:=I.out;have j':=jD (ab (ag w _) h');clear h';go_wp2_with fail;refine rgn (fun W=>KY w1 W/\P14 W w.heap.size A c Ac nc cc n op ty vr sc sp Z a' g' e' k0 n0 t0) (Below w1.heap.size w1) (fun W hW=>⟨hW,I.out.stays hW⟩) ((La _ _).drew) (fun F h=>?_);generalize w1.drew=wDa at h ⊢;refine tkH [0,2,8] ?_;refine nxH 1 (fun K G=>?_)
 focus (go_simp;refine (H.va _).mono ?_;rintro e m' ⟨rfl,D⟩)
 refine G.out _ _ (F _ (ab h.1 D)) (fun h=>?_);clear G K;refine nxH 3 (fun K G=>?_)
 focus (go_simp;refine (H.ng _).mono ?_;rintro e p' ⟨rfl,D⟩)
 refine G.out _ _ (F _ (ab h.1 D)) (fun h=>?_);clear G K;refine tkH [4] ?_;refine tkS [5,6] ?_;refine tkH [7] ?_;refine nxH 9 (fun K G=>?_)
 focus (go_simp;refine (H.co _).mono ?_;rintro e b' ⟨rfl,D⟩)
 refine G.out _ _ (F _ (ab h.1 D)) (fun h=>?_);clear G K;refine tkH [10,11,12] ?_;refine wpAnyH_done kr (NoPanic.normal ?_) _;rotate_left 1;clear F I y0 y1 y2 y3 y4 y5 y6 y7 y8 y9 O d' f' c';obtain⟨J,I⟩:=h;replace I:=jD I;obtain⟨y0,y1,y2,y3,y4,y5,y6,y7,y8,y9,O,d',f',c'⟩:=I.out;have i':=jD (ab j'.out J);clear J;go_wp2_with fail;refine rgn (fun W=>KY b' W/\P14 W w.heap.size A c Ac nc cc n op ty vr sc sp Z a' g' e' k0 n0 t0) (Below b'.heap.size b') (fun W hW=>⟨hW,I.out.stays hW⟩) ((La _ _).drew) (fun F h=>?_);generalize b'.drew=wDb at h ⊢;refine tkH [0,1,2] ?_;refine nxH 3 (fun K G=>?_)
 focus (go_simp;refine (H.w1 _).mono ?_;rintro e r' ⟨rfl,D⟩)
 refine G.out _ _ (F _ (ab h.1 D)) (fun h=>?_);clear G K;refine tkH [4,5,6,7] ?_;refine nxH 8 (fun K G=>?_)
 focus (go_simp;refine (H.w2 _).mono ?_;rintro e q' ⟨rfl,D⟩)
 refine G.out _ _ (F _ (ab h.1 D)) (fun h=>?_);clear G K;refine tkH [9,10,11,12,13] ?_;refine nxH 14 (fun K G=>?_)
 focus (go_simp;refine (H.w3 _).mono ?_;rintro e l' ⟨rfl,D⟩)
 refine G.out _ _ (F _ (ab h.1 D)) (fun h=>?_);clear G K;refine tkH [15,16] ?_;refine tkS [17,18,19,20,21] ?_;refine tkH [22] ?_;refine wpAnyH_done kr (NoPanic.normal ?_) _;rotate_left 1;clear F I y0 y1 y2 y3 y4 y5 y6 y7 y8 y9 O d' f' c';obtain⟨J,I⟩:=h;replace I:=jD I;obtain⟨y0,y1,y2,y3,y4,y5,y6,y7,y8,y9,O,d',f',c'⟩:=I.out;have k':=jD (ab i'.out J);clear J;obtain rfl:R=2:=HR.out;clear HR;go_wp2_with fail
 all_goals exact en k'.out
theorem Cy (A:Option Addr) (c:Nat) (Ac:Option Addr) (cc nc n:Nat) (z:Int) (q vb cb pb:Bool) (op ty vr sc sp Z a' g' e' k0 n0:Int) (t0:ByteArray) (w:World) (R:Int) (u':¬op<0) (q':¬10<op)
  (H:NdH A c Ac cc nc n z q vb cb pb true true false false false true op ty vr sc sp Z a' g' e' k0 n0 t0 w)
  (HR:Hid (R=2)) :
  KZ 197 #[.agg #[KW op,.slice A n c,KW ty,KW vr,KW sc,KW sp,KW Z,.slice Ac nc cc,KW a',KW g',KW e',KW k0,KW n0,.string t0]] w (KW R):=by
 go_enter func197,ntmps197;go_wp2_with fail;refine (H.ar _).mono ?_;rintro e w1 ⟨rfl,h'⟩;have I:=jD (fP h');obtain⟨y0,y1,y2,y3,y4,y5,y6,y7,y8,y9,O,d',f',c'⟩:=I.out;have j':=jD (ab (ag w _) h');clear h';go_wp2_with fail;refine rgn (fun W=>KY w1 W/\P14 W w.heap.size A c Ac nc cc n op ty vr sc sp Z a' g' e' k0 n0 t0) (Below w1.heap.size w1) (fun W hW=>⟨hW,I.out.stays hW⟩) ((La _ _).drew) (fun G h=>?_);generalize w1.drew=wDa at h ⊢;refine tkH [0,2,8] ?_;refine nxH 1 (fun K F=>?_)
 focus (go_simp;refine (H.va _).mono ?_;rintro e p' ⟨rfl,D⟩)
 refine F.out _ _ (G _ (ab h.1 D)) (fun h=>?_);clear F K;refine nxH 3 (fun K F=>?_)
 focus (go_simp;refine (H.ng _).mono ?_;rintro e r' ⟨rfl,D⟩)
 refine F.out _ _ (G _ (ab h.1 D)) (fun h=>?_);clear F K;refine tkH [4] ?_;refine tkS [5,6] ?_;refine tkH [7] ?_;refine nxH 9 (fun K F=>?_)
 focus (go_simp;refine (H.co _).mono ?_;rintro e b' ⟨rfl,D⟩)
 refine F.out _ _ (G _ (ab h.1 D)) (fun h=>?_);clear F K;refine tkH [10,11,12] ?_;refine wpAnyH_done kr (NoPanic.normal ?_) _;rotate_left 1;clear G I y0 y1 y2 y3 y4 y5 y6 y7 y8 y9 O d' f' c';obtain⟨J,I⟩:=h;replace I:=jD I;obtain⟨y0,y1,y2,y3,y4,y5,y6,y7,y8,y9,O,d',f',c'⟩:=I.out;have i':=jD (ab j'.out J);clear J;go_wp2_with fail;refine rgn (fun W=>KY b' W/\P14 W w.heap.size A c Ac nc cc n op ty vr sc sp Z a' g' e' k0 n0 t0) (Below b'.heap.size b') (fun W hW=>⟨hW,I.out.stays hW⟩) ((La _ _).drew) (fun G h=>?_);generalize b'.drew=wDb at h ⊢;refine tkH [0,1,2] ?_;refine nxH 3 (fun K F=>?_)
 focus (go_simp;refine (H.w1 _).mono ?_;rintro e t' ⟨rfl,D⟩)
 refine F.out _ _ (G _ (ab h.1 D)) (fun h=>?_);clear F K;refine tkH [4,5,6,7] ?_;refine nxH 8 (fun K F=>?_)
 focus (go_simp;refine (H.w2 _).mono ?_;rintro e s' ⟨rfl,D⟩)
 refine F.out _ _ (G _ (ab h.1 D)) (fun h=>?_);clear F K;refine tkH [9,10,11,12,13] ?_;refine nxH 14 (fun K F=>?_)
 focus (go_simp;refine (H.w3 _).mono ?_;rintro e l' ⟨rfl,D⟩)
 refine F.out _ _ (G _ (ab h.1 D)) (fun h=>?_);clear F K;refine tkH [15,16,17,19,20] ?_;refine nxH 18 (fun K F=>?_)
 focus (go_simp;refine (H.tm _).mono ?_;rintro e m' ⟨rfl,D⟩)
 refine F.out _ _ (G _ (ab h.1 D)) (fun h=>?_);clear F K;refine nxH 21 (fun K F=>?_)
 focus (go_simp;refine (H.w4 _).mono ?_;rintro e n' ⟨rfl,D⟩)
 refine F.out _ _ (G _ (ab h.1 D)) (fun h=>?_);clear F K;refine tkH [22] ?_;refine wpAnyH_done kr (NoPanic.normal ?_) _;rotate_left 1;clear G I y0 y1 y2 y3 y4 y5 y6 y7 y8 y9 O d' f' c';obtain⟨J,I⟩:=h;replace I:=jD I;obtain⟨y0,y1,y2,y3,y4,y5,y6,y7,y8,y9,O,d',f',c'⟩:=I.out;have k':=jD (ab i'.out J);clear J;obtain rfl:R=2:=HR.out;clear HR;go_wp2_with fail
 all_goals exact en k'.out
theorem Dq (A:Option Addr) (c:Nat) (Ac:Option Addr) (cc nc n:Nat) (z:Int) (q vb cb pb:Bool) (op ty vr sc sp k' l' n' m' k0 n0:Int) (t0:ByteArray) (w:World) (R:Int) (F':¬op<0) (D':¬10<op)
  (H:NdH A c Ac cc nc n z q vb cb pb true true false false false false op ty vr sc sp k' l' n' m' k0 n0 t0 w)
  (F:Hid (R=if cb=true/\z≠0 then z else if (cb=false/\q=false)\/(vb || decide (ty=0))=false\/(vb || decide (vr=0))=false\/(true || decide (sc=0))=false\/(pb || decide (sp=0))=false then 3 else 0)) :
  KZ 197 #[.agg #[KW op,.slice A n c,KW ty,KW vr,KW sc,KW sp,KW k',.slice Ac nc cc,KW l',KW n',KW m',KW k0,KW n0,.string t0]] w (KW R):=by
 go_enter func197,ntmps197;go_wp2_with fail;refine (H.ar _).mono ?_;rintro e w1 ⟨rfl,q'⟩;have HY:=jD (fP q');obtain⟨y0,y1,y2,y3,y4,y5,y6,y7,y8,y9,O,Z,b',a'⟩:=HY.out;have u':=jD (ab (ag w _) q');clear q';go_wp2_with fail;refine rgn (fun W=>KY w1 W/\P14 W w.heap.size A c Ac nc cc n op ty vr sc sp k' l' n' m' k0 n0 t0) (Below w1.heap.size w1) (fun W hW=>⟨hW,HY.out.stays hW⟩) ((La _ _).drew) (fun e' h=>?_);generalize w1.drew=wDa at h ⊢;refine tkH [0,2,8] ?_;refine nxH 1 (fun K hK=>?_)
 focus (go_simp;refine (H.va _).mono ?_;rintro e B' ⟨rfl,I⟩)
 refine hK.out _ _ (e' _ (ab h.1 I)) (fun h=>?_);clear hK K;refine nxH 3 (fun K hK=>?_)
 focus (go_simp;refine (H.ng _).mono ?_;rintro e A' ⟨rfl,I⟩)
 refine hK.out _ _ (e' _ (ab h.1 I)) (fun h=>?_);clear hK K;refine tkH [4] ?_;refine tkS [5,6] ?_;refine tkH [7] ?_;refine nxH 9 (fun K hK=>?_)
 focus (go_simp;refine (H.co _).mono ?_;rintro e p' ⟨rfl,I⟩)
 refine hK.out _ _ (e' _ (ab h.1 I)) (fun h=>?_);clear hK K;refine tkH [10,11,12] ?_;refine wpAnyH_done kr (NoPanic.normal ?_) _;rotate_left 1;clear e' HY y0 y1 y2 y3 y4 y5 y6 y7 y8 y9 O Z b' a';obtain⟨i',HY⟩:=h;replace HY:=jD HY;obtain⟨y0,y1,y2,y3,y4,y5,y6,y7,y8,y9,O,Z,b',a'⟩:=HY.out;have t':=jD (ab u'.out i');clear i';go_wp2_with fail;refine rgn (fun W=>KY p' W/\P14 W w.heap.size A c Ac nc cc n op ty vr sc sp k' l' n' m' k0 n0 t0) (Below p'.heap.size p') (fun W hW=>⟨hW,HY.out.stays hW⟩) ((La _ _).drew) (fun e' h=>?_);generalize p'.drew=wDb at h ⊢;refine tkH [0,1,2] ?_;refine nxH 3 (fun K hK=>?_)
 focus (go_simp;refine (H.w1 _).mono ?_;rintro e C' ⟨rfl,I⟩)
 refine hK.out _ _ (e' _ (ab h.1 I)) (fun h=>?_);clear hK K;refine tkH [4,5,6,7] ?_;refine nxH 8 (fun K hK=>?_)
 focus (go_simp;refine (H.w2 _).mono ?_;rintro e E' ⟨rfl,I⟩)
 refine hK.out _ _ (e' _ (ab h.1 I)) (fun h=>?_);clear hK K;refine tkH [9,10,11,12,13] ?_;refine nxH 14 (fun K hK=>?_)
 focus (go_simp;refine (H.w3 _).mono ?_;rintro e z' ⟨rfl,I⟩)
 refine hK.out _ _ (e' _ (ab h.1 I)) (fun h=>?_);clear hK K;refine tkH [15,16,17,19,20] ?_;refine nxH 18 (fun K hK=>?_)
 focus (go_simp;refine (H.tm _).mono ?_;rintro e x' ⟨rfl,I⟩)
 refine hK.out _ _ (e' _ (ab h.1 I)) (fun h=>?_);clear hK K;refine nxH 21 (fun K hK=>?_)
 focus (go_simp;refine (H.w4 _).mono ?_;rintro e y' ⟨rfl,I⟩)
 refine hK.out _ _ (e' _ (ab h.1 I)) (fun h=>?_);clear hK K;refine tkH [22] ?_;refine wpAnyH_done kr (NoPanic.normal ?_) _;rotate_left 1;clear e' HY y0 y1 y2 y3 y4 y5 y6 y7 y8 y9 O Z b' a';obtain⟨i',HY⟩:=h;replace HY:=jD HY;obtain⟨y0,y1,y2,y3,y4,y5,y6,y7,y8,y9,O,Z,b',a'⟩:=HY.out;have h':=jD (ab t'.out i');clear i'
 cases cb with
 | true =>
  go_wp2_with fail;refine (H.ck _ h'.out).mono ?_;rintro e wk ⟨rfl,r'⟩;clear y0 y1 y2 y3 y4 y5 y6 y7 y8 y9 O Z b' a';replace HY:=jD (HY.out.stays r');obtain⟨y0,y1,y2,y3,y4,y5,y6,y7,y8,y9,O,Z,b',a'⟩:=HY.out;have j':=ab h'.out r';clear r'
  by_cases s':z=0
  case neg =>
   have bz:(z==0)=false:=jQ s';obtain rfl:R=z:=by rw[F.out];simp[s']
   clear F;go_wp2_with fail
   all_goals exact en j'
  obtain rfl:=s';have HX:=F;clear HX
  cases vb with
  | true =>
   go_wp2_with fail;refine (H.tm _).mono ?_;rintro e wt ⟨rfl,J⟩;have G:=ab j' J;clear y0 y1 y2 y3 y4 y5 y6 y7 y8 y9 O Z b' a';replace HY:=jD (HY.out.stays J);obtain⟨y0,y1,y2,y3,y4,y5,y6,y7,y8,y9,O,Z,b',a'⟩:=HY.out;clear J
   cases pb with
   | true =>
    obtain rfl:R=0:=by rw[F.out];simp
    clear F;go_wp2_with fail
    all_goals exact en G
   | false =>
    by_cases D:sp=0
    case neg =>
     have bf:(sp==0)=false:=jQ D;obtain rfl:R=3:=by rw[F.out];simp[D]
     clear F;go_wp2_with fail
     all_goals exact en G
    subst D;obtain rfl:R=0:=by rw[F.out];simp
    clear F;go_wp2_with fail
    all_goals exact en G
  | false =>
   by_cases c':ty=0
   case neg =>
    have bf:(ty==0)=false:=jQ c';obtain rfl:R=3:=by rw[F.out];simp[c']
    clear F;go_wp2_with fail
    all_goals exact en j'
   subst c'
   by_cases f':vr=0
   case neg =>
    have bf:(vr==0)=false:=jQ f';obtain rfl:R=3:=by rw[F.out];simp[f']
    clear F;go_wp2_with fail
    all_goals exact en j'
   subst f';go_wp2_with fail;refine (H.tm _).mono ?_;rintro e wt ⟨rfl,J⟩;have G:=ab j' J;clear y0 y1 y2 y3 y4 y5 y6 y7 y8 y9 O Z b' a';replace HY:=jD (HY.out.stays J);obtain⟨y0,y1,y2,y3,y4,y5,y6,y7,y8,y9,O,Z,b',a'⟩:=HY.out;clear J
   cases pb with
   | true =>
    obtain rfl:R=0:=by rw[F.out];simp
    clear F;go_wp2_with fail
    all_goals exact en G
   | false =>
    by_cases D:sp=0
    case neg =>
     have bf:(sp==0)=false:=jQ D;obtain rfl:R=3:=by rw[F.out];simp[D]
     clear F;go_wp2_with fail
     all_goals exact en G
    subst D;obtain rfl:R=0:=by rw[F.out];simp
    clear F;go_wp2_with fail
    all_goals exact en G
 | false =>
  have HX:=F;clear HX
  cases vb with
  | true =>
   go_wp2_with fail;refine (H.tm _).mono ?_;rintro e wt ⟨rfl,J⟩;have G:=ab h'.out J;clear y0 y1 y2 y3 y4 y5 y6 y7 y8 y9 O Z b' a';replace HY:=jD (HY.out.stays J);obtain⟨y0,y1,y2,y3,y4,y5,y6,y7,y8,y9,O,Z,b',a'⟩:=HY.out;clear J
   cases pb with
   | true =>
    go_wp2_with fail;refine (H.sm _ G).mono ?_;rintro e ws ⟨rfl,g'⟩;have d':=ab G g'
    cases q with
    | false =>
     obtain rfl:R=3:=by rw[F.out];simp
     clear F;go_wp2_with fail
     all_goals exact en d'
    | true =>
     obtain rfl:R=0:=by rw[F.out];simp
     clear F;go_wp2_with fail
     all_goals exact en d'
   | false =>
    by_cases D:sp=0
    case neg =>
     have bf:(sp==0)=false:=jQ D;obtain rfl:R=3:=by rw[F.out];simp[D]
     clear F;go_wp2_with fail
     all_goals exact en G
    subst D;go_wp2_with fail;refine (H.sm _ G).mono ?_;rintro e ws ⟨rfl,g'⟩;have d':=ab G g'
    cases q with
    | false =>
     obtain rfl:R=3:=by rw[F.out];simp
     clear F;go_wp2_with fail
     all_goals exact en d'
    | true =>
     obtain rfl:R=0:=by rw[F.out];simp
     clear F;go_wp2_with fail
     all_goals exact en d'
  | false =>
   by_cases c':ty=0
   case neg =>
    have bf:(ty==0)=false:=jQ c';obtain rfl:R=3:=by rw[F.out];simp[c']
    clear F;go_wp2_with fail
    all_goals exact en h'.out
   subst c'
   by_cases f':vr=0
   case neg =>
    have bf:(vr==0)=false:=jQ f';obtain rfl:R=3:=by rw[F.out];simp[f']
    clear F;go_wp2_with fail
    all_goals exact en h'.out
   subst f';go_wp2_with fail;refine (H.tm _).mono ?_;rintro e wt ⟨rfl,J⟩;have G:=ab h'.out J;clear y0 y1 y2 y3 y4 y5 y6 y7 y8 y9 O Z b' a';replace HY:=jD (HY.out.stays J);obtain⟨y0,y1,y2,y3,y4,y5,y6,y7,y8,y9,O,Z,b',a'⟩:=HY.out;clear J
   cases pb with
   | true =>
    go_wp2_with fail;refine (H.sm _ G).mono ?_;rintro e ws ⟨rfl,g'⟩;have d':=ab G g'
    cases q with
    | false =>
     obtain rfl:R=3:=by rw[F.out];simp
     clear F;go_wp2_with fail
     all_goals exact en d'
    | true =>
     obtain rfl:R=0:=by rw[F.out];simp
     clear F;go_wp2_with fail
     all_goals exact en d'
   | false =>
    by_cases D:sp=0
    case neg =>
     have bf:(sp==0)=false:=jQ D;obtain rfl:R=3:=by rw[F.out];simp[D]
     clear F;go_wp2_with fail
     all_goals exact en G
    subst D;go_wp2_with fail;refine (H.sm _ G).mono ?_;rintro e ws ⟨rfl,g'⟩;have d':=ab G g'
    cases q with
    | false =>
     obtain rfl:R=3:=by rw[F.out];simp
     clear F;go_wp2_with fail
     all_goals exact en d'
    | true =>
     obtain rfl:R=0:=by rw[F.out];simp
     clear F;go_wp2_with fail
     all_goals exact en d'
theorem CJ (A:Option Addr) (c:Nat) (Ac:Option Addr) (cc nc n:Nat) (z:Int) (q vb cb pb:Bool) (b2 b3 b4:Bool) (op ty vr sc sp Z a' g' e' k0 n0:Int) (t0:ByteArray) (w:World) (R:Int) (r':¬op<0) (n':¬10<op)
  (H:NdH A c Ac cc nc n z q vb cb pb false pb true b2 b3 b4 op ty vr sc sp Z a' g' e' k0 n0 t0 w)
  (HR:Hid (R=2)) :
  KZ 197 #[.agg #[KW op,.slice A n c,KW ty,KW vr,KW sc,KW sp,KW Z,.slice Ac nc cc,KW a',KW g',KW e',KW k0,KW n0,.string t0]] w (KW R):=by
 go_enter func197,ntmps197;go_wp2_with fail;refine (H.ar _).mono ?_;rintro e w1 ⟨rfl,h'⟩;have I:=jD (fP h');obtain⟨y0,y1,y2,y3,y4,y5,y6,y7,y8,y9,O,d',f',c'⟩:=I.out;have j':=jD (ab (ag w _) h');clear h';go_wp2_with fail;refine rgn (fun W=>KY w1 W/\P14 W w.heap.size A c Ac nc cc n op ty vr sc sp Z a' g' e' k0 n0 t0) (Below w1.heap.size w1) (fun W hW=>⟨hW,I.out.stays hW⟩) ((La _ _).drew) (fun F h=>?_);generalize w1.drew=wDa at h ⊢;refine tkH [0,2,8] ?_;refine nxH 1 (fun K G=>?_)
 focus (go_simp;refine (H.va _).mono ?_;rintro e l' ⟨rfl,D⟩)
 refine G.out _ _ (F _ (ab h.1 D)) (fun h=>?_);clear G K;refine nxH 3 (fun K G=>?_)
 focus (go_simp;refine (H.ng _).mono ?_;rintro e p' ⟨rfl,D⟩)
 refine G.out _ _ (F _ (ab h.1 D)) (fun h=>?_);clear G K;refine tkH [4,5] ?_;refine nxH 6 (fun K G=>?_)
 focus (go_simp;refine (H.tm _).mono ?_;rintro e m' ⟨rfl,D⟩)
 refine G.out _ _ (F _ (ab h.1 D)) (fun h=>?_);clear G K;refine tkH [7] ?_;refine nxH 9 (fun K G=>?_)
 focus (go_simp;refine (H.co _).mono ?_;rintro e b' ⟨rfl,D⟩)
 refine G.out _ _ (F _ (ab h.1 D)) (fun h=>?_);clear G K;refine tkH [10,11,12] ?_;refine wpAnyH_done kr (NoPanic.normal ?_) _;rotate_left 1;clear F I y0 y1 y2 y3 y4 y5 y6 y7 y8 y9 O d' f' c';obtain⟨J,I⟩:=h;replace I:=jD I;obtain⟨y0,y1,y2,y3,y4,y5,y6,y7,y8,y9,O,d',f',c'⟩:=I.out;have i':=jD (ab j'.out J);clear J;go_wp2_with fail;refine rgn (fun W=>KY b' W/\P14 W w.heap.size A c Ac nc cc n op ty vr sc sp Z a' g' e' k0 n0 t0) (Below b'.heap.size b') (fun W hW=>⟨hW,I.out.stays hW⟩) ((La _ _).drew) (fun F h=>?_);generalize b'.drew=wDb at h ⊢;refine tkH [0,1,2] ?_;refine nxH 3 (fun K G=>?_)
 focus (go_simp;refine (H.w1 _).mono ?_;rintro e q' ⟨rfl,D⟩)
 refine G.out _ _ (F _ (ab h.1 D)) (fun h=>?_);clear G K;refine tkH [4] ?_;refine tkS [5,6,7,8] ?_;refine tkH [9,10] ?_;refine tkS [11,12,13,14] ?_;refine tkH [15,16] ?_;refine tkS [17,18,19,20,21] ?_;refine tkH [22] ?_;refine wpAnyH_done kr (NoPanic.normal ?_) _;rotate_left 1;clear F I y0 y1 y2 y3 y4 y5 y6 y7 y8 y9 O d' f' c';obtain⟨J,I⟩:=h;replace I:=jD I;obtain⟨y0,y1,y2,y3,y4,y5,y6,y7,y8,y9,O,d',f',c'⟩:=I.out;have k':=jD (ab i'.out J);clear J;obtain rfl:R=2:=HR.out;clear HR;go_wp2_with fail
 all_goals exact en k'.out
theorem Ci (A:Option Addr) (c:Nat) (Ac:Option Addr) (cc nc n:Nat) (z:Int) (q vb cb pb:Bool) (b3 b4:Bool) (op ty vr sc sp Z a' g' e' k0 n0:Int) (t0:ByteArray) (w:World) (R:Int) (s':¬op<0) (n':¬10<op)
  (H:NdH A c Ac cc nc n z q vb cb pb false pb false true b3 b4 op ty vr sc sp Z a' g' e' k0 n0 t0 w)
  (HR:Hid (R=2)) :
  KZ 197 #[.agg #[KW op,.slice A n c,KW ty,KW vr,KW sc,KW sp,KW Z,.slice Ac nc cc,KW a',KW g',KW e',KW k0,KW n0,.string t0]] w (KW R):=by
 go_enter func197,ntmps197;go_wp2_with fail;refine (H.ar _).mono ?_;rintro e w1 ⟨rfl,h'⟩;have I:=jD (fP h');obtain⟨y0,y1,y2,y3,y4,y5,y6,y7,y8,y9,O,d',f',c'⟩:=I.out;have j':=jD (ab (ag w _) h');clear h';go_wp2_with fail;refine rgn (fun W=>KY w1 W/\P14 W w.heap.size A c Ac nc cc n op ty vr sc sp Z a' g' e' k0 n0 t0) (Below w1.heap.size w1) (fun W hW=>⟨hW,I.out.stays hW⟩) ((La _ _).drew) (fun F h=>?_);generalize w1.drew=wDa at h ⊢;refine tkH [0,2,8] ?_;refine nxH 1 (fun K G=>?_)
 focus (go_simp;refine (H.va _).mono ?_;rintro e l' ⟨rfl,D⟩)
 refine G.out _ _ (F _ (ab h.1 D)) (fun h=>?_);clear G K;refine nxH 3 (fun K G=>?_)
 focus (go_simp;refine (H.ng _).mono ?_;rintro e p' ⟨rfl,D⟩)
 refine G.out _ _ (F _ (ab h.1 D)) (fun h=>?_);clear G K;refine tkH [4,5] ?_;refine nxH 6 (fun K G=>?_)
 focus (go_simp;refine (H.tm _).mono ?_;rintro e m' ⟨rfl,D⟩)
 refine G.out _ _ (F _ (ab h.1 D)) (fun h=>?_);clear G K;refine tkH [7] ?_;refine nxH 9 (fun K G=>?_)
 focus (go_simp;refine (H.co _).mono ?_;rintro e b' ⟨rfl,D⟩)
 refine G.out _ _ (F _ (ab h.1 D)) (fun h=>?_);clear G K;refine tkH [10,11,12] ?_;refine wpAnyH_done kr (NoPanic.normal ?_) _;rotate_left 1;clear F I y0 y1 y2 y3 y4 y5 y6 y7 y8 y9 O d' f' c';obtain⟨J,I⟩:=h;replace I:=jD I;obtain⟨y0,y1,y2,y3,y4,y5,y6,y7,y8,y9,O,d',f',c'⟩:=I.out;have i':=jD (ab j'.out J);clear J;go_wp2_with fail;refine rgn (fun W=>KY b' W/\P14 W w.heap.size A c Ac nc cc n op ty vr sc sp Z a' g' e' k0 n0 t0) (Below b'.heap.size b') (fun W hW=>⟨hW,I.out.stays hW⟩) ((La _ _).drew) (fun F h=>?_);generalize b'.drew=wDb at h ⊢;refine tkH [0,1,2] ?_;refine nxH 3 (fun K G=>?_)
 focus (go_simp;refine (H.w1 _).mono ?_;rintro e r' ⟨rfl,D⟩)
 refine G.out _ _ (F _ (ab h.1 D)) (fun h=>?_);clear G K;refine tkH [4,5,6,7] ?_;refine nxH 8 (fun K G=>?_)
 focus (go_simp;refine (H.w2 _).mono ?_;rintro e q' ⟨rfl,D⟩)
 refine G.out _ _ (F _ (ab h.1 D)) (fun h=>?_);clear G K;refine tkH [9,10] ?_;refine tkS [11,12,13,14] ?_;refine tkH [15,16] ?_;refine tkS [17,18,19,20,21] ?_;refine tkH [22] ?_;refine wpAnyH_done kr (NoPanic.normal ?_) _;rotate_left 1;clear F I y0 y1 y2 y3 y4 y5 y6 y7 y8 y9 O d' f' c';obtain⟨J,I⟩:=h;replace I:=jD I;obtain⟨y0,y1,y2,y3,y4,y5,y6,y7,y8,y9,O,d',f',c'⟩:=I.out;have k':=jD (ab i'.out J);clear J;obtain rfl:R=2:=HR.out;clear HR;go_wp2_with fail
 all_goals exact en k'.out
theorem Di (A:Option Addr) (c:Nat) (Ac:Option Addr) (cc nc n:Nat) (z:Int) (q vb cb pb:Bool) (b4:Bool) (op ty vr sc sp Z a' g' e' k0 n0:Int) (t0:ByteArray) (w:World) (R:Int) (t':¬op<0) (p':¬10<op)
  (H:NdH A c Ac cc nc n z q vb cb pb false pb false false true b4 op ty vr sc sp Z a' g' e' k0 n0 t0 w)
  (HR:Hid (R=2)) :
  KZ 197 #[.agg #[KW op,.slice A n c,KW ty,KW vr,KW sc,KW sp,KW Z,.slice Ac nc cc,KW a',KW g',KW e',KW k0,KW n0,.string t0]] w (KW R):=by
 go_enter func197,ntmps197;go_wp2_with fail;refine (H.ar _).mono ?_;rintro e w1 ⟨rfl,h'⟩;have I:=jD (fP h');obtain⟨y0,y1,y2,y3,y4,y5,y6,y7,y8,y9,O,d',f',c'⟩:=I.out;have j':=jD (ab (ag w _) h');clear h';go_wp2_with fail;refine rgn (fun W=>KY w1 W/\P14 W w.heap.size A c Ac nc cc n op ty vr sc sp Z a' g' e' k0 n0 t0) (Below w1.heap.size w1) (fun W hW=>⟨hW,I.out.stays hW⟩) ((La _ _).drew) (fun F h=>?_);generalize w1.drew=wDa at h ⊢;refine tkH [0,2,8] ?_;refine nxH 1 (fun K G=>?_)
 focus (go_simp;refine (H.va _).mono ?_;rintro e m' ⟨rfl,D⟩)
 refine G.out _ _ (F _ (ab h.1 D)) (fun h=>?_);clear G K;refine nxH 3 (fun K G=>?_)
 focus (go_simp;refine (H.ng _).mono ?_;rintro e q' ⟨rfl,D⟩)
 refine G.out _ _ (F _ (ab h.1 D)) (fun h=>?_);clear G K;refine tkH [4,5] ?_;refine nxH 6 (fun K G=>?_)
 focus (go_simp;refine (H.tm _).mono ?_;rintro e n' ⟨rfl,D⟩)
 refine G.out _ _ (F _ (ab h.1 D)) (fun h=>?_);clear G K;refine tkH [7] ?_;refine nxH 9 (fun K G=>?_)
 focus (go_simp;refine (H.co _).mono ?_;rintro e b' ⟨rfl,D⟩)
 refine G.out _ _ (F _ (ab h.1 D)) (fun h=>?_);clear G K;refine tkH [10,11,12] ?_;refine wpAnyH_done kr (NoPanic.normal ?_) _;rotate_left 1;clear F I y0 y1 y2 y3 y4 y5 y6 y7 y8 y9 O d' f' c';obtain⟨J,I⟩:=h;replace I:=jD I;obtain⟨y0,y1,y2,y3,y4,y5,y6,y7,y8,y9,O,d',f',c'⟩:=I.out;have i':=jD (ab j'.out J);clear J;go_wp2_with fail;refine rgn (fun W=>KY b' W/\P14 W w.heap.size A c Ac nc cc n op ty vr sc sp Z a' g' e' k0 n0 t0) (Below b'.heap.size b') (fun W hW=>⟨hW,I.out.stays hW⟩) ((La _ _).drew) (fun F h=>?_);generalize b'.drew=wDb at h ⊢;refine tkH [0,1,2] ?_;refine nxH 3 (fun K G=>?_)
 focus (go_simp;refine (H.w1 _).mono ?_;rintro e s' ⟨rfl,D⟩)
 refine G.out _ _ (F _ (ab h.1 D)) (fun h=>?_);clear G K;refine tkH [4,5,6,7] ?_;refine nxH 8 (fun K G=>?_)
 focus (go_simp;refine (H.w2 _).mono ?_;rintro e r' ⟨rfl,D⟩)
 refine G.out _ _ (F _ (ab h.1 D)) (fun h=>?_);clear G K;refine tkH [9,10,11,12,13] ?_;refine nxH 14 (fun K G=>?_)
 focus (go_simp;refine (H.w3 _).mono ?_;rintro e l' ⟨rfl,D⟩)
 refine G.out _ _ (F _ (ab h.1 D)) (fun h=>?_);clear G K;refine tkH [15,16] ?_;refine tkS [17,18,19,20,21] ?_;refine tkH [22] ?_;refine wpAnyH_done kr (NoPanic.normal ?_) _;rotate_left 1;clear F I y0 y1 y2 y3 y4 y5 y6 y7 y8 y9 O d' f' c';obtain⟨J,I⟩:=h;replace I:=jD I;obtain⟨y0,y1,y2,y3,y4,y5,y6,y7,y8,y9,O,d',f',c'⟩:=I.out;have k':=jD (ab i'.out J);clear J;obtain rfl:R=2:=HR.out;clear HR;go_wp2_with fail
 all_goals exact en k'.out
theorem DN (A:Option Addr) (c:Nat) (Ac:Option Addr) (cc nc n:Nat) (z:Int) (q vb cb pb:Bool) (op ty vr sc sp Z a' g' e' k0 n0:Int) (t0:ByteArray) (w:World) (R:Int) (x':¬op<0) (r':¬10<op)
  (H:NdH A c Ac cc nc n z q vb cb pb false pb false false false true op ty vr sc sp Z a' g' e' k0 n0 t0 w)
  (HR:Hid (R=2)) :
  KZ 197 #[.agg #[KW op,.slice A n c,KW ty,KW vr,KW sc,KW sp,KW Z,.slice Ac nc cc,KW a',KW g',KW e',KW k0,KW n0,.string t0]] w (KW R):=by
 go_enter func197,ntmps197;go_wp2_with fail;refine (H.ar _).mono ?_;rintro e w1 ⟨rfl,h'⟩;have I:=jD (fP h');obtain⟨y0,y1,y2,y3,y4,y5,y6,y7,y8,y9,O,d',f',c'⟩:=I.out;have j':=jD (ab (ag w _) h');clear h';go_wp2_with fail;refine rgn (fun W=>KY w1 W/\P14 W w.heap.size A c Ac nc cc n op ty vr sc sp Z a' g' e' k0 n0 t0) (Below w1.heap.size w1) (fun W hW=>⟨hW,I.out.stays hW⟩) ((La _ _).drew) (fun G h=>?_);generalize w1.drew=wDa at h ⊢;refine tkH [0,2,8] ?_;refine nxH 1 (fun K F=>?_)
 focus (go_simp;refine (H.va _).mono ?_;rintro e p' ⟨rfl,D⟩)
 refine F.out _ _ (G _ (ab h.1 D)) (fun h=>?_);clear F K;refine nxH 3 (fun K F=>?_)
 focus (go_simp;refine (H.ng _).mono ?_;rintro e s' ⟨rfl,D⟩)
 refine F.out _ _ (G _ (ab h.1 D)) (fun h=>?_);clear F K;refine tkH [4,5] ?_;refine nxH 6 (fun K F=>?_)
 focus (go_simp;refine (H.tm _).mono ?_;rintro e q' ⟨rfl,D⟩)
 refine F.out _ _ (G _ (ab h.1 D)) (fun h=>?_);clear F K;refine tkH [7] ?_;refine nxH 9 (fun K F=>?_)
 focus (go_simp;refine (H.co _).mono ?_;rintro e b' ⟨rfl,D⟩)
 refine F.out _ _ (G _ (ab h.1 D)) (fun h=>?_);clear F K;refine tkH [10,11,12] ?_;refine wpAnyH_done kr (NoPanic.normal ?_) _;rotate_left 1;clear G I y0 y1 y2 y3 y4 y5 y6 y7 y8 y9 O d' f' c';obtain⟨J,I⟩:=h;replace I:=jD I;obtain⟨y0,y1,y2,y3,y4,y5,y6,y7,y8,y9,O,d',f',c'⟩:=I.out;have i':=jD (ab j'.out J);clear J;go_wp2_with fail;refine rgn (fun W=>KY b' W/\P14 W w.heap.size A c Ac nc cc n op ty vr sc sp Z a' g' e' k0 n0 t0) (Below b'.heap.size b') (fun W hW=>⟨hW,I.out.stays hW⟩) ((La _ _).drew) (fun G h=>?_);generalize b'.drew=wDb at h ⊢;refine tkH [0,1,2] ?_;refine nxH 3 (fun K F=>?_)
 focus (go_simp;refine (H.w1 _).mono ?_;rintro e u' ⟨rfl,D⟩)
 refine F.out _ _ (G _ (ab h.1 D)) (fun h=>?_);clear F K;refine tkH [4,5,6,7] ?_;refine nxH 8 (fun K F=>?_)
 focus (go_simp;refine (H.w2 _).mono ?_;rintro e t' ⟨rfl,D⟩)
 refine F.out _ _ (G _ (ab h.1 D)) (fun h=>?_);clear F K;refine tkH [9,10,11,12,13] ?_;refine nxH 14 (fun K F=>?_)
 focus (go_simp;refine (H.w3 _).mono ?_;rintro e l' ⟨rfl,D⟩)
 refine F.out _ _ (G _ (ab h.1 D)) (fun h=>?_);clear F K;refine tkH [15,16,17,19,20] ?_;refine nxH 18 (fun K F=>?_)
 focus (go_simp;refine (H.tm _).mono ?_;rintro e m' ⟨rfl,D⟩)
 refine F.out _ _ (G _ (ab h.1 D)) (fun h=>?_);clear F K;refine nxH 21 (fun K F=>?_)
 focus (go_simp;refine (H.w4 _).mono ?_;rintro e n' ⟨rfl,D⟩)
 refine F.out _ _ (G _ (ab h.1 D)) (fun h=>?_);clear F K;refine tkH [22] ?_;refine wpAnyH_done kr (NoPanic.normal ?_) _;rotate_left 1;clear G I y0 y1 y2 y3 y4 y5 y6 y7 y8 y9 O d' f' c';obtain⟨J,I⟩:=h;replace I:=jD I;obtain⟨y0,y1,y2,y3,y4,y5,y6,y7,y8,y9,O,d',f',c'⟩:=I.out;have k':=jD (ab i'.out J);clear J;obtain rfl:R=2:=HR.out;clear HR;go_wp2_with fail
 all_goals exact en k'.out
theorem DA (A:Option Addr) (c:Nat) (Ac:Option Addr) (cc nc n:Nat) (z:Int) (q vb cb pb:Bool) (op ty vr sc sp l' m' p' n' k0 n0:Int) (t0:ByteArray) (w:World) (R:Int) (H':¬op<0) (F':¬10<op)
  (H:NdH A c Ac cc nc n z q vb cb pb false pb false false false false op ty vr sc sp l' m' p' n' k0 n0 t0 w)
  (F:Hid (R=if cb=true/\z≠0 then z else if (cb=false/\q=false)\/(vb || decide (ty=0))=false\/(vb || decide (vr=0))=false\/(pb || decide (sc=0))=false\/(pb || decide (sp=0))=false then 3 else 0)) :
  KZ 197 #[.agg #[KW op,.slice A n c,KW ty,KW vr,KW sc,KW sp,KW l',.slice Ac nc cc,KW m',KW p',KW n',KW k0,KW n0,.string t0]] w (KW R):=by
 go_enter func197,ntmps197;go_wp2_with fail;refine (H.ar _).mono ?_;rintro e w1 ⟨rfl,r'⟩;have HY:=jD (fP r');obtain⟨y0,y1,y2,y3,y4,y5,y6,y7,y8,y9,O,Z,b',a'⟩:=HY.out;have x':=jD (ab (ag w _) r');clear r';go_wp2_with fail;refine rgn (fun W=>KY w1 W/\P14 W w.heap.size A c Ac nc cc n op ty vr sc sp l' m' p' n' k0 n0 t0) (Below w1.heap.size w1) (fun W hW=>⟨hW,HY.out.stays hW⟩) ((La _ _).drew) (fun d' h=>?_);generalize w1.drew=wDa at h ⊢;refine tkH [0,2,8] ?_;refine nxH 1 (fun K hK=>?_)
 focus (go_simp;refine (H.va _).mono ?_;rintro e C' ⟨rfl,c'⟩)
 refine hK.out _ _ (d' _ (ab h.1 c')) (fun h=>?_);clear hK K;refine nxH 3 (fun K hK=>?_)
 focus (go_simp;refine (H.ng _).mono ?_;rintro e B' ⟨rfl,c'⟩)
 refine hK.out _ _ (d' _ (ab h.1 c')) (fun h=>?_);clear hK K;refine tkH [4,5] ?_;refine nxH 6 (fun K hK=>?_)
 focus (go_simp;refine (H.tm _).mono ?_;rintro e D' ⟨rfl,c'⟩)
 refine hK.out _ _ (d' _ (ab h.1 c')) (fun h=>?_);clear hK K;refine tkH [7] ?_;refine nxH 9 (fun K hK=>?_)
 focus (go_simp;refine (H.co _).mono ?_;rintro e q' ⟨rfl,c'⟩)
 refine hK.out _ _ (d' _ (ab h.1 c')) (fun h=>?_);clear hK K;refine tkH [10,11,12] ?_;refine wpAnyH_done kr (NoPanic.normal ?_) _;rotate_left 1;clear d' HY y0 y1 y2 y3 y4 y5 y6 y7 y8 y9 O Z b' a';obtain⟨k',HY⟩:=h;replace HY:=jD HY;obtain⟨y0,y1,y2,y3,y4,y5,y6,y7,y8,y9,O,Z,b',a'⟩:=HY.out;have u':=jD (ab x'.out k');clear k';go_wp2_with fail;refine rgn (fun W=>KY q' W/\P14 W w.heap.size A c Ac nc cc n op ty vr sc sp l' m' p' n' k0 n0 t0) (Below q'.heap.size q') (fun W hW=>⟨hW,HY.out.stays hW⟩) ((La _ _).drew) (fun d' h=>?_);generalize q'.drew=wDb at h ⊢;refine tkH [0,1,2] ?_;refine nxH 3 (fun K hK=>?_)
 focus (go_simp;refine (H.w1 _).mono ?_;rintro e E' ⟨rfl,c'⟩)
 refine hK.out _ _ (d' _ (ab h.1 c')) (fun h=>?_);clear hK K;refine tkH [4,5,6,7] ?_;refine nxH 8 (fun K hK=>?_)
 focus (go_simp;refine (H.w2 _).mono ?_;rintro e G' ⟨rfl,c'⟩)
 refine hK.out _ _ (d' _ (ab h.1 c')) (fun h=>?_);clear hK K;refine tkH [9,10,11,12,13] ?_;refine nxH 14 (fun K hK=>?_)
 focus (go_simp;refine (H.w3 _).mono ?_;rintro e A' ⟨rfl,c'⟩)
 refine hK.out _ _ (d' _ (ab h.1 c')) (fun h=>?_);clear hK K;refine tkH [15,16,17,19,20] ?_;refine nxH 18 (fun K hK=>?_)
 focus (go_simp;refine (H.tm _).mono ?_;rintro e y' ⟨rfl,c'⟩)
 refine hK.out _ _ (d' _ (ab h.1 c')) (fun h=>?_);clear hK K;refine nxH 21 (fun K hK=>?_)
 focus (go_simp;refine (H.w4 _).mono ?_;rintro e z' ⟨rfl,c'⟩)
 refine hK.out _ _ (d' _ (ab h.1 c')) (fun h=>?_);clear hK K;refine tkH [22] ?_;refine wpAnyH_done kr (NoPanic.normal ?_) _;rotate_left 1;clear d' HY y0 y1 y2 y3 y4 y5 y6 y7 y8 y9 O Z b' a';obtain⟨k',HY⟩:=h;replace HY:=jD HY;obtain⟨y0,y1,y2,y3,y4,y5,y6,y7,y8,y9,O,Z,b',a'⟩:=HY.out;have h':=jD (ab u'.out k');clear k'
 cases cb with
 | true =>
  go_wp2_with fail;refine (H.ck _ h'.out).mono ?_;rintro e wk ⟨rfl,s'⟩;clear y0 y1 y2 y3 y4 y5 y6 y7 y8 y9 O Z b' a';replace HY:=jD (HY.out.stays s');obtain⟨y0,y1,y2,y3,y4,y5,y6,y7,y8,y9,O,Z,b',a'⟩:=HY.out;have i':=ab h'.out s';clear s'
  by_cases t':z=0
  case neg =>
   have bz:(z==0)=false:=jQ t';obtain rfl:R=z:=by rw[F.out];simp[t']
   clear F;go_wp2_with fail
   all_goals exact en i'
  obtain rfl:=t';have HX:=F;clear HX
  cases vb with
  | true =>
   cases pb with
   | true =>
    go_wp2_with fail;refine (H.tm _).mono ?_;rintro e wt ⟨rfl,D⟩;have I:=ab i' D;clear y0 y1 y2 y3 y4 y5 y6 y7 y8 y9 O Z b' a';replace HY:=jD (HY.out.stays D);obtain⟨y0,y1,y2,y3,y4,y5,y6,y7,y8,y9,O,Z,b',a'⟩:=HY.out;clear D;obtain rfl:R=0:=by rw[F.out];simp
    clear F;go_wp2_with fail
    all_goals exact en I
   | false =>
    by_cases J:sc=0
    case neg =>
     have bf:(sc==0)=false:=jQ J;obtain rfl:R=3:=by rw[F.out];simp[J]
     clear F;go_wp2_with fail
     all_goals exact en i'
    subst J;go_wp2_with fail;refine (H.tm _).mono ?_;rintro e wt ⟨rfl,D⟩;have I:=ab i' D;clear y0 y1 y2 y3 y4 y5 y6 y7 y8 y9 O Z b' a';replace HY:=jD (HY.out.stays D);obtain⟨y0,y1,y2,y3,y4,y5,y6,y7,y8,y9,O,Z,b',a'⟩:=HY.out;clear D
    by_cases G:sp=0
    case neg =>
     have bf:(sp==0)=false:=jQ G;obtain rfl:R=3:=by rw[F.out];simp[G]
     clear F;go_wp2_with fail
     all_goals exact en I
    subst G;obtain rfl:R=0:=by rw[F.out];simp
    clear F;go_wp2_with fail
    all_goals exact en I
  | false =>
   by_cases e':ty=0
   case neg =>
    have bf:(ty==0)=false:=jQ e';obtain rfl:R=3:=by rw[F.out];simp[e']
    clear F;go_wp2_with fail
    all_goals exact en i'
   subst e'
   by_cases g':vr=0
   case neg =>
    have bf:(vr==0)=false:=jQ g';obtain rfl:R=3:=by rw[F.out];simp[g']
    clear F;go_wp2_with fail
    all_goals exact en i'
   subst g'
   cases pb with
   | true =>
    go_wp2_with fail;refine (H.tm _).mono ?_;rintro e wt ⟨rfl,D⟩;have I:=ab i' D;clear y0 y1 y2 y3 y4 y5 y6 y7 y8 y9 O Z b' a';replace HY:=jD (HY.out.stays D);obtain⟨y0,y1,y2,y3,y4,y5,y6,y7,y8,y9,O,Z,b',a'⟩:=HY.out;clear D;obtain rfl:R=0:=by rw[F.out];simp
    clear F;go_wp2_with fail
    all_goals exact en I
   | false =>
    by_cases J:sc=0
    case neg =>
     have bf:(sc==0)=false:=jQ J;obtain rfl:R=3:=by rw[F.out];simp[J]
     clear F;go_wp2_with fail
     all_goals exact en i'
    subst J;go_wp2_with fail;refine (H.tm _).mono ?_;rintro e wt ⟨rfl,D⟩;have I:=ab i' D;clear y0 y1 y2 y3 y4 y5 y6 y7 y8 y9 O Z b' a';replace HY:=jD (HY.out.stays D);obtain⟨y0,y1,y2,y3,y4,y5,y6,y7,y8,y9,O,Z,b',a'⟩:=HY.out;clear D
    by_cases G:sp=0
    case neg =>
     have bf:(sp==0)=false:=jQ G;obtain rfl:R=3:=by rw[F.out];simp[G]
     clear F;go_wp2_with fail
     all_goals exact en I
    subst G;obtain rfl:R=0:=by rw[F.out];simp
    clear F;go_wp2_with fail
    all_goals exact en I
 | false =>
  have HX:=F;clear HX
  cases vb with
  | true =>
   cases pb with
   | true =>
    go_wp2_with fail;refine (H.tm _).mono ?_;rintro e wt ⟨rfl,D⟩;have I:=ab h'.out D;clear y0 y1 y2 y3 y4 y5 y6 y7 y8 y9 O Z b' a';replace HY:=jD (HY.out.stays D);obtain⟨y0,y1,y2,y3,y4,y5,y6,y7,y8,y9,O,Z,b',a'⟩:=HY.out;clear D;go_wp2_with fail;refine (H.sm _ I).mono ?_;rintro e ws ⟨rfl,j'⟩;have f':=ab I j'
    cases q with
    | false =>
     obtain rfl:R=3:=by rw[F.out];simp
     clear F;go_wp2_with fail
     all_goals exact en f'
    | true =>
     obtain rfl:R=0:=by rw[F.out];simp
     clear F;go_wp2_with fail
     all_goals exact en f'
   | false =>
    by_cases J:sc=0
    case neg =>
     have bf:(sc==0)=false:=jQ J;obtain rfl:R=3:=by rw[F.out];simp[J]
     clear F;go_wp2_with fail
     all_goals exact en h'.out
    subst J;go_wp2_with fail;refine (H.tm _).mono ?_;rintro e wt ⟨rfl,D⟩;have I:=ab h'.out D;clear y0 y1 y2 y3 y4 y5 y6 y7 y8 y9 O Z b' a';replace HY:=jD (HY.out.stays D);obtain⟨y0,y1,y2,y3,y4,y5,y6,y7,y8,y9,O,Z,b',a'⟩:=HY.out;clear D
    by_cases G:sp=0
    case neg =>
     have bf:(sp==0)=false:=jQ G;obtain rfl:R=3:=by rw[F.out];simp[G]
     clear F;go_wp2_with fail
     all_goals exact en I
    subst G;go_wp2_with fail;refine (H.sm _ I).mono ?_;rintro e ws ⟨rfl,j'⟩;have f':=ab I j'
    cases q with
    | false =>
     obtain rfl:R=3:=by rw[F.out];simp
     clear F;go_wp2_with fail
     all_goals exact en f'
    | true =>
     obtain rfl:R=0:=by rw[F.out];simp
     clear F;go_wp2_with fail
     all_goals exact en f'
  | false =>
   by_cases e':ty=0
   case neg =>
    have bf:(ty==0)=false:=jQ e';obtain rfl:R=3:=by rw[F.out];simp[e']
    clear F;go_wp2_with fail
    all_goals exact en h'.out
   subst e'
   by_cases g':vr=0
   case neg =>
    have bf:(vr==0)=false:=jQ g';obtain rfl:R=3:=by rw[F.out];simp[g']
    clear F;go_wp2_with fail
    all_goals exact en h'.out
   subst g'
   cases pb with
   | true =>
    go_wp2_with fail;refine (H.tm _).mono ?_;rintro e wt ⟨rfl,D⟩;have I:=ab h'.out D;clear y0 y1 y2 y3 y4 y5 y6 y7 y8 y9 O Z b' a';replace HY:=jD (HY.out.stays D);obtain⟨y0,y1,y2,y3,y4,y5,y6,y7,y8,y9,O,Z,b',a'⟩:=HY.out;clear D;go_wp2_with fail;refine (H.sm _ I).mono ?_;rintro e ws ⟨rfl,j'⟩;have f':=ab I j'
    cases q with
    | false =>
     obtain rfl:R=3:=by rw[F.out];simp
     clear F;go_wp2_with fail
     all_goals exact en f'
    | true =>
     obtain rfl:R=0:=by rw[F.out];simp
     clear F;go_wp2_with fail
     all_goals exact en f'
   | false =>
    by_cases J:sc=0
    case neg =>
     have bf:(sc==0)=false:=jQ J;obtain rfl:R=3:=by rw[F.out];simp[J]
     clear F;go_wp2_with fail
     all_goals exact en h'.out
    subst J;go_wp2_with fail;refine (H.tm _).mono ?_;rintro e wt ⟨rfl,D⟩;have I:=ab h'.out D;clear y0 y1 y2 y3 y4 y5 y6 y7 y8 y9 O Z b' a';replace HY:=jD (HY.out.stays D);obtain⟨y0,y1,y2,y3,y4,y5,y6,y7,y8,y9,O,Z,b',a'⟩:=HY.out;clear D
    by_cases G:sp=0
    case neg =>
     have bf:(sp==0)=false:=jQ G;obtain rfl:R=3:=by rw[F.out];simp[G]
     clear F;go_wp2_with fail
     all_goals exact en I
    subst G;go_wp2_with fail;refine (H.sm _ I).mono ?_;rintro e ws ⟨rfl,j'⟩;have f':=ab I j'
    cases q with
    | false =>
     obtain rfl:R=3:=by rw[F.out];simp
     clear F;go_wp2_with fail
     all_goals exact en f'
    | true =>
     obtain rfl:R=0:=by rw[F.out];simp
     clear F;go_wp2_with fail
     all_goals exact en f'
end Go.Proofs.YtokconodddedhaaGreatDoor
