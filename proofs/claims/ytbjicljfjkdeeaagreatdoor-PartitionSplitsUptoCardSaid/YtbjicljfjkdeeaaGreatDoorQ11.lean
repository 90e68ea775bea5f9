/- Part. -/
import Derived.Test.YtbjicljfjkdeeaaGreatDoorQ10
set_option maxRecDepth 100000
set_option maxHeartbeats 16000000
set_option linter.unusedVariables false
set_option linter.unusedSimpArgs false
namespace Go.Proofs.YtbjicljfjkdeeaaGreatDoor
open Go.Proofs.Tryz Go.RowKit
def rS (op:Int):Bool:=decide (op=5\/op=9)
abbrev P14 (W:World) (X:Nat) (A:Option Addr) (c:Nat) (Ac:Option Addr) (nc cc n:Nat) (op ty vr sc sp Z d' c' a' k0 n0:Int) (t0:ByteArray):Prop:=W.cell? ⟨X,0,none⟩=some (Mk op)/\W.cell? ⟨X,1,none⟩=some (.slice A n c)/\W.cell? ⟨X,2,none⟩=some (Mk ty)/\W.cell? ⟨X,3,none⟩=some (Mk vr)/\W.cell? ⟨X,4,none⟩=some (Mk sc)/\W.cell? ⟨X,5,none⟩=some (Mk sp)/\W.cell? ⟨X,6,none⟩=some (Mk Z)/\W.cell? ⟨X,7,none⟩=some (.slice Ac nc cc)/\W.cell? ⟨X,8,none⟩=some (Mk d')/\W.cell? ⟨X,9,none⟩=some (Mk c')/\W.cell? ⟨X,10,none⟩=some (Mk a')/\W.cell? ⟨X,11,none⟩=some (Mk k0)/\W.cell? ⟨X,12,none⟩=some (Mk n0)/\W.cell? ⟨X,13,none⟩=some (.string t0)
theorem P14.stays {w W:World} {X:Nat} {A:Option Addr} {c:Nat} {Ac:Option Addr} {nc cc n:Nat} {op ty vr sc sp Z d' c' a' k0 n0:Int} {t0:ByteArray} (h:P14 w X A c Ac nc cc n op ty vr sc sp Z d' c' a' k0 n0 t0) (hb:Mm w W):P14 W X A c Ac nc cc n op ty vr sc sp Z d' c' a' k0 n0 t0:=by
 obtain⟨y0,y1,y2,y3,y4,y5,y6,y7,y8,y9,h',j',i',k'⟩:=h;exact⟨aa hb y0,aa hb y1,aa hb y2,aa hb y3,aa hb y4,aa hb y5,aa hb y6,aa hb y7,aa hb y8,aa hb y9,aa hb h',aa hb j',aa hb i',aa hb k'⟩
theorem uR {w W:World} {t:TypeId} {A:Option Addr} {c:Nat} {Ac:Option Addr} {nc cc n:Nat} {op ty vr sc sp Z d' c' a' k0 n0:Int} {t0:ByteArray} (hb:Below (w.alloc (.cells #[.int .i64 op,.slice A n c,.int .i64 ty,.int .i64 vr,.int .i64 sc,.int .i64 sp,.int .i64 Z,.slice Ac nc cc,.int .i64 d',.int .i64 c',.int .i64 a',.int .i64 k0,.int .i64 n0,.string t0] t)).heap.size (w.alloc (.cells #[.int .i64 op,.slice A n c,.int .i64 ty,.int .i64 vr,.int .i64 sc,.int .i64 sp,.int .i64 Z,.slice Ac nc cc,.int .i64 d',.int .i64 c',.int .i64 a',.int .i64 k0,.int .i64 n0,.string t0] t)) W):P14 W w.heap.size A c Ac nc cc n op ty vr sc sp Z d' c' a' k0 n0 t0:=by
 have h:=(bE hb).1;exact⟨by rw[h];rfl,by rw[h];rfl,by rw[h];rfl,by rw[h];rfl,by rw[h];rfl,by rw[h];rfl,by rw[h];rfl,by rw[h];rfl,by rw[h];rfl,by rw[h];rfl,by rw[h];rfl,by rw[h];rfl,by rw[h];rfl,by rw[h];rfl⟩
theorem qr (x:Pt) (v:Value) (Ac:Option Addr) (nc cc:Nat) (w:World):Mn 94 #[ptV x v (.slice Ac nc cc)] w (.bool (rS x.op)):=by
 obtain⟨op,l,ty,vr,sc,sp,⟨Z,l2,d',c',a',⟨k0,n0,t0⟩⟩⟩:=x;unfold ptV;simp only[Pt.op,Pt.ty,Pt.vr,Pt.sc,Pt.sp,Pt.cond,Ex.op,Ex.vr,Ex.fl,Ex.kd,Ex.val]
 by_cases h5:op=5
 ·subst h5;go_enter func94,ntmps94;go_wp2;go_ret;exact⟨rfl,af w _⟩
 ·have U':(op==5)=false:=jQ h5
  by_cases h9:op=9
  ·subst h9;go_enter func94,ntmps94;go_wp2;go_ret;exact⟨rfl,af w _⟩
  ·have T':(op==9)=false:=jQ h9;have e:rS op=false:=by simp[rS,h5,h9]
   rw[e];clear e;go_enter func94,ntmps94;go_wp2;go_ret;exact⟨rfl,af w _⟩
theorem wY (x:Pt) (v:Value) (Ac:Option Addr) (nc cc:Nat) (w:World):Mn 95 #[ptV x v (.slice Ac nc cc)] w (.bool (fF x.op)):=by
 obtain⟨op,l,ty,vr,sc,sp,⟨Z,l2,d',c',a',⟨k0,n0,t0⟩⟩⟩:=x;unfold ptV;simp only[Pt.op,Pt.ty,Pt.vr,Pt.sc,Pt.sp,Pt.cond,Ex.op,Ex.vr,Ex.fl,Ex.kd,Ex.val]
 by_cases h5:op=6
 ·subst h5;go_enter func95,ntmps95;go_wp2;go_ret;exact⟨rfl,af w _⟩
 ·have U':(op==6)=false:=jQ h5
  by_cases h9:op=10
  ·subst h9;go_enter func95,ntmps95;go_wp2;go_ret;exact⟨rfl,af w _⟩
  ·have T':(op==10)=false:=jQ h9;have e:fF op=false:=by simp[fF,h5,h9]
   rw[e];clear e;go_enter func95,ntmps95;go_wp2;go_ret;exact⟨rfl,af w _⟩
theorem ubP {p:Prop} (h:p:=by
  go_wp2_with fail;refine (HN.out _).mono ?_;rintro e w1 ⟨rfl,s'⟩;go_wp2;go_ret;exact⟨rfl,ab (af w _) s'⟩):p:=h
theorem qN (x:Pt) (v:Value) (Ac:Option Addr) (nc cc:Nat) (w:World):Mn 93 #[ptV x v (.slice Ac nc cc)] w (.bool (cD x.op)):=by
 have HN:=jD (fun W=>qr x v Ac nc cc W)
 by_cases h0:x.op=0
 ·have e:cD x.op=true:=by simp[cD,h0]
  rw[e];clear e HN;obtain⟨op,l,ty,vr,sc,sp,⟨Z,l2,d',c',a',⟨k0,n0,t0⟩⟩⟩:=x;unfold ptV;simp only[Pt.op,Pt.ty,Pt.vr,Pt.sc,Pt.sp,Pt.cond,Ex.op,Ex.vr,Ex.fl,Ex.kd,Ex.val]at h0 ⊢;subst h0;go_enter func93,ntmps93;go_wp2;go_ret;exact⟨rfl,af w _⟩
 ·have e:cD x.op=rS x.op:=by simp[cD,rS,h0]
  rw[e];clear e;obtain⟨r,hr⟩:=jE (rS x.op);rw[hr]at HN ⊢;clear hr;obtain⟨op,l,ty,vr,sc,sp,⟨Z,l2,d',c',a',⟨k0,n0,t0⟩⟩⟩:=x;unfold ptV at HN ⊢;simp only[Pt.op,Pt.ty,Pt.vr,Pt.sc,Pt.sp,Pt.cond,Ex.op,Ex.vr,Ex.fl,Ex.kd,Ex.val]at h0 HN ⊢;have P':(op==0)=false:=jQ h0;go_enter func93,ntmps93;exact ubP
theorem G7 (x:Pt) (v:Value) (Ac:Option Addr) (nc cc:Nat) (w:World):Mn 212 #[ptV x v (.slice Ac nc cc)] w (.bool (mx x.op)):=by
 have HN:=jD (fun W=>qN x v Ac nc cc W);obtain⟨r,hr⟩:=jE (cD x.op);have e:mx x.op=(r || decide (x.op=7)):=by rw[<-hr];unfold mx cD;by_cases h:x.op=7<;>simp[h]
 rw[hr]at HN;rw[e];clear e hr;obtain⟨op,l,ty,vr,sc,sp,⟨Z,l2,d',c',a',⟨k0,n0,t0⟩⟩⟩:=x;unfold ptV at HN ⊢;simp only[Pt.op,Pt.ty,Pt.vr,Pt.sc,Pt.sp,Pt.cond,Ex.op,Ex.vr,Ex.fl,Ex.kd,Ex.val]at HN ⊢
 cases r with
 | true =>
  rw[Bool.true_or];go_enter func212,ntmps212;exact ubP
 | false =>
  rw[On]
  by_cases h7:op=7
  ·subst h7;go_enter func212,ntmps212;go_wp2_with fail;refine (HN.out _).mono ?_;rintro e w1 ⟨rfl,s'⟩;have y0:w1.cell? ⟨w.heap.size,0,none⟩=some (Mk 7):=by rw[(bE s').1];rfl
   go_wp2;go_ret;exact⟨rfl,ab (af w _) s'⟩
  ·have V':(op==7)=false:=jQ h7;simp only[h7,N3];go_enter func212,ntmps212;go_wp2_with fail;refine (HN.out _).mono ?_;rintro e w1 ⟨rfl,s'⟩;have y0:w1.cell? ⟨w.heap.size,0,none⟩=some (Mk op):=by rw[(bE s').1];rfl
   go_wp2;go_ret;exact⟨rfl,ab (af w _) s'⟩
theorem ubM {p:Prop} (h:p:=by
  clear hr;go_enter func213,ntmps213;go_wp2;go_ret;exact⟨rfl,Mr _ _⟩):p:=h
theorem mi (u:Bool) (n m:Int) (w:World):Mn 213 #[.bool u,Mk n,Mk m] w (.bool (dL u n m)):=by
 obtain⟨r,hr⟩:=jE (dL u n m);rw[hr];unfold dL at hr
 cases u with
 | false =>
  subst hr;go_enter func213,ntmps213;go_wp2;go_ret;exact⟨rfl,Mr _ _⟩
 | true =>
  by_cases h0:n<0
  ·obtain rfl:r=true:=by rw[<-hr];simp[h0]
   exact ubM
  ·by_cases h1:m<n
   ·obtain rfl:r=true:=by rw[<-hr];simp[h1]
    exact ubM
   ·obtain rfl:r=false:=by rw[<-hr];simp[h0,h1]
    exact ubM
theorem ubL {p:Prop} (h:p:=by
  go_enter func211,ntmps211;go_wp2;go_ret;exact⟨by simp,af w _⟩):p:=h
theorem Ir (x:Pt) (A:Option Addr) (c:Nat) (Ac:Option Addr) (nc cc:Nat) (w:World):Mn 211 #[ptV x (.slice A x.args.length c) (.slice Ac nc cc)] w (.bool (gM x.op x.args.length)):=by
 obtain⟨n,hn⟩:=jE x.args.length;rw[hn];clear hn;obtain⟨r,hr⟩:=jE (gM x.op n);rw[hr];obtain⟨op,l,ty,vr,sc,sp,⟨Z,l2,d',c',a',⟨k0,n0,t0⟩⟩⟩:=x;unfold ptV;simp only[Pt.op,Pt.ty,Pt.vr,Pt.sc,Pt.sp,Pt.cond,Ex.op,Ex.vr,Ex.fl,Ex.kd,Ex.val]at hr ⊢;unfold gM at hr
 by_cases h0:op=0
 ·subst h0;have er:r=((n:Int)==0):=by rw[<-hr,Mp rfl,Nt];simp
  rw[er];clear hr er;exact ubL
 ·rw[Mo h0]at hr;have P':(op==0)=false:=jQ h0
  by_cases h1:1<=op/\op<=3
  ·rw[Mp h1]at hr;have er:r=decide (2<=(n:Int)):=by rw[<-hr];exact decide_eq_decide.2 om
   rw[er];clear hr er h0;obtain rfl|rfl|rfl:op=1\/op=2\/op=3:=by omega
   all_goals
    exact ubL
  ·rw[Mo h1]at hr;have g1:(op==1)=false:=by simp;omega
   have g2:(op==2)=false:=by simp;omega
   have g3:(op==3)=false:=by simp;omega
   by_cases h8:op=8
   ·rw[Mp h8]at hr;have er:r=((n:Int)==2):=by rw[<-hr];by_cases h:n=2<;>simp[h]<;>omega
    rw[er];clear hr er h0 h1 g1 g2 g3 P';subst h8;exact ubL
   ·rw[Mo h8]at hr;have X':(op==8)=false:=jQ h8;have er:r=((n:Int)==1):=by rw[<-hr];by_cases h:n=1<;>simp[h]<;>omega
    rw[er];clear hr er h0 h1 h8;exact ubL
structure NdH (A:Option Addr) (c:Nat) (Ac:Option Addr) (cc nc n:Nat) (z:Int) (q vb cb pb nb sb b1 b2 b3 b4:Bool) (op ty vr sc sp op2 vr2 fl2 kd2 k0 n0:Int) (t0:ByteArray) (w:World):Prop where
 ck:∀W,Mm w W->Mn 214 #[.agg #[Mk op2,.slice Ac nc cc,Mk vr2,Mk fl2,Mk kd2,Mk k0,Mk n0,.string t0]] W (Mk z)
 sm:∀W,Mm w W->Mn 215 #[.agg #[Mk op2,.slice Ac nc cc,Mk vr2,Mk fl2,Mk kd2,Mk k0,Mk n0,.string t0],.agg #[Mk 0,.slice none 0 0,Mk 0,Mk 0,Mk 0,Mk 0,Mk 0,.string ⟨#[]⟩]] W (.bool q)
 ar:∀W,Mn 211 #[.agg #[Mk op,.slice A n c,Mk ty,Mk vr,Mk sc,Mk sp,Mk op2,.slice Ac nc cc,Mk vr2,Mk fl2,Mk kd2,Mk k0,Mk n0,.string t0]] W (.bool true)
 va:∀W,Mn 93 #[.agg #[Mk op,.slice A n c,Mk ty,Mk vr,Mk sc,Mk sp,Mk op2,.slice Ac nc cc,Mk vr2,Mk fl2,Mk kd2,Mk k0,Mk n0,.string t0]] W (.bool vb)
 ng:∀W,Mn 94 #[.agg #[Mk op,.slice A n c,Mk ty,Mk vr,Mk sc,Mk sp,Mk op2,.slice Ac nc cc,Mk vr2,Mk fl2,Mk kd2,Mk k0,Mk n0,.string t0]] W (.bool nb)
 tm:∀W,Mn 95 #[.agg #[Mk op,.slice A n c,Mk ty,Mk vr,Mk sc,Mk sp,Mk op2,.slice Ac nc cc,Mk vr2,Mk fl2,Mk kd2,Mk k0,Mk n0,.string t0]] W (.bool pb)
 co:∀W,Mn 212 #[.agg #[Mk op,.slice A n c,Mk ty,Mk vr,Mk sc,Mk sp,Mk op2,.slice Ac nc cc,Mk vr2,Mk fl2,Mk kd2,Mk k0,Mk n0,.string t0]] W (.bool cb)
 w1:∀W,Mn 213 #[.bool vb,Mk ty,Mk 15] W (.bool b1)
 w2:∀W,Mn 213 #[.bool vb,Mk vr,Mk 15] W (.bool b2)
 w3:∀W,Mn 213 #[.bool sb,Mk sc,Mk 63] W (.bool b3)
 w4:∀W,Mn 213 #[.bool pb,Mk sp,Mk 1099511627776] W (.bool b4)
structure Fk (n:Nat):Prop where
 t:True
theorem ndS {p:Prop} (h:p:=by
  go_enter func140,ntmps140;go_wp2_with fail;refine (H.ar _).mono ?_;rintro e w1 ⟨rfl,s'⟩;have HY:=jD (uR s');have E':=jD (ab (af w _) s');clear s';obtain⟨y0,y1,y2,y3,y4,y5,y6,y7,y8,y9,h',j',i',k'⟩:=HY.out;go_wp2_with fail;clear y0 y1 y2 y3 y4 y5 y6 y7 y8 y9 h' j' i' k';refine rgn (fun W=>Mm w1 W/\P14 W w.heap.size A c Ac nc cc n op ty vr sc sp Z d' c' a' k0 n0 t0) (Below w1.heap.size w1) (fun W hW=>⟨hW,HY.out.stays hW⟩) ((Mr _ _).drew) (fun m' I=>?_);generalize w1.drew=wDa at I ⊢;refine tkH [0,2,8] ?_;refine nxH 1 (fun K hK=>?_)
  focus (go_simp;refine (H.va _).mono ?_;rintro e S' ⟨rfl,J⟩)
  refine hK.out _ _ (m' _ (ab I.1 J)) (fun I=>?_);clear hK K;refine nxH 3 (fun K hK=>?_)
  focus (go_simp;refine (H.ng _).mono ?_;rintro e N' ⟨rfl,J⟩)
  refine hK.out _ _ (m' _ (ab I.1 J)) (fun I=>?_);clear hK K
  first|(have h1:Fk 11:=G;refine tkH [4] ?_;refine tkS [5,6] ?_)|(refine tkH [4,5] ?_;refine nxH 6 (fun K hK=>?_);focus (go_simp;refine (H.tm _).mono ?_;rintro e R' ⟨rfl,J⟩);refine hK.out _ _ (m' _ (ab I.1 J)) (fun I=>?_);clear hK K)
  refine tkH [7] ?_;refine nxH 9 (fun K hK=>?_)
  focus (go_simp;refine (H.co _).mono ?_;rintro e z' ⟨rfl,J⟩)
  refine hK.out _ _ (m' _ (ab I.1 J)) (fun I=>?_);clear hK K;refine tkH [10,11,12] ?_;refine dn ?_;clear m' HY;obtain⟨u',HY⟩:=I;replace HY:=jD HY;have F':=jD (ab E'.out u');clear u';obtain⟨y0,y1,y2,y3,y4,y5,y6,y7,y8,y9,h',j',i',k'⟩:=HY.out;go_wp2_with fail;clear y0 y1 y2 y3 y4 y5 y6 y7 y8 y9 h' j' i' k';refine rgn (fun W=>Mm z' W/\P14 W w.heap.size A c Ac nc cc n op ty vr sc sp Z d' c' a' k0 n0 t0) (Below z'.heap.size z') (fun W hW=>⟨hW,HY.out.stays hW⟩) ((Mr _ _).drew) (fun m' I=>?_);generalize z'.drew=wDb at I ⊢;refine tkH [0,1,2] ?_;refine nxH 3 (fun K hK=>?_)
  focus (go_simp;refine (H.w1 _).mono ?_;rintro e O' ⟨rfl,J⟩)
  refine hK.out _ _ (m' _ (ab I.1 J)) (fun I=>?_);clear hK K
  first|(have h1:Fk 1:=F;refine tkH [4] ?_;refine tkS [5,6,7,8] ?_;refine tkH [9,10] ?_;refine tkS [11,12,13,14] ?_;refine tkH [15,16] ?_;refine tkS [17,18,19,20,21] ?_;refine tkH [22] ?_)|(refine tkH [4,5,6,7] ?_;refine nxH 8 (fun K hK=>?_);focus (go_simp;refine (H.w2 _).mono ?_;rintro e J' ⟨rfl,J⟩);refine hK.out _ _ (m' _ (ab I.1 J)) (fun I=>?_);clear hK K;(first|(have h1:Fk 2:=F;refine tkH [9,10] ?_;refine tkS [11,12,13,14] ?_;refine tkH [15,16] ?_;refine tkS [17,18,19,20,21] ?_;refine tkH [22] ?_)|(refine tkH [9,10,11,12,13] ?_;refine nxH 14 (fun K hK=>?_);focus (go_simp;refine (H.w3 _).mono ?_;rintro e H' ⟨rfl,J⟩);refine hK.out _ _ (m' _ (ab I.1 J)) (fun I=>?_);clear hK K;(first|(have h1:Fk 3:=F;refine tkH [15,16] ?_;refine tkS [17,18,19,20,21] ?_;refine tkH [22] ?_)|(refine tkH [15,16,17,19,20] ?_;refine nxH 18 (fun K hK=>?_);focus (go_simp;refine (H.tm _).mono ?_;rintro e G' ⟨rfl,J⟩);refine hK.out _ _ (m' _ (ab I.1 J)) (fun I=>?_);clear hK K;refine nxH 21 (fun K hK=>?_);focus (go_simp;refine (H.w4 _).mono ?_;rintro e I' ⟨rfl,J⟩);refine hK.out _ _ (m' _ (ab I.1 J)) (fun I=>?_);clear hK K;refine tkH [22] ?_)))))
  refine dn ?_;clear m' HY;obtain⟨u',HY⟩:=I;replace HY:=jD HY;have t':=jD (ab F'.out u');clear u';obtain rfl:R=2:=O.out;clear O;obtain⟨y0,y1,y2,y3,y4,y5,y6,y7,y8,y9,h',j',i',k'⟩:=HY.out;go_wp2_with fail
  all_goals first|(exfalso;omega)|(go_ret;exact⟨rfl,t'.out⟩)):p:=h
theorem D4 (A:Option Addr) (c:Nat) (Ac:Option Addr) (cc nc n:Nat) (z:Int) (q vb cb pb:Bool) (b2 b3 b4:Bool) (op ty vr sc sp Z d' c' a' k0 n0:Int) (t0:ByteArray) (w:World) (R:Int) (A':¬op<0) (B':¬10<op)
  (H:NdH A c Ac cc nc n z q vb cb pb true true true b2 b3 b4 op ty vr sc sp Z d' c' a' k0 n0 t0 w)
  (O:Hid (R=2)) :
  Mn 140 #[.agg #[Mk op,.slice A n c,Mk ty,Mk vr,Mk sc,Mk sp,Mk Z,.slice Ac nc cc,Mk d',Mk c',Mk a',Mk k0,Mk n0,.string t0]] w (Mk R):=by
 have F:Fk 1:=⟨trivial⟩;have G:Fk 11:=⟨trivial⟩;exact ndS
theorem D6 (A:Option Addr) (c:Nat) (Ac:Option Addr) (cc nc n:Nat) (z:Int) (q vb cb pb:Bool) (b3 b4:Bool) (op ty vr sc sp Z d' c' a' k0 n0:Int) (t0:ByteArray) (w:World) (R:Int) (A':¬op<0) (B':¬10<op)
  (H:NdH A c Ac cc nc n z q vb cb pb true true false true b3 b4 op ty vr sc sp Z d' c' a' k0 n0 t0 w)
  (O:Hid (R=2)) :
  Mn 140 #[.agg #[Mk op,.slice A n c,Mk ty,Mk vr,Mk sc,Mk sp,Mk Z,.slice Ac nc cc,Mk d',Mk c',Mk a',Mk k0,Mk n0,.string t0]] w (Mk R):=by
 have F:Fk 2:=⟨trivial⟩;have G:Fk 11:=⟨trivial⟩;exact ndS
theorem Dl (A:Option Addr) (c:Nat) (Ac:Option Addr) (cc nc n:Nat) (z:Int) (q vb cb pb:Bool) (b4:Bool) (op ty vr sc sp Z d' c' a' k0 n0:Int) (t0:ByteArray) (w:World) (R:Int) (A':¬op<0) (B':¬10<op)
  (H:NdH A c Ac cc nc n z q vb cb pb true true false false true b4 op ty vr sc sp Z d' c' a' k0 n0 t0 w)
  (O:Hid (R=2)) :
  Mn 140 #[.agg #[Mk op,.slice A n c,Mk ty,Mk vr,Mk sc,Mk sp,Mk Z,.slice Ac nc cc,Mk d',Mk c',Mk a',Mk k0,Mk n0,.string t0]] w (Mk R):=by
 have F:Fk 3:=⟨trivial⟩;have G:Fk 11:=⟨trivial⟩;exact ndS
theorem DN (A:Option Addr) (c:Nat) (Ac:Option Addr) (cc nc n:Nat) (z:Int) (q vb cb pb:Bool) (op ty vr sc sp Z d' c' a' k0 n0:Int) (t0:ByteArray) (w:World) (R:Int) (A':¬op<0) (B':¬10<op)
  (H:NdH A c Ac cc nc n z q vb cb pb true true false false false true op ty vr sc sp Z d' c' a' k0 n0 t0 w)
  (O:Hid (R=2)) :
  Mn 140 #[.agg #[Mk op,.slice A n c,Mk ty,Mk vr,Mk sc,Mk sp,Mk Z,.slice Ac nc cc,Mk d',Mk c',Mk a',Mk k0,Mk n0,.string t0]] w (Mk R):=by
 have F:Fk 4:=⟨trivial⟩;have G:Fk 11:=⟨trivial⟩;exact ndS
theorem ubF {p:Prop} (h:p:=by
  go_wp2_with fail;refine (H.sm _ l').mono ?_;rintro e ws ⟨rfl,x'⟩;have n':=ab l' x'
  cases q with
  | false =>
   obtain rfl:R=3:=by rw[O.out];simp
   clear O;go_wp2_with fail
   all_goals exact en n'
  | true =>
   obtain rfl:R=0:=by rw[O.out];simp
   clear O;go_wp2_with fail
   all_goals exact en n'):p:=h
theorem ubK {p:Prop} (h:p:=by
  have bf:(sp==0)=false:=jQ f';obtain rfl:R=3:=by rw[O.out];simp[f']
  clear O;go_wp2_with fail
  all_goals exact en l'):p:=h
theorem ubI {p:Prop} (h:p:=by
  go_wp2_with fail;refine (H.tm _).mono ?_;rintro e wt ⟨rfl,g'⟩;have l':=ab y' g';clear y0 y1 y2 y3 y4 y5 y6 y7 y8 y9 h' j' i' k';replace HY:=jD (HY.out.stays g');obtain⟨y0,y1,y2,y3,y4,y5,y6,y7,y8,y9,h',j',i',k'⟩:=HY.out;clear g'
  cases pb with
  | true =>
   obtain rfl:R=0:=by rw[O.out];simp
   clear O;go_wp2_with fail
   all_goals exact en l'
  | false =>
   by_cases f':sp=0
   case neg =>
    exact ubK
   subst f';obtain rfl:R=0:=by rw[O.out];simp
   clear O;go_wp2_with fail
   all_goals exact en l'):p:=h
theorem ubJ {p:Prop} (h:p:=by
  go_wp2_with fail;refine (H.tm _).mono ?_;rintro e wt ⟨rfl,g'⟩;have l':=ab t'.out g';clear y0 y1 y2 y3 y4 y5 y6 y7 y8 y9 h' j' i' k';replace HY:=jD (HY.out.stays g');obtain⟨y0,y1,y2,y3,y4,y5,y6,y7,y8,y9,h',j',i',k'⟩:=HY.out;clear g'
  cases pb with
  | true =>
   exact ubF
  | false =>
   by_cases f':sp=0
   case neg =>
    exact ubK
   subst f';exact ubF):p:=h
theorem ubN {p:Prop} (h:p:=by
  have bf:(ty==0)=false:=jQ q';obtain rfl:R=3:=by rw[O.out];simp[q']
  clear O;go_wp2_with fail
  all_goals exact en t'.out):p:=h
theorem ubO {p:Prop} (h:p:=by
  have bf:(vr==0)=false:=jQ p';obtain rfl:R=3:=by rw[O.out];simp[p']
  clear O;go_wp2_with fail
  all_goals exact en t'.out):p:=h
theorem ubQ {p:Prop} (h:p:=by
  have bf:(ty==0)=false:=jQ q';obtain rfl:R=3:=by rw[O.out];simp[q']
  clear O;go_wp2_with fail
  all_goals exact en y'):p:=h
theorem ubR {p:Prop} (h:p:=by
  have bf:(vr==0)=false:=jQ p';obtain rfl:R=3:=by rw[O.out];simp[p']
  clear O;go_wp2_with fail
  all_goals exact en y'):p:=h
theorem ubS {p:Prop} (h:p:=by
  have bz:(z==0)=false:=jQ D';obtain rfl:R=z:=by rw[O.out];simp[D']
  clear O;go_wp2_with fail
  all_goals exact en y'):p:=h
theorem Db (A:Option Addr) (c:Nat) (Ac:Option Addr) (cc nc n:Nat) (z:Int) (q vb cb pb:Bool) (op ty vr sc sp Z d' c' a' k0 n0:Int) (t0:ByteArray) (w:World) (R:Int) (A':¬op<0) (B':¬10<op)
  (H:NdH A c Ac cc nc n z q vb cb pb true true false false false false op ty vr sc sp Z d' c' a' k0 n0 t0 w)
  (O:Hid (R=if cb=true/\z≠0 then z else if (cb=false/\q=false)\/(vb || decide (ty=0))=false\/(vb || decide (vr=0))=false\/(true || decide (sc=0))=false\/(pb || decide (sp=0))=false then 3 else 0)) :
  Mn 140 #[.agg #[Mk op,.slice A n c,Mk ty,Mk vr,Mk sc,Mk sp,Mk Z,.slice Ac nc cc,Mk d',Mk c',Mk a',Mk k0,Mk n0,.string t0]] w (Mk R):=by
 have F:Fk 5:=⟨trivial⟩;have G:Fk 11:=⟨trivial⟩;go_enter func140,ntmps140;go_wp2_with fail;refine (H.ar _).mono ?_;rintro e w1 ⟨rfl,s'⟩;have HY:=jD (uR s');have E':=jD (ab (af w _) s');clear s';obtain⟨y0,y1,y2,y3,y4,y5,y6,y7,y8,y9,h',j',i',k'⟩:=HY.out;go_wp2_with fail;clear y0 y1 y2 y3 y4 y5 y6 y7 y8 y9 h' j' i' k';refine rgn (fun W=>Mm w1 W/\P14 W w.heap.size A c Ac nc cc n op ty vr sc sp Z d' c' a' k0 n0 t0) (Below w1.heap.size w1) (fun W hW=>⟨hW,HY.out.stays hW⟩) ((Mr _ _).drew) (fun m' I=>?_);generalize w1.drew=wDa at I ⊢;refine tkH [0,2,8] ?_;refine nxH 1 (fun K hK=>?_)
 focus (go_simp;refine (H.va _).mono ?_;rintro e S' ⟨rfl,J⟩)
 refine hK.out _ _ (m' _ (ab I.1 J)) (fun I=>?_);clear hK K;refine nxH 3 (fun K hK=>?_)
 focus (go_simp;refine (H.ng _).mono ?_;rintro e N' ⟨rfl,J⟩)
 refine hK.out _ _ (m' _ (ab I.1 J)) (fun I=>?_);clear hK K
 first|(have h1:Fk 11:=G;refine tkH [4] ?_;refine tkS [5,6] ?_)|(refine tkH [4,5] ?_;refine nxH 6 (fun K hK=>?_);focus (go_simp;refine (H.tm _).mono ?_;rintro e R' ⟨rfl,J⟩);refine hK.out _ _ (m' _ (ab I.1 J)) (fun I=>?_);clear hK K)
 refine tkH [7] ?_;refine nxH 9 (fun K hK=>?_)
 focus (go_simp;refine (H.co _).mono ?_;rintro e z' ⟨rfl,J⟩)
 refine hK.out _ _ (m' _ (ab I.1 J)) (fun I=>?_);clear hK K;refine tkH [10,11,12] ?_;refine dn ?_;clear m' HY;obtain⟨u',HY⟩:=I;replace HY:=jD HY;have F':=jD (ab E'.out u');clear u';obtain⟨y0,y1,y2,y3,y4,y5,y6,y7,y8,y9,h',j',i',k'⟩:=HY.out;go_wp2_with fail;clear y0 y1 y2 y3 y4 y5 y6 y7 y8 y9 h' j' i' k';refine rgn (fun W=>Mm z' W/\P14 W w.heap.size A c Ac nc cc n op ty vr sc sp Z d' c' a' k0 n0 t0) (Below z'.heap.size z') (fun W hW=>⟨hW,HY.out.stays hW⟩) ((Mr _ _).drew) (fun m' I=>?_);generalize z'.drew=wDb at I ⊢;refine tkH [0,1,2] ?_;refine nxH 3 (fun K hK=>?_)
 focus (go_simp;refine (H.w1 _).mono ?_;rintro e O' ⟨rfl,J⟩)
 refine hK.out _ _ (m' _ (ab I.1 J)) (fun I=>?_);clear hK K
 first|(have h1:Fk 1:=F;refine tkH [4] ?_;refine tkS [5,6,7,8] ?_;refine tkH [9,10] ?_;refine tkS [11,12,13,14] ?_;refine tkH [15,16] ?_;refine tkS [17,18,19,20,21] ?_;refine tkH [22] ?_)|(refine tkH [4,5,6,7] ?_;refine nxH 8 (fun K hK=>?_);focus (go_simp;refine (H.w2 _).mono ?_;rintro e J' ⟨rfl,J⟩);refine hK.out _ _ (m' _ (ab I.1 J)) (fun I=>?_);clear hK K;(first|(have h1:Fk 2:=F;refine tkH [9,10] ?_;refine tkS [11,12,13,14] ?_;refine tkH [15,16] ?_;refine tkS [17,18,19,20,21] ?_;refine tkH [22] ?_)|(refine tkH [9,10,11,12,13] ?_;refine nxH 14 (fun K hK=>?_);focus (go_simp;refine (H.w3 _).mono ?_;rintro e H' ⟨rfl,J⟩);refine hK.out _ _ (m' _ (ab I.1 J)) (fun I=>?_);clear hK K;(first|(have h1:Fk 3:=F;refine tkH [15,16] ?_;refine tkS [17,18,19,20,21] ?_;refine tkH [22] ?_)|(refine tkH [15,16,17,19,20] ?_;refine nxH 18 (fun K hK=>?_);focus (go_simp;refine (H.tm _).mono ?_;rintro e G' ⟨rfl,J⟩);refine hK.out _ _ (m' _ (ab I.1 J)) (fun I=>?_);clear hK K;refine nxH 21 (fun K hK=>?_);focus (go_simp;refine (H.w4 _).mono ?_;rintro e I' ⟨rfl,J⟩);refine hK.out _ _ (m' _ (ab I.1 J)) (fun I=>?_);clear hK K;refine tkH [22] ?_)))))
 refine dn ?_;clear m' HY;obtain⟨u',HY⟩:=I;replace HY:=jD HY;have t':=jD (ab F'.out u');clear u';obtain⟨y0,y1,y2,y3,y4,y5,y6,y7,y8,y9,h',j',i',k'⟩:=HY.out
 cases cb with
 | true =>
  go_wp2_with fail;refine (H.ck _ t'.out).mono ?_;rintro e wk ⟨rfl,C'⟩;clear y0 y1 y2 y3 y4 y5 y6 y7 y8 y9 h' j' i' k';replace HY:=jD (HY.out.stays C');obtain⟨y0,y1,y2,y3,y4,y5,y6,y7,y8,y9,h',j',i',k'⟩:=HY.out;have y':=ab t'.out C';clear C'
  by_cases D':z=0
  case neg =>
   exact ubS
  obtain rfl:=D';have HX:=O;clear HX
  cases vb with
  | true =>
   exact ubI
  | false =>
   by_cases q':ty=0
   case neg =>
    exact ubQ
   subst q'
   by_cases p':vr=0
   case neg =>
    exact ubR
   subst p';exact ubI
 | false =>
  have HX:=O;clear HX
  cases vb with
  | true =>
   exact ubJ
  | false =>
   by_cases q':ty=0
   case neg =>
    exact ubN
   subst q'
   by_cases p':vr=0
   case neg =>
    exact ubO
   subst p';exact ubJ
theorem DS (A:Option Addr) (c:Nat) (Ac:Option Addr) (cc nc n:Nat) (z:Int) (q vb cb pb:Bool) (b2 b3 b4:Bool) (op ty vr sc sp Z d' c' a' k0 n0:Int) (t0:ByteArray) (w:World) (R:Int) (A':¬op<0) (B':¬10<op)
  (H:NdH A c Ac cc nc n z q vb cb pb false pb true b2 b3 b4 op ty vr sc sp Z d' c' a' k0 n0 t0 w)
  (O:Hid (R=2)) :
  Mn 140 #[.agg #[Mk op,.slice A n c,Mk ty,Mk vr,Mk sc,Mk sp,Mk Z,.slice Ac nc cc,Mk d',Mk c',Mk a',Mk k0,Mk n0,.string t0]] w (Mk R):=by
 have F:Fk 1:=⟨trivial⟩;have G:Fk 12:=⟨trivial⟩;exact ndS
theorem Du (A:Option Addr) (c:Nat) (Ac:Option Addr) (cc nc n:Nat) (z:Int) (q vb cb pb:Bool) (b3 b4:Bool) (op ty vr sc sp Z d' c' a' k0 n0:Int) (t0:ByteArray) (w:World) (R:Int) (A':¬op<0) (B':¬10<op)
  (H:NdH A c Ac cc nc n z q vb cb pb false pb false true b3 b4 op ty vr sc sp Z d' c' a' k0 n0 t0 w)
  (O:Hid (R=2)) :
  Mn 140 #[.agg #[Mk op,.slice A n c,Mk ty,Mk vr,Mk sc,Mk sp,Mk Z,.slice Ac nc cc,Mk d',Mk c',Mk a',Mk k0,Mk n0,.string t0]] w (Mk R):=by
 have F:Fk 2:=⟨trivial⟩;have G:Fk 12:=⟨trivial⟩;exact ndS
theorem Eq (A:Option Addr) (c:Nat) (Ac:Option Addr) (cc nc n:Nat) (z:Int) (q vb cb pb:Bool) (b4:Bool) (op ty vr sc sp Z d' c' a' k0 n0:Int) (t0:ByteArray) (w:World) (R:Int) (A':¬op<0) (B':¬10<op)
  (H:NdH A c Ac cc nc n z q vb cb pb false pb false false true b4 op ty vr sc sp Z d' c' a' k0 n0 t0 w)
  (O:Hid (R=2)) :
  Mn 140 #[.agg #[Mk op,.slice A n c,Mk ty,Mk vr,Mk sc,Mk sp,Mk Z,.slice Ac nc cc,Mk d',Mk c',Mk a',Mk k0,Mk n0,.string t0]] w (Mk R):=by
 have F:Fk 3:=⟨trivial⟩;have G:Fk 12:=⟨trivial⟩;exact ndS
theorem DX (A:Option Addr) (c:Nat) (Ac:Option Addr) (cc nc n:Nat) (z:Int) (q vb cb pb:Bool) (op ty vr sc sp Z d' c' a' k0 n0:Int) (t0:ByteArray) (w:World) (R:Int) (A':¬op<0) (B':¬10<op)
  (H:NdH A c Ac cc nc n z q vb cb pb false pb false false false true op ty vr sc sp Z d' c' a' k0 n0 t0 w)
  (O:Hid (R=2)) :
  Mn 140 #[.agg #[Mk op,.slice A n c,Mk ty,Mk vr,Mk sc,Mk sp,Mk Z,.slice Ac nc cc,Mk d',Mk c',Mk a',Mk k0,Mk n0,.string t0]] w (Mk R):=by
 have F:Fk 4:=⟨trivial⟩;have G:Fk 12:=⟨trivial⟩;exact ndS
theorem ubG {p:Prop} (h:p:=by
  cases pb with
  | true =>
   go_wp2_with fail;refine (H.tm _).mono ?_;rintro e wt ⟨rfl,g'⟩;have l':=ab y' g';clear y0 y1 y2 y3 y4 y5 y6 y7 y8 y9 h' j' i' k';replace HY:=jD (HY.out.stays g');obtain⟨y0,y1,y2,y3,y4,y5,y6,y7,y8,y9,h',j',i',k'⟩:=HY.out;clear g';obtain rfl:R=0:=by rw[O.out];simp
   clear O;go_wp2_with fail
   all_goals exact en l'
  | false =>
   by_cases r':sc=0
   case neg =>
    have bf:(sc==0)=false:=jQ r';obtain rfl:R=3:=by rw[O.out];simp[r']
    clear O;go_wp2_with fail
    all_goals exact en y'
   subst r';go_wp2_with fail;refine (H.tm _).mono ?_;rintro e wt ⟨rfl,g'⟩;have l':=ab y' g';clear y0 y1 y2 y3 y4 y5 y6 y7 y8 y9 h' j' i' k';replace HY:=jD (HY.out.stays g');obtain⟨y0,y1,y2,y3,y4,y5,y6,y7,y8,y9,h',j',i',k'⟩:=HY.out;clear g'
   by_cases f':sp=0
   case neg =>
    exact ubK
   subst f';obtain rfl:R=0:=by rw[O.out];simp
   clear O;go_wp2_with fail
   all_goals exact en l'):p:=h
theorem ubH {p:Prop} (h:p:=by
  cases pb with
  | true =>
   go_wp2_with fail;refine (H.tm _).mono ?_;rintro e wt ⟨rfl,g'⟩;have l':=ab t'.out g';clear y0 y1 y2 y3 y4 y5 y6 y7 y8 y9 h' j' i' k';replace HY:=jD (HY.out.stays g');obtain⟨y0,y1,y2,y3,y4,y5,y6,y7,y8,y9,h',j',i',k'⟩:=HY.out;clear g';exact ubF
  | false =>
   by_cases r':sc=0
   case neg =>
    have bf:(sc==0)=false:=jQ r';obtain rfl:R=3:=by rw[O.out];simp[r']
    clear O;go_wp2_with fail
    all_goals exact en t'.out
   subst r';go_wp2_with fail;refine (H.tm _).mono ?_;rintro e wt ⟨rfl,g'⟩;have l':=ab t'.out g';clear y0 y1 y2 y3 y4 y5 y6 y7 y8 y9 h' j' i' k';replace HY:=jD (HY.out.stays g');obtain⟨y0,y1,y2,y3,y4,y5,y6,y7,y8,y9,h',j',i',k'⟩:=HY.out;clear g'
   by_cases f':sp=0
   case neg =>
    exact ubK
   subst f';exact ubF):p:=h
theorem Ds (A:Option Addr) (c:Nat) (Ac:Option Addr) (cc nc n:Nat) (z:Int) (q vb cb pb:Bool) (op ty vr sc sp Z d' c' a' k0 n0:Int) (t0:ByteArray) (w:World) (R:Int) (A':¬op<0) (B':¬10<op)
  (H:NdH A c Ac cc nc n z q vb cb pb false pb false false false false op ty vr sc sp Z d' c' a' k0 n0 t0 w)
  (O:Hid (R=if cb=true/\z≠0 then z else if (cb=false/\q=false)\/(vb || decide (ty=0))=false\/(vb || decide (vr=0))=false\/(pb || decide (sc=0))=false\/(pb || decide (sp=0))=false then 3 else 0)) :
  Mn 140 #[.agg #[Mk op,.slice A n c,Mk ty,Mk vr,Mk sc,Mk sp,Mk Z,.slice Ac nc cc,Mk d',Mk c',Mk a',Mk k0,Mk n0,.string t0]] w (Mk R):=by
 have F:Fk 5:=⟨trivial⟩;have G:Fk 12:=⟨trivial⟩;go_enter func140,ntmps140;go_wp2_with fail;refine (H.ar _).mono ?_;rintro e w1 ⟨rfl,s'⟩;have HY:=jD (uR s');have E':=jD (ab (af w _) s');clear s';obtain⟨y0,y1,y2,y3,y4,y5,y6,y7,y8,y9,h',j',i',k'⟩:=HY.out;go_wp2_with fail;clear y0 y1 y2 y3 y4 y5 y6 y7 y8 y9 h' j' i' k';refine rgn (fun W=>Mm w1 W/\P14 W w.heap.size A c Ac nc cc n op ty vr sc sp Z d' c' a' k0 n0 t0) (Below w1.heap.size w1) (fun W hW=>⟨hW,HY.out.stays hW⟩) ((Mr _ _).drew) (fun m' I=>?_);generalize w1.drew=wDa at I ⊢;refine tkH [0,2,8] ?_;refine nxH 1 (fun K hK=>?_)
 focus (go_simp;refine (H.va _).mono ?_;rintro e S' ⟨rfl,J⟩)
 refine hK.out _ _ (m' _ (ab I.1 J)) (fun I=>?_);clear hK K;refine nxH 3 (fun K hK=>?_)
 focus (go_simp;refine (H.ng _).mono ?_;rintro e N' ⟨rfl,J⟩)
 refine hK.out _ _ (m' _ (ab I.1 J)) (fun I=>?_);clear hK K
 first|(have h1:Fk 11:=G;refine tkH [4] ?_;refine tkS [5,6] ?_)|(refine tkH [4,5] ?_;refine nxH 6 (fun K hK=>?_);focus (go_simp;refine (H.tm _).mono ?_;rintro e R' ⟨rfl,J⟩);refine hK.out _ _ (m' _ (ab I.1 J)) (fun I=>?_);clear hK K)
 refine tkH [7] ?_;refine nxH 9 (fun K hK=>?_)
 focus (go_simp;refine (H.co _).mono ?_;rintro e z' ⟨rfl,J⟩)
 refine hK.out _ _ (m' _ (ab I.1 J)) (fun I=>?_);clear hK K;refine tkH [10,11,12] ?_;refine dn ?_;clear m' HY;obtain⟨u',HY⟩:=I;replace HY:=jD HY;have F':=jD (ab E'.out u');clear u';obtain⟨y0,y1,y2,y3,y4,y5,y6,y7,y8,y9,h',j',i',k'⟩:=HY.out;go_wp2_with fail;clear y0 y1 y2 y3 y4 y5 y6 y7 y8 y9 h' j' i' k';refine rgn (fun W=>Mm z' W/\P14 W w.heap.size A c Ac nc cc n op ty vr sc sp Z d' c' a' k0 n0 t0) (Below z'.heap.size z') (fun W hW=>⟨hW,HY.out.stays hW⟩) ((Mr _ _).drew) (fun m' I=>?_);generalize z'.drew=wDb at I ⊢;refine tkH [0,1,2] ?_;refine nxH 3 (fun K hK=>?_)
 focus (go_simp;refine (H.w1 _).mono ?_;rintro e O' ⟨rfl,J⟩)
 refine hK.out _ _ (m' _ (ab I.1 J)) (fun I=>?_);clear hK K
 first|(have h1:Fk 1:=F;refine tkH [4] ?_;refine tkS [5,6,7,8] ?_;refine tkH [9,10] ?_;refine tkS [11,12,13,14] ?_;refine tkH [15,16] ?_;refine tkS [17,18,19,20,21] ?_;refine tkH [22] ?_)|(refine tkH [4,5,6,7] ?_;refine nxH 8 (fun K hK=>?_);focus (go_simp;refine (H.w2 _).mono ?_;rintro e J' ⟨rfl,J⟩);refine hK.out _ _ (m' _ (ab I.1 J)) (fun I=>?_);clear hK K;(first|(have h1:Fk 2:=F;refine tkH [9,10] ?_;refine tkS [11,12,13,14] ?_;refine tkH [15,16] ?_;refine tkS [17,18,19,20,21] ?_;refine tkH [22] ?_)|(refine tkH [9,10,11,12,13] ?_;refine nxH 14 (fun K hK=>?_);focus (go_simp;refine (H.w3 _).mono ?_;rintro e H' ⟨rfl,J⟩);refine hK.out _ _ (m' _ (ab I.1 J)) (fun I=>?_);clear hK K;(first|(have h1:Fk 3:=F;refine tkH [15,16] ?_;refine tkS [17,18,19,20,21] ?_;refine tkH [22] ?_)|(refine tkH [15,16,17,19,20] ?_;refine nxH 18 (fun K hK=>?_);focus (go_simp;refine (H.tm _).mono ?_;rintro e G' ⟨rfl,J⟩);refine hK.out _ _ (m' _ (ab I.1 J)) (fun I=>?_);clear hK K;refine nxH 21 (fun K hK=>?_);focus (go_simp;refine (H.w4 _).mono ?_;rintro e I' ⟨rfl,J⟩);refine hK.out _ _ (m' _ (ab I.1 J)) (fun I=>?_);clear hK K;refine tkH [22] ?_)))))
 refine dn ?_;clear m' HY;obtain⟨u',HY⟩:=I;replace HY:=jD HY;have t':=jD (ab F'.out u');clear u';obtain⟨y0,y1,y2,y3,y4,y5,y6,y7,y8,y9,h',j',i',k'⟩:=HY.out
 cases cb with
 | true =>
  go_wp2_with fail;refine (H.ck _ t'.out).mono ?_;rintro e wk ⟨rfl,C'⟩;clear y0 y1 y2 y3 y4 y5 y6 y7 y8 y9 h' j' i' k';replace HY:=jD (HY.out.stays C');obtain⟨y0,y1,y2,y3,y4,y5,y6,y7,y8,y9,h',j',i',k'⟩:=HY.out;have y':=ab t'.out C';clear C'
  by_cases D':z=0
  case neg =>
   exact ubS
  obtain rfl:=D';have HX:=O;clear HX
  cases vb with
  | true =>
   exact ubG
  | false =>
   by_cases q':ty=0
   case neg =>
    exact ubQ
   subst q'
   by_cases p':vr=0
   case neg =>
    exact ubR
   subst p'
   exact ubG
 | false =>
  have HX:=O;clear HX
  cases vb with
  | true =>
   exact ubH
  | false =>
   by_cases q':ty=0
   case neg =>
    exact ubN
   subst q'
   by_cases p':vr=0
   case neg =>
    exact ubO
   subst p'
   exact ubH
end Go.Proofs.YtbjicljfjkdeeaaGreatDoor
