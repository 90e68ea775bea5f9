/- Part. -/
import Derived.Test.YtokconodddedhaaGreatDoorQ11
set_option maxRecDepth 100000
set_option maxHeartbeats 16000000
set_option linter.unusedVariables false
set_option linter.unusedSimpArgs false
namespace Go.Proofs.YtokconodddedhaaGreatDoor
open Go.Proofs.Tryz Go.RowKit
section
open Go.ChangeShapes Go.WideShapes Go.ChangeAt Go.RowKit Go.Deep
inductive Pt
 | mk (op:Int) (args:List Pt) (ty vr sc sp:Int) (cond:Ex)
def Pt.op:Pt->Int|.mk a _ _ _ _ _ _=>a
def Pt.args:Pt->List Pt|.mk _ a _ _ _ _ _=>a
def Pt.ty:Pt->Int|.mk _ _ a _ _ _ _=>a
def Pt.vr:Pt->Int|.mk _ _ _ a _ _ _=>a
def Pt.sc:Pt->Int|.mk _ _ _ _ a _ _=>a
def Pt.sp:Pt->Int|.mk _ _ _ _ _ a _=>a
def Pt.cond:Pt->Ex|.mk _ _ _ _ _ _ a=>a
mutual
def ptB:Pt->Nat
 | .mk _ l _ _ _ _ c=>1+pf l+aM c
def pf:List Pt->Nat
 | []=>0
 | a::r=>ptB a+pf r
end
theorem rG (x:Pt):ptB x=1+pf x.args+aM x.cond:=by cases x;rw[ptB];rfl
theorem xZ (l:List Pt):pf l=(l.map ptB).sum:=by
 induction l with
 | nil=>rw[pf];rfl
 | cons a r h=>rw[pf,h];rfl
def kN:Nat->World->Nat->Nat->Pt->Prop
 | 0=>fun _ _ _ _=>False
 | d+1=>fun w b p x=>∃v,Sl (kN d) 14 w v x.args/\w.cell? ⟨b,p,none⟩=some (KW x.op)/\w.cell? ⟨b,p+1,none⟩=some v /\
   w.cell? ⟨b,p+2,none⟩=some (KW x.ty)/\w.cell? ⟨b,p+3,none⟩=some (KW x.vr)/\w.cell? ⟨b,p+4,none⟩=some (KW x.sc)/\w.cell? ⟨b,p+5,none⟩=some (KW x.sp)/\rA d w b (p+6) x.cond
theorem aB (d:Nat):gG (kN d):=by
 induction d with
 | zero=>exact fun _ _ _ _ _ _ h=>h
 | succ d Z=>exact fun _ _ _ _ _ hb ⟨v,G,h0,D,O,I,J,z,F⟩=>⟨v,G.stays Z hb,aa hb h0,aa hb D,aa hb O,aa hb I,aa hb J,aa hb z,ai d _ _ _ _ _ hb F⟩
theorem DG (d:Nat):∀(w:World) (b p:Nat) (x:Pt),kN d w b p x->kN (d+1) w b p x:=by
 induction d with
 | zero=>exact fun _ _ _ _ h=>h.elim
 | succ d Z=>exact fun w b p x ⟨v,G,h0,D,O,I,J,z,F⟩=>⟨v,pq (fun b p x=>Z w b p x) G,h0,D,O,I,J,z,ta d _ _ _ _ F⟩
abbrev aW (d:Nat) (w:World) (v:Value) (l:List Pt):Prop:=Sl (kN d) 14 w v l
def ptV (x:Pt) (v vc:Value):Value:=.agg #[KW x.op,v,KW x.ty,KW x.vr,KW x.sc,KW x.sp,
 KW x.cond.op,vc,KW x.cond.vr,KW x.cond.fl,KW x.cond.kd,KW x.cond.val.kind,KW x.cond.val.num,.string x.cond.val.text]
theorem tn:prog.cellsOf 31=14:=kr
theorem tk:prog.cellsOf 24=1:=kr
theorem JG {α:Type} {l:List α} (h:l.length=7):∃a b c d e f g,l=[a,b,c,d,e,f,g]:=by
 match l,h with
 | [a,b,c,d,e,f,g],_=>exact⟨a,b,c,d,e,f,g,rfl⟩
theorem Ek {α:Type} {l:List α} (h:l.length=14):∃a b c d e f g i j k m n o p,l=[a,b,c,d,e,f,g,i,j,k,m,n,o,p]:=by
 match l,h with
 | [a,b,c,d,e,f,g,i,j,k,m,n,o,p],_=>exact⟨a,b,c,d,e,f,g,i,j,k,m,n,o,p,rfl⟩
section
variable {H : Type} {enc : TypeId × Value -> H} {w : World} {base : Nat} {spare : Nat -> Bool} {held : Bool}
theorem Ij (fuel:Nat):∀(n:Nat),n<=fuel->∀(b o:Nat) (cs:List Value) (y:DataW H × List MemPlace),cs.length=14->(∀(j:Nat) (u:Value),cs[j]?=some u->w.cell? ⟨b,o+j,none⟩=some u) ->
  DataW.trod enc prog w base spare held n 31 cs=some y->∃x,kN fuel w b o x/\ptB x<=Rows.uptoBulk y.1:=by
 induction fuel with
 | zero =>
  intro n hn b o cs y hl z h;obtain⟨xs,m,hm,_⟩:=Mt underlying31 h;omega
 | succ fuel ih =>
  intro n hn b o cs y hl z h;obtain⟨c0,c1,c2,c3,c4,c5,c6,c7,c8,c9,c',f',g',d',rfl⟩:=Ek hl;obtain⟨xs,m,hm,hy,_,a',hf⟩:=Mt underlying31 h;obtain⟨x0,x1,x2,x3,x4,x5,D,rfl⟩:=JG (jQ a');have f0:=hf 0 _ rfl;have f1:=hf 1 _ rfl;have f2:=hf 2 _ rfl;have f3:=hf 3 _ rfl;have f4:=hf 4 _ rfl;have f5:=hf 5 _ rfl;have f6:=hf 6 _ rfl;simp[df,tk,mh]at f0 f1 f2 f3 f4 f5 f6;obtain⟨O,e0,_⟩:=LA underlying3 f0;obtain⟨Z,e2,_⟩:=LA underlying3 f2;obtain⟨F,e3,_⟩:=LA underlying3 f3;obtain⟨J,e4,_⟩:=LA underlying3 f4;obtain⟨I,e5,_⟩:=LA underlying3 f5;obtain⟨ex,hex,e'⟩:=BE fuel m om b (o+6) _ D rfl (fun j u hj=>by have:=z (j+6) u (jQ hj);rw[LJ,Nb 6 j];exact this) f6;obtain⟨l,G,b'⟩:=mj (m:=ptB) underlying24 tn dc (fun n b o cs y hn h1 h2 h3=>ih n om b o cs y h1 h2 h3) f1;simp only[LS,LV]at e0 e2 e3 e4 e5;subst e0 e2 e3 e4 e5;refine⟨.mk O l Z F J I ex,⟨c1,G,z 0 _ rfl,z 1 _ rfl,z 2 _ rfl,z 3 _ rfl,z 4 _ rfl,z 5 _ rfl,hex⟩,?_⟩;subst hy;rw[rG,show (Pt.mk O l Z F J I ex).args=l from rfl,show (Pt.mk O l Z F J I ex).cond=ex from rfl,xZ];have h1:Rows.uptoBulkAll [x0.1,x1.1,x2.1,x3.1,x4.1,x5.1,D.1]=Rows.uptoBulk x0.1+(Rows.uptoBulk x1.1+(Rows.uptoBulk x2.1+(Rows.uptoBulk x3.1+(Rows.uptoBulk x4.1+(Rows.uptoBulk x5.1+(Rows.uptoBulk D.1+0)))))):=rfl;simp only[Rows.uptoBulk,LF,MD];omega
end
theorem ID {d:Nat} {w:World} {b p:Nat} {x:Pt} (h:kN d w b p x):∃z v,d=z+1/\aW z w v x.args/\w.cell? ⟨b,p,none⟩=some (KW x.op)/\w.cell? ⟨b,p+1,none⟩=some v /\
  w.cell? ⟨b,p+2,none⟩=some (KW x.ty)/\w.cell? ⟨b,p+3,none⟩=some (KW x.vr)/\w.cell? ⟨b,p+4,none⟩=some (KW x.sc)/\w.cell? ⟨b,p+5,none⟩=some (KW x.sp)/\rA z w b (p+6) x.cond:=by
 cases d with
 | zero=>exact h.elim
 | succ d =>
  obtain⟨v,I,h0,F,Z,J,O,D,G⟩:=h;exact⟨d,v,rfl,I,h0,F,Z,J,O,D,G⟩
end
mutual
def dX:Ex->Ex->Bool
 | .mk o l a b c v,.mk o' l' a' b' c' v'=>decide (o=o')&&decide (a=a')&&decide (b=b')&&decide (c=c')&&cC v v'&&dt l l'
def dt:List Ex->List Ex->Bool
 | [],[]=>true
 | x::r,y::s=>dX x y&&dt r s
 | _,_=>false
end
def mf:Ex:=.mk 0 [] 0 0 0 au
mutual
def ptN:Pt->Nat
 | .mk _ l _ _ _ _ _=>1+aU l
def aU:List Pt->Nat
 | []=>0
 | a::r=>ptN a+aU r
end
mutual
def ptD:Pt->Nat
 | .mk _ l _ _ _ _ _=>kY l+1
def kY:List Pt->Nat
 | []=>0
 | a::r=>max (ptD a) (kY r)
end
mutual
def aO:Pt->List Pt
 | .mk o l a b c d e=>.mk o l a b c d e::bG l
def bG:List Pt->List Pt
 | []=>[]
 | a::r=>aO a++bG r
end
theorem dm (x:Pt):ptN x=1+aU x.args:=by cases x;rw[ptN];rfl
theorem Gb (x:Pt):ptD x=kY x.args+1:=by cases x;rw[ptD];rfl
theorem da (x:Pt):aO x=x::bG x.args:=by cases x;rw[aO];rfl
mutual
theorem dh:∀x,(aO x).length=ptN x
 | .mk o l a b c d e=>by rw[aO,ptN,Lt,sX l];omega
theorem sX:∀l,(bG l).length=aU l
 | []=>by rw[bG,aU];rfl
 | a::r=>by rw[bG,aU,Le,dh a,sX r]
end
mutual
theorem ld:∀x,ptN x<=ptB x
 | .mk o l a b c d e=>by have:=Bf l;rw[ptN,ptB];omega
theorem Bf:∀l,aU l<=pf l
 | []=>by rw[aU,pf];omega
 | a::r=>by have:=ld a;have:=Bf r;rw[aU,pf];omega
end
def bX (op:Int):Bool:=decide (op=0\/op=5\/op=9)
def lP (op:Int):Bool:=decide (op=0\/op=5\/op=7\/op=9)
def fB (op:Int):Bool:=decide (op=6\/op=10)
def fz (op:Int):Bool:=decide (op=5\/op=9) || fB op
def gU (op:Int) (n:Nat):Bool:=if op=0 then decide (n=0) else if 1<=op/\op<=3 then decide (2<=n) else if op=8 then decide (n=2) else decide (n=1)
def dq (u:Bool) (n m:Int):Bool:=u&&(decide (n<0) || decide (m<n))
def ptE (x:Pt):Int :=
 if x.op<0\/10<x.op then 1 else if gU x.op x.args.length=false then 15
 else if dq (bX x.op) x.ty 15 || dq (bX x.op) x.vr 15 || dq (fz x.op) x.sc 63 || dq (fB x.op) x.sp 1099511627776 then 2
 else if lP x.op=true/\fJ x.cond≠0 then fJ x.cond
 else if (bX x.op=false/\(x.ty≠0\/x.vr≠0))\/(fz x.op=false/\x.sc≠0)\/(fB x.op=false/\x.sp≠0)\/(lP x.op=false/\dX x.cond mf=false) then 3 else 0
def dV:List Int->Int
 | []=>0
 | a::r=>if a≠0 then a else dV r
def fc (x:Pt):Int:=if 64<ptN x then 5 else if 12<ptD x then 12 else dV ((aO x).map ptE)
def dY:Int->Int->List Pt->Bool
 | _,_,[]=>true
 | v,s,x::r=>(!bX x.op || decide (x.vr=v))&&(!fz x.op || decide (x.sc=s))&&dY (if bX x.op then v+1 else v) (if fz x.op then s+1 else s) r
def cK (x:Pt):Int:=if fc x≠0 then fc x else if (aO x).any (fun y=>decide (8<=y.op)) then 1 else if dY 0 0 (aO x) then 0 else 14
theorem cW {d:Nat} {w:World} {b p:Nat} {x:Pt} (h:kN d w b p x):∃z e v vc,d=z+1/\z=e+1/\aW z w v x.args/\aF e w vc x.cond.args/\w.cell? ⟨b,p,none⟩=some (KW x.op)/\w.cell? ⟨b,p+1,none⟩=some v /\
  w.cell? ⟨b,p+2,none⟩=some (KW x.ty)/\w.cell? ⟨b,p+3,none⟩=some (KW x.vr)/\w.cell? ⟨b,p+4,none⟩=some (KW x.sc)/\w.cell? ⟨b,p+5,none⟩=some (KW x.sp) /\
  w.cell? ⟨b,p+6,none⟩=some (KW x.cond.op)/\w.cell? ⟨b,p+7,none⟩=some vc/\w.cell? ⟨b,p+8,none⟩=some (KW x.cond.vr)/\w.cell? ⟨b,p+9,none⟩=some (KW x.cond.fl)/\w.cell? ⟨b,p+10,none⟩=some (KW x.cond.kd) /\
  w.cell? ⟨b,p+11,none⟩=some (KW x.cond.val.kind)/\w.cell? ⟨b,p+12,none⟩=some (KW x.cond.val.num)/\w.cell? ⟨b,p+13,none⟩=some (.string x.cond.val.text):=by
 obtain⟨z,v,G,hv,h0,O,h2,I,h4,F,h6⟩:=ID h;obtain⟨e,vc,he,D,k0,k1,k2,J,k4,Z,k6,k7⟩:=cL h6;exact⟨z,e,v,vc,G,he,hv,D,h0,O,h2,I,h4,F,k0,k1,k2,J,k4,Z,k6,k7⟩
mutual
def de (h:Nat):Pt->Nat
 | .mk _ l _ _ _ _ _=>cS h 1 l
def cS (h:Nat) (n:Nat):List Pt->Nat
 | []=>n
 | a::r=>if n<=h then cS h (n+de h a) r else n
end
theorem C2 (h:Nat) (x:Pt):de h x=cS h 1 x.args:=by cases x;rw[de];rfl
mutual
theorem gq (h:Nat):∀x,de h x<=ptN x
 | .mk o l a b c d e=>by
  have:=rj h 1 l;rw[de,ptN];exact this
theorem rj (h n:Nat):∀l,cS h n l<=n+aU l
 | []=>by rw[cS];omega
 | a::r=>by
  rw[cS,aU]
  split
  ·have:=gq h a;have:=rj h (n+de h a) r;omega
  ·omega
end
theorem qb (h:Nat):∀(l:List Pt) (n:Nat),n<=cS h n l
 | [],n=>by rw[cS];omega
 | a::r,n=>by
  rw[cS]
  split
  ·have:=qb h r (n+de h a);omega
  ·omega
mutual
theorem rn (h:Nat):∀x,de h x<=h->de h x=ptN x
 | .mk o l a b c d e=>by
  have:=oI h 1 l;rw[de,ptN];exact this
theorem oI (z n:Nat):∀l,cS z n l<=z->cS z n l=n+aU l
 | []=>by rw[cS,aU];omega
 | a::r=>by
  rw[cS,aU]
  split
  ·intro h;have D:=qb z r (n+de z a);have:=rn z a om;have:=oI z (n+de z a) r h;omega
  ·omega
end
theorem qo (z:Nat) (x:Pt):de z x<=z↔ptN x<=z:=by
 constructor
 ·intro h;rw[<-rn z x h];exact h
 ·intro h;exact Lf (gq z x) h
mutual
theorem GA:∀x,ptD x<=ptN x
 | .mk o l a b c d e=>by
  have:=pj l;rw[ptD,ptN];omega
theorem pj:∀l,kY l<=aU l
 | []=>by rw[kY];omega
 | a::r=>by
  have:=GA a;have:=pj r;rw[kY,aU];omega
end
theorem iP {l:List Pt} {k:Nat} {a:Pt} (h:l[k]?=some a):aU (l.drop k)=ptN a+aU (l.drop (k+1)):=by
 obtain⟨z,rfl⟩:=List.getElem?_eq_some_iff.1 h;rw[Lr z,aU]
theorem tj {l:List Pt} {k:Nat} {a:Pt} (h:l[k]?=some a):kY (l.drop k)=max (ptD a) (kY (l.drop (k+1))):=by
 obtain⟨z,rfl⟩:=List.getElem?_eq_some_iff.1 h;rw[Lr z,kY]
theorem lZ {z n:Nat} {l:List Pt} {k:Nat} {a:Pt} (h:l[k]?=some a):cS z n (l.drop k)=if n<=z then cS z (n+de z a) (l.drop (k+1)) else n:=by
 obtain⟨D,rfl⟩:=List.getElem?_eq_some_iff.1 h;rw[Lr D,cS]
theorem pn {l:List Pt} {k:Nat} {a:Pt} (h:l[k]?=some a):ptN a<=aU l:=by
 induction l generalizing k with
 | nil=>simp at h
 | cons b r z =>
  rw[aU]
  cases k with
  | zero=>simp at h;subst h;omega
  | succ k=>have:=z (k:=k) (jQ h);omega
theorem oP (L d:Nat) (hL:L<=1048576) (z:∀d',d=d'+1->∀(x:Pt) (v:Value) (Ac:Option Addr) (nc cc:Nat) (w:World),aW d' w v x.args->ptN x<=1048576 ->
   KZ 63 #[ptV x v (.slice Ac nc cc),KW L] w (KW (de L x)))
  (x:Pt) (v:Value) (Ac:Option Addr) (nc cc:Nat) (w:World) (hx:aW d w v x.args) (hN:ptN x<=1048576) :
  KZ 63 #[ptV x v (.slice Ac nc cc),KW L] w (KW (de L x)):=by
 have g':=jD z;obtain⟨op,l,ty,vr,sc,sp,⟨A',l2,B',G',D',⟨k0,n0,t0⟩⟩⟩:=x;rw[C2];rw[dm]at hN;obtain⟨A,c,rfl,h1,h2,J⟩:=hx;simp only[Pt.args]at hN h1 h2 J ⊢;have t':=ax h1 h2;have HL:=jD J;have HN:=jD hN;have y':=jD hL;obtain⟨R,hR⟩:=jE (cS L 1 l);have HR:=jD hR;rw[hR];unfold ptV;simp only[Pt.args,Pt.op,Pt.ty,Pt.vr,Pt.sc,Pt.sp,Pt.cond,Ex.op,Ex.vr,Ex.fl,Ex.kd,Ex.val];clear J h1 h2 hR hN z hL;go_enter func63,ntmps63;go_wp2;refine aP fun w1 e1=>?_
 have y1:KX w1 w.heap.size 1 (.slice A l.length c):=jG e1;have h':KY w w1:=gb e1;clear e1;have Z:=jD h';clear h'
 go_loopw [5,6] (fun n i wr=>∃k C:Nat,k<=l.length/\i=KW k/\n=KW C/\Hid (cS L C (l.drop k)=R/\C+aU (l.drop k)<=1048576/\KY w1 wr)) (fun n i _=>l.length-(intOf i).toNat)
 case atStart=>exact⟨0,1,Lb _,rfl,rfl,jD ⟨HR.out,HN.out,La _ _⟩⟩
 case round =>
  obtain⟨k,C,hk,rfl,rfl,G⟩:=hrel;have hb:=G.out.2.2;have z1:=aa hb y1
  by_cases I:k<l.length
  ·have l':(k:Int)<(l.length:Int):=by omega
   by_cases hC:C<=L
   ·have i':(C:Int)<=(L:Int):=by omega
    obtain⟨b,o,rfl,O⟩:=HL.out k l[k] (K9 I);have hg:=jD (K9 I);obtain⟨a,ha⟩:=jF (l[k]);rw[<-ha]at hg O;clear ha;obtain⟨d',e',v',x',f',n',c',b',p0,p1,p2,p3,p4,p5,p6,p7,p8,p9,H',F',C',E'⟩:=cW (aB d _ _ _ _ _ (ab Z.out hb) O);obtain⟨p',q',F,-⟩:=b';obtain⟨m',D⟩:∃n,n=a.cond.args.length:=⟨_,rfl⟩;rw[<-D]at F;subst F;have j':ptN a<=1048576:=by have:=iP hg.out;have:=G.out.2.1;omega
    obtain⟨Q,hQ⟩:=jE (de L a);have HC:=jD (fun (W:World) (hW:KY wr W)=>g'.out d' f' a v' p' m' q' W (c'.stays (aB d') hW) j');unfold ptV at HC;rw[hQ]at HC;have z':Q<=1048576:=by have:=gq L a;omega
    have HQ:=jD hQ;have hs:=G.out.2.1;have u':IntKind.i64.wrap ((C:Int)+(Q:Int))=((C+Q:Nat):Int):=by
     have hq:=iP hg.out;have s':=gq L a;have r':C+Q<=1048576:=by omega
     rw[<-MF,dM om]
    clear hQ O f' c' hs n' D;go_wp2_with fail;refine (HC.out _ (La _ _)).mono ?_;rintro e w' ⟨rfl,k'⟩;go_wp2_with fail
    go_roundw
    case rel =>
     refine⟨k+1,C+Q,by omega,by go_num,rfl,jD ⟨?_,?_,ab hb k'⟩⟩
     ·have h:=G.out.1;rw[lZ hg.out,K7 hC,HQ.out]at h;exact h
     ·have hq:=iP hg.out;have s':=gq L a;have r':=HQ.out;have hs:=G.out.2.1;omega
    case measure=>simp[intOf];omega
   ·have i':¬(C:Int)<=(L:Int):=by omega
    have a':C=R:=by
     have h:=G.out.1;rw[lZ (K9 I),K6 hC]at h;exact h
    subst a';exact fi (ab Z.out hb)
  ·have l':¬(k:Int)<(l.length:Int):=by omega
   have a':C=R:=by
    have h:=G.out.1;rw[Lq om,cS]at h;exact h
   subst a';exact fi (ab Z.out hb)
theorem pV (L:Nat) (hL:L<=1048576) (d:Nat):∀(x:Pt) (v:Value) (Ac:Option Addr) (F z:Nat) (w:World),aW d w v x.args->ptN x<=1048576 ->
  KZ 63 #[ptV x v (.slice Ac F z),KW L] w (KW (de L x)):=by
 induction d with
 | zero=>exact oP L 0 hL (fun D h=>by omega)
 | succ d G=>exact oP L (d+1) hL (fun D h=>Ma h▸G)
theorem lJ (d:Nat) (z:∀d',d=d'+1->∀(x:Pt) (v:Value) (Ac:Option Addr) (nc cc:Nat) (w:World),aW d' w v x.args->ptN x<=1048576 ->
   KZ 64 #[ptV x v (.slice Ac nc cc)] w (KW (ptD x)))
  (x:Pt) (v:Value) (Ac:Option Addr) (nc cc:Nat) (w:World) (hx:aW d w v x.args) (hN:ptN x<=1048576) :
  KZ 64 #[ptV x v (.slice Ac nc cc)] w (KW (ptD x)):=by
 have b':=jD z;obtain⟨op,l,ty,vr,sc,sp,⟨s',l2,t',B',y',⟨k0,n0,t0⟩⟩⟩:=x;rw[Gb];rw[dm]at hN;obtain⟨A,c,rfl,h1,h2,G⟩:=hx;simp only[Pt.args]at hN h1 h2 G ⊢;have q':=ax h1 h2;have HL:=jD G;have HN:=jD hN;obtain⟨R,hR⟩:=jE (kY l);have i':R<1048576:=by have:=pj l;omega
 have HR:=jD hR;rw[hR];have x':IntKind.i64.wrap ((R:Int)+1)=(R:Int)+1:=dM (n:=R+1) om;unfold ptV;simp only[Pt.args,Pt.op,Pt.ty,Pt.vr,Pt.sc,Pt.sp,Pt.cond,Ex.op,Ex.vr,Ex.fl,Ex.kd,Ex.val];clear G h1 h2 hR hN z i';go_enter func64,ntmps64;go_wp2;refine aP fun w1 e1=>?_
 have y1:KX w1 w.heap.size 1 (.slice A l.length c):=jG e1;have c':KY w w1:=gb e1;clear e1;have f':=jD c';clear c'
 go_loopw [3,4] (fun n i wr=>∃k C:Nat,k<=l.length/\i=KW k/\n=KW C/\Hid (max C (kY (l.drop k))=R/\KY w1 wr)) (fun n i _=>l.length-(intOf i).toNat)
 case atStart=>exact⟨0,0,Lb _,rfl,rfl,jD ⟨by rw[L1,HR.out];omega,La _ _⟩⟩
 case round =>
  obtain⟨k,C,hk,rfl,rfl,hI⟩:=hrel;have hb:=hI.out.2;have z1:=aa hb y1
  by_cases Z:k<l.length
  ·have j':(k:Int)<(l.length:Int):=by omega
   obtain⟨b,o,rfl,I⟩:=HL.out k l[k] (K9 Z);have hg:=jD (K9 Z);obtain⟨a,ha⟩:=jF (l[k]);rw[<-ha]at hg I;clear ha;obtain⟨d',e',v',r',a',l',O,J,p0,p1,p2,p3,p4,p5,p6,p7,p8,p9,C',A',u',z'⟩:=cW (aB d _ _ _ _ _ (ab f'.out hb) I);obtain⟨m',n',F,-⟩:=J;obtain⟨k',D⟩:∃n,n=a.cond.args.length:=⟨_,rfl⟩;rw[<-D]at F;subst F;have g':ptN a<=1048576:=by have:=pn hg.out;have:=HN.out;omega
   obtain⟨Q,hQ⟩:=jE (ptD a);have HC:=jD (fun (W:World) (hW:KY wr W)=>b'.out d' a' a v' m' k' n' W (O.stays (aB d') hW) g');unfold ptV at HC;rw[hQ]at HC;have HQ:=jD hQ;clear hQ I a' O l' D;go_wp2_with fail;refine (HC.out _ (La _ _)).mono ?_;rintro e w' ⟨rfl,h'⟩;go_wp2_with fail
   go_roundw
   case rel =>
    refine⟨k+1,max C Q,by omega,by go_num,?_,jD ⟨?_,ab hb h'⟩⟩
    ·exact congrArg (Value.int .i64) om
    ·have h:=hI.out.1;rw[tj hg.out,HQ.out]at h;omega
   case measure=>simp[intOf];omega
  ·have j':¬(k:Int)<(l.length:Int):=by omega
   have p':C=R:=by
    have h:=hI.out.1;rw[Lq om,kY]at h;omega
   subst p';exact fi (ab f'.out hb)
theorem oH (d:Nat):∀(x:Pt) (v:Value) (Ac:Option Addr) (F z:Nat) (w:World),aW d w v x.args->ptN x<=1048576 ->
  KZ 64 #[ptV x v (.slice Ac F z)] w (KW (ptD x)):=by
 induction d with
 | zero=>exact lJ 0 (fun D h=>by omega)
 | succ d G=>exact lJ (d+1) (fun D h=>Ma h▸G)
theorem nW (d:Nat) (z:∀d',d=d'+1->∀(x:Pt) (v:Value) (Ac:Option Addr) (nc cc:Nat) (w:World),aW d' w v x.args->ptN x<=1048576 ->
   KZ 253 #[ptV x v (.slice Ac nc cc)] w (.tuple #[KW (ptN x),KW (ptD x)]))
  (x:Pt) (v:Value) (Ac:Option Addr) (nc cc:Nat) (w:World) (hx:aW d w v x.args) (hN:ptN x<=1048576) :
  KZ 253 #[ptV x v (.slice Ac nc cc)] w (.tuple #[KW (ptN x),KW (ptD x)]):=by
 have i':=jD z;obtain⟨op,l,ty,vr,sc,sp,⟨m',l2,n',z',u',⟨k0,n0,t0⟩⟩⟩:=x;rw[Gb];obtain⟨M,hM⟩:=jE (ptN (.mk op l ty vr sc sp ⟨m',l2,n',z',u',⟨k0,n0,t0⟩⟩));have HM:Hid (1+aU l=M):=jD (by rw[<-hM,dm];rfl);rw[hM]at hN ⊢;clear hM;obtain⟨A,c,rfl,h1,h2,J⟩:=hx;simp only[Pt.args]at h1 h2 J ⊢;have D':=ax h1 h2;have HL:=jD J;have HN:=jD hN;obtain⟨R,hR⟩:=jE (kY l);have p':R<1048576:=by have:=pj l;have:=HM.out;omega
 have HR:=jD hR;rw[hR];have H':IntKind.i64.wrap ((R:Int)+1)=(R:Int)+1:=dM (n:=R+1) om;unfold ptV;simp only[Pt.op,Pt.ty,Pt.vr,Pt.sc,Pt.sp,Pt.cond,Ex.op,Ex.vr,Ex.fl,Ex.kd,Ex.val];clear J h1 h2 hR hN z p';go_enter func253,ntmps253;go_wp2;refine aP fun w1 e1=>?_
 have j':KY w w1:=gb e1;clear e1;have k':=jD j';clear j'
 go_loopw [4,5,13] (fun n m i wr=>∃k C D:Nat,k<=l.length/\i=KW k/\n=KW C/\m=KW D/\Hid (C+aU (l.drop k)=M/\max D (kY (l.drop k))=R/\KY w1 wr)) (fun n m i _=>l.length-(intOf i).toNat)
 case atStart=>exact⟨0,1,0,Lb _,rfl,rfl,rfl,jD ⟨HM.out,by rw[L1,HR.out];omega,La _ _⟩⟩
 case round =>
  obtain⟨k,C,D,hk,rfl,rfl,rfl,Z⟩:=hrel;have hb:=Z.out.2.2
  by_cases f':k<l.length
  ·have q':(k:Int)<(l.length:Int):=by omega
   obtain⟨b,o,rfl,O⟩:=HL.out k l[k] (K9 f');have hg:=jD (K9 f');obtain⟨a,ha⟩:=jF (l[k]);rw[<-ha]at hg O;clear ha;obtain⟨d',e',v',F',g',t',I,a',p0,p1,p2,p3,p4,p5,p6,p7,p8,p9,N',J',G',I'⟩:=cW (aB d _ _ _ _ _ (ab k'.out hb) O);obtain⟨x',y',G,-⟩:=a';obtain⟨s',F⟩:∃n,n=a.cond.args.length:=⟨_,rfl⟩;rw[<-F]at G;subst G;have b':ptN a<=1048576:=by have:=pn hg.out;have:=HM.out;have:=HN.out;omega
   have B':=I;obtain⟨A',c',r',-⟩:=B';subst r';obtain⟨P,hP⟩:=jE (ptN a);obtain⟨Q,hQ⟩:=jE (ptD a);have HC:=jD (fun (W:World) (hW:KY wr W)=>i'.out d' g' a _ x' s' y' W (I.stays (aB d') hW) b');unfold ptV at HC;rw[hQ,hP]at HC;have HQ:=jD hQ;have HP:=jD hP;have E':IntKind.i64.wrap ((C:Int)+(P:Int))=((C+P:Nat):Int):=by
    have hq:=iP hg.out;have M':=Z.out.1;have L':=HN.out;rw[<-MF,dM om]
   clear hQ hP O g' I b' t' F;go_wp2_with fail;refine (HC.out _ ?_).mono ?_
   ·exact jB
   rintro e w' ⟨rfl,l'⟩;go_wp2_with fail
   go_roundw
   case rel =>
    refine⟨k+1,C+P,max D Q,by omega,by go_num,rfl,congrArg (Value.int .i64) om,jD ⟨?_,?_,ab hb (ab jB l')⟩⟩
    ·have h:=Z.out.1;rw[iP hg.out,HP.out]at h;omega
    ·have h:=Z.out.2.1;rw[tj hg.out,HQ.out]at h;omega
   case measure=>simp[intOf];omega
  ·have q':¬(k:Int)<(l.length:Int):=by omega
   have C':D=R/\C=M:=by
    have h:=Z.out.2.1;have h':=Z.out.1;rw[Lq om]at h h';rw[kY]at h;rw[aU]at h';omega
   obtain⟨rfl,rfl⟩:=C';go_wp2;exact Lc (v:=.tuple #[KW C,KW ((D:Int)+1)]) (by simp[results,results253,go_sem]) rfl ⟨rfl,ab k'.out hb⟩
theorem De (d:Nat):∀(x:Pt) (v:Value) (Ac:Option Addr) (F z:Nat) (w:World),aW d w v x.args->ptN x<=1048576 ->
  KZ 253 #[ptV x v (.slice Ac F z)] w (.tuple #[KW (ptN x),KW (ptD x)]):=by
 induction d with
 | zero=>exact nW 0 (fun D h=>by omega)
 | succ d G=>exact nW (d+1) (fun D h=>Ma h▸G)
theorem AP {d e:Nat} (h:d<=e) {w:World} {b p:Nat} {x:Pt} (z:kN d w b p x):kN e w b p x:=by
 induction h with
 | refl=>exact z
 | step _ D=>exact DG _ _ _ _ _ D
theorem jn {d e:Nat} (h:d<=e) {w:World} {v:Value} {l:List Pt} (z:aW d w v l):aW e w v l:=pq (fun _ _ _=>AP h) z
theorem eI {d e:Nat} (h:d<=e) {w:World} {v:Value} {l:List Ex} (z:aF d w v l):aF e w v l:=pq (fun _ _ _=>Im h) z
section
open Go.RowKit Go.Lib
def iE (W:World) (B:Option Nat) (k:Nat):Prop:=∃b v,B=some b/\W.cell? ⟨b,0,none⟩=some v/\v.ownBlock=some k
def fE (W:World) (B:Option Nat):Prop:=∀k,iE W B k->k<W.heap.size
theorem pO (W:World) (k:Nat):¬iE W none k:=fun ⟨_,_,h,_⟩=>by cases h
theorem kX (W:World):fE W none:=fun k h=>(pO W k h).elim
theorem eO {W W':World} {B:Option Nat} (h:∀b,B=some b->W'.heap[b]?=W.heap[b]?) (k:Nat):iE W' B k↔iE W B k:=by
 constructor<;>rintro⟨b,v,z,D,hk⟩
 ·exact⟨b,v,z,(Ln (a:=⟨b,0,none⟩) (h b z)).symm.trans D,hk⟩
 ·exact⟨b,v,z,(Ln (a:=⟨b,0,none⟩) (h b z)).trans D,hk⟩
structure bj (n0 n1:Nat) (B:Option Nat) (W W':World):Prop where
 below:Below n0 W W'
 safe:fE W B->fE W' B
 cells:∀(k:Nat) (o:Obj),n1<=k->W.heap[k]?=some o->o.isCells=true->¬iE W B k->W'.heap[k]?=some o/\¬iE W' B k
theorem gC (n0 n1:Nat) (B:Option Nat) (W:World):bj n0 n1 B W W:=⟨La _ _,id,fun _ _ _ h _ r=>⟨h,r⟩⟩
theorem bW {n0 n1:Nat} {B:Option Nat} {X Y Z:World} (h:bj n0 n1 B X Y) (k:bj n0 n1 B Y Z):bj n0 n1 B X Z :=
 ⟨h.below.trans k.below,fun s=>k.safe (h.safe s),fun i o z e c r=>k.cells i o z (h.cells i o z e c r).1 c (h.cells i o z e c r).2⟩
theorem kA {n0 n1:Nat} {B:Option Nat} {w:World} (F:n0<=w.heap.size) (I:∀b,B=some b->b<w.heap.size) (W:World) (l:Nat) (o o':Obj) (J:w.heap.size<=l) (h:W.heap[l]?=some o) (D:o.isCells=false) (hw:o.isWalk=false):bj n0 n1 B W (W.putObj l o'):=by
 have hr:=fun k=>eO (W:=W) (W':=W.putObj l o') (B:=B) (fun b O=>by
  have Z:=I b O
  by_cases z:b<W.heap.size
  ·exact (grownBy_putObj' W l o').block b z (by simp;omega)
  ·have h2:l<W.heap.size:=(Array.getElem?_eq_some_iff.1 h).1;omega) k
 refine⟨belowK_b F W l o o' J h D hw,fun s k hk=>Ll (s k ((hr k).1 hk)) (grownBy_putObj' W l o').size,fun k o2 _ e c r=>⟨?_,fun h=>r ((hr k).1 h)⟩⟩;exact (grownBy_keeps_cells (grownBy_putObj' W l o') (fun r G=>by cases G;exact⟨o,h,D⟩) e c).trans e
theorem cM {n0 n1:Nat} {B:Option Nat} {W W':World} (h:KY W W') (F:n0<=W.heap.size) (D:∀b,B=some b->b<W.heap.size):bj n0 n1 B W W' :=
 ⟨h.mono F,fun s k hk=>Ll (s k ((eO (fun b z=>h.block b (D b z)) k).1 hk)) h.size,
  fun k _ _ e _ r=>⟨(h.block k (Array.getElem?_eq_some_iff.1 e).1).trans e,fun hk=>r ((eO (fun b z=>h.block b (D b z)) k).1 hk)⟩⟩
def Cj (n0 n1:Nat) (B:Option Nat) (W:World) (b:Nat):Prop:=b<n0\/(n1<=b/\¬iE W B b)
theorem gD {n0 n1:Nat} {B:Option Nat} {X Y:World} (h:bj n0 n1 B X Y) {b o:Nat} (J:n1<=b) (hr:¬iE X B b) {v:Value} (c:X.cell? ⟨b,o,none⟩=some v):Y.cell? ⟨b,o,none⟩=some v/\¬iE Y B b:=by
 obtain⟨D,z,I⟩:=cells_of_cell c;obtain⟨F,G⟩:=h.cells b D J z I hr;exact⟨(Ln (a:=⟨b,o,none⟩) (F.trans z.symm)).trans c,G⟩
theorem gM {n0 n1:Nat} {B:Option Nat} {X Y:World} (h:bj n0 n1 B X Y) {b o:Nat} (hm:Cj n0 n1 B X b) {v:Value} (c:X.cell? ⟨b,o,none⟩=some v):Y.cell? ⟨b,o,none⟩=some v/\Cj n0 n1 B Y b:=by
 rcases hm with hm|⟨h1,h2⟩
 ·exact⟨(h.below.cell (p:=⟨b,o,none⟩) hm).trans c,.inl hm⟩
 ·exact⟨(gD h h1 h2 c).1,.inr ⟨h1,(gD h h1 h2 c).2⟩⟩
theorem sW {W W':World} {B:Option Nat} (hs:fE W B) (h:KY W W') (z:∀b,B=some b->b<W.heap.size) {k:Nat} (hk:W.heap.size<=k):¬iE W' B k :=
 fun hr=>absurd (hs k ((eO (fun b D=>h.block b (z b D)) k).1 hr)) om
theorem sl {n0 n1:Nat} {B:Option Nat} (W:World) {b i:Nat} (h0:n0<=b) (F:b<n1) (D:B≠some b) (v:Value):bj n0 n1 B W (W.setCell ⟨b,i,none⟩ v):=by
 have hr:=fun k=>eO (W:=W) (W':=W.setCell ⟨b,i,none⟩ v) (B:=B) (fun c z=>LB _ _ _ c (fun e=>D (by rw[z];exact congrArg some e))) k
 exact⟨(La n0 W).setCell (p:=⟨b,i,none⟩) h0 v,fun s k hk=>by have:=s k ((hr k).1 hk);simpa using this,
  fun k _ hk e _ r=>⟨(LB _ _ _ k (by simp;omega)).trans e,fun h=>r ((hr k).1 h)⟩⟩
theorem sJ {n0 n1 b:Nat} {W G:World} {v v':Value} (h0:n0<=b) (h1:b<n1) (hv:W.cell? ⟨b,0,none⟩=some v) (hn:n1<=W.heap.size) (D:W.grownBy G v.ownBlock) (hb:v.ownBlock≠some b)
  (O:∀g,v.ownBlock=some g->n1<=g) (hw:v'.ownBlock=v.ownBlock\/v'.ownBlock=some W.heap.size) (a':∀g,v'.ownBlock=some g->g<G.heap.size):bj n0 n1 (some b) W (G.setCell ⟨b,0,none⟩ v'):=by
 have J:b<W.heap.size:=by omega
 have Z:KX G b 0 v:=(Ln (a:=⟨b,0,none⟩) (D.block b J (fun e=>hb e.symm))).trans hv;have z:(G.setCell ⟨b,0,none⟩ v').cell? ⟨b,0,none⟩=some v':=M0 _ _ _ (by rw[Z];rfl);have h:Below n0 W G:=⟨D.os,D.tape,D.output,D.size,fun k hk=>D.block k om (fun e=>by have:=O k e.symm;omega)⟩;refine⟨h.setCell (p:=⟨b,0,none⟩) h0 v',fun _ k ⟨c,u,I,hu,hk⟩=>?_,fun k o hk e _ r=>⟨?_,fun ⟨c,u,I,hu,F⟩=>?_⟩⟩
 ·cases I
  rw[z]at hu
  cases hu
  have:=a' k hk
  simpa using this
 ·refine (LB _ _ _ k (by simp;omega)).trans ((D.block k (Array.getElem?_eq_some_iff.1 e).1 (fun e2=>r ⟨b,v,rfl,hv,e2.symm⟩)).trans e)
 ·cases I
  rw[z]at hu
  cases hu
  rcases hw with hw|hw
  ·exact r ⟨b,v,rfl,hv,by rw[<-hw];exact F⟩
  ·rw[hw]at F
   cases F
   have:=(Array.getElem?_eq_some_iff.1 e).1;omega
end
theorem tQ (x y:Ex):dX x y=(decide (x.op=y.op)&&decide (x.vr=y.vr)&&decide (x.fl=y.fl)&&decide (x.kd=y.kd)&&cC x.val y.val&&dt x.args y.args):=by
 cases x;cases y;rw[dX];rfl
theorem jp:∀{l m:List Ex},l.length≠m.length->dt l m=false
 | [],[],h=>absurd rfl h
 | [],_::_,_=>by simp[dt]
 | _::_,[],_=>by simp[dt]
 | a::l,b::m,h=>by rw[dt,jp (l:=l) (m:=m) (jQ h),MI]
theorem my {l m:List Ex} {k:Nat} {a b:Ex} (h:l[k]?=some a) (D:m[k]?=some b):dt (l.drop k) (m.drop k)=(dX a b&&dt (l.drop (k+1)) (m.drop (k+1))):=by
 obtain⟨z,rfl⟩:=List.getElem?_eq_some_iff.1 h;obtain⟨F,rfl⟩:=List.getElem?_eq_some_iff.1 D;rw[Lr z,Lr F,dt]
theorem qC (d:Nat) (k':∀d',d=d'+1->∀(e:Nat) (x y:Ex) (v u:Value) (w:World),aF d' w v x.args->aF e w u y.args ->
   KZ 320 #[exV x v,exV y u] w (.bool (dX x y)))
  (e:Nat) (x y:Ex) (v u:Value) (w:World) (hx:aF d w v x.args) (hy:aF e w u y.args) :
  KZ 320 #[exV x v,exV y u] w (.bool (dX x y)):=by
 have z:=jD k';rw[tQ];obtain⟨op,l,vr,fl,kd,⟨k0,n0,t0⟩⟩:=x;obtain⟨B',l',L',I',H',⟨k1,n1,t1⟩⟩:=y;obtain⟨A,c,rfl,h1,h2,q'⟩:=hx;obtain⟨A',c',rfl,s',p',i'⟩:=hy;simp only[Ex.args,Ex.op,Ex.vr,Ex.fl,Ex.kd,Ex.val]at h1 h2 q' s' p' i' ⊢;have x':=ax h1 h2;have m':=ax s' p';have HL:=jD q';have G:=jD i';have HQ:Hid (∀W,(binOp .neq 27 (.agg #[KW k0,KW n0,.string t0]) (.agg #[KW k1,KW n1,.string t1])).run prog W=.ok (.bool (!cC ⟨k0,n0,t0⟩ ⟨k1,n1,t1⟩)) W):=jD (fun W=>dg ⟨k0,n0,t0⟩ ⟨k1,n1,t1⟩ W);obtain⟨q,hq⟩:=jE (cC ⟨k0,n0,t0⟩ ⟨k1,n1,t1⟩);rw[hq]at HQ ⊢;obtain⟨S,hS⟩:=jE (dt l l');rw[hS];have HS:=jD hS;clear q' i' hS hq h1 h2 s' p' k';unfold exV;simp only[Ex.op,Ex.vr,Ex.fl,Ex.kd,Ex.val]
 by_cases g':op=B'
 case neg =>
  simp only[g',MT,Mw,MI];have gg:(op==B')=false:=jQ g';clear HQ HS HL G z;go_enter func320,ntmps320;go_wp2;go_ret;exact⟨rfl,jB⟩
 subst g';simp only[M3,L5]
 by_cases h':vr=L'
 case neg =>
  simp only[h',MT,Mw,MI];have gg:(vr==L')=false:=jQ h';clear HQ HS HL G z;go_enter func320,ntmps320;go_wp2;go_ret;exact⟨rfl,jB⟩
 subst h';simp only[M3,L5]
 by_cases J:fl=I'
 case neg =>
  simp only[J,MT,Mw,MI];have gg:(fl==I')=false:=jQ J;clear HQ HS HL G z;go_enter func320,ntmps320;go_wp2;go_ret;exact⟨rfl,jB⟩
 subst J;simp only[M3,L5]
 by_cases f':kd=H'
 case neg =>
  simp only[f',MT,Mw,MI];have gg:(kd==H')=false:=jQ f';clear HQ HS HL G z;go_enter func320,ntmps320;go_wp2;go_ret;exact⟨rfl,jB⟩
 subst f';simp only[M3,L5]
 cases q
 case false =>
  simp only[Mw];have J':=HQ.out;clear HS HL G z HQ;go_enter func320,ntmps320;go_wp2;go_ret;exact⟨rfl,jB⟩
 simp only[L5];have J':=HQ.out;clear HQ
 by_cases hl:l.length=l'.length
 case neg =>
  obtain rfl:S=false:=by rw[<-HS.out];exact jp hl
  have T':¬((l.length:Int)=(l'.length:Int)):=by omega
  clear HS HL G z hl;go_enter func320,ntmps320;go_wp2;go_ret;exact⟨rfl,jB⟩
 obtain⟨n,O⟩:=jE l.length;have HN:=jD O;have D':Hid (l'.length=n):=jD (by rw[<-hl,O]);rw[<-hl,O];rw[O]at x';clear O hl m';go_enter func320,ntmps320;go_wp2_with fail;refine aP fun w1 e1=>?_
 have y1:KX w1 w.heap.size 1 (.slice A n c):=jG e1;have y2:KX w1 (w.heap.size+1) 1 (.slice A' n c'):=jG e1;have E':KY w w1:=gb e1;clear e1;have j':=jD E';clear E' J'
 go_loopw [51] (fun i wr=>∃k:Nat,k<=n/\i=KW k/\Hid (dt (l.drop k) (l'.drop k)=S/\KY w1 wr)) (fun i _=>n-(intOf i).toNat)
 case atStart=>exact⟨0,Lb _,rfl,jD ⟨HS.out,La _ _⟩⟩
 case round =>
  obtain⟨k,hk,rfl,hI⟩:=hrel;have hb:=hI.out.2;have z1:=aa hb y1;have z2:=aa hb y2
  by_cases S':k<n
  ·have M':(k:Int)<(n:Int):=by omega
   have n':k<l.length:=by have:=HN.out;omega
   have Z:k<l'.length:=by have:=D'.out;omega
   obtain⟨b,o,rfl,r'⟩:=HL.out k l[k] (K9 n');obtain⟨D,o',rfl,I⟩:=G.out k l'[k] (K9 Z);have hg:=jD (K9 n');have G':=jD (K9 Z);obtain⟨a,ha⟩:=jF (l[k]);obtain⟨F,t'⟩:=jF (l'[k]);rw[<-ha]at hg r';rw[<-t']at G' I;clear ha t' n' Z;obtain⟨d',v',C',y',p0,p1,p2,p3,p4,p5,p6,p7⟩:=cL (ai d _ _ _ _ _ (ab j'.out hb) r');obtain⟨e',u',O',F',q0,q1,q2,q3,q4,q5,q6,q7⟩:=cL (ai e _ _ _ _ _ (ab j'.out hb) I);obtain⟨Q,hQ⟩:=jE (dX a F);have HC:=jD (fun (W:World) (hW:KY wr W)=>z.out d' C' e' a F v' u' W (y'.stays (ai d') hW) (F'.stays (ai e') hW));rw[hQ]at HC;have HQ:=jD hQ;obtain⟨A2,c2,rfl,-⟩:=y';obtain⟨A3,c3,rfl,-⟩:=F';unfold exV at HC;have h:=hI.out.1;rw[my hg.out G'.out,HQ.out]at h;have H:=jD h;clear hQ r' I C' O' h;go_wp2_with fail
   refine bF (fun W=>W.cell? ⟨w.heap.size,1,none⟩=some (.slice (some ⟨b,o,none⟩) n c)/\W.cell? ⟨w.heap.size+1,1,none⟩=some (.slice (some ⟨D,o',none⟩) n c')/\W.cell? ⟨b,o+k*8,none⟩=some (KW a.op)/\W.cell? ⟨b,o+k*8+1,none⟩=some (.slice A2 a.args.length c2)/\W.cell? ⟨b,o+k*8+2,none⟩=some (KW a.vr)/\W.cell? ⟨b,o+k*8+3,none⟩=some (KW a.fl)/\W.cell? ⟨b,o+k*8+4,none⟩=some (KW a.kd)/\W.cell? ⟨b,o+k*8+5,none⟩=some (KW a.val.kind)/\W.cell? ⟨b,o+k*8+6,none⟩=some (KW a.val.num)/\W.cell? ⟨b,o+k*8+7,none⟩=some (.string a.val.text)/\W.cell? ⟨D,o'+k*8,none⟩=some (KW F.op)/\W.cell? ⟨D,o'+k*8+1,none⟩=some (.slice A3 F.args.length c3)/\W.cell? ⟨D,o'+k*8+2,none⟩=some (KW F.vr)/\W.cell? ⟨D,o'+k*8+3,none⟩=some (KW F.fl)/\W.cell? ⟨D,o'+k*8+4,none⟩=some (KW F.kd)/\W.cell? ⟨D,o'+k*8+5,none⟩=some (KW F.val.kind)/\W.cell? ⟨D,o'+k*8+6,none⟩=some (KW F.val.num)/\W.cell? ⟨D,o'+k*8+7,none⟩=some (.string F.val.text)) (by repeat (first|exact aG _ _ _|exact aH|refine aN ?_ ?_)) kr kr ?hF ?_;(case hF=>(first|exact⟨‹_›,‹_›⟩|(go_simp;done)|(simp[*];done)|(repeat' (first|(refine And.intro ?_ ?_)|(go_simp;done)|exact aa (aJ (La _ _) _) (by assumption)|assumption))));intro P' N';have hG:Hid (Grows (fun W=>W.cell? ⟨w.heap.size,1,none⟩=some (.slice (some ⟨b,o,none⟩) n c)/\W.cell? ⟨w.heap.size+1,1,none⟩=some (.slice (some ⟨D,o',none⟩) n c')/\W.cell? ⟨b,o+k*8,none⟩=some (KW a.op)/\W.cell? ⟨b,o+k*8+1,none⟩=some (.slice A2 a.args.length c2)/\W.cell? ⟨b,o+k*8+2,none⟩=some (KW a.vr)/\W.cell? ⟨b,o+k*8+3,none⟩=some (KW a.fl)/\W.cell? ⟨b,o+k*8+4,none⟩=some (KW a.kd)/\W.cell? ⟨b,o+k*8+5,none⟩=some (KW a.val.kind)/\W.cell? ⟨b,o+k*8+6,none⟩=some (KW a.val.num)/\W.cell? ⟨b,o+k*8+7,none⟩=some (.string a.val.text)/\W.cell? ⟨D,o'+k*8,none⟩=some (KW F.op)/\W.cell? ⟨D,o'+k*8+1,none⟩=some (.slice A3 F.args.length c3)/\W.cell? ⟨D,o'+k*8+2,none⟩=some (KW F.vr)/\W.cell? ⟨D,o'+k*8+3,none⟩=some (KW F.fl)/\W.cell? ⟨D,o'+k*8+4,none⟩=some (KW F.kd)/\W.cell? ⟨D,o'+k*8+5,none⟩=some (KW F.val.kind)/\W.cell? ⟨D,o'+k*8+6,none⟩=some (KW F.val.num)/\W.cell? ⟨D,o'+k*8+7,none⟩=some (.string F.val.text))):=(by repeat (first|exact aG _ _ _|exact aH|refine aN ?_ ?_));(repeat (go_big_quiet_step ((go_at_call 320;exact iH hG (fun W hW=>HC.out W hW)))));clear hG N' P';refine wpQuiet_nil ?_;rintro _ ⟨⟨w',z',R'⟩,rfl⟩
   clear R'
   cases Q
   ·obtain rfl:S=false:=by have:=H.out;rw[Mw]at this;exact this.symm
    go_wp2;go_ret;exact⟨rfl,ab j'.out (ab hb z')⟩
   ·go_wp2_with fail
    go_roundw
    case rel=>exact⟨k+1,by omega,by go_num,jD ⟨by have:=H.out;rwa [L5]at this,ab hb z'⟩⟩
    case measure=>simp[intOf];omega
  ·have M':¬(k:Int)<(n:Int):=by omega
   obtain rfl:S=true:=by
    have h:=hI.out.1;rw[Lq (by have:=HN.out;omega),Lq (by have:=D'.out;omega),dt]at h;exact h.symm
   exact fi (ab j'.out hb)
theorem C6 (d:Nat):∀(e:Nat) (x y:Ex) (v u:Value) (w:World),aF d w v x.args->aF e w u y.args ->
  KZ 320 #[exV x v,exV y u] w (.bool (dX x y)):=by
 induction d with
 | zero=>exact qC 0 (fun z h=>by omega)
 | succ d D=>exact qC (d+1) (fun z h=>Ma h▸D)
theorem oO (d:Nat) (k':∀d',d=d'+1->∀(e:Nat) (x y:Ex) (v u:Value) (w:World),aF d' w v x.args->aF e w u y.args ->
   KZ 271 #[exV x v,exV y u] w (.bool (dX x y)))
  (e:Nat) (x y:Ex) (v u:Value) (w:World) (hx:aF d w v x.args) (hy:aF e w u y.args) :
  KZ 271 #[exV x v,exV y u] w (.bool (dX x y)):=by
 have z:=jD k';rw[tQ];obtain⟨op,l,vr,fl,kd,⟨k0,n0,t0⟩⟩:=x;obtain⟨B',l',L',I',H',⟨k1,n1,t1⟩⟩:=y;obtain⟨A,c,rfl,h1,h2,q'⟩:=hx;obtain⟨A',c',rfl,s',p',i'⟩:=hy;simp only[Ex.args,Ex.op,Ex.vr,Ex.fl,Ex.kd,Ex.val]at h1 h2 q' s' p' i' ⊢;have x':=ax h1 h2;have m':=ax s' p';have HL:=jD q';have G:=jD i';have HQ:Hid (∀W,(binOp .neq 27 (.agg #[KW k0,KW n0,.string t0]) (.agg #[KW k1,KW n1,.string t1])).run prog W=.ok (.bool (!cC ⟨k0,n0,t0⟩ ⟨k1,n1,t1⟩)) W):=jD (fun W=>dg ⟨k0,n0,t0⟩ ⟨k1,n1,t1⟩ W);obtain⟨q,hq⟩:=jE (cC ⟨k0,n0,t0⟩ ⟨k1,n1,t1⟩);rw[hq]at HQ ⊢;obtain⟨S,hS⟩:=jE (dt l l');rw[hS];have HS:=jD hS;clear q' i' hS hq h1 h2 s' p' k';unfold exV;simp only[Ex.op,Ex.vr,Ex.fl,Ex.kd,Ex.val]
 by_cases g':op=B'
 case neg =>
  simp only[g',MT,Mw,MI];have gg:(op==B')=false:=jQ g';clear HQ HS HL G z;go_enter func271,ntmps271;go_wp2;go_ret;exact⟨rfl,jB⟩
 subst g';simp only[M3,L5]
 by_cases h':vr=L'
 case neg =>
  simp only[h',MT,Mw,MI];have gg:(vr==L')=false:=jQ h';clear HQ HS HL G z;go_enter func271,ntmps271;go_wp2;go_ret;exact⟨rfl,jB⟩
 subst h';simp only[M3,L5]
 by_cases J:fl=I'
 case neg =>
  simp only[J,MT,Mw,MI];have gg:(fl==I')=false:=jQ J;clear HQ HS HL G z;go_enter func271,ntmps271;go_wp2;go_ret;exact⟨rfl,jB⟩
 subst J;simp only[M3,L5]
 by_cases f':kd=H'
 case neg =>
  simp only[f',MT,Mw,MI];have gg:(kd==H')=false:=jQ f';clear HQ HS HL G z;go_enter func271,ntmps271;go_wp2;go_ret;exact⟨rfl,jB⟩
 subst f';simp only[M3,L5]
 cases q
 case false =>
  simp only[Mw];have J':=HQ.out;clear HS HL G z HQ;go_enter func271,ntmps271;go_wp2;go_ret;exact⟨rfl,jB⟩
 simp only[L5];have J':=HQ.out;clear HQ
 by_cases hl:l.length=l'.length
 case neg =>
  obtain rfl:S=false:=by rw[<-HS.out];exact jp hl
  have T':¬((l.length:Int)=(l'.length:Int)):=by omega
  clear HS HL G z hl;go_enter func271,ntmps271;go_wp2;go_ret;exact⟨rfl,jB⟩
 obtain⟨n,O⟩:=jE l.length;have HN:=jD O;have D':Hid (l'.length=n):=jD (by rw[<-hl,O]);rw[<-hl,O];rw[O]at x';clear O hl m';go_enter func271,ntmps271;go_wp2_with fail;refine aP fun w1 e1=>?_
 have y1:KX w1 w.heap.size 1 (.slice A n c):=jG e1;have y2:KX w1 (w.heap.size+1) 1 (.slice A' n c'):=jG e1;have E':KY w w1:=gb e1;clear e1;have j':=jD E';clear E' J'
 go_loopw [5] (fun i wr=>∃k:Nat,k<=n/\i=KW k/\Hid (dt (l.drop k) (l'.drop k)=S/\KY w1 wr)) (fun i _=>n-(intOf i).toNat)
 case atStart=>exact⟨0,Lb _,rfl,jD ⟨HS.out,La _ _⟩⟩
 case round =>
  obtain⟨k,hk,rfl,hI⟩:=hrel;have hb:=hI.out.2;have z1:=aa hb y1;have z2:=aa hb y2
  by_cases S':k<n
  ·have M':(k:Int)<(n:Int):=by omega
   have n':k<l.length:=by have:=HN.out;omega
   have Z:k<l'.length:=by have:=D'.out;omega
   obtain⟨b,o,rfl,r'⟩:=HL.out k l[k] (K9 n');obtain⟨D,o',rfl,I⟩:=G.out k l'[k] (K9 Z);have hg:=jD (K9 n');have G':=jD (K9 Z);obtain⟨a,ha⟩:=jF (l[k]);obtain⟨F,t'⟩:=jF (l'[k]);rw[<-ha]at hg r';rw[<-t']at G' I;clear ha t' n' Z;obtain⟨d',v',C',y',p0,p1,p2,p3,p4,p5,p6,p7⟩:=cL (ai d _ _ _ _ _ (ab j'.out hb) r');obtain⟨e',u',O',F',q0,q1,q2,q3,q4,q5,q6,q7⟩:=cL (ai e _ _ _ _ _ (ab j'.out hb) I);obtain⟨Q,hQ⟩:=jE (dX a F);have HC:=jD (fun (W:World) (hW:KY wr W)=>z.out d' C' e' a F v' u' W (y'.stays (ai d') hW) (F'.stays (ai e') hW));rw[hQ]at HC;have HQ:=jD hQ;obtain⟨A2,c2,rfl,-⟩:=y';obtain⟨A3,c3,rfl,-⟩:=F';unfold exV at HC;have h:=hI.out.1;rw[my hg.out G'.out,HQ.out]at h;have H:=jD h;clear hQ r' I C' O' h;go_wp2_with fail
   refine bF (fun W=>W.cell? ⟨w.heap.size,1,none⟩=some (.slice (some ⟨b,o,none⟩) n c)/\W.cell? ⟨w.heap.size+1,1,none⟩=some (.slice (some ⟨D,o',none⟩) n c')/\W.cell? ⟨b,o+k*8,none⟩=some (KW a.op)/\W.cell? ⟨b,o+k*8+1,none⟩=some (.slice A2 a.args.length c2)/\W.cell? ⟨b,o+k*8+2,none⟩=some (KW a.vr)/\W.cell? ⟨b,o+k*8+3,none⟩=some (KW a.fl)/\W.cell? ⟨b,o+k*8+4,none⟩=some (KW a.kd)/\W.cell? ⟨b,o+k*8+5,none⟩=some (KW a.val.kind)/\W.cell? ⟨b,o+k*8+6,none⟩=some (KW a.val.num)/\W.cell? ⟨b,o+k*8+7,none⟩=some (.string a.val.text)/\W.cell? ⟨D,o'+k*8,none⟩=some (KW F.op)/\W.cell? ⟨D,o'+k*8+1,none⟩=some (.slice A3 F.args.length c3)/\W.cell? ⟨D,o'+k*8+2,none⟩=some (KW F.vr)/\W.cell? ⟨D,o'+k*8+3,none⟩=some (KW F.fl)/\W.cell? ⟨D,o'+k*8+4,none⟩=some (KW F.kd)/\W.cell? ⟨D,o'+k*8+5,none⟩=some (KW F.val.kind)/\W.cell? ⟨D,o'+k*8+6,none⟩=some (KW F.val.num)/\W.cell? ⟨D,o'+k*8+7,none⟩=some (.string F.val.text)) (by repeat (first|exact aG _ _ _|exact aH|refine aN ?_ ?_)) kr kr ?hF ?_;(case hF=>(first|exact⟨‹_›,‹_›⟩|(go_simp;done)|(simp[*];done)|(repeat' (first|(refine And.intro ?_ ?_)|(go_simp;done)|exact aa (aJ (La _ _) _) (by assumption)|assumption))));intro P' N';have hG:Hid (Grows (fun W=>W.cell? ⟨w.heap.size,1,none⟩=some (.slice (some ⟨b,o,none⟩) n c)/\W.cell? ⟨w.heap.size+1,1,none⟩=some (.slice (some ⟨D,o',none⟩) n c')/\W.cell? ⟨b,o+k*8,none⟩=some (KW a.op)/\W.cell? ⟨b,o+k*8+1,none⟩=some (.slice A2 a.args.length c2)/\W.cell? ⟨b,o+k*8+2,none⟩=some (KW a.vr)/\W.cell? ⟨b,o+k*8+3,none⟩=some (KW a.fl)/\W.cell? ⟨b,o+k*8+4,none⟩=some (KW a.kd)/\W.cell? ⟨b,o+k*8+5,none⟩=some (KW a.val.kind)/\W.cell? ⟨b,o+k*8+6,none⟩=some (KW a.val.num)/\W.cell? ⟨b,o+k*8+7,none⟩=some (.string a.val.text)/\W.cell? ⟨D,o'+k*8,none⟩=some (KW F.op)/\W.cell? ⟨D,o'+k*8+1,none⟩=some (.slice A3 F.args.length c3)/\W.cell? ⟨D,o'+k*8+2,none⟩=some (KW F.vr)/\W.cell? ⟨D,o'+k*8+3,none⟩=some (KW F.fl)/\W.cell? ⟨D,o'+k*8+4,none⟩=some (KW F.kd)/\W.cell? ⟨D,o'+k*8+5,none⟩=some (KW F.val.kind)/\W.cell? ⟨D,o'+k*8+6,none⟩=some (KW F.val.num)/\W.cell? ⟨D,o'+k*8+7,none⟩=some (.string F.val.text))):=(by repeat (first|exact aG _ _ _|exact aH|refine aN ?_ ?_));(repeat (go_big_quiet_step ((go_at_call 271;exact iH hG (fun W hW=>HC.out W hW)))));clear hG N' P';refine wpQuiet_nil ?_;rintro _ ⟨⟨w',z',R'⟩,rfl⟩
   clear R'
   cases Q
   ·obtain rfl:S=false:=by have:=H.out;rw[Mw]at this;exact this.symm
    go_wp2;go_ret;exact⟨rfl,ab j'.out (ab hb z')⟩
   ·go_wp2_with fail
    go_roundw
    case rel=>exact⟨k+1,by omega,by go_num,jD ⟨by have:=H.out;rwa [L5]at this,ab hb z'⟩⟩
    case measure=>simp[intOf];omega
  ·have M':¬(k:Int)<(n:Int):=by omega
   obtain rfl:S=true:=by
    have h:=hI.out.1;rw[Lq (by have:=HN.out;omega),Lq (by have:=D'.out;omega),dt]at h;exact h.symm
   exact fi (ab j'.out hb)
theorem ze (d:Nat):∀(e:Nat) (x y:Ex) (v u:Value) (w:World),aF d w v x.args->aF e w u y.args ->
  KZ 271 #[exV x v,exV y u] w (.bool (dX x y)):=by
 induction d with
 | zero=>exact oO 0 (fun z h=>by omega)
 | succ d D=>exact oO (d+1) (fun z h=>Ma h▸D)
end Go.Proofs.YtokconodddedhaaGreatDoor
