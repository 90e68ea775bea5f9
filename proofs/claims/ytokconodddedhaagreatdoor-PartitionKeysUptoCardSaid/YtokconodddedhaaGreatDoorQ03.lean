/- Part. -/
import Derived.Test.YtokconodddedhaaGreatDoorQ02
import Derived.Lib.LaidTab
import Derived.Lib.AppendIntMem
import Derived.OwnWalk
import Derived.Lib.SliceRun
import Derived.Shelf.Abstract
import Derived.SevenTiedAt
import Derived.OpenShut
import Derived.Deep.Slices
import Derived.LaidMore
import Derived.Stop.LaidErr
import Derived.Stop.Joined
set_option maxRecDepth 100000
set_option maxHeartbeats 16000000
set_option linter.unusedVariables false
set_option linter.unusedSimpArgs false
namespace Go.Proofs.YtokconodddedhaaGreatDoor
open Go.Proofs.Tryz Go.RowKit
theorem cd {a b:Int} (h:a=b):Ending.returned (KW a)=.returned (KW b):=by rw[h]
theorem DB (a b:Bnd) (w:World) :
  Calls prog 92 #[.agg #[KW a.t,KW a.s,KW a.n],.agg #[KW b.t,KW b.s,KW b.n]] w fun e w'=>e=.returned (KW (bJ a b))/\Gr w w':=by
 obtain⟨v1,t1,s1,n1⟩:=a;obtain⟨v2,t2,s2,z⟩:=b;simp only[bJ];rcases Int.lt_trichotomy t1 t2 with h|h|h
 ·have D:(t1 != t2)=true:=by simp;omega
  have hr:orI (orI (bL t1 t2) (bL s1 s2)) (bL n1 z)=-1:=by simp[orI,bL,h]
  rw[hr];clear hr;go_enter func92,ntmps92;go_wp2;go_ret;exact⟨rfl,jC⟩
 ·subst h;rcases Int.lt_trichotomy s1 s2 with h|h|h
  ·have D:(s1 != s2)=true:=by simp;omega
   have hr:orI (orI (bL t1 t1) (bL s1 s2)) (bL n1 z)=-1:=by simp[orI,bL,h]
   rw[hr];clear hr;go_enter func92,ntmps92;go_wp2;go_ret;exact⟨rfl,jC⟩
  ·subst h;have hr:orI (orI (bL t1 t1) (bL s1 s1)) (bL n1 z)=bL n1 z:=by simp[orI,bL]
   rw[hr];clear hr;rcases Int.lt_trichotomy n1 z with h|h|h
   ·have hr:bL n1 z=-1:=by simp[bL,h]
    rw[hr];clear hr;go_enter func92,ntmps92;go_wp2;go_ret;exact⟨rfl,jC⟩
   ·subst h;have hr:bL n1 n1=0:=by simp[bL]
    rw[hr];clear hr;go_enter func92,ntmps92;go_wp2;go_ret;exact⟨rfl,jC⟩
   ·have hr:bL n1 z=1:=by unfold bL;rw[K6 om,K7 h]
    rw[hr];clear hr;have G:¬n1<z:=by omega
    go_enter func92,ntmps92;go_wp2;go_ret;exact⟨rfl,jC⟩
  ·have D:(s1 != s2)=true:=by simp;omega
   have hr:orI (orI (bL t1 t1) (bL s1 s2)) (bL n1 z)=1:=by
    have F:bL t1 t1=0:=by simp[bL]
    have I:bL s1 s2=1:=by unfold bL;rw[K6 om,K7 h]
    rw[F,I];rfl
   rw[hr];clear hr;have G:¬s1<s2:=by omega
   go_enter func92,ntmps92;go_wp2;go_ret;exact⟨rfl,jC⟩
 ·have D:(t1 != t2)=true:=by simp;omega
  have hr:orI (orI (bL t1 t2) (bL s1 s2)) (bL n1 z)=1:=by
   have F:bL t1 t2=1:=by unfold bL;rw[K6 om,K7 h]
   rw[F];rfl
  rw[hr];clear hr;have G:¬t1<t2:=by omega
  go_enter func92,ntmps92;go_wp2;go_ret;exact⟨rfl,jC⟩
section
def dB {α:Type} (f:Option α->α->Int):Option α->List α->Int
 | _,[]=>0
 | p,x::l=>if f p x=0 then dB f (some x) l else f p x
def gi {α:Type} (l:List α):Nat->Option α
 | 0=>none
 | k+1=>l[k]?
theorem kE {α:Type} {l:List α} {k:Nat} {x:α} (h0:k≠0) (h:l[k-1]?=some x):gi l k=some x:=by
 cases k with
 | zero=>omega
 | succ k=>exact h
section
variable {α : Type} {f : Option α -> α -> Int} {l : List α} {k : Nat} {x : α} {E e : Int}
theorem et (D:l[k]?=some x) (h:dB f (gi l k) (l.drop k)=E) (he:f (gi l k) x=e) (h0:e≠0):e=E:=by
 obtain⟨z,rfl⟩:=List.getElem?_eq_some_iff.1 D;rw[Lr z,dB,K6 (by rw[he];exact h0),he]at h;exact h
theorem lY (D:l[k]?=some x) (h:dB f (gi l k) (l.drop k)=E) (he:f (gi l k) x=0):dB f (gi l (k+1)) (l.drop (k+1))=E:=by
 have z:=D;obtain⟨F,rfl⟩:=List.getElem?_eq_some_iff.1 D;rw[Lr F,dB,K7 he]at h;rw[gi,z];exact h
theorem mS (hk:l.length<=k) (h:dB f (gi l k) (l.drop k)=E):0=E:=by
 rw[Nz hk,dB]at h;exact h
end
def inI (n m:Int):Bool:=decide (0<=n)&&decide (n<=m)
def plB (b:Bnd):Bool:=inI b.t 1099511627776&&inI b.s 7&&inI b.n 1099511627776
def eV (b:Bnd):Bool:=inI b.v 15&&plB b
def behind (p:Option Bnd) (b:Bnd):Bool:=match p with|none=>true|some a=>decide (bJ a b<0)
def pd (p:Option Bnd) (b:Bnd):Int:=if eV b=false then 2 else if behind p b=true then 0 else 14
def iV (l:List Bnd):Int:=if l.length=0 then 15 else if 4096<l.length then 5 else dB pd none l
theorem uw {p:Option Bnd} {b:Bnd} (h:eV b=false):pd p b=2:=K7 h
theorem Hy {p a:Bnd} {l:List Bnd} {k:Nat} (h:eV a=true) (h0:k≠0) (hp:l[k-1]?=some p) (hr:0<=bJ p a):pd (gi l k) a=14:=by
 unfold pd;rw[K6 (by simp[h]),kE h0 hp,K6 (by simp[behind];omega)]
theorem KG {p a:Bnd} {l:List Bnd} {k:Nat} (h:eV a=true) (h0:k≠0) (hp:l[k-1]?=some p) (hr:bJ p a<0):pd (gi l k) a=0:=by
 unfold pd;rw[K6 (by simp[h]),kE h0 hp,K7 (by simp[behind];omega)]
theorem yr {a:Bnd} {l:List Bnd} {k:Nat} (h:eV a=true) (h0:k=0):pd (gi l k) a=0:=by
 subst h0;unfold pd;rw[K6 (by simp[h])];rfl
theorem el (n m:Int) (w:World):Calls prog 173 #[KW n,KW m] w fun e w'=>e=.returned (.bool (inI n m))/\w=w':=by
 unfold inI
 by_cases z:0<=n
 ·by_cases h:n<=m
  ·go_enter func173,ntmps173;go_wp2;go_ret;exact⟨by simp[z,h],rfl⟩
  ·go_enter func173,ntmps173;go_wp2;go_ret;exact⟨by simp[h],rfl⟩
 ·go_enter func173,ntmps173;go_wp2;go_ret;exact⟨by simp;omega,rfl⟩
end
theorem zD (l:List Bnd) (v:Value) (w:World) (hl:bQ w v l) :
  KZ 174 #[rY v] w (KW (iV l)):=by
 unfold rY iV;obtain⟨A,c,rfl,O,Z,f'⟩:=hl;have hn:=ax O Z;have HL:=jD f';clear f' O Z
 by_cases hz:l.length=0
 ·rw[K7 hz];obtain rfl:l=[]:=L3 hz;go_enter func174,ntmps174;go_wp2;go_ret;exact⟨rfl,jB⟩
 rw[K6 hz];have r':((l.length:Int)==0)=false:=by rw[LZ];omega
 have t':l≠[]:=by intro h;rw[h]at hz;exact hz rfl
 have HZ:=jD hz;clear hz
 by_cases hm:4096<l.length
 ·rw[K7 hm];have m':(4096:Int)<(l.length:Int):=by omega
  go_enter func174,ntmps174;go_wp2;go_ret;exact⟨rfl,jB⟩
 rw[K6 hm];have m':¬(4096:Int)<(l.length:Int):=by omega
 clear hm;go_enter func174,ntmps174;go_wp2_with fail;refine aP fun w0 e0=>?_
 have g':KY w w0:=gb e0;have x0:KX w0 w.heap.size 0 (.slice A l.length c):=jG e0;have s':w.heap.size<w0.heap.size:=by rw[e0];simp
 have HX:=jD x0;have G:=jD g';clear e0 x0 g'
 go_loopw [18] (fun i wr=>∃k:Nat,k<=l.length/\i=KW k/\Hid (dB pd (gi l k) (l.drop k)=dB pd none l)/\KY w0 wr) (fun i _=>l.length-(intOf i).toNat)
 case atStart=>exact⟨0,Lb _,rfl,by exact jD rfl,La _ _⟩
 case round =>
  obtain⟨k,hk,rfl,hi,hb⟩:=hrel;have x0:=aa hb HX.out;have I:=jD (ab G.out hb);have x':w0.heap.size<=wr.heap.size:=hb.size;have a':w.heap.size≠wr.heap.size:=by omega
  have p':wr.heap.size≠w.heap.size:=by omega
  by_cases e':k<l.length
  ·have j':(k:Int)<(l.length:Int):=by omega
   obtain⟨b,o,rfl,c0,c1,c2,c3⟩:=HL.out k l[k] (K9 e');replace c0:=aa I.out c0;replace c1:=aa I.out c1;replace c2:=aa I.out c2;replace c3:=aa I.out c3;have y':b<wr.heap.size:=K8 wr ⟨b,_,none⟩ c0;have u':b≠wr.heap.size:=by omega
   have n':wr.heap.size≠b:=by omega
   have z:=jD (K9 e');obtain⟨x,hx⟩:=jF (l[k]);rw[<-hx]at z c0 c1 c2 c3;clear hx
   by_cases O:inI x.v 15=false
   ·have D:Hid (eV x=false):=jD (by unfold eV plB;rw[O];rfl);go_wp2_with (go_at_call 173;refine (el _ _ _).mono ?_;rintro e w' ⟨rfl,rfl⟩);go_ret;exact⟨cd (et z.out hi.out (uw D.out) dc),ab G.out jB⟩
   rw[M9]at O
   by_cases Z:inI x.t 1099511627776=false
   ·have D:Hid (eV x=false):=jD (by unfold eV plB;rw[O,Z];rfl);go_wp2_with (go_at_call 173;refine (el _ _ _).mono ?_;rintro e w' ⟨rfl,rfl⟩);go_ret;exact⟨cd (et z.out hi.out (uw D.out) dc),ab G.out jB⟩
   rw[M9]at Z
   by_cases h3:inI x.s 7=false
   ·have D:Hid (eV x=false):=jD (by unfold eV plB;rw[O,Z,h3];rfl);go_wp2_with (go_at_call 173;refine (el _ _ _).mono ?_;rintro e w' ⟨rfl,rfl⟩);go_ret;exact⟨cd (et z.out hi.out (uw D.out) dc),ab G.out jB⟩
   rw[M9]at h3
   by_cases h4:inI x.n 1099511627776=false
   ·have D:Hid (eV x=false):=jD (by unfold eV plB;rw[O,Z,h3,h4];rfl);go_wp2_with (go_at_call 173;refine (el _ _ _).mono ?_;rintro e w' ⟨rfl,rfl⟩);go_ret;exact⟨cd (et z.out hi.out (uw D.out) dc),ab G.out jB⟩
   rw[M9]at h4;have b':Hid (eV x=true):=jD (by unfold eV plB;rw[O,Z,h3,h4];rfl)
   by_cases J:k=0
   ·have HK:=jD J;have d1:decide (0<k)=false:=by simp[J]
    have d2:decide ((0:Int)<(k:Int))=false:=by simp[J]
    clear J;go_wp2_with (go_at_call 173;refine (el _ _ _).mono ?_;rintro e w' ⟨rfl,rfl⟩);refine bF (fun W=>W.cell? ⟨wr.heap.size,0,none⟩=some (KW x.v)/\W.cell? ⟨wr.heap.size,1,none⟩=some (KW x.t)) (by repeat (first|exact aG _ _ _|exact aH|refine aN ?_ ?_)) kr kr ?hF ?_;(case hF=>(first|exact⟨‹_›,‹_›⟩|(go_simp;done)|(simp[*];done)|(repeat' (first|(refine And.intro ?_ ?_)|(go_simp;done)|exact aa (aJ (La _ _) _) (by assumption)|assumption))));intro a' c';have hG:Hid (Grows (fun W=>W.cell? ⟨wr.heap.size,0,none⟩=some (KW x.v)/\W.cell? ⟨wr.heap.size,1,none⟩=some (KW x.t))):=(by repeat (first|exact aG _ _ _|exact aH|refine aN ?_ ?_));(repeat (go_big_quiet_step (fail)));clear hG c' a';refine wpQuiet_nil ?_;rintro _ ⟨⟨w',i',k'⟩,rfl⟩;go_wp2_with fail
    go_roundw
    case rel=>exact⟨k+1,by omega,by go_num,jD (lY z.out hi.out (yr b'.out HK.out)),jB⟩
    case measure=>simp[intOf];omega
   ·have z':(0:Int)<=(k:Int)-1:=by omega
    have q':(k:Int)-1<(l.length:Int):=by omega
    have d1:decide (0<k)=true:=by simp;omega
    have d2:decide ((0:Int)<(k:Int))=true:=by simp;omega
    have HK:=jD J;clear J;obtain⟨_,_,h',p0,p1,p2,p3⟩:=HL.out (k-1) l[k-1] (K9 om);simp only[Nn,Addr.mk.injEq,LV]at h';obtain⟨rfl,rfl⟩:=h';replace p1:=aa I.out p1;replace p2:=aa I.out p2;replace p3:=aa I.out p3;have F:=jD (K9 (l:=l) (i:=k-1) om);obtain⟨p,hp⟩:=jF (l[k-1]);rw[<-hp]at p1 p2 p3 F;clear hp p0;obtain⟨r,hr⟩:=jE (bJ p x);have HR:=jD hr;have l':∀W,KZ 83 #[.agg #[KW p.t,KW p.s,KW p.n],.agg #[KW x.t,KW x.s,KW x.n]] W (KW r):=fun W=>(wh p x W).mono (fun e w' ⟨O,Z⟩=>⟨O.trans (by rw[hr]),Z.below⟩)
    clear hr;go_wp2_with (go_at_call 173;refine (el _ _ _).mono ?_;rintro e w' ⟨rfl,rfl⟩);refine bF (fun W=>W.cell? ⟨wr.heap.size,1,none⟩=some (KW x.t)/\W.cell? ⟨wr.heap.size,2,none⟩=some (KW x.s)/\W.cell? ⟨wr.heap.size,3,none⟩=some (KW x.n)/\W.cell? ⟨w.heap.size,0,none⟩=some (.slice (some ⟨b,o,none⟩) l.length c)/\W.cell? ⟨b,o+(k-1)*4+1,none⟩=some (KW p.t)/\W.cell? ⟨b,o+(k-1)*4+2,none⟩=some (KW p.s)/\W.cell? ⟨b,o+(k-1)*4+3,none⟩=some (KW p.n)) (by repeat (first|exact aG _ _ _|exact aH|refine aN ?_ ?_)) kr kr ?hF ?_;(case hF=>(first|exact⟨‹_›,‹_›⟩|(go_simp;done)|(simp[*];done)|(repeat' (first|(refine And.intro ?_ ?_)|(go_simp;done)|exact aa (aJ (La _ _) _) (by assumption)|assumption))));intro a' c';have hG:Hid (Grows (fun W=>W.cell? ⟨wr.heap.size,1,none⟩=some (KW x.t)/\W.cell? ⟨wr.heap.size,2,none⟩=some (KW x.s)/\W.cell? ⟨wr.heap.size,3,none⟩=some (KW x.n)/\W.cell? ⟨w.heap.size,0,none⟩=some (.slice (some ⟨b,o,none⟩) l.length c)/\W.cell? ⟨b,o+(k-1)*4+1,none⟩=some (KW p.t)/\W.cell? ⟨b,o+(k-1)*4+2,none⟩=some (KW p.s)/\W.cell? ⟨b,o+(k-1)*4+3,none⟩=some (KW p.n))):=(by repeat (first|exact aG _ _ _|exact aH|refine aN ?_ ?_));(repeat (go_big_quiet_step ((go_at_call 83;exact fj hG (l' _)))));clear hG c' a';refine wpQuiet_nil ?_;rintro _ ⟨⟨w',i',k'⟩,rfl⟩
    by_cases d':0<=r
    ·have d3:decide (0<=r)=true:=jQ d';go_wp2;go_ret;exact⟨cd (et z.out hi.out (Hy b'.out HK.out F.out (by rw[HR.out];exact d')) dc),ab G.out jB⟩
    ·have d3:decide (0<=r)=false:=jQ d';go_wp2_with fail
     go_roundw
     case rel=>exact⟨k+1,by omega,by go_num,jD (lY z.out hi.out (KG b'.out HK.out F.out (by rw[HR.out];omega))),jB⟩
     case measure=>simp[intOf];omega
  ·have j':¬(k:Int)<(l.length:Int):=by omega
   go_wp2;go_ret;exact⟨cd (mS om hi.out),ab G.out hb⟩
section
section
def J9 (e sz n:Nat) (cs:List Value) (w:World) (x:Ending) (w':World):Prop:=∃v',x=.returned v'/\w'.ownsRow w.heap.size e sz v' n cs/\KY w w'
theorem Gh:(prog.info? 80).map (fun i=>(i.zero,i.size,i.bytes))=some (some (.agg #[KW 0,KW 0,KW 0,KW 0]),4,32):=kr
theorem vZ:(prog.info? 55).map (fun i=>(i.zero,i.size,i.bytes))=some (some (.agg #[.slice none 0 0]),1,24):=kr
end
section
theorem gI {a b c:World} {r:Option Nat} (h:a.grownBy b r) (k:b.grownBy c r):a.grownBy c r :=
 ⟨k.os.trans h.os,k.tape.trans h.tape,k.output.trans h.output,Lf h.size k.size,fun i D z=>(k.block i (Ll D h.size) z).trans (h.block i D z)⟩
theorem bx {a b:World} (h:KY a b) (r:Option Nat):a.grownBy b r:=⟨h.os,h.tape,h.output,h.size,fun i z _=>h.block i z⟩
end
section
end
section
def Tab (w:World):Prop:=Lib.TabIs prog w "internal/strconv.uint64pow10" .u64 Lib.pow10Tab
theorem Tab.stays {w w':World} (h:Tab w) (z:KY w w'):Tab w':=Lib.tabBelow_of_tabIs h w' z
end
section
theorem AG {W:World} {base e sz n:Nat} {v:Value} {xs:List Value} (h:W.ownsRow base e sz v n xs) :
  (v=.slice none 0 0/\n=0)\/∃g cap spare,v=.slice (some ⟨g,0,none⟩) n cap/\base<=g/\W.heap[g]?=some (.cells (xs++spare).toArray e (0,0))/\n<=cap/\cap<=maxLen/\(xs++spare).length=cap*sz/\xs.length=n*sz:=by
 rcases h.2 with h0|⟨g,cap,cur,hv,hg,hh,hnc,hcm,hcs,htake⟩
 ·exact .inl h0
 ·have z:cur.toList=xs++cur.toList.drop (n*sz):=by rw[<-htake,M8]
  refine .inr ⟨g,cap,cur.toList.drop (n*sz),hv,hg,by rw[<-z];exact hh,hnc,hcm,by rw[<-z];simpa using hcs,h.1⟩
end
section
open Go.RowKit Go.Shelf
abbrev MV:=List Bnd × Value
theorem IM {α:Type} {R:World->Nat->Nat->α->Prop} {sz:Nat} {w:World} {v:Value} {l:List α} (h:Sl R sz w v l):∃A c,v=.slice A l.length c:=by
 obtain⟨A,c,z,-⟩:=h;exact⟨A,c,z⟩
theorem Bg {l:List MV} {k:Nat} {e:MV} (h:l[k]?=some e) (r:List Value):(l.map (·.2)++r)[k]?=some e.2:=by
 rw[LR (by rw[Lm];exact (List.getElem?_eq_some_iff.1 h).1),LI,h];rfl
end
section
open Go.RowKit Go.Shelf
end
section
open Go.ChangeShapes Go.WideShapes Go.ChangeAt Go.RowKit Go.Deep
theorem jT {α:Type} (z:Nat->α->Prop):∀(n:Nat),(∀i,i<n->∃x,z i x)->∃l:List α,l.length=n/\∀(k:Nat) (x:α),l[k]?=some x->z k x
 | 0,_=>⟨[],rfl,fun k x h=>by simp at h⟩
 | n+1,h=>by
  obtain⟨l,G,hp⟩:=jT z n (fun i O=>h i om);obtain⟨x,I⟩:=h n om;refine⟨l++[x],by simp[G],fun k y hk=>?_⟩;rcases LY k l.length with D|D
  ·rw[LR D]at hk;exact hp k y hk
  ·rw[Mf D]at hk;obtain⟨J,F⟩:=List.getElem?_eq_some_iff.1 hk;simp only[Lo]at J;obtain rfl:k=n:=by omega
   simp at F;subst F;exact I
section
variable {H : Type} {enc : TypeId × Value -> H} {P : Program} {w : World} {base : Nat} {spare : Nat -> Bool} {held : Bool}
end
section
variable {H : Type} {enc : TypeId × Value -> H} {w : World} {base : Nat} {spare : Nat -> Bool} {held : Bool}
end
end
end
end Go.Proofs.YtokconodddedhaaGreatDoor
