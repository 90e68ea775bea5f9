/- Part. -/
import Derived.Test.YtbjicljfjkdeeaaGreatDoorQ02
import Derived.Lib.LaidTab
import Derived.Lib.AppendIntMem
import Derived.OwnWalk
import Derived.Lib.SliceRun
import Derived.Shelf.Abstract
import Derived.SevenTiedAt
import Derived.OpenShut
import Derived.Deep.Slices
import Derived.LaidMore
import Derived.Stop.LaidErr
import Derived.Stop.Joined
import Derived.Laws.StructEq
import Derived.Shelf.SlicesE.Kit
import Derived.Handy
import Derived.RangeFuncBox
import Derived.Laws.Concat
import Derived.RangeFuncLeaves
import Derived.TacticsInMore
import Derived.LoopIn
import Derived.BigFrameIn
import Derived.BigGuardIn
import Derived.BigGuardPartIn
import Derived.BigRegionIn
import Derived.Maps.OwnSet
import Derived.DeepKeys4
import Derived.MapViews
set_option maxRecDepth 100000
set_option maxHeartbeats 16000000
set_option linter.unusedVariables false
set_option linter.unusedSimpArgs false
namespace Go.Proofs.YtbjicljfjkdeeaaGreatDoor
open Go.Proofs.Tryz Go.RowKit
theorem lO {l m:List Bnd} {k:Nat} {x y:Bnd} (G:l[k]?=some x) (hy:m[k]?=some y):bsC (l.drop k) (m.drop k)=orI (rR x y) (bsC (l.drop (k+1)) (m.drop (k+1))):=by
 obtain⟨z,rfl⟩:=List.getElem?_eq_some_iff.1 G;obtain⟨h,rfl⟩:=List.getElem?_eq_some_iff.1 hy;rw[Nd z,Nd h];rfl
theorem wP {l m:List Bnd} {k:Nat} {x:Bnd} (z:l[k]?=some x) (hy:m.length<=k):bsC (l.drop k) (m.drop k)=1:=by
 obtain⟨h,rfl⟩:=List.getElem?_eq_some_iff.1 z;rw[Nd h,Pn hy];rfl
theorem Bz {l m:List Bnd} {k:Nat} (z:l.length<=k):bsC (l.drop k) (m.drop k)=if k<m.length then -1 else 0:=by
 rw[Pn z]
 by_cases h:k<m.length
 ·rw[Mp h,Nd h];rfl
 ·rw[Mo h,Pn om];rfl
theorem oL (l m:List Bnd) (v1 v2:Value) (w:World) (hl:bD w v1 l) (hm:bD w v2 m) :
  Calls prog 46 #[v1,v2,.func (.func 47) #[] #[]] w fun e w'=>e=.returned (Mk (bsC l m))/\Gr w w':=by
 obtain⟨A,c,rfl,h1,h2,I⟩:=hl;have hn:=ay h1 h2;have HL:=jD I;clear I h1 h2;obtain⟨B,d,rfl,h1,h2,I⟩:=hm;have r':=ay h1 h2;have HM:=jD I;clear I h1 h2;go_enter func46,ntmps46;go_wp2_with fail
 go_loopw [13] (fun i wr=>∃k:Nat,k<=l.length/\k<=m.length/\i=Mk k/\Hid (bsC (l.drop k) (m.drop k)=bsC l m)/\Gr w wr) (fun i _=>l.length-(intOf i).toNat)
 case atStart=>exact⟨0,Mu _,Mu _,rfl,by exact jD rfl,Gr.refl _⟩
 case round =>
  obtain⟨k,hk,m',rfl,hi,G⟩:=hrel
  by_cases a':k<l.length
  ·obtain⟨b,o,rfl,c0,c1,c2,c3⟩:=HL.out k l[k] (Mq a');replace c0:=aa G.below c0;replace c1:=aa G.below c1;replace c2:=aa G.below c2;replace c3:=aa G.below c3;have z:=jD (Mq a');obtain⟨x,hx⟩:=jF (l[k]);rw[<-hx]at z c0 c1 c2 c3;clear hx;have q':(k:Int)<(l.length:Int):=by omega
   by_cases J:k<m.length
   ·obtain⟨Z,o2,rfl,d0,d1,d2,d3⟩:=HM.out k m[k] (Mq J);replace d0:=aa G.below d0;replace d1:=aa G.below d1;replace d2:=aa G.below d2;replace d3:=aa G.below d3;have h:=jD (Mq J);obtain⟨y,hy⟩:=jF (m[k]);rw[<-hy]at h d0 d1 d2 d3;clear hy;have i':Z<wr.heap.size:=Ms wr ⟨Z,_,none⟩ d0;have j':Z≠wr.heap.size:=by omega
    have h':wr.heap.size≠Z:=by omega
    have l':Z≠wr.heap.size+1:=by omega
    have k':wr.heap.size+1≠Z:=by omega
    have f':¬((m.length:Int)<=(k:Int)):=by omega
    have s':(k:Int)<(m.length:Int):=by omega
    obtain⟨r,HR⟩:=eh (rR x y);go_wp2_with fail;refine (GB x y _).mono ?_;rw[HR.out];rintro e w' ⟨rfl,hg⟩;have c':Gr w w':=G.trans (Gr.trans jC hg)
    by_cases O:r=0
    ·subst O;go_wp2_with fail
     go_roundw
     case rel =>
      refine⟨k+1,by omega,by omega,by go_num,?_,c'⟩;have:=hi.out;rw[lO z.out h.out,HR.out]at this;exact jD this
     case measure=>simp[intOf];omega
    ·have n':(r != 0)=true:=jQ O;have g':=jD O;clear O;go_wp2;go_ret;have:=hi.out;rw[lO z.out h.out,HR.out,orI,Mo g'.out]at this;rw[<-this];exact⟨rfl,c'⟩
   ·have f':(m.length:Int)<=(k:Int):=by omega
    go_wp2;go_ret;have:=hi.out;rw[wP z.out om]at this;rw[<-this];exact⟨rfl,G.trans jC⟩
  ·have he:=hi.out;rw[Bz om]at he;have HE:=jD he;clear he;have p':l.length=k:=by omega
   by_cases J:k<m.length
   ·have d':(l.length:Int)<(m.length:Int):=by omega
    go_wp2;go_ret;have:=HE.out;rw[Mp J]at this;rw[<-this];exact⟨rfl,G⟩
   ·have d':¬((l.length:Int)<(m.length:Int)):=by omega
    go_wp2;go_ret;have:=HE.out;rw[Mo J]at this;rw[<-this];exact⟨rfl,G⟩
theorem uz (l m:List Bnd) (v1 v2:Value) (w:World) (h:bD w v1 l) (hm:bD w v2 m) :
  Calls prog 25 #[rT v1,rT v2] w fun e w'=>e=.returned (Mk (bsC l m))/\Gr w w':=by
 unfold rT;have I:=jD h;have G:=jD hm;obtain⟨A,c,rfl,-,-,-⟩:=h;obtain⟨B,d,rfl,-,-,-⟩:=hm;go_enter func25,ntmps25;go_wp2_with (go_at_call 46;refine (oL l m _ _ _ (I.out.stays bL (Gr.below jC)) (G.out.stays bL (Gr.below jC))).mono ?_;rintro e J ⟨rfl,z⟩);go_ret;exact⟨rfl,jC⟩
theorem orI_c (a b:Int):orI a b=if a=0 then b else a:=rfl
theorem df {a b:Int} (h:a=b):Ending.returned (Mk a)=.returned (Mk b):=by rw[h]
theorem uaf {p:Prop} (h:p:=by
  rw[hr];clear hr;go_enter func53,ntmps53;go_wp2;go_ret;exact⟨rfl,jC⟩):p:=h
theorem iq (a b:Bnd) (w:World) :
  Calls prog 53 #[.agg #[Mk a.t,Mk a.s,Mk a.n],.agg #[Mk b.t,Mk b.s,Mk b.n]] w fun e w'=>e=.returned (Mk (cJ a b))/\Gr w w':=by
 obtain⟨v1,t1,s1,n1⟩:=a;obtain⟨v2,t2,s2,z⟩:=b;simp only[cJ];rcases Pj t1 t2 with h|h|h
 ·have I:(t1 != t2)=true:=by simp;omega
  have hr:orI (orI (bx t1 t2) (bx s1 s2)) (bx n1 z)=-1:=by simp[orI,bx,h]
  exact uaf
 ·subst h;rcases Pj s1 s2 with h|h|h
  ·have I:(s1 != s2)=true:=by simp;omega
   have hr:orI (orI (bx t1 t1) (bx s1 s2)) (bx n1 z)=-1:=by simp[orI,bx,h]
   exact uaf
  ·subst h;have hr:orI (orI (bx t1 t1) (bx s1 s1)) (bx n1 z)=bx n1 z:=by simp[orI,bx]
   rw[hr];clear hr;rcases Pj n1 z with h|h|h
   ·have hr:bx n1 z=-1:=by simp[bx,h]
    exact uaf
   ·subst h;have hr:bx n1 n1=0:=by simp[bx]
    exact uaf
   ·have hr:bx n1 z=1:=by unfold bx;rw[Mo om,Mp h]
    rw[hr];clear hr;have J:¬n1<z:=by omega
    go_enter func53,ntmps53;go_wp2;go_ret;exact⟨rfl,jC⟩
  ·have I:(s1 != s2)=true:=by simp;omega
   have hr:orI (orI (bx t1 t1) (bx s1 s2)) (bx n1 z)=1:=by
    have G:bx t1 t1=0:=by simp[bx]
    have O:bx s1 s2=1:=by unfold bx;rw[Mo om,Mp h]
    rw[G,O];rfl
   rw[hr];clear hr;have J:¬s1<s2:=by omega
   go_enter func53,ntmps53;go_wp2;go_ret;exact⟨rfl,jC⟩
 ·have I:(t1 != t2)=true:=by simp;omega
  have hr:orI (orI (bx t1 t2) (bx s1 s2)) (bx n1 z)=1:=by
   have G:bx t1 t2=1:=by unfold bx;rw[Mo om,Mp h]
   rw[G];rfl
  rw[hr];clear hr;have J:¬t1<t2:=by omega
  go_enter func53,ntmps53;go_wp2;go_ret;exact⟨rfl,jC⟩
theorem uae {p:Prop} (h:p:=by
  go_enter func28,ntmps28;go_wp2_with (go_at_call 53;refine (iq a b _).mono ?_;rw[G.out];rintro e I ⟨rfl,z⟩;obtain⟨J,hy,-⟩:=vQ z.below);go_ret;exact⟨rfl,jC⟩):p:=h
theorem DB (a b:Bnd) (w:World) :
  Calls prog 28 #[pM a,pM b] w fun e w'=>e=.returned (Mk (rR a b))/\Gr w w':=by
 unfold pM rR;obtain⟨r,hr⟩:=jE (cJ a b);have G:=jD hr;rw[hr,orI_c];clear hr
 by_cases h0:r=0
 ·subst h0;rw[Mp rfl];rcases Pj a.v b.v with h|h|h
  ·have hr:bx a.v b.v=-1:=by simp[bx,h]
   rw[hr];clear hr;exact uae
  ·have hr:bx a.v b.v=0:=by simp[bx,h]
   rw[hr];clear hr;exact uae
  ·have hr:bx a.v b.v=1:=by unfold bx;rw[Mo om,Mp h]
   rw[hr];clear hr;have Z:¬a.v<b.v:=by omega
   exact uae
 ·rw[Mo h0];have O:(r != 0)=true:=jQ h0;go_enter func28,ntmps28;go_wp2_with (go_at_call 53;refine (iq a b _).mono ?_;rw[G.out];rintro e I ⟨rfl,z⟩);go_ret;exact⟨rfl,jC⟩
theorem vU (l m:List Bnd) (v1 v2:Value) (w:World) (hl:bD w v1 l) (hm:bD w v2 m) :
  Calls prog 12 #[rT v1,rT v2] w fun e w'=>e=.returned (Mk (bsC l m))/\Gr w w':=by
 unfold rT;obtain⟨A,c,rfl,h1,h2,a'⟩:=hl;have hn:=ay h1 h2;have HL:=jD a';clear a' h1 h2;obtain⟨B,d,rfl,h1,h2,a'⟩:=hm;have z':=ay h1 h2;have HM:=jD a';clear a' h1 h2;go_enter func12,ntmps12;go_wp2_with fail;refine bg fun w0 e0=>?_
 have h:Gr w w0:=by rw[e0];exact jC
 have x0:Ml w0 w.heap.size 0 (.slice A l.length c):=jG e0;have y0:Ml w0 (w.heap.size+1) 0 (.slice B m.length d):=jG e0;have HX:=jD x0;have HY:=jD y0;clear e0 x0 y0
 go_loopw [5] (fun i wr=>∃k:Nat,k<=l.length/\k<=m.length/\i=Mk k/\Hid (bsC (l.drop k) (m.drop k)=bsC l m)/\Gr w0 wr) (fun i _=>l.length-(intOf i).toNat)
 case atStart=>exact⟨0,Mu _,Mu _,rfl,by exact jD rfl,Gr.refl _⟩
 case round =>
  obtain⟨k,hk,u',rfl,hi,J⟩:=hrel;have x0:=aa J.below HX.out;have y0:=aa J.below HY.out
  by_cases d':k<l.length
  ·have k':(k:Int)<(l.length:Int):=by omega
   by_cases Z:k<m.length
   ·obtain⟨b,o,rfl,c0,c1,c2,c3⟩:=HL.out k l[k] (Mq d');replace c0:=aa (h.trans J).below c0;replace c1:=aa (h.trans J).below c1;replace c2:=aa (h.trans J).below c2;replace c3:=aa (h.trans J).below c3;have O:=jD (Mq d');obtain⟨x,hx⟩:=jF (l[k]);rw[<-hx]at O c0 c1 c2 c3;clear hx;obtain⟨I,z,rfl,d0,d1,d2,d3⟩:=HM.out k m[k] (Mq Z);replace d0:=aa (h.trans J).below d0;replace d1:=aa (h.trans J).below d1;replace d2:=aa (h.trans J).below d2;replace d3:=aa (h.trans J).below d3;have G:=jD (Mq Z);obtain⟨y,hy⟩:=jF (m[k]);rw[<-hy]at G d0 d1 d2 d3;clear hy;have m':(k:Int)<(m.length:Int):=by omega
    obtain⟨r,HR⟩:=eh (rR x y);go_wp2_with fail;refine bg fun w2 e2=>?_
    have l':wr=w2:=e2.symm;subst l';clear e2;have p':Gr wr wr:=Gr.refl _
    have h':Hid ((fun W=>W.cell? ⟨w.heap.size,0,none⟩=some (.slice (some ⟨b,o,none⟩) l.length c)/\W.cell? ⟨w.heap.size+1,0,none⟩=some (.slice (some ⟨I,z,none⟩) m.length d)/\W.cell? ⟨b,o+k*4,none⟩=some (Mk x.v)/\W.cell? ⟨b,o+k*4+1,none⟩=some (Mk x.t)/\W.cell? ⟨b,o+k*4+2,none⟩=some (Mk x.s)/\W.cell? ⟨b,o+k*4+3,none⟩=some (Mk x.n)/\W.cell? ⟨I,z+k*4,none⟩=some (Mk y.v)/\W.cell? ⟨I,z+k*4+1,none⟩=some (Mk y.t)/\W.cell? ⟨I,z+k*4+2,none⟩=some (Mk y.s)/\W.cell? ⟨I,z+k*4+3,none⟩=some (Mk y.n)) wr):=jD (by (first|exact⟨‹_›,‹_›⟩|(go_simp;done)|(simp[*];done)));have n':Hid (Grows (fun W=>W.cell? ⟨w.heap.size,0,none⟩=some (.slice (some ⟨b,o,none⟩) l.length c)/\W.cell? ⟨w.heap.size+1,0,none⟩=some (.slice (some ⟨I,z,none⟩) m.length d)/\W.cell? ⟨b,o+k*4,none⟩=some (Mk x.v)/\W.cell? ⟨b,o+k*4+1,none⟩=some (Mk x.t)/\W.cell? ⟨b,o+k*4+2,none⟩=some (Mk x.s)/\W.cell? ⟨b,o+k*4+3,none⟩=some (Mk x.n)/\W.cell? ⟨I,z+k*4,none⟩=some (Mk y.v)/\W.cell? ⟨I,z+k*4+1,none⟩=some (Mk y.t)/\W.cell? ⟨I,z+k*4+2,none⟩=some (Mk y.s)/\W.cell? ⟨I,z+k*4+3,none⟩=some (Mk y.n))):=(by repeat (first|exact aX _ _ _|exact aW|refine bw ?_ ?_));have q':=h'.out;go_region_held3 (fun W=>W.cell? ⟨w.heap.size,0,none⟩=some (.slice (some ⟨b,o,none⟩) l.length c)/\W.cell? ⟨w.heap.size+1,0,none⟩=some (.slice (some ⟨I,z,none⟩) m.length d)/\W.cell? ⟨b,o+k*4,none⟩=some (Mk x.v)/\W.cell? ⟨b,o+k*4+1,none⟩=some (Mk x.t)/\W.cell? ⟨b,o+k*4+2,none⟩=some (Mk x.s)/\W.cell? ⟨b,o+k*4+3,none⟩=some (Mk x.n)/\W.cell? ⟨I,z+k*4,none⟩=some (Mk y.v)/\W.cell? ⟨I,z+k*4+1,none⟩=some (Mk y.t)/\W.cell? ⟨I,z+k*4+2,none⟩=some (Mk y.s)/\W.cell? ⟨I,z+k*4+3,none⟩=some (Mk y.n)) (with_reducible exact n'.out.to (Gr.below (by repeat (first|with_reducible exact Gr.refl _|assumption|with_reducible refine Gr.drew ?_|with_reducible refine Gr.alloc ?_ _|with_reducible refine Gr.trans ?_ (by assumption)))) h'.out) (first|(go_at_call 28;refine (DB x y _).mono ?_;rw[HR.out];rintro e w3 ⟨rfl,x'⟩))
    have f':Gr w0 w3:=J.trans jC;clear p'
    by_cases c':r=0
    ·subst c';go_wp2_with fail
     go_roundw
     case rel =>
      refine⟨k+1,by omega,by omega,by go_num,?_,f'⟩;have:=hi.out;rw[lO O.out G.out,HR.out]at this;exact jD this
     case measure=>simp[intOf];omega
    ·have s':(r != 0)=true:=jQ c';have j':=jD c';clear c';go_wp2;go_ret;have:=hi.out;rw[lO O.out G.out,HR.out,orI,Mo j'.out]at this;rw[<-this];exact⟨rfl,h.trans f'⟩
   ·have t':¬((k:Int)<(m.length:Int)):=by omega
    have m':¬((l.length:Int)<(m.length:Int)):=by omega
    have y':(m.length:Int)<(l.length:Int):=by omega
    go_wp2;go_ret;have:=hi.out;rw[wP (Mq d') om]at this;rw[<-this];exact⟨rfl,h.trans J⟩
  ·have he:=hi.out;rw[Bz om]at he;have HE:=jD he;clear he;have i':l.length=k:=by omega
   have k':¬((k:Int)<(l.length:Int)):=by omega
   have HK:=jD i';clear i'
   by_cases Z:k<m.length
   ·have g':(l.length:Int)<(m.length:Int):=by have:=HK.out;omega
    go_wp2;go_ret;have:=HE.out;rw[Mp Z]at this;rw[<-this];exact⟨rfl,h.trans J⟩
   ·have g':¬((l.length:Int)<(m.length:Int)):=by have:=HK.out;omega
    have r':¬((m.length:Int)<(l.length:Int)):=by have:=HK.out;omega
    go_wp2;go_ret;have:=HE.out;rw[Mo Z]at this;rw[<-this];exact⟨rfl,h.trans J⟩
section
def em {α:Type} (f:Option α->α->Int):Option α->List α->Int
 | _,[]=>0
 | p,x::l=>if f p x=0 then em f (some x) l else f p x
def jk {α:Type} (l:List α):Nat->Option α
 | 0=>none
 | k+1=>l[k]?
theorem sh {α:Type} {l:List α} {k:Nat} {x:α} (h0:k≠0) (h:l[k-1]?=some x):jk l k=some x:=by
 cases k with
 | zero=>omega
 | succ k=>exact h
section
variable {α : Type} {f : Option α -> α -> Int} {l : List α} {k : Nat} {x : α} {E e : Int}
theorem mZ (G:l[k]?=some x) (h:em f (jk l k) (l.drop k)=E) (he:f (jk l k) x=e) (h0:e≠0):e=E:=by
 obtain⟨z,rfl⟩:=List.getElem?_eq_some_iff.1 G;rw[Nd z,em,Mo (by rw[he];exact h0),he]at h;exact h
theorem uS (G:l[k]?=some x) (h:em f (jk l k) (l.drop k)=E) (he:f (jk l k) x=0):em f (jk l (k+1)) (l.drop (k+1))=E:=by
 have z:=G;obtain⟨I,rfl⟩:=List.getElem?_eq_some_iff.1 G;rw[Nd I,em,Mp he]at h;rw[jk,z];exact h
theorem xy (hk:l.length<=k) (h:em f (jk l k) (l.drop k)=E):0=E:=by
 rw[Pn hk,em]at h;exact h
end
def behind (p:Option Bnd) (b:Bnd):Bool:=match p with|none=>true|some a=>decide (cJ a b<0)
end
section
section
def K8 (e sz n:Nat) (cs:List Value) (w:World) (x:Ending) (w':World):Prop:=∃v',x=.returned v'/\w'.ownsRow w.heap.size e sz v' n cs/\Mm w w'
theorem Gk:(prog.info? 57).map (fun i=>(i.zero,i.size,i.bytes))=some (some (.agg #[Mk 0,Mk 0,Mk 0,Mk 0]),4,32):=kr
theorem yr:(prog.info? 49).map (fun i=>(i.zero,i.size,i.bytes))=some (some (.agg #[.slice none 0 0]),1,24):=kr
end
section
theorem jJ (g:Nat):∀(Z:List Value) (o:Nat) (w:World),w.grownBy (w.setCells g o Z) (some g)
 | [],_,w=>World.grownBy.refl w _
 | z::Z,o,w=>by
  have G:w.grownBy (w.setCell ⟨g,o,none⟩ z) (some g):=⟨rfl,rfl,rfl,by simp,fun k hk h=>Nj w _ z k (by intro e;exact h (by rw[e]))⟩;have I:=jJ g Z (o+1) (w.setCell ⟨g,o,none⟩ z);exact⟨I.os.trans G.os,I.tape.trans G.tape,I.output.trans G.output,Mx G.size I.size,fun k hk h=>(I.block k (ME hk G.size) h).trans (G.block k hk h)⟩
theorem cV {a b c:World} {r:Option Nat} (h:a.grownBy b r) (k:b.grownBy c r):a.grownBy c r :=
 ⟨k.os.trans h.os,k.tape.trans h.tape,k.output.trans h.output,Mx h.size k.size,fun i G z=>(k.block i (ME G h.size) z).trans (h.block i G z)⟩
theorem aC {a b:World} (h:Mm a b) (r:Option Nat):a.grownBy b r:=⟨h.os,h.tape,h.output,h.size,fun i z _=>h.block i z⟩
theorem CT (w:World) (g o:Nat) (v:Value):w.grownBy (w.setCell ⟨g,o,none⟩ v) (some g):=jJ g [v] o w
end
section
end
section
def Tab (w:World):Prop:=Lib.TabIs prog w "internal/strconv.uint64pow10" .u64 Lib.pow10Tab
theorem Tab.stays {w w':World} (h:Tab w) (z:Mm w w'):Tab w':=Lib.tabBelow_of_tabIs h w' z
end
section
theorem Cd {W:World} {base e sz n:Nat} {v:Value} {xs:List Value} (h:W.ownsRow base e sz v n xs) :
  (v=.slice none 0 0/\n=0)\/∃g cap spare,v=.slice (some ⟨g,0,none⟩) n cap/\base<=g/\W.heap[g]?=some (.cells (xs++spare).toArray e (0,0))/\n<=cap/\cap<=maxLen/\(xs++spare).length=cap*sz/\xs.length=n*sz:=by
 rcases h.2 with h0|⟨g,cap,cur,hv,hg,hh,hnc,hcm,hcs,htake⟩
 ·exact .inl h0
 ·have z:cur.toList=xs++cur.toList.drop (n*sz):=by rw[<-htake,OB]
  refine .inr ⟨g,cap,cur.toList.drop (n*sz),hv,hg,by rw[<-z];exact hh,hnc,hcm,by rw[<-z];simpa using hcs,h.1⟩
end
section
open Go.RowKit Go.Shelf
abbrev MV:=List Bnd × Value
theorem CF {l:List MV} {k:Nat} {e:MV} (h:l[k]?=some e) (r:List Value):(l.map (·.2)++r)[k]?=some e.2:=by
 rw[MQ (by rw[MB];exact (List.getElem?_eq_some_iff.1 h).1),MA,h];rfl
end
section
open Go.RowKit Go.Shelf
end
section
open Go.ChangeShapes Go.WideShapes Go.ChangeAt Go.RowKit Go.Deep
theorem jx {α:Type} (G:Nat->α->Prop):∀(n:Nat),(∀i,i<n->∃x,G i x)->∃l:List α,l.length=n/\∀(k:Nat) (x:α),l[k]?=some x->G k x
 | 0,_=>⟨[],rfl,fun k x h=>by simp at h⟩
 | n+1,h=>by
  obtain⟨l,J,hp⟩:=jx G n (fun i hi=>h i om);obtain⟨x,Z⟩:=h n om;refine⟨l++[x],by simp[J],fun k y hk=>?_⟩;rcases Ny k l.length with z|z
  ·rw[MQ z]at hk;exact hp k y hk
  ·rw[M7 z]at hk;obtain⟨O,I⟩:=List.getElem?_eq_some_iff.1 hk;simp only[MH]at O;obtain rfl:k=n:=by omega
   simp at I;subst I;exact Z
section
variable {H : Type} {enc : TypeId × Value -> H} {P : Program} {w : World} {base : Nat} {spare : Nat -> Bool} {held : Bool}
end
section
variable {H : Type} {enc : TypeId × Value -> H} {w : World} {base : Nat} {spare : Nat -> Bool} {held : Bool}
end
end
end
theorem mQ (s q y t:Int) (A:Option Addr) (n c:Nat) (w:World):Calls prog 52 #[.agg #[Mk s,Mk q,Mk y,Mk t,.slice A n c]] w fun e w'=>e=.returned (.agg #[Mk t,Mk s,Mk q])/\Gr w w':=by
 go_enter func52,ntmps52;go_wp2
 go_returns
 exact⟨rfl,jC⟩
theorem xW (s q y t:Int) (A:Option Addr) (n c:Nat) (w:World):Calls prog 17 #[.agg #[Mk s,Mk q,Mk y,Mk t,.slice A n c]] w fun e w'=>e=.returned (.agg #[Mk t,Mk s,Mk q])/\Gr w w':=by
 go_enter func17,ntmps17;go_wp2
 go_returns
 exact⟨rfl,jC⟩
theorem mn (s q y t:Int) (A:Option Addr) (n c:Nat) (w:World):Calls prog 64 #[.agg #[Mk s,Mk q,Mk y,Mk t,.slice A n c]] w fun e w'=>e=.returned (.agg #[Mk s,Mk q])/\Gr w w':=by
 go_enter func64,ntmps64;go_wp2
 go_returns
 exact⟨rfl,jC⟩
def sj (a b:Bnd):Bool:=a.t==b.t&&(a.s==b.s&&a.n==b.n)
theorem iL {a b:Bnd}:cJ a b=0↔a.t=b.t/\a.s=b.s/\a.n=b.n:=by
 unfold cJ;rw[gL,gL,gU,gU,gU,and_assoc]
theorem tJ {a b:Bnd}:sj a b=decide (cJ a b=0):=by
 rw[Nt,MK,iL];simp[sj]
theorem BV (a b:Bnd) (W:World):(binOp .eql 55 (vA a) (vA b)).run prog W=.ok (.bool (sj a b)) W:=by
 have J:=underlying3;have a3:=Tryz.isAgg3;have z3:=Tryz.sizeOf3;have z:prog.underlying 55=some (.struct (prog.fieldsOf 55)):=kr;have hp:prog.stoodInHeld 55=false:=kr;unfold vA;rw[run_eql_struct,show (10000:Nat)=9999+1 from rfl,run_equalIn_agg W 9999 55 _ _ z hp];simp only[Program.fieldsOf,underlying55]
 go_simp
 by_cases G:a.t=b.t<;>by_cases h:a.s=b.s<;>by_cases I:a.n=b.n<;>simp[sj,G,h,I]
theorem Dj (a b:Evt) (A B:Option Addr) (n c m d:Nat) (w:World) :
  Calls prog 63 #[cP a (.slice A n c),cP b (.slice B m d)] w fun e w'=>e=.returned (Mk (cJ (cF a) (cF b)))/\Gr w w':=by
 obtain⟨r,hr⟩:=jE (sj (cF a) (cF b));have he:∀W,(binOp .eql 55 (vA (cF a)) (vA (cF b))).run prog W=.ok (.bool r) W:=fun W=>by rw[BV,hr]
 unfold vA cF at he;rw[tJ]at hr
 cases r
 ·clear hr;unfold cJ cF;unfold cP;go_enter func63,ntmps63;go_wp2_with fail
  refine bg fun O I=>?_;have h:Hid ((fun w'=>w'.cell? ⟨w.heap.size,0,none⟩=some (Mk a.src)/\w'.cell? ⟨w.heap.size,1,none⟩=some (Mk a.sq)/\w'.cell? ⟨w.heap.size,2,none⟩=some (Mk a.ty)/\w'.cell? ⟨w.heap.size,3,none⟩=some (Mk a.tm)/\w'.cell? ⟨w.heap.size,4,none⟩=some (.slice A n c)/\w'.cell? ⟨w.heap.size+1,0,none⟩=some (Mk b.src)/\w'.cell? ⟨w.heap.size+1,1,none⟩=some (Mk b.sq)/\w'.cell? ⟨w.heap.size+1,2,none⟩=some (Mk b.ty)/\w'.cell? ⟨w.heap.size+1,3,none⟩=some (Mk b.tm)/\w'.cell? ⟨w.heap.size+1,4,none⟩=some (.slice B m d)) O):=jD (by subst I;(first|exact⟨‹_›,‹_›⟩|(go_simp;done)|(simp[*];done)));have z:Hid (Grows (fun w'=>w'.cell? ⟨w.heap.size,0,none⟩=some (Mk a.src)/\w'.cell? ⟨w.heap.size,1,none⟩=some (Mk a.sq)/\w'.cell? ⟨w.heap.size,2,none⟩=some (Mk a.ty)/\w'.cell? ⟨w.heap.size,3,none⟩=some (Mk a.tm)/\w'.cell? ⟨w.heap.size,4,none⟩=some (.slice A n c)/\w'.cell? ⟨w.heap.size+1,0,none⟩=some (Mk b.src)/\w'.cell? ⟨w.heap.size+1,1,none⟩=some (Mk b.sq)/\w'.cell? ⟨w.heap.size+1,2,none⟩=some (Mk b.ty)/\w'.cell? ⟨w.heap.size+1,3,none⟩=some (Mk b.tm)/\w'.cell? ⟨w.heap.size+1,4,none⟩=some (.slice B m d))):=(by repeat (first|exact aX _ _ _|exact aW|refine bw ?_ ?_));have J:Gr w O:=(by subst I;exact jC);clear I;have G:=h.out;go_region_held3 (fun w'=>w'.cell? ⟨w.heap.size,0,none⟩=some (Mk a.src)/\w'.cell? ⟨w.heap.size,1,none⟩=some (Mk a.sq)/\w'.cell? ⟨w.heap.size,2,none⟩=some (Mk a.ty)/\w'.cell? ⟨w.heap.size,3,none⟩=some (Mk a.tm)/\w'.cell? ⟨w.heap.size,4,none⟩=some (.slice A n c)/\w'.cell? ⟨w.heap.size+1,0,none⟩=some (Mk b.src)/\w'.cell? ⟨w.heap.size+1,1,none⟩=some (Mk b.sq)/\w'.cell? ⟨w.heap.size+1,2,none⟩=some (Mk b.ty)/\w'.cell? ⟨w.heap.size+1,3,none⟩=some (Mk b.tm)/\w'.cell? ⟨w.heap.size+1,4,none⟩=some (.slice B m d)) (with_reducible exact z.out.to (Gr.below (by repeat (first|with_reducible exact Gr.refl _|assumption|with_reducible refine Gr.drew ?_|with_reducible refine Gr.alloc ?_ _|with_reducible refine Gr.trans ?_ (by assumption)))) h.out) ((go_at_call 52;refine (mQ _ _ _ _ _ _ _ _).mono ?_;rintro e Z ⟨rfl,a'⟩))
  all_goals
   rename_i hK
   clear he;go_wp2_with fail;have c':Gr w Z:=jC;clear h z G J;obtain⟨f0,f1,f2,f3,f4,f5,f6,f7,f8,f9⟩:=hK;have d':=Gr.refl Z
   have h:Hid ((fun w'=>w'.cell? ⟨w.heap.size,0,none⟩=some (Mk a.src)/\w'.cell? ⟨w.heap.size,1,none⟩=some (Mk a.sq)/\w'.cell? ⟨w.heap.size,2,none⟩=some (Mk a.ty)/\w'.cell? ⟨w.heap.size,3,none⟩=some (Mk a.tm)/\w'.cell? ⟨w.heap.size,4,none⟩=some (.slice A n c)/\w'.cell? ⟨w.heap.size+1,0,none⟩=some (Mk b.src)/\w'.cell? ⟨w.heap.size+1,1,none⟩=some (Mk b.sq)/\w'.cell? ⟨w.heap.size+1,2,none⟩=some (Mk b.ty)/\w'.cell? ⟨w.heap.size+1,3,none⟩=some (Mk b.tm)/\w'.cell? ⟨w.heap.size+1,4,none⟩=some (.slice B m d)) Z):=jD (by (first|exact⟨‹_›,‹_›⟩|(go_simp;done)|(simp[*];done)));have z:Hid (Grows (fun w'=>w'.cell? ⟨w.heap.size,0,none⟩=some (Mk a.src)/\w'.cell? ⟨w.heap.size,1,none⟩=some (Mk a.sq)/\w'.cell? ⟨w.heap.size,2,none⟩=some (Mk a.ty)/\w'.cell? ⟨w.heap.size,3,none⟩=some (Mk a.tm)/\w'.cell? ⟨w.heap.size,4,none⟩=some (.slice A n c)/\w'.cell? ⟨w.heap.size+1,0,none⟩=some (Mk b.src)/\w'.cell? ⟨w.heap.size+1,1,none⟩=some (Mk b.sq)/\w'.cell? ⟨w.heap.size+1,2,none⟩=some (Mk b.ty)/\w'.cell? ⟨w.heap.size+1,3,none⟩=some (Mk b.tm)/\w'.cell? ⟨w.heap.size+1,4,none⟩=some (.slice B m d))):=(by repeat (first|exact aX _ _ _|exact aW|refine bw ?_ ?_));have G:=h.out;go_region_held3 (fun w'=>w'.cell? ⟨w.heap.size,0,none⟩=some (Mk a.src)/\w'.cell? ⟨w.heap.size,1,none⟩=some (Mk a.sq)/\w'.cell? ⟨w.heap.size,2,none⟩=some (Mk a.ty)/\w'.cell? ⟨w.heap.size,3,none⟩=some (Mk a.tm)/\w'.cell? ⟨w.heap.size,4,none⟩=some (.slice A n c)/\w'.cell? ⟨w.heap.size+1,0,none⟩=some (Mk b.src)/\w'.cell? ⟨w.heap.size+1,1,none⟩=some (Mk b.sq)/\w'.cell? ⟨w.heap.size+1,2,none⟩=some (Mk b.ty)/\w'.cell? ⟨w.heap.size+1,3,none⟩=some (Mk b.tm)/\w'.cell? ⟨w.heap.size+1,4,none⟩=some (.slice B m d)) (with_reducible exact z.out.to (Gr.below (by repeat (first|with_reducible exact Gr.refl _|assumption|with_reducible refine Gr.drew ?_|with_reducible refine Gr.alloc ?_ _|with_reducible refine Gr.trans ?_ (by assumption)))) h.out) (first|(go_at_call 50;refine (fL _ _ _).mono ?_;rintro e w' ⟨rfl,rfl⟩)|(go_at_call 48;refine (yq _ (bx a.tm b.tm) (bx a.src b.src) (bx a.sq b.sq) _ ?_ ?_ ?_).mono ?_;(go_simp);(go_simp);(go_simp);rintro e w' ⟨rfl,rfl⟩))
   all_goals
    go_wp2;go_ret;exact⟨rfl,c'.trans jC⟩
 ·have h0:cJ (cF a) (cF b)=0:=jQ hr;rw[h0];clear hr h0;unfold cP;go_enter func63,ntmps63;go_wp2_with fail
  refine bg fun O I=>?_;have h:Hid ((fun w'=>w'.cell? ⟨w.heap.size,0,none⟩=some (Mk a.src)/\w'.cell? ⟨w.heap.size,1,none⟩=some (Mk a.sq)/\w'.cell? ⟨w.heap.size,2,none⟩=some (Mk a.ty)/\w'.cell? ⟨w.heap.size,3,none⟩=some (Mk a.tm)/\w'.cell? ⟨w.heap.size,4,none⟩=some (.slice A n c)/\w'.cell? ⟨w.heap.size+1,0,none⟩=some (Mk b.src)/\w'.cell? ⟨w.heap.size+1,1,none⟩=some (Mk b.sq)/\w'.cell? ⟨w.heap.size+1,2,none⟩=some (Mk b.ty)/\w'.cell? ⟨w.heap.size+1,3,none⟩=some (Mk b.tm)/\w'.cell? ⟨w.heap.size+1,4,none⟩=some (.slice B m d)) O):=jD (by subst I;(first|exact⟨‹_›,‹_›⟩|(go_simp;done)|(simp[*];done)));have z:Hid (Grows (fun w'=>w'.cell? ⟨w.heap.size,0,none⟩=some (Mk a.src)/\w'.cell? ⟨w.heap.size,1,none⟩=some (Mk a.sq)/\w'.cell? ⟨w.heap.size,2,none⟩=some (Mk a.ty)/\w'.cell? ⟨w.heap.size,3,none⟩=some (Mk a.tm)/\w'.cell? ⟨w.heap.size,4,none⟩=some (.slice A n c)/\w'.cell? ⟨w.heap.size+1,0,none⟩=some (Mk b.src)/\w'.cell? ⟨w.heap.size+1,1,none⟩=some (Mk b.sq)/\w'.cell? ⟨w.heap.size+1,2,none⟩=some (Mk b.ty)/\w'.cell? ⟨w.heap.size+1,3,none⟩=some (Mk b.tm)/\w'.cell? ⟨w.heap.size+1,4,none⟩=some (.slice B m d))):=(by repeat (first|exact aX _ _ _|exact aW|refine bw ?_ ?_));have J:Gr w O:=(by subst I;exact jC);clear I;have G:=h.out;go_region_held3 (fun w'=>w'.cell? ⟨w.heap.size,0,none⟩=some (Mk a.src)/\w'.cell? ⟨w.heap.size,1,none⟩=some (Mk a.sq)/\w'.cell? ⟨w.heap.size,2,none⟩=some (Mk a.ty)/\w'.cell? ⟨w.heap.size,3,none⟩=some (Mk a.tm)/\w'.cell? ⟨w.heap.size,4,none⟩=some (.slice A n c)/\w'.cell? ⟨w.heap.size+1,0,none⟩=some (Mk b.src)/\w'.cell? ⟨w.heap.size+1,1,none⟩=some (Mk b.sq)/\w'.cell? ⟨w.heap.size+1,2,none⟩=some (Mk b.ty)/\w'.cell? ⟨w.heap.size+1,3,none⟩=some (Mk b.tm)/\w'.cell? ⟨w.heap.size+1,4,none⟩=some (.slice B m d)) (with_reducible exact z.out.to (Gr.below (by repeat (first|with_reducible exact Gr.refl _|assumption|with_reducible refine Gr.drew ?_|with_reducible refine Gr.alloc ?_ _|with_reducible refine Gr.trans ?_ (by assumption)))) h.out) ((go_at_call 52;refine (mQ _ _ _ _ _ _ _ _).mono ?_;rintro e Z ⟨rfl,a'⟩))
  all_goals
   clear he;go_wp2;go_ret;exact⟨rfl,jC⟩
theorem uaj {p:Prop} (h:p:=by
  go_enter func62,ntmps62;go_wp2;go_ret;exact⟨by simp[*]<;>omega,jC⟩):p:=h
theorem tZ (x:Evt) (A:Option Addr) (n c:Nat) (w:World) (u:Value) (hu:u=.slice A n c):Calls prog 62 #[cP x u] w fun e w'=>e=.returned (.bool (bN x))/\Gr w w':=by
 subst hu;unfold cP bN;obtain⟨s,q,y,t,vs⟩:=x;simp only
 by_cases G:0<=t
 ·by_cases h:t<=1099511627776
  ·by_cases J:0<=s
   ·by_cases z:s<8
    ·by_cases I:0<=q
     ·by_cases O:q<=1099511627776 <;>
      ·go_enter func62,ntmps62;go_wp2;go_ret;exact⟨by simp[*],jC⟩
     ·exact uaj
    ·exact uaj
   ·exact uaj
  ·exact uaj
 ·exact uaj
theorem uai {p:Prop} (h:p:=by
  go_enter func141,ntmps141;go_wp2;go_ret;exact⟨by simp[*]<;>omega,jC⟩):p:=h
theorem uw (x:Evt) (A:Option Addr) (n c:Nat) (w:World) (u:Value) (hu:u=.slice A n c):Calls prog 141 #[cP x u] w fun e w'=>e=.returned (.bool (bN x))/\Gr w w':=by
 subst hu;unfold cP bN;obtain⟨s,q,y,t,vs⟩:=x;simp only
 by_cases G:0<=t
 ·by_cases h:t<=1099511627776
  ·by_cases J:0<=s
   ·by_cases z:s<8
    ·by_cases I:0<=q
     ·by_cases O:q<=1099511627776 <;>
      ·go_enter func141,ntmps141;go_wp2;go_ret;exact⟨by simp[*],jC⟩
     ·exact uai
    ·exact uai
   ·exact uai
  ·exact uai
 ·exact uai
section
open Go.RowKit Go.Lib
theorem aS {β:Type} {J:β->World->Prop} {B:Nat} (G:AbidesFrom B J) {s:β} {W W':World} (h:J s W) (z:Mm W W'):J s W' :=
 G s W W' none h ⟨z.os,z.tape,z.output,z.size,fun k hk _=>z.block k hk⟩ (fun r e=>by cases e)
theorem bK {α:Type} {l:List α} {k:Nat} {x:α} (h:l[k]?=some x):l.take (k+1)=l.take k++[x]:=by
 rw[List.take_add_one,h];rfl
theorem jh {k m:Nat} (h:k<m):m-(((k+1:Nat):Int)).toNat<m-((k:Int)).toNat:=by omega
theorem dx {n:Nat} {P:Program} {o:Oper} {a:Act} {K:Act->World->Prop} {Q:Exit->Act->World->Prop} {l:Nat} {args:Array Value} {W:World} {X Y:World->Prop}
  (hy:YieldAt Fence.wide (n-1) P l args W (fun e W'=>(e=.returned (.bool true)/\X W')\/(e=.returned (.bool false)/\Y W')))
  (G:∀W',X W'->K (a.put o.dst (.bool true)) W') (z:∀W',Y W'->K (a.put o.dst (.bool false)) W'):Oper.uponIn Fence.wide n P o a K Q ((Instr.yield l args).run P W):=by
 obtain⟨fn,tmps,assign,body,hy,I⟩:=hy;rw[hy];refine⟨fun h=>by simp[Fence.wide]at h,I.mono ?_⟩;rintro e W' (⟨rfl,h⟩|⟨rfl,h⟩)
 ·exact G W' h
 ·exact z W' h
theorem cg {F:Fence} {m:Nat} {P:Program} {l:Nat} {args:Array Value} {W:World} {R z:Ending->World->Prop} (h:YieldAt F m P l args W R) (hr:∀e w',R e w'->z e w'):YieldAt F m P l args W z:=by
 obtain⟨fn,tmps,assign,body,hy,G⟩:=h;exact⟨fn,tmps,assign,body,hy,G.mono hr⟩
def SeqC {β:Type} (g:Nat) (lb:Array Value) (L:List β) (In:β->Array Value->World->Prop) (G:World->World->Prop) (w:World):Prop :=
 ∀(l:Nat) (J z:Nat->World->Prop) (W:World),Mm w W->AbidesFrom W.heap.size J->AbidesFrom W.heap.size z ->
  (∀(m k:Nat) (x:β) (a:Array Value) (h:World),L[k]?=some x->J k h->In x a h->YieldAt Fence.wide m prog l a h fun e W' =>
   (e=.returned (.bool true)/\J (k+1) W'/\G h W')\/(e=.returned (.bool false)/\z (k+1) W')) ->
  J 0 W->Calls prog g (#[.func (.yield l) #[] #[]]++lb) W fun e W'=>(∃v,e=.returned v)/\(J L.length W'\/∃k,k<L.length/\z (k+1) W')
def Kx (B:Nat) (z:World->World->Prop) (I:Nat->World->Prop) (h:Code->Nat->World->Prop) (k:Nat) (W:World):Exit->Act->World->Prop
 | .normal,_,W'=>KeepsFrom B W W'/\z W W'/\I k W'
 | .ret,_,W'=>KeepsFrom B W W'/\h .ret k W'
 | .exit id,_,W'=>KeepsFrom B W W'/\h (.exit id) k W'
 | .goto t,_,W'=>KeepsFrom B W W'/\h (.goto t) k W'
 | .panic _,_,_=>False
 | .outgrown,_,_=>False
theorem pU {β:Type} {n:Nat} {g:Operand} {ps:Array Tmp} {assign body:Code} {Q:Exit->Act->World->Prop} {a:Act} {w:World}
  {gf:Nat} {lb:Array Value} (hg:a.eval g=.func (.func gf) #[] lb) (eg:∀args w,(callFunc gf args).run prog w=.ok (.enter gf args) w)
  {L:List β} {In:β->Array Value->World->Prop} {Kp:World->World->Prop} {w0:World} (E':SeqC gf lb L In Kp w0)
  (t':∀{A B C:World},Kp A B->Kp B C->Kp A C) (s':∀(W:World) (l:Nat) (o o':Obj),w.heap.size<=l->W.heap[l]?=some o->o.isCells=false->o.isWalk=false->Kp W (W.putObj l o'))
  (y':Mm w0 w) (hIn:∀x v,OwnFrom w.heap.size (fun (_:Unit) W=>In x v W)) (N':∀x v W,In x v W->v.size=ps.size)
  (I:Nat->World->Prop) (Ix:Code->Nat->World->Prop) (hI:OwnFrom w.heap.size I) (i':∀c,OwnFrom w.heap.size (Ix c)) (h0:I 0 w)
  (Ax:β->Array Value->Act->World->Prop) (F':∀x v a',OwnFrom w.heap.size (fun (_:Unit) W=>Ax x v a' W))
  (O:∀(m l k:Nat) (x:β) (v:Array Value) (W:World) (K:Act->World->Prop),w.heap.size<=l->L[k]?=some x->I k W->In x v W ->
   (∀a' W',KeepsFrom w.heap.size W W'->Kp W W'->I k W'->In x v W'->Ax x v a' W'->K a' W') ->
   assign.wpIn (Fence.wide.inRound l) m prog (Exit.then K (fun _ _ _=>False)) { tmps:=(ps.zip v).foldl (fun t (p,u)=>t.setIfInBounds p u) a.tmps,defers:=[] } W)
  (k':∀(m l k:Nat) (x:β) (v:Array Value) (a':Act) (W:World),w.heap.size<=l->(∃r,W.heap[l]?=some (.loop r))->L[k]?=some x->I k W->In x v W->Ax x v a' W ->
   body.wpIn (Fence.wide.inRound l) m prog (Kx w.heap.size Kp I Ix (k+1) W) a' W)
  (l':∀(D:Nat) (W:World),w.heap.size<=D->I L.length W->W.heap[D]?=some (.deferred (some []))->Q .normal { a with defers:={ target:=.collected D,args:=#[] }::a.defers } W)
  (m':∀(D:Nat) (c:Code) (k:Nat) (W:World),w.heap.size<=D->k<L.length->Ix c (k+1) W->W.heap[D]?=some (.deferred (some []))->c.wpIn Fence.wide n prog Q { a with defers:={ target:=.collected D,args:=#[] }::a.defers } W) :
  (Code.rangeFunc g ps assign body).wpIn Fence.wide n prog Q a w:=by
 refine wpIn_rangeFunc fun fn R'=>?_
 obtain⟨rec,z⟩:∃rec:LoopState->Option Code->Loop,rec=fun st pe=>{ state:=st,pending:=pe,fn,tmps:=a.tmps,params:=ps,assign,body,defers:=w.heap.size }:=⟨_,rfl⟩
 obtain⟨S,hS⟩:=jF w.heap.size;obtain⟨W1,d'⟩:=jF ((w.alloc (.deferred (some []))).alloc (.loop (rec .ready none)));have J':W1.heap[S+1]?=some (.loop (rec .ready none)):=by
  have:=World.alloc_heap_new (w.alloc (.deferred (some []))) (.loop (rec .ready none));rw[Oo,<-hS]at this;rw[d'];exact this
 have O':W1.heap[S]?=some (.deferred (some [])):=by
  rw[d',hS];exact (Nz _ _ _ jS).trans (World.alloc_heap_new w _)
 have V':S<=W1.heap.size:=by rw[d',hS];simp;omega
 have H':I 0 W1:=by rw[d'];exact hI.alloc _ (hI.alloc _ h0)
 have T':Mm w0 W1:=by
  rw[d'];exact y'.trans ((((Mr _ w).alloc (Mt _) _).alloc jS _).mono y'.size)
 have B':(Instr.enterLoop fn a.tmps ps assign body Fence.wide.round).run prog w=.ok (S+1,[{ target:=.collected S,args:=#[] }]) W1:=by
  rw[d',z,hS];exact run_enterLoop_outer _ _ _ _ _
 rw[<-hS]at hI i' hIn F' k' O l' m' s';clear d';refine⟨S+1,[{ target:=.collected S,args:=#[] }],W1,{ target:=.fn (.func gf) lb,args:=#[.func (.yield (S+1)) #[] #[]] },W1,gf,
  #[.func (.yield (S+1)) #[] #[]]++lb,W1,B',?_,fun f' U'=>trivial,?_,fun h=>by simp[Fence.wide]at h,callsIn_wide.2 ?_⟩
 ·simp only[resolve,hg];simp[go_sem]
 ·simp[invoke,go_sem,eg]
 have r':∀{A B:World} {row:Option Nat},(∀r,row=some r->W1.heap.size<=r/\∃o:Obj,A.heap[r]?=some o/\o.isWalk=true)->(∀r,row=some r->S<=r/\∃o:Obj,A.heap[r]?=some o/\o.isCells=false) :=
  fun hr r e=>by obtain⟨hB,o,ho,hw⟩:=hr r e;exact⟨by omega,o,ho,Obj.not_cells_of_walk hw⟩
 refine (E' (S+1) (fun k W=>I k W/\W.heap[S+1]?=some (.loop (rec .ready none))/\W.heap[S]?=some (.deferred (some [])))
  (fun k W=>∃c,Ix c k W/\W.heap[S+1]?=some (.loop (rec .done (some c)))/\W.heap[S]?=some (.deferred (some []))) W1 T'
  (fun s A B row hs c' hr=>⟨hI s A B row hs.1 c' (r' (B:=B) hr),(grownBy_keeps c' (fun r e=>(hr r e).2) hs.2.1 rfl).trans hs.2.1,(grownBy_keeps c' (fun r e=>(hr r e).2) hs.2.2 rfl).trans hs.2.2⟩)
  (fun s A B row hs c' hr=>by
   obtain⟨c,hc,J,hk⟩:=hs;exact⟨c,i' c s A B row hc c' (r' (B:=B) hr),(grownBy_keeps c' (fun r e=>(hr r e).2) J rfl).trans J,(grownBy_keeps c' (fun r e=>(hr r e).2) hk rfl).trans hk⟩)
  ?_ ⟨H',J',O'⟩).mono ?_
 ·rintro m k x v W hx ⟨hi,J,hk⟩ j';have hy:=run_yield (P:=prog) (args:=v) J (by rw[z];exact N' x v W j');rw[z]at hy;refine⟨fn,_,assign,body,hy,roundIn_of_wpIn R' (O _ _ k x v W _ om hx hi j' ?_)⟩;clear hy hi j';intro a' Wa n' x' hi j' z';replace J:=n'.same _ _ om J rfl;replace hk:=n'.same _ _ (Mt _) hk rfl;have p':S+1<Wa.heap.size:=(Array.getElem?_eq_some_iff.1 J).1;clear n';refine⟨_,run_beginRound J (by rw[z]),?_⟩;obtain⟨W2,Z⟩:∃W2,W2=Wa.putObj (S+1) (.loop { rec .ready none with state:=.busy }):=⟨_,rfl⟩;have C':W2.heap[S+1]?=some (.loop { rec .ready none with state:=.busy }):=by rw[Z];exact World.putObj_heap_same p'
  have I':W2.heap[S]?=some (.deferred (some [])):=by rw[Z];exact (World.putObj_heap_other om).trans hk
  have P':Kp Wa W2:=by rw[Z];exact s' _ _ _ _ om J rfl rfl
  have G':I k W2:=by rw[Z];exact hI.putObj _ hi om J rfl
  have u':In x v W2:=by rw[Z];exact (hIn x v).putObj (s:=()) _ j' om J rfl
  have D':Ax x v a' W2:=by rw[Z];exact (F' x v a').putObj (s:=()) _ z' om J rfl
  rw[<-Z];clear Z hi j' z' J hk p';refine wpIn_mono (k' _ _ k x v a' W2 om ⟨_,C'⟩ hx G' u' D') ?_;have fin:∀(jump:Option Code) (W3:World),KeepsFrom S W2 W3 ->
    (Instr.endRound (S+1) jump).run prog W3=.ok (.bool jump.isNone) (W3.putObj (S+1) (.loop (rec (if jump.isNone then .ready else .done) jump))) /\
    W3.heap[S+1]?=some (.loop { rec .ready none with state:=.busy }) /\
    (W3.putObj (S+1) (.loop (rec (if jump.isNone then .ready else .done) jump))).heap[S+1]?=some (.loop (rec (if jump.isNone then .ready else .done) jump)) /\
    (W3.putObj (S+1) (.loop (rec (if jump.isNone then .ready else .done) jump))).heap[S]?=some (.deferred (some [])):=fun jump W3 q'=>by
   have G:=q'.same _ _ om C' rfl;have hr:=run_endRound (P:=prog) jump G;rw[z]at hr G ⊢;exact⟨hr,G,World.putObj_heap_same (Array.getElem?_eq_some_iff.1 G).1,(World.putObj_heap_other om).trans (q'.same _ _ (Mt _) I' rfl)⟩
  rintro e a3 W3 hp
  cases e with
  | normal =>
   obtain⟨q',A',S'⟩:=hp;obtain⟨hr,G,g',h'⟩:=fin none W3 q';exact⟨_,_,hr,.inl ⟨rfl,⟨hI.putObj _ S' om G rfl,g',h'⟩,t' x' (t' (t' P' A') (s' _ _ _ _ om G rfl rfl))⟩⟩
  | ret =>
   obtain⟨hr,G,g',h'⟩:=fin (some .ret) W3 hp.1;exact⟨_,_,hr,.inr ⟨rfl,.ret,(i' _).putObj _ hp.2 om G rfl,g',h'⟩⟩
  | exit id =>
   obtain⟨hr,G,g',h'⟩:=fin (some (.exit id)) W3 hp.1;exact⟨_,_,hr,.inr ⟨rfl,.exit id,(i' _).putObj _ hp.2 om G rfl,g',h'⟩⟩
  | goto t =>
   obtain⟨hr,G,g',h'⟩:=fin (some (.goto t)) W3 hp.1;exact⟨_,_,hr,.inr ⟨rfl,.goto t,(i' _).putObj _ hp.2 om G rfl,g',h'⟩⟩
  | panic ch=>exact hp.elim
  | outgrown=>exact hp.elim
 ·rintro e W2 ⟨⟨v,rfl⟩,(⟨hi,J,hk⟩|⟨k,p',c,hi,J,hk⟩)⟩
  ·have hr:=run_endLoop (P:=prog) J (by rw[z];simp);rw[z]at hr;exact⟨none,_,hr,l' _ _ (Mt _) (hI.putObj _ hi om J rfl) ((World.putObj_heap_other om).trans hk)⟩
  ·have hr:=run_endLoop (P:=prog) J (by rw[z];simp);rw[z]at hr;exact⟨some c,_,hr,m' _ c k _ (Mt _) p' ((i' c).putObj _ hi om J rfl) ((World.putObj_heap_other om).trans hk)⟩
end
theorem Ja:laidOutB prog=true:=kr
theorem Cj:(match prog.underlying 135 with|some (.array _ _)|some (.struct _)=>true|_=>false)=true:=kr
theorem L8:(135:TypeId)<prog.types.size:=NB kr
theorem Me:prog.keyTypeAt 2 135=true:=kr
theorem uA:Maps.Keyed prog 135:=Maps.Keyed.of_law (deep_law_laid Ja (m:=2) om L8 Me Cj)
theorem IG:prog.keyTypeAt (prog.types.size+1) 135=true:=kr
theorem xM:prog.cellsOf 135=2:=kr
theorem Jb:prog.cellsOf 3=1:=kr
def idV (s q:Int):Value:=.agg #[Mk s,Mk q]
theorem FO (w:World) {s q:Int} (G:(Lit.int .i64 s).wf=true) (z:(Lit.int .i64 q).wf=true):∃l,keyOf prog 135 (idV s q)=some l :=
 ⟨_,(keyOf_asKey (H:=Unit) (enc:=fun _=>()) (w:=w) (base:=0) (sp:=fun _=>true) (held:=true) (d:=.agg [.lit (.int .i64 s),.lit (.int .i64 q)]) (ps:=[]) IG Cj (by have h:=xM;simp[idV,Value.formed,underlying135];exact h.symm)
  ⟨3,by have h:=xM;simp[idV,DataW.trod,Value.cells,underlying135,underlying3,Jb,G,z];exact h.symm⟩).1⟩
def CB:Value->Option (DataW Unit × List MemPlace)
 | .bool true=>some (.lit (.bool true),[])
 | _=>none
theorem xb {v:Value} {y:DataW Unit × List MemPlace} (h:CB v=some y):v=.bool true:=by
 unfold CB at h
 split at h
 ·rfl
 ·cases h
def Seen (w:World) (b n:Nat) (pre:List Evt):Prop:=∃D,w.ownsMap prog 135 CB b n D /\
 ∀(x:Evt) l,keyOf prog 135 (idV x.src x.sq)=some l->Maps.has D l=pre.any (dv x)
theorem Seen.kept {w w':World} {b n:Nat} {pre:List Evt} (h:Seen w b n pre) {row:Option Nat} (J:w.grownBy w' row) (z:some b≠row):Seen w' b n pre:=by
 obtain⟨D,I,G⟩:=h;exact⟨D,I.kept J z,G⟩
theorem Seen.lt {w:World} {b n:Nat} {pre:List Evt} (h:Seen w b n pre):b<w.heap.size:=by
 obtain⟨D,z,_⟩:=h;exact z.lt
theorem Seen.below {w w':World} {b n:Nat} {pre:List Evt} (h:Seen w b n pre) (z:Mm w w'):Seen w' b n pre :=
 h.kept (aC z none) jS
theorem EB (w:World):Seen (w.alloc (.map #[] 0)) w.heap.size 0 [] :=
 ⟨_,World.ownsMap_made w _ _ _,fun _ _ _=>rfl⟩
theorem kN {x:Evt} (h:bN x=true):(Lit.int .i64 x.src).wf=true/\(Lit.int .i64 x.sq).wf=true:=by
 unfold bN at h;rw[MK]at h;exact⟨WalkArith.wf_i64 om,WalkArith.wf_i64 om⟩
theorem Kn (w:World):(zeroValue 4).run prog w=.ok (.bool false) w:=kr
theorem Seen.look {w:World} {b n:Nat} {pre:List Evt} (h:Seen w b n pre) {x:Evt} (O:bN x=true) :
  (Instr.lookup 132 (.map (some b)) (idV x.src x.sq) false).run prog w=.ok (.bool (pre.any (dv x))) w:=by
 obtain⟨D,⟨es,clock,hb,F,_,rfl⟩,Z⟩:=h;obtain⟨l,J⟩:=FO w (kN O).1 (kN O).2;have I:=Z x l J;rcases Maps.fit_look false uA underlying132 (Kn w) hb F J with ⟨z,_,G⟩|⟨e0,y,_,_,z,hRv,G,_⟩
 ·rw[Maps.has_false_of_atKey G]at I;rw[<-I];exact z
 ·rw[Maps.has_true_of_atKey G]at I;rw[<-I];have:=xb hRv;rw[this]at z;exact z
theorem Seen.store {w:World} {b n:Nat} {pre:List Evt} (h:Seen w b n pre) {x:Evt} (J:bN x=true) (hn:n<maxLen) :
  ∃w',(Instr.mapUpdate 132 (.map (some b)) (idV x.src x.sq) (.bool true)).run prog w=.ok () w'/\Seen w' b (n+1) (pre++[x])/\w.grownBy w' (some b):=by
 obtain⟨D,I,O⟩:=h;obtain⟨l,G⟩:=FO w (kN J).1 (kN J).2;obtain⟨w',z,Z,r2⟩:=I.update uA underlying132 hn G (val:=.bool true) (d:=.lit (.bool true)) (ps:=[]) rfl;refine⟨w',z,⟨_,Z,fun y m hm=>?_⟩,r2⟩;have h3:=O y m hm;rw[List.any_append,List.any_cons,List.any_nil,Bool.or_false,<-h3]
 by_cases e:m=l
 ·subst e;have:=uA.inj hm G;unfold idV at this;simp only[Value.agg.injEq,Array.mk.injEq,Nf,Value.int.injEq,true_and,Ns]at this;rw[Maps.has_put_same I.isMap (uA.key hm)];simp[dv,this.1,this.2]
 ·rw[Maps.has_put_other e];have ht:dv y x=false:=by
   unfold dv;rw[Na];rintro⟨e1,e2⟩;rw[e1,e2]at hm;exact e (MX (hm.symm.trans G))
  rw[ht,Bool.or_false]
theorem dC (w:World) {ops:Array Oper} {rest:List Oper} {o:Oper} {a:Act} {Q:Exit->Act->World->Prop}
  (J:o.guard=none) (m x:Operand) (G:o.op=Op.lookup 132 m x false) (b n:Nat) (pre:List Evt) (y:Evt)
  (hm:a.eval m=.map (some b)) (h:Seen w b n pre) (Z:a.eval x=idV y.src y.sq) (hy:bN y=true)
  (O:wpList prog ops Q rest (a.put o.dst (.bool (pre.any (dv y)))) w):wpList prog ops Q (o::rest) a w:=by
 refine wpList_plain J fun K' I=>?_
 have z:=h.look hy;unfold Oper.wp;simp[execOp,G,hm,Z,z,Result.andThen];exact I _ _ O
theorem ia (w:World) {ops:Array Oper} {rest:List Oper} {o:Oper} {a:Act} {Q:Exit->Act->World->Prop}
  (O:o.guard=none) (m x v:Operand) (G:o.op=Op.mapUpdate 132 m x v) (b n:Nat) (pre:List Evt) (y:Evt)
  (hm:a.eval m=.map (some b)) (h:Seen w b n pre) (hx:a.eval x=idV y.src y.sq) (hv:a.eval v=.bool true) (hy:bN y=true) (hn:n<maxLen)
  (Z:∀w',Seen w' b (n+1) (pre++[y])->w.grownBy w' (some b)->wpList prog ops Q rest (a.put o.dst undef) w'):wpList prog ops Q (o::rest) a w:=by
 refine wpList_plain O fun K' I=>?_
 obtain⟨w',z,J,r2⟩:=h.store hy hn;unfold Oper.wp;simp[execOp,G,hm,hx,hv,z,Result.andThen];exact I _ _ (Z w' J r2)
end Go.Proofs.YtbjicljfjkdeeaaGreatDoor
