/- Part. -/
import Derived.Test.YtokconodddedhaaGreatDoorRows
import Derived.Test.YtokconodddedhaaGreatDoorQ07
import Derived.HandedShaped
import Derived.Test.YtokconodddedhaaGreatDoorQ05
set_option maxRecDepth 100000
set_option maxHeartbeats 16000000
set_option linter.unusedVariables false
set_option linter.unusedSimpArgs false
namespace Go.Proofs.YtokconodddedhaaGreatDoor
open Go.Proofs.Tryz Go.RowKit
section
section
open Go.ChangeShapes Go.WideShapes Go.ChangeAt Go.RowKit Go.Deep
section
variable {H : Type} {enc : TypeId × Value -> H} {P : Program} {w : World} {base : Nat} {spare : Nat -> Bool} {held : Bool}
theorem pB {α:Type} {R:World->Nat->Nat->α->Prop} {sz:Nat} {t e:TypeId} (ht:P.underlying t=some (.slice e)) (J:P.cellsOf e=sz) (O:0<sz)
  (hR:∀(n b o:Nat) (cs:List Value) (y:DataW H × List MemPlace),cs.length=sz->(∀(j:Nat) (u:Value),cs[j]?=some u->w.cell? ⟨b,o+j,none⟩=some u)->DataW.trod enc P w base spare held n e cs=some y->∃x,R w b o x)
  {fuel:Nat} {v:Value} {y:DataW H × List MemPlace} (h:DataW.trod enc P w base spare held fuel t [v]=some y):∃l:List α,Sl R sz w v l:=by
 rcases open_slice ht h with ⟨z,_⟩|⟨a,len,cap,m,n,D,Pl,z,_,hl,hm,hmm,_,hi⟩
 ·simp only[LS,LV]at z;subst z;exact⟨[],Sl.nil _ _ _ _ _ (Lb _)⟩
 ·simp only[LS,LV]at z;subst z;have e':len<=m:=by rw[hmm];split<;>omega
  rcases No len with h0|h0
  ·subst h0;exact⟨[],Sl.nil _ _ _ _ _ hm⟩
  ·have G:∃b o,a=⟨b,o,none⟩:=by
    obtain⟨a',I,_⟩:=hi 0 om;rw[J]at I;obtain⟨_,Z,F⟩:=World.cells?_some I;have h2:=F 0 O;rw[K9 om]at h2;have h3:=World.cell?_spot h2;obtain⟨b,o,sp⟩:=a;simp only[Addr.add,My,Mo]at h3;exact⟨b,o,jQ h3⟩
   obtain⟨b,o,rfl⟩:=G;obtain⟨l,c',d'⟩:=jT (fun k x=>R w b (o+k*sz) x) len (fun i f'=>by
    obtain⟨a',I,b'⟩:=hi i om;rw[J]at I;obtain⟨_,Z,F⟩:=World.cells?_some I;refine hR n b (o+i*sz) a' _ Z (fun j u hj=>?_) b';have h4:=F j (by have:=(List.getElem?_eq_some_iff.1 hj).1;omega);rw[fZ,fZ,hj]at h4;exact h4)
   exact⟨l,some ⟨b,o,none⟩,cap,by rw[c'],by omega,hm,fun k x hk=>⟨b,o,rfl,d' k x hk⟩⟩
end
theorem list1 {α:Type} {l:List α} (h:l.length=1):∃a,l=[a]:=by
 match l,h with
 | [a],_=>exact⟨a,rfl⟩
theorem AD {α:Type} {l:List α} (h:l.length=2):∃a b,l=[a,b]:=by
 match l,h with
 | [a,b],_=>exact⟨a,b,rfl⟩
theorem oX {α:Type} {l:List α} (h:l.length=3):∃a b c,l=[a,b,c]:=by
 match l,h with
 | [a,b,c],_=>exact⟨a,b,c,rfl⟩
theorem df:prog.cellsOf 3=1:=kr
section
variable {H : Type} {enc : TypeId × Value -> H} {w : World} {base : Nat} {spare : Nat -> Bool} {held : Bool}
end
theorem Fu:ownKnob prog.godebug=none:=kr
theorem qM:laidOutB prog=true:=kr
end
end
section
open Go.ChangeShapes Go.WideShapes Go.ChangeAt Go.RowKit Go.Deep
theorem Gv {α:Type} {l:List α} (h:l.length=5):∃a b c d e,l=[a,b,c,d,e]:=by
 match l,h with
 | [a,b,c,d,e],_=>exact⟨a,b,c,d,e,rfl⟩
theorem ey:prog.cellsOf 9=1:=kr
theorem Cw:prog.cellsOf 56=1:=kr
theorem mN:prog.cellsOf 27=3:=kr
theorem BU:prog.cellsOf 68=5:=kr
theorem FO:prog.cellsOf 146=2:=kr
section
variable {H : Type} {enc : TypeId × Value -> H} {w : World} {base : Nat} {spare : Nat -> Bool} {held : Bool}
theorem Jc (n b o:Nat) (cs:List Value) (y:DataW H × List MemPlace) (Z:cs.length=3) (z:∀(j:Nat) (u:Value),cs[j]?=some u->w.cell? ⟨b,o+j,none⟩=some u)
  (h:DataW.trod enc prog w base spare held n 27 cs=some y):∃x,lU w b o x:=by
 obtain⟨c0,c1,c2,rfl⟩:=oX Z;obtain⟨xs,m,_,_,_,D,hf⟩:=Mt underlying27 h;obtain⟨x0,x1,x2,rfl⟩:=oX (jQ D);have f0:=hf 0 _ rfl;have f1:=hf 1 _ rfl;have f2:=hf 2 _ rfl;simp[df,ey]at f0 f1 f2;obtain⟨O,G,_⟩:=LA underlying3 f0;obtain⟨J,F,_⟩:=LA underlying3 f1;obtain⟨k2,I,_⟩:=Nr underlying9 f2;simp only[LS,LV]at G F I;subst G F I;exact⟨⟨O,J,k2⟩,z 0 _ rfl,z 1 _ rfl,z 2 _ rfl⟩
theorem Jk (n b o:Nat) (cs:List Value) (y:DataW H × List MemPlace) (O:cs.length=2) (D:∀(j:Nat) (u:Value),cs[j]?=some u->w.cell? ⟨b,o+j,none⟩=some u)
  (h:DataW.trod enc prog w base spare held n 146 cs=some y):∃x,J7 w b o x:=by
 obtain⟨c0,c1,rfl⟩:=AD O;obtain⟨xs,m,_,_,_,z,hf⟩:=Mt underlying146 h;obtain⟨x0,Z,rfl⟩:=AD (jQ z);have f0:=hf 0 _ rfl;have f1:=hf 1 _ rfl;simp[df,ey]at f0 f1;obtain⟨J,G,_⟩:=Nr underlying9 f0;obtain⟨I,F,_⟩:=LA underlying3 f1;simp only[LS,LV]at G F;subst G F;exact⟨⟨J,I⟩,D 0 _ rfl,D 1 _ rfl⟩
theorem Ft {fuel:Nat} {v:Value} {y:DataW H × List MemPlace} (h:DataW.trod enc prog w base spare held fuel 22 [v]=some y):∃l,tg w v l :=
 pB underlying22 FO dc (fun n b o cs y z F D=>Jk n b o cs y z F D) h
end
section
variable {H : Type} {enc : TypeId × Value -> H}
end
end
section
open Go.ChangeShapes Go.WideShapes Go.ChangeAt Go.RowKit Go.Deep
inductive Ex
 | mk (op:Int) (args:List Ex) (vr fl kd:Int) (val:Vl)
def Ex.op:Ex->Int|.mk a _ _ _ _ _=>a
def Ex.args:Ex->List Ex|.mk _ a _ _ _ _=>a
def Ex.vr:Ex->Int|.mk _ _ a _ _ _=>a
def Ex.fl:Ex->Int|.mk _ _ _ a _ _=>a
def Ex.kd:Ex->Int|.mk _ _ _ _ a _=>a
def Ex.val:Ex->Vl|.mk _ _ _ _ _ a=>a
mutual
def aM:Ex->Nat
 | .mk _ l _ _ _ _=>1+cQ l
def cQ:List Ex->Nat
 | []=>0
 | a::r=>aM a+cQ r
end
theorem dQ (x:Ex):aM x=1+cQ x.args:=by cases x;rw[aM];rfl
theorem lv (l:List Ex):cQ l=(l.map aM).sum:=by
 induction l with
 | nil=>rw[cQ];rfl
 | cons a r h=>rw[cQ,h];rfl
def rA:Nat->World->Nat->Nat->Ex->Prop
 | 0=>fun _ _ _ _=>False
 | d+1=>fun w b p x=>∃v,Sl (rA d) 8 w v x.args/\w.cell? ⟨b,p,none⟩=some (KW x.op)/\w.cell? ⟨b,p+1,none⟩=some v /\
   w.cell? ⟨b,p+2,none⟩=some (KW x.vr)/\w.cell? ⟨b,p+3,none⟩=some (KW x.fl)/\w.cell? ⟨b,p+4,none⟩=some (KW x.kd)/\lU w b (p+5) x.val
theorem ai (d:Nat):gG (rA d):=by
 induction d with
 | zero=>exact fun _ _ _ _ _ _ h=>h
 | succ d O=>exact fun _ _ _ _ _ hb ⟨v,F,h0,D,J,G,I,z⟩=>⟨v,F.stays O hb,aa hb h0,aa hb D,aa hb J,aa hb G,aa hb I,aC _ _ _ _ _ hb z⟩
theorem pq {α:Type} {R S:World->Nat->Nat->α->Prop} {sz:Nat} {w:World} {v:Value} {l:List α} (z:∀b p x,R w b p x->S w b p x) (h:Sl R sz w v l):Sl S sz w v l:=by
 obtain⟨A,c,e,F,G,D⟩:=h;exact⟨A,c,e,F,G,fun k x hk=>by obtain⟨b,o,e,hr⟩:=D k x hk;exact⟨b,o,e,z _ _ _ hr⟩⟩
theorem ta (d:Nat):∀(w:World) (b p:Nat) (x:Ex),rA d w b p x->rA (d+1) w b p x:=by
 induction d with
 | zero=>exact fun _ _ _ _ h=>h.elim
 | succ d D=>exact fun w b p x ⟨v,z,h⟩=>⟨v,pq (fun b p x=>D w b p x) z,h⟩
theorem Im {d e:Nat} (h:d<=e) {w:World} {b p:Nat} {x:Ex} (z:rA d w b p x):rA e w b p x:=by
 induction h with
 | refl=>exact z
 | step _ D=>exact ta _ _ _ _ _ D
abbrev aF (d:Nat) (w:World) (v:Value) (l:List Ex):Prop:=Sl (rA d) 8 w v l
def exV (x:Ex) (v:Value):Value:=.agg #[KW x.op,v,KW x.vr,KW x.fl,KW x.kd,KW x.val.kind,KW x.val.num,.string x.val.text]
theorem mh:prog.cellsOf 29=8:=kr
theorem nC:prog.cellsOf 25=1:=kr
theorem Bx {α:Type} {l:List α} (h:l.length=6):∃a b c d e f,l=[a,b,c,d,e,f]:=by
 match l,h with
 | [a,b,c,d,e,f],_=>exact⟨a,b,c,d,e,f,rfl⟩
theorem JE {α:Type} {l:List α} (h:l.length=8):∃a b c d e f g i,l=[a,b,c,d,e,f,g,i]:=by
 match l,h with
 | [a,b,c,d,e,f,g,i],_=>exact⟨a,b,c,d,e,f,g,i,rfl⟩
theorem F0 {H:Type} (d:DataW H):1<=Rows.uptoBulk d:=by
 cases d with
 | lit l=>cases l<;>simp[Rows.uptoBulk]
 | nil=>simp[Rows.uptoBulk]
 | ptr d=>simp[Rows.uptoBulk]
 | slice elems spare=>simp[Rows.uptoBulk]
 | agg parts=>simp[Rows.uptoBulk]
 | iface t d=>simp[Rows.uptoBulk]
 | map entries=>simp[Rows.uptoBulk]
 | held h=>simp[Rows.uptoBulk]
theorem nI {H:Type} {d:DataW H} {l:List (DataW H)} (h:d∈l):Rows.uptoBulk d<=Rows.uptoBulkAll l:=by
 induction l with
 | nil=>cases h
 | cons x r z =>
  simp only[Rows.uptoBulkAll]
  cases List.mem_cons.1 h with
  | inl e=>subst e;omega
  | inr e=>have:=z e;omega
theorem yj {H α:Type} (m:α->Nat):∀(l:List α) (ds:List (DataW H)),l.length=ds.length->(∀(k:Nat) (x:α) (d:DataW H),l[k]?=some x->ds[k]?=some d->m x<=Rows.uptoBulk d)->(l.map m).sum<=Rows.uptoBulkAll ds
 | [],_,_,_=>by simp
 | a::l,[],h,_=>by simp at h
 | a::l,d::ds,h,hk=>by
  have F:=yj m l ds (jQ h) (fun k x d D z=>hk (k+1) x d (jQ D) (jQ z));have G:=hk 0 a d rfl rfl;simp only[Rows.uptoBulkAll,LF,MB];omega
section
variable {H : Type} {enc : TypeId × Value -> H} {P : Program} {w : World} {base : Nat} {spare : Nat -> Bool} {held : Bool}
theorem mj {α:Type} {R:World->Nat->Nat->α->Prop} {m:α->Nat} {sz:Nat} {t e:TypeId} (ht:P.underlying t=some (.slice e)) (g':P.cellsOf e=sz) (b':0<sz)
  {fuel:Nat} (hR:∀(n b o:Nat) (cs:List Value) (y:DataW H × List MemPlace),n<fuel->cs.length=sz->(∀(j:Nat) (u:Value),cs[j]?=some u->w.cell? ⟨b,o+j,none⟩=some u)->DataW.trod enc P w base spare held n e cs=some y->∃x,R w b o x/\m x<=Rows.uptoBulk y.1)
  {v:Value} {y:DataW H × List MemPlace} (h:DataW.trod enc P w base spare held fuel t [v]=some y):∃l:List α,Sl R sz w v l/\(l.map m).sum+1<=Rows.uptoBulk y.1:=by
 rcases DataW.trod_slice ht h with ⟨F,hy⟩|⟨a,len,cap,elems,rest,n,rfl,F,hy,_,hl,hm,hlen,hi,_⟩
 ·simp only[LS,LV]at F;subst F;exact⟨[],Sl.nil _ _ _ _ _ (Lb _),F0 _⟩
 ·simp only[LS,LV]at F;subst F;subst hy;have hb:∀l:List α,l.length=len->(∀(k:Nat) (x:α) (d:DataW H × List MemPlace),l[k]?=some x->elems[k]?=some d->m x<=Rows.uptoBulk d.1)->(l.map m).sum+1<=Rows.uptoBulk (DataW.slice (elems.map (·.1)) (rest.map (·.1))):=by
   intro l hl hk;have:=yj m l (elems.map (·.1)) (by simp[hl,hlen]) (fun k x d I Z=>by
    rw[LI,Option.map_eq_some_iff]at Z;obtain⟨d',G,rfl⟩:=Z;exact hk k x d' I G)
   simp only[Rows.uptoBulk];omega
  rcases No len with h0|h0
  ·subst h0;exact⟨[],Sl.nil _ _ _ _ _ hm,hb [] rfl (fun k x d I=>by simp at I)⟩
  ·have D:∀i,i<len->∃z d,elems[i]?=some d/\w.cells? base (a.add (i*sz)) sz=some z/\DataW.trod enc P w base spare held n e z=some d:=by
    intro i J;have h1:=hi i J;rw[K9 om,Option.bind_eq_some_iff]at h1;obtain⟨z,h2,h3⟩:=h1;rw[g']at h2;exact⟨z,_,K9 om,h2,h3⟩
   have O:∃b o,a=⟨b,o,none⟩:=by
    obtain⟨z,_,_,hc,_⟩:=D 0 h0;obtain⟨_,c',D⟩:=World.cells?_some hc;have h2:=D 0 b';rw[K9 om]at h2;have h3:=World.cell?_spot h2;obtain⟨b,o,sp⟩:=a;simp only[Addr.add,My,Mo]at h3;exact⟨b,o,jQ h3⟩
   obtain⟨b,o,rfl⟩:=O;obtain⟨l,a',e'⟩:=jT (fun k x=>R w b (o+k*sz) x/\∀d,elems[k]?=some d->m x<=Rows.uptoBulk d.1) len (fun i J=>by
    obtain⟨z,d,Z,hc,f'⟩:=D i J;obtain⟨_,c',D⟩:=World.cells?_some hc;obtain⟨x,I,hm⟩:=hR n b (o+i*sz) z _ (Nat.lt_succ_self _) c' (fun j u hj=>by
     have h4:=D j (by have:=(List.getElem?_eq_some_iff.1 hj).1;omega);rw[fZ,fZ,hj]at h4;exact h4) f'
    exact⟨x,I,fun d' G=>by rw[Z]at G;cases G;exact hm⟩)
   exact⟨l,⟨some ⟨b,o,none⟩,cap,by rw[a'],by omega,hm,fun k x hk=>⟨b,o,rfl,(e' k x hk).1⟩⟩,hb l a' (fun k x d I Z=>(e' k x I).2 d Z)⟩
end
section
variable {H : Type} {enc : TypeId × Value -> H} {w : World} {base : Nat} {spare : Nat -> Bool} {held : Bool}
theorem BE (fuel:Nat):∀(n:Nat),n<=fuel->∀(b o:Nat) (cs:List Value) (y:DataW H × List MemPlace),cs.length=8->(∀(j:Nat) (u:Value),cs[j]?=some u->w.cell? ⟨b,o+j,none⟩=some u) ->
  DataW.trod enc prog w base spare held n 29 cs=some y->∃x,rA fuel w b o x/\aM x<=Rows.uptoBulk y.1:=by
 induction fuel with
 | zero =>
  intro n Z b o cs y hl z h;obtain⟨xs,m,hm,_⟩:=Mt underlying29 h;omega
 | succ fuel ih =>
  intro n Z b o cs y hl z h;obtain⟨c0,c1,c2,c3,c4,c5,c6,c7,rfl⟩:=JE hl;obtain⟨xs,m,hm,hy,_,G,hf⟩:=Mt underlying29 h;obtain⟨x0,J,x2,x3,x4,I,rfl⟩:=Bx (jQ G);have f0:=hf 0 _ rfl;have f1:=hf 1 _ rfl;have f2:=hf 2 _ rfl;have f3:=hf 3 _ rfl;have f4:=hf 4 _ rfl;have f5:=hf 5 _ rfl;simp[df,nC,mN]at f0 f1 f2 f3 f4 f5;obtain⟨k0,e0,_⟩:=LA underlying3 f0;obtain⟨k2,e2,_⟩:=LA underlying3 f2;obtain⟨O,e3,_⟩:=LA underlying3 f3;obtain⟨k4,e4,_⟩:=LA underlying3 f4;obtain⟨vl,F⟩:=Jc m b (o+5) _ I rfl (fun j u hj=>by have:=z (j+5) u (jQ hj);rw[LJ,Nb 5 j];exact this) f5;obtain⟨l,D,a'⟩:=mj (m:=aM) underlying25 mh dc (fun n b o cs y Z h1 h2 h3=>ih n om b o cs y h1 h2 h3) f1;simp only[LS,LV]at e0 e2 e3 e4;subst e0 e2 e3 e4;refine⟨.mk k0 l k2 O k4 vl,⟨c1,D,z 0 _ rfl,z 1 _ rfl,z 2 _ rfl,z 3 _ rfl,z 4 _ rfl,F⟩,?_⟩;subst hy;rw[dQ,show (Ex.mk k0 l k2 O k4 vl).args=l from rfl,lv];have h1:=nI (d:=J.1) (l:=[x0.1,J.1,x2.1,x3.1,x4.1,I.1]) jS;simp only[Rows.uptoBulk,LF,MD];omega
theorem xi {fuel:Nat} {v:Value} {y:DataW H × List MemPlace} (h:DataW.trod enc prog w base spare held fuel 25 [v]=some y):∃l,aF fuel w v l/\(l.map aM).sum+1<=Rows.uptoBulk y.1 :=
 mj (m:=aM) underlying25 mh dc (fun n b o cs y G z F D=>BE fuel n om b o cs y z F D) h
end
end
theorem dM {n:Nat} (h:n<=1099511627776):IntKind.i64.wrap (n:Int)=(n:Int):=by
 simp[IntKind.wrap,IntKind.bits,IntKind.signed];omega
mutual
def db (h:Nat):Ex->Nat
 | .mk _ l _ _ _ _=>dH h 1 l
def dH (h:Nat) (n:Nat):List Ex->Nat
 | []=>n
 | a::r=>if n<=h then dH h (n+db h a) r else n
end
mutual
def dy:Ex->Nat
 | .mk _ l _ _ _ _=>eP l+1
def eP:List Ex->Nat
 | []=>0
 | a::r=>max (dy a) (eP r)
end
theorem CF (h:Nat) (x:Ex):db h x=dH h 1 x.args:=by cases x;rw[db];rfl
theorem sT (x:Ex):dy x=eP x.args+1:=by cases x;rw[dy];rfl
mutual
theorem iz (h:Nat):∀x,db h x<=aM x
 | .mk o l a b c v=>by
  have:=sw h 1 l;rw[db,aM];exact this
theorem sw (h n:Nat):∀l,dH h n l<=n+cQ l
 | []=>by rw[dH];omega
 | a::r=>by
  rw[dH,cQ]
  split
  ·have:=iz h a;have:=sw h (n+db h a) r;omega
  ·omega
end
theorem sE (h:Nat):∀(l:List Ex) (n:Nat),n<=dH h n l
 | [],n=>by rw[dH];omega
 | a::r,n=>by
  rw[dH]
  split
  ·have:=sE h r (n+db h a);omega
  ·omega
mutual
theorem qO (h:Nat):∀x,db h x<=h->db h x=aM x
 | .mk o l a b c v=>by
  have:=pY h 1 l;rw[db,aM];exact this
theorem pY (z n:Nat):∀l,dH z n l<=z->dH z n l=n+cQ l
 | []=>by rw[dH,cQ];omega
 | a::r=>by
  rw[dH,cQ]
  split
  ·intro h;have D:=sE z r (n+db z a);have:=qO z a om;have:=pY z (n+db z a) r h;omega
  ·omega
end
theorem qt (z:Nat) (x:Ex):db z x<=z↔aM x<=z:=by
 constructor
 ·intro h;rw[<-qO z x h];exact h
 ·intro h;exact Lf (iz z x) h
mutual
theorem Df:∀x,dy x<=aM x
 | .mk o l a b c v=>by
  have:=kJ l;rw[dy,aM];omega
theorem kJ:∀l,eP l<=cQ l
 | []=>by rw[eP];omega
 | a::r=>by
  have:=Df a;have:=kJ r;rw[eP,cQ];omega
end
theorem fW {l:List Ex} {k:Nat} {a:Ex} (h:l[k]?=some a):cQ (l.drop k)=aM a+cQ (l.drop (k+1)):=by
 obtain⟨z,rfl⟩:=List.getElem?_eq_some_iff.1 h;rw[Lr z,cQ]
theorem oD {l:List Ex} {k:Nat} {a:Ex} (h:l[k]?=some a):eP (l.drop k)=max (dy a) (eP (l.drop (k+1))):=by
 obtain⟨z,rfl⟩:=List.getElem?_eq_some_iff.1 h;rw[Lr z,eP]
theorem oy {z n:Nat} {l:List Ex} {k:Nat} {a:Ex} (h:l[k]?=some a):dH z n (l.drop k)=if n<=z then dH z (n+db z a) (l.drop (k+1)) else n:=by
 obtain⟨D,rfl⟩:=List.getElem?_eq_some_iff.1 h;rw[Lr D,dH]
theorem km {l:List Ex} {k:Nat} {a:Ex} (h:l[k]?=some a):aM a<=cQ l:=by
 induction l generalizing k with
 | nil=>simp at h
 | cons b r z =>
  rw[cQ]
  cases k with
  | zero=>simp at h;subst h;omega
  | succ k=>have:=z (k:=k) (jQ h);omega
theorem cL {d:Nat} {w:World} {b p:Nat} {x:Ex} (h:rA d w b p x):∃z v,d=z+1/\aF z w v x.args/\w.cell? ⟨b,p,none⟩=some (KW x.op)/\w.cell? ⟨b,p+1,none⟩=some v /\
  w.cell? ⟨b,p+2,none⟩=some (KW x.vr)/\w.cell? ⟨b,p+3,none⟩=some (KW x.fl)/\w.cell? ⟨b,p+4,none⟩=some (KW x.kd) /\
  w.cell? ⟨b,p+5,none⟩=some (KW x.val.kind)/\w.cell? ⟨b,p+6,none⟩=some (KW x.val.num)/\w.cell? ⟨b,p+7,none⟩=some (.string x.val.text):=by
 cases d with
 | zero=>exact h.elim
 | succ d =>
  obtain⟨v,J,h0,G,h2,O,Z,D,I,F⟩:=h;exact⟨d,v,rfl,J,h0,G,h2,O,Z,D,I,F⟩
theorem nZ (L d:Nat) (hL:L<=1048576) (z:∀d',d=d'+1->∀(x:Ex) (v:Value) (w:World),aF d' w v x.args->aM x<=1048576 ->
   KZ 119 #[exV x v,KW L] w (KW (db L x)))
  (x:Ex) (v:Value) (w:World) (hx:aF d w v x.args) (hN:aM x<=1048576) :
  KZ 119 #[exV x v,KW L] w (KW (db L x)):=by
 have b':=jD z;obtain⟨op,l,vr,fl,kd,⟨k0,n0,t0⟩⟩:=x;rw[CF];rw[dQ]at hN;obtain⟨A,c,rfl,h1,h2,G⟩:=hx;simp only[Ex.args]at hN h1 h2 G ⊢;have k':=ax h1 h2;have HL:=jD G;have HN:=jD hN;have m':=jD hL;obtain⟨R,hR⟩:=jE (dH L 1 l);have HR:=jD hR;rw[hR];unfold exV;simp only[Ex.args,Ex.op,Ex.vr,Ex.fl,Ex.kd,Ex.val];clear G h1 h2 hR hN z hL;go_enter func119,ntmps119;go_wp2;refine aP fun w1 e1=>?_
 have y1:KX w1 w.heap.size 1 (.slice A l.length c):=jG e1;have c':KY w w1:=gb e1;clear e1;have J:=jD c';clear c'
 go_loopw [5,6] (fun n i wr=>∃k C:Nat,k<=l.length/\i=KW k/\n=KW C/\Hid (dH L C (l.drop k)=R/\C+cQ (l.drop k)<=1048576/\KY w1 wr)) (fun n i _=>l.length-(intOf i).toNat)
 case atStart=>exact⟨0,1,Lb _,rfl,rfl,jD ⟨HR.out,HN.out,La _ _⟩⟩
 case round =>
  obtain⟨k,C,hk,rfl,rfl,D⟩:=hrel;have hb:=D.out.2.2;have z1:=aa hb y1
  by_cases F:k<l.length
  ·have h':(k:Int)<(l.length:Int):=by omega
   by_cases hC:C<=L
   ·have e':(C:Int)<=(L:Int):=by omega
    obtain⟨b,o,rfl,I⟩:=HL.out k l[k] (K9 F);have hg:=jD (K9 F);obtain⟨a,ha⟩:=jF (l[k]);rw[<-ha]at hg I;clear ha;obtain⟨d',v',a',Z,p0,p1,p2,p3,p4,p5,p6,p7⟩:=cL (ai d _ _ _ _ _ (ab J.out hb) I);have f':aM a<=1048576:=by have:=fW hg.out;have:=D.out.2.1;omega
    obtain⟨Q,hQ⟩:=jE (db L a);have HC:=jD (fun (W:World) (hW:KY wr W)=>b'.out d' a' a v' W (Z.stays (ai d') hW) f');unfold exV at HC;rw[hQ]at HC;have n':Q<=1048576:=by have:=iz L a;omega
    have HQ:=jD hQ;have hs:=D.out.2.1;have l':IntKind.i64.wrap ((C:Int)+(Q:Int))=((C+Q:Nat):Int):=by
     have hq:=fW hg.out;have j':=iz L a;have i':C+Q<=1048576:=by omega
     rw[<-MF,dM om]
    clear hQ I a' Z hs;go_wp2_with fail;refine (HC.out _ (La _ _)).mono ?_;rintro e w' ⟨rfl,g'⟩;go_wp2_with fail
    go_roundw
    case rel =>
     refine⟨k+1,C+Q,by omega,by go_num,rfl,jD ⟨?_,?_,ab hb g'⟩⟩
     ·have h:=D.out.1;rw[oy hg.out,K7 hC,HQ.out]at h;exact h
     ·have hq:=fW hg.out;have j':=iz L a;have i':=HQ.out;have hs:=D.out.2.1;omega
    case measure=>simp[intOf];omega
   ·have e':¬(C:Int)<=(L:Int):=by omega
    have O:C=R:=by
     have h:=D.out.1;rw[oy (K9 F),K6 hC]at h;exact h
    subst O;exact fi (ab J.out hb)
  ·have h':¬(k:Int)<(l.length:Int):=by omega
   have O:C=R:=by
    have h:=D.out.1;rw[Lq om,dH]at h;exact h
   subst O;exact fi (ab J.out hb)
theorem pN (L:Nat) (hL:L<=1048576) (d:Nat):∀(x:Ex) (v:Value) (w:World),aF d w v x.args->aM x<=1048576 ->
  KZ 119 #[exV x v,KW L] w (KW (db L x)):=by
 induction d with
 | zero=>exact nZ L 0 hL (fun z h=>by omega)
 | succ d D=>exact nZ L (d+1) hL (fun z h=>Ma h▸D)
theorem od (d:Nat) (z:∀J,d=J+1->∀(x:Ex) (v:Value) (w:World),aF J w v x.args->aM x<=1048576 ->
   KZ 120 #[exV x v] w (KW (dy x)))
  (x:Ex) (v:Value) (w:World) (hx:aF d w v x.args) (hN:aM x<=1048576) :
  KZ 120 #[exV x v] w (KW (dy x)):=by
 have Z:=jD z;obtain⟨op,l,vr,fl,kd,⟨k0,n0,t0⟩⟩:=x;rw[sT];rw[dQ]at hN;obtain⟨A,c,rfl,h1,h2,D⟩:=hx;simp only[Ex.args]at hN h1 h2 D ⊢;have i':=ax h1 h2;have HL:=jD D;have HN:=jD hN;obtain⟨R,hR⟩:=jE (eP l);have f':R<1048576:=by have:=kJ l;omega
 have HR:=jD hR;rw[hR];have j':IntKind.i64.wrap ((R:Int)+1)=(R:Int)+1:=dM (n:=R+1) om;unfold exV;simp only[Ex.args,Ex.op,Ex.vr,Ex.fl,Ex.kd,Ex.val];clear D h1 h2 hR hN z f';go_enter func120,ntmps120;go_wp2;refine aP fun w1 e1=>?_
 have y1:KX w1 w.heap.size 1 (.slice A l.length c):=jG e1;have a':KY w w1:=gb e1;clear e1;have b':=jD a';clear a'
 go_loopw [3,4] (fun n i wr=>∃k C:Nat,k<=l.length/\i=KW k/\n=KW C/\Hid (max C (eP (l.drop k))=R/\KY w1 wr)) (fun n i _=>l.length-(intOf i).toNat)
 case atStart=>exact⟨0,0,Lb _,rfl,rfl,jD ⟨by rw[L1,HR.out];omega,La _ _⟩⟩
 case round =>
  obtain⟨k,C,hk,rfl,rfl,hI⟩:=hrel;have hb:=hI.out.2;have z1:=aa hb y1
  by_cases I:k<l.length
  ·have g':(k:Int)<(l.length:Int):=by omega
   obtain⟨b,o,rfl,F⟩:=HL.out k l[k] (K9 I);have hg:=jD (K9 I);obtain⟨a,ha⟩:=jF (l[k]);rw[<-ha]at hg F;clear ha;obtain⟨J,v',O,G,p0,p1,p2,p3,p4,p5,p6,p7⟩:=cL (ai d _ _ _ _ _ (ab b'.out hb) F);have c':aM a<=1048576:=by have:=km hg.out;have:=HN.out;omega
   obtain⟨Q,hQ⟩:=jE (dy a);have HC:=jD (fun (W:World) (hW:KY wr W)=>Z.out J O a v' W (G.stays (ai J) hW) c');unfold exV at HC;rw[hQ]at HC;have HQ:=jD hQ;clear hQ F O G;go_wp2_with fail;refine (HC.out _ (La _ _)).mono ?_;rintro e w' ⟨rfl,e'⟩;go_wp2_with fail
   go_roundw
   case rel =>
    refine⟨k+1,max C Q,by omega,by go_num,?_,jD ⟨?_,ab hb e'⟩⟩
    ·exact congrArg (Value.int .i64) om
    ·have h:=hI.out.1;rw[oD hg.out,HQ.out]at h;omega
   case measure=>simp[intOf];omega
  ·have g':¬(k:Int)<(l.length:Int):=by omega
   have h':C=R:=by
    have h:=hI.out.1;rw[Lq om,eP]at h;omega
   subst h';exact fi (ab b'.out hb)
theorem qR (d:Nat):∀(x:Ex) (v:Value) (w:World),aF d w v x.args->aM x<=1048576 ->
  KZ 120 #[exV x v] w (KW (dy x)):=by
 induction d with
 | zero=>exact od 0 (fun z h=>by omega)
 | succ d D=>exact od (d+1) (fun z h=>Ma h▸D)
theorem sP (d:Nat) (z:∀d',d=d'+1->∀(x:Ex) (v:Value) (w:World),aF d' w v x.args->aM x<=1048576 ->
   KZ 103 #[exV x v] w (.tuple #[KW (aM x),KW (dy x)]))
  (x:Ex) (v:Value) (w:World) (hx:aF d w v x.args) (hN:aM x<=1048576) :
  KZ 103 #[exV x v] w (.tuple #[KW (aM x),KW (dy x)]):=by
 have b':=jD z;obtain⟨op,l,vr,fl,kd,⟨k0,n0,t0⟩⟩:=x;rw[sT];obtain⟨M,hM⟩:=jE (aM (.mk op l vr fl kd ⟨k0,n0,t0⟩));have HM:Hid (1+cQ l=M):=jD (by rw[<-hM,dQ];rfl);rw[hM]at hN ⊢;clear hM;obtain⟨A,c,rfl,h1,h2,G⟩:=hx;simp only[Ex.args]at h1 h2 G ⊢;have n':=ax h1 h2;have HL:=jD G;have HN:=jD hN;obtain⟨R,hR⟩:=jE (eP l);have i':R<1048576:=by have:=kJ l;have:=HM.out;omega
 have HR:=jD hR;rw[hR];have q':IntKind.i64.wrap ((R:Int)+1)=(R:Int)+1:=dM (n:=R+1) om;unfold exV;simp only[Ex.op,Ex.vr,Ex.fl,Ex.kd,Ex.val];clear G h1 h2 hR hN z i';go_enter func103,ntmps103;go_wp2;refine aP fun w1 e1=>?_
 have e':KY w w1:=gb e1;clear e1;have f':=jD e';clear e'
 go_loopw [4,5,13] (fun n m i wr=>∃k C D:Nat,k<=l.length/\i=KW k/\n=KW C/\m=KW D/\Hid (C+cQ (l.drop k)=M/\max D (eP (l.drop k))=R/\KY w1 wr)) (fun n m i _=>l.length-(intOf i).toNat)
 case atStart=>exact⟨0,1,0,Lb _,rfl,rfl,rfl,jD ⟨HM.out,by rw[L1,HR.out];omega,La _ _⟩⟩
 case round =>
  obtain⟨k,C,D,hk,rfl,rfl,rfl,J⟩:=hrel;have hb:=J.out.2.2
  by_cases Z:k<l.length
  ·have j':(k:Int)<(l.length:Int):=by omega
   obtain⟨b,o,rfl,I⟩:=HL.out k l[k] (K9 Z);have hg:=jD (K9 Z);obtain⟨a,ha⟩:=jF (l[k]);rw[<-ha]at hg I;clear ha;obtain⟨d',v',a',F,p0,p1,p2,p3,p4,p5,p6,p7⟩:=cL (ai d _ _ _ _ _ (ab f'.out hb) I);have O:aM a<=1048576:=by have:=km hg.out;have:=HM.out;have:=HN.out;omega
   have l':=F;obtain⟨A',c',k',-⟩:=l';subst k';obtain⟨P,hP⟩:=jE (aM a);obtain⟨Q,hQ⟩:=jE (dy a);have HC:=jD (fun (W:World) (hW:KY wr W)=>b'.out d' a' a _ W (F.stays (ai d') hW) O);unfold exV at HC;rw[hQ,hP]at HC;have HQ:=jD hQ;have HP:=jD hP;have p':IntKind.i64.wrap ((C:Int)+(P:Int))=((C+P:Nat):Int):=by
    have hq:=fW hg.out;have s':=J.out.1;have r':=HN.out;rw[<-MF,dM om]
   clear hQ hP I a' F O;go_wp2_with fail;refine (HC.out _ ?_).mono ?_
   ·exact jB
   rintro e w' ⟨rfl,g'⟩;go_wp2_with fail
   go_roundw
   case rel =>
    refine⟨k+1,C+P,max D Q,by omega,by go_num,rfl,congrArg (Value.int .i64) om,jD ⟨?_,?_,ab hb (ab jB g')⟩⟩
    ·have h:=J.out.1;rw[fW hg.out,HP.out]at h;omega
    ·have h:=J.out.2.1;rw[oD hg.out,HQ.out]at h;omega
   case measure=>simp[intOf];omega
  ·have j':¬(k:Int)<(l.length:Int):=by omega
   have m':D=R/\C=M:=by
    have h:=J.out.2.1;have h':=J.out.1;rw[Lq om]at h h';rw[eP]at h;rw[cQ]at h';omega
   obtain⟨rfl,rfl⟩:=m';go_wp2;exact Lc (v:=.tuple #[KW C,KW ((D:Int)+1)]) (by simp[results,results103,go_sem]) rfl ⟨rfl,ab f'.out hb⟩
theorem F2 (d:Nat):∀(x:Ex) (v:Value) (w:World),aF d w v x.args->aM x<=1048576 ->
  KZ 103 #[exV x v] w (.tuple #[KW (aM x),KW (dy x)]):=by
 induction d with
 | zero=>exact sP 0 (fun z h=>by omega)
 | succ d D=>exact sP (d+1) (fun z h=>Ma h▸D)
def arN (op:Int):Int:=if op<0\/12<op then -1 else if op<5 then 0 else if op=12 then 1 else 2
def arP (op:Int):Int × Bool:=if op<0\/12<op then (0,false) else (arN op,true)
def dr (op:Int):Bool × Bool:=if op=1\/op=4 then (true,true) else if op=2\/op=3 then (true,false) else (false,false)
theorem fO (op:Int) (w:World):KZ 177 #[KW op] w (.tuple #[KW (arP op).1,.bool (arP op).2]):=by
 obtain⟨⟨R,b⟩,z⟩:∃R,arP op=R:=⟨_,rfl⟩;have J:=jD z;rw[z];clear z
 by_cases h0:op<0<;>by_cases F:op > 12<;>by_cases G:op<5<;>by_cases O:op=12
 all_goals first
  | (exfalso;omega)
  | skip
 all_goals
  (try subst O)
  obtain⟨D,I⟩:R=_/\b=_:=by have h:=J.out;simp only[arP,arN]at h;(repeat first|rw[K7 om]at h|rw[K6 om]at h);injection h with F G;exact⟨F.symm,G.symm⟩
  have E1:=jD D;have Z:=jD I;clear D I;go_enter func177,ntmps177;go_wp2;exact Lc (v:=.tuple #[KW R,.bool b]) (by rw[E1.out,Z.out];simp[results,results177,go_sem]) rfl ⟨rfl,La _ _⟩
theorem eL (op:Int) (w:World):KZ 380 #[KW op] w (KW (arN op)):=by
 obtain⟨R,h⟩:=jE (arN op);have z:=jD h;rw[h];clear h;go_enter func380,ntmps380;go_wp2
 all_goals
  go_ret;exact⟨cd (by rw[<-z.out];clear z;unfold arN;exact jA),La _ _⟩
theorem iJ (op:Int) (w:World):KZ 178 #[KW op] w (.tuple #[.bool (dr op).1,.bool (dr op).2]):=by
 obtain⟨⟨R,b⟩,z⟩:∃R,dr op=R:=⟨_,rfl⟩;have J:=jD z;rw[z];clear z
 by_cases h0:op=1<;>by_cases F:op=4<;>by_cases G:op=2<;>by_cases h3:op=3
 all_goals first
  | (exfalso;omega)
  | skip
 all_goals
  obtain⟨D,I⟩:R=_/\b=_:=by have h:=J.out;simp only[dr]at h;(repeat first|rw[K7 om]at h|rw[K6 om]at h);injection h with F G;exact⟨F.symm,G.symm⟩
  have Z:=jD D;have O:=jD I;clear D I;go_enter func178,ntmps178;go_wp2;exact Lc (v:=.tuple #[.bool R,.bool b]) (by rw[Z.out,O.out];simp[results,results178,go_sem]) rfl ⟨rfl,La _ _⟩
theorem gt (op:Int) (w:World):KZ 381 #[KW op] w (.tuple #[.bool (dr op).1,.bool (dr op).2]):=by
 obtain⟨⟨R,b⟩,z⟩:∃R,dr op=R:=⟨_,rfl⟩;have J:=jD z;rw[z];clear z
 by_cases h0:op=1<;>by_cases F:op=4<;>by_cases G:op=2<;>by_cases h3:op=3
 all_goals first
  | (exfalso;omega)
  | skip
 all_goals
  obtain⟨D,I⟩:R=_/\b=_:=by have h:=J.out;simp only[dr]at h;(repeat first|rw[K7 om]at h|rw[K6 om]at h);injection h with F G;exact⟨F.symm,G.symm⟩
  have Z:=jD D;have O:=jD I;clear D I;go_enter func381,ntmps381;go_wp2;exact Lc (v:=.tuple #[.bool R,.bool b]) (by rw[Z.out,O.out];simp[results,results381,go_sem]<;>assumption) rfl ⟨rfl,La _ _⟩
theorem sG (k:Int) (v:Vl) (w:World) (hk:1<=k):KZ 244 #[KW k,vlV v] w (.bool (gL k v)):=by
 obtain⟨R,G⟩:=jE (gL k v);have J:=jD G;rw[G];clear G;have Z:=jD hk;clear hk;unfold vlV
 by_cases h0:v.kind=0
 ·have F:(v.kind==0)=true:=jQ h0;have D:=jD h0;clear h0;go_enter func244,ntmps244;go_wp2;go_ret;exact⟨by rw[<-J.out];simp[gL,D.out],ag _ _⟩
 ·have F:(v.kind==0)=false:=jQ h0;have D:=jD h0;clear h0
  by_cases z:k=4
  ·subst z;go_enter func244,ntmps244;go_wp2;go_ret;exact⟨by rw[<-J.out];simp[gL],ag _ _⟩
  ·have O:(k==4)=false:=jQ z;have H2:=jD z;clear z;go_enter func244,ntmps244;go_wp2;go_ret;exact⟨by rw[<-J.out];have I:k≠0:=(by have:=Z.out;omega);simp[gL,D.out,H2.out,I];by_cases h:k=5<;>simp[h],ag _ _⟩
def pa (x:Ex):Int:=if eu x.val≠0 then eu x.val else if x.op=4/\(gL x.kd x.val=false\/x.kd=1/\cC x.val au=false) then 9 else 0
theorem dT (x:Ex) (A:Option Addr) (n c:Nat) (w:World) (hk:x.op=4->1<=x.kd) :
  KZ 179 #[exV x (.slice A n c)] w (KW (pa x)):=by
 obtain⟨op,l,vr,fl,kd,⟨I,n0,t0⟩⟩:=x;obtain⟨R,hR⟩:=jE (pa (.mk op l vr fl kd ⟨I,n0,t0⟩));have HR:=jD hR;rw[hR];clear hR;have HK:=jD hk;have HV:=jD (ja ⟨I,n0,t0⟩);have HQ:Hid (∀W,(binOp .neq 27 (.agg #[KW I,KW n0,.string t0]) (.agg #[KW 0,KW 0,.string ⟨#[]⟩])).run prog W=.ok (.bool (!cC ⟨I,n0,t0⟩ au)) W):=jD (fun W=>dg ⟨I,n0,t0⟩ au W);obtain⟨z,hz⟩:=jE (eu ⟨I,n0,t0⟩);obtain⟨q,hq⟩:=jE (cC ⟨I,n0,t0⟩ au);obtain⟨b,hb⟩:=jE (gL kd ⟨I,n0,t0⟩);rw[hz]at HV;rw[hq]at HQ;have J:Hid (R=if z≠0 then z else if op=4/\(b=false\/kd=1/\q=false) then 9 else 0):=jD (by rw[<-HR.out,<-hz,<-hb,<-hq];rfl);have HU:Hid (1<=kd->∀W,KZ 244 #[KW kd,vlV ⟨I,n0,t0⟩] W (.bool b)):=jD (fun h W=>hb▸sG kd ⟨I,n0,t0⟩ W h);unfold exV vlV at *;simp only[Ex.op,Ex.vr,Ex.fl,Ex.kd,Ex.val]at HK ⊢;clear hz hq hb HR hk;go_enter func179,ntmps179;go_wp2_with fail;refine (HV.out _).mono ?_;rintro e w1 ⟨rfl,a'⟩;have hn:=(aY a').1;have y0:w1.cell? ⟨w.heap.size,0,none⟩=some (KW op):=by rw[hn];rfl
 have y4:w1.cell? ⟨w.heap.size,4,none⟩=some (KW kd):=by rw[hn];rfl
 have y5:w1.cell? ⟨w.heap.size,5,none⟩=some (KW I):=by rw[hn];rfl
 have y6:w1.cell? ⟨w.heap.size,6,none⟩=some (KW n0):=by rw[hn];rfl
 have Z:w1.cell? ⟨w.heap.size,7,none⟩=some (.string t0):=by rw[hn];rfl
 have G:=jD (ab (ag w _) a');clear hn a'
 by_cases hz:z=0
 case neg =>
  obtain rfl:R=z:=by rw[J.out,K7 hz]
  have c':(R==0)=false:=jQ hz;clear hz;exact fi G.out
 subst hz
 by_cases h4:op=4
 case neg =>
  obtain rfl:R=0:=by rw[J.out,K6 jS,K6 (fun h=>h4 h.1)]
  have d':(op==4)=false:=jQ h4;clear h4;exact fi G.out
 subst h4;have O:=jD (HU.out (HK.out rfl));have hR:R=if b=false\/kd=1/\q=false then 9 else 0:=by rw[J.out];simp
 have F:=jD hR;have hq:=HQ.out;clear HU HK J hR HQ HV
 cases b with
 | false =>
  obtain rfl:R=9:=by rw[F.out];simp
  clear F;go_wp2_with fail;refine (O.out _).mono ?_;rintro e w' ⟨rfl,D⟩;replace y5:=aa D y5;replace y6:=aa D y6;replace Z:=aa D Z;replace y4:=aa D y4;exact fi (ab G.out D)
 | true =>
  by_cases h1:kd=1
  ·subst h1
   cases q with
   | false =>
    obtain rfl:R=9:=by rw[F.out];simp
    clear F;go_wp2_with fail;refine (O.out _).mono ?_;rintro e w' ⟨rfl,D⟩;replace y5:=aa D y5;replace y6:=aa D y6;replace Z:=aa D Z;replace y4:=aa D y4;exact fi (ab G.out D)
   | true =>
    obtain rfl:R=0:=by rw[F.out];simp
    clear F;go_wp2_with fail;refine (O.out _).mono ?_;rintro e w' ⟨rfl,D⟩;replace y5:=aa D y5;replace y6:=aa D y6;replace Z:=aa D Z;replace y4:=aa D y4;exact fi (ab G.out D)
  ·have b':(kd==1)=false:=jQ h1;obtain rfl:R=0:=by rw[F.out,K6 (by simp[h1])]
   clear F h1;go_wp2_with fail;refine (O.out _).mono ?_;rintro e w' ⟨rfl,D⟩;replace y5:=aa D y5;replace y6:=aa D y6;replace Z:=aa D Z;replace y4:=aa D y4;exact fi (ab G.out D)
end Go.Proofs.YtokconodddedhaaGreatDoor
