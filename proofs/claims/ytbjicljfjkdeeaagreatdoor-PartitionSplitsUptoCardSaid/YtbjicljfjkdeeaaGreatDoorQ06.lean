/- Part. -/
import Derived.Lib.ItoaLen
import Derived.Lib.Join
import Derived.Test.YtbjicljfjkdeeaaGreatDoorQ05
import Derived.HandedShaped
import Derived.Test.YtbjicljfjkdeeaaGreatDoorQ04
set_option maxRecDepth 100000
set_option maxHeartbeats 16000000
set_option linter.unusedVariables false
set_option linter.unusedSimpArgs false
namespace Go.Proofs.YtbjicljfjkdeeaaGreatDoor
open Go.Proofs.Tryz Go.RowKit
section
open Go.RowKit Go.Lib
structure Nv where
 name:ByteArray
 ty:Int
def K7 (w:World) (b p:Nat) (x:Nv):Prop:=w.cell? ⟨b,p,none⟩=some (.string x.name)/\w.cell? ⟨b,p+1,none⟩=some (Mk x.ty)
theorem AC:jp K7:=fun _ _ _ _ _ hb ⟨h0,h⟩=>⟨aa hb h0,aa hb h⟩
abbrev Kh (w:World) (v:Value) (l:List Nv):Prop:=Sl K7 2 w v l
def L6:ByteArray:=⟨#[]⟩
end
section
open Go.RowKit Go.Lib
theorem zC {wf X Y:World} {B:Nat} {row:Option Nat} (h:wf.grownBy X (some B)) (k:X.grownBy Y row) (hr:∀r,row=some r->r=B\/wf.heap.size<=r):wf.grownBy Y (some B):=by
 refine⟨k.os.trans h.os,k.tape.trans h.tape,k.output.trans h.output,Mx h.size k.size,fun j G z=>?_⟩;refine (k.block j (ME G h.size) fun e=>?_).trans (h.block j G z);rcases hr j e.symm with rfl|h1
 ·exact z rfl
 ·omega
theorem aZ {w wf X:World} {B:Nat} (z:Mm w wf) (h:wf.grownBy X (some B)) (G:w.heap.size<=B):Mm w X :=
 z.grown h z.size (fun k e=>by cases e;exact G)
theorem KB {W:World} {base e size:Nat} {v:Value} {k:Nat} {xs:List Value} (h:W.ownsRow base e size v k xs) {g:Nat} (z:v.ownBlock=some g):base<=g/\∃cur,W.heap[g]?=some (.cells cur e (0,0)):=by
 rcases h.2 with ⟨rfl,_⟩|⟨g',cap,cur,rfl,h1,h2,_⟩
 ·simp[Value.ownBlock]at z
 ·have:g'=g:=by simpa [Value.ownBlock] using z
  subst this;exact⟨h1,cur,h2⟩
def Out (wf:World) (B:Nat) (t e:TypeId) (l:List ByteArray) (W:World):Prop :=
 wf.grownBy W (some B)/\∃v,Boxed W B t v/\W.ownsRow wf.heap.size e 1 v l.length (l.map Value.string)
theorem Out.own {wf:World} {B:Nat} {t e:TypeId} {l:List ByteArray} {X Y:World} {row:Option Nat} (hB:B<wf.heap.size) (h:Out wf B t e l X) (z:X.grownBy Y row)
  (hr:∀r,row=some r->wf.heap.size<=r/\∃o:Obj,X.heap[r]?=some o/\o.isCells=false):Out wf B t e l Y:=by
 obtain⟨h1,v,Z,I⟩:=h;refine⟨zC h1 z (fun r e=>.inr (hr r e).1),v,Z.kept z (fun e=>?_),I.kept z ?_⟩
 ·have:=(hr B e.symm).1;omega
 ·cases O:v.ownBlock with
  | none =>
   rcases I.2 with ⟨rfl,_⟩|⟨g,cap,cur,rfl,_⟩
   ·exact .inl rfl
   ·simp[Value.ownBlock]at O
  | some g =>
   refine .inr fun e=>?_
   obtain⟨_,cur,hc⟩:=KB I O;obtain⟨_,o,J,G⟩:=hr g e.symm;rw[hc]at J;cases J;cases G
end
section
open Go.ChangeShapes Go.WideShapes Go.ChangeAt Go.RowKit Go.Deep
theorem Ht {α:Type} {l:List α} (h:l.length=5):∃a b c d e,l=[a,b,c,d,e]:=by
 match l,h with
 | [a,b,c,d,e],_=>exact⟨a,b,c,d,e,rfl⟩
theorem fm:prog.cellsOf 9=1:=kr
theorem Dd:prog.cellsOf 41=1:=kr
theorem pw:prog.cellsOf 27=3:=kr
theorem Do:prog.cellsOf 60=5:=kr
theorem Hs:prog.cellsOf 99=2:=kr
section
variable {H : Type} {enc : TypeId × Value -> H} {w : World} {base : Nat} {spare : Nat -> Bool} {held : Bool}
theorem IU (n b o:Nat) (cs:List Value) (y:DataW H × List MemPlace) (hl:cs.length=3) (G:∀(j:Nat) (u:Value),cs[j]?=some u->w.cell? ⟨b,o+j,none⟩=some u)
  (h:DataW.trod enc prog w base spare held n 27 cs=some y):∃x,me w b o x:=by
 obtain⟨c0,c1,c2,rfl⟩:=sx hl;obtain⟨xs,m,_,_,_,z,hf⟩:=N0 underlying27 h;obtain⟨x0,x1,x2,rfl⟩:=sx (jQ z);have f0:=hf 0 _ rfl;have f1:=hf 1 _ rfl;have f2:=hf 2 _ rfl;simp[dp,fm]at f0 f1 f2;obtain⟨k0,I,_⟩:=MS underlying3 f0;obtain⟨Z,O,_⟩:=MS underlying3 f1;obtain⟨k2,J,_⟩:=Pp underlying9 f2;simp only[Nf,Ns]at I O J;subst I O J;exact⟨⟨k0,Z,k2⟩,G 0 _ rfl,G 1 _ rfl,G 2 _ rfl⟩
theorem I6 (n b o:Nat) (cs:List Value) (y:DataW H × List MemPlace) (hl:cs.length=2) (J:∀(j:Nat) (u:Value),cs[j]?=some u->w.cell? ⟨b,o+j,none⟩=some u)
  (h:DataW.trod enc prog w base spare held n 99 cs=some y):∃x,K7 w b o x:=by
 obtain⟨c0,c1,rfl⟩:=Bw hl;obtain⟨xs,m,_,_,_,z,hf⟩:=N0 underlying99 h;obtain⟨x0,x1,rfl⟩:=Bw (jQ z);have f0:=hf 0 _ rfl;have f1:=hf 1 _ rfl;simp[dp,fm]at f0 f1;obtain⟨Z,G,_⟩:=Pp underlying9 f0;obtain⟨O,I,_⟩:=MS underlying3 f1;simp only[Nf,Ns]at G I;subst G I;exact⟨⟨Z,O⟩,J 0 _ rfl,J 1 _ rfl⟩
theorem GL {fuel:Nat} {v:Value} {y:DataW H × List MemPlace} (h:DataW.trod enc prog w base spare held fuel 22 [v]=some y):∃l,Kh w v l :=
 pf underlying22 Hs dc (fun n b o cs y G z I=>I6 n b o cs y G z I) h
end
section
variable {H : Type} {enc : TypeId × Value -> H}
end
end
section
open Go.ChangeShapes Go.WideShapes Go.ChangeAt Go.RowKit Go.Deep
inductive Ex
 | mk (op:Int) (args:List Ex) (vr fl kd:Int) (val:Vl)
def Ex.op:Ex->Int|.mk a _ _ _ _ _=>a
def Ex.args:Ex->List Ex|.mk _ a _ _ _ _=>a
def Ex.vr:Ex->Int|.mk _ _ a _ _ _=>a
def Ex.fl:Ex->Int|.mk _ _ _ a _ _=>a
def Ex.kd:Ex->Int|.mk _ _ _ _ a _=>a
def Ex.val:Ex->Vl|.mk _ _ _ _ _ a=>a
mutual
def aF:Ex->Nat
 | .mk _ l _ _ _ _=>1+cH l
def cH:List Ex->Nat
 | []=>0
 | a::r=>aF a+cH r
end
theorem eV (x:Ex):aF x=1+cH x.args:=by cases x;rw[aF];rfl
theorem qk (l:List Ex):cH l=(l.map aF).sum:=by
 induction l with
 | nil=>rw[cH];rfl
 | cons a r h=>rw[cH,h];rfl
def rD:Nat->World->Nat->Nat->Ex->Prop
 | 0=>fun _ _ _ _=>False
 | d+1=>fun w b p x=>∃v,Sl (rD d) 8 w v x.args/\w.cell? ⟨b,p,none⟩=some (Mk x.op)/\w.cell? ⟨b,p+1,none⟩=some v /\
   w.cell? ⟨b,p+2,none⟩=some (Mk x.vr)/\w.cell? ⟨b,p+3,none⟩=some (Mk x.fl)/\w.cell? ⟨b,p+4,none⟩=some (Mk x.kd)/\me w b (p+5) x.val
theorem ai (d:Nat):jp (rD d):=by
 induction d with
 | zero=>exact fun _ _ _ _ _ _ h=>h
 | succ d z=>exact fun _ _ _ _ _ hb ⟨v,G,h0,O,I,h3,J,Z⟩=>⟨v,G.stays z hb,aa hb h0,aa hb O,aa hb I,aa hb h3,aa hb J,aD _ _ _ _ _ hb Z⟩
theorem oW {α:Type} {R S:World->Nat->Nat->α->Prop} {sz:Nat} {w:World} {v:Value} {l:List α} (z:∀b p x,R w b p x->S w b p x) (h:Sl R sz w v l):Sl S sz w v l:=by
 obtain⟨A,c,e,I,G,J⟩:=h;exact⟨A,c,e,I,G,fun k x hk=>by obtain⟨b,o,e,hr⟩:=J k x hk;exact⟨b,o,e,z _ _ _ hr⟩⟩
theorem sl (d:Nat):∀(w:World) (b p:Nat) (x:Ex),rD d w b p x->rD (d+1) w b p x:=by
 induction d with
 | zero=>exact fun _ _ _ _ h=>h.elim
 | succ d z=>exact fun w b p x ⟨v,G,h⟩=>⟨v,oW (fun b p x=>z w b p x) G,h⟩
theorem I4 {d e:Nat} (h:d<=e) {w:World} {b p:Nat} {x:Ex} (G:rD d w b p x):rD e w b p x:=by
 induction h with
 | refl=>exact G
 | step _ z=>exact sl _ _ _ _ _ z
abbrev aK (d:Nat) (w:World) (v:Value) (l:List Ex):Prop:=Sl (rD d) 8 w v l
def exV (x:Ex) (v:Value):Value:=.agg #[Mk x.op,v,Mk x.vr,Mk x.fl,Mk x.kd,Mk x.val.kind,Mk x.val.num,.string x.val.text]
theorem lN:prog.cellsOf 29=8:=kr
theorem nM:prog.cellsOf 25=1:=kr
theorem Br {α:Type} {l:List α} (h:l.length=6):∃a b c d e f,l=[a,b,c,d,e,f]:=by
 match l,h with
 | [a,b,c,d,e,f],_=>exact⟨a,b,c,d,e,f,rfl⟩
theorem Kq {α:Type} {l:List α} (h:l.length=8):∃a b c d e f g i,l=[a,b,c,d,e,f,g,i]:=by
 match l,h with
 | [a,b,c,d,e,f,g,i],_=>exact⟨a,b,c,d,e,f,g,i,rfl⟩
theorem F7 {H:Type} (d:DataW H):1<=Rows.uptoBulk d:=by
 cases d with
 | lit l=>cases l<;>simp[Rows.uptoBulk]
 | nil=>simp[Rows.uptoBulk]
 | ptr d=>simp[Rows.uptoBulk]
 | slice elems spare=>simp[Rows.uptoBulk]
 | agg parts=>simp[Rows.uptoBulk]
 | iface t d=>simp[Rows.uptoBulk]
 | map entries=>simp[Rows.uptoBulk]
 | held h=>simp[Rows.uptoBulk]
theorem nA {H:Type} {d:DataW H} {l:List (DataW H)} (h:d∈l):Rows.uptoBulk d<=Rows.uptoBulkAll l:=by
 induction l with
 | nil=>cases h
 | cons x r z =>
  simp only[Rows.uptoBulkAll]
  cases List.mem_cons.1 h with
  | inl e=>subst e;omega
  | inr e=>have:=z e;omega
theorem yM {H α:Type} (m:α->Nat):∀(l:List α) (ds:List (DataW H)),l.length=ds.length->(∀(k:Nat) (x:α) (d:DataW H),l[k]?=some x->ds[k]?=some d->m x<=Rows.uptoBulk d)->(l.map m).sum<=Rows.uptoBulkAll ds
 | [],_,_,_=>by simp
 | a::l,[],h,_=>by simp at h
 | a::l,d::ds,h,hk=>by
  have J:=yM m l ds (jQ h) (fun k x d G z=>hk (k+1) x d (jQ G) (jQ z));have I:=hk 0 a d rfl rfl;simp only[Rows.uptoBulkAll,MF,N1];omega
section
variable {H : Type} {enc : TypeId × Value -> H} {P : Program} {w : World} {base : Nat} {spare : Nat -> Bool} {held : Bool}
theorem lW {α:Type} {R:World->Nat->Nat->α->Prop} {m:α->Nat} {sz:Nat} {t e:TypeId} (ht:P.underlying t=some (.slice e)) (h':P.cellsOf e=sz) (c':0<sz)
  {fuel:Nat} (hR:∀(n b o:Nat) (cs:List Value) (y:DataW H × List MemPlace),n<fuel->cs.length=sz->(∀(j:Nat) (u:Value),cs[j]?=some u->w.cell? ⟨b,o+j,none⟩=some u)->DataW.trod enc P w base spare held n e cs=some y->∃x,R w b o x/\m x<=Rows.uptoBulk y.1)
  {v:Value} {y:DataW H × List MemPlace} (h:DataW.trod enc P w base spare held fuel t [v]=some y):∃l:List α,Sl R sz w v l/\(l.map m).sum+1<=Rows.uptoBulk y.1:=by
 rcases DataW.trod_slice ht h with ⟨I,hy⟩|⟨a,len,cap,elems,rest,n,rfl,I,hy,_,hl,hm,hlen,hi,_⟩
 ·simp only[Nf,Ns]at I;subst I;exact⟨[],Sl.nil _ _ _ _ _ (Mu _),F7 _⟩
 ·simp only[Nf,Ns]at I;subst I;subst hy;have hb:∀l:List α,l.length=len->(∀(k:Nat) (x:α) (d:DataW H × List MemPlace),l[k]?=some x->elems[k]?=some d->m x<=Rows.uptoBulk d.1)->(l.map m).sum+1<=Rows.uptoBulk (DataW.slice (elems.map (·.1)) (rest.map (·.1))):=by
   intro l hl hk;have:=yM m l (elems.map (·.1)) (by simp[hl,hlen]) (fun k x d hx hd=>by
    rw[MA,Option.map_eq_some_iff]at hd;obtain⟨d',J,rfl⟩:=hd;exact hk k x d' hx J)
   simp only[Rows.uptoBulk];omega
  rcases OT len with h0|h0
  ·subst h0;exact⟨[],Sl.nil _ _ _ _ _ hm,hb [] rfl (fun k x d hx=>by simp at hx)⟩
  ·have G:∀i,i<len->∃z d,elems[i]?=some d/\w.cells? base (a.add (i*sz)) sz=some z/\DataW.trod enc P w base spare held n e z=some d:=by
    intro i Z;have h1:=hi i Z;rw[Mq om,Option.bind_eq_some_iff]at h1;obtain⟨z,h2,h3⟩:=h1;rw[h']at h2;exact⟨z,_,Mq om,h2,h3⟩
   have O:∃b o,a=⟨b,o,none⟩:=by
    obtain⟨z,_,_,hc,_⟩:=G 0 h0;obtain⟨_,g',G⟩:=World.cells?_some hc;have h2:=G 0 c';rw[Mq om]at h2;have h3:=World.cell?_spot h2;obtain⟨b,o,sp⟩:=a;simp only[Addr.add,Nn,M5]at h3;exact⟨b,o,jQ h3⟩
   obtain⟨b,o,rfl⟩:=O;obtain⟨l,a',f'⟩:=jx (fun k x=>R w b (o+k*sz) x/\∀d,elems[k]?=some d->m x<=Rows.uptoBulk d.1) len (fun i Z=>by
    obtain⟨z,d,hd,hc,i'⟩:=G i Z;obtain⟨_,g',G⟩:=World.cells?_some hc;obtain⟨x,hx,hm⟩:=hR n b (o+i*sz) z _ (Nat.lt_succ_self _) g' (fun j u hj=>by
     have h4:=G j (by have:=(List.getElem?_eq_some_iff.1 hj).1;omega);rw[cN,cN,hj]at h4;exact h4) i'
    exact⟨x,hx,fun d' J=>by rw[hd]at J;cases J;exact hm⟩)
   exact⟨l,⟨some ⟨b,o,none⟩,cap,by rw[a'],by omega,hm,fun k x hk=>⟨b,o,rfl,(f' k x hk).1⟩⟩,hb l a' (fun k x d hx hd=>(f' k x hx).2 d hd)⟩
end
section
variable {H : Type} {enc : TypeId × Value -> H} {w : World} {base : Nat} {spare : Nat -> Bool} {held : Bool}
theorem CC (fuel:Nat):∀(n:Nat),n<=fuel->∀(b o:Nat) (cs:List Value) (y:DataW H × List MemPlace),cs.length=8->(∀(j:Nat) (u:Value),cs[j]?=some u->w.cell? ⟨b,o+j,none⟩=some u) ->
  DataW.trod enc prog w base spare held n 29 cs=some y->∃x,rD fuel w b o x/\aF x<=Rows.uptoBulk y.1:=by
 induction fuel with
 | zero =>
  intro n hn b o cs y hl z h;obtain⟨xs,m,hm,_⟩:=N0 underlying29 h;omega
 | succ fuel ih =>
  intro n hn b o cs y hl z h;obtain⟨c0,c1,c2,c3,c4,c5,c6,c7,rfl⟩:=Kq hl;obtain⟨xs,m,hm,hy,_,G,hf⟩:=N0 underlying29 h;obtain⟨x0,x1,x2,x3,x4,x5,rfl⟩:=Br (jQ G);have f0:=hf 0 _ rfl;have f1:=hf 1 _ rfl;have f2:=hf 2 _ rfl;have f3:=hf 3 _ rfl;have f4:=hf 4 _ rfl;have f5:=hf 5 _ rfl;simp[dp,nM,pw]at f0 f1 f2 f3 f4 f5;obtain⟨k0,O,_⟩:=MS underlying3 f0;obtain⟨k2,e2,_⟩:=MS underlying3 f2;obtain⟨Z,e3,_⟩:=MS underlying3 f3;obtain⟨k4,e4,_⟩:=MS underlying3 f4;obtain⟨vl,I⟩:=IU m b (o+5) _ x5 rfl (fun j u hj=>by have:=z (j+5) u (jQ hj);rw[NT,Nat.add_comm 5 j];exact this) f5;obtain⟨l,J,a'⟩:=lW (m:=aF) underlying25 lN dc (fun n b o cs y hn h1 h2 h3=>ih n om b o cs y h1 h2 h3) f1;simp only[Nf,Ns]at O e2 e3 e4;subst O e2 e3 e4;refine⟨.mk k0 l k2 Z k4 vl,⟨c1,J,z 0 _ rfl,z 1 _ rfl,z 2 _ rfl,z 3 _ rfl,z 4 _ rfl,I⟩,?_⟩;subst hy;rw[eV,show (Ex.mk k0 l k2 Z k4 vl).args=l from rfl,qk];have h1:=nA (d:=x1.1) (l:=[x0.1,x1.1,x2.1,x3.1,x4.1,x5.1]) jS;simp only[Rows.uptoBulk,MF,Om];omega
theorem xn {fuel:Nat} {v:Value} {y:DataW H × List MemPlace} (h:DataW.trod enc prog w base spare held fuel 25 [v]=some y):∃l,aK fuel w v l/\(l.map aF).sum+1<=Rows.uptoBulk y.1 :=
 lW (m:=aF) underlying25 lN dc (fun n b o cs y J G z I=>CC fuel n om b o cs y G z I) h
end
end
theorem bM {n:Nat} (h:n<=1099511627776):IntKind.i64.wrap (n:Int)=(n:Int):=by
 simp[IntKind.wrap,IntKind.bits,IntKind.signed];omega
mutual
def cR (h:Nat):Ex->Nat
 | .mk _ l _ _ _ _=>dy h 1 l
def dy (h:Nat) (n:Nat):List Ex->Nat
 | []=>n
 | a::r=>if n<=h then dy h (n+cR h a) r else n
end
mutual
def dA:Ex->Nat
 | .mk _ l _ _ _ _=>eF l+1
def eF:List Ex->Nat
 | []=>0
 | a::r=>max (dA a) (eF r)
end
theorem C9 (h:Nat) (x:Ex):cR h x=dy h 1 x.args:=by cases x;rw[cR];rfl
theorem sP (x:Ex):dA x=eF x.args+1:=by cases x;rw[dA];rfl
mutual
theorem iF (h:Nat):∀x,cR h x<=aF x
 | .mk o l a b c v=>by
  have:=sU h 1 l;rw[cR,aF];exact this
theorem sU (h n:Nat):∀l,dy h n l<=n+cH l
 | []=>by rw[dy];omega
 | a::r=>by
  rw[dy,cH]
  split
  ·have:=iF h a;have:=sU h (n+cR h a) r;omega
  ·omega
end
theorem sR (h:Nat):∀(l:List Ex) (n:Nat),n<=dy h n l
 | [],n=>by rw[dy];omega
 | a::r,n=>by
  rw[dy]
  split
  ·have:=sR h r (n+cR h a);omega
  ·omega
mutual
theorem pH (h:Nat):∀x,cR h x<=h->cR h x=aF x
 | .mk o l a b c v=>by
  have:=qQ h 1 l;rw[cR,aF];exact this
theorem qQ (z n:Nat):∀l,dy z n l<=z->dy z n l=n+cH l
 | []=>by rw[dy,cH];omega
 | a::r=>by
  rw[dy,cH]
  split
  ·intro h;have G:=sR z r (n+cR z a);have:=pH z a om;have:=qQ z (n+cR z a) r h;omega
  ·omega
end
theorem rA (z:Nat) (x:Ex):cR z x<=z↔aF x<=z:=by
 constructor
 ·intro h;rw[<-pH z x h];exact h
 ·intro h;exact Mx (iF z x) h
mutual
theorem EJ:∀x,dA x<=aF x
 | .mk o l a b c v=>by
  have:=kH l;rw[dA,aF];omega
theorem kH:∀l,eF l<=cH l
 | []=>by rw[eF];omega
 | a::r=>by
  have:=EJ a;have:=kH r;rw[eF,cH];omega
end
theorem fN {l:List Ex} {k:Nat} {a:Ex} (h:l[k]?=some a):cH (l.drop k)=aF a+cH (l.drop (k+1)):=by
 obtain⟨z,rfl⟩:=List.getElem?_eq_some_iff.1 h;rw[Nd z,cH]
theorem ot {l:List Ex} {k:Nat} {a:Ex} (h:l[k]?=some a):eF (l.drop k)=max (dA a) (eF (l.drop (k+1))):=by
 obtain⟨z,rfl⟩:=List.getElem?_eq_some_iff.1 h;rw[Nd z,eF]
theorem oB {z n:Nat} {l:List Ex} {k:Nat} {a:Ex} (h:l[k]?=some a):dy z n (l.drop k)=if n<=z then dy z (n+cR z a) (l.drop (k+1)) else n:=by
 obtain⟨G,rfl⟩:=List.getElem?_eq_some_iff.1 h;rw[Nd G,dy]
theorem kD {l:List Ex} {k:Nat} {a:Ex} (h:l[k]?=some a):aF a<=cH l:=by
 induction l generalizing k with
 | nil=>simp at h
 | cons b r z =>
  rw[cH]
  cases k with
  | zero=>simp at h;subst h;omega
  | succ k=>have:=z (k:=k) (jQ h);omega
theorem fk {d:Nat} {w:World} {b p:Nat} {x:Ex} (h:rD d w b p x):∃z v,d=z+1/\aK z w v x.args/\w.cell? ⟨b,p,none⟩=some (Mk x.op)/\w.cell? ⟨b,p+1,none⟩=some v /\
  w.cell? ⟨b,p+2,none⟩=some (Mk x.vr)/\w.cell? ⟨b,p+3,none⟩=some (Mk x.fl)/\w.cell? ⟨b,p+4,none⟩=some (Mk x.kd) /\
  w.cell? ⟨b,p+5,none⟩=some (Mk x.val.kind)/\w.cell? ⟨b,p+6,none⟩=some (Mk x.val.num)/\w.cell? ⟨b,p+7,none⟩=some (.string x.val.text):=by
 cases d with
 | zero=>exact h.elim
 | succ d =>
  obtain⟨v,I,h0,Z,J,h3,O,h5,G,h7⟩:=h;exact⟨d,v,rfl,I,h0,Z,J,h3,O,h5,G,h7⟩
theorem nZ (L d:Nat) (hL:L<=1048576) (z:∀d',d=d'+1->∀(x:Ex) (v:Value) (w:World),aK d' w v x.args->aF x<=1048576 ->
   Mn 138 #[exV x v,Mk L] w (Mk (cR L x)))
  (x:Ex) (v:Value) (w:World) (hx:aK d w v x.args) (hN:aF x<=1048576) :
  Mn 138 #[exV x v,Mk L] w (Mk (cR L x)):=by
 have c':=jD z;obtain⟨op,l,vr,fl,kd,⟨k0,n0,t0⟩⟩:=x;rw[C9];rw[eV]at hN;obtain⟨A,c,rfl,h1,h2,Z⟩:=hx;simp only[Ex.args]at hN h1 h2 Z ⊢;have n':=ay h1 h2;have HL:=jD Z;have HN:=jD hN;have q':=jD hL;obtain⟨R,hR⟩:=jE (dy L 1 l);have HR:=jD hR;rw[hR];unfold exV;simp only[Ex.args,Ex.op,Ex.vr,Ex.fl,Ex.kd,Ex.val];clear Z h1 h2 hR hN z hL;go_enter func138,ntmps138;go_wp2;refine bg fun w1 e1=>?_
 have y1:Ml w1 w.heap.size 1 (.slice A l.length c):=jG e1;have g':Mm w w1:=gb e1;clear e1;have O:=jD g';clear g'
 go_loopw [5,6] (fun n i wr=>∃k C:Nat,k<=l.length/\i=Mk k/\n=Mk C/\Hid (dy L C (l.drop k)=R/\C+cH (l.drop k)<=1048576/\Mm w1 wr)) (fun n i _=>l.length-(intOf i).toNat)
 case atStart=>exact⟨0,1,Mu _,rfl,rfl,jD ⟨HR.out,HN.out,Mr _ _⟩⟩
 case round =>
  obtain⟨k,C,hk,rfl,rfl,hI⟩:=hrel;have hb:=hI.out.2.2;have z1:=aa hb y1
  by_cases I:k<l.length
  ·have h':(k:Int)<(l.length:Int):=by omega
   by_cases hC:C<=L
   ·have l':(C:Int)<=(L:Int):=by omega
    obtain⟨b,o,rfl,J⟩:=HL.out k l[k] (Mq I);have hg:=jD (Mq I);obtain⟨a,ha⟩:=jF (l[k]);rw[<-ha]at hg J;clear ha;obtain⟨d',v',a',f',p0,p1,p2,p3,p4,p5,p6,p7⟩:=fk (ai d _ _ _ _ _ (ab O.out hb) J);have m':aF a<=1048576:=by have:=fN hg.out;have:=hI.out.2.1;omega
    obtain⟨Q,hQ⟩:=jE (cR L a);have HC:=jD (fun (W:World) (hW:Mm wr W)=>c'.out d' a' a v' W (f'.stays (ai d') hW) m');unfold exV at HC;rw[hQ]at HC;have r':Q<=1048576:=by have:=iF L a;omega
    have HQ:=jD hQ;have hs:=hI.out.2.1;have p':IntKind.i64.wrap ((C:Int)+(Q:Int))=((C+Q:Nat):Int):=by
     have hq:=fN hg.out;have k':=iF L a;have i':C+Q<=1048576:=by omega
     rw[<-Oe,bM om]
    clear hQ J a' f' hs;go_wp2_with fail;refine (HC.out _ (Mr _ _)).mono ?_;rintro e w' ⟨rfl,j'⟩;go_wp2_with fail
    go_roundw
    case rel =>
     refine⟨k+1,C+Q,by omega,by go_num,rfl,jD ⟨?_,?_,ab hb j'⟩⟩
     ·have h:=hI.out.1;rw[oB hg.out,Mp hC,HQ.out]at h;exact h
     ·have hq:=fN hg.out;have k':=iF L a;have i':=HQ.out;have hs:=hI.out.2.1;omega
    case measure=>simp[intOf];omega
   ·have l':¬(C:Int)<=(L:Int):=by omega
    have G:C=R:=by
     have h:=hI.out.1;rw[oB (Mq I),Mo hC]at h;exact h
    subst G;exact fi (ab O.out hb)
  ·have h':¬(k:Int)<(l.length:Int):=by omega
   have G:C=R:=by
    have h:=hI.out.1;rw[No om,dy]at h;exact h
   subst G;exact fi (ab O.out hb)
theorem qt (L:Nat) (hL:L<=1048576) (d:Nat):∀(x:Ex) (v:Value) (w:World),aK d w v x.args->aF x<=1048576 ->
  Mn 138 #[exV x v,Mk L] w (Mk (cR L x)):=by
 induction d with
 | zero=>exact nZ L 0 hL (fun G h=>by omega)
 | succ d z=>exact nZ L (d+1) hL (fun G h=>NU h▸z)
theorem oy (d:Nat) (z:∀Z,d=Z+1->∀(x:Ex) (v:Value) (w:World),aK Z w v x.args->aF x<=1048576 ->
   Mn 139 #[exV x v] w (Mk (dA x)))
  (x:Ex) (v:Value) (w:World) (hx:aK d w v x.args) (hN:aF x<=1048576) :
  Mn 139 #[exV x v] w (Mk (dA x)):=by
 have c':=jD z;obtain⟨op,l,vr,fl,kd,⟨k0,n0,t0⟩⟩:=x;rw[sP];rw[eV]at hN;obtain⟨A,c,rfl,h1,h2,I⟩:=hx;simp only[Ex.args]at hN h1 h2 I ⊢;have m':=ay h1 h2;have HL:=jD I;have HN:=jD hN;obtain⟨R,hR⟩:=jE (eF l);have k':R<1048576:=by have:=kH l;omega
 have HR:=jD hR;rw[hR];have n':IntKind.i64.wrap ((R:Int)+1)=(R:Int)+1:=bM (n:=R+1) om;unfold exV;simp only[Ex.args,Ex.op,Ex.vr,Ex.fl,Ex.kd,Ex.val];clear I h1 h2 hR hN z k';go_enter func139,ntmps139;go_wp2;refine bg fun w1 e1=>?_
 have y1:Ml w1 w.heap.size 1 (.slice A l.length c):=jG e1;have g':Mm w w1:=gb e1;clear e1;have a':=jD g';clear g'
 go_loopw [3,4] (fun n i wr=>∃k C:Nat,k<=l.length/\i=Mk k/\n=Mk C/\Hid (max C (eF (l.drop k))=R/\Mm w1 wr)) (fun n i _=>l.length-(intOf i).toNat)
 case atStart=>exact⟨0,0,Mu _,rfl,rfl,jD ⟨by rw[OD,HR.out];omega,Mr _ _⟩⟩
 case round =>
  obtain⟨k,C,hk,rfl,rfl,hI⟩:=hrel;have hb:=hI.out.2;have z1:=aa hb y1
  by_cases O:k<l.length
  ·have h':(k:Int)<(l.length:Int):=by omega
   obtain⟨b,o,rfl,G⟩:=HL.out k l[k] (Mq O);have hg:=jD (Mq O);obtain⟨a,ha⟩:=jF (l[k]);rw[<-ha]at hg G;clear ha;obtain⟨Z,v',J,f',p0,p1,p2,p3,p4,p5,p6,p7⟩:=fk (ai d _ _ _ _ _ (ab a'.out hb) G);have l':aF a<=1048576:=by have:=kD hg.out;have:=HN.out;omega
   obtain⟨Q,hQ⟩:=jE (dA a);have HC:=jD (fun (W:World) (hW:Mm wr W)=>c'.out Z J a v' W (f'.stays (ai Z) hW) l');unfold exV at HC;rw[hQ]at HC;have HQ:=jD hQ;clear hQ G J f';go_wp2_with fail;refine (HC.out _ (Mr _ _)).mono ?_;rintro e w' ⟨rfl,j'⟩;go_wp2_with fail
   go_roundw
   case rel =>
    refine⟨k+1,max C Q,by omega,by go_num,?_,jD ⟨?_,ab hb j'⟩⟩
    ·exact congrArg (Value.int .i64) om
    ·have h:=hI.out.1;rw[ot hg.out,HQ.out]at h;omega
   case measure=>simp[intOf];omega
  ·have h':¬(k:Int)<(l.length:Int):=by omega
   have i':C=R:=by
    have h:=hI.out.1;rw[No om,eF]at h;omega
   subst i';exact fi (ab a'.out hb)
theorem qy (d:Nat):∀(x:Ex) (v:Value) (w:World),aK d w v x.args->aF x<=1048576 ->
  Mn 139 #[exV x v] w (Mk (dA x)):=by
 induction d with
 | zero=>exact oy 0 (fun G h=>by omega)
 | succ d z=>exact oy (d+1) (fun G h=>NU h▸z)
theorem tS (d:Nat) (z:∀d',d=d'+1->∀(x:Ex) (v:Value) (w:World),aK d' w v x.args->aF x<=1048576 ->
   Mn 170 #[exV x v] w (.tuple #[Mk (aF x),Mk (dA x)]))
  (x:Ex) (v:Value) (w:World) (hx:aK d w v x.args) (hN:aF x<=1048576) :
  Mn 170 #[exV x v] w (.tuple #[Mk (aF x),Mk (dA x)]):=by
 have g':=jD z;obtain⟨op,l,vr,fl,kd,⟨k0,n0,t0⟩⟩:=x;rw[sP];obtain⟨M,hM⟩:=jE (aF (.mk op l vr fl kd ⟨k0,n0,t0⟩));have HM:Hid (1+cH l=M):=jD (by rw[<-hM,eV];rfl);rw[hM]at hN ⊢;clear hM;obtain⟨A,c,rfl,h1,h2,I⟩:=hx;simp only[Ex.args]at h1 h2 I ⊢;have r':=ay h1 h2;have HL:=jD I;have HN:=jD hN;obtain⟨R,hR⟩:=jE (eF l);have p':R<1048576:=by have:=kH l;have:=HM.out;omega
 have HR:=jD hR;rw[hR];have s':IntKind.i64.wrap ((R:Int)+1)=(R:Int)+1:=bM (n:=R+1) om;unfold exV;simp only[Ex.op,Ex.vr,Ex.fl,Ex.kd,Ex.val];clear I h1 h2 hR hN z p';go_enter func170,ntmps170;go_wp2;refine bg fun w1 e1=>?_
 have j':Mm w w1:=gb e1;clear e1;have f':=jD j';clear j'
 go_loopw [4,5,13] (fun n m i wr=>∃k C D:Nat,k<=l.length/\i=Mk k/\n=Mk C/\m=Mk D/\Hid (C+cH (l.drop k)=M/\max D (eF (l.drop k))=R/\Mm w1 wr)) (fun n m i _=>l.length-(intOf i).toNat)
 case atStart=>exact⟨0,1,0,Mu _,rfl,rfl,rfl,jD ⟨HM.out,by rw[OD,HR.out];omega,Mr _ _⟩⟩
 case round =>
  obtain⟨k,C,D,hk,rfl,rfl,rfl,O⟩:=hrel;have hb:=O.out.2.2
  by_cases a':k<l.length
  ·have k':(k:Int)<(l.length:Int):=by omega
   obtain⟨b,o,rfl,G⟩:=HL.out k l[k] (Mq a');have hg:=jD (Mq a');obtain⟨a,ha⟩:=jF (l[k]);rw[<-ha]at hg G;clear ha;obtain⟨d',v',Z,J,p0,p1,p2,p3,p4,p5,p6,p7⟩:=fk (ai d _ _ _ _ _ (ab f'.out hb) G);have i':aF a<=1048576:=by have:=kD hg.out;have:=HM.out;have:=HN.out;omega
   have n':=J;obtain⟨A',c',q',-⟩:=n';subst q';obtain⟨P,hP⟩:=jE (aF a);obtain⟨Q,hQ⟩:=jE (dA a);have HC:=jD (fun (W:World) (hW:Mm wr W)=>g'.out d' Z a _ W (J.stays (ai d') hW) i');unfold exV at HC;rw[hQ,hP]at HC;have HQ:=jD hQ;have HP:=jD hP;have t':IntKind.i64.wrap ((C:Int)+(P:Int))=((C+P:Nat):Int):=by
    have hq:=fN hg.out;have x':=O.out.1;have u':=HN.out;rw[<-Oe,bM om]
   clear hQ hP G Z J i';go_wp2_with fail;refine (HC.out _ ?_).mono ?_
   ·exact jB
   rintro e w' ⟨rfl,m'⟩;go_wp2_with fail
   go_roundw
   case rel =>
    refine⟨k+1,C+P,max D Q,by omega,by go_num,rfl,congrArg (Value.int .i64) om,jD ⟨?_,?_,ab hb (ab jB m')⟩⟩
    ·have h:=O.out.1;rw[fN hg.out,HP.out]at h;omega
    ·have h:=O.out.2.1;rw[ot hg.out,HQ.out]at h;omega
   case measure=>simp[intOf];omega
  ·have k':¬(k:Int)<(l.length:Int):=by omega
   have l':D=R/\C=M:=by
    have h:=O.out.2.1;have h':=O.out.1;rw[No om]at h h';rw[eF]at h;rw[cH]at h';omega
   obtain⟨rfl,rfl⟩:=l';go_wp2;exact Mv (v:=.tuple #[Mk C,Mk ((D:Int)+1)]) (by simp[results,results170,go_sem]) rfl ⟨rfl,ab f'.out hb⟩
theorem FC (d:Nat):∀(x:Ex) (v:Value) (w:World),aK d w v x.args->aF x<=1048576 ->
  Mn 170 #[exV x v] w (.tuple #[Mk (aF x),Mk (dA x)]):=by
 induction d with
 | zero=>exact tS 0 (fun G h=>by omega)
 | succ d z=>exact tS (d+1) (fun G h=>NU h▸z)
def arN (op:Int):Int:=if op<0\/12<op then -1 else if op<5 then 0 else if op=12 then 1 else 2
def arP (op:Int):Int × Bool:=if op<0\/12<op then (0,false) else (arN op,true)
def ee (op:Int):Bool × Bool:=if op=1\/op=4 then (true,true) else if op=2\/op=3 then (true,false) else (false,false)
theorem fE (op:Int) (w:World):Mn 232 #[Mk op] w (.tuple #[Mk (arP op).1,.bool (arP op).2]):=by
 obtain⟨⟨R,b⟩,z⟩:∃R,arP op=R:=⟨_,rfl⟩;have HR:=jD z;rw[z];clear z
 by_cases h0:op<0<;>by_cases J:op > 12<;>by_cases I:op<5<;>by_cases h3:op=12
 all_goals first
  | (exfalso;omega)
  | skip
 all_goals
  (try subst h3)
  obtain⟨G,O⟩:R=_/\b=_:=by have h:=HR.out;simp only[arP,arN]at h;(repeat first|rw[Mp om]at h|rw[Mo om]at h);injection h with J I;exact⟨J.symm,I.symm⟩
  have Z:=jD G;have E2:=jD O;clear G O;go_enter func232,ntmps232;go_wp2;exact Mv (v:=.tuple #[Mk R,.bool b]) (by rw[Z.out,E2.out];simp[results,results232,go_sem]) rfl ⟨rfl,Mr _ _⟩
theorem eK (op:Int) (w:World):Mn 293 #[Mk op] w (Mk (arN op)):=by
 obtain⟨R,h⟩:=jE (arN op);have z:=jD h;rw[h];clear h;go_enter func293,ntmps293;go_wp2
 all_goals
  go_ret;exact⟨df (by rw[<-z.out];clear z;unfold arN;exact jA),Mr _ _⟩
theorem iw (op:Int) (w:World):Mn 233 #[Mk op] w (.tuple #[.bool (ee op).1,.bool (ee op).2]):=by
 obtain⟨⟨R,b⟩,z⟩:∃R,ee op=R:=⟨_,rfl⟩;have HR:=jD z;rw[z];clear z
 by_cases h0:op=1<;>by_cases J:op=4<;>by_cases I:op=2<;>by_cases h3:op=3
 all_goals first
  | (exfalso;omega)
  | skip
 all_goals
  obtain⟨G,O⟩:R=_/\b=_:=by have h:=HR.out;simp only[ee]at h;(repeat first|rw[Mp om]at h|rw[Mo om]at h);injection h with J I;exact⟨J.symm,I.symm⟩
  have Z:=jD G;have E2:=jD O;clear G O;go_enter func233,ntmps233;go_wp2;exact Mv (v:=.tuple #[.bool R,.bool b]) (by rw[Z.out,E2.out];simp[results,results233,go_sem]) rfl ⟨rfl,Mr _ _⟩
theorem gq (op:Int) (w:World):Mn 294 #[Mk op] w (.tuple #[.bool (ee op).1,.bool (ee op).2]):=by
 obtain⟨⟨R,b⟩,z⟩:∃R,ee op=R:=⟨_,rfl⟩;have HR:=jD z;rw[z];clear z
 by_cases h0:op=1<;>by_cases J:op=4<;>by_cases I:op=2<;>by_cases h3:op=3
 all_goals first
  | (exfalso;omega)
  | skip
 all_goals
  obtain⟨G,O⟩:R=_/\b=_:=by have h:=HR.out;simp only[ee]at h;(repeat first|rw[Mp om]at h|rw[Mo om]at h);injection h with J I;exact⟨J.symm,I.symm⟩
  have Z:=jD G;have E2:=jD O;clear G O;go_enter func294,ntmps294;go_wp2;exact Mv (v:=.tuple #[.bool R,.bool b]) (by rw[Z.out,E2.out];simp[results,results294,go_sem]<;>assumption) rfl ⟨rfl,Mr _ _⟩
theorem Dy (k:Int) (v:Vl) (w:World) (hk:1<=k):Mn 263 #[Mk k,vlV v] w (.bool (eE k v)):=by
 obtain⟨R,I⟩:=jE (eE k v);have O:=jD I;rw[I];clear I;have HK:=jD hk;clear hk;unfold vlV
 by_cases h0:v.kind=0
 ·have Z:(v.kind==0)=true:=jQ h0;have G:=jD h0;clear h0;go_enter func263,ntmps263;go_wp2;go_ret;exact⟨by rw[<-O.out];simp[eE,G.out],af _ _⟩
 ·have Z:(v.kind==0)=false:=jQ h0;have G:=jD h0;clear h0
  by_cases z:k=4
  ·subst z;go_enter func263,ntmps263;go_wp2;go_ret;exact⟨by rw[<-O.out];simp[eE],af _ _⟩
  ·have a':(k==4)=false:=jQ z;have H2:=jD z;clear z;go_enter func263,ntmps263;go_wp2;go_ret;exact⟨by rw[<-O.out];have J:k≠0:=(by have:=HK.out;omega);simp[eE,G.out,H2.out,J];by_cases h:k=5<;>simp[h],af _ _⟩
def oN (x:Ex):Int:=if dN x.val≠0 then dN x.val else if x.op=4/\(eE x.kd x.val=false\/x.kd=1/\bY x.val ah=false) then 9 else 0
theorem uaw {p:Prop} (h:p:=by
  go_wp2_with fail;refine (Z.out _).mono ?_;rintro e w' ⟨rfl,G⟩;replace y5:=aa G y5;replace y6:=aa G y6;replace y7:=aa G y7;replace y4:=aa G y4;exact fi (ab J.out G)):p:=h
theorem dH (x:Ex) (A:Option Addr) (n c:Nat) (w:World) (hk:x.op=4->1<=x.kd) :
  Mn 234 #[exV x (.slice A n c)] w (Mk (oN x)):=by
 obtain⟨op,l,vr,fl,kd,⟨O,n0,t0⟩⟩:=x;obtain⟨R,hR⟩:=jE (oN (.mk op l vr fl kd ⟨O,n0,t0⟩));have HR:=jD hR;rw[hR];clear hR;have HK:=jD hk;have HV:=jD (gz ⟨O,n0,t0⟩);have HQ:Hid (∀W,(binOp .neq 27 (.agg #[Mk O,Mk n0,.string t0]) (.agg #[Mk 0,Mk 0,.string ⟨#[]⟩])).run prog W=.ok (.bool (!bY ⟨O,n0,t0⟩ ah)) W):=jD (fun W=>cZ ⟨O,n0,t0⟩ ah W);obtain⟨z,hz⟩:=jE (dN ⟨O,n0,t0⟩);obtain⟨q,hq⟩:=jE (bY ⟨O,n0,t0⟩ ah);obtain⟨b,hb⟩:=jE (eE kd ⟨O,n0,t0⟩);rw[hz]at HV;rw[hq]at HQ;have a':Hid (R=if z≠0 then z else if op=4/\(b=false\/kd=1/\q=false) then 9 else 0):=jD (by rw[<-HR.out,<-hz,<-hb,<-hq];rfl);have HU:Hid (1<=kd->∀W,Mn 263 #[Mk kd,vlV ⟨O,n0,t0⟩] W (.bool b)):=jD (fun h W=>hb▸Dy kd ⟨O,n0,t0⟩ W h);unfold exV vlV at *;simp only[Ex.op,Ex.vr,Ex.fl,Ex.kd,Ex.val]at HK ⊢;clear hz hq hb HR hk;go_enter func234,ntmps234;go_wp2_with fail;refine (HV.out _).mono ?_;rintro e w1 ⟨rfl,c'⟩;have hn:=(bE c').1;have y0:w1.cell? ⟨w.heap.size,0,none⟩=some (Mk op):=by rw[hn];rfl
 have y4:w1.cell? ⟨w.heap.size,4,none⟩=some (Mk kd):=by rw[hn];rfl
 have y5:w1.cell? ⟨w.heap.size,5,none⟩=some (Mk O):=by rw[hn];rfl
 have y6:w1.cell? ⟨w.heap.size,6,none⟩=some (Mk n0):=by rw[hn];rfl
 have y7:w1.cell? ⟨w.heap.size,7,none⟩=some (.string t0):=by rw[hn];rfl
 have J:=jD (ab (af w _) c');clear hn c'
 by_cases hz:z=0
 case neg =>
  obtain rfl:R=z:=by rw[a'.out,Mp hz]
  have g':(R==0)=false:=jQ hz;clear hz;exact fi J.out
 subst hz
 by_cases h4:op=4
 case neg =>
  obtain rfl:R=0:=by rw[a'.out,Mo jS,Mo (fun h=>h4 h.1)]
  have d':(op==4)=false:=jQ h4;clear h4;exact fi J.out
 subst h4;have Z:=jD (HU.out (HK.out rfl));have hR:R=if b=false\/kd=1/\q=false then 9 else 0:=by rw[a'.out];simp
 have I:=jD hR;have hq:=HQ.out;clear HU HK a' hR HQ HV
 cases b with
 | false =>
  obtain rfl:R=9:=by rw[I.out];simp
  clear I;exact uaw
 | true =>
  by_cases h1:kd=1
  ·subst h1
   cases q with
   | false =>
    obtain rfl:R=9:=by rw[I.out];simp
    clear I;exact uaw
   | true =>
    obtain rfl:R=0:=by rw[I.out];simp
    clear I;exact uaw
  ·have f':(kd==1)=false:=jQ h1;obtain rfl:R=0:=by rw[I.out,Mo (by simp[h1])]
   clear I h1;exact uaw
theorem Gb:arP 0=(0,true):=rfl
theorem Fw:arP 1=(0,true):=rfl
theorem GC:arP 2=(0,true):=rfl
theorem Hg:arP 3=(0,true):=rfl
theorem GY:arP 4=(0,true):=rfl
theorem Fx:arN 0=0:=rfl
theorem Gx:arN 1=0:=rfl
theorem GN:arN 2=0:=rfl
theorem EW:arN 3=0:=rfl
theorem Ih:arN 4=0:=rfl
theorem lf:ee 0=(false,false):=rfl
theorem ld:ee 1=(true,true):=rfl
theorem kT:ee 2=(true,false):=rfl
theorem kW:ee 3=(true,false):=rfl
theorem kV:ee 4=(true,true):=rfl
abbrev Kt (W:World) (b:Nat) (J O h z Z c5 I G:Value):Prop:=W.cell? ⟨b,0,none⟩=some J/\W.cell? ⟨b,1,none⟩=some O/\W.cell? ⟨b,2,none⟩=some h/\W.cell? ⟨b,3,none⟩=some z/\W.cell? ⟨b,4,none⟩=some Z/\W.cell? ⟨b,5,none⟩=some c5/\W.cell? ⟨b,6,none⟩=some I/\W.cell? ⟨b,7,none⟩=some G
theorem fY {w w':World} {t:TypeId} {Z c1 z G O c5 J I:Value} (hb:Below (w.alloc (.cells #[Z,c1,z,G,O,c5,J,I] t)).heap.size (w.alloc (.cells #[Z,c1,z,G,O,c5,J,I] t)) w'):Kt w' w.heap.size Z c1 z G O c5 J I:=by
 have h:=(bE hb).1;exact⟨by rw[h];rfl,by rw[h];rfl,by rw[h];rfl,by rw[h];rfl,by rw[h];rfl,by rw[h];rfl,by rw[h];rfl,by rw[h];rfl⟩
theorem jd {w w':World} {b:Nat} {c0 G I J Z c5 O z:Value} (h:Mm w w') (h0:w.cell? ⟨b,0,none⟩=some c0) (h1:w.cell? ⟨b,1,none⟩=some G) (h2:w.cell? ⟨b,2,none⟩=some I) (h3:w.cell? ⟨b,3,none⟩=some J) (h4:w.cell? ⟨b,4,none⟩=some Z) (h5:w.cell? ⟨b,5,none⟩=some c5) (h6:w.cell? ⟨b,6,none⟩=some O) (h7:w.cell? ⟨b,7,none⟩=some z):Kt w' b c0 G I J Z c5 O z :=
 ⟨aa h h0,aa h h1,aa h h2,aa h h3,aa h h4,aa h h5,aa h h6,aa h h7⟩
end Go.Proofs.YtbjicljfjkdeeaaGreatDoor
