/- Part. -/
import Derived.Test.YtbjicljfjkdeeaaGreatDoorQ03
import Derived.Test.YtbjicljfjkdeeaaGreatDoorRows
set_option maxRecDepth 100000
set_option maxHeartbeats 16000000
set_option linter.unusedVariables false
set_option linter.unusedSimpArgs false
namespace Go.Proofs.YtbjicljfjkdeeaaGreatDoor
open Go.Proofs.Tryz Go.RowKit
section
section
open Go.ChangeShapes Go.WideShapes Go.ChangeAt Go.RowKit Go.Deep
section
variable {H : Type} {enc : TypeId × Value -> H} {P : Program} {w : World} {base : Nat} {spare : Nat -> Bool} {held : Bool}
theorem pf {α:Type} {R:World->Nat->Nat->α->Prop} {sz:Nat} {t e:TypeId} (ht:P.underlying t=some (.slice e)) (O:P.cellsOf e=sz) (J:0<sz)
  (hR:∀(n b o:Nat) (cs:List Value) (y:DataW H × List MemPlace),cs.length=sz->(∀(j:Nat) (u:Value),cs[j]?=some u->w.cell? ⟨b,o+j,none⟩=some u)->DataW.trod enc P w base spare held n e cs=some y->∃x,R w b o x)
  {fuel:Nat} {v:Value} {y:DataW H × List MemPlace} (h:DataW.trod enc P w base spare held fuel t [v]=some y):∃l:List α,Sl R sz w v l:=by
 rcases open_slice ht h with ⟨z,_⟩|⟨a,len,cap,m,n,D,Pl,z,_,hl,hm,hmm,_,hi⟩
 ·simp only[Nf,Ns]at z;subst z;exact⟨[],Sl.nil _ _ _ _ _ (Mu _)⟩
 ·simp only[Nf,Ns]at z;subst z;have g':len<=m:=by rw[hmm];split<;>omega
  rcases OT len with h0|h0
  ·subst h0;exact⟨[],Sl.nil _ _ _ _ _ hm⟩
  ·have I:∃b o,a=⟨b,o,none⟩:=by
    obtain⟨Z,hc,_⟩:=hi 0 om;rw[O]at hc;obtain⟨_,a',G⟩:=World.cells?_some hc;have h2:=G 0 J;rw[Mq om]at h2;have h3:=World.cell?_spot h2;obtain⟨b,o,sp⟩:=a;simp only[Addr.add,Nn,M5]at h3;exact⟨b,o,jQ h3⟩
   obtain⟨b,o,rfl⟩:=I;obtain⟨l,c',d'⟩:=jx (fun k x=>R w b (o+k*sz) x) len (fun i h'=>by
    obtain⟨Z,hc,f'⟩:=hi i om;rw[O]at hc;obtain⟨_,a',G⟩:=World.cells?_some hc;refine hR n b (o+i*sz) Z _ a' (fun j u hj=>?_) f';have h4:=G j (by have:=(List.getElem?_eq_some_iff.1 hj).1;omega);rw[cN,cN,hj]at h4;exact h4)
   exact⟨l,some ⟨b,o,none⟩,cap,by rw[c'],by omega,hm,fun k x hk=>⟨b,o,rfl,d' k x hk⟩⟩
end
theorem list1 {α:Type} {l:List α} (h:l.length=1):∃a,l=[a]:=by
 match l,h with
 | [a],_=>exact⟨a,rfl⟩
theorem Bw {α:Type} {l:List α} (h:l.length=2):∃a b,l=[a,b]:=by
 match l,h with
 | [a,b],_=>exact⟨a,b,rfl⟩
theorem sx {α:Type} {l:List α} (h:l.length=3):∃a b c,l=[a,b,c]:=by
 match l,h with
 | [a,b,c],_=>exact⟨a,b,c,rfl⟩
theorem dp:prog.cellsOf 3=1:=kr
section
variable {H : Type} {enc : TypeId × Value -> H} {w : World} {base : Nat} {spare : Nat -> Bool} {held : Bool}
end
theorem Ft:ownKnob prog.godebug=none:=kr
theorem yw:laidOutB prog=true:=kr
end
end
end Go.Proofs.YtbjicljfjkdeeaaGreatDoor
