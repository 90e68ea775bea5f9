/- Part. -/
import Derived.Lib.ItoaNum
import Derived.Test.YtokconodddedhaaGreatDoorQ21
set_option maxRecDepth 100000
set_option maxHeartbeats 16000000
set_option linter.unusedVariables false
set_option linter.unusedSimpArgs false
namespace Go.Proofs.YtokconodddedhaaGreatDoor
open Go.Proofs.Tryz Go.RowKit
section
open Go.Lib
theorem nE (u:Nat):∀c∈decDigits u,48<=c.toNat/\c.toNat<=57:=by
 induction u using Nat.strongRecOn with
 | _ u z =>
  intro c h;rw[decDigits]at h
  split at h
  ·simp only[Lz]at h;subst h;rw[NO];omega
  ·rcases List.mem_append.1 h with h|h
   ·exact z _ om c h
   ·simp only[Lz]at h;subst h;rw[NO];omega
theorem Kn (u:Nat):decDigits u≠[]:=by
 rw[decDigits]
 split<;>simp
def JX (l:List UInt8):Nat:=l.foldl (fun a c=>10*a+(c.toNat-48)) 0
theorem vK (u:Nat):JX (decDigits u)=u:=by
 induction u using Nat.strongRecOn with
 | _ u z =>
  rw[decDigits]
  split
  ·simp only[JX,Ms,List.foldl_nil];rw[NO];omega
  ·have h:=z (u / 10) om;simp only[JX,Nq,Ms,List.foldl_nil]at *;rw[h,NO];omega
theorem AZ {u v:Nat} (h:decDigits u=decDigits v):u=v:=by rw[<-vK u,h,vK]
theorem wF {m n:Int} (h:itoa m=itoa n):m=n:=by
 have z:∀u v:Nat,(45:UInt8)::decDigits u≠decDigits v:=fun u v e=>by
  have:=nE v 45 (by rw[<-e];exact Lg ..);simp at this
 unfold itoa at h
 split at h
 ·split at h
  ·have:=AZ (List.cons.inj h).2;omega
  ·exact absurd h (z _ _)
 ·split at h
  ·exact absurd h.symm (z _ _)
  ·have:=AZ h;omega
end
section
open Go.Lib
theorem zP (n:Int):∀c∈itoa n,c=45\/(48<=c.toNat/\c.toNat<=57):=by
 intro c h;unfold itoa at h
 split at h
 ·rcases List.mem_cons.1 h with rfl|h
  ·exact .inl rfl
  ·exact .inr (nE _ c h)
 ·exact .inr (nE _ c h)
theorem pA (n:Int) (d:UInt8) (D:d≠45) (F:d.toNat<48\/57<d.toNat):∀c∈itoa n,c≠d:=by
 rintro c z rfl;rcases zP n c z with h|h
 ·exact D h
 ·omega
theorem Jy {d:UInt8} {a b s t:List UInt8} (D:∀c∈a,c≠d) (F:∀c∈b,c≠d) (h:a++d::s=b++d::t):a=b/\s=t:=by
 induction a generalizing b with
 | nil =>
  cases b with
  | nil=>simpa using h
  | cons y b=>simp at h;exact absurd h.1.symm (F y (Lg ..))
 | cons x a I =>
  cases b with
  | nil=>simp at h;exact absurd h.1 (D x (Lg ..))
  | cons y b =>
   simp only[Mr,LS]at h;obtain⟨G,J⟩:=I (fun c z=>D c (Lh _ z)) (fun c z=>F c (Lh _ z)) h.2;exact⟨by rw[h.1,G],J⟩
end
theorem SubRet.box {w W W':World} {L:List Bs} {e:Ending} (D:KY w W) (h:SubRet W L e W'):SubRet w L e W':=by
 obtain⟨v,rfl,F,z⟩:=h;exact⟨v,rfl,F.more D.size,ab D z⟩
end Go.Proofs.YtokconodddedhaaGreatDoor
