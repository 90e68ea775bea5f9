/- Part. -/
import Derived.Test.YtokconodddedhaaGreatDoorQ19
set_option maxRecDepth 100000
set_option maxHeartbeats 16000000
set_option linter.unusedVariables false
set_option linter.unusedSimpArgs false
namespace Go.Proofs.YtokconodddedhaaGreatDoor
open Go.Proofs.Tryz Go.RowKit
def pP (w:World) (r:Vl × Bool × Int) (e:Ending) (W:World):Prop:=e=.returned (.tuple #[vlV r.1,.bool r.2.1,KW r.2.2])/\KY w W
theorem FE {key:List Int} (x:Evt) (h:key.length=0):cF key x=(au,true,0):=by unfold cF;rw[K7 h]
theorem Ec {key:List Int} {x:Evt} (h:key.length≠0) (z:x.ty<0\/(key.length:Int)<=x.ty):cF key x=(au,false,1):=by unfold cF;rw[K6 h,K7 z]
theorem GI {key:List Int} {x:Evt} {k:Int} {j:Nat} (h:x.ty=(j:Int)) (hk:key[j]?=some k) (D:k < -1\/(x.vals.length:Int)<=k):cF key x=(au,false,2):=by
 have F:=(List.getElem?_eq_some_iff.1 hk).1;have z:key.getD x.ty.toNat 0=k:=by rw[h];simp[List.getD,hk]
 unfold cF;rw[K6 om,K6 om,z,K7 D]
theorem Fv {key:List Int} {x:Evt} {j:Nat} (h:x.ty=(j:Int)) (hk:key[j]?=some (-1)):cF key x=(au,false,0):=by
 have D:=(List.getElem?_eq_some_iff.1 hk).1;have z:key.getD x.ty.toNat 0=-1:=by rw[h];simp[List.getD,hk]
 unfold cF;rw[K6 om,K6 om,z,K6 om,K7 rfl]
theorem GJ {key:List Int} {x:Evt} {k j:Nat} {v:Vl} (D:x.ty=(j:Int)) (hk:key[j]?=some (k:Int)) (h:x.vals[k]?=some v):cF key x=(v,true,0):=by
 have G:=(List.getElem?_eq_some_iff.1 hk).1;have z:=(List.getElem?_eq_some_iff.1 h).1;have F:key.getD x.ty.toNat 0=(k:Int):=by rw[D];simp[List.getD,hk]
 unfold cF;rw[K6 om,K6 om,F,K6 om,K6 om];simp[List.getD,h]
theorem Cl (key:List Int) (x:Evt) (u vk:Value) (w:World) (hk:bD w vk key) (hu:aV w u x.vals) :
  Calls prog 124 #[cJ x u,vk] w (pP w (cF key x)):=by
 obtain⟨Ak,ck,rfl,k1,k2,I⟩:=hk;obtain⟨Au,cu,rfl,u1,u2,G⟩:=hu;have hn:=ax k1 k2;have hm:=ax u1 u2;have F:=jD I;have D:=jD G;clear k1 k2 u1 u2 I G
 by_cases h0:key.length=0
 ·rw[FE x h0,h0];unfold cJ;clear F D hn;go_enter func124,ntmps124;go_wp2;exact Lc (v:=.tuple #[vlV au,.bool true,KW 0]) (by simp[results,results124,go_sem,vlV,au]) rfl ⟨rfl,jB⟩
 by_cases h1:x.ty<0\/(key.length:Int)<=x.ty
 ·rw[Ec h0 h1];have a':((key.length:Int)==0)=false:=jQ h0;unfold cJ;clear F D
  by_cases h2:x.ty<0
  ·clear h1;go_enter func124,ntmps124;go_wp2;exact Lc (v:=.tuple #[vlV au,.bool false,KW 1]) (by simp[results,results124,go_sem,vlV,au]) rfl ⟨rfl,jB⟩
  ·have J:(key.length:Int)<=x.ty:=by omega
   clear h1;go_enter func124,ntmps124;go_wp2;exact Lc (v:=.tuple #[vlV au,.bool false,KW 1]) (by simp[results,results124,go_sem,vlV,au]) rfl ⟨rfl,jB⟩
 obtain⟨j,hj⟩:∃j:Nat,x.ty=(j:Int):=⟨x.ty.toNat,by omega⟩;have b':j<key.length:=by omega
 obtain⟨k,z⟩:∃k,key[j]?=some k:=⟨_,K9 b'⟩;obtain⟨bk,ok,rfl,O⟩:=F.out j k z;rw[LL]at O;unfold mW at O;have g':bk<w.heap.size:=K8 w ⟨bk,_,none⟩ O;have a':((key.length:Int)==0)=false:=jQ h0;have d':(j:Int)<(key.length:Int):=by omega
 have l':¬(j:Int)<0:=by omega
 have c':¬(key.length:Int)<=(j:Int):=by omega
 by_cases h2:k < -1\/(x.vals.length:Int)<=k
 ·rw[GI hj z h2];obtain⟨m,h⟩:=jF x.vals.length;rw[<-h]at hm h2 ⊢;unfold cJ;rw[hj];clear F D h1 z h h0
  by_cases J:k < -1
  ·clear h2;go_enter func124,ntmps124;go_wp2_with fail
   go_big_region
   go_wp2;exact Lc (v:=.tuple #[vlV au,.bool false,KW 2]) (by simp[results,results124,go_sem,vlV,au]) rfl ⟨rfl,jB⟩
  ·have h4:(m:Int)<=k:=by omega
   have hd:decide (k < -1)=false:=MC J;have HH:=jD J;clear h2 J;go_enter func124,ntmps124;go_wp2_with fail
   go_big_region
   go_wp2;exact Lc (v:=.tuple #[vlV au,.bool false,KW 2]) (by simp[results,results124,go_sem,vlV,au]) rfl ⟨rfl,jB⟩
 by_cases J:k=-1
 ·subst J;rw[Fv hj z];obtain⟨m,h⟩:=jF x.vals.length;rw[<-h]at hm ⊢;have k':decide ((m:Int)<=-1)=false:=MC om;have h':¬(m:Int)<=-1:=by omega
  unfold cJ;rw[hj];clear F D h1 z h h0 h2;go_enter func124,ntmps124;go_wp2_with fail
  go_big_region
  go_wp2;exact Lc (v:=.tuple #[vlV au,.bool false,KW 0]) (by simp[results,results124,go_sem,vlV,au]) rfl ⟨rfl,jB⟩
 obtain⟨q,hq⟩:∃q:Nat,k=(q:Int):=⟨k.toNat,by omega⟩;subst hq;have Z:q<x.vals.length:=by omega
 obtain⟨v,hv⟩:∃v,x.vals[q]?=some v:=⟨_,K9 Z⟩;rw[GJ hj z hv];obtain⟨bu,ou,rfl,u0,u1,u2⟩:=D.out q v hv;have e':bu<w.heap.size:=K8 w ⟨bu,_,none⟩ u0;obtain⟨m,h⟩:=jF x.vals.length;rw[<-h]at hm Z ⊢;have hd:decide ((q:Int) < -1)=false:=MC om;have i':¬(m:Int)<=(q:Int):=by omega
 have f':(q:Int)<(m:Int):=by omega
 have j':((q:Int)==-1)=false:=by simp
 unfold cJ;rw[hj];clear F D h1 z h h0 h2 hv J Z;go_enter func124,ntmps124;go_wp2_with fail
 go_big_region
 go_wp2_with fail
 go_big_region
 go_wp2;exact Lc (v:=.tuple #[vlV v,.bool true,KW 0]) (by simp[results,results124,go_sem,vlV,au]) rfl ⟨rfl,jB⟩
theorem xn (key:List Int) (x:Evt) (u vk:Value) (w:World) (hk:bD w vk key) (hu:aV w u x.vals) :
  Calls prog 144 #[cJ x u,vk] w (pP w (cF key x)):=by
 obtain⟨Ak,ck,rfl,k1,k2,I⟩:=hk;obtain⟨Au,cu,rfl,u1,u2,G⟩:=hu;have hn:=ax k1 k2;have hm:=ax u1 u2;have F:=jD I;have D:=jD G;clear k1 k2 u1 u2 I G
 by_cases h0:key.length=0
 ·rw[FE x h0,h0];unfold cJ;clear F D hn;go_enter func144,ntmps144;go_wp2;exact Lc (v:=.tuple #[vlV au,.bool true,KW 0]) (by simp[results,results144,go_sem,vlV,au]) rfl ⟨rfl,jB⟩
 by_cases h1:x.ty<0\/(key.length:Int)<=x.ty
 ·rw[Ec h0 h1];have a':((key.length:Int)==0)=false:=jQ h0;unfold cJ;clear F D
  by_cases h2:x.ty<0
  ·clear h1;go_enter func144,ntmps144;go_wp2;exact Lc (v:=.tuple #[vlV au,.bool false,KW 1]) (by simp[results,results144,go_sem,vlV,au]) rfl ⟨rfl,jB⟩
  ·have J:(key.length:Int)<=x.ty:=by omega
   clear h1;go_enter func144,ntmps144;go_wp2;exact Lc (v:=.tuple #[vlV au,.bool false,KW 1]) (by simp[results,results144,go_sem,vlV,au]) rfl ⟨rfl,jB⟩
 obtain⟨j,hj⟩:∃j:Nat,x.ty=(j:Int):=⟨x.ty.toNat,by omega⟩;have b':j<key.length:=by omega
 obtain⟨k,z⟩:∃k,key[j]?=some k:=⟨_,K9 b'⟩;obtain⟨bk,ok,rfl,O⟩:=F.out j k z;rw[LL]at O;unfold mW at O;have g':bk<w.heap.size:=K8 w ⟨bk,_,none⟩ O;have a':((key.length:Int)==0)=false:=jQ h0;have d':(j:Int)<(key.length:Int):=by omega
 have l':¬(j:Int)<0:=by omega
 have c':¬(key.length:Int)<=(j:Int):=by omega
 by_cases h2:k < -1\/(x.vals.length:Int)<=k
 ·rw[GI hj z h2];obtain⟨m,h⟩:=jF x.vals.length;rw[<-h]at hm h2 ⊢;unfold cJ;rw[hj];clear F D h1 z h h0
  by_cases J:k < -1
  ·clear h2;go_enter func144,ntmps144;go_wp2;exact Lc (v:=.tuple #[vlV au,.bool false,KW 2]) (by simp[results,results144,go_sem,vlV,au]) rfl ⟨rfl,jB⟩
  ·have h4:(m:Int)<=k:=by omega
   have hd:decide (k < -1)=false:=MC J;have HH:=jD J;clear h2 J;go_enter func144,ntmps144;go_wp2;exact Lc (v:=.tuple #[vlV au,.bool false,KW 2]) (by simp[results,results144,go_sem,vlV,au]) rfl ⟨rfl,jB⟩
 by_cases J:k=-1
 ·subst J;rw[Fv hj z];obtain⟨m,h⟩:=jF x.vals.length;rw[<-h]at hm ⊢;have k':decide ((m:Int)<=-1)=false:=MC om;have h':¬(m:Int)<=-1:=by omega
  unfold cJ;rw[hj];clear F D h1 z h h0 h2;go_enter func144,ntmps144;go_wp2;exact Lc (v:=.tuple #[vlV au,.bool false,KW 0]) (by simp[results,results144,go_sem,vlV,au]) rfl ⟨rfl,jB⟩
 obtain⟨q,hq⟩:∃q:Nat,k=(q:Int):=⟨k.toNat,by omega⟩;subst hq;have Z:q<x.vals.length:=by omega
 obtain⟨v,hv⟩:∃v,x.vals[q]?=some v:=⟨_,K9 Z⟩;rw[GJ hj z hv];obtain⟨bu,ou,rfl,u0,u1,u2⟩:=D.out q v hv;have e':bu<w.heap.size:=K8 w ⟨bu,_,none⟩ u0;obtain⟨m,h⟩:=jF x.vals.length;rw[<-h]at hm Z ⊢;have hd:decide ((q:Int) < -1)=false:=MC om;have i':¬(m:Int)<=(q:Int):=by omega
 have f':(q:Int)<(m:Int):=by omega
 have j':((q:Int)==-1)=false:=by simp
 unfold cJ;rw[hj];clear F D h1 z h h0 h2 hv J Z;go_enter func144,ntmps144;go_wp2;exact Lc (v:=.tuple #[vlV v,.bool true,KW 0]) (by simp[results,results144,go_sem,vlV,au]) rfl ⟨rfl,jB⟩
end Go.Proofs.YtokconodddedhaaGreatDoor
