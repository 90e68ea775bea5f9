/- Part. -/
import Derived.Test.YtbjicljfjkdeeaaGreatDoorQ25
import Derived.Shelf.LaysM
import Derived.Shelf.Strconv.AppendIntPublic10
set_option maxRecDepth 100000
set_option maxHeartbeats 16000000
set_option linter.unusedVariables false
set_option linter.unusedSimpArgs false
namespace Go.Proofs.YtbjicljfjkdeeaaGreatDoor
open Go.Proofs.Tryz Go.RowKit
def qD (w:World) (r:Vl × Bool × Int) (e:Ending) (W:World):Prop:=e=.returned (.tuple #[vlV r.1,.bool r.2.1,Mk r.2.2])/\Mm w W
theorem G3 {key:List Int} (x:Evt) (h:key.length=0):cz key x=(ah,true,0):=by unfold cz;rw[Mp h]
theorem Hj {key:List Int} {x:Evt} (h:key.length≠0) (z:x.ty<0\/(key.length:Int)<=x.ty):cz key x=(ah,false,1):=by unfold cz;rw[Mo h,Mp z]
theorem Gz {key:List Int} {x:Evt} {k:Int} {j:Nat} (h:x.ty=(j:Int)) (hk:key[j]?=some k) (z:k < -1\/(x.vals.length:Int)<=k):cz key x=(ah,false,2):=by
 have I:=(List.getElem?_eq_some_iff.1 hk).1;have G:key.getD x.ty.toNat 0=k:=by rw[h];simp[List.getD,hk]
 unfold cz;rw[Mo om,Mo om,G,Mp z]
theorem Gf {key:List Int} {x:Evt} {j:Nat} (h:x.ty=(j:Int)) (hk:key[j]?=some (-1)):cz key x=(ah,false,0):=by
 have G:=(List.getElem?_eq_some_iff.1 hk).1;have z:key.getD x.ty.toNat 0=-1:=by rw[h];simp[List.getD,hk]
 unfold cz;rw[Mo om,Mo om,z,Mo om,Mp rfl]
theorem GT {key:List Int} {x:Evt} {k j:Nat} {v:Vl} (G:x.ty=(j:Int)) (hk:key[j]?=some (k:Int)) (h:x.vals[k]?=some v):cz key x=(v,true,0):=by
 have J:=(List.getElem?_eq_some_iff.1 hk).1;have z:=(List.getElem?_eq_some_iff.1 h).1;have I:key.getD x.ty.toNat 0=(k:Int):=by rw[G];simp[List.getD,hk]
 unfold cz;rw[Mo om,Mo om,I,Mo om,Mo om];simp[List.getD,h]
theorem uaY {p:Prop} (h:p:=by
  go_enter func70,ntmps70;go_wp2_with fail
  go_big_region
  go_wp2;exact Mv (v:=.tuple #[vlV ah,.bool false,Mk 2]) (by simp[results,results70,go_sem,vlV,ah]) rfl ⟨rfl,jB⟩):p:=h
theorem uaZ {p:Prop} (h:p:=by
  clear h1;go_enter func70,ntmps70;go_wp2;exact Mv (v:=.tuple #[vlV ah,.bool false,Mk 1]) (by simp[results,results70,go_sem,vlV,ah]) rfl ⟨rfl,jB⟩):p:=h
theorem El (key:List Int) (x:Evt) (u vk:Value) (w:World) (hk:ju w vk key) (hu:aV w u x.vals) :
  Calls prog 70 #[cP x u,vk] w (qD w (cz key x)):=by
 obtain⟨Ak,ck,rfl,k1,k2,J⟩:=hk;obtain⟨Au,cu,rfl,u1,u2,O⟩:=hu;have hn:=ay k1 k2;have hm:=ay u1 u2;have I:=jD J;have G:=jD O;clear k1 k2 u1 u2 J O
 by_cases h0:key.length=0
 ·rw[G3 x h0,h0];unfold cP;clear I G hn;go_enter func70,ntmps70;go_wp2;exact Mv (v:=.tuple #[vlV ah,.bool true,Mk 0]) (by simp[results,results70,go_sem,vlV,ah]) rfl ⟨rfl,jB⟩
 by_cases h1:x.ty<0\/(key.length:Int)<=x.ty
 ·rw[Hj h0 h1];have f':((key.length:Int)==0)=false:=jQ h0;unfold cP;clear I G
  by_cases Z:x.ty<0
  ·exact uaZ
  ·have h3:(key.length:Int)<=x.ty:=by omega
   exact uaZ
 obtain⟨j,hj⟩:∃j:Nat,x.ty=(j:Int):=⟨x.ty.toNat,by omega⟩;have d':j<key.length:=by omega
 obtain⟨k,z⟩:∃k,key[j]?=some k:=⟨_,Mq d'⟩;obtain⟨bk,ok,rfl,a'⟩:=I.out j k z;rw[NF]at a';unfold AN at a';have l':bk<w.heap.size:=Ms w ⟨bk,_,none⟩ a';have f':((key.length:Int)==0)=false:=jQ h0;have g':(j:Int)<(key.length:Int):=by omega
 have m':¬(j:Int)<0:=by omega
 have h':¬(key.length:Int)<=(j:Int):=by omega
 by_cases Z:k < -1\/(x.vals.length:Int)<=k
 ·rw[Gz hj z Z];obtain⟨m,h⟩:=jF x.vals.length;rw[<-h]at hm Z ⊢;unfold cP;rw[hj];clear I G h1 z h h0
  by_cases h3:k < -1
  ·clear Z;exact uaY
  ·have h4:(m:Int)<=k:=by omega
   have hd:decide (k < -1)=false:=Nb h3;have HH:=jD h3;clear Z h3;exact uaY
 by_cases h3:k=-1
 ·subst h3;rw[Gf hj z];obtain⟨m,h⟩:=jF x.vals.length;rw[<-h]at hm ⊢;have j':decide ((m:Int)<=-1)=false:=Nb om;have k':¬(m:Int)<=-1:=by omega
  unfold cP;rw[hj];clear I G h1 z h h0 Z;go_enter func70,ntmps70;go_wp2_with fail
  go_big_region
  go_wp2;exact Mv (v:=.tuple #[vlV ah,.bool false,Mk 0]) (by simp[results,results70,go_sem,vlV,ah]) rfl ⟨rfl,jB⟩
 obtain⟨q,hq⟩:∃q:Nat,k=(q:Int):=⟨k.toNat,by omega⟩;subst hq;have c':q<x.vals.length:=by omega
 obtain⟨v,hv⟩:∃v,x.vals[q]?=some v:=⟨_,Mq c'⟩;rw[GT hj z hv];obtain⟨bu,ou,rfl,u0,u1,u2⟩:=G.out q v hv;have i':bu<w.heap.size:=Ms w ⟨bu,_,none⟩ u0;obtain⟨m,h⟩:=jF x.vals.length;rw[<-h]at hm c' ⊢;have hd:decide ((q:Int) < -1)=false:=Nb om;have q':¬(m:Int)<=(q:Int):=by omega
 have n':(q:Int)<(m:Int):=by omega
 have p':((q:Int)==-1)=false:=by simp
 unfold cP;rw[hj];clear I G h1 z h h0 Z hv h3 c';go_enter func70,ntmps70;go_wp2_with fail
 go_big_region
 go_wp2_with fail
 go_big_region
 go_wp2;exact Mv (v:=.tuple #[vlV v,.bool true,Mk 0]) (by simp[results,results70,go_sem,vlV,ah]) rfl ⟨rfl,jB⟩
theorem ua0 {p:Prop} (h:p:=by
  clear h1;go_enter func97,ntmps97;go_wp2;exact Mv (v:=.tuple #[vlV ah,.bool false,Mk 1]) (by simp[results,results97,go_sem,vlV,ah]) rfl ⟨rfl,jB⟩):p:=h
theorem ua1 {p:Prop} (h:p:=by
  go_enter func97,ntmps97;go_wp2;exact Mv (v:=.tuple #[vlV ah,.bool false,Mk 2]) (by simp[results,results97,go_sem,vlV,ah]) rfl ⟨rfl,jB⟩):p:=h
theorem yc (key:List Int) (x:Evt) (u vk:Value) (w:World) (hk:ju w vk key) (hu:aV w u x.vals) :
  Calls prog 97 #[cP x u,vk] w (qD w (cz key x)):=by
 obtain⟨Ak,ck,rfl,k1,k2,J⟩:=hk;obtain⟨Au,cu,rfl,u1,u2,O⟩:=hu;have hn:=ay k1 k2;have hm:=ay u1 u2;have I:=jD J;have G:=jD O;clear k1 k2 u1 u2 J O
 by_cases h0:key.length=0
 ·rw[G3 x h0,h0];unfold cP;clear I G hn;go_enter func97,ntmps97;go_wp2;exact Mv (v:=.tuple #[vlV ah,.bool true,Mk 0]) (by simp[results,results97,go_sem,vlV,ah]) rfl ⟨rfl,jB⟩
 by_cases h1:x.ty<0\/(key.length:Int)<=x.ty
 ·rw[Hj h0 h1];have f':((key.length:Int)==0)=false:=jQ h0;unfold cP;clear I G
  by_cases Z:x.ty<0
  ·exact ua0
  ·have h3:(key.length:Int)<=x.ty:=by omega
   exact ua0
 obtain⟨j,hj⟩:∃j:Nat,x.ty=(j:Int):=⟨x.ty.toNat,by omega⟩;have d':j<key.length:=by omega
 obtain⟨k,z⟩:∃k,key[j]?=some k:=⟨_,Mq d'⟩;obtain⟨bk,ok,rfl,a'⟩:=I.out j k z;rw[NF]at a';unfold AN at a';have l':bk<w.heap.size:=Ms w ⟨bk,_,none⟩ a';have f':((key.length:Int)==0)=false:=jQ h0;have g':(j:Int)<(key.length:Int):=by omega
 have m':¬(j:Int)<0:=by omega
 have h':¬(key.length:Int)<=(j:Int):=by omega
 by_cases Z:k < -1\/(x.vals.length:Int)<=k
 ·rw[Gz hj z Z];obtain⟨m,h⟩:=jF x.vals.length;rw[<-h]at hm Z ⊢;unfold cP;rw[hj];clear I G h1 z h h0
  by_cases h3:k < -1
  ·clear Z;exact ua1
  ·have h4:(m:Int)<=k:=by omega
   have hd:decide (k < -1)=false:=Nb h3;have HH:=jD h3;clear Z h3;exact ua1
 by_cases h3:k=-1
 ·subst h3;rw[Gf hj z];obtain⟨m,h⟩:=jF x.vals.length;rw[<-h]at hm ⊢;have j':decide ((m:Int)<=-1)=false:=Nb om;have k':¬(m:Int)<=-1:=by omega
  unfold cP;rw[hj];clear I G h1 z h h0 Z;go_enter func97,ntmps97;go_wp2;exact Mv (v:=.tuple #[vlV ah,.bool false,Mk 0]) (by simp[results,results97,go_sem,vlV,ah]) rfl ⟨rfl,jB⟩
 obtain⟨q,hq⟩:∃q:Nat,k=(q:Int):=⟨k.toNat,by omega⟩;subst hq;have c':q<x.vals.length:=by omega
 obtain⟨v,hv⟩:∃v,x.vals[q]?=some v:=⟨_,Mq c'⟩;rw[GT hj z hv];obtain⟨bu,ou,rfl,u0,u1,u2⟩:=G.out q v hv;have i':bu<w.heap.size:=Ms w ⟨bu,_,none⟩ u0;obtain⟨m,h⟩:=jF x.vals.length;rw[<-h]at hm c' ⊢;have hd:decide ((q:Int) < -1)=false:=Nb om;have q':¬(m:Int)<=(q:Int):=by omega
 have n':(q:Int)<(m:Int):=by omega
 have p':((q:Int)==-1)=false:=by simp
 unfold cP;rw[hj];clear I G h1 z h h0 Z hv h3 c';go_enter func97,ntmps97;go_wp2;exact Mv (v:=.tuple #[vlV v,.bool true,Mk 0]) (by simp[results,results97,go_sem,vlV,ah]) rfl ⟨rfl,jB⟩
end Go.Proofs.YtbjicljfjkdeeaaGreatDoor
namespace Go.Proofs
section
open Go.Shelf
def Tryz.laysM176_ren:Go.Shelf.Ren:=⟨fun|176=>137|249=>210|288=>254|283=>271|284=>272|285=>273|286=>274|129=>83|317=>289|318=>290|319=>291|320=>292|337=>322|338=>323|n=>n,fun|37=>219|2=>2|3=>3|53=>162|4=>4|9=>9|171=>308|0=>0|173=>310|212=>327|51=>160|5=>5|20=>20|213=>328|46=>111|232=>353|233=>354|n=>n,fun|17=>3|18=>4|19=>5|n=>n⟩
theorem Tryz.laysM176:Go.Proofs.LaysM.n176 Tryz.prog Tryz.laysM176_ren:=by
 constructor
 all_goals first|kernel_rfl|(intro _;kernel_rfl)|(constructor<;>first|kernel_rfl|(intro _;kernel_rfl))
end
end Go.Proofs
