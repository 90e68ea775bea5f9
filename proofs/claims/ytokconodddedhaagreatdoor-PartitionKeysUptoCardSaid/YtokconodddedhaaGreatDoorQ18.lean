/- Part. -/
import Derived.Shelf.GgSortFunc.RowK
import Derived.Shelf.Sort.Plain
import Derived.Shelf.Slices.CompactI
import Derived.Shelf.Slices.Turned
import Derived.Test.YtokconodddedhaaGreatDoorQ16
import Derived.RangeFuncCalls
set_option maxRecDepth 100000
set_option maxHeartbeats 16000000
set_option linter.unusedVariables false
set_option linter.unusedSimpArgs false
namespace Go.Proofs.YtokconodddedhaaGreatDoor
open Go.Proofs.Tryz Go.RowKit
section
section
theorem iY {w w':World} {v:Value} {l:List Bnd} (h:bQ w v l) (hk:∀g,v.ownBlock=some g->w'.heap[g]?=w.heap[g]?):bQ w' v l:=by
 obtain⟨A,c,rfl,I,h2,F⟩:=h;refine⟨A,c,rfl,I,h2,fun k x D=>?_⟩;obtain⟨b,o,rfl,J,O,c2,G⟩:=F k x D;have Z:=hk b rfl;have z:∀i,w'.cell? ⟨b,i,none⟩=w.cell? ⟨b,i,none⟩:=fun i=>Ln (a:=⟨b,i,none⟩) Z
 exact⟨b,o,rfl,by rw[z];exact J,by rw[z];exact O,by rw[z];exact c2,by rw[z];exact G⟩
theorem Ir {w:World} {v:Value} {l:List Bnd} (h:bQ w v l) (F:l≠[]):∃g,v.ownBlock=some g/\g<w.heap.size:=by
 obtain⟨A,c,rfl,G,I,z⟩:=h
 cases l with
 | nil=>exact absurd rfl F
 | cons x l =>
  obtain⟨b,o,rfl,D,_⟩:=z 0 x rfl;exact⟨b,rfl,K8 w ⟨b,_,none⟩ D⟩
theorem qZ {w w':World} {v:Value} {l:List Bnd} (h:bQ w v l) (hk:∀g,g<w.heap.size->v.ownBlock=some g->w'.heap[g]?=w.heap[g]?):bQ w' v l:=by
 by_cases F:l=[]
 ·subst F;obtain⟨A,c,rfl,I,J,-⟩:=h;exact⟨A,c,rfl,I,J,by simp⟩
 ·obtain⟨g,G,D⟩:=Ir h F;exact iY h fun O z=>by rw[G]at z;injection z with z;subst z;exact hk g D G
end
section
open Go.RowKit Go.Shelf
def MOk (w:World) (g:Nat) (e:MV):Prop:=bQ w e.2 e.1/\e.2.ownBlock≠some g
end
section
open Go.RowKit Go.Shelf
open Go.Sort (SWO PermIn SortedIn HoldsK grow)
theorem wl:∀{S T:List (List Bnd)},S.Pairwise (fun a b=>bsC a b<0)->T.Pairwise (fun a b=>bsC a b<0)->(∀k,k∈S↔k∈T)->S=T
 | [],[],_,_,_=>rfl
 | [],b::T,_,_,h=>absurd ((h b).2 (Lg ..)) jS
 | a::S,[],_,_,h=>absurd ((h a).1 (Lg ..)) jS
 | a::S,b::T,hS,hT,h=>by
  obtain⟨I,Z⟩:=List.pairwise_cons.1 hS;obtain⟨J,O⟩:=List.pairwise_cons.1 hT;have z:∀{x:List Bnd},¬bsC x x<0:=fun {x} h=>by rw[jc.refl]at h;omega
  have F:a=b:=by
   rcases List.mem_cons.1 ((h a).1 (Lg ..)) with D|D
   ·exact D
   ·rcases List.mem_cons.1 ((h b).2 (Lg ..)) with G|G
    ·exact G.symm
    ·exact absurd (jc.lt a b a (I b G) (J a D)) z
  subst F;rw[wl Z O fun k=>⟨fun hk=>?_,fun hk=>?_⟩]
  ·rcases List.mem_cons.1 ((h k).1 (Lh _ hk)) with rfl|D
   ·exact absurd (I k hk) z
   ·exact D
  ·rcases List.mem_cons.1 ((h k).2 (Lh _ hk)) with rfl|D
   ·exact absurd (J k hk) z
   ·exact D
def qi (m:List Bnd):List (List Bnd)->List (List Bnd)
 | []=>[m]
 | x::l=>if bsC x m<0 then x::qi m l else if bsC x m=0 then x::l else m::x::l
def iK (l:List (List Bnd)):List (List Bnd):=l.foldl (fun S m=>qi m S) []
theorem qu (m:List Bnd):∀l k,k∈qi m l↔k=m\/k∈l
 | [],k=>by simp[qi]
 | x::l,k=>by
  have z:=qu m l k;simp only[qi]
  split
  ·simp only[Lv,z];constructor
   ·rintro (h|h|h)
    ·exact .inr (.inl h)
    ·exact .inl h
    ·exact .inr (.inr h)
   ·rintro (h|h|h)
    ·exact .inr (.inl h)
    ·exact .inl h
    ·exact .inr (.inr h)
  ·split
   ·next h=>have:=Fp.1 h;subst this;simp
   ·simp
theorem wC {m:List Bnd}:∀{l},l.Pairwise (fun a b=>bsC a b<0)->(qi m l).Pairwise (fun a b=>bsC a b<0)
 | [],_=>by simp[qi]
 | x::l,h=>by
  obtain⟨z,G⟩:=List.pairwise_cons.1 h;simp only[qi]
  split
  ·next D =>
   refine List.pairwise_cons.2 ⟨fun k hk=>?_,wC G⟩;rcases (qu m l k).1 hk with rfl|hk
   ·exact D
   ·exact z k hk
  ·split
   ·exact h
   ·next D F =>
    have hm:bsC m x<0:=by have:=jc.anti x m;omega
    refine List.pairwise_cons.2 ⟨fun k hk=>?_,h⟩;rcases List.mem_cons.1 hk with rfl|hk
    ·exact hm
    ·exact jc.lt m x k hm (z k hk)
theorem F4 (l:List (List Bnd)):∀S:List (List Bnd),S.Pairwise (fun a b=>bsC a b<0)->(l.foldl (fun S m=>qi m S) S).Pairwise (fun a b=>bsC a b<0)/\∀k,k∈l.foldl (fun S m=>qi m S) S↔k∈S\/k∈l:=by
 induction l with
 | nil=>intro S h;exact⟨h,fun k=>by simp⟩
 | cons x l F =>
  intro S h;obtain⟨z,D⟩:=F _ (wC (m:=x) h);refine⟨z,fun k=>?_⟩;rw[Ms,D,qu,Lv];constructor
  ·rintro ((h|h)|h)
   ·exact .inr (.inl h)
   ·exact .inl h
   ·exact .inr (.inr h)
  ·rintro (h|h|h)
   ·exact .inl (.inr h)
   ·exact .inl (.inl h)
   ·exact .inr h
theorem fS (l:List (List Bnd)):(iK l).Pairwise (fun a b=>bsC a b<0)/\∀k,k∈iK l↔k∈l:=by
 obtain⟨h,z⟩:=F4 l [] List.Pairwise.nil;exact⟨h,fun k=>by rw[show iK l=l.foldl (fun S m=>qi m S) [] from rfl,z];simp⟩
theorem xj {S l:List (List Bnd)} (h:S.Pairwise (fun a b=>bsC a b<0)) (z:∀k,k∈S↔k∈l):S=iK l :=
 wl h (fS l).1 fun k=>by rw[z,(fS l).2]
end
end
end Go.Proofs.YtokconodddedhaaGreatDoor
namespace Go.Proofs
section
open Go.Shelf
def Tryz.lays189_ren:Go.Shelf.Ren:=⟨fun|189=>340|125=>79|257=>364|128=>136|129=>137|294=>390|295=>391|296=>392|297=>393|298=>394|299=>395|216=>396|300=>397|301=>398|328=>410|329=>193|330=>194|331=>411|332=>412|215=>138|343=>426|n=>n,fun|28=>23|3=>3|46=>152|0=>0|51=>208|53=>210|4=>4|183=>201|182=>200|131=>205|5=>5|9=>9|218=>266|222=>270|228=>313|229=>111|n=>n,fun|n=>n⟩
theorem Tryz.lays189:Go.Proofs.Lays.n189 Tryz.prog Tryz.lays189_ren:=by
 constructor
 all_goals first|kernel_rfl|(intro _;kernel_rfl)|(constructor<;>first|kernel_rfl|(intro _;kernel_rfl))
open Go.Sort Go.RowKit in
theorem Tryz.slices_Sort_int (blk off cap:Nat) (zs:List Int) (w:World) (hH:Holds (Value.int .i64) w blk off zs.toArray) (hblk:blk<w.heap.size) (hsz:zs.length<4611686018427387904) :
  Calls Tryz.prog 340 #[.slice (some ⟨blk,off,none⟩) zs.length cap] w fun e w' =>
   e=.returned (.tuple #[])/\∃n os,w'=grow (putRow (Value.int .i64) (Sort.ahead w n) blk off (zs.mergeSort fun x y=>decide (x<=y)).toArray) os:=Any.slices_Sort_int Tryz.lays189 blk off cap zs w hH hblk hsz
def Tryz.lays107_ren:Go.Shelf.Ren:=⟨fun|107=>338|108=>363|n=>n,fun|28=>23|3=>3|4=>4|0=>0|n=>n,fun|n=>n⟩
theorem Tryz.lays107:Go.Proofs.Lays.n107 Tryz.prog Tryz.lays107_ren:=by
 constructor
 all_goals first|kernel_rfl|(intro _;kernel_rfl)|(constructor<;>first|kernel_rfl|(intro _;kernel_rfl))
open Go.Lib in
theorem Tryz.slices_Contains_int (b off n c:Nat) (zs:List Int) (x:Int) (w:World) (hz:n<=zs.length) (hbig:n<=9223372036854775807) (hc:∀j,j<zs.length->w.cell? ⟨b,off+j,none⟩=some (.int .i64 (zs.getD j 0))) :
  Calls Tryz.prog 338 #[.slice (some ⟨b,off,none⟩) n c,.int .i64 x] w fun e w'=>e=.returned (.bool ((zs.take n).contains x))/\w'=w:=Any.slices_Contains_int Tryz.lays107 b off n c zs x w hz hbig hc
open Go.Lib in
theorem Tryz.slices_Contains_int_empty (a:Option Addr) (c:Nat) (x:Int) (w:World) :
  Calls Tryz.prog 338 #[.slice a 0 c,.int .i64 x] w fun e w'=>e=.returned (.bool false)/\w'=w:=Any.slices_Contains_int_empty Tryz.lays107 a c x w
def Tryz.laysNm220_ren:Go.Shelf.Ren:=⟨fun|20=>341|n=>n,fun|22=>23|3=>3|4=>4|0=>0|n=>n,fun|n=>n⟩
theorem Tryz.laysNm220:Go.Proofs.Lays2.n20 Tryz.prog Tryz.laysNm220_ren:=by
 constructor
 all_goals first|kernel_rfl|(intro _;kernel_rfl)|(constructor<;>first|kernel_rfl|(intro _;kernel_rfl))
open Go.RowKit Go.Lib Go.Sort in
theorem Tryz.slices_Compact_int (blk off cap:Nat) (zs:List Int) (w:World) (hH:Holds (Value.int .i64) w blk off zs.toArray) (hsz:zs.length<=9223372036854775807) (hcap:zs.length<=cap) :
  Calls Tryz.prog 341 #[.slice (some ⟨blk,off,none⟩) zs.length cap] w fun e w'=>e=.returned (.slice (some ⟨blk,off,none⟩) (Lib.compact zs).length cap)/\∃q,w'=putRow (Value.int .i64) (Sort.ahead w q) blk off (Lib.compact zs++List.replicate (zs.length-(Lib.compact zs).length) 0).toArray:=Any.slices_Compact_int Tryz.laysNm220 blk off cap zs w hH hsz hcap
open Go.RowKit Go.Lib Go.Sort in
theorem Tryz.slices_Compact_int_empty (a:Option Addr) (cap:Nat) (w:World) :
  Calls Tryz.prog 341 #[.slice a 0 cap] w fun e w'=>e=.returned (.slice a 0 cap)/\w'=w:=Any.slices_Compact_int_empty Tryz.laysNm220 a cap w
end
end Go.Proofs
namespace Go.Proofs.YtokconodddedhaaGreatDoor
open Go.Proofs.Tryz Go.RowKit
section
open Go.RowKit Go.Lib
attribute [local go_sem] Oper.semAt_some
theorem vE {K:Act->World->Prop} {a:Act} {w:World} (h:∀W:World,W=w->K a W):K a w:=h w rfl
theorem bH {B:Nat} {W W':World} (h:KY W W'):KeepsFrom B W W':=⟨h.size,fun k _ _ hk _=>(h.block k (Array.getElem?_eq_some_iff.1 hk).1).trans hk⟩
theorem lD {W W':World} {row:Option Nat} {b p:Nat} {cs:List Value} (h:Cells W b p cs) (D:W.grownBy W' row) (hr:∀r,row=some r->∃o:Obj,W.heap[r]?=some o/\o.isCells=false):Cells W' b p cs :=
 fun j u z=>cell_kept (h j u z) D hr
theorem bP {W W':World} {row:Option Nat} {B:Nat} {t:TypeId} {v:Value} (h:Boxed W B t v) (F:W.grownBy W' row) (hr:∀r,row=some r->∃o:Obj,W.heap[r]?=some o/\o.isCells=false):Boxed W' B t v :=
 h.kept F (fun e=>by obtain⟨o,z,D⟩:=hr B e.symm;rw[show W.heap[B]?=_ from h]at z;cases z;cases D)
theorem gn {n:Nat} {w X Y:World} {row:Option Nat} (h:Below n w X) (z:n<=X.heap.size) (D:X.grownBy Y row) (hr:∀r,row=some r->n<=r):Below n w Y:=h.grown D z (fun k e=>hr k e)
theorem ie {f:Pt->Int}:∀{l:List Pt},(∀y∈l,f y=0)->dV (l.map f)=0
 | [],_=>rfl
 | a::r,h=>by
  rw[LF,dV,K6 (by rw[h a (Lg ..)];simp)];exact ie fun y hy=>h y (Lh _ hy)
theorem ik {f:Pt->Int}:∀{l:List Pt} {k:Nat} {x:Pt},l[k]?=some x->(∀y∈l.take k,f y=0)->f x≠0->dV (l.map f)=f x
 | [],_,_,h,_,_=>by simp at h
 | a::r,0,x,h,_,h0=>by simp at h;subst h;rw[LF,dV,K7 h0]
 | a::r,k+1,x,h,ha,h0=>by
  rw[LF,dV,K6 (by rw[ha a (by rw[Mx];exact Lg ..)];simp)];exact ik (k:=k) (jQ h) (fun y hy=>ha y (by rw[Mx];exact Lh _ hy)) h0
theorem lE (w:World) (o:Obj) (t:TypeId) (v:Value):Boxed ((w.alloc o).alloc (.cells #[v] t)) (w.heap.size+1) t v:=by
 have h:=Boxed.new (w.alloc o) t v;rw[L4]at h;exact h
def GR (w:World) (h:Nat) (f:Pt->Int) (z:List Pt) (k:Nat) (W:World):Prop:=Boxed W h 38 (KW 0)/\(∀y∈z.take k,f y=0)/\KY w W
def Fc (w:World) (z:Nat) (f:Pt->Int) (h:List Pt) (c:Code) (k:Nat) (W:World):Prop :=
 c=.ret/\∃x,h[k-1]?=some x/\(∀y∈h.take (k-1),f y=0)/\f x≠0/\Boxed W z 38 (KW (f x))/\KY w W
theorem td {w:World} {F B:Nat} {f:Pt->Int} {G:List Pt} (hw:w.heap.size<=B):OwnFrom B (GR w F f G) :=
 fun _ _ _ _ ⟨z,D,h⟩ hg hr=>⟨bP z hg (fun r e=>(hr r e).2),D,gn h h.size hg (fun r e=>Lf hw (hr r e).1)⟩
theorem sO {w:World} {I B:Nat} {f:Pt->Int} {J:List Pt} (hw:w.heap.size<=B) (c:Code):OwnFrom B (Fc w I f J c) :=
 fun _ _ _ _ ⟨h0,x,z,D,F,G,h⟩ hg hr=>⟨h0,x,z,D,F,bP G hg (fun r e=>(hr r e).2),gn h h.size hg (fun r e=>Lf hw (hr r e).1)⟩
theorem lu {f:Pt->Int} {z:List Pt} {k:Nat} {x:Pt} (h:∀y∈z.take k,f y=0) (D:z[k]?=some x) (h0:f x=0):∀y∈z.take (k+1),f y=0:=fun y hy=>by
 rw[bZ D,L0,Lz]at hy;rcases hy with hy|rfl
 ·exact h y hy
 ·exact h0
def AxP (T:Array Value) (p b:Nat) (W0:Nat) (x:Pt) (a:Array Value) (h:Act) (W:World):Prop :=
 ∃B v vc,W0<=B/\a=#[ptV x v vc]/\h={ tmps:=(T.setIfInBounds p (ptV x v vc)).setIfInBounds b (.pointer (some ⟨B,0,none⟩)),defers:=[] }/\Cells W B 0 (aQ x v vc)/\(∃A n c,v=.slice A n c)/\∃A n c,vc=.slice A n c
theorem pz (T:Array Value) (p b W0 B:Nat) (x:Pt) (a:Array Value) (z:Act):OwnFrom B (fun (_:Unit) W=>AxP T p b W0 x a z W) :=
 fun _ _ _ _ ⟨b,v,vc,h0,h,D,F,G⟩ hg hr=>⟨b,v,vc,h0,h,D,lD F hg (fun r e=>(hr r e).2),G⟩
theorem iC {F:Fence} {n:Nat} {P:Program} {c:Code} {Q:Exit->Act->World->Prop} {a:Act} {w:World} (h:∀z,z=a->c.wpIn F n P Q z w):c.wpIn F n P Q a w:=h a rfl
theorem mw {W0:World} {x:Pt} {a:Array Value} {W:World} (h:InP W0 x a W):∃A n c Ac D z,a=#[ptV x (.slice A n c) (.slice Ac D z)]:=by
 obtain⟨d,v,vc,rfl,⟨A,c,rfl,-⟩,⟨Ac,z,rfl,-⟩⟩:=h;exact⟨A,_,c,Ac,_,z,rfl⟩
theorem gR {n0 n1:Nat} {W W':World} (h:KY W W') (z:n0<=W.heap.size):bj n0 n1 none W W':=cM h z (fun b D=>by cases D)
mutual
theorem kC:∀(x:Pt) y,y∈aO x->ptB y<=ptB x
 | .mk o l a b c d e,y,h=>by
  rw[aO,Lv]at h;rcases h with rfl|h
  ·exact Ld _
  ·have:=tJ l y h;rw[rG (.mk o l a b c d e)];show ptB y<=1+pf l+aM e;omega
theorem tJ:∀(l:List Pt) y,y∈bG l->ptB y<=pf l
 | [],y,h=>by rw[bG]at h;cases h
 | a::r,y,h=>by
  rw[bG,L0]at h;rw[pf];rcases h with h|h
  ·have:=kC a y h;omega
  ·have:=tJ r y h;omega
end
mutual
theorem BH:∀(x:Pt) y,y∈aO x->ptN y<=ptN x
 | .mk o l a b c d e,y,h=>by
  rw[aO,Lv]at h;rcases h with rfl|h
  ·exact Ld _
  ·have:=sH l y h;rw[dm (.mk o l a b c d e)];show ptN y<=1+aU l;omega
theorem sH:∀(l:List Pt) y,y∈bG l->ptN y<=aU l
 | [],y,h=>by rw[bG]at h;cases h
 | a::r,y,h=>by
  rw[bG,L0]at h;rw[aU];rcases h with h|h
  ·have:=BH a y h;omega
  ·have:=sH r y h;omega
end
theorem yf:∀l:List Pt,l.length<=aU l
 | []=>Lb _
 | a::r=>by rw[Lt,aU];have:=yf r;have:=dm a;omega
theorem E3 (x:Pt):x.args.length<=ptN x:=by have:=yf x.args;have:=dm x;omega
theorem ma (x:Pt):aM x.cond<=ptB x:=by have:=rG x;omega
theorem pT (d:Nat) (x:Pt) (v vc:Value) (w:World) (hT:Shp w) (hx:aW d w v x.args) (H':aF d w vc x.cond.args) (hN:ptB x<=1048576) :
  KZ 186 #[ptV x v vc] w (KW (fc x)):=by
 have U':=ld x;have P':Hid (ptN x<=64->∀(y:Pt) (a:Array Value) (W:World),y∈aO x->InP w y a W->KY w W->Calls prog 254 a W fun e w'=>e=.returned (KW (ptE y))/\KY W w'):=by
  refine jD fun i' y a W hy J hW=>?_
  obtain⟨d',u,uc,rfl,h1,h2⟩:=J;exact zS d' y u uc W (hT.stays hW) (by have:=E3 y;have:=BH x y hy;omega) (h1.stays (aB d') hW) (h2.stays (ai d') hW) (by have:=ma y;have:=kC x y hy;omega)
 have HX:=jD hx;have E':=jD H';obtain⟨A,c,rfl,-⟩:=hx;obtain⟨Ac,cc,rfl,-⟩:=H';obtain⟨n,hn⟩:=jF x.args.length;obtain⟨nc,C'⟩:=jF x.cond.args.length;rw[<-hn,<-C'];rw[<-hn]at HX;rw[<-C']at E';have m':=jD (fun (W:World) (hW:KY w W)=>De d x (.slice A n c) Ac nc cc W (HX.out.stays (aB d) hW) om);have I':=jD (fun (W:World)=>gp x A n c Ac nc cc W);have X':=jD (fun (W:World) (B:Nat) (hW:KY w W) (hC:Cells W B 0 (aQ x (.slice A n c) (.slice Ac nc cc)))=>gl w W W.heap.size none (fun b h=>by cases h) d x _ _ B HX.out E'.out hW (Ld _) (kX W) hC);have N0:Hid (∀y v vc,(aQ y v vc).toArray=#[KW y.op,v,KW y.ty,KW y.vr,KW y.sc,KW y.sp,KW y.cond.op,vc,KW y.cond.vr,KW y.cond.fl,KW y.cond.kd,KW y.cond.val.kind,KW y.cond.val.num,.string y.cond.val.text]):=jD (fun _ _ _=>rfl);obtain⟨N,h'⟩:=jF (ptN x);obtain⟨D,t'⟩:=jF (ptD x);obtain⟨R,hR⟩:=jF (fc x);rw[<-h',<-t']at m';rw[<-hR];have HR:Hid (R=if 64<N then 5 else if 12<D then 12 else dV ((aO x).map ptE)):=jD (by rw[hR,h',t'];rfl);have T':=jD h';clear hR t' h' hn C' U' hT hN;unfold ptV at m' I' ⊢;refine (Ng (n:=5)).1 ?_;refine callsIn_of_wp_marks func186 rfl trivial ?_ rfl;simp only[ntmps186,MM,Lt,MG,Nat.reduceAdd,Nat.reduceSub,Nh,Ni,Nj,Nk,MJ,Mr];gi_wp2_with fail;refine⟨trivial,callsIn_wide.2 ?_⟩;refine aw fun W9 G=>?_
 have Y':W9.heap.size=w.heap.size+2:=by rw[G];simp
 have r':KY w W9:=gb G;have S':Cells W9 w.heap.size 0 (aQ x (.slice A n c) (.slice Ac nc cc)):=ci (jG G) (jG G) (jG G) (jG G) (jG G) (jG G) (jG G) (jG G) (jG G) (jG G) (jG G) (jG G) (jG G) (jG G);have y2:Boxed W9 (w.heap.size+1) 38 (KW 0):=by rw[G];exact lE _ _ _ _
 clear G;refine (m'.out _ r').mono ?_;rintro e W1 ⟨rfl,f'⟩;have M':Cells W1 w.heap.size 0 (aQ x (.slice A n c) (.slice Ac nc cc)):=fun j u hj=>aa f' (S' j u hj)
 have z2:Boxed W1 (w.heap.size+1) 38 (KW 0):=(f'.block _ om).trans y2;have O0:w.heap.size+2<=W1.heap.size:=by have:=f'.size;omega
 have B':=jD (ab r' f');clear r' f' S' y2 Y';have c2:=z2.cell;have f2:=z2.frozen
 by_cases i':64<N
 ·have L':(64:Int)<(N:Int):=by omega
  obtain rfl:R=5:=by rw[HR.out,K7 i']
  clear HR;gi_wp2_with fail;refine⟨KW 5,?_,rfl,aA B'.out om _⟩;have hc:=(z2.set (KW 5)).cell;simp[results,Tryz.f186,go_sem,hc]
 have L':¬(64:Int)<(N:Int):=by omega
 by_cases F':12<D
 ·have D':(12:Int)<(D:Int):=by omega
  obtain rfl:R=12:=by rw[HR.out,K6 i',K7 F']
  clear HR;gi_wp2_with fail;refine⟨KW 12,?_,rfl,aA B'.out om _⟩;have hc:=(z2.set (KW 12)).cell;simp[results,Tryz.f186,go_sem,hc]
 have D':¬(12:Int)<(D:Int):=by omega
 have G':Hid (R=dV ((aO x).map ptE)):=jD (by rw[HR.out,K6 i',K6 F']);have R':=jD (P'.out (by have:=T'.out;omega));clear HR P';obtain⟨p0,p1,p2,p3,p4,p5,p6,p7,p8,p9,z',u',q',s'⟩:=dv M';clear M';gi_wp2_with fail;refine⟨trivial,callsIn_wide.2 ?_⟩;refine (I'.out _).mono ?_;rintro e W2 ⟨rfl,e2⟩;have Z':Cells W2 W1.heap.size 0 (aQ x (.slice A n c) (.slice Ac nc cc)):=by rw[e2];exact gm
 have b2:Boxed W2 (w.heap.size+1) 38 (KW 0):=by rw[e2];exact z2.alloc _
 have Z:Hid (KY w W2):=jD (by rw[e2];exact aJ B'.out _);have Q0:W2.heap.size=W1.heap.size+1:=by rw[e2];simp
 clear e2 p0 p1 p2 p3 p4 p5 p6 p7 p8 p9 z' u' q' s' z2 c2 f2;gi_wp2_with fail;refine iC fun a0 e0=>?_
 refine nO (n:=5) (gf:=255) (lb:=#[.pointer (some ⟨W1.heap.size,0,none⟩)]) (by rw[e0];rfl) (enters_of func255 kr rfl) (X'.out W2 W1.heap.size Z.out Z')
  bW (kA Z.out.size (fun b h=>by cases h)) (La _ _) (fun x v=>py w _ x v) (fun x v W h=>mI h)
  (GR w (w.heap.size+1) ptE (aO x)) (Fc w (w.heap.size+1) ptE (aO x)) (td Z.out.size) (sO Z.out.size) ⟨b2,by simp,Z.out⟩
  (AxP a0.tmps 18 5 w.heap.size) (fun x v a'=>pz _ _ _ _ _ x v a') ?assign ?body ?done ?stop
 case assign =>
  intro m l k y v W K hl hy hi J hK;obtain⟨A',n',c',N',J',O',rfl⟩:=mw J;have b':w.heap.size<=W.heap.size:=hi.2.2.size;have HI:=jD hi;have A0:=jD J;have HK:=jD hK;have HY:=jD hy;clear hi J hK hy;rw[e0];unfold ptV;gi_wp2;refine vE fun W' O=>?_
  have F:KY W W':=gb O;have hc:Cells W' W.heap.size 0 (aQ y (.slice A' n' c') (.slice N' J' O')):=ci (jG O) (jG O) (jG O) (jG O) (jG O) (jG O) (jG O) (jG O) (jG O) (jG O) (jG O) (jG O) (jG O) (jG O);clear O;refine HK.out _ _ (bH F) (gR F b') ⟨(HI.out.1.lt |> fun h=>(F.block _ h).trans HI.out.1),HI.out.2.1,HI.out.2.2.trans (F.mono b')⟩ A0.out ⟨W.heap.size,_,_,b',rfl,by rw[e0];rfl,hc,⟨_,_,_,rfl⟩,⟨_,_,_,rfl⟩⟩
 case body =>
  rintro m l k y v a' W hl-hy hi J ⟨B,u,uc,hB,rfl,rfl,hc,⟨A',n',c',rfl⟩,⟨N',J',O',rfl⟩⟩;have F:=hi.2.2;have b':w.heap.size<=W.heap.size:=F.size;have V':w.heap.size+1<W.heap.size:=hi.1.lt;have l':=jD (fun (W':World) (h:KY W W')=>R'.out y _ W' (Li hy) J (ab F h));unfold ptV at l';have HY:=jD hy;have HI:=jD hi;obtain⟨p0,p1,p2,p3,p4,p5,p6,p7,p8,p9,z',u',q',s'⟩:=dv hc;have P0:B<W.heap.size:=K8 W ⟨B,_,none⟩ p0;obtain⟨z,hz⟩:=jF (ptE y);rw[<-hz]at l';have HZ:=jD hz;clear J hc hy hi hz;rw[e0];unfold ptV;simp only[Lw,Lj,Lk];gi_wp2_with fail;refine⟨trivial,fun h=>by simp[Fence.wide]at h,CallsIn.inRound _ (callsIn_wide.2 ?_)⟩;refine (l'.out _ (La _ _)).mono ?_;rintro e W3 ⟨rfl,x'⟩;have b3:Boxed W3 (w.heap.size+1) 38 (KW 0):=(x'.block _ V').trans HI.out.1;have g':=jD x';have c3:=b3.cell;have f3:=b3.frozen;clear p0 p1 p2 p3 p4 p5 p6 p7 p8 p9 z' u' q' s' x'
  by_cases y':z=0
  ·subst y';gi_wp2_with fail;exact⟨bH g'.out,gR g'.out b',b3,lu HI.out.2.1 HY.out HZ.out.symm,HI.out.2.2.trans (g'.out.mono b')⟩
  ·have K0:(z==0)=false:=jQ y';gi_wp2_with fail;refine⟨(bH g'.out).trans ((KeepsOthers.setCell _ _ _).from _),rfl,y,jQ HY.out,jQ HI.out.2.1,by rw[<-HZ.out];exact y',?_,?_⟩
   ·rw[<-HZ.out];exact b3.set _
   ·exact aA (HI.out.2.2.trans (g'.out.mono b')) om _
 case done =>
  rintro D W hD ⟨b3,I,F⟩ hK;have p':R=0:=by rw[G'.out];exact ie (jQ I)
  have k':=jD F;have HK:=jD hK;have c3:=b3.cell;have f3:=b3.frozen;subst p';clear I F hK;rw[e0];gi_wp2_with fail;have j':=(KeepsOthers.setCell W ⟨w.heap.size+1,0,none⟩ (KW 0)).same D _ HK.out rfl;refine⟨by simp,.inl ⟨_,_,rfl,run_takeDeferred j',?_⟩⟩;have q:=b3.set (KW 0);have hd:=(q.kept (grownBy_putObj' _ D (.deferred none)) (by intro h;cases h;have h2:(World.setCell _ _ _).heap[w.heap.size+1]?=_:=q;rw[j']at h2;cases h2)).cell;refine⟨KW 0,?_,rfl,(aA k'.out om _).trans (belowK_b (w:=w) (Ld _) _ D _ _ (by have:=Z.out.size;omega) j' rfl rfl)⟩;simp[results,Tryz.f186,go_sem,hd]
 case stop =>
  rintro D c k W hD hk ⟨rfl,y,hy,I,H0,b3,F⟩ hK;have p':R=ptE y:=by rw[G'.out];exact ik (jQ hy) (jQ I) H0
  have k':=jD F;have HK:=jD hK;subst p';clear I F hK hy;rw[e0];gi_wp2;refine⟨by simp,.inl ⟨_,_,rfl,run_takeDeferred HK.out,?_⟩⟩;have hd:=(b3.kept (grownBy_putObj' W D (.deferred none)) (by intro h;cases h;have h2:W.heap[w.heap.size+1]?=_:=b3;rw[HK.out]at h2;cases h2)).cell;refine⟨KW (ptE y),?_,rfl,k'.out.trans (belowK_b (w:=w) (Ld _) _ D _ _ (by have:=Z.out.size;omega) HK.out rfl rfl)⟩;simp[results,Tryz.f186,go_sem,hd]
end
section
open Go.RowKit Go.Lib
attribute [local go_sem] Oper.semAt_some
def kl (y:Pt):Int:=if 8<=y.op then 1 else 0
def gh (x:Pt):Int:=if fc x≠0 then fc x else dV ((aO x).map kl)
theorem oz:∀l:List Pt,dV (l.map kl)=if l.any (fun y=>decide (8<=y.op)) then 1 else 0
 | []=>rfl
 | a::r=>by
  rw[LF,dV,oz r,List.any_cons];unfold kl
  by_cases h:8<=a.op<;>simp[h]
theorem DD (x:Pt):gh x=if fc x≠0 then fc x else if (aO x).any (fun y=>decide (8<=y.op)) then 1 else 0:=by unfold gh;rw[oz]
theorem Du (d:Nat) (x:Pt) (v vc:Value) (w:World) (hT:Shp w) (hx:aW d w v x.args) (l':aF d w vc x.cond.args) (hN:ptB x<=1048576) :
  KZ 122 #[ptV x v vc] w (KW (gh x)):=by
 have b':=jD (fun (W:World) (hW:KY w W)=>pT d x v vc W (hT.stays hW) (hx.stays (aB d) hW) (l'.stays (ai d) hW) hN);have HX:=jD hx;have x':=jD l';obtain⟨A,c,rfl,-⟩:=hx;obtain⟨Ac,cc,rfl,-⟩:=l';obtain⟨n,hn⟩:=jF x.args.length;obtain⟨nc,i'⟩:=jF x.cond.args.length;rw[<-hn,<-i'];rw[<-hn]at HX;rw[<-i']at x';rw[<-hn,<-i']at b';have t':=jD (fun (W:World) (hW:KY w W)=>b'.out W hW);clear b';have z':=jD (fun (W:World)=>gp x A n c Ac nc cc W);have H':=jD (fun (W:World) (B:Nat) (hW:KY w W) (hC:Cells W B 0 (aQ x (.slice A n c) (.slice Ac nc cc)))=>gl w W W.heap.size none (fun b h=>by cases h) d x _ _ B HX.out x'.out hW (Ld _) (kX W) hC);have O':Hid (∀y v vc,(aQ y v vc).toArray=#[KW y.op,v,KW y.ty,KW y.vr,KW y.sc,KW y.sp,KW y.cond.op,vc,KW y.cond.vr,KW y.cond.fl,KW y.cond.kd,KW y.cond.val.kind,KW y.cond.val.num,.string y.cond.val.text]):=jD (fun _ _ _=>rfl);obtain⟨z,hz⟩:=jF (fc x);obtain⟨R,hR⟩:=jF (gh x);rw[<-hz]at t';rw[<-hR];have HR:Hid (R=if z≠0 then z else dV ((aO x).map kl)):=jD (by rw[hR,hz];rfl);clear hR hz hn i' hT hN;unfold ptV at t' z' ⊢;refine (Ng (n:=5)).1 ?_;refine callsIn_of_wp_marks func122 rfl trivial ?_ rfl;simp only[ntmps122,MM,Lt,MG,Nat.reduceAdd,Nat.reduceSub,Nh,Ni,Nj,Nk,MJ,Mr];gi_wp2_with fail;refine⟨trivial,callsIn_wide.2 ?_⟩;refine aw fun W9 G=>?_
 have I':W9.heap.size=w.heap.size+2:=by rw[G];simp
 have q':KY w W9:=gb G;have G':Cells W9 w.heap.size 0 (aQ x (.slice A n c) (.slice Ac nc cc)):=ci (jG G) (jG G) (jG G) (jG G) (jG G) (jG G) (jG G) (jG G) (jG G) (jG G) (jG G) (jG G) (jG G) (jG G);have y2:Boxed W9 (w.heap.size+1) 38 (KW 0):=by rw[G];exact lE _ _ _ _
 clear G;refine (t'.out _ q').mono ?_;rintro e W1 ⟨rfl,d'⟩;have C':Cells W1 w.heap.size 0 (aQ x (.slice A n c) (.slice Ac nc cc)):=fun j u hj=>aa d' (G' j u hj)
 have z2:Boxed W1 (w.heap.size+1) 38 (KW 0):=(d'.block _ om).trans y2;have R':w.heap.size+2<=W1.heap.size:=by have:=d'.size;omega
 have F':=jD (ab q' d');clear q' d' G' y2 I';have c2:=z2.cell;have f2:=z2.frozen
 by_cases h':z=0
 case neg =>
  have N':(z==0)=false:=jQ h';obtain rfl:R=z:=by rw[HR.out,K7 h']
  clear HR;gi_wp2_with fail;refine⟨KW R,?_,rfl,aA F'.out om _⟩;have hc:=(z2.set (KW R)).cell;simp[results,Tryz.f122,go_sem,hc]
 have y':Hid (R=dV ((aO x).map kl)):=jD (by rw[HR.out,K6 (jQ h')]);subst h';clear HR;obtain⟨p0,p1,p2,p3,p4,p5,p6,p7,p8,p9,u',s',p',r'⟩:=dv C';clear C';gi_wp2_with fail;refine⟨trivial,callsIn_wide.2 ?_⟩;refine (z'.out _).mono ?_;rintro e W2 ⟨rfl,e2⟩;have J':Cells W2 W1.heap.size 0 (aQ x (.slice A n c) (.slice Ac nc cc)):=by rw[e2];exact gm
 have b2:Boxed W2 (w.heap.size+1) 38 (KW 0):=by rw[e2];exact z2.alloc _
 have O:Hid (KY w W2):=jD (by rw[e2];exact aJ F'.out _);have T':W2.heap.size=W1.heap.size+1:=by rw[e2];simp
 clear e2 p0 p1 p2 p3 p4 p5 p6 p7 p8 p9 u' s' p' r' z2 c2 f2;gi_wp2_with fail;refine iC fun a0 e0=>?_
 refine nO (n:=5) (gf:=255) (lb:=#[.pointer (some ⟨W1.heap.size,0,none⟩)]) (by rw[e0];rfl) (enters_of func255 kr rfl) (H'.out W2 W1.heap.size O.out J')
  bW (kA O.out.size (fun b h=>by cases h)) (La _ _) (fun x v=>py w _ x v) (fun x v W h=>mI h)
  (GR w (w.heap.size+1) kl (aO x)) (Fc w (w.heap.size+1) kl (aO x)) (td O.out.size) (sO O.out.size) ⟨b2,by simp,O.out⟩
  (AxP a0.tmps 12 4 w.heap.size) (fun x v a'=>pz _ _ _ _ _ x v a') ?assign ?body ?done ?stop
 case assign =>
  intro m l k y v W K hl hy hi f' hK;obtain⟨A',n',c',D',B',E',rfl⟩:=mw f';have g':w.heap.size<=W.heap.size:=hi.2.2.size;have Z:=jD hi;have L':=jD f';have HK:=jD hK;have HY:=jD hy;clear hi f' hK hy;rw[e0];unfold ptV;gi_wp2;refine vE fun W' J=>?_
  have F:KY W W':=gb J;have hc:Cells W' W.heap.size 0 (aQ y (.slice A' n' c') (.slice D' B' E')):=ci (jG J) (jG J) (jG J) (jG J) (jG J) (jG J) (jG J) (jG J) (jG J) (jG J) (jG J) (jG J) (jG J) (jG J);clear J;refine HK.out _ _ (bH F) (gR F g') ⟨(Z.out.1.lt |> fun h=>(F.block _ h).trans Z.out.1),Z.out.2.1,Z.out.2.2.trans (F.mono g')⟩ L'.out ⟨W.heap.size,_,_,g',rfl,by rw[e0];rfl,hc,⟨_,_,_,rfl⟩,⟨_,_,_,rfl⟩⟩
 case body =>
  rintro m l k y v a' W hl-hy hi f' ⟨B,u,uc,hB,rfl,rfl,hc,⟨A',n',c',rfl⟩,⟨D',B',E',rfl⟩⟩;have F:=hi.2.2;have g':w.heap.size<=W.heap.size:=F.size;have P':w.heap.size+1<W.heap.size:=hi.1.lt;have HY:=jD hy;have Z:=jD hi;obtain⟨p0,p1,p2,p3,p4,p5,p6,p7,p8,p9,u',s',p',r'⟩:=dv hc;have S':B<W.heap.size:=K8 W ⟨B,_,none⟩ p0;have c3:=Z.out.1.cell;have f3:=Z.out.1.frozen;clear f' hc hy hi;rw[e0];unfold ptV;simp only[Lw,Lj,Lk];clear p1 p2 p3 p4 p5 p6 p7 p8 p9 u' s' p' r'
  by_cases h8:8<=y.op
  ·have hm:kl y=1:=K7 h8;gi_wp2_with fail;refine⟨(KeepsOthers.setCell _ _ _).from _,rfl,y,jQ HY.out,jQ Z.out.2.1,by rw[hm];decide,?_,?_⟩
   ·rw[hm];exact Z.out.1.set _
   ·exact aA Z.out.2.2 om _
  ·have hm:kl y=0:=K6 h8;gi_wp2_with fail;exact⟨KeepsFrom.refl _ _,gC _ _ _ _,Z.out.1,lu Z.out.2.1 HY.out hm,Z.out.2.2⟩
 case done =>
  rintro D W hD ⟨b3,I,F⟩ hK;have m':R=0:=by rw[y'.out];exact ie (jQ I)
  have k':=jD F;have HK:=jD hK;have c3:=b3.cell;have f3:=b3.frozen;subst m';clear I F hK;rw[e0];gi_wp2_with fail;have j':=(KeepsOthers.setCell W ⟨w.heap.size+1,0,none⟩ (KW 0)).same D _ HK.out rfl;refine⟨by simp,.inl ⟨_,_,rfl,run_takeDeferred j',?_⟩⟩;have q:=b3.set (KW 0);have hd:=(q.kept (grownBy_putObj' _ D (.deferred none)) (by intro h;cases h;have h2:(World.setCell _ _ _).heap[w.heap.size+1]?=_:=q;rw[j']at h2;cases h2)).cell;refine⟨KW 0,?_,rfl,(aA k'.out om _).trans (belowK_b (w:=w) (Ld _) _ D _ _ (by have:=O.out.size;omega) j' rfl rfl)⟩;simp[results,Tryz.f122,go_sem,hd]
 case stop =>
  rintro D c k W hD hk ⟨rfl,y,hy,I,M',b3,F⟩ hK;have m':R=kl y:=by rw[y'.out];exact ik (jQ hy) (jQ I) M'
  have k':=jD F;have HK:=jD hK;subst m';clear I F hK hy;rw[e0];gi_wp2;refine⟨by simp,.inl ⟨_,_,rfl,run_takeDeferred HK.out,?_⟩⟩;have hd:=(b3.kept (grownBy_putObj' W D (.deferred none)) (by intro h;cases h;have h2:W.heap[w.heap.size+1]?=_:=b3;rw[HK.out]at h2;cases h2)).cell;refine⟨KW (kl y),?_,rfl,k'.out.trans (belowK_b (w:=w) (Ld _) _ D _ _ (by have:=O.out.size;omega) HK.out rfl rfl)⟩;simp[results,Tryz.f122,go_sem,hd]
end
section
open Go.RowKit Go.Lib
attribute [local go_sem] Oper.semAt_some
abbrev Cn:=Int × Int × Bool
def bS (st:Cn) (y:Pt):Cn:=(if bX y.op then st.1+1 else st.1,if fz y.op then st.2.1+1 else st.2.1,(if bX y.op then st.2.2&&decide (y.vr=st.1) else st.2.2)&&(!fz y.op || decide (y.sc=st.2.1)))
def gT (l:List Pt):Cn:=l.foldl bS (0,0,true)
theorem qc:∀(l:List Pt) (v s:Int) (o:Bool),(l.foldl bS (v,s,o)).2.2=(o&&dY v s l)
 | [],v,s,o=>by simp[dY]
 | y::r,v,s,o=>by
  rw[Ms];show (r.foldl bS (_,_,_)).2.2=_;rw[qc r,dY]
  cases h:bX y.op<;>cases z:fz y.op<;>simp[Bool.and_assoc]
theorem AI (l:List Pt):(gT l).2.2=dY 0 0 l:=by unfold gT;rw[qc];simp
theorem Cv {l:List Pt} {k:Nat} {y:Pt} (h:l[k]?=some y):gT (l.take (k+1))=bS (gT (l.take k)) y:=by
 unfold gT;rw[bZ h,Nq];rfl
theorem Be:∀(l:List Pt) (v s:Int) (o:Bool),v<=(l.foldl bS (v,s,o)).1/\(l.foldl bS (v,s,o)).1<=v+l.length/\s<=(l.foldl bS (v,s,o)).2.1/\(l.foldl bS (v,s,o)).2.1<=s+l.length
 | [],v,s,o=>by simp
 | y::r,v,s,o=>by
  rw[Ms];have h:=Be r (bS (v,s,o) y).1 (bS (v,s,o) y).2.1 (bS (v,s,o) y).2.2;have D:(bS (v,s,o) y).1=v\/(bS (v,s,o) y).1=v+1:=by simp only[bS];split<;>simp
  have F:(bS (v,s,o) y).2.1=s\/(bS (v,s,o) y).2.1=s+1:=by simp only[bS];split<;>simp
  have z:((bS (v,s,o) y).1,(bS (v,s,o) y).2.1,(bS (v,s,o) y).2.2)=bS (v,s,o) y:=rfl;rw[z]at h;rw[Lt];omega
theorem IQ (l:List Pt) (k:Nat):0<=(gT (l.take k)).1/\(gT (l.take k)).1<=l.length/\0<=(gT (l.take k)).2.1/\(gT (l.take k)).2.1<=l.length:=by
 have h:=Be (l.take k) 0 0 true;have z:(l.take k).length<=l.length:=by rw[Ml];omega
 unfold gT;omega
theorem I5 {w:World} (h:Shp w) {op:Int} (h0:0<=op) (F:op<=10):∃(k D z:Nat),op=(k:Int)/\k<11/\True/\True /\
  Cells w 0 (k*6) [KW (D:Int),KW (z:Int),.bool (bX op),.bool (lP op),.bool (fz op),.bool (fB op)]:=by
 obtain⟨k,D,z,e,I,-,-,G⟩:=Ga h (x:=.mk op [] 0 0 0 0 mf) h0 F (Lb 64);exact⟨k,D,z,e,I,trivial,trivial,G⟩
def Bx3 (W:World) (B:Nat) (st:Cn):Prop:=Boxed W B 3 (KW st.1)/\Boxed W (B+1) 3 (KW st.2.1)/\Boxed W (B+1+1) 4 (.bool st.2.2)
def Rd (w:World) (n1 B:Nat) (W W':World) (st:Cn):Prop:=KeepsFrom n1 W W'/\bj w.heap.size n1 none W W'/\Bx3 W' B st/\KY w W'
section
variable {w W W' : World} {n1 B : Nat} {st : Cn}
theorem Bx3.set0 (h:Bx3 W B st) (v:Int):Bx3 (W.setCell ⟨B,0,none⟩ (.int .i64 v)) B (v,st.2.1,st.2.2) :=
 ⟨h.1.set _,h.2.1.kept (grownBy_setCell' _ _ _) jS,h.2.2.kept (grownBy_setCell' _ _ _) (by simp;omega)⟩
theorem Bx3.set1 (h:Bx3 W B st) (v:Int):Bx3 (W.setCell ⟨B+1,0,none⟩ (.int .i64 v)) B (st.1,v,st.2.2) :=
 ⟨h.1.kept (grownBy_setCell' _ _ _) jS,h.2.1.set _,h.2.2.kept (grownBy_setCell' _ _ _) jS⟩
theorem Bx3.set2 (h:Bx3 W B st) (v:Bool):Bx3 (W.setCell ⟨B+1+1,0,none⟩ (.bool v)) B (st.1,st.2.1,v) :=
 ⟨h.1.kept (grownBy_setCell' _ _ _) (by simp;omega),h.2.1.kept (grownBy_setCell' _ _ _) jS,h.2.2.set _⟩
theorem Bx3.alloc (h:Bx3 W B st) (o:Obj):Bx3 (W.alloc o) B st:=⟨h.1.alloc o,h.2.1.alloc o,h.2.2.alloc o⟩
theorem Rd.al (h:Rd w n1 B W W' st) (z:w.heap.size<=W'.heap.size) (o:Obj):Rd w n1 B W (W'.alloc o) st :=
 ⟨h.1.trans (bH (ag W' o)),bW h.2.1 (gR (ag W' o) z),h.2.2.1.alloc o,aJ h.2.2.2 o⟩
theorem Rd.setC (h:Rd w n1 B W W' st) {b:Nat} {v:Value} {z:Cn} (F:Bx3 (W'.setCell ⟨b,0,none⟩ v) B z) (h0:w.heap.size<=b) (D:b<n1):Rd w n1 B W (W'.setCell ⟨b,0,none⟩ v) z :=
 ⟨h.1.trans ((KeepsOthers.setCell _ _ _).from _),bW h.2.1 (sl W' h0 D jS v),F,aA h.2.2.2 h0 _⟩
theorem Rd.s0 (h:Rd w n1 B W W' st) (h0:w.heap.size<=B) (z:B<n1) (v:Int):Rd w n1 B W (W'.setCell ⟨B,0,none⟩ (.int .i64 v)) (v,st.2.1,st.2.2):=h.setC (h.2.2.1.set0 v) h0 z
theorem Rd.s1 (h:Rd w n1 B W W' st) (h0:w.heap.size<=B+1) (z:B+1<n1) (v:Int):Rd w n1 B W (W'.setCell ⟨B+1,0,none⟩ (.int .i64 v)) (st.1,v,st.2.2):=h.setC (h.2.2.1.set1 v) h0 z
theorem Rd.s2 (h:Rd w n1 B W W' st) (h0:w.heap.size<=B+1+1) (z:B+1+1<n1) (v:Bool):Rd w n1 B W (W'.setCell ⟨B+1+1,0,none⟩ (.bool v)) (st.1,st.2.1,v):=h.setC (h.2.2.1.set2 v) h0 z
theorem GP (h:Bx3 W B st) {row:Option Nat} (z:W.grownBy W' row) (hr:∀r,row=some r->∃o:Obj,W.heap[r]?=some o/\o.isCells=false):Bx3 W' B st:=⟨bP h.1 z hr,bP h.2.1 z hr,bP h.2.2 z hr⟩
end
def KH (w:World) (h:List Pt) (k:Nat) (W:World):Prop:=Bx3 W (w.heap.size+1) (gT (h.take k))/\KY w W
theorem cz {w W W':World} {n1 k:Nat} {st:Cn} {z:List Pt} (h:Rd w n1 (w.heap.size+1) W W' st) (e:st=gT (z.take k)):KeepsFrom n1 W W'/\bj w.heap.size n1 none W W'/\KH w z k W':=by
 subst e;exact⟨h.1,h.2.1,h.2.2.1,h.2.2.2⟩
theorem GO {w:World} {B:Nat} {D:List Pt} (hw:w.heap.size<=B):OwnFrom B (KH w D) :=
 fun _ _ _ _ ⟨z,h⟩ hg hr=>⟨GP z hg (fun r e=>(hr r e).2),gn h h.size hg (fun r e=>Lf hw (hr r e).1)⟩
def cnV (st:Cn):Value:=.tuple #[KW st.1,KW st.2.1,.bool st.2.2]
theorem Hn (w:World) (o:Obj):Bx3 ((((w.alloc o).alloc (.cells #[.int .i64 0] 3)).alloc (.cells #[.int .i64 0] 3)).alloc (.cells #[.bool true] 4)) (w.heap.size+1) (0,0,true):=by
 have h:=Boxed.new (w.alloc o) 3 (KW 0);have D:=Boxed.new ((w.alloc o).alloc (.cells #[.int .i64 0] 3)) 3 (KW 0);have z:=Boxed.new (((w.alloc o).alloc (.cells #[.int .i64 0] 3)).alloc (.cells #[.int .i64 0] 3)) 4 (.bool true);simp only[L4]at h D z;exact⟨(h.alloc _).alloc _,D.alloc _,z⟩
theorem sn (d:Nat) (x:Pt) (v vc:Value) (w:World) (hT:Shp w) (hx:aW d w v x.args) (s':aF d w vc x.cond.args) (hN:ptB x<=1048576) (C':∀y∈aO x,0<=y.op/\y.op<=10) :
  KZ 123 #[ptV x v vc] w (cnV (gT (aO x))):=by
 have HT:=jD (fun (W:World) (hW:KY w W)=>hT.stays hW);have P':=jD C';have J':Hid ((aO x).length<=1048576):=jD (by rw[dh];have:=ld x;omega);clear C';have HX:=jD hx;have q':=jD s';obtain⟨A,c,rfl,-⟩:=hx;obtain⟨Ac,cc,rfl,-⟩:=s';obtain⟨n,hn⟩:=jF x.args.length;obtain⟨nc,p'⟩:=jF x.cond.args.length;rw[<-hn,<-p'];rw[<-hn]at HX;rw[<-p']at q';have t':=jD (fun (W:World)=>gp x A n c Ac nc cc W);have I':=jD (fun (W:World) (B:Nat) (hW:KY w W) (hC:Cells W B 0 (aQ x (.slice A n c) (.slice Ac nc cc)))=>gl w W W.heap.size none (fun b h=>by cases h) d x _ _ B HX.out q'.out hW (Ld _) (kX W) hC);have Z':Hid (∀y v vc,(aQ y v vc).toArray=#[KW y.op,v,KW y.ty,KW y.vr,KW y.sc,KW y.sp,KW y.cond.op,vc,KW y.cond.vr,KW y.cond.fl,KW y.cond.kd,KW y.cond.val.kind,KW y.cond.val.num,.string y.cond.val.text]):=jD (fun _ _ _=>rfl);clear hn p' hT hN;unfold ptV at t' ⊢;refine (Ng (n:=5)).1 ?_;refine callsIn_of_wp_marks func123 rfl trivial ?_ rfl;simp only[ntmps123,MM,Lt,MG,Nat.reduceAdd,Nat.reduceSub,Nh,Ni,Nj,Nk,MJ,Mr];gi_wp2_with fail;refine⟨trivial,callsIn_wide.2 ?_⟩;refine aw fun W1 e1=>?_
 have r':W1.heap.size=w.heap.size+4:=by rw[e1];simp
 have x':KY w W1:=gb e1;have B':Bx3 W1 (w.heap.size+1) (0,0,true):=by rw[e1];exact Hn _ _
 clear e1;refine (t'.out _).mono ?_;rintro e W2 ⟨rfl,e2⟩;have L':Cells W2 W1.heap.size 0 (aQ x (.slice A n c) (.slice Ac nc cc)):=by rw[e2];exact gm
 have b2:Bx3 W2 (w.heap.size+1) (0,0,true):=by rw[e2];exact B'.alloc _
 have h':Hid (KY w W2):=jD (by rw[e2];exact aJ x' _);have E':Hid (W2.heap.size=w.heap.size+5):=jD (by rw[e2];simp[r']);clear e2 B' x' r';gi_wp2_with fail;refine iC fun a0 e0=>?_
 refine nO (n:=5) (gf:=255) (lb:=#[.pointer (some ⟨W1.heap.size,0,none⟩)]) (by rw[e0];rfl) (enters_of func255 kr rfl) (I'.out W2 W1.heap.size h'.out L')
  bW (kA h'.out.size (fun b h=>by cases h)) (La _ _) (fun x v=>py w _ x v) (fun x v W h=>mI h)
  (KH w (aO x)) (fun _ _ _=>False) (GO h'.out.size) (fun _ _ _ _ _ h _ _=>h) ⟨b2,h'.out⟩
  (AxP a0.tmps 12 8 w.heap.size) (fun x v a'=>pz _ _ _ _ _ x v a') ?assign ?body ?done ?stop
 case assign =>
  intro m l k y v W K hl hy hi i' hK;obtain⟨A',n',c',y',u',z',rfl⟩:=mw i';have F:w.heap.size<=W.heap.size:=hi.2.size;have HI:=jD hi;have O':=jD i';have HK:=jD hK;clear hi i' hK hy;rw[e0];unfold ptV;gi_wp2;refine vE fun W' e'=>?_
  have g':KY W W':=gb e';have hc:Cells W' W.heap.size 0 (aQ y (.slice A' n' c') (.slice y' u' z')):=ci (jG e') (jG e') (jG e') (jG e') (jG e') (jG e') (jG e') (jG e') (jG e') (jG e') (jG e') (jG e') (jG e') (jG e');clear e';have st:∀{b t v},Boxed W b t v->Boxed W' b t v:=fun h=>(g'.block _ h.lt).trans h
  exact HK.out _ _ (bH g') (gR g' F) ⟨⟨st HI.out.1.1,st HI.out.1.2.1,st HI.out.1.2.2⟩,HI.out.2.trans (g'.mono F)⟩ O'.out ⟨W.heap.size,_,_,F,rfl,by rw[e0];rfl,hc,⟨_,_,_,rfl⟩,⟨_,_,_,rfl⟩⟩
 case body =>
  rintro m l k y v a' W hl-hy hi i' ⟨B,u,uc,hB,rfl,rfl,hc,⟨A',n',c',rfl⟩,⟨y',u',z',rfl⟩⟩;have F:w.heap.size<=W.heap.size:=hi.2.size;have A0:w.heap.size+1+1+1<W.heap.size:=hi.1.2.2.lt;obtain⟨p0,p1,p2,p3,p4,p5,p6,p7,p8,p9,T',S',N',R'⟩:=dv hc;have O0:B<W.heap.size:=K8 W ⟨B,_,none⟩ p0;have l':=P'.out y (Li hy);obtain⟨j,lo,X0,hj,V',-,-,d'⟩:=I5 (HT.out W hi.2) l'.1 l'.2;have j':=IQ (aO x) k;have F':=J'.out;obtain⟨st,f'⟩:=jF (gT ((aO x).take k));have m':=Cv hy;rw[<-f']at j' m';have O:=jD m';have k':Rd w W2.heap.size (w.heap.size+1) W W st:=⟨KeepsFrom.refl _ _,gC _ _ _ _,by rw[f'];exact hi.1,hi.2⟩;have J:=jD k';have b':=k'.2.2.1;obtain⟨vv,Z,oo⟩:=st;obtain⟨tb,G⟩:∃b,bX y.op=b:=⟨_,rfl⟩;obtain⟨sb,I⟩:∃b,fz y.op=b:=⟨_,rfl⟩;obtain⟨cb,G'⟩:∃b,lP y.op=b:=⟨_,rfl⟩;obtain⟨pb,M'⟩:∃b,fB y.op=b:=⟨_,rfl⟩;rw[G,I,G',M']at d';have c0:=d' 0 _ rfl;have c1:=d' 1 _ rfl;have c2:=d' 2 _ rfl;have c3:=d' 3 _ rfl;have c4:=d' 4 _ rfl;have c5:=d' 5 _ rfl;rw[Mc]at c0;have S0:0<W.heap.size:=K8 W ⟨_,_,none⟩ c0;rw[hj]at p0;simp only at j';have w5:KX W (w.heap.size+1) 0 (KW vv):=b'.1.cell;have w6:KX W (w.heap.size+1+1) 0 (KW Z):=b'.2.1.cell;have w7:KX W (w.heap.size+1+1+1) 0 (.bool oo):=b'.2.2.cell;have x5:=b'.1.frozen;have x6:=b'.2.1.frozen;have x7:=b'.2.2.frozen;have Y0:w.heap.size+1<W.heap.size:=by omega
  have P0:w.heap.size+1+1<W.heap.size:=by omega
  have T0:w.heap.size+1≠W.heap.size:=by omega
  have Y':w.heap.size+1+1≠W.heap.size:=by omega
  have N0:w.heap.size+1+1+1≠W.heap.size:=by omega
  have U0:B≠W.heap.size:=by omega
  have R0:B≠w.heap.size+1:=fun e=>by rw[e]at p2;have h:=b'.1;simp[World.cell?,show W.heap[w.heap.size+1]?=_ from h]at p2
  have K0:B≠w.heap.size+1+1:=fun e=>by rw[e]at p2;have h:=b'.2.1;simp[World.cell?,show W.heap[w.heap.size+1+1]?=_ from h]at p2
  have V0:B≠w.heap.size+1+1+1:=fun e=>by rw[e]at p2;have h:=b'.2.2;simp[World.cell?,show W.heap[w.heap.size+1+1+1]?=_ from h]at p2
  have ng:0≠W.heap.size:=by omega
  have X':IntKind.i64.wrap (vv+1)=vv+1:=by simp[IntKind.wrap,IntKind.bits,IntKind.signed];omega
  have Q0:IntKind.i64.wrap (Z+1)=Z+1:=by simp[IntKind.wrap,IntKind.bits,IntKind.signed];omega
  have H0:(j:Int)<11:=by omega
  have z:w.heap.size+1+1+1<W2.heap.size:=by have:=E'.out;omega
  clear i' hc hy hi d' hj f' m' k' b' l' j' F' p1 p2 p5 p6 p7 p8 p9 T' S' N' R';rw[e0];unfold ptV;simp only[Lw,Lj,Lk]
  cases oo with
  | true =>
   cases tb with
   | false =>
    cases sb with
    | false =>
     gi_wp2_with fail;refine cz (J.out.al F _) ?_;rw[O.out];simp[bS,G,I]
    | true =>
     by_cases hs:y.sc=Z
     ·have bs:(y.sc==Z)=true:=jQ hs;gi_wp2_with fail;refine cz (((J.out.s2 om z true).s1 om om (Z+1)).al (by simpa only [Mm] using F) _) ?_;rw[O.out];simp[bS,G,I,hs]
     ·have bs:(y.sc==Z)=false:=jQ hs;gi_wp2_with fail;refine cz (((J.out.s2 om z false).s1 om om (Z+1)).al (by simpa only [Mm] using F) _) ?_;rw[O.out];simp[bS,G,I,hs]
   | true =>
    by_cases hv:y.vr=vv
    ·have bv:(y.vr==vv)=true:=jQ hv
     cases sb with
     | false =>
      gi_wp2_with fail;refine cz (((J.out.s2 om z true).s0 om om (vv+1)).al (by simpa only [Mm] using F) _) ?_;rw[O.out];simp[bS,G,I,hv]
     | true =>
      by_cases hs:y.sc=Z
      ·have bs:(y.sc==Z)=true:=jQ hs;gi_wp2_with fail;refine cz (((((J.out.s2 om z true).s0 om om (vv+1)).s2 om z true).s1 om om (Z+1)).al (by simpa only [Mm] using F) _) ?_;rw[O.out];simp[bS,G,I,hv,hs]
      ·have bs:(y.sc==Z)=false:=jQ hs;gi_wp2_with fail;refine cz (((((J.out.s2 om z true).s0 om om (vv+1)).s2 om z false).s1 om om (Z+1)).al (by simpa only [Mm] using F) _) ?_;rw[O.out];simp[bS,G,I,hv,hs]
    ·have bv:(y.vr==vv)=false:=jQ hv
     cases sb with
     | false =>
      gi_wp2_with fail;refine cz (((J.out.s2 om z false).s0 om om (vv+1)).al (by simpa only [Mm] using F) _) ?_;rw[O.out];simp[bS,G,I,hv]
     | true =>
      by_cases hs:y.sc=Z
      ·have bs:(y.sc==Z)=true:=jQ hs;gi_wp2_with fail;refine cz (((((J.out.s2 om z false).s0 om om (vv+1)).s2 om z false).s1 om om (Z+1)).al (by simpa only [Mm] using F) _) ?_;rw[O.out];simp[bS,G,I,hv,hs]
      ·have bs:(y.sc==Z)=false:=jQ hs;gi_wp2_with fail;refine cz (((((J.out.s2 om z false).s0 om om (vv+1)).s2 om z false).s1 om om (Z+1)).al (by simpa only [Mm] using F) _) ?_;rw[O.out];simp[bS,G,I,hv,hs]
  | false =>
   cases tb with
   | false =>
    cases sb with
    | false =>
     gi_wp2_with fail;refine cz (J.out.al F _) ?_;rw[O.out];simp[bS,G,I]
    | true =>
     by_cases hs:y.sc=Z
     ·have bs:(y.sc==Z)=true:=jQ hs;gi_wp2_with fail;refine cz (((J.out.s2 om z false).s1 om om (Z+1)).al (by simpa only [Mm] using F) _) ?_;rw[O.out];simp[bS,G,I,hs]
     ·have bs:(y.sc==Z)=false:=jQ hs;gi_wp2_with fail;refine cz (((J.out.s2 om z false).s1 om om (Z+1)).al (by simpa only [Mm] using F) _) ?_;rw[O.out];simp[bS,G,I,hs]
   | true =>
    by_cases hv:y.vr=vv
    ·have bv:(y.vr==vv)=true:=jQ hv
     cases sb with
     | false =>
      gi_wp2_with fail;refine cz (((J.out.s2 om z false).s0 om om (vv+1)).al (by simpa only [Mm] using F) _) ?_;rw[O.out];simp[bS,G,I,hv]
     | true =>
      by_cases hs:y.sc=Z
      ·have bs:(y.sc==Z)=true:=jQ hs;gi_wp2_with fail;refine cz (((((J.out.s2 om z false).s0 om om (vv+1)).s2 om z false).s1 om om (Z+1)).al (by simpa only [Mm] using F) _) ?_;rw[O.out];simp[bS,G,I,hv,hs]
      ·have bs:(y.sc==Z)=false:=jQ hs;gi_wp2_with fail;refine cz (((((J.out.s2 om z false).s0 om om (vv+1)).s2 om z false).s1 om om (Z+1)).al (by simpa only [Mm] using F) _) ?_;rw[O.out];simp[bS,G,I,hv,hs]
    ·have bv:(y.vr==vv)=false:=jQ hv
     cases sb with
     | false =>
      gi_wp2_with fail;refine cz (((J.out.s2 om z false).s0 om om (vv+1)).al (by simpa only [Mm] using F) _) ?_;rw[O.out];simp[bS,G,I,hv]
     | true =>
      by_cases hs:y.sc=Z
      ·have bs:(y.sc==Z)=true:=jQ hs;gi_wp2_with fail;refine cz (((((J.out.s2 om z false).s0 om om (vv+1)).s2 om z false).s1 om om (Z+1)).al (by simpa only [Mm] using F) _) ?_;rw[O.out];simp[bS,G,I,hv,hs]
      ·have bs:(y.sc==Z)=false:=jQ hs;gi_wp2_with fail;refine cz (((((J.out.s2 om z false).s0 om om (vv+1)).s2 om z false).s1 om om (Z+1)).al (by simpa only [Mm] using F) _) ?_;rw[O.out];simp[bS,G,I,hv,hs]
 case done =>
  rintro D W hD ⟨b',g'⟩ hK;rw[LX]at b';obtain⟨st,f'⟩:=jF (gT (aO x));rw[<-f']at b';have U':=jD f';have H':=jD g';have HK:=jD hK;obtain⟨vv,Z,oo⟩:=st;have w5:KX W (w.heap.size+1) 0 (KW vv):=b'.1.cell;have w6:KX W (w.heap.size+1+1) 0 (KW Z):=b'.2.1.cell;have w7:KX W (w.heap.size+1+1+1) 0 (.bool oo):=b'.2.2.cell;clear g' hK f';rw[e0];gi_wp2_with fail
  gi_big_region
  gi_wp2_with fail;have D':W.drew.heap[D]?=some (.deferred (some [])):=HK.out;refine⟨by simp,.inl ⟨_,_,rfl,run_takeDeferred D',?_⟩⟩;refine⟨.tuple #[KW vv,KW Z,.bool oo],?_,?_,H'.out.drew.trans (belowK_b (w:=w) (Ld _) _ D _ _ (by have:=h'.out.size;omega) D' rfl rfl)⟩
  ·simp[results,Tryz.f123,go_sem]
  ·rw[<-U'.out];rfl
 case stop=>rintro D c k W hD hk h;exact h.elim
end
end Go.Proofs.YtokconodddedhaaGreatDoor
