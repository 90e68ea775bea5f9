/- Part. -/
import Derived.Shelf.SlSortCmp.NoneTotal
import Derived.Lib.Bytealg
import Derived.Test.YtbjicljfjkdeeaaGreatDoorQ26
set_option maxRecDepth 100000
set_option maxHeartbeats 16000000
set_option linter.unusedVariables false
set_option linter.unusedSimpArgs false
namespace Go.Proofs
section
open Go.Shelf
def Tryz.sortMat_ren:Go.Shelf.Ren:=⟨fun|6=>24|15=>45|14=>44|28=>82|29=>83|20=>74|21=>75|22=>76|23=>77|24=>78|25=>79|26=>80|27=>81|46=>126|47=>127|48=>128|49=>129|50=>130|57=>197|n=>n,fun|22=>37|24=>49|25=>51|3=>3|39=>111|0=>0|53=>160|55=>162|4=>4|46=>153|45=>152|50=>157|5=>5|9=>9|66=>212|70=>216|76=>252|77=>239|n=>n,fun|n=>n⟩
theorem bears {P:Program} {f:FuncId} {B:Func} (z:(((P.funcs[f]?).map (·.name)).getD "" == "runtime.NumGoroutine")=false:=by kernel_rfl) (h:P.funcs[f]?=some {B with name:=((P.funcs[f]?).map (·.name)).getD ""}:=by kernel_rfl):Bears P f B:=⟨_,z,h⟩
theorem Tryz.sortMat:Go.Proofs.SlLaysF0.n6 Tryz.prog Tryz.sortMat_ren:=by
 constructor
 all_goals first|kernel_rfl|(intro _;kernel_rfl)|exact bears|(constructor<;>first|kernel_rfl|(intro _;kernel_rfl))
def Tryz.pdqSet_ren:Go.Shelf.Ren:=⟨fun|14=>287|20=>314|21=>315|22=>316|23=>317|24=>318|25=>319|26=>320|27=>321|46=>335|47=>127|48=>128|49=>336|50=>337|15=>45|57=>339|28=>82|29=>83|n=>n,fun|24=>124|22=>121|3=>3|25=>304|4=>4|0=>0|46=>153|45=>152|50=>157|66=>212|39=>111|55=>162|70=>216|76=>252|77=>239|53=>160|5=>5|9=>9|n=>n,fun|n=>n⟩
theorem Tryz.pdqSet:Go.Proofs.SlLaysF0.n14 Tryz.prog Tryz.pdqSet_ren:=by
 constructor
 all_goals first|kernel_rfl|(intro _;kernel_rfl)|exact bears|(constructor<;>first|kernel_rfl|(intro _;kernel_rfl))
def Tryz.sortVal_ren:Go.Shelf.Ren:=⟨fun|6=>72|15=>45|14=>122|28=>82|29=>83|20=>188|21=>189|22=>190|23=>191|24=>192|25=>193|26=>194|27=>195|46=>242|47=>127|48=>128|49=>243|50=>244|57=>265|n=>n,fun|22=>41|24=>27|25=>150|3=>3|39=>111|0=>0|53=>160|55=>162|4=>4|46=>153|45=>152|50=>157|5=>5|9=>9|66=>212|70=>216|76=>252|77=>239|n=>n,fun|n=>n⟩
theorem Tryz.sortVal:Go.Proofs.SlLaysF0.n6 Tryz.prog Tryz.sortVal_ren:=by
 constructor
 all_goals first|kernel_rfl|(intro _;kernel_rfl)|exact bears|(constructor<;>first|kernel_rfl|(intro _;kernel_rfl))
end
end Go.Proofs
namespace Go.Proofs.YtbjicljfjkdeeaaGreatDoor
open Go.Proofs.Tryz Go.RowKit
section
section
open Go.Sort (SWO PermIn SortedIn HoldsK grow)
theorem uK {α:Type} {c:α->α->Int} (h:PC c):SWO (ltOf c):=by
 refine⟨fun x=>?_,fun x y z O J=>?_,fun x y z O J=>?_⟩
 ·unfold ltOf;rw[h.refl];rfl
 ·unfold ltOf at *;simp only[MK]at *;exact h.lt x y z O J
 ·unfold ltOf at *;simp only[Na]at *;intro h3;have Z:c y x<=0:=by have:=h.anti x y;omega
  have a2:c z y<=0:=by have:=h.anti y z;omega
  have h4:c z x<=0:=by
   rcases Int.lt_or_eq_of_le a2 with I|I
   ·rcases Int.lt_or_eq_of_le Z with G|G
    ·exact Int.le_of_lt (h.lt z y x I G)
    ·have:=h.congr y x z G;omega
   ·have:=h.cong z y x I;omega
  have:=h.anti x z;omega
theorem uH {w w':World} (h:Gr w w'):∃q os,w'=grow (w.drewN q) os:=by
 refine⟨w'.drawn-w.drawn,w'.heap.extract w.heap.size w'.heap.size,?_⟩;have Z:=h.drawn;have I:w.heap++w'.heap.extract w.heap.size w'.heap.size=w'.heap:=by
  apply Array.ext_getElem?;intro i;rw[Array.getElem?_append]
  by_cases G:i<w.heap.size
  ·rw[Mp G,h.below.block i G]
  ·rw[Mo G,Array.getElem?_extract]
   by_cases z:i<w'.heap.size
   ·rw[Mp om];congr 1;omega
   ·rw[Mo om,Ot om]
 unfold grow World.drewN
 cases w'
 simp only[World.mk.injEq]at *;have J:=h.below.tape;have z:=h.below.os;have O:=h.below.output;simp only at J z O Z I;exact⟨I.symm,J,by omega,z,O⟩
theorem xi {α:Type} [Inhabited α] (enc:α->List Value) (k:Nat) (w:World) (g off m:Nat) (z:Array α) (os:Array Obj) {b:Nat} (G:b<w.heap.size) (h:b≠g):(sortWorldK enc k w g off m z os).heap[b]?=w.heap[b]?:=by
 unfold sortWorldK Go.Sort.putRowK Go.Sort.putRow Go.Sort.mapBlock grow Go.Sort.ahead;simp only[Array.getElem?_append,Array.size_modify,G,M5,O5];rw[Mo om]
theorem gW {α:Type} [Inhabited α] (enc:α->List Value) (k:Nat) (w:World) (g off m:Nat) (z:Array α) (os:Array Obj):w.grownBy (sortWorldK enc k w g off m z os) (some g) :=
 ⟨rfl,rfl,rfl,by unfold sortWorldK Go.Sort.putRowK Go.Sort.putRow Go.Sort.mapBlock grow Go.Sort.ahead;simp,fun i G h=>xi enc k w g off m z os G (fun e=>h (by rw[e]))⟩
end
section
structure MW (B:Nat) (wr:World) (av:Value) (ms:List (List Bnd × Value)):Prop where
 row:wr.ownsRow B 49 1 av ms.length (ms.map (·.2))
 bnds:∀e∈ms,bD wr e.2 e.1/\∀g,e.2.ownBlock=some g->B<=g/\g<wr.heap.size/\some g≠av.ownBlock
theorem MW.nil (B:Nat) (w:World):MW B w (.slice none 0 0) []:=⟨⟨by simp,.inl ⟨rfl,rfl⟩⟩,by simp⟩
theorem MW.grow {B:Nat} {wr G:World} {I:Value} {ms:List (List Bnd × Value)} (h:MW B wr I ms) (z:Mm wr G):MW B G I ms :=
 ⟨ao h.row z,fun e he=>⟨(h.bnds e he).1.stays bL z,fun g J=>by have:=(h.bnds e he).2 g J;exact⟨this.1,ME this.2.1 z.size,this.2.2⟩⟩⟩
theorem MW.app {B:Nat} {z Z:World} {J v7 u:Value} {ms:List (List Bnd × Value)} {bs:List Bnd} {o:Obj} (h:MW B z J ms) (hu:bD z u bs) (c':∀g,u.ownBlock=some g->B<=g/\g<z.heap.size/\some g≠J.ownBlock)
  (O:Z.ownsRow B 49 1 v7 (ms.length+1) (ms.map (·.2)++[u])) (hg:(z.alloc o).grownBy Z J.ownBlock) (a':v7.ownBlock=J.ownBlock\/v7.ownBlock=some (z.alloc o).heap.size) :
  MW B Z v7 (ms++[(bs,u)]):=by
 have I:∀g,g<z.heap.size->some g≠J.ownBlock->Z.heap[g]?=z.heap[g]?:=fun g h1 h2=>(hg.block g (by simp;omega) h2).trans (Nz z o g h1)
 have d':z.heap.size<Z.heap.size:=ME jS hg.size;refine⟨jQ O,?_⟩;intro e he;have h0:bD z e.2 e.1/\∀g,e.2.ownBlock=some g->B<=g/\g<z.heap.size/\some g≠J.ownBlock:=by
  rcases List.mem_append.1 he with he|he
  ·exact h.bnds e he
  ·simp at he;subst he;exact⟨hu,c'⟩
 refine⟨oY h0.1 fun g G=>I g (h0.2 g G).2.1 (h0.2 g G).2.2,fun g G=>?_⟩;have h1:=h0.2 g G;refine⟨h1.1,by omega,?_⟩;rcases a' with hl|hl
 ·rw[hl];exact h1.2.2
 ·rw[hl];simp;omega
end
section
open Go.RowKit Go.Shelf
end
section
open Go.RowKit Go.Shelf
open Go.Sort (SWO PermIn SortedIn HoldsK grow)
abbrev SM (w:World) (g:Nat):Type:={ e:MV // MOk w g e }
instance smInh (w:World) (g:Nat):Inhabited (SM w g):=⟨⟨([],.slice none 0 0),⟨none,0,rfl,Nat.le_refl _,Nat.zero_le _,by simp⟩,by simp[Value.ownBlock]⟩⟩
def jm {w:World} {g:Nat} (x:SM w g):List Value:=[x.1.2]
def smC {w:World} {g:Nat} (x y:SM w g):Int:=bsC x.1.1 y.1.1
theorem K9 {w:World} {g:Nat}:PC (@smC w g):=gF.of fun x:SM w g=>x.1.1
theorem Ct {w:World} {g:Nat}:∀es:List MV,(∀e∈es,MOk w g e)->∃dl:List (SM w g),dl.map (fun x=>x.1)=es
 | [],_=>⟨[],rfl⟩
 | e::es,h=>by
  obtain⟨dl,z⟩:=Ct es fun x G=>h x (MD _ G)
  exact⟨⟨e,h e (Mz ..)⟩::dl,by rw[MF,z]⟩
theorem AG (args:Array Value) (W:World):(callFunc 25 args).run prog W=.ok (.enter 25 args) W:=enters_of func25 kr rfl args W
theorem Bb {α:Type} [Inhabited α] (enc:α->List Value) (k:Nat) (w:World) (g off m:Nat) (O:Array α) (os:Array Obj) {cur:Array Value} {t:TypeId} {I:Nat × Nat} (G:w.heap[g]?=some (.cells cur t I)) :
  ∃h:Array Value,(sortWorldK enc k w g off m O os).heap[g]?=some (.cells h t I)/\h.size=cur.size:=by
 have J:g<w.heap.size:=by
  rcases Ny g w.heap.size with z|z
  ·exact z
  ·rw[Ot z]at G;cases G
 unfold sortWorldK Go.Sort.putRowK Go.Sort.putRow Go.Sort.mapBlock grow Go.Sort.ahead;simp only[Array.getElem?_append,Array.size_modify,J,M5,O5,G,NR,Go.Sort.onCells];exact⟨_,rfl,by simp[Go.Sort.putCells]⟩
theorem mF (es:List MV) (g cap:Nat) (spare:List Value) (w:World) (hg:w.heap[g]?=some (.cells (es.map (·.2)++spare).toArray 49 (0,0))) (p':es.length<=1048576) (he:∀e∈es,MOk w g e) :
  Calls prog 24 #[.slice (some ⟨g,0,none⟩) es.length cap,.func (.func 25) #[] #[]] w fun e W=>e=.returned (.tuple #[])/\∃(es':List MV) (I:List Value),es'.Perm es/\(es'.map (·.1)).Pairwise (fun a b=>¬bsC b a<0)/\W.heap[g]?=some (.cells (es'.map (·.2)++I).toArray 49 (0,0))/\(es'.map (·.2)++I).length=(es.map (·.2)++spare).length/\w.grownBy W (some g):=by
 obtain⟨dl,a'⟩:=Ct es he;have k':dl.length=es.length:=by rw[<-a',MB]
 have h':∀j,j<dl.length->∃x:SM w g,dl.toArray[j]! = x/\es[j]?=some x.1:=fun j hj=>by
  refine⟨dl[j],by simp[hj],?_⟩;rw[<-a',MA,Mq hj];rfl
 have hH:HoldsK jm 1 w g 0 dl.toArray:=by
  intro t ht;rw[Go.Sort.size_flatK]at ht;rw[Go.Sort.get_flatK _ _ _ _ ht];simp only[N5]at ht;obtain⟨x,hx,hex⟩:=h' (t / 1) om;rw[hx,MC];have c0:=CF hex spare;refine⟨?_,aw hg t⟩;rw[ae hg];rw[Nat.div_one]at c0;rw[Nat.mod_one];exact c0
 have g':CmpLays prog 25 #[] jm 1 (@smC w g) g 0 dl.toArray.size w:=by
  intro m os dk _ x y;have hW:=gW jm 1 w g 0 m dk os;have c':∀z:SM w g,bD (sortWorldK jm 1 w g 0 m dk os) z.1.2 z.1.1:=fun z=>ro z.2.1 fun b hb hv=>hW.block b hb (fun e=>z.2.2 (by rw[hv,e]))
  refine (uz x.1.1 y.1.1 x.1.2 y.1.2 _ (c' x) (c' y)).mono ?_;rintro e w' ⟨rfl,h2⟩;exact⟨rfl,uH h2⟩
 have hlen:dl.toArray.size=es.length:=jQ k';have h:=AnyQ.slices_SortFunc Tryz.sortMat 1 Tryz.isAgg49 Tryz.sizeOf49 jm (fun _=>rfl) (fun x v hv=>by
   simp only[jm,MN,Nh,Ni]at hv;subst hv;exact fD x.2.1) (@smC w g) (uK K9) 25 #[] g 0 cap dl.toArray w AG g' hH (bC hg) (by rw[hlen];omega)
 change Calls prog 24 _ _ _ at h
 rw[hlen]at h;refine h.mono ?_;rintro e W ⟨rfl,G,n,os,⟨hs,_,hp⟩,n',rfl⟩;rw[hlen]at hs;have hex:∀d:Array (SM w g),d.size=es.length->(d.extract 0 es.length).toList=d.toList:=fun d hd=>by rw[<-hd];simp
 rw[hex G hs,hex dl.toArray hlen]at hp;have l':HoldsK jm 1 (sortWorldK jm 1 w g 0 n G os) g 0 G:=holdsK_sortWorldK_c jm 1 w g 0 dl.toArray G n os hH (bC hg) (by rw[hs,hlen]);have hW:=gW jm 1 w g 0 n G os;obtain⟨cur,J,j'⟩:=Bb jm 1 w g 0 n G os hg;have f':G.toList.length=es.length:=by rw[Oh,hs]
 have m':cur.toList.length=es.length+spare.length:=by rw[Oh,j'];simp
 have Z:cur.toList.take es.length=G.toList.map (fun x=>x.1.2):=by
  refine OZ fun k=>?_
  by_cases hk:k<es.length
  ·have O:k<G.size:=by omega
   have q0:=(l'.cell (c:=0) O dc).1;rw[List.getElem?_take_of_lt hk,MA];have hz:G[k]! = G[k]:=getElem!_pos G k O;rw[hz]at q0;simp only[MC,NF,Nc,World.cell?,J]at q0;have e2:G.toList[k]?=some G[k]:=by rw[N6];exact MJ O
   rw[e2,N6]
   simpa [jm] using q0
  ·rw[NZ (by rw[Nx];omega),NZ (by rw[MB];omega)]
 refine⟨rfl,G.toList.map (fun x=>x.1),cur.toList.drop es.length,?_,?_,?_,?_,hW⟩
 ·have h1:=hp.map (fun x:SM w g=>x.1);have h2:dl.toArray.toList.map (fun x:SM w g=>x.1)=es:=by rw[<-a']
  rwa [h2]at h1
 ·rw[Oa,List.pairwise_map,PQ];intro i j hi hj i';have:=n' i j (Mu _) i' (by rw[<-hs];simpa using hj);simp only[Oh]at hi hj;rw[getElem!_pos G i hi,getElem!_pos G j hj]at this;unfold ltOf smC at this;simp only[PL,Function.comp]
  simpa only [Na] using this
 ·rw[Oa];have e1:cur.toList=G.toList.map ((fun x:MV=>x.2) ∘ fun x=>x.1)++cur.toList.drop es.length:=by
   show cur.toList=G.toList.map (fun x=>x.1.2)++_;rw[<-Z,OB]
  rw[<-e1];exact J
 ·rw[Mw,Mw,MB,MB,MB,O0,m',f'];omega
theorem mt (w:World):Mn 24 #[.slice none 0 0,.func (.func 25) #[] #[]] w (.tuple #[]):=by
 have h:=AnyF.slices_SortFunc_none Tryz.sortMat none 0 (.func (.func 25) #[] #[]) w
 change Calls prog 24 _ _ _ at h
 refine h.mono ?_;rintro e W ⟨rfl,rfl⟩;exact⟨rfl,Mr _ _⟩
end
section
def neg (l:List Ety):List Ety:=l.map fun x=>⟨x.q,x.bs,-x.n⟩
end
section
end
section
end
section
open Go.RowKit Go.Shelf
end
end
section
theorem Iu:PC cM:=⟨tz,Bq,fun a b d h=>by rw[oS.1 h]⟩
theorem lw:PC vlC:=((kP.of Vl.kind).or (kP.of Vl.num)).or (Iu.of fun (v:Vl)=>v.text.toList)
theorem KT {a b:Vl} (I:a.kind=b.kind) (G:a.num=b.num) (h:a.text.toList=b.text.toList):a=b:=by
 obtain⟨k,n,s⟩:=a;obtain⟨Z,J,z⟩:=b;simp only at I G h;subst I G;rw[O8,O8]at h;have:s=z:=by
  obtain⟨d⟩:=s;obtain⟨O⟩:=z;simp only at h;rw[Array.toList_inj.1 h]
 rw[this]
theorem mJ {a b:Vl}:vlC a b=0↔a=b:=by
 rw[Hn];exact⟨fun h=>KT h.1 h.2.1 h.2.2,fun h=>by subst h;exact⟨rfl,rfl,rfl⟩⟩
theorem dY {a b:Vl}:bY a b=true↔a=b:=by rw[LS,MK,mJ]
section
variable {α : Type} {c : α -> α -> Int}
theorem Hi (h:PC c):∀{S T:List α},S.Pairwise (fun a b=>c a b<0)->T.Pairwise (fun a b=>c a b<0)->(∀k,k∈S↔k∈T)->S=T
 | [],[],_,_,_=>rfl
 | [],b::T,_,_,hm=>absurd ((hm b).2 (Mz ..)) jS
 | a::S,[],_,_,hm=>absurd ((hm a).1 (Mz ..)) jS
 | a::S,b::T,hs,ht,hm=>by
  rw[OJ]at hs ht;have z:a=b:=by
   rcases List.mem_cons.1 ((hm a).1 (Mz ..)) with e|h1
   ·exact e
   ·rcases List.mem_cons.1 ((hm b).2 (Mz ..)) with e|h2
    ·exact e.symm
    ·have O:=ht.1 a h1;have J:=hs.1 b h2;have:=h.anti a b;omega
  subst z;have G:∀k∈S,k≠a:=fun k hk e=>by subst e;have:=hs.1 k hk;have:=h.refl k;omega
  have I:∀k∈T,k≠a:=fun k hk e=>by subst e;have:=ht.1 k hk;have:=h.refl k;omega
  rw[Hi h hs.2 ht.2 fun k=>⟨fun hk=>(List.mem_cons.1 ((hm k).1 (MD _ hk))).resolve_left (G k hk),fun hk=>(List.mem_cons.1 ((hm k).2 (MD _ hk))).resolve_left (I k hk)⟩]
end
theorem rt (v:Vl):∀(l:List Vl) (k:Vl),k∈dD l v↔k=v\/k∈l
 | [],k=>by simp[dD]
 | x::r,k=>by
  have z:=rt v r k;rw[dD]
  split
  ·rw[MN,z,MN];constructor
   ·rintro (h|h|h)
    ·exact .inr (.inl h)
    ·exact .inl h
    ·exact .inr (.inr h)
   ·rintro (h|h|h)
    ·exact .inr (.inl h)
    ·exact .inl h
    ·exact .inr (.inr h)
  ·split
   ·next h =>
    have:=dY.1 h;subst this;simp
   ·simp
theorem xD {v:Vl}:∀{l:List Vl},l.Pairwise (fun a b=>vlC a b<0)->(dD l v).Pairwise fun a b=>vlC a b<0
 | [],_=>by simp[dD]
 | x::r,h=>by
  have h0:=List.pairwise_cons.1 h;rw[dD]
  split
  ·next I =>
   refine List.pairwise_cons.2 ⟨fun k hk=>?_,xD h0.2⟩;rcases (rt v r k).1 hk with rfl|hk
   ·exact I
   ·exact h0.1 k hk
  ·split
   ·exact h
   ·next I z =>
    have J:vlC x v≠0:=fun e=>z (dY.2 (mJ.1 e))
    have G:vlC v x<0:=by have:=lw.anti x v;omega
    refine List.pairwise_cons.2 ⟨fun k hk=>?_,h⟩;rcases List.mem_cons.1 hk with rfl|hk
    ·exact G
    ·exact lw.lt v x k G (h0.1 k hk)
theorem vR (key:List Int):∀(l:List Evt) (S:List Vl),S.Pairwise (fun a b=>vlC a b<0) ->
  (l.foldl (fun S e=>if (cz key e).2.1 then dD S (cz key e).1 else S) S).Pairwise (fun a b=>vlC a b<0) /\
  ∀k,k∈l.foldl (fun S e=>if (cz key e).2.1 then dD S (cz key e).1 else S) S↔k∈S\/∃e,e∈l/\(cz key e).2.1=true/\(cz key e).1=k
 | [],S,h=>⟨h,fun k=>by simp⟩
 | e::l,S,h=>by
  rw[N4]
  by_cases hk:(cz key e).2.1=true
  ·rw[Mp hk];obtain⟨J,i2⟩:=vR key l _ (xD (v:=(cz key e).1) h);refine⟨J,fun k=>?_⟩;rw[i2,rt];constructor
   ·rintro ((h|h)|⟨x,z,I,G⟩)
    ·exact .inr ⟨e,Mz ..,hk,h.symm⟩
    ·exact .inl h
    ·exact .inr ⟨x,MD _ z,I,G⟩
   ·rintro (h|⟨x,z,I,G⟩)
    ·exact .inl (.inr h)
    ·rcases List.mem_cons.1 z with rfl|z
     ·exact .inl (.inl G.symm)
     ·exact .inr ⟨x,z,I,G⟩
  ·rw[Mo hk];obtain⟨J,i2⟩:=vR key l S h;refine⟨J,fun k=>?_⟩;rw[i2];constructor
   ·rintro (h|⟨x,z,I,G⟩)
    ·exact .inl h
    ·exact .inr ⟨x,MD _ z,I,G⟩
   ·rintro (h|⟨x,z,I,G⟩)
    ·exact .inl h
    ·rcases List.mem_cons.1 z with rfl|z
     ·exact absurd I hk
     ·exact .inr ⟨x,z,I,G⟩
theorem iV (key:List Int) (l:List Evt):(cA key l).Pairwise (fun a b=>vlC a b<0)/\∀k,k∈cA key l↔∃e,e∈l/\(cz key e).2.1=true/\(cz key e).1=k:=by
 obtain⟨z,h⟩:=vR key l [] List.Pairwise.nil;exact⟨z,fun k=>by rw[show cA key l=l.foldl (fun S e=>if (cz key e).2.1 then dD S (cz key e).1 else S) [] from rfl,h];simp⟩
theorem Jd {key:List Int} {l:List Evt} {S:List Vl} (z:S.Pairwise (fun a b=>vlC a b<0)) (h:∀k,k∈S↔∃e,e∈l/\(cz key e).2.1=true/\(cz key e).1=k):S=cA key l :=
 Hi lw z (iV key l).1 fun k=>by rw[h,(iV key l).2]
theorem B9 {key:List Int} {l:List Evt}:∀s∈bV key l,s≠[]:=by
 intro s hs e;obtain⟨v,h,rfl⟩:=List.mem_map.1 hs;obtain⟨x,I,G,z⟩:=((iV key l).2 v).1 h;have:x∈l.filter (dO key v):=List.mem_filter.2 ⟨I,by unfold dO;rw[G,z,dY.2 rfl];rfl⟩;rw[e]at this;simp at this
theorem qM {key:List Int} {l:List Evt} (h:Ag l):(bV key l).Pairwise ze:=by
 unfold bV;rw[List.pairwise_map];refine (iV key l).1.imp fun {a b} hab=>uL h fun e G z=>?_
 unfold dO at G z;rw[My]at G z;have I:=dY.1 G.2;have J:=dY.1 z.2;have:a=b:=I.symm.trans J;subst this;have:=lw.refl a;omega
end
theorem wg:∀a b:List UInt8,Lib.compareBytes a b=cM a b
 | [],[]=>rfl
 | [],_::_=>rfl
 | _::_,[]=>rfl
 | a::x,b::y=>by rw[Lib.compareBytes,cM,wg x y]
theorem qi:∀a b:List UInt8,cM a b=-1\/cM a b=0\/cM a b=1
 | [],[]=>by simp[cM]
 | [],_::_=>by simp[cM]
 | _::_,[]=>by simp[cM]
 | a::x,b::y=>by
  rw[cM]
  split
  ·simp
  ·split
   ·simp
   ·exact qi x y
theorem ubX {p:Prop} (h:p:=by
  subst hr;go_enter func216,ntmps216;go_wp2;go_ret;exact⟨rfl,Mr _ _⟩):p:=h
theorem xw (a b:Int) (w:World):Mn 216 #[Mk a,Mk b] w (Mk (bx a b)):=by
 obtain⟨r,hr⟩:=jE (bx a b);rw[hr];unfold bx at hr
 by_cases z:a<b
 ·rw[Mp z]at hr;exact ubX
 ·rw[Mo z]at hr
  by_cases h:b<a
  ·rw[Mp h]at hr;exact ubX
  ·rw[Mo h]at hr;exact ubX
theorem ubY {p:Prop} (h:p:=by
  clear z h G;go_enter func143,ntmps143;go_wp2;go_ret;exact⟨rfl,jB⟩):p:=h
theorem DA (a b:Vl) (w:World):Mn 143 #[vlV a,vlV b] w (Mk (vlC a b)):=by
 have H1:=jD (fun W=>xw a.kind b.kind W);have H2:=jD (fun W=>xw a.num b.num W);obtain⟨r1,O⟩:∃r,bx a.kind b.kind=r:=⟨_,rfl⟩;obtain⟨r2,J⟩:∃r,bx a.num b.num=r:=⟨_,rfl⟩;obtain⟨R,hR⟩:=jF (vlC a b);have HR:Hid (R=if r1≠0 then r1 else if r2≠0 then r2 else cM a.text.toList b.text.toList):=jD (by rw[hR,<-O,<-J];unfold vlC orI;by_cases e1:bx a.kind b.kind=0<;>by_cases e2:bx a.num b.num=0<;>simp[e1,e2]);have K1:Hid (a.kind=b.kind↔r1=0):=jD (by rw[<-O,gU]);have K2:Hid (a.num=b.num↔r2=0):=jD (by rw[<-J,gU]);rw[O]at H1;rw[J]at H2;rw[<-hR];clear hR O J;obtain⟨ak,an,I⟩:=a;obtain⟨bk,bn,ty⟩:=b;unfold vlV at *;simp only at *
 by_cases h1:ak=bk
 ·subst h1;have e1:r1=0:=K1.out.1 rfl;subst e1
  by_cases h2:an=bn
  ·subst h2;have e2:r2=0:=K2.out.1 rfl;subst e2;have z:=tM I.toList ty.toList;have h:(I.toList==ty.toList)=decide (cM I.toList ty.toList=0):=by rw[Nt,MK,oS,MO]
   obtain⟨q,hq⟩:=jE (cM I.toList ty.toList);have HQ:q=-1\/q=0\/q=1:=by rw[<-hq];exact qi _ _
   have G:Hid (R=q):=jD (by rw[HR.out,<-hq];simp);rw[hq]at z h;clear HR H1 H2 K1 K2 hq;rcases HQ with rfl|rfl|rfl
   ·obtain rfl:R=-1:=G.out;have a':Op.bytesLess I.toList ty.toList=true:=by rw[z];rfl
    have Z:(I.toList==ty.toList)=false:=by rw[h];rfl
    exact ubY
   ·obtain rfl:R=0:=G.out;have a':Op.bytesLess I.toList ty.toList=false:=by rw[z];rfl
    have Z:(I.toList==ty.toList)=true:=by rw[h];rfl
    exact ubY
   ·obtain rfl:R=1:=G.out;have a':Op.bytesLess I.toList ty.toList=false:=by rw[z];rfl
    have Z:(I.toList==ty.toList)=false:=by rw[h];rfl
    exact ubY
  ·have b2:(an==bn)=false:=jQ h2;have e2:r2≠0:=fun e=>h2 (K2.out.2 e)
   obtain rfl:R=r2:=by rw[HR.out];simp[e2]
   clear HR K1 K2 e2;go_enter func143,ntmps143;go_wp2_with fail;refine (H2.out _).mono ?_;rintro e w1 ⟨rfl,c'⟩;go_wp2;go_ret;exact⟨rfl,jB⟩
 ·have b1:(ak==bk)=false:=jQ h1;have e1:r1≠0:=fun e=>h1 (K1.out.2 e)
  obtain rfl:R=r1:=by rw[HR.out];simp[e1]
  clear HR K1 K2 e1;go_enter func143,ntmps143;go_wp2_with fail;refine (H1.out _).mono ?_;rintro e w1 ⟨rfl,c'⟩;go_wp2;go_ret;exact⟨rfl,jB⟩
theorem yX (a b:ByteArray) (w:World):Calls prog 196 #[.string a,.string b] w fun e w'=>e=.returned (Mk (cM a.toList b.toList))/\Gr w w':=by
 obtain⟨r,hr⟩:=jE (cM a.toList b.toList);rw[hr];have h:Lib.compareBytes a.data.toList b.data.toList=r:=by rw[wg,<-hr,O8,O8]
 clear hr;go_enter func196,ntmps196;go_wp2;rw[run_callFunc_extern func245 kr kr kr (e:=Extern.BytealgCompare.compare) kr,Lib.run_compareString];simp only[Result.andThen];rw[Oper.upon_value,h];go_wp2;go_ret;exact⟨rfl,Gr.refl _⟩
theorem De (a b:ByteArray) (w:World):Calls prog 125 #[.string a,.string b] w fun e w'=>e=.returned (Mk (cM a.toList b.toList))/\Gr w w':=by
 have h:=jD (fun W=>yX a b W);obtain⟨r,hr⟩:=jE (cM a.toList b.toList);rw[hr]at h ⊢;clear hr;go_enter func125,ntmps125;go_wp2_with fail;refine (h.out _).mono ?_;rintro e G ⟨rfl,z⟩;exact fi z
theorem ub1 {p:Prop} (h:p:=by
  go_wp2_with fail;refine (h.out _).mono ?_;rintro e I ⟨rfl,rfl⟩;go_wp2;go_ret;exact⟨rfl,jC⟩):p:=h
theorem Fa (a b:Vl) (w:World):Calls prog 123 #[vlV a,vlV b] w fun e w'=>e=.returned (Mk (bx a.kind b.kind))/\Gr w w':=by
 have h:=jD (fun W=>fL a.kind b.kind W);obtain⟨r,hr⟩:=jE (bx a.kind b.kind);rw[hr]at h ⊢;clear hr;obtain⟨z,G,J⟩:=a;obtain⟨Z,O,ty⟩:=b;unfold vlV;simp only at h ⊢;go_enter func123,ntmps123;exact ub1
theorem GS (a b:Vl) (w:World):Calls prog 124 #[vlV a,vlV b] w fun e w'=>e=.returned (Mk (bx a.num b.num))/\Gr w w':=by
 have h:=jD (fun W=>fL a.num b.num W);obtain⟨r,hr⟩:=jE (bx a.num b.num);rw[hr]at h ⊢;clear hr;obtain⟨z,G,J⟩:=a;obtain⟨Z,O,ty⟩:=b;unfold vlV;simp only at h ⊢;go_enter func124,ntmps124;exact ub1
theorem JK (a b:Vl) (w:World):Calls prog 73 #[vlV a,vlV b] w fun e w'=>e=.returned (Mk (vlC a b))/\Gr w w':=by
 have H1:=jD (fun W=>Fa a b W);have H2:=jD (fun W=>GS a b W);have H3:=jD (fun W=>De a.text b.text W);obtain⟨r1,c'⟩:∃r,bx a.kind b.kind=r:=⟨_,rfl⟩;obtain⟨r2,Z⟩:∃r,bx a.num b.num=r:=⟨_,rfl⟩;obtain⟨r3,d'⟩:∃r,cM a.text.toList b.text.toList=r:=⟨_,rfl⟩;obtain⟨R,hR⟩:=jF (vlC a b);have HR:Hid (R=if r1≠0 then r1 else if r2≠0 then r2 else r3):=jD (by rw[hR,<-c',<-Z,<-d'];unfold vlC orI;by_cases G:bx a.kind b.kind=0<;>by_cases e2:bx a.num b.num=0<;>simp[G,e2]);rw[c']at H1;rw[Z]at H2;rw[d']at H3;rw[<-hR];clear hR c' Z d';obtain⟨ak,an,tx⟩:=a;obtain⟨bk,bn,ty⟩:=b;unfold vlV at *;simp only at *;go_enter func73,ntmps73;go_wp2;refine bg fun I G=>?_
 have y0:Ml I w.heap.size 0 (Mk ak):=jG G;have y1:Ml I w.heap.size 1 (Mk an):=jG G;have y2:Ml I w.heap.size 2 (.string tx):=jG G;have z0:Ml I (w.heap.size+1) 0 (Mk bk):=jG G;have z1:Ml I (w.heap.size+1) 1 (Mk bn):=jG G;have z2:Ml I (w.heap.size+1) 2 (.string ty):=jG G;have t0:Ml I (w.heap.size+2) 0 (.func (.func 123) #[] #[]):=jG G;have t1:Ml I (w.heap.size+2) 1 (.func (.func 124) #[] #[]):=jG G;have a':Hid (Gr w I):=jD (by rw[G];exact jC);clear G
 go_loopw [10] (fun i wr=>∃k:Nat,k<=2/\i=Mk k/\Hid ((1<=k->r1=0)/\(2<=k->r2=0)/\Gr I wr)) (fun i _=>2-(intOf i).toNat)
 case atStart=>exact⟨0,by omega,rfl,jD ⟨by omega,by omega,Gr.refl _⟩⟩
 case round =>
  obtain⟨k,hk,rfl,O⟩:=hrel;have J:=O.out.2.2.below;replace y0:=aa J y0;replace y1:=aa J y1;replace y2:=aa J y2;replace z0:=aa J z0;replace z1:=aa J z1;replace z2:=aa J z2;replace t0:=aa J t0;replace t1:=aa J t1;clear J
  match k,hk with
  | 0,_ =>
   go_wp2_with fail;refine (H1.out _).mono ?_;rintro e w2 ⟨rfl,z⟩
   by_cases h0:r1=0
   ·subst h0;go_wp2_with fail
    go_roundw
    case rel=>exact⟨1,by omega,rfl,jD ⟨by simp,by omega,O.out.2.2.trans z⟩⟩
    case measure=>simp[intOf]
   ·have b0:(r1==0)=false:=jQ h0;obtain rfl:R=r1:=by rw[HR.out,Mp h0]
    clear HR;go_wp2;go_ret;exact⟨rfl,a'.out.trans (O.out.2.2.trans z)⟩
  | 1,_ =>
   obtain rfl:=O.out.1 om;go_wp2_with fail;refine (H2.out _).mono ?_;rintro e w2 ⟨rfl,z⟩
   by_cases h0:r2=0
   ·subst h0;go_wp2_with fail
    go_roundw
    case rel=>exact⟨2,by omega,rfl,jD ⟨by simp,by simp,O.out.2.2.trans z⟩⟩
    case measure=>simp[intOf]
   ·have b0:(r2==0)=false:=jQ h0;obtain rfl:R=r2:=by rw[HR.out,Mo jS,Mp h0]
    clear HR;go_wp2;go_ret;exact⟨rfl,a'.out.trans (O.out.2.2.trans z)⟩
  | 2,_ =>
   obtain rfl:=O.out.1 om;obtain rfl:=O.out.2.1 om;obtain rfl:R=r3:=by rw[HR.out];simp
   clear HR;go_wp2_with fail;refine (H3.out _).mono ?_;rintro e w2 ⟨rfl,z⟩;go_wp2;go_ret;exact⟨rfl,a'.out.trans (O.out.2.2.trans z)⟩
  | k+3,h=>exact absurd h om
section
section
open Go.RowKit Go.Shelf
open Go.Sort (SWO PermIn SortedIn HoldsK grow)
instance vlInh:Inhabited Vl:=⟨ah⟩
theorem zG (args:Array Value) (W:World):(callFunc 73 args).run prog W=.ok (.enter 73 args) W:=enters_of func73 kr rfl args W
theorem C0 (x:Vl) {w:World} {g p:Nat} (h:me w g p x) {r:Nat} (hr:r<3):w.cell? ⟨g,p+r,none⟩=(bR x)[r]?:=by
 obtain⟨h0,G,z⟩:=h
 match r,hr with
 | 0,_=>exact h0
 | 1,_=>exact G
 | 2,_=>exact z
theorem uU (es:List Vl) (g cap:Nat) (cur:List Value) (w:World) (hg:w.heap[g]?=some (.cells cur.toArray 27 (0,0))) (hc:∀(k:Nat) (x:Vl),es[k]?=some x->me w g (0+k*3) x) (g':es.length<=1048576) :
  Calls prog 72 #[.slice (some ⟨g,0,none⟩) es.length cap,.func (.func 73) #[] #[]] w fun e W=>e=.returned (.tuple #[])/\∃es':List Vl,es'.Perm es/\es'.Pairwise (fun a b=>¬vlC b a<0)/\(∀(k:Nat) (x:Vl),es'[k]?=some x->me W g (0+k*3) x)/\w.grownBy W (some g):=by
 have hH:HoldsK bR 3 w g 0 es.toArray:=by
  intro t ht;rw[Go.Sort.size_flatK]at ht;rw[Go.Sort.get_flatK _ _ _ _ ht];simp only[N5]at ht;have hq:t / 3<es.length:=by omega
  have J:es.toArray[t / 3]! = es[t / 3]:=by simp[hq]
  rw[J];refine⟨?_,aw hg _⟩;have h1:=C0 es[t / 3] (hc (t / 3) es[t / 3] (Mq hq)) (r:=t%3) om;have Z:0+t / 3*3+t%3=0+t:=by omega
  rw[Z]at h1;rw[h1];have h3:t%3<(bR es[t / 3]).length:=by simp[bR];omega
  rw[Mq h3,getElem!_pos (bR es[t / 3]) (t%3) h3];rfl
 have O:CmpLays prog 73 #[] bR 3 vlC g 0 es.toArray.size w:=by
  intro m os dk _ x y;refine (JK x y _).mono ?_;rintro e w' ⟨rfl,Z⟩;exact⟨rfl,uH Z⟩
 have hlen:es.toArray.size=es.length:=by simp
 have h:=AnyQ.slices_SortFunc Tryz.sortVal 3 Tryz.isAgg27 Tryz.sizeOf27 bR (fun _=>rfl) (fun x v hv=>by
   simp only[bR,MN,Nh,Ni]at hv;rcases hv with rfl|rfl|rfl<;>rfl) vlC (uK lw) 73 #[] g 0 cap es.toArray w zG O hH (bC hg) (by rw[hlen];omega)
 change Calls prog 72 _ _ _ at h
 rw[hlen]at h;refine h.mono ?_;rintro e W ⟨rfl,z,n,os,⟨hs,_,hp⟩,f',rfl⟩;rw[hlen]at hs;have hex:∀d:Array Vl,d.size=es.length->(d.extract 0 es.length).toList=d.toList:=fun d hd=>by rw[<-hd];simp
 rw[hex z hs,hex es.toArray hlen]at hp;have I:HoldsK bR 3 (sortWorldK bR 3 w g 0 n z os) g 0 z:=holdsK_sortWorldK_c bR 3 w g 0 es.toArray z n os hH (bC hg) (by rw[hs,hlen]);have hW:=gW bR 3 w g 0 n z os;refine⟨rfl,z.toList,jQ hp,?_,?_,hW⟩
 ·rw[PQ];intro i j hi hj a';have:=f' i j (Mu _) a' (by rw[<-hs];simpa using hj);simp only[Oh]at hi hj;rw[getElem!_pos z i hi,getElem!_pos z j hj]at this;unfold ltOf at this
  simpa only [Na,PL] using this
 ·intro k x J;have G:k<z.size:=by have:=(List.getElem?_eq_some_iff.1 J).1;simpa using this
  have hz:z[k]! = z[k]:=getElem!_pos z k G;have c':z[k]=x:=by
   rw[N6,MJ G]at J;exact MX J
  have q0:=(I.cell (c:=0) G dc).1;have q1:=(I.cell (c:=1) G dc).1;have q2:=(I.cell (c:=2) G dc).1;rw[hz,c']at q0 q1 q2;refine⟨?_,?_,?_⟩
  ·simpa [bR] using q0
  ·simpa [bR] using q1
  ·simpa [bR] using q2
end
end
section
section
open Go.RowKit Go.Shelf
open Go.Sort (SWO PermIn SortedIn HoldsK grow pdq pdq_sorts)
abbrev PX:Type:={ x:Int × Nat // x.2<=1048576 }
instance pxInh:Inhabited PX:=⟨⟨(0,0),Nat.zero_le _⟩⟩
def pxC (x y:PX):Int:=(x.1.2:Int)-(y.1.2:Int)
def gT (x:PX):List Value:=[Mk x.1.1,Mk (x.1.2:Int)]
theorem GK:PC pxC:=⟨fun a b=>by unfold pxC;omega,fun a b d G z=>by unfold pxC at *;omega,fun a b d h=>by unfold pxC at *;omega⟩
theorem wZ (args:Array Value) (W:World):(callFunc 267 args).run prog W=.ok (.enter 267 args) W:=enters_of func267 kr rfl args W
theorem AH (args:Array Value) (W:World):(callFunc 287 args).run prog W=.ok (.enter 287 args) W:=enters_of func287 kr rfl args W
theorem GF (x y:PX) (w:World):Calls prog 267 #[prV x.1,prV y.1] w fun e w'=>e=.returned (Mk (pxC x y))/\Gr w w':=by
 obtain⟨⟨J,h⟩,G⟩:=x;obtain⟨⟨I,z⟩,hy⟩:=y;unfold pxC prV;simp only at G hy ⊢;have hw:IntKind.i64.wrap ((h:Int)-(z:Int))=(h:Int)-(z:Int):=by simp[IntKind.wrap,IntKind.bits,IntKind.signed];omega
 go_enter func267,ntmps267;go_wp2;go_ret;exact⟨rfl,jC⟩
theorem GI (x:PX) {w:World} {g p:Nat} (h:vY w g p x.1) {r:Nat} (hr:r<2):w.cell? ⟨g,p+r,none⟩=(gT x)[r]?:=by
 obtain⟨h0,z⟩:=h
 match r,hr with
 | 0,_=>exact h0
 | 1,_=>exact z
def Lq (w:World) (g:Nat) (es:List PX) (e:Ending) (W:World):Prop:=e=.returned (.tuple #[])/\∃es':List PX,es'.Perm es/\es'.Pairwise (fun a b=>¬pxC b a<0)/\(∀(k:Nat) (x:PX),es'[k]?=some x->vY W g (0+k*2) x.1)/\w.grownBy W (some g)
theorem vE (es:List PX) (g cap:Nat) (cur:List Value) (w:World) (O:w.heap[g]?=some (.cells cur.toArray 124 (0,0))) (hc:∀(k:Nat) (x:PX),es[k]?=some x->vY w g (0+k*2) x.1) (k':es.length<=1048576) :
  Calls prog 266 #[.slice (some ⟨g,0,none⟩) es.length cap,.func (.func 267) #[] #[]] w (Lq w g es):=by
 have hH:HoldsK gT 2 w g 0 es.toArray:=by
  intro t ht;rw[Go.Sort.size_flatK]at ht;rw[Go.Sort.get_flatK _ _ _ _ ht];simp only[N5]at ht;have hq:t / 2<es.length:=by omega
  have hx:es.toArray[t / 2]! = es[t / 2]:=by simp[hq]
  rw[hx];refine⟨?_,aw O _⟩;have h1:=GI es[t / 2] (hc (t / 2) es[t / 2] (Mq hq)) (r:=t%2) om;have h2:0+t / 2*2+t%2=0+t:=by omega
  rw[h2]at h1;rw[h1];have h3:t%2<(gT es[t / 2]).length:=by simp[gT];omega
  rw[Mq h3,getElem!_pos (gT es[t / 2]) (t%2) h3];rfl
 have J:CmpLays prog 267 #[] gT 2 pxC g 0 es.toArray.size w:=by
  intro m os dk _ x y;refine (GF x y _).mono ?_;rintro e w' ⟨rfl,h2⟩;exact⟨rfl,uH h2⟩
 have hlen:es.toArray.size=es.length:=by simp
 have I:Lib.bitLen es.toArray.size<4611686018427387904:=Nat.lt_of_le_of_lt (Lib.bitLen_le es.toArray.size 62 om om) om;have hp:=AnyQ.pdqsortCmpFunc_all Tryz.pdqSet 2 Tryz.isAgg124 Tryz.sizeOf124 gT pxC 267 #[] (uK GK) g 0 cap es.toArray w wZ J ⟨fun _=>rfl,fun x v hv=>by
   simp only[gT,MN,Nh,Ni]at hv;rcases hv with rfl|rfl<;>rfl,hH,bC O⟩ (es.toArray.size+1) 0 es.toArray.size (Lib.bitLen es.toArray.size) es.toArray w om rfl (SWK.start hH) (Mu _) (Mt _) om I (Or.inl rfl)
 change Calls prog 287 _ _ _ at hp
 have hl:Calls prog 45 #[.int .u64 (es.toArray.size:Int)] w fun e w'=>e=.returned (Mk (Lib.bitLen es.toArray.size:Nat))/\w'=w:=by
  have h:=Any.bits_Len (SlLaysF0.n15.bits (P:=prog) (ρ:=Tryz.sortVal_ren) { Tryz.sortVal with }) (es.toArray.size:Int) w om om
  rwa [Int.toNat_natCast]at h
 rw[hlen]at hp hl;have wr:IntKind.u64.wrap (es.length:Int)=es.length:=by simp[IntKind.wrap,IntKind.bits,IntKind.signed];omega
 have j':=AH;have HH:=jD hH;have HG:=jD O;have HQ:=jD (pdq_sorts (ltOf pxC) (uK GK) es.toArray 0 es.toArray.size (Lib.bitLen es.toArray.size) true true (Mu _) (Mt _) (Or.inl rfl));rw[hlen]at HQ;clear hH J hc I O;go_enter func266,ntmps266;go_wp2_with (first|(go_at_call 45;refine hl.mono ?_;rintro e w' ⟨rfl,Z⟩;rw[Z];clear Z w')|(go_at_call 287;refine hp.mono ?_;rintro e w' ⟨rfl,n,os,rfl⟩))
 go_end0
 obtain⟨z,h'⟩:=jF (pdq (ltOf pxC) es.toArray 0 es.length (Lib.bitLen es.length) true true);have hQ:=HQ.out;rw[<-h']at hQ ⊢;obtain⟨⟨hs,-,a'⟩,i'⟩:=hQ;have O:=HG.out;rw[hlen]at hs;have hex:∀d:Array PX,d.size=es.length->(d.extract 0 es.length).toList=d.toList:=fun d hd=>by rw[<-hd];simp
 rw[hex z hs,hex es.toArray hlen]at a';have c':HoldsK gT 2 (sortWorldK gT 2 w g 0 n z os) g 0 z:=holdsK_sortWorldK_c gT 2 w g 0 es.toArray z n os HH.out (bC O) (by rw[hs,hlen]);have hW:=gW gT 2 w g 0 n z os;refine⟨rfl,z.toList,jQ a',?_,?_,hW⟩
 ·rw[PQ];intro i j hi hj f';have:=i' i j (Mu _) f' (by rw[<-hs];simpa using hj);simp only[Oh]at hi hj;rw[getElem!_pos z i hi,getElem!_pos z j hj]at this;unfold ltOf at this
  simpa only [Na,PL] using this
 ·intro k x hx;have G:k<z.size:=by have:=(List.getElem?_eq_some_iff.1 hx).1;simpa using this
  have hz:z[k]! = z[k]:=getElem!_pos z k G;have g':z[k]=x:=by
   rw[N6,MJ G]at hx;exact MX hx
  have q0:=(c'.cell (c:=0) G dc).1;have q1:=(c'.cell (c:=1) G dc).1;rw[hz,g']at q0 q1;refine⟨?_,?_⟩
  ·simpa [gT] using q0
  ·simpa [gT] using q1
end
end
end Go.Proofs.YtbjicljfjkdeeaaGreatDoor
