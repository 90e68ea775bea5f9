/- Part. -/
import Derived.Shelf.SlSortCmp.NoneTotal
import Derived.Test.YtokconodddedhaaGreatDoorQ18
set_option maxRecDepth 100000
set_option maxHeartbeats 16000000
set_option linter.unusedVariables false
set_option linter.unusedSimpArgs false
namespace Go.Proofs
section
open Go.Shelf
def Tryz.sortMat_ren:Go.Shelf.Ren:=⟨fun|6=>39|15=>79|14=>78|28=>136|29=>137|20=>128|21=>129|22=>130|23=>131|24=>132|25=>133|26=>134|27=>135|46=>192|47=>193|48=>194|49=>195|50=>196|57=>266|n=>n,fun|22=>37|24=>55|25=>59|3=>3|39=>152|0=>0|53=>208|55=>210|4=>4|46=>201|45=>200|50=>205|5=>5|9=>9|66=>266|70=>270|76=>313|77=>111|n=>n,fun|n=>n⟩
theorem bears {P:Program} {f:FuncId} {B:Func} (h:(((P.funcs[f]?).map (·.name)).getD "" == "runtime.NumGoroutine")=false:=by kernel_rfl) (z:P.funcs[f]?=some {B with name:=((P.funcs[f]?).map (·.name)).getD ""}:=by kernel_rfl):Bears P f B:=⟨_,h,z⟩
theorem Tryz.sortMat:Go.Proofs.SlLaysF0.n6 Tryz.prog Tryz.sortMat_ren:=by
 constructor
 all_goals first|kernel_rfl|(intro _;kernel_rfl)|exact bears|(constructor<;>first|kernel_rfl|(intro _;kernel_rfl))
def Tryz.pdqSet_ren:Go.Shelf.Ren:=⟨fun|14=>399|20=>413|21=>414|22=>415|23=>416|24=>417|25=>418|26=>419|27=>420|46=>427|47=>193|48=>194|49=>428|50=>429|15=>79|57=>430|28=>136|29=>137|n=>n,fun|24=>188|22=>185|3=>3|25=>387|4=>4|0=>0|46=>201|45=>200|50=>205|66=>266|39=>152|55=>210|70=>270|76=>313|77=>111|53=>208|5=>5|9=>9|n=>n,fun|n=>n⟩
theorem Tryz.pdqSet:Go.Proofs.SlLaysF0.n14 Tryz.prog Tryz.pdqSet_ren:=by
 constructor
 all_goals first|kernel_rfl|(intro _;kernel_rfl)|exact bears|(constructor<;>first|kernel_rfl|(intro _;kernel_rfl))
def Tryz.sortVal_ren:Go.Shelf.Ren:=⟨fun|6=>126|15=>79|14=>188|28=>136|29=>137|20=>257|21=>258|22=>259|23=>260|24=>261|25=>262|26=>263|27=>264|46=>322|47=>193|48=>194|49=>323|50=>324|57=>354|n=>n,fun|22=>56|24=>27|25=>198|3=>3|39=>152|0=>0|53=>208|55=>210|4=>4|46=>201|45=>200|50=>205|5=>5|9=>9|66=>266|70=>270|76=>313|77=>111|n=>n,fun|n=>n⟩
theorem Tryz.sortVal:Go.Proofs.SlLaysF0.n6 Tryz.prog Tryz.sortVal_ren:=by
 constructor
 all_goals first|kernel_rfl|(intro _;kernel_rfl)|exact bears|(constructor<;>first|kernel_rfl|(intro _;kernel_rfl))
end
end Go.Proofs
namespace Go.Proofs.YtokconodddedhaaGreatDoor
open Go.Proofs.Tryz Go.RowKit
section
section
open Go.Sort (SWO PermIn SortedIn HoldsK grow)
theorem tX {α:Type} {c:α->α->Int} (h:PC c):SWO (ltOf c):=by
 refine⟨fun x=>?_,fun x y z G I=>?_,fun x y z G I=>?_⟩
 ·unfold ltOf;rw[h.refl];rfl
 ·unfold ltOf at *;simp only[Ly]at *;exact h.lt x y z G I
 ·unfold ltOf at *;simp only[LG]at *;intro Z;have O:c y x<=0:=by have:=h.anti x y;omega
  have J:c z y<=0:=by have:=h.anti y z;omega
  have h4:c z x<=0:=by
   rcases Int.lt_or_eq_of_le J with D|D
   ·rcases Int.lt_or_eq_of_le O with F|F
    ·exact Int.le_of_lt (h.lt z y x D F)
    ·have:=h.congr y x z F;omega
   ·have:=h.cong z y x D;omega
  have:=h.anti x z;omega
theorem vg {w w':World} (h:Gr w w'):∃q os,w'=grow (w.drewN q) os:=by
 refine⟨w'.drawn-w.drawn,w'.heap.extract w.heap.size w'.heap.size,?_⟩;have J:=h.drawn;have I:w.heap++w'.heap.extract w.heap.size w'.heap.size=w'.heap:=by
  apply Array.ext_getElem?;intro i;rw[Array.getElem?_append]
  by_cases z:i<w.heap.size
  ·rw[K7 z,h.below.block i z]
  ·rw[K6 z,Array.getElem?_extract]
   by_cases D:i<w'.heap.size
   ·rw[K7 om];congr 1;omega
   ·rw[K6 om,MY om]
 unfold grow World.drewN
 cases w'
 simp only[World.mk.injEq]at *;have F:=h.below.tape;have D:=h.below.os;have G:=h.below.output;simp only at F D G J I;exact⟨I.symm,F,by omega,D,G⟩
theorem wN {α:Type} [Inhabited α] (enc:α->List Value) (k:Nat) (w:World) (g off m:Nat) (z:Array α) (os:Array Obj) {b:Nat} (D:b<w.heap.size) (h:b≠g):(sortWorldK enc k w g off m z os).heap[b]?=w.heap[b]?:=by
 unfold sortWorldK Go.Sort.putRowK Go.Sort.putRow Go.Sort.mapBlock grow Go.Sort.ahead;simp only[Array.getElem?_append,Array.size_modify,D,Mo,Nx];rw[K6 om]
theorem gW {α:Type} [Inhabited α] (enc:α->List Value) (k:Nat) (w:World) (g off m:Nat) (z:Array α) (os:Array Obj):w.grownBy (sortWorldK enc k w g off m z os) (some g) :=
 ⟨rfl,rfl,rfl,by unfold sortWorldK Go.Sort.putRowK Go.Sort.putRow Go.Sort.mapBlock grow Go.Sort.ahead;simp,fun i D h=>wN enc k w g off m z os D (fun e=>h (by rw[e]))⟩
end
section
structure MW (B:Nat) (wr:World) (av:Value) (ms:List (List Bnd × Value)):Prop where
 row:wr.ownsRow B 55 1 av ms.length (ms.map (·.2))
 bnds:∀e∈ms,bQ wr e.2 e.1/\∀g,e.2.ownBlock=some g->B<=g/\g<wr.heap.size/\some g≠av.ownBlock
theorem MW.nil (B:Nat) (w:World):MW B w (.slice none 0 0) []:=⟨⟨by simp,.inl ⟨rfl,rfl⟩⟩,by simp⟩
theorem MW.grow {B:Nat} {wr D:World} {F:Value} {ms:List (List Bnd × Value)} (h:MW B wr F ms) (z:KY wr D):MW B D F ms :=
 ⟨aj h.row z,fun e he=>⟨(h.bnds e he).1.stays cE z,fun g G=>by have:=(h.bnds e he).2 g G;exact⟨this.1,Ll this.2.1 z.size,this.2.2⟩⟩⟩
theorem MW.app {B:Nat} {z I:World} {G v7 u:Value} {ms:List (List Bnd × Value)} {bs:List Bnd} {o:Obj} (h:MW B z G ms) (hu:bQ z u bs) (a':∀g,u.ownBlock=some g->B<=g/\g<z.heap.size/\some g≠G.ownBlock)
  (J:I.ownsRow B 55 1 v7 (ms.length+1) (ms.map (·.2)++[u])) (hg:(z.alloc o).grownBy I G.ownBlock) (O:v7.ownBlock=G.ownBlock\/v7.ownBlock=some (z.alloc o).heap.size) :
  MW B I v7 (ms++[(bs,u)]):=by
 have F:∀g,g<z.heap.size->some g≠G.ownBlock->I.heap[g]?=z.heap[g]?:=fun g Z h2=>(hg.block g (by simp;omega) h2).trans (Mq z o g Z)
 have b':z.heap.size<I.heap.size:=Ll jS hg.size;refine⟨jQ J,?_⟩;intro e he;have h0:bQ z e.2 e.1/\∀g,e.2.ownBlock=some g->B<=g/\g<z.heap.size/\some g≠G.ownBlock:=by
  rcases List.mem_append.1 he with he|he
  ·exact h.bnds e he
  ·simp at he;subst he;exact⟨hu,a'⟩
 refine⟨iY h0.1 fun g D=>F g (h0.2 g D).2.1 (h0.2 g D).2.2,fun g D=>?_⟩;have Z:=h0.2 g D;refine⟨Z.1,by omega,?_⟩;rcases O with hl|hl
 ·rw[hl];exact Z.2.2
 ·rw[hl];simp;omega
end
section
open Go.RowKit Go.Shelf
end
section
open Go.RowKit Go.Shelf
open Go.Sort (SWO PermIn SortedIn HoldsK grow)
abbrev SM (w:World) (g:Nat):Type:={ e:MV // MOk w g e }
instance smInh (w:World) (g:Nat):Inhabited (SM w g):=⟨⟨([],.slice none 0 0),⟨none,0,rfl,Nat.le_refl _,Nat.zero_le _,by simp⟩,by simp[Value.ownBlock]⟩⟩
def ji {w:World} {g:Nat} (x:SM w g):List Value:=[x.1.2]
def smC {w:World} {g:Nat} (x y:SM w g):Int:=bsC x.1.1 y.1.1
theorem Kg {w:World} {g:Nat}:PC (@smC w g):=jc.of fun x:SM w g=>x.1.1
theorem AQ {w:World} {g:Nat}:∀es:List MV,(∀e∈es,MOk w g e)->∃dl:List (SM w g),dl.map (fun x=>x.1)=es
 | [],_=>⟨[],rfl⟩
 | e::es,h=>by
  obtain⟨dl,z⟩:=AQ es fun x D=>h x (Lh _ D)
  exact⟨⟨e,h e (Lg ..)⟩::dl,by rw[LF,z]⟩
theorem za (args:Array Value) (W:World):(callFunc 40 args).run prog W=.ok (.enter 40 args) W:=enters_of func40 kr rfl args W
theorem yY {α:Type} [Inhabited α] (enc:α->List Value) (k:Nat) (w:World) (g off m:Nat) (G:Array α) (os:Array Obj) {cur:Array Value} {t:TypeId} {F:Nat × Nat} (D:w.heap[g]?=some (.cells cur t F)) :
  ∃h:Array Value,(sortWorldK enc k w g off m G os).heap[g]?=some (.cells h t F)/\h.size=cur.size:=by
 have I:g<w.heap.size:=by
  rcases LY g w.heap.size with z|z
  ·exact z
  ·rw[MY z]at D;cases D
 unfold sortWorldK Go.Sort.putRowK Go.Sort.putRow Go.Sort.mapBlock grow Go.Sort.ahead;simp only[Array.getElem?_append,Array.size_modify,I,Mo,Nx,D,Nm,Go.Sort.onCells];exact⟨_,rfl,by simp[Go.Sort.putCells]⟩
theorem mB (es:List MV) (g cap:Nat) (spare:List Value) (w:World) (hg:w.heap[g]?=some (.cells (es.map (·.2)++spare).toArray 55 (0,0))) (l':es.length<=1048576) (he:∀e∈es,MOk w g e) :
  Calls prog 39 #[.slice (some ⟨g,0,none⟩) es.length cap,.func (.func 40) #[] #[]] w fun e W=>e=.returned (.tuple #[])/\∃(es':List MV) (F:List Value),es'.Perm es/\(es'.map (·.1)).Pairwise (fun a b=>¬bsC b a<0)/\W.heap[g]?=some (.cells (es'.map (·.2)++F).toArray 55 (0,0))/\(es'.map (·.2)++F).length=(es.map (·.2)++spare).length/\w.grownBy W (some g):=by
 obtain⟨dl,J⟩:=AQ es he;have f':dl.length=es.length:=by rw[<-J,Lm]
 have c':∀j,j<dl.length->∃x:SM w g,dl.toArray[j]! =x/\es[j]?=some x.1:=fun j Z=>by
  refine⟨dl[j],by simp[Z],?_⟩;rw[<-J,LI,K9 Z];rfl
 have hH:HoldsK ji 1 w g 0 dl.toArray:=by
  intro t ht;rw[Go.Sort.size_flatK]at ht;rw[Go.Sort.get_flatK _ _ _ _ ht];simp only[MM]at ht;obtain⟨x,hx,hex⟩:=c' (t / 1) om;rw[hx,Lu];have c0:=Bg hex spare;refine⟨?_,aq hg t⟩;rw[af hg];rw[Nat.div_one]at c0;rw[Nat.mod_one];exact c0
 have a':CmpLays prog 40 #[] ji 1 (@smC w g) g 0 dl.toArray.size w:=by
  intro m os dk _ x y;have hW:=gW ji 1 w g 0 m dk os;have b':∀z:SM w g,bQ (sortWorldK ji 1 w g 0 m dk os) z.1.2 z.1.1:=fun z=>qZ z.2.1 fun b hb hv=>hW.block b hb (fun e=>z.2.2 (by rw[hv,e]))
  refine (uh x.1.1 y.1.1 x.1.2 y.1.2 _ (b' x) (b' y)).mono ?_;rintro e w' ⟨rfl,h2⟩;exact⟨rfl,vg h2⟩
 have hlen:dl.toArray.size=es.length:=jQ f';have h:=AnyQ.slices_SortFunc Tryz.sortMat 1 Tryz.isAgg55 Tryz.sizeOf55 ji (fun _=>rfl) (fun x v hv=>by
   simp only[ji,Lv,LM,LN]at hv;subst hv;exact fK x.2.1) (@smC w g) (tX Kg) 40 #[] g 0 cap dl.toArray w za a' hH (aD hg) (by rw[hlen];omega)
 change Calls prog 39 _ _ _ at h
 rw[hlen]at h;refine h.mono ?_;rintro e W ⟨rfl,D,n,os,⟨hs,_,hp⟩,h',rfl⟩;rw[hlen]at hs;have hex:∀d:Array (SM w g),d.size=es.length->(d.extract 0 es.length).toList=d.toList:=fun d hd=>by rw[<-hd];simp
 rw[hex D hs,hex dl.toArray hlen]at hp;have k':HoldsK ji 1 (sortWorldK ji 1 w g 0 n D os) g 0 D:=holdsK_sortWorldK_c ji 1 w g 0 dl.toArray D n os hH (aD hg) (by rw[hs,hlen]);have hW:=gW ji 1 w g 0 n D os;obtain⟨cur,G,i'⟩:=yY ji 1 w g 0 n D os hg;have e':D.toList.length=es.length:=by rw[NI,hs]
 have j':cur.toList.length=es.length+spare.length:=by rw[NI,i'];simp
 have O:cur.toList.take es.length=D.toList.map (fun x=>x.1.2):=by
  refine List.ext_getElem? fun k=>?_
  by_cases hk:k<es.length
  ·have I:k<D.size:=by omega
   have q0:=(k'.cell (c:=0) I dc).1;rw[List.getElem?_take_of_lt hk,LI];have hz:D[k]! =D[k]:=getElem!_pos D k I;rw[hz]at q0;simp only[Lu,LL,Mc,World.cell?,G]at q0;have e2:D.toList[k]?=some D[k]:=by rw[M5];exact NP I
   rw[e2,M5]
   simpa [ji] using q0
  ·rw[NM (by rw[Ml];omega),NM (by rw[Lm];omega)]
 refine⟨rfl,D.toList.map (fun x=>x.1),cur.toList.drop es.length,?_,?_,?_,?_,hW⟩
 ·have h1:=hp.map (fun x:SM w g=>x.1);have h2:dl.toArray.toList.map (fun x:SM w g=>x.1)=es:=by rw[<-J]
  rwa [h2]at h1
 ·rw[Nl,NE,NQ];intro i j hi Z g';have:=h' i j (Lb _) g' (by rw[<-hs];simpa using Z);simp only[NI]at hi Z;rw[getElem!_pos D i hi,getElem!_pos D j Z]at this;unfold ltOf smC at this;simp only[Array.getElem_toList,Function.comp]
  simpa only [LG] using this
 ·rw[Nl];have e1:cur.toList=D.toList.map ((fun x:MV=>x.2) ∘ fun x=>x.1)++cur.toList.drop es.length:=by
   show cur.toList=D.toList.map (fun x=>x.1.2)++_;rw[<-O,M8]
  rw[<-e1];exact G
 ·rw[Le,Le,Lm,Lm,Lm,NH,j',e'];omega
theorem mF (w:World):KZ 39 #[.slice none 0 0,.func (.func 40) #[] #[]] w (.tuple #[]):=by
 have h:=AnyF.slices_SortFunc_none Tryz.sortMat none 0 (.func (.func 40) #[] #[]) w
 change Calls prog 39 _ _ _ at h
 refine h.mono ?_;rintro e W ⟨rfl,rfl⟩;exact⟨rfl,La _ _⟩
end
section
def neg (l:List Ety):List Ety:=l.map fun x=>⟨x.q,x.bs,-x.n⟩
end
section
end
section
end
section
open Go.RowKit Go.Shelf
end
end
end Go.Proofs.YtokconodddedhaaGreatDoor
