/- Part. -/
import Derived.Shelf.GgSortFunc.RowK
import Derived.Test.YteemngnialjaiaaGreatDoorQ08
import Derived.Test.YteemngnialjaiaaGreatDoorQ07
set_option maxRecDepth 100000
set_option maxHeartbeats 16000000
set_option linter.unusedVariables false
set_option linter.unusedSimpArgs false
namespace Go.Proofs.YteemngnialjaiaaGreatDoor
open Go.Proofs.Tryz Go.RowKit
variable {w w':World}{v Z:Value}{l bs:List Bnd}{S:List (List Bnd)}{α:Type}{b B g G:Nat}{ms:List (List Bnd×Value)}{o:Obj}{t:TypeId}{P:Program}{c:Code}{Q:Exit->Act->World->Prop}{a:Act}{K:World->Prop}{cs:Array Value}
section
theorem pm(h:cP w v l)(hk:∀g,v.ownBlock=some g->w'.heap[g]?=w.heap[g]?):cP w' v l:=by
 obtain⟨A,c,rfl,h1,J,h3⟩:=h;refine⟨A,c,rfl,h1,J,fun k x hx=>?_⟩;obtain⟨b,o,rfl,c0,c1,c2,c3⟩:=h3 k x hx;have Z:=hk b rfl;have I:∀i,w'.cell? ⟨b,i,none⟩=w.cell? ⟨b,i,none⟩:=fun i=>Pf (a:=⟨b,i,none⟩) Z
 exact⟨b,o,rfl,by rw[I];exact c0,by rw[I];exact c1,by rw[I];exact c2,by rw[I];exact c3⟩
theorem Jq(h:cP w v l)(I:l≠[]):∃g,v.ownBlock=some g/\g<w.heap.size:=by
 obtain⟨A,c,rfl,h1,h2,J⟩:=h
 cases l with
 | nil=>exact absurd rfl I
 | cons x l =>
  obtain⟨b,o,rfl,Z,_⟩:=J 0 x rfl;exact⟨b,rfl,OV w ⟨b,_,none⟩ Z⟩
theorem rK(h:cP w v l)(hk:∀g,g<w.heap.size->v.ownBlock=some g->w'.heap[g]?=w.heap[g]?):cP w' v l:=by
 by_cases Z:l=[]
 ·subst Z;obtain⟨A,c,rfl,h1,h2,-⟩:=h;exact⟨A,c,rfl,h1,h2,by simp⟩
 ·obtain⟨g,hg,J⟩:=Jq h Z;exact pm h fun g' I=>by rw[hg]at I;injection I with I;subst I;exact hk g J hg
section
open Go.RowKit Go.Shelf
def MOk(w:World)(g:Nat)(e:MV):Prop:=cP w e.2 e.1/\e.2.ownBlock≠some g
end
section
open Go.RowKit Go.Shelf
open Go.Sort (SWO PermIn SortedIn HoldsK grow)
theorem zK:∀{S T:List (List Bnd)},S.Pairwise (fun a b=>bsC a b<0)->T.Pairwise (fun a b=>bsC a b<0)->(∀k,k∈S↔k∈T)->S=T
 | [],[],_,_,_=>rfl
 | [],b::T,_,_,h=>absurd ((h b).2 (OR ..)) jS
 | a::S,[],_,_,h=>absurd ((h a).1 (OR ..)) jS
 | a::S,b::T,hS,hT,h=>by
  obtain⟨h1,h2⟩:=List.pairwise_cons.1 hS;obtain⟨k1,k2⟩:=List.pairwise_cons.1 hT;have I:∀{x:List Bnd},¬bsC x x<0:=fun {x} h=>by rw[ga.refl]at h;omega
  have a':a=b:=by
   rcases List.mem_cons.1 ((h a).1 (OR ..)) with J|J
   ·exact J
   ·rcases List.mem_cons.1 ((h b).2 (OR ..)) with Z|Z
    ·exact Z.symm
    ·exact absurd (ga.lt a b a (h1 b Z) (k1 a J)) I
  subst a';rw[zK h2 k2 fun k=>⟨fun hk=>?_,fun hk=>?_⟩]
  ·rcases List.mem_cons.1 ((h k).1 (OS _ hk)) with rfl|J
   ·exact absurd (h1 k hk) I
   ·exact J
  ·rcases List.mem_cons.1 ((h k).2 (OS _ hk)) with rfl|J
   ·exact absurd (k1 k hk) I
   ·exact J
def gh(m:List Bnd):List (List Bnd)->List (List Bnd)
 | []=>[m]
 | x::l=>if bsC x m<0 then x::gh m l else if bsC x m=0 then x::l else m::x::l
def fq(l:List (List Bnd)):List (List Bnd):=l.foldl (fun S m=>gh m S) []
theorem rO(m:List Bnd):∀l k,k∈gh m l↔k=m\/k∈l
 | [],k=>by simp[gh]
 | x::l,k=>by
  have I:=rO m l k;simp only[gh]
  split
  ·simp only[O7,I];constructor
   ·rintro (h|h|h)
    ·exact .inr (.inl h)
    ·exact .inl h
    ·exact .inr (.inr h)
   ·rintro (h|h|h)
    ·exact .inr (.inl h)
    ·exact .inl h
    ·exact .inr (.inr h)
  ·split
   ·next h=>have:=ui.1 h;subst this;simp
   ·simp
theorem yL{m:List Bnd}:∀{l},l.Pairwise (fun a b=>bsC a b<0)->(gh m l).Pairwise (fun a b=>bsC a b<0)
 | [],_=>by simp[gh]
 | x::l,h=>by
  obtain⟨h1,Z⟩:=List.pairwise_cons.1 h;simp only[gh]
  split
  ·next I =>
   refine List.pairwise_cons.2 ⟨fun k hk=>?_,yL Z⟩;rcases (rO m l k).1 hk with rfl|hk
   ·exact I
   ·exact h1 k hk
  ·split
   ·exact h
   ·next I J =>
    have hm:bsC m x<0:=by have:=ga.anti x m;omega
    refine List.pairwise_cons.2 ⟨fun k hk=>?_,h⟩;rcases List.mem_cons.1 hk with rfl|hk
    ·exact hm
    ·exact ga.lt m x k hm (h1 k hk)
theorem IH(l:List (List Bnd)):∀S:List (List Bnd),S.Pairwise (fun a b=>bsC a b<0)->(l.foldl (fun S m=>gh m S) S).Pairwise (fun a b=>bsC a b<0)/\∀k,k∈l.foldl (fun S m=>gh m S) S↔k∈S\/k∈l:=by
 induction l with
 | nil=>intro S h;exact⟨h,fun k=>by simp⟩
 | cons x l I =>
  intro S h;obtain⟨h1,J⟩:=I _ (yL (m:=x) h);refine⟨h1,fun k=>?_⟩;rw[PR,J,rO,O7];constructor
  ·rintro ((h|h)|h)
   ·exact .inr (.inl h)
   ·exact .inl h
   ·exact .inr (.inr h)
  ·rintro (h|h|h)
   ·exact .inl (.inr h)
   ·exact .inl (.inl h)
   ·exact .inr h
theorem dY(l:List (List Bnd)):(fq l).Pairwise (fun a b=>bsC a b<0)/\∀k,k∈fq l↔k∈l:=by
 obtain⟨h1,h⟩:=IH l [] List.Pairwise.nil;exact⟨h1,fun k=>by rw[show fq l=l.foldl (fun S m=>gh m S) [] from rfl,h];simp⟩
theorem np{l:List (List Bnd)}(h1:S.Pairwise (fun a b=>bsC a b<0))(h:∀k,k∈S↔k∈l):S=fq l :=
 zK h1 (dY l).1 fun k=>by rw[h,(dY l).2]
end
end
section
section
open Go.Sort (SWO PermIn SortedIn HoldsK grow)
theorem uP{c:α->α->Int}(h:PC c):SWO (ltOf c):=by
 refine⟨fun x=>?_,fun x y z h1 Z=>?_,fun x y z h1 Z=>?_⟩
 ·unfold ltOf;rw[h.refl];rfl
 ·unfold ltOf at *;simp only[OW]at *;exact h.lt x y z h1 Z
 ·unfold ltOf at *;simp only[PK]at *;intro h3;have a1:c y x<=0:=by have:=h.anti x y;omega
  have a2:c z y<=0:=by have:=h.anti y z;omega
  have h4:c z x<=0:=by
   rcases Int.lt_or_eq_of_le a2 with J|J
   ·rcases Int.lt_or_eq_of_le a1 with I|I
    ·exact Int.le_of_lt (h.lt z y x J I)
    ·have:=h.congr y x z I;omega
   ·have:=h.cong z y x J;omega
  have:=h.anti x z;omega
theorem uL(h:Gr w w'):∃q os,w'=grow (w.drewN q) os:=by
 refine⟨w'.drawn-w.drawn,w'.heap.extract w.heap.size w'.heap.size,?_⟩;have hd:=h.drawn;have Z:w.heap++w'.heap.extract w.heap.size w'.heap.size=w'.heap:=by
  apply Array.ext_getElem?;intro i;rw[Array.getElem?_append]
  by_cases J:i<w.heap.size
  ·rw[OG J,h.below.block i J]
  ·rw[OF J,Array.getElem?_extract]
   by_cases I:i<w'.heap.size
   ·rw[OG om];congr 1;omega
   ·rw[OF om,QR om]
 unfold grow World.drewN
 cases w'
 simp only[World.mk.injEq]at *;have h1:=h.below.tape;have I:=h.below.os;have h3:=h.below.output;simp only at h1 I h3 hd Z;exact⟨Z.symm,h1,by omega,I,h3⟩
theorem xA[Inhabited α](enc:α->List Value)(k:Nat)(w:World)(g off m:Nat)(I:Array α)(os:Array Obj)(J:b<w.heap.size)(h:b≠g):(sortWorldK enc k w g off m I os).heap[b]?=w.heap[b]?:=by
 unfold sortWorldK Go.Sort.putRowK Go.Sort.putRow Go.Sort.mapBlock grow Go.Sort.ahead;simp only[Array.getElem?_append,Array.size_modify,J,Ps,RC];rw[OF om]
theorem iB[Inhabited α](enc:α->List Value)(k:Nat)(w:World)(g off m:Nat)(I:Array α)(os:Array Obj):w.grownBy (sortWorldK enc k w g off m I os) (some g) :=
 ⟨rfl,rfl,rfl,by unfold sortWorldK Go.Sort.putRowK Go.Sort.putRow Go.Sort.mapBlock grow Go.Sort.ahead;simp,fun i J h=>xA enc k w g off m I os J (fun e=>h (by rw[e]))⟩
end
structure MW(B:Nat)(wr:World)(av:Value)(ms:List (List Bnd × Value)):Prop where
 row:wr.ownsRow B 58 1 av ms.length (ms.map (·.2))
 bnds:∀e∈ms,cP wr e.2 e.1/\∀g,e.2.ownBlock=some g->B<=g/\g<wr.heap.size/\some g≠av.ownBlock
theorem MW.nil(B:Nat)(w:World):MW B w (.slice none 0 0) []:=⟨⟨by simp,.inl ⟨rfl,rfl⟩⟩,by simp⟩
theorem MW.grow{wr J:World}(h:MW B wr Z ms)(I:OD wr J):MW B J Z ms :=
 ⟨aF h.row I,fun e he=>⟨(h.bnds e he).1.stays dx I,fun g hg=>by have:=(h.bnds e he).2 g hg;exact⟨this.1,OT this.2.1 I.size,this.2.2⟩⟩⟩
theorem MW.app{I w7:World}{av v7 u:Value}(h:MW B I av ms)(hu:cP I u bs)(d':∀g,u.ownBlock=some g->B<=g/\g<I.heap.size/\some g≠av.ownBlock)(a':w7.ownsRow B 58 1 v7 (ms.length+1) (ms.map (·.2)++[u]))(hg:(I.alloc o).grownBy w7 av.ownBlock)(c':v7.ownBlock=av.ownBlock\/v7.ownBlock=some (I.alloc o).heap.size) :
  MW B w7 v7 (ms++[(bs,u)]):=by
 have Z:∀g,g<I.heap.size->some g≠av.ownBlock->w7.heap[g]?=I.heap[g]?:=fun g h1 h2=>(hg.block g (by simp;omega) h2).trans (Qe I o g h1)
 have f':I.heap.size<w7.heap.size:=OT jS hg.size;refine⟨jQ a',?_⟩;intro e he;have h0:cP I e.2 e.1/\∀g,e.2.ownBlock=some g->B<=g/\g<I.heap.size/\some g≠av.ownBlock:=by
  rcases List.mem_append.1 he with he|he
  ·exact h.bnds e he
  ·simp at he;subst he;exact⟨hu,d'⟩
 refine⟨pm h0.1 fun g J=>Z g (h0.2 g J).2.1 (h0.2 g J).2.2,fun g J=>?_⟩;have h1:=h0.2 g J;refine⟨h1.1,by omega,?_⟩;rcases c' with hl|hl
 ·rw[hl];exact h1.2.2
 ·rw[hl];simp;omega
section
open Go.RowKit Go.Shelf
end
section
open Go.RowKit Go.Shelf
open Go.Sort (SWO PermIn SortedIn HoldsK grow)
abbrev SM(w:World)(g:Nat):Type:={ e:MV // MOk w g e }
instance smInh(w:World)(g:Nat):Inhabited (SM w g):=⟨⟨([],.slice none 0 0),⟨none,0,rfl,Nat.le_refl _,Nat.zero_le _,by simp⟩,by simp[Value.ownBlock]⟩⟩
def jz{w:World}{g:Nat}(x:SM w g):List Value:=[x.1.2]
def smC{w:World}{g:Nat}(x y:SM w g):Int:=bsC x.1.1 y.1.1
theorem MX:PC (@smC w g):=ga.of fun x:SM w g=>x.1.1
theorem Df{w:World}{g:Nat}:∀es:List MV,(∀e∈es,MOk w g e)->∃dl:List (SM w g),dl.map (fun x=>x.1)=es
 | [],_=>⟨[],rfl⟩
 | e::es,h=>by
  obtain⟨dl,I⟩:=Df es fun x J=>h x (OS _ J)
  exact⟨⟨e,h e (OR ..)⟩::dl,by rw[OU,I]⟩
theorem Bh(args:Array Value)(W:World):(callFunc 25 args).run prog W=.ok (.enter 25 args) W:=enters_of func25 kr rfl args W
theorem BH[Inhabited α](enc:α->List Value)(k:Nat)(w:World)(g off m:Nat)(dk:Array α)(os:Array Obj){cur:Array Value}{fr:Nat×Nat}(J:w.heap[g]?=some (.cells cur t fr)) :
  ∃h:Array Value,(sortWorldK enc k w g off m dk os).heap[g]?=some (.cells h t fr)/\h.size=cur.size:=by
 have Z:g<w.heap.size:=by
  rcases PT g w.heap.size with I|I
  ·exact I
  ·rw[QR I]at J;cases J
 unfold sortWorldK Go.Sort.putRowK Go.Sort.putRow Go.Sort.mapBlock grow Go.Sort.ahead;simp only[Array.getElem?_append,Array.size_modify,Z,Ps,RC,J,PD,Go.Sort.onCells];exact⟨_,rfl,by simp[Go.Sort.putCells]⟩
theorem mX(es:List MV)(g cap:Nat)(spare:List Value)(w:World)(hg:w.heap[g]?=some (.cells (es.map (·.2)++spare).toArray 58 (0,0)))(r':es.length<=1048576)(he:∀e∈es,MOk w g e) :
  Calls prog 24 #[.slice (some ⟨g,0,none⟩) es.length cap,.func (.func 25) #[] #[]] w fun e W=>e=.returned (.tuple #[])/\∃(es':List MV)(J:List Value),es'.Perm es/\(es'.map (·.1)).Pairwise (fun a b=>¬bsC b a<0)/\W.heap[g]?=some (.cells (es'.map (·.2)++J).toArray 58 (0,0))/\(es'.map (·.2)++J).length=(es.map (·.2)++spare).length/\w.grownBy W (some g):=by
 obtain⟨dl,f'⟩:=Df es he;have m':dl.length=es.length:=by rw[<-f',OL]
 have j':∀j,j<dl.length->∃x:SM w g,dl.toArray[j]! = x/\es[j]?=some x.1:=fun j hj=>by
  refine⟨dl[j],by simp[hj],?_⟩;rw[<-f',OQ,OH hj];rfl
 have hH:HoldsK jz 1 w g 0 dl.toArray:=by
  intro t ht;rw[Go.Sort.size_flatK]at ht;rw[Go.Sort.get_flatK _ _ _ _ ht];simp only[Rm]at ht;obtain⟨x,hx,hex⟩:=j' (t / 1) om;rw[hx,Pd];have c0:=Dz hex spare;refine⟨?_,af hg t⟩;rw[ab hg];rw[Nat.div_one]at c0;rw[Nat.mod_one];exact c0
 have i':CmpLays prog 25 #[] jz 1 (@smC w g) g 0 dl.toArray.size w:=by
  intro m os dk _ x y;have hW:=iB jz 1 w g 0 m dk os;have g':∀z:SM w g,cP (sortWorldK jz 1 w g 0 m dk os) z.1.2 z.1.1:=fun z=>rK z.2.1 fun b hb hv=>hW.block b hb (fun e=>z.2.2 (by rw[hv,e]))
  refine (uA x.1.1 y.1.1 x.1.2 y.1.2 _ (g' x) (g' y)).mono ?_;rintro e w' ⟨rfl,h2⟩;exact⟨rfl,uL h2⟩
 have hlen:dl.toArray.size=es.length:=jQ m';have h:=AnyQ.slices_SortFunc Tryz.sortMat 1 Tryz.isAgg58 Tryz.sizeOf58 jz (fun _=>rfl) (fun x v hv=>by
   simp only[jz,O7,Pw,Px]at hv;subst hv;exact jf x.2.1) (@smC w g) (uP MX) 25 #[] g 0 cap dl.toArray w Bh i' hH (aX hg) (by rw[hlen];omega)
 change Calls prog 24 _ _ _ at h
 rw[hlen]at h;refine h.mono ?_;rintro e W ⟨rfl,I,n,os,⟨hs,_,hp⟩,q',rfl⟩;rw[hlen]at hs;have hex:∀d:Array (SM w g),d.size=es.length->(d.extract 0 es.length).toList=d.toList:=fun d hd=>by rw[<-hd];simp
 rw[hex I hs,hex dl.toArray hlen]at hp;have n':HoldsK jz 1 (sortWorldK jz 1 w g 0 n I os) g 0 I:=holdsK_sortWorldK_c jz 1 w g 0 dl.toArray I n os hH (aX hg) (by rw[hs,hlen]);have hW:=iB jz 1 w g 0 n I os;obtain⟨cur,Z,l'⟩:=BH jz 1 w g 0 n I os hg;have h':I.toList.length=es.length:=by rw[QN,hs]
 have p':cur.toList.length=es.length+spare.length:=by rw[QN,l'];simp
 have c':cur.toList.take es.length=I.toList.map (fun x=>x.1.2):=by
  refine Rw fun k=>?_
  by_cases hk:k<es.length
  ·have a':k<I.size:=by omega
   have q0:=(n'.cell (c:=0) a' dc).1;rw[List.getElem?_take_of_lt hk,OQ];have hz:I[k]! = I[k]:=getElem!_pos I k a';rw[hz]at q0;simp only[Pd,P7,P9,World.cell?,Z]at q0;have e2:I.toList[k]?=some I[k]:=by rw[Qo];exact O5 a'
   rw[e2,Qo]
   simpa [jz] using q0
  ·rw[PF (by rw[PB];omega),PF (by rw[OL];omega)]
 refine⟨rfl,I.toList.map (fun x=>x.1),cur.toList.drop es.length,?_,?_,?_,?_,hW⟩
 ·have h1:=hp.map (fun x:SM w g=>x.1);have h2:dl.toArray.toList.map (fun x:SM w g=>x.1)=es:=by rw[<-f']
  rwa [h2]at h1
 ·rw[PZ,List.pairwise_map,Sr];intro i j hi hj k';have:=q' i j (OO _) k' (by rw[<-hs];simpa using hj);simp only[QN]at hi hj;rw[getElem!_pos I i hi,getElem!_pos I j hj]at this;unfold ltOf smC at this;simp only[Sn,Function.comp]
  simpa only [PK] using this
 ·rw[PZ];have e1:cur.toList=I.toList.map ((fun x:MV=>x.2) ∘ fun x=>x.1)++cur.toList.drop es.length:=by
   show cur.toList=I.toList.map (fun x=>x.1.2)++_;rw[<-c',QT]
  rw[<-e1];exact Z
 ·rw[OM,OM,OL,OL,OL,Qu,p',h'];omega
theorem mK(w:World):OE 24 #[.slice none 0 0,.func (.func 25) #[] #[]] w (.tuple #[]):=by
 have h:=AnyF.slices_SortFunc_none Tryz.sortMat none 0 (.func (.func 25) #[] #[]) w
 change Calls prog 24 _ _ _ at h
 refine h.mono ?_;rintro e W ⟨rfl,rfl⟩;exact⟨rfl,OK _ _⟩
end
def neg(l:List Ety):List Ety:=l.map fun x=>⟨x.q,x.bs,-x.n⟩
theorem KU{l m:List α}(hl:l.length=m.length)(h:∀(j:Nat)(x y:α),l[j]?=some x->m[j]?=some y->x=y):l=m:=by
 refine Rw fun j=>?_
 cases I:l[j]? with
 | none=>rw[PF];have:=List.getElem?_eq_none_iff.1 I;omega
 | some x =>
  have Z:=(List.getElem?_eq_some_iff.1 I).1;have J:=OH (l:=m) (i:=j) om;rw[J,h j x _ I J]
theorem Bl(l m:List (List Bnd))(v1 v2:Value)(w:World)(h1:kC w v1 l)(h2:kC w v2 m) :
  OE 10 #[v1,v2] w (.bool (decide (l=m))):=by
 obtain⟨A1,c1,rfl,l1,m1,a1⟩:=h1;obtain⟨A2,c2,rfl,l2,m2,a2⟩:=h2;have hn:=aP l1 m1;have F':=aP l2 m2;have s':=jD a1;have A':=jD a2;clear a1 a2 l1 l2 m1 m2
 by_cases I:l.length=m.length
 case neg =>
  have hd:decide (l=m)=false:=by simp;intro h;exact I (by rw[h])
  have l':((l.length:Int) != (m.length:Int))=true:=by simp;omega
  rw[hd];clear hd I;go_enter func10,ntmps10;go_wp2;go_ret;exact⟨rfl,OK _ _⟩
 have l':((l.length:Int) != (m.length:Int))=false:=by simp;omega
 obtain⟨r,hr⟩:∃r,decide (l=m)=r:=⟨_,rfl⟩;rw[hr];have HR:=jD hr;have q':=jD I;clear hr I;go_enter func10,ntmps10;go_wp2_with fail
 go_loopw [5] (fun i wr=>∃k:Nat,k<=l.length/\i=OB k/\Hid (∀(j:Nat)(x y:List Bnd),l[j]?=some x->m[j]?=some y->j<k->x=y)/\OD w wr) (fun i _=>l.length-(intOf i).toNat)
 case atStart=>exact⟨0,OO _,rfl,jD (fun _ _ _ _ _ h=>absurd h om),OK _ _⟩
 case round =>
  obtain⟨k,hk,rfl,hi,hb⟩:=hrel
  by_cases m':k<l.length
  ·have r':(k:Int)<(l.length:Int):=by omega
   have n':k<m.length:=by have:=q'.out;omega
   have E':(k:Int)<(m.length:Int):=by omega
   obtain⟨b1,o1,rfl,u1,j',p0⟩:=s'.out k l[k] (OH m');obtain⟨b2,o2,rfl,u2,d',q0⟩:=A'.out k m[k] (OH n');replace p0:=aa hb p0;replace q0:=aa hb q0;rw[P7]at p0 q0;have a':=jD (OH m');have J:=jD (OH n');obtain⟨x,hx⟩:=jF (l[k]);obtain⟨y,hy⟩:=jF (m[k]);rw[<-hx]at a' j';rw[<-hy]at J d';have t':=jD (j'.stays dx hb);have z':=jD (d'.stays dx hb);obtain⟨A3,c3,rfl,-⟩:=j';obtain⟨A4,c4,rfl,-⟩:=d';clear hx hy;obtain⟨r1,f'⟩:∃r,bsC x y=r:=⟨_,rfl⟩;have k':=jD (fun W (hW:OD wr W)=>IM (nr x y _ _ W (t'.out.stays dx hW) (z'.out.stays dx hW)) f');unfold zu at k';have p':=jD f';clear f'
   by_cases c':r1=0
   ·subst c';have B':Hid (x=y):=jD (ui.1 p'.out);go_wp2_with fail;refine cw (fun W=>W.cell? ⟨b1,o1+k,none⟩=some (.slice A3 x.length c3)/\W.cell? ⟨b2,o2+k,none⟩=some (.slice A4 y.length c4)) (by repeat (first|exact aN _ _ _|exact aM|refine aT ?_ ?_)) kr kr ?hF ?_;(case hF=>(first|exact⟨‹_›,‹_›⟩|(go_simp;done)|(simp[*];done)|(repeat' (first|(refine And.intro ?_ ?_)|(go_simp;done)|exact aa (bA (OK _ _) _) (by assumption)|assumption))));intro I h';have hG:Hid (Grows (fun W=>W.cell? ⟨b1,o1+k,none⟩=some (.slice A3 x.length c3)/\W.cell? ⟨b2,o2+k,none⟩=some (.slice A4 y.length c4))):=(by repeat (first|exact aN _ _ _|exact aM|refine aT ?_ ?_));(repeat (go_big_quiet_step ((go_at_call 16;exact lg hG (fun W hW=>k'.out W hW)))));clear hG h' I;refine QI ?_;rintro _ ⟨⟨w',i',g'⟩,rfl⟩;clear g';go_wp2_with fail
    go_roundw
    case rel =>
     refine⟨k+1,by omega,by go_num,jD ?_,ae hb i'⟩;intro j x' y' hj Z u';rcases Nat.lt_or_eq_of_le (Nat.le_of_lt_succ u') with h|h
     ·exact hi.out j x' y' hj Z h
     ·subst h;rw[a'.out]at hj;rw[J.out]at Z;injection hj with hj;injection Z with Z;rw[<-hj,<-Z];exact B'.out
    case measure=>simp[intOf];omega
   ·have D':(r1 != 0)=true:=jQ c';have C':Hid (r=false):=jD (by
     rw[<-HR.out];simp;intro h;have h7:=a'.out;rw[h,J.out]at h7;injection h7 with h7;exact c' (by rw[<-p'.out,h7];exact ga.refl _))
    clear c';go_wp2_with fail;refine cw (fun W=>W.cell? ⟨b1,o1+k,none⟩=some (.slice A3 x.length c3)/\W.cell? ⟨b2,o2+k,none⟩=some (.slice A4 y.length c4)) (by repeat (first|exact aN _ _ _|exact aM|refine aT ?_ ?_)) kr kr ?hF ?_;(case hF=>(first|exact⟨‹_›,‹_›⟩|(go_simp;done)|(simp[*];done)|(repeat' (first|(refine And.intro ?_ ?_)|(go_simp;done)|exact aa (bA (OK _ _) _) (by assumption)|assumption))));intro I h';have hG:Hid (Grows (fun W=>W.cell? ⟨b1,o1+k,none⟩=some (.slice A3 x.length c3)/\W.cell? ⟨b2,o2+k,none⟩=some (.slice A4 y.length c4))):=(by repeat (first|exact aN _ _ _|exact aM|refine aT ?_ ?_));(repeat (go_big_quiet_step ((go_at_call 16;exact lg hG (fun W hW=>k'.out W hW)))));clear hG h' I;refine QI ?_;rintro _ ⟨⟨w',i',g'⟩,rfl⟩;clear g';go_wp2;go_ret;rw[C'.out];exact⟨rfl,ae hb i'⟩
  ·have r':¬(k:Int)<(l.length:Int):=by omega
   have HF:Hid (r=true):=jD (by
    rw[<-HR.out,OW];refine KU q'.out fun j x y hj Z=>hi.out j x y hj Z ?_
    have:=(List.getElem?_eq_some_iff.1 hj).1;omega)
   go_wp2;go_ret;rw[HF.out];exact⟨rfl,hb⟩
section
open Go.RowKit Go.Shelf
end
end
theorem Ky(R:Act->Act->World->Prop)(h:c.wp P (fun e I w'=>e=.normal/\R a I w') a w)(J:∀I w',R a I w'->Q .normal I w'):c.wp P Q a w :=
 wp_mono h (fun e I w' ⟨he,hr⟩=>by subst he;exact J I w' hr)
theorem EvCells.stays{W W':World}(h:EvCells W G)(I:OD W W'):EvCells W' G:=fun j e he=>by
 obtain⟨h0,h1,J,h3,Z⟩:=h j e he;exact⟨aa I h0,aa I h1,aa I J,aa I h3,aa I Z⟩
theorem py(h:∀I,OD w I->I.heap[w.heap.size]?=some (.cells cs t (0,0))->K I):K (w.alloc (.cells cs t)) :=
 h _ (bA (OK _ _) _) (ax _ _ _ rfl)
def R9(wr:World)(RA:Ac)(re:Int)(a a':Act)(w':World):Prop:=∃(h:Nat)(I J c' u32 d' f' Z h' g':Value),a'=(((((((((((a.put (some 29) I).put (some 30) J).put (some 31) c').put (some 32) u32).put (some 33) d').put (some 34) f').put (some 28) Z).put (some 35) h').put (some 36) g').put (some 10) (.pointer (some ⟨h,0,none⟩))).put (some 11) (OB re))/\Hid (wr.heap.size<=h/\w'.heap[h]?=some (.cells (mL RA).toArray 335 (0,0))/\OD wr w')
theorem Jk(k:Int)(l:List Vl)(o:Vl)(v:Value)(w:World)(hl:bh w v l) :
  OE 280 #[OB k,v,vlV o] w (.tuple #[vlV (ofR k l o).1,OB (ofR k l o).2]):=by
 obtain⟨A,c,rfl,h1,h2,U'⟩:=hl;have V0:=aP h1 h2;have HL:=jD U';obtain⟨⟨RV,re⟩,hR⟩:∃r,ofR k l o=r:=⟨_,rfl⟩;have HR:=jD hR;rw[hR];unfold vlV;clear U' h1 h2 hR;obtain⟨kb,j'⟩:=eh (cA k);go_enter func280,ntmps280;go_wp2_with fail;refine aJ fun W9 e9=>?_
 have y0:OC W9 w.heap.size 0 (OB o.kind):=jG e9;have y1:OC W9 w.heap.size 1 (OB o.num):=jG e9;have y2:OC W9 w.heap.size 2 (.string o.text):=jG e9;have hr:W9.heap[w.heap.size+1]?=some (.cells [.int .i64 0,.int .i64 0,.string ⟨#[]⟩].toArray 27 (0,0)):=by rw[e9];exact ax _ _ _ jS
 have N':OD w W9:=gb e9;clear e9;refine (gW k W9).mono ?_;rw[j'.out];rintro e w1 ⟨rfl,rfl⟩;obtain⟨B6,R'⟩:=jF (w.heap.size+1);rw[<-R']at hr ⊢;have f':w.heap.size<=B6:=by omega
 have n':=jD hr;have t':=jD N';clear hr N' R'
 cases kb with
 | false =>
  obtain⟨e1,e2⟩:(⟨0,0,⟨#[]⟩⟩:Vl)=RV/\1=re:=by have h:=HR.out;unfold ofR at h;rw[OG j'.out]at h;injection h with h1 h2;exact⟨h1,h2⟩
  subst e1 e2;have J:=n'.out;have z0:W9.cell? ⟨B6,0,none⟩=some (OB 0):=by rw[ab J];rfl
  have z1:W9.cell? ⟨B6,1,none⟩=some (OB 0):=by rw[ab J];rfl
  have z2:W9.cell? ⟨B6,2,none⟩=some (.string ⟨#[]⟩):=by rw[ab J];rfl
  have f0:=af J 0;have f1:=af J 1;have f2:=af J 2;have HQ:=jD (bF J (OB 0) (OB 0) (.string ⟨#[]⟩));have l':=jD (aj (aj (aj (t'.out) (i:=0) f' (OB 0)) (i:=1) f' (OB 0)) (i:=2) f' (.string ⟨#[]⟩));clear J;go_wp2_with fail;have r0:=ab HQ.out 0;have r1:=ab HQ.out 1;have r2:=ab HQ.out 2;exact OJ (v:=.tuple #[.agg #[OB 0,OB 0,.string ⟨#[]⟩],OB 1]) (by simp[results,results280,go_sem,r0,r1,r2]) rfl ⟨rfl,l'.out⟩
 | true =>
 by_cases hlen:4096<l.length
 ·have E':(4096:Int)<(l.length:Int):=by omega
  obtain⟨e1,e2⟩:(⟨0,0,⟨#[]⟩⟩:Vl)=RV/\5=re:=by have h:=HR.out;unfold ofR at h;rw[OF (by rw[j'.out];simp),OG hlen]at h;injection h with h1 h2;exact⟨h1,h2⟩
  subst e1 e2;have J:=n'.out;have z0:W9.cell? ⟨B6,0,none⟩=some (OB 0):=by rw[ab J];rfl
  have z1:W9.cell? ⟨B6,1,none⟩=some (OB 0):=by rw[ab J];rfl
  have z2:W9.cell? ⟨B6,2,none⟩=some (.string ⟨#[]⟩):=by rw[ab J];rfl
  have f0:=af J 0;have f1:=af J 1;have f2:=af J 2;have HQ:=jD (bF J (OB 0) (OB 0) (.string ⟨#[]⟩));have l':=jD (aj (aj (aj (t'.out) (i:=0) f' (OB 0)) (i:=1) f' (OB 0)) (i:=2) f' (.string ⟨#[]⟩));clear J;go_wp2_with fail;have r0:=ab HQ.out 0;have r1:=ab HQ.out 1;have r2:=ab HQ.out 2;exact OJ (v:=.tuple #[.agg #[OB 0,OB 0,.string ⟨#[]⟩],OB 5]) (by simp[results,results280,go_sem,r0,r1,r2]) rfl ⟨rfl,l'.out⟩
 have E':¬(4096:Int)<(l.length:Int):=by omega
 have Q':Hid ((if gw k l≠0 then (au,gw k l) else qB k l.length (fI k l) o)=(RV,re)):=jD (by have h:=HR.out;unfold ofR at h;rwa [OF (by rw[j'.out];simp),OF hlen]at h);have B':=jD hlen;have Y0:=jD y0;have Y1:=jD y1;have Y2:=jD y2;have Z0:w.heap.size<W9.heap.size:=OV W9 ⟨w.heap.size,_,none⟩ y0;clear hlen y0 y1 y2;go_wp2_with fail;obtain⟨B8,G'⟩:=jF W9.heap.size;refine bV fun w1 e1=>?_
 have P':w1.heap[B8]?=some (.cells (mL ⟨k,0,au⟩).toArray 335 (0,0)):=by rw[e1,G'];exact ax _ _ _ rfl
 have z':OD W9 w1:=gb e1;have p':W9.heap.size<=B8:=by omega
 rw[<-G'];have U0:=jD P';have V':=jD z';clear e1 G' P' z'
 go_loopw [9] (fun i wr=>∃j:Nat,j<=l.length/\i=OB j/\Hid (eu (fun _ v=>cC k v) (jw l j) (l.drop j)=gw k l/\(∀x∈l.take j,cC k x=0)/\wr.heap[B8]?=some (.cells (mL (fI k (l.take j))).toArray 335 (0,0))/\OD W9 wr)) (fun i _=>l.length-(intOf i).toNat)
 case atStart=>exact⟨0,OO _,rfl,jD ⟨rfl,by simp,U0.out,V'.out⟩⟩
 case round =>
  obtain⟨j,hj,rfl,hI⟩:=hrel;obtain⟨AJ,k'⟩:=jE (fI k (l.take j));have h':=hI.out.2.2.1;rw[k']at h';have K0:=jD h';have hb:=hI.out.2.2.2;have x0:wr.cell? ⟨B8,0,none⟩=some (OB AJ.kind):=by rw[ab h'];rfl
  have x1:wr.cell? ⟨B8,1,none⟩=some (OB AJ.count):=by rw[ab h'];rfl
  have x2:wr.cell? ⟨B8,2,none⟩=some (OB AJ.val.kind):=by rw[ab h'];rfl
  have x3:wr.cell? ⟨B8,3,none⟩=some (OB AJ.val.num):=by rw[ab h'];rfl
  have x4:wr.cell? ⟨B8,4,none⟩=some (.string AJ.val.text):=by rw[ab h'];rfl
  have H0:B8<wr.heap.size:=aX h';clear h'
  by_cases I':j<l.length
  ·have S0:(j:Int)<(l.length:Int):=by omega
   obtain⟨b,o',rfl,c0,c1,c2⟩:=HL.out j l[j] (OH I');have i':=jD (OH I');obtain⟨y,hy⟩:=jF (l[j]);rw[<-hy]at c0 c1 c2 i';have y':=ae t'.out hb;replace c0:=aa y' c0;replace c1:=aa y' c1;replace c2:=aa y' c2;have r':lR k AJ (j:Int):=by
    have h:=kI (l:=l.take j) j'.out hI.out.2.1 j (by rw[PB];omega);rw[List.take_take,Nat.min_self,k']at h;exact h
   have A1:=jD r';obtain⟨⟨RA,ea⟩,F'⟩:∃r,mc k AJ y=r:=⟨_,rfl⟩;have H':=jD F';have Y':Hid (∀W,OE 329 #[.agg #[OB AJ.kind,OB AJ.count,OB AJ.val.kind,OB AJ.val.num,.string AJ.val.text],.agg #[OB y.kind,OB y.num,.string y.text]] W (.tuple #[.agg #[OB RA.kind,OB RA.count,OB RA.val.kind,OB RA.val.num,.string RA.val.text],OB ea])):=jD (fun W=>by
    have h:=Fw k j AJ y W j'.out r' (by have:=B'.out;omega);rw[F']at h;exact h)
   have X0:=jD x0;have X1:=jD x1;have X2:=jD x2;have X3:=jD x3;have X4:=jD x4;have C0:=jD c0;have C1:=jD c1;have C2:=jD c2;clear hy y' r' F' x0 x1 x2 x3 x4 c0 c1 c2;go_wp2_with fail;refine Ky (R9 wr RA ea) ?_ ?_
   ·
    refine PM ?_;refine PQ (S:=fun W=>OD wr W/\OC W B8 0 (OB AJ.kind)/\OC W B8 1 (OB AJ.count)/\OC W B8 2 (OB AJ.val.kind)/\OC W B8 3 (OB AJ.val.num)/\OC W B8 4 (.string AJ.val.text)/\OC W b (o'+j*3) (OB y.kind)/\OC W b (o'+j*3+1) (OB y.num)/\OC W b (o'+j*3+2) (.string y.text)) kr (⟨(OK _ _).drew,X0.out,X1.out,X2.out,X3.out,X4.out,C0.out,C1.out,C2.out⟩) (fun I=>?_);generalize wr.drew=wD at I ⊢
    focus (refine Qp (i:=0) (v:=?_) rfl kr kr kr (fun _ _ _ h=>h) (Or.inl ⟨by rfl,?_⟩) (by assumption) ?_;rotate_left 1;(focus (intro wS hSw;(try dsimp only at hSw);go_simp<;>with_reducible rfl));try simp only[Act.put,O9,O6,O4])
    focus (refine Qp (i:=1) (v:=?_) rfl kr kr kr (fun _ _ _ h=>h) (Or.inl ⟨by rfl,?_⟩) (by assumption) ?_;rotate_left 1;(focus (intro wS hSw;(try dsimp only at hSw);go_simp<;>with_reducible rfl));try simp only[Act.put,O9,O6,O4])
    focus (refine Qp (i:=2) (v:=?_) rfl kr kr kr (fun _ _ _ h=>h) (Or.inl ⟨by rfl,?_⟩) (by assumption) ?_;rotate_left 1;(focus (intro wS hSw;(try dsimp only at hSw);go_simp<;>with_reducible rfl));try simp only[Act.put,O9,O6,O4])
    focus (refine Qp (i:=3) (v:=?_) rfl kr kr kr (fun _ _ _ h=>h) (Or.inl ⟨by rfl,?_⟩) (by assumption) ?_;rotate_left 1;(focus (intro wS hSw;(try dsimp only at hSw);go_simp<;>with_reducible rfl));try simp only[Act.put,O9,O6,O4])
    focus (refine Qp (i:=4) (v:=?_) rfl kr kr kr (fun _ _ _ h=>h) (Or.inl ⟨by rfl,?_⟩) (by assumption) ?_;rotate_left 1;(focus (intro wS hSw;(try dsimp only at hSw);go_simp<;>with_reducible rfl));try simp only[Act.put,O9,O6,O4])
    refine Qw (rs:=[5,9]) kr jS ?_;refine PI rfl (fun K hK=>?_) ?_
    focus (go_simp;go_at_call 329;refine (Y'.out _).mono ?_;rintro e w5 ⟨rfl,c'⟩;(try (have yb:=jD ((c'.block _ (aX yh.out)).trans yh.out);clear yh;have yh:=yb;clear yb)))
    refine hK.out _ _ (⟨ae I.1 c',aa (ae I.1 c') X0.out,aa (ae I.1 c') X1.out,aa (ae I.1 c') X2.out,aa (ae I.1 c') X3.out,aa (ae I.1 c') X4.out,aa (ae I.1 c') C0.out,aa (ae I.1 c') C1.out,aa (ae I.1 c') C2.out⟩) (fun I=>?_);clear hK K
    try simp only[Act.put,O9,O6,O4]
    focus (refine Qp (i:=6) (v:=?_) rfl kr kr kr (fun _ _ _ h=>h) (Or.inl ⟨by rfl,?_⟩) (by assumption) ?_;rotate_left 1;(focus (intro wS hSw;(try dsimp only at hSw);go_simp<;>with_reducible rfl));try simp only[Act.put,O9,O6,O4])
    focus (refine Qp (i:=7) (v:=?_) rfl kr kr kr (fun _ _ _ h=>h) (Or.inl ⟨by rfl,?_⟩) (by assumption) ?_;rotate_left 1;(focus (intro wS hSw;(try dsimp only at hSw);go_simp<;>with_reducible rfl));try simp only[Act.put,O9,O6,O4])
    focus (refine Qp (i:=8) (v:=?_) rfl kr kr kr (fun _ _ _ h=>h) (Or.inl ⟨by rfl,?_⟩) (by assumption) ?_;rotate_left 1;(focus (intro wS hSw;(try dsimp only at hSw);go_simp<;>with_reducible rfl));try simp only[Act.put,O9,O6,O4])
    refine Qw (rs:=[9]) kr jS ?_;refine PI rfl (fun K hK=>?_) ?_
    focus (go_simp;have hx:wr.heap.size<=_:=I.1.size;refine py (K:=fun W=>K _ W) fun w6 Z q'=>?_;have yh:=jD q';clear q')
    refine hK.out _ _ (⟨ae I.1 Z,aa (ae I.1 Z) X0.out,aa (ae I.1 Z) X1.out,aa (ae I.1 Z) X2.out,aa (ae I.1 Z) X3.out,aa (ae I.1 Z) X4.out,aa (ae I.1 Z) C0.out,aa (ae I.1 Z) C1.out,aa (ae I.1 Z) C2.out⟩) (fun I=>?_);clear hK K
    try simp only[Act.put,O9,O6,O4]
    refine Qw (rs:=[10]) kr jS ?_;refine PI rfl (fun K hK=>?_) ?_
    focus (have z0:=(ab yh.out 0);have z1:=(ab yh.out 1);have z2:=(ab yh.out 2);have z3:=(ab yh.out 3);have z4:=(ab yh.out 4);simp only[Q5,QC]at z0 z1 z2 z3 z4;have f0:=af yh.out 0;have f1:=af yh.out 1;have f2:=af yh.out 2;have f3:=af yh.out 3;have f4:=af yh.out 4;have HX:=jD (cV yh.out (OB RA.kind) (OB RA.count) (OB RA.val.kind) (OB RA.val.num) (.string RA.val.text));have d':=jD (aj (aj (aj (aj (aj I.1 (i:=0) hx (OB RA.kind)) (i:=1) hx (OB RA.count)) (i:=2) hx (OB RA.val.kind)) (i:=3) hx (OB RA.val.num)) (i:=4) hx (.string RA.val.text));go_simp;clear z0 z1 z2 z3 z4 f0 f1 f2 f3 f4)
    refine hK.out _ _ (⟨d'.out,aa (d'.out) X0.out,aa (d'.out) X1.out,aa (d'.out) X2.out,aa (d'.out) X3.out,aa (d'.out) X4.out,aa (d'.out) C0.out,aa (d'.out) C1.out,aa (d'.out) C2.out⟩) (fun I=>?_);clear hK K
    try simp only[Act.put,O9,O6,O4]
    focus (refine Qp (i:=11) (v:=?_) rfl kr kr kr (fun _ _ _ h=>h) (Or.inl ⟨by rfl,?_⟩) (by assumption) ?_;rotate_left 1;(focus (intro wS hSw;(try dsimp only at hSw);go_simp<;>with_reducible rfl));try simp only[Act.put,O9,O6,O4])
    refine dn ?_;rotate_left 1;exact Qx;exact Qx;refine PI rfl (fun K hK=>?_) ?_
    focus (go_simp;have hx:wr.heap.size<=_:=I.1.size;refine py (K:=fun W=>K _ W) fun w6 Z q'=>?_;have yh:=jD q';clear q')
    refine hK.out _ _ (⟨ae I.1 Z,aa (ae I.1 Z) X0.out,aa (ae I.1 Z) X1.out,aa (ae I.1 Z) X2.out,aa (ae I.1 Z) X3.out,aa (ae I.1 Z) X4.out,aa (ae I.1 Z) C0.out,aa (ae I.1 Z) C1.out,aa (ae I.1 Z) C2.out⟩) (fun I=>?_);clear hK K
    try simp only[Act.put,O9,O6,O4]
    refine Qw (rs:=[5]) kr jS ?_;refine PI rfl (fun K hK=>?_) ?_
    focus (go_simp;go_at_call 329;refine (Y'.out _).mono ?_;rintro e w5 ⟨rfl,c'⟩;(try (have yb:=jD ((c'.block _ (aX yh.out)).trans yh.out);clear yh;have yh:=yb;clear yb)))
    refine hK.out _ _ (⟨ae I.1 c',aa (ae I.1 c') X0.out,aa (ae I.1 c') X1.out,aa (ae I.1 c') X2.out,aa (ae I.1 c') X3.out,aa (ae I.1 c') X4.out,aa (ae I.1 c') C0.out,aa (ae I.1 c') C1.out,aa (ae I.1 c') C2.out⟩) (fun I=>?_);clear hK K
    try simp only[Act.put,O9,O6,O4]
    focus (refine Qp (i:=6) (v:=?_) rfl kr kr kr (fun _ _ _ h=>h) (Or.inl ⟨by rfl,?_⟩) (by assumption) ?_;rotate_left 1;(focus (intro wS hSw;(try dsimp only at hSw);go_simp<;>with_reducible rfl));try simp only[Act.put,O9,O6,O4])
    focus (refine Qp (i:=7) (v:=?_) rfl kr kr kr (fun _ _ _ h=>h) (Or.inl ⟨by rfl,?_⟩) (by assumption) ?_;rotate_left 1;(focus (intro wS hSw;(try dsimp only at hSw);go_simp<;>with_reducible rfl));try simp only[Act.put,O9,O6,O4])
    focus (refine Qp (i:=8) (v:=?_) rfl kr kr kr (fun _ _ _ h=>h) (Or.inl ⟨by rfl,?_⟩) (by assumption) ?_;rotate_left 1;(focus (intro wS hSw;(try dsimp only at hSw);go_simp<;>with_reducible rfl));try simp only[Act.put,O9,O6,O4])
    refine Qw (rs:=[10]) kr jS ?_;refine PI rfl (fun K hK=>?_) ?_
    focus (have z0:=(ab yh.out 0);have z1:=(ab yh.out 1);have z2:=(ab yh.out 2);have z3:=(ab yh.out 3);have z4:=(ab yh.out 4);simp only[Q5,QC]at z0 z1 z2 z3 z4;have f0:=af yh.out 0;have f1:=af yh.out 1;have f2:=af yh.out 2;have f3:=af yh.out 3;have f4:=af yh.out 4;have HX:=jD (cV yh.out (OB RA.kind) (OB RA.count) (OB RA.val.kind) (OB RA.val.num) (.string RA.val.text));have d':=jD (aj (aj (aj (aj (aj I.1 (i:=0) hx (OB RA.kind)) (i:=1) hx (OB RA.count)) (i:=2) hx (OB RA.val.kind)) (i:=3) hx (OB RA.val.num)) (i:=4) hx (.string RA.val.text));go_simp;clear z0 z1 z2 z3 z4 f0 f1 f2 f3 f4)
    refine hK.out _ _ (⟨d'.out,aa (d'.out) X0.out,aa (d'.out) X1.out,aa (d'.out) X2.out,aa (d'.out) X3.out,aa (d'.out) X4.out,aa (d'.out) C0.out,aa (d'.out) C1.out,aa (d'.out) C2.out⟩) (fun I=>?_);clear hK K
    try simp only[Act.put,O9,O6,O4]
    focus (refine Qp (i:=11) (v:=?_) rfl kr kr kr (fun _ _ _ h=>h) (Or.inl ⟨by rfl,?_⟩) (by assumption) ?_;rotate_left 1;(focus (intro wS hSw;(try dsimp only at hSw);go_simp<;>with_reducible rfl));try simp only[Act.put,O9,O6,O4])
    refine dn ?_;rotate_left 1;exact Qx;exact Qx;exact Qx
    all_goals
     refine⟨rfl,?_⟩;unfold R9
     (repeat apply Exists.intro)
     refine⟨?_,?_⟩
     focus (simp only[Act.put,O9,O6,O4,List.getElem_toArray,List.getElem_cons_succ,List.getElem_cons_zero];rfl)
     exact jD ⟨hx,HX.out,I.1⟩
   ·unfold R9;rintro a' w' ⟨u',E1,V1,M1,u32,G1,F1,W1,T1,U1,rfl,H9⟩;simp only[Act.put,O9,O6,O4]
    by_cases hz:ea=0
    ·subst hz;have m':cC k y=0:=by
      have h:=H'.out;unfold mc at h
      split at h
      ·next h1=>exact absurd (congrArg Prod.snd h) h1
      ·next h1=>simpa using h1
     have J':fI k (l.take (j+1))=RA:=by
      have h:=H'.out;unfold mc at h;rw[OF (by simp[m'])]at h;injection h with h1 _;rw[lW i'.out,k',h1]
     have Z':=jD J';have T':=jD m';have g':=H9.out.2.1;have J:=(H9.out.2.2.block B8 H0).trans K0.out;have q0:w'.cell? ⟨u',0,none⟩=some (OB RA.kind):=by rw[ab g'];rfl
     have q1:w'.cell? ⟨u',1,none⟩=some (OB RA.count):=by rw[ab g'];rfl
     have q2:w'.cell? ⟨u',2,none⟩=some (OB RA.val.kind):=by rw[ab g'];rfl
     have q3:w'.cell? ⟨u',3,none⟩=some (OB RA.val.num):=by rw[ab g'];rfl
     have q4:w'.cell? ⟨u',4,none⟩=some (.string RA.val.text):=by rw[ab g'];rfl
     have z0:w'.cell? ⟨B8,0,none⟩=some (OB AJ.kind):=by rw[ab J];rfl
     have z1:w'.cell? ⟨B8,1,none⟩=some (OB AJ.count):=by rw[ab J];rfl
     have z2:w'.cell? ⟨B8,2,none⟩=some (OB AJ.val.kind):=by rw[ab J];rfl
     have z3:w'.cell? ⟨B8,3,none⟩=some (OB AJ.val.num):=by rw[ab J];rfl
     have z4:w'.cell? ⟨B8,4,none⟩=some (.string AJ.val.text):=by rw[ab J];rfl
     have f0:=af J 0;have f1:=af J 1;have f2:=af J 2;have f3:=af J 3;have f4:=af J 4;have S':=jD (cV J (OB RA.kind) (OB RA.count) (OB RA.val.kind) (OB RA.val.num) (.string RA.val.text));clear J' m' g' J hb k';go_wp2_with fail
     go_roundw
     case rel =>
      refine⟨j+1,by omega,by go_num,jD ⟨uZ i'.out hI.out.1 T'.out,?_,?_,?_⟩⟩
      ·rw[dz i'.out];intro z hz;rcases List.mem_append.1 hz with hz|hz
       ·exact hI.out.2.1 z hz
       ·simp at hz;subst hz;exact T'.out
      ·rw[Z'.out];exact S'.out
      ·have hB:=ae hI.out.2.2.2 H9.out.2.2;exact aj (aj (aj (aj (aj hB p' _) p' _) p' _) p' _) p' _
     case measure=>simp[intOf];omega
    ·have K1:(ea != 0)=true:=jQ hz;have m':cC k y=ea:=by
      have h:=H'.out;unfold mc at h
      split at h
      ·injection h
      ·injection h with _ h2;exact absurd h2.symm hz
     have hf:gw k l=ea:=(nN i'.out hI.out.1 m' hz).symm;obtain⟨e1,e2⟩:(⟨0,0,⟨#[]⟩⟩:Vl)=RV/\ea=re:=by have h:=Q'.out;rw[hf,OG hz]at h;injection h with h1 h2;exact⟨h1,h2⟩
     subst e1 e2;clear hz hf m' hb k';have J:=((ae hI.out.2.2.2 H9.out.2.2).block B6 (aX n'.out)).trans n'.out;have z0:w'.cell? ⟨B6,0,none⟩=some (OB 0):=by rw[ab J];rfl
     have z1:w'.cell? ⟨B6,1,none⟩=some (OB 0):=by rw[ab J];rfl
     have z2:w'.cell? ⟨B6,2,none⟩=some (.string ⟨#[]⟩):=by rw[ab J];rfl
     have f0:=af J 0;have f1:=af J 1;have f2:=af J 2;have HQ:=jD (bF J (OB 0) (OB 0) (.string ⟨#[]⟩));have l':=jD (aj (aj (aj (ae t'.out (ae hI.out.2.2.2 H9.out.2.2)) (i:=0) f' (OB 0)) (i:=1) f' (OB 0)) (i:=2) f' (.string ⟨#[]⟩));clear J;go_wp2_with fail;have r0:=ab HQ.out 0;have r1:=ab HQ.out 1;have r2:=ab HQ.out 2;exact OJ (v:=.tuple #[.agg #[OB 0,OB 0,.string ⟨#[]⟩],OB ea]) (by simp[results,results280,go_sem,r0,r1,r2]) rfl ⟨rfl,l'.out⟩
  ·have S0:¬(j:Int)<(l.length:Int):=by omega
   have hf:gw k l=0:=by
    have h:=hI.out.1;rw[QL om]at h
    simpa [eu] using h.symm
   have s':qB k l.length (fI k l) o=(RV,re):=by have h:=Q'.out;rwa [hf,OF jS]at h
   have A':=qg l none hf;have D':=kI j'.out A' l.length (OI _);have C':fI k l=AJ:=by rw[<-k',QK om]
   rw[Pp,C']at D';rw[C']at s';have y0:=aa hb Y0.out;have y1:=aa hb Y1.out;have y2:=aa hb Y2.out;have x':=jD (fun W=>zX k l.length AJ o W j'.out D' (by have:=B'.out;omega));rw[s']at x';unfold ei at x';unfold vlV at x';have H5:=jD hb;clear hf s' A' D' C' k' hb;go_wp2_with fail;refine (x'.out _).mono ?_;rintro e w6 ⟨rfl,Z⟩;have H6:=jD (ae H5.out Z);clear Z y0 y1 y2 x0 x1 x2 x3 x4;have J:=(H6.out.block B6 (aX n'.out)).trans n'.out;have z0:w6.cell? ⟨B6,0,none⟩=some (OB 0):=by rw[ab J];rfl
   have z1:w6.cell? ⟨B6,1,none⟩=some (OB 0):=by rw[ab J];rfl
   have z2:w6.cell? ⟨B6,2,none⟩=some (.string ⟨#[]⟩):=by rw[ab J];rfl
   have f0:=af J 0;have f1:=af J 1;have f2:=af J 2;have HQ:=jD (bF J (OB RV.kind) (OB RV.num) (.string RV.text));have l':=jD (aj (aj (aj (ae t'.out H6.out) (i:=0) f' (OB RV.kind)) (i:=1) f' (OB RV.num)) (i:=2) f' (.string RV.text));clear J;go_wp2_with fail;have r0:=ab HQ.out 0;have r1:=ab HQ.out 1;have r2:=ab HQ.out 2;exact OJ (v:=.tuple #[.agg #[OB RV.kind,OB RV.num,.string RV.text],OB re]) (by simp[results,results280,go_sem,r0,r1,r2]) rfl ⟨rfl,l'.out⟩
end Go.Proofs.YteemngnialjaiaaGreatDoor
