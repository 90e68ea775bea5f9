/- Part. -/
import Derived.Test.YteemngnialjaiaaGreatDoorQ14
import Derived.Lib.AppendZerosOnto
import Derived.TacticsIn
import Derived.RangeFuncIn
import Derived.RangeFuncLeaves
set_option maxRecDepth 100000
set_option maxHeartbeats 16000000
set_option linter.unusedVariables false
set_option linter.unusedSimpArgs false
namespace Go.Proofs.YteemngnialjaiaaGreatDoor
open Go.Proofs.Tryz Go.RowKit
variable {P:Program}{n0 i N g B:Nat}{M M':Mem}{w w':World}{S:List Rf}{a:Act}{o:Oper}{t:TypeId}{r:Result Next}{u v:Value}{e:Operand->Value}{kk:IntKind}{x:V}{ρ:Option Nat}{p:Prop}{f:FuncId}{R:Ending->World->Prop}{K:Act->World->Prop}{Q:Exit->Act->World->Prop}{I c':List (Nat×Ob)}{fn:Func}{xs:List V}{vs:List Value}{T:Array Value}{D:List Deferred}{l:List Fr}{ds:List Nat}{a' h:List Lp}{b:Bool}{c:Code}
section
def Md:V->Bool
 | .p (.at (.slice none 0 0))=>true
 | _=>false
def apM(P:Program)(σ:Sg)(t h:TypeId)(dst src:V):Option (V × Sg) :=
 match P.underlying t,P.underlying h,src.toVal with
 | some (.slice e),some (.int _),some (.int _ (.ofNat n))=>match P.info? e with
  | some i=>match i.zero with
   | some z=>if Md dst=true/\z.cells.size=i.size/\0<i.size/\0<n/\n<=9223372036854775807/\n<=maxLen/\n*i.bytes<=281474976710656/\Builtin.nextslicecap n 0*i.bytes<=281474976710656/\z.cells.all (·.oneCell')=true then
     some (.ref (nm σ),σ.new (nm σ) (.row e i.size (List.replicate n (.at z)) false)) else none
   | none=>none
  | none=>none
 | _,_,_=>none
def slR(P:Program)(σ:Sg)(t:TypeId)(x:V)(h I:Option Int):Option (V × Sg) :=
 match P.underlying t,x,h,I with
 | some (.slice e),.ref n,none,some (.ofNat m)=>match P.info? e,gt σ.obs n with
  | some i,some (.row e' k es false)=>if e'=e/\i.size=k/\m<=es.length/\m=0 then some (.ref (nm σ),(σ.rm n).new (nm σ) (.row e k (es.take m) false)) else none
  | _,_=>none
 | _,_,_,_=>none
section
variable {gl:Nat->Option (List Tr)}{σ σ':Sg}
theorem M4{t' ty:TypeId}{dst src r:V}(h:SR gl n0 M w σ S)(J:apM P σ t t' dst src=some (r,σ'))(hu:Rv M w dst u)(hv:Rv M w src v) :
  ∃M' w' q,(Builtin.append_ #[t,t'] ty #[u,v]).run P w=.ok q w'/\Below n0 w w'/\Ff n0 (nx σ.obs) (nx σ'.obs) M w M' w'/\SR gl n0 M' w' σ' S/\Rv M' w' r q:=by
 unfold apM at J
 split at J
 ·rename_i e ki kj n ht m' hs
  obtain rfl:=dJ hv hs
  split at J
  ·rename_i i hi
   split at J
   ·rename_i z hz
    split at J
    ·rename_i hc
     cases J
     obtain⟨c0,c1,c2,c3,c4,c5,c6,c7,c8⟩:=hc;have g':u=.slice none 0 0:=by
      unfold Md at c0
      split at c0
      ·cases hu with|p _ _ hu=>cases hu;rfl
      ·cases c0
     subst g';have Z:=Lib.run_append_grow_zeros (P:=P) w t t' ty e i z kj ki ht m' hi hz none 0 0 [] (run_firstCells_none (w:=w.drew) i.size 0 0 0) n c3 c2 om om c6 (by rw[Pd];exact c7);rw[Pd]at Z;have k':n<=grownCap w n 0 e:=grownCap_ge w n 0 e;have j':=So w n 0 e c5;generalize grownCap w n 0 e=G at Z k' j';have f':(Tr.at z).cells.length=i.size:=by rw[jb];simpa using c1
     have d':∀t∈List.replicate n (Tr.at z),t.cells.length=i.size:=fun t ht=>by rw[(List.mem_replicate.1 ht).2];exact f'
     have a':∀x∈z.cells.toList,x.oneCell'=true:=fun x J=>(Array.all_eq_true_iff_forall_mem.1 c8) x (jQ J)
     have h':(Builtin.zeroCells z.cells n).size=n*i.size:=by rw[size_zeroCells,c1]
     have l':(#[]++Builtin.zeroCells z.cells n++Builtin.zeroCells z.cells (G-n)).size=G*i.size:=by
      rw[Array.size_append,Array.size_append,size_zeroCells,size_zeroCells,c1,show (#[]:Array Value).size=0 from rfl,Pd,<-Q6];congr 1;omega
     obtain⟨M',m1,m2,m3,m4⟩:=ja (n:=nm σ) (N:=nm σ) (e:=e) (k:=i.size) (zs:=List.replicate n (.at z)) (row:=none) (v':=.slice (some ⟨w.heap.size,0,none⟩) n G) (xs:=(Builtin.zeroCells z.cells n).toList)
      (w':=w.drew.alloc (.cells (([]:List Value).toArray++Builtin.zeroCells z.cells n++Builtin.zeroCells z.cells (G-n)) e)) h (OI _) c2
      ⟨by simp[h'],.inr ⟨w.heap.size,G,_,by simp,h.size,Qd w.drew _,by simp;omega,j',l',by
       rw[List.length_replicate];simp[<-h']⟩⟩
      (have g:=World.grownBy_alloc w.drew (.cells (([]:List Value).toArray++Builtin.zeroCells z.cells n++Builtin.zeroCells z.cells (G-n)) e) none;⟨g.os,g.tape,g.output,g.size,g.block⟩) (fun g hg=>by cases hg) (fun g hg=>by cases hg;exact .inr rfl) d'
      (fun t ht=>by
       obtain⟨s,hs,i'⟩:=List.mem_flatMap.1 ht;rw[(List.mem_replicate.1 hs).2,jb]at i';obtain⟨y,hy,rfl⟩:=List.mem_map.1 i';exact a' y hy)
      (fun j t u ht hu=>by
       have hj:=(List.getElem?_eq_some_iff.1 ht).1;rw[gq d',List.length_replicate]at hj;rw[qt f' c2 _ _ hj,jb,OQ]at ht;have c':j%i.size<z.cells.size:=by rw[c1];exact Nat.mod_lt _ c2
       have I:(Builtin.zeroCells z.cells n)[j]?=some u:=jQ hu;unfold Builtin.zeroCells at I;rw[Array.getElem?_map,Array.getElem?_range]at I;rw[OG (by rw[c1];exact hj)]at I;simp only[PD,Qy]at I;rw[Qo,O5 c']at ht
       cases ht
       have e1:z.cells[j%z.cells.size]! = z.cells[j%i.size]:=by simp only[c1];exact getElem!_pos z.cells _ c'
       rw[e1]at I;exact I▸.at _)
     exact⟨M',_,_,Z,m1,m2,m3,m4⟩
    ·cases J
   ·cases J
  ·cases J
 ·cases J
theorem IT{e:TypeId}{i:TypeInfo}{n m:Nat}{es:List Tr}(h:SR gl n0 M w σ S)(I:P.underlying t=some (.slice e))(j':P.info? e=some i)(hn:gt σ.obs n=some (.row e i.size es false))(hle:m<=es.length)(hv:Rv M w (.ref n) v) :
  ∃M' q,(Instr.sliceAt t v none (some (.int kk (m:Int))) none).run P w=.ok q w/\Below n0 w w/\Ff n0 (nx σ.obs) (nx ((σ.rm n).new (nm σ) (.row e i.size (es.take m) false)).obs) M w M' w/\SR gl n0 M' w ((σ.rm n).new (nm σ) (.row e i.size (es.take m) false)) S/\Rv M' w (.ref (nm σ)) q:=by
 cases hv with
 | ref _ n' =>
  obtain⟨g1,g2,xs,g3,g4,g5,g6,g7⟩:=h.ob n _ hn;have m':∀(len cap:Nat),m<=len->len<=cap->(Instr.sliceBounds true len cap none (some (.int kk (m:Int))) none).run P w=.ok (0,m,cap) w:=fun len cap h1 h2=>by
   simp[Instr.sliceBounds,RM w kk (m:Int) cap _ om (by simp;omega)]
  have run:∀(A:Option Addr)(len cap:Nat),m<=len->len<=cap->(Instr.sliceAt t (.slice A len cap) none (some (.int kk (m:Int))) none).run P w =
    .ok (.slice (if cap=0 then A else A.map (·.add (0*i.size))) (m-0) (cap-0)) w:=fun A len cap h1 h2=>by
   simp[Instr.sliceAt,Instr.slice,Pu I,m' len cap h1 h2,cZ j']
  have i':∀t∈es.take m,t.cells.length=i.size:=fun t I=>g4 t (Ra I)
  have a':∀(j:Nat)(t:Tr),(aO (es.take m))[j]?=some t->(aO es)[j]?=some t:=fun j t I=>by
   rw[vG _ g4,Qt]at I
   split at I
   ·exact I
   ·cases I
  have key:∀v',(Instr.sliceAt t (M.h n) none (some (.int kk (m:Int))) none).run P w=.ok v' w->w.ownsRow n0 e i.size v' (es.take m).length (xs.take (m*i.size))->dj v'=dj (M.h n)->∃M' q,(Instr.sliceAt t (M.h n) none (some (.int kk (m:Int))) none).run P w=.ok q w/\Below n0 w w /\
    Ff n0 (nx σ.obs) (nx ((σ.rm n).new (nm σ) (.row e i.size (es.take m) false)).obs) M w M' w/\SR gl n0 M' w ((σ.rm n).new (nm σ) (.row e i.size (es.take m) false)) S/\Rv M' w (.ref (nm σ)) q:=by
   intro v' h' c' f';have d':∀g,dj (M.h n)=some g->g<w.heap.size/\n0<=g/\∃c e fz,w.heap[g]?=some (.cells c e fz):=fun g J=>by
    rcases g3.2 with ⟨e,-⟩|⟨g',cap,cur,e,hb,hh,-⟩
    ·rw[e]at J;cases J
    ·rw[e]at J;cases J;exact⟨(Array.getElem?_eq_some_iff.1 hh).1,hb,_,_,_,hh⟩
   obtain⟨M',m1,m2,m3,m4⟩:=ja (w':=w) (n:=nm σ) (N:=nm σ) (e:=e) (k:=i.size) (zs:=es.take m) (row:=dj (M.h n)) (v':=v') (xs:=xs.take (m*i.size)) (h.rm n) (OI _) g2 c'
    ⟨rfl,rfl,rfl,OI _,fun b hb p'=>rfl⟩
    (fun g J=>⟨by have:=g7 g J;rwa [OF jS]at this,(d' g J).2,fun m x hm hx e=>by
     have Z:gt (rm σ.obs n) m=some x:=hx;rw[yD]at Z
     split at Z
     ·cases Z
     ·rename_i l';exact h.apart m n x _ g (Pc l') Z hn e J⟩)
    (fun g J=>.inl ⟨by rw[<-f'];exact J.symm,(d' g (f'▸J)).1⟩)
    i' (fun t I=>by
     obtain⟨j,hj,e⟩:=QO I;exact g5 t (Pb (a' j t (by rw[<-e];exact OH hj))))
    (fun j t u I hu=>by
     rw[Qt]at hu
     split at hu
     ·exact g6 j t u (a' j t I) hu
     ·cases hu)
   exact⟨M',v',h',m1,m2,m3,m4⟩
  rcases g3.2 with ⟨hv,hz⟩|⟨g,cap,cur,hv,hb,hh,hcap,hmx,hs,htk⟩
  ·have k':m=0:=by omega
   subst k';have:=run none 0 0 (OI _) (OI _);rw[<-hv]at this;refine key _ this ⟨by simp,.inl ⟨?_,by simp⟩⟩ (by rw[hv];rfl);simp
  ·have:=run (some ⟨g,0,none⟩) es.length cap hle hcap;rw[<-hv]at this;have e0:(if cap=0 then some (⟨g,0,none⟩:Addr) else (some (⟨g,0,none⟩:Addr)).map (·.add (0*i.size)))=some ⟨g,0,none⟩:=by
    split
    ·rfl
    ·rw[P1];rfl
   rw[e0]at this;refine key _ this ⟨?_,.inr ⟨g,cap,cur,?_,hb,hh,?_,hmx,hs,?_⟩⟩ (by rw[hv];rfl)
   ·rw[PB,g3.1,PB];have:=Q1 i.size hle;rw[Nat.min_eq_left hle];omega
   ·rw[PB,Nat.min_eq_left hle];rfl
   ·rw[PB];omega
   ·rw[PB,Nat.min_eq_left hle,<-htk,List.take_take];congr 1;have:=Q1 i.size hle;omega
theorem Oh{r:V}{lo hi:Option Int}{Z J:Option Value}(h:SR gl n0 M w σ S)(I:slR P σ t x lo hi=some (r,σ'))(hv:Rv M w x v)(d':lo=none->Z=none)(c':∀l,hi=some l->∃k,J=some (.int k l)) :
  ∃M' q,(Instr.sliceAt t v Z J none).run P w=.ok q w/\Below n0 w w/\Ff n0 (nx σ.obs) (nx σ'.obs) M w M' w/\SR gl n0 M' w σ' S/\Rv M' w r q:=by
 unfold slR at I
 split at I
 ·rename_i e n m ht
  cases d' rfl
  split at I
  ·rename_i i e' k es a' hn
   split at I
   ·rename_i hc
    cases I
    obtain⟨rfl,rfl,hle,-⟩:=hc;obtain⟨kk,rfl⟩:=c' _ rfl;exact IT h ht a' hn hle hv
   ·cases I
  ·cases I
 ·cases I
end
end
section
def lw(P:Program)(gl:Nat->Option (List Tr))(o:Oper)(σ:Sg):Option (V × Sg) :=
 match o.op with
 | .alloc t=>((P.info? t).bind (·.zero)).map fun z=>gJ σ (zrV z)
 | .box _ x=>((evl gl σ x).bind V.cells).map (gJ σ)
 | .store t x y=>match evl gl σ x,evl gl σ y with
  | some x,some y=>match Cs P σ t x y with
   | some r=>some r
   | none=>(y.frz false σ).bind fun u=>Cs P (σ.fzs y.nms) t x (.p u)
  | _,_=>none
 | .buildSlice t len parts=>(mf gl σ (parts.toList.map (·.2))).bind fun vs=>match bsl P σ t len ((parts.toList.map (·.1)).zip vs) with|some r=>some r|none=>Nj P σ t len ((parts.toList.map (·.1)).zip vs)
 | .makeMap _ none=>some (xK σ)
 | .makeSlice t l c=>match evl gl σ l,evl gl σ c with|some l,some c=>mks P σ t l c|_,_=>none
 | .convert s d x=>match evl gl σ x with|some x=>(Lj P s d x).map fun y=>(y,σ)|none=>none
 | .mapUpdate t m k x=>match evl gl σ m,evl gl σ k,evl gl σ x with|some m,some k,some x=>mup P σ t m k x|_,_,_=>none
 | .insert t m k x=>match evl gl σ m,evl gl σ k,evl gl σ x with|some m,some k,some x=>mup P σ t m k x|_,_,_=>none
 | .lookup t x I ok=>match evl gl σ x,evl gl σ I with|some x,some I=>(lkp P σ t x I ok).map fun y=>(y,σ)|_,_=>none
 | .mapEntry t m k=>match evl gl σ m,evl gl σ k with|some m,some k=>men P σ t m k|_,_=>none
 | .entryStore _ m s x=>match evl gl σ m,evl gl σ s,evl gl σ x with|some m,some s,some x=>mst σ m s x|_,_,_=>none
 | .slice t x Z J none=>match evl gl σ x,evo gl σ Z,evo gl σ J with
  | some y,some l,some h=>match slR P σ t y l h with
   | some r=>some r
   | none=>((y.frz false σ).bind fun u=>slc P t u l h).map fun r=>(.p r,σ.fzs y.nms)
  | _,_,_=>none
 | .call c=>match c.callee,c.args.toList,c.argTypes.toList with
  | .builtin .append,[s,x],[t,t']=>if t=t' then match evl gl σ s,evl gl σ x with|some s,some x=>(match app P σ t s x with|some r=>some r|none=>NZ P σ t s x)|_,_=>none else match evl gl σ s,evl gl σ x with|some s,some x=>(match apS P σ t t' s x with|some r=>some r|none=>apM P σ t t' s x)|_,_=>none
  | _,_,_=>none
 | _=>none
def oJ(P:Program)(gl:Nat->Option (List Tr))(o:Oper)(σ:Sg):Option (V × Sg) :=
 match lw P gl o σ with
 | some r=>some r
 | none=>match eH P gl o σ with
  | some x=>some (x,σ)
  | none=>(iu P gl o σ).map fun x=>(x,σ)
section
variable {gl:Nat->Option (List Tr)}{σ σ':Sg}
theorem uaN(h:p:=by
  rw[ho]
  split at I
  ·rename_i mv kv yv hm hk hy
   obtain⟨M',w',h1,J,Z,h4,h5⟩:=Ic h I (aH h hm) (aH h hk) (aH h hy);exact⟨M',w',undef,.inr ⟨by simp[h1],rfl⟩,J,Z,h4,h5▸.p _ _ (.at _)⟩
  ·cases I):p:=h
theorem xg(I:lw P gl o σ=some (x,σ')):Goes P gl o σ x σ':=by
 intro n0 M w S a ρ h;unfold lw at I;unfold execOp
 split at I
 ·rename_i t ho
  rw[ho]
  cases hi:P.info? t with
  | none=>rw[hi]at I;cases I
  | some i =>
   rw[hi,OY]at I
   cases hz:i.zero with
   | none=>rw[hz]at I;cases I
   | some z =>
    rw[hz]at I;simp only[PD,Qy]at I;obtain⟨M',h1,J,Z,h4,-⟩:=nK h (qY z) t;rw[I]at J Z h4;exact⟨M',_,_,.inl (by simp[Instr.alloc,zeroValue,typeInfo,hi,hz,newVar,newRow]),h1,J,Z,h4⟩
 ·rename_i t y ho
  rw[ho]
  cases hy:evl gl σ y with
  | none=>rw[hy]at I;cases I
  | some yv =>
   rw[hy,OY]at I
   cases hc:yv.cells with
   | none=>rw[hc]at I;cases I
   | some cs =>
    rw[hc]at I;simp only[PD,Qy]at I;obtain⟨M',h1,J,Z,h4,-⟩:=nK h ((aH h hy).cells hc) t;rw[I]at J Z h4;exact⟨M',_,_,.inl (by simp[Instr.box,newVar,newRow]),h1,J,Z,h4⟩
 ·rename_i t y z ho
  rw[ho]
  split at I
  ·rename_i yv zv hy hz
   split at I
   ·rename_i r hr
    cases I
    obtain⟨w',h1,J,hf,Z,h4⟩:=yM h hr (aH h hy) (aH h hz);exact⟨M,w',undef,.inr ⟨by simp[h1],rfl⟩,J,hf,Z,h4▸.p _ _ (.at _)⟩
   ·cases f':zv.frz false σ with
    | none=>rw[f']at I;cases I
    | some u =>
     rw[f',OY]at I;obtain⟨F,f1,f2,f3,f4⟩:=h.frz (aH h hz) f';obtain⟨w',h1,J,hf,Z,h4⟩:=yM f3 I (Gm f1 (aH h hy)) (.p _ _ f4);exact⟨{ M with F:=F },w',undef,.inr ⟨by simp[h1],rfl⟩,J,f2.trans hf,Z,h4▸.p _ _ (.at _)⟩
  ·cases I
 ·rename_i t len parts ho
  rw[ho]
  cases hv:mf gl σ (parts.toList.map (·.2)) with
  | none=>rw[hv]at I;cases I
  | some vs =>
   rw[hv,OY]at I;have hr:=gE h hv;have hlen:vs.length=parts.toList.length:=by have:=hr.1;simpa using this.symm
   have c':(parts.toList.map fun x=>(x.1,a.eval x.2)).map (·.1)=((parts.toList.map (·.1)).zip vs).map (·.1):=by rw[PZ,List.map_fst_zip (by simp[hlen])];rfl
   have a':Rvs M w (((parts.toList.map (·.1)).zip vs).map (·.2)) ((parts.toList.map fun x=>(x.1,a.eval x.2)).map (·.2)):=by
    rw[List.map_snd_zip (by simp[hlen]),PZ];have:(fun x:Nat × Value=>x.2) ∘ (fun x:Nat × Operand=>(x.1,a.eval x.2))=a.eval ∘ (fun x=>x.2):=rfl;rw[this,<-PZ];exact hr
   obtain⟨M',w',u,h1,J,Z,h4,h5⟩:∃M' w' u,(Instr.buildSlice t len (parts.toList.map fun x=>(x.1,a.eval x.2)).toArray).run P w=.ok u w'/\Below n0 w w'/\Ff n0 (nx σ.obs) (nx σ'.obs) M w M' w'/\SR gl n0 M' w' σ' (rf a ρ::S)/\Rv M' w' x u:=by
    split at I
    ·rename_i r k';cases I;exact IJ h k' c' a'
    ·exact JS h I c' a'
   have he:(parts.toList.map fun x=>(x.1,a.eval x.2)).toArray=parts.map fun x=>(x.1,a.eval x.2):=by apply QZ;simp
   rw[he]at h1;exact⟨M',w',u,.inl (by simp[h1]),J,Z,h4,h5⟩
 ·rename_i t ho
  rw[ho];obtain⟨M',h1,J,Z,h4⟩:=FE h
  cases I
  exact⟨M',_,_,.inl (by simp[Instr.makeMap]),h1,J,Z,h4⟩
 ·rename_i t l c ho
  rw[ho]
  split at I
  ·rename_i lv cv hl hc
   obtain⟨M',w',q,h1,J,Z,h4,h5⟩:=MM h I (aH h hl) (aH h hc);exact⟨M',w',q,.inl (by simp[h1]),J,Z,h4,h5⟩
  ·cases I
 ·rename_i s d y ho
  rw[ho]
  split at I
  ·rename_i yv hy
   cases hb:Lj P s d yv with
   | none=>rw[hb]at I;cases I
   | some z =>
    rw[hb]at I;cases I;obtain⟨F,v,w',h1,J,Z,h4⟩:=JR h hb (aH h hy);exact⟨{ M with F:=F },w',v,.inl (by simp[h1]),J.mono h.size,.grow J Z h.size,h.grow J F Z,h4⟩
  ·cases I
 ·rename_i t m k y ho
  exact uaN
 ·rename_i t m k y ho
  exact uaN
 ·rename_i t y ix ok ho
  rw[ho]
  split at I
  ·rename_i yv iv hy hi
   cases hl:lkp P σ t yv iv ok with
   | none=>rw[hl]at I;cases I
   | some r =>
    rw[hl]at I;cases I;obtain⟨q,h1,J⟩:=Gj h hl (aH h hy) (aH h hi);exact⟨M,w,q,.inl (by simp[h1]),OK _ _,.refl _ _ _ _,h,J⟩
  ·cases I
 ·rename_i t m k ho
  rw[ho]
  split at I
  ·rename_i mv kv hm hk
   obtain⟨w',q,h1,J,hf,Z,h4⟩:=N0 h I (aH h hm) (aH h hk);exact⟨M,w',q,.inl (by simp[h1]),J,hf,Z,h4⟩
  ·cases I
 ·rename_i t m s y ho
  rw[ho]
  split at I
  ·rename_i mv sv yv hm hs hy
   obtain⟨w',h1,J,hf,Z,h4⟩:=Mx (P:=P) (t:=t) h I (aH h hm) (aH h hs) (aH h hy);exact⟨M,w',undef,.inr ⟨by simp[h1],rfl⟩,J,hf,Z,h4▸.p _ _ (.at _)⟩
  ·cases I
 ·rename_i t y lo hi ho
  rw[ho]
  split at I
  ·rename_i yv l hh hy hl g'
   split at I
   ·rename_i r hr
    cases I
    obtain⟨M',q,h1,J,Z,h4,h5⟩:=Oh h hr (aH h hy) (km h hl).2 (km h g').1;exact⟨M',w,q,.inl (by simp[h1]),J,Z,h4,h5⟩
   ·cases hf:yv.frz false σ with
    | none=>rw[hf]at I;cases I
    | some u =>
     rw[hf,OY]at I
     cases d':slc P t u l hh with
     | none=>rw[d']at I;cases I
     | some r =>
      rw[d']at I;cases I;obtain⟨F,f1,f2,f3,f4⟩:=h.frz (aH h hy) hf;obtain⟨q,h1,J⟩:=AT d' f4 (km h hl) (km h g');exact⟨{ M with F:=F },w,q,.inl (by simp[h1]),OK _ _,f2,f3,.p _ _ J⟩
  ·cases I
 ·rename_i c ho
  rw[ho];obtain⟨cl,h',i'⟩:=c;simp only[]at I
  split at I
  ·rename_i s y t t' e1 e2
   have l':h'=#[s,y]:=by rw[<-RK (xs:=h'),e1]
   have j':i'=#[t,t']:=by rw[<-RK (xs:=i'),e2]
   subst l' j'
   split at I
   ·rename_i e
    subst e
    split at I
    ·rename_i sv yv hs hy
     obtain⟨M',w',q,h1,J,Z,h4,h5⟩:∃M' w' q,(Builtin.append_ #[t,t] o.type #[a.eval s,a.eval y]).run P w=.ok q w'/\Below n0 w w'/\Ff n0 (nx σ.obs) (nx σ'.obs) M w M' w'/\SR gl n0 M' w' σ' (rf a ρ::S)/\Rv M' w' x q:=by
      split at I
      ·rename_i r hr;cases I;exact N1 h hr (aH h hs) (aH h hy)
      ·exact J2 h I (aH h hs) (aH h hy)
     exact⟨M',w',q,.inl (by simp[resolve,invoke,builtin,h1]),J,Z,h4,h5⟩
    ·cases I
   ·split at I
    ·rename_i sv yv hs hy
     obtain⟨M',w',q,h1,J,Z,h4,h5⟩:∃M' w' q,(Builtin.append_ #[t,t'] o.type #[a.eval s,a.eval y]).run P w=.ok q w'/\Below n0 w w'/\Ff n0 (nx σ.obs) (nx σ'.obs) M w M' w'/\SR gl n0 M' w' σ' (rf a ρ::S)/\Rv M' w' x q:=by
      split at I
      ·rename_i r hr;cases I;exact Of h hr (aH h hs) (aH h hy)
      ·exact M4 h I (aH h hs) (aH h hy)
     exact⟨M',w',q,.inl (by simp[resolve,invoke,builtin,h1]),J,Z,h4,h5⟩
    ·cases I
  ·cases I
 ·cases I
theorem iS(h:oJ P gl o σ=some (x,σ')):Goes P gl o σ x σ':=by
 unfold oJ at h
 split at h
 ·rename_i r hr;cases h;exact xg hr
 ·split at h
  ·rename_i y hy;cases h;exact (fF hy).goes
  ·cases hp:iu P gl o σ with
   | none=>rw[hp]at h;cases h
   | some y=>rw[hp]at h;cases h;exact (lO hp).goes
def Rnd(ρ:Option Nat):Fence:={ Fence.wide with round:=ρ }
theorem nO{n:Nat}{args:Array Value}:CallsIn (Rnd ρ) n P f args w R↔Calls P f args w R:=callsIn_wide
theorem kS(h:(execOp e o).run P w=r)(hr:∀d w',r≠.ok (.defer d) w')(hh:∀x w',r≠.halt x w'):(o.semAt ρ e).run P w=r:=by
 by_cases Z:∃c,o.op=.defer c
 ·obtain⟨c,J⟩:=Z
  exfalso
  unfold execOp at h;rw[J]at h;simp only[Pg]at h
  cases I:(resolve e c o.type).run P w with
  | ok d w'=>rw[I]at h;exact hr d w' h.symm
  | halt x w'=>rw[I]at h;exact hh x w' h.symm
 ·rw[Oper.semAt_eq ρ e o (fun c J=>Z ⟨c,J⟩)];exact h
theorem uaO(h:p:=by
  refine⟨fun _ _=>trivial,?_⟩;rw[kS h (fun d w' e=>by cases e) (fun x w' e=>by cases e)];exact hk):p:=h
theorem lQ{n:Nat}(h:(execOp a.eval o).run P w=.ok (.value u) w')(hk:K (a.put o.dst u) w'):o.wpIn (Rnd ρ) n P a w K Q:=by
 exact uaO
theorem BK{n:Nat}(h:(execOp a.eval o).run P w=.ok .skip w')(hk:K (a.put o.dst undef) w'):o.wpIn (Rnd ρ) n P a w K Q:=by
 exact uaO
theorem jq{args:Array Value}{n:Nat}(h:(execOp a.eval o).run P w=.ok (.enter f args) w')(hk:Calls P f args w' fun e I=>∃v,e=.returned v/\K (a.put o.dst v) I):o.wpIn (Rnd ρ) n P a w K Q:=by
 refine⟨fun _ _=>trivial,?_⟩;rw[kS h (fun d w' e=>by cases e) (fun x w' e=>by cases e)];refine⟨fun h=>(by cases h),nO.2 (hk.mono ?_)⟩;rintro e I ⟨v,rfl,J⟩;exact J
def QDoes(P:Program)(gl:Nat->Option (List Tr))(o:Oper)(σ:Sg)(x:V):Prop :=
 ∀(n0:Nat)(M:Mem)(w:World)(S:List Rf)(a:Act)(ρ:Option Nat),SR gl n0 M w σ (rf a ρ::S)->∀(K:Act->World->Prop)(Q:Exit->Act->World->Prop)(n:Nat),
  (∀F u w',OD w w'->(∀b,b<w.heap.size->F b=M.F b)->Rv { M with F:=F } w' x u->K (a.put o.dst u) w')->o.wpIn (Rnd ρ) n P a w K Q
def Does(P:Program)(gl:Nat->Option (List Tr))(o:Oper)(σ:Sg)(x:V)(σ':Sg):Prop :=
 ∀(n0:Nat)(M:Mem)(w:World)(S:List Rf)(a:Act)(ρ:Option Nat),SR gl n0 M w σ (rf a ρ::S)->∀(K:Act->World->Prop)(Q:Exit->Act->World->Prop)(n:Nat),
  (∀M' u w',Below n0 w w'->Ff n0 (nx σ.obs) (nx σ'.obs) M w M' w'->SR gl n0 M' w' σ' (rf a ρ::S)->Rv M' w' x u->K (a.put o.dst u) w')->o.wpIn (Rnd ρ) n P a w K Q
def DoesN(N:Nat)(P:Program)(gl:Nat->Option (List Tr))(o:Oper)(σ:Sg)(x:V)(σ':Sg):Prop :=
 ∀(n0:Nat)(M:Mem)(w:World)(S:List Rf)(a:Act)(ρ:Option Nat),N<=nx σ.obs->SR gl n0 M w σ (rf a ρ::S)->∀(K:Act->World->Prop)(Q:Exit->Act->World->Prop)(n:Nat),
  (∀M' u w',Below n0 w w'->Ff n0 N (nx σ'.obs) M w M' w'->SR gl n0 M' w' σ' (rf a ρ::S)->Rv M' w' x u->K (a.put o.dst u) w')->o.wpIn (Rnd ρ) n P a w K Q
theorem Ff.lower{I K:Nat}(h:Ff n0 N I M w M' w')(hk:K<=N):Ff n0 K I M w M' w':=⟨h.lo,h.kp,fun n J=>h.hk n (OT J hk),h.lm,OP hk h.nn⟩
theorem Does.n{N:Nat}{x:V}(h:Does P gl o σ x σ'):DoesN N P gl o σ x σ':=fun n0 M w S a ρ I hs K Q n hk=>h n0 M w S a ρ hs K Q n fun M' u w' a b c d=>hk M' u w' a (b.lower I) c d
theorem DoesN.does(h:DoesN (nx σ.obs) P gl o σ x σ'):Does P gl o σ x σ':=fun n0 M w S a ρ hs=>h n0 M w S a ρ (OI _) hs
theorem Quiet.qdoes(h:Quiet P gl o σ x):QDoes P gl o σ x:=fun n0 M w S a ρ hs K Q n hk=>by
 obtain⟨v,h1,I⟩:=h n0 M w S a ρ hs;exact lQ h1 (hk M.F v w (OK _ _) (fun _ _=>rfl) I)
theorem Goes.does(h:Goes P gl o σ x σ'):Does P gl o σ x σ':=fun n0 M w S a ρ hs K Q n hk=>by
 obtain⟨M',w',u,h1,I,h3,J,Z⟩:=h n0 M w S a ρ hs;rcases h1 with h1|⟨h1,rfl⟩
 ·exact lQ h1 (hk M' _ w' I h3 J Z)
 ·exact BK h1 (hk M' _ w' I h3 J Z)
theorem QDoes.does(h:QDoes P gl o σ x):Does P gl o σ x σ:=fun n0 M w S a ρ hs K Q n hk =>
 h n0 M w S a ρ hs K Q n fun F u w' I hF hr=>hk { M with F:=F } u w' (I.mono hs.size) (.grow I hF hs.size) (hs.grow I F hF) hr
def Le(σ σ':Sg):Prop:=(∀n x,gt σ.obs n=some x->gt σ'.obs n=some x)/\(∀(M:Mem)(w:World)(S:List Rf),Stk M w σ'.stk S->Stk M w σ.stk S)/\σ.lps=σ'.lps/\σ.stk.flatMap (·.ds)=σ'.stk.flatMap (·.ds)
theorem QDoes.mono(h:QDoes P gl o σ x)(I:Le σ σ'):QDoes P gl o σ' x:=fun n0 M w S a ρ hs=>h n0 M w S a ρ (hs.less I.1 (I.2.1 M w _ hs.stk) I.2.2.1 I.2.2.2)
def Sg.only(σ:Sg)(ts:List Nat):Sg:=⟨σ.obs,match σ.stk with|[]=>[]|f::l=>{ f with l:=f.l.filter fun x=>ts.contains x.1 }::l,σ.lps⟩
theorem gH{α:Type}(q:Nat->Bool):∀(l:List (Nat × α))(n:Nat),gt (l.filter fun x=>q x.1) n=if q n=true then gt l n else none
 | [],n=>by simp[gt]
 | x::l,n=>by
  have I:=gH q l n
  by_cases hq:q x.1=true
  ·rw[List.filter_cons_of_pos (jQ hq)];simp only[gt]
   by_cases h:x.1=n
   ·rw[OG h,OG (h▸hq),OG h]
   ·rw[OF h,I,OF h]
  ·rw[List.filter_cons_of_neg (jQ hq),I];simp only[gt]
   by_cases h:x.1=n
   ·rw[OF (h▸hq),OF (h▸hq)]
   ·rw[OF h]
theorem vE(ts:List Nat):Le (σ.only ts) σ:=by
 refine⟨fun n x h=>h,fun M w S h=>?_,rfl,by unfold Sg.only;cases σ.stk<;>rfl⟩;unfold Sg.only
 cases hs:σ.stk with
 | nil=>rw[hs]at h;exact h
 | cons f l =>
  rw[hs]at h
  cases S with
  | nil=>exact h.elim
  | cons T S =>
   refine⟨h.1.less rfl (fun s x I=>?_) rfl rfl,h.2⟩;rw[gH (fun t=>ts.contains t)]at I
   split at I
   ·exact I
   ·cases I
end
end
section
def Aft(gl:Nat->Option (List Tr))(n0 N:Nat)(M:Mem)(w:World)(S:List Rf)(ρ:Option Nat)(Q:Exit->Sg->Prop)(e:Exit)(h:Act)(w':World):Prop :=
 ∃M' σ',Below n0 w w'/\Ff n0 N (nx σ'.obs) M w M' w'/\SR gl n0 M' w' σ' (rf h ρ::S)/\Q e σ'
def AWN(P:Program)(gl:Nat->Option (List Tr))(N:Nat)(c:Code)(Q:Exit->Sg->Prop)(σ:Sg):Prop :=
 ∀(n0:Nat)(M:Mem)(w:World)(S:List Rf)(a:Act)(ρ:Option Nat)(n:Nat),N<=nx σ.obs->SR gl n0 M w σ (rf a ρ::S)->c.wpIn (Rnd ρ) n P (Aft gl n0 N M w S ρ Q) a w
def Rps(F:Nat->Nat)(w:World)(ts:List Tr)(vs:List Value):Prop:=vs.length=ts.length/\∀(i:Nat)(t:Tr)(v:Value),ts[i]?=some t->vs[i]?=some v->Rp F w t v
def PuC(P:Program)(gl:Nat->Option (List Tr))(f:FuncId)(ts:List Tr)(r:Tr):Prop :=
 ∀(F:Nat->Nat)(w:World)(vs:List Value),Rps F w ts vs->GOk gl F w ->
  Calls P f vs.toArray w fun e w'=>∃v h,e=.returned v/\OD w w'/\(∀b,b<w.heap.size->h b=F b)/\Rp h w' r v
def jo(P:Program)(σ:Sg):List ResultVar->Option (List V)
 | []=>some []
 | .tmp t::l=>match gtm σ.cur.l t,jo P σ l with|some x,some m=>some (x::m)|_,_=>none
 | .cell p t::l=>match ((gtm σ.cur.l p).bind (look σ)).bind (eQ P t),jo P σ l with|some x,some m=>some (x::m)|_,_=>none
def fD(P:Program)(σ:Sg)(fn:Func):Option V :=
 match jo P σ fn.results.toList with
 | some [x]=>some x
 | some l=>some (.mkTup l)
 | none=>none
def frame(fn:Func)(xs:List V):Fr:=⟨xs.length+(fn.ntmps-xs.length),(xs.zipIdx 0).map fun x=>(x.2,x.1),none,[]⟩
section
variable {gl:Nat->Option (List Tr)}{σ σ':Sg}
theorem AX:∀(xs:List V)(s t:Nat),gt ((xs.zipIdx s).map fun x=>(x.2,x.1)) t=if s<=t then xs[t-s]? else none
 | [],s,t=>by simp[gt]
 | x::xs,s,t=>by
  rw[List.zipIdx_cons,OU,gt,AX xs (s+1) t]
  by_cases h:s=t
  ·subst h;simp
  ·by_cases I:s<=t
   ·rw[OF h,OG om,OG I,show t-s=(t-(s+1))+1 by omega];simp
   ·rw[OF h,OF om,OF I]
theorem Gw(h:Rvs M w xs vs):FrOk M w (frame fn xs) ⟨vs.toArray++Array.replicate (fn.ntmps-vs.toArray.size) undef,[],none⟩:=by
 refine⟨⟨by simp[frame,h.1],fun t x Z=>?_⟩,rfl,fun i I=>(by cases I),rfl,fun i I=>(by cases I),fun i I=>(by cases I)⟩;simp only[frame]at Z;rw[AX,OG (OO _),Nat.sub_zero]at Z;obtain⟨v,h1,h2⟩:=h.get Z;refine⟨v,?_,h2⟩;have J:=(List.getElem?_eq_some_iff.1 h1).1;rw[Array.getElem?_append_left (jQ J)]
 simpa using h1
def rv1(T:Array Value):ResultVar->Sem Value
 | .tmp t=>pure (T.getD t undef)
 | .cell a t=>do loadVar t (<-asAddr (T.getD a undef))
theorem BN(fn:Func)(T:Array Value):results fn T=((fn.results.mapM (rv1 T)) >>= fun vs=>pure (if h:vs.size=1 then vs[0] else .tuple vs)):=by
 unfold results;congr 1
theorem vI{T:Array Value}{D:List Deferred}(h:SR gl n0 M w σ (⟨T,D,ρ⟩::S)):∀{l:List ResultVar}{m:List V},jo P σ l=some m->∃vs:List Value,(l.mapM (rv1 T)).run P w=.ok vs w/\Rvs M w m vs
 | [],m,hm=>by cases hm;exact⟨[],rfl,rfl,fun i t v h=>by simp at h⟩
 | .tmp t::l,m,hm=>by
  rw[jo]at hm
  split at hm
  ·rename_i x m' h1 I
   cases hm
   obtain⟨vs,g1,g2⟩:=vI h I;have:=aH (a:=⟨T,D⟩) (ρ:=ρ) (x:=.tmp t) h (y:=x) h1;refine⟨T.getD t undef::vs,by simp only[List.mapM_cons,rv1,Pg,P0,Py,g1],by simp[g2.1],fun i s u hs hu=>?_⟩
   cases i with
   | zero=>cases hs;cases hu;exact this
   | succ i=>exact g2.2 i s u (jQ hs) (jQ hu)
  ·cases hm
 | .cell p t::l,m,hm=>by
  rw[jo]at hm
  split at hm
  ·rename_i x m' h1 I
   cases hm
   obtain⟨vs,g1,g2⟩:=vI h I
   cases hp:gtm σ.cur.l p with
   | none=>rw[hp]at h1;cases h1
   | some y =>
    rw[hp,OY]at h1
    cases Z:look σ y with
    | none=>rw[Z]at h1;cases h1
    | some cs =>
     rw[Z,OY]at h1;have:=aH (a:=⟨T,D⟩) (ρ:=ρ) (x:=.tmp p) h (y:=y) hp;obtain⟨A,o',hv,hc⟩:=BU h this Z;obtain⟨v,k1,k2⟩:=oF (P:=P) hc h1;have J:T.getD p undef=.pointer (some ⟨A,o',none⟩):=hv;refine⟨v::vs,by simp only[List.mapM_cons,rv1,Pg,J,asAddr,P0,Py,k1,g1],by simp[g2.1],fun i s u hs hu=>?_⟩
     cases i with
     | zero=>cases hs;cases hu;exact k2
     | succ i=>exact g2.2 i s u (jQ hs) (jQ hu)
  ·cases hm
theorem Jd(h:SR gl n0 M w σ (⟨T,D,ρ⟩::S))(J:fD P σ fn=some x):∃v,(results fn T).run P w=.ok v w/\Rv M w x v:=by
 unfold fD at J;have key:∀{m:List V},jo P σ fn.results.toList=some m->∃vs:List Value,(results fn T).run P w=.ok (if h:vs.toArray.size=1 then vs.toArray[0] else .tuple vs.toArray) w/\Rvs M w m vs:=by
  intro m hm;obtain⟨vs,h1,I⟩:=vI h hm;refine⟨vs,?_,I⟩;rw[BN,Array.mapM_eq_mapM_toList];simp only[Pg,Sem.run_map,h1,Py,P0]
 split at J
 ·rename_i y hm
  cases J
  obtain⟨vs,h1,I⟩:=key hm;have hl:vs.length=1:=I.1
  match vs,hl with
  | [v],_=>exact⟨v,jQ h1,I.2 0 _ v rfl rfl⟩
 ·rename_i l Z hm
  cases J
  obtain⟨vs,h1,I⟩:=key hm;refine⟨.tuple vs.toArray,?_,Rv.mkTup I⟩;have:¬vs.toArray.size=1:=fun e=>by
   have e':l.length=1:=by rw[<-I.1];simpa using e
   match l,e' with
   | [y],_=>exact Z y rfl
  rw[dif_neg this]at h1;exact h1
 ·cases J
theorem ObOk.obj{n:Nat}{x:Ob}(h:ObOk n0 M w n x)(I:dj (M.h n)=some g):(∃c e Z,w.heap[g]?=some (.cells c e Z))\/∃es cl,w.heap[g]?=some (.map es cl):=by
 cases x with
 | box cs=>obtain⟨A,c,el,h1,h2,h3,h4,-⟩:=h;rw[h1]at I;cases I;exact .inl ⟨_,_,_,h4⟩
 | row e k es Z =>
  obtain⟨-,-,xs,h1,-⟩:=h;rcases h1.2 with ⟨J,-⟩|⟨g',cap,cur,J,hb,hh,-⟩
  ·rw[J]at I;cases I
  ·rw[J]at I;cases I;exact .inl ⟨_,_,_,hh⟩
 | map es cl=>obtain⟨r,a',h1,h2,h3,-⟩:=h;rw[h1]at I;cases I;exact .inr ⟨_,_,h3⟩
def isRec:Obj->Bool
 | .loop _=>true
 | .deferred _=>true
 | _=>false
theorem SR.rest(h:SR gl n0 M w σ S){o:Obj}(hB:w.heap[B]?=some o)(ho:isRec o=true)(hw:∀k,k≠B->w'.heap[k]?=w.heap[k]?) :
  Kept M.F w M.F w'/\(∀t v,Rv M w t v->Rv M w' t v)/\(∀n x,gt σ.obs n=some x->ObOk n0 M w' n x)/\GOk gl M.F w':=by
 have I:Kept M.F w M.F w':=fun b j u hj he=>by
  have J:b≠B:=fun e=>by subst e;unfold World.cell? at he;rw[hB]at he;cases o<;>first|(cases ho;done)|simp at he
  exact⟨by rw[Pf (a:=⟨b,j,none⟩) (hw b J)];exact he,hj⟩
 have hκ:∀t v,Rv M w t v->Rv M w' t v:=fun t v hv=>hv.kept I rfl rfl
 refine⟨I,hκ,fun n x hx=>?_,fun g cs Z=>(h.gls g cs Z).kept I⟩;have hid:x.mp id=x:=by cases x<;>simp[Ob.mp]
 have:=(h.ob n x hx).move (M':=M) (w':=w') (κ:=id) hκ I rfl rfl (fun g Z=>⟨hw g fun e=>(by
  subst e;rcases (h.ob n x hx).obj Z with ⟨c,e,fz,hh⟩|⟨es,cl,hh⟩<;>rw[hB]at hh<;>cases hh<;>cases ho),rfl⟩)
 rwa [hid]at this
theorem TmOk.rv{f:Fr}{t:Array Value}(h:TmOk M w f t)(Z:∀t v,Rv M w t v->Rv M' w' t v):TmOk M' w' f t:=⟨h.1,fun s x J=>let ⟨v,h1,I⟩:=h.2 s x J;⟨v,h1,Z x v I⟩⟩
theorem FrOk.rv{f:Fr}{t:Rf}(h:FrOk M w f t)(J:∀t v,Rv M w t v->Rv M w' t v)(hq:∀i,i∈f.ds->w'.heap[M.mq i]?=w.heap[M.mq i]?):FrOk M w' f t :=
 ⟨h.tm.rv J,h.rd,h.rl,h.ds,h.dl,fun i I=>by rw[hq i I];exact h.dm i I⟩
theorem Stk.rv(I:∀t v,Rv M w t v->Rv M w' t v):∀{l:List Fr}{S:List Rf},(∀f∈l,∀i∈f.ds,w'.heap[M.mq i]?=w.heap[M.mq i]?)->Stk M w l S->Stk M w' l S
 | [],[],_,_=>trivial
 | f::l,_::_,hq,h=>⟨h.1.rv I (hq f jS),Stk.rv I (fun f hf=>hq f (by simp[hf])) h.2⟩
 | [],_::_,_,h=>h.elim
 | _::_,[],_,h=>h.elim
theorem SR.take{f:Fr}(h:SR gl n0 M w ⟨c',{ f with ds:=i::ds }::l,a'⟩ (⟨T,D,ρ⟩::S)) :
  ∃D' w',D=mkD M i::D'/\(Instr.takeDeferred (M.mq i)).run P w=.ok [] w'/\Below n0 w w'/\Kept M.F w M.F w'/\SR gl n0 M w' ⟨c',{ f with ds:=ds }::l,a'⟩ (⟨T,D',ρ⟩::S):=by
 have hf:=h.stk.1;have hD:D=(i::ds).map (mkD M):=hf.ds;have hi:i<M.nl:=hf.dl i jS;have hm:w.heap[M.mq i]?=some (.deferred (some [])):=hf.dm i jS;have d':=(Array.getElem?_eq_some_iff.1 hm).1;obtain⟨w',I⟩:∃w',w'=({ w with heap:=w.heap.setIfInBounds (M.mq i) (.deferred none) }:World):=⟨_,rfl⟩;have J:∀k,k≠M.mq i->w'.heap[k]?=w.heap[k]?:=fun k hk=>by rw[I];exact R6 (Pc hk)
 have f':w'.heap[M.mq i]?=some (.deferred none):=by rw[I];simp[d']
 have l':n0<=M.mq i:=by
  have g':i<a'.length:=by rw[h.nl];exact hi
  obtain⟨_,_,_,_,_,h2,_⟩:=h.lps i _ (OH g');exact h2
 obtain⟨kp,hκ,h',k'⟩:=h.rest (w':=w') hm rfl J;have Z:=h.nd;simp only[O8,Rq,OU,RN,List.mem_map,Qg,not_exists,not_and]at Z;refine⟨ds.map (mkD M),w',hD,by rw[I];simp[Instr.takeDeferred,getObj,setObj,Sem.run,hm],?_,kp,?_⟩
 ·rw[I];exact⟨rfl,rfl,rfl,by simp,fun k hk=>by rw[<-J k om,I]⟩
 ·refine⟨by rw[I];simpa using h.size,h',h.apart,⟨⟨hf.tm.rv hκ,hf.rd,hf.rl,rfl,fun j hj=>hf.dl j (by simp[hj]),fun j hj=>?_⟩,h.stk.2.rv hκ fun g hg j hj=>J _ fun e=>?_⟩,k',h.nl,fun j lp hj=>?_,?_,h.sep⟩
  ·rw[J _ fun e=>Z.1 j (.inl hj) e];exact hf.dm j (by simp[hj])
  ·exact Z.1 j (.inr (List.mem_flatMap.2 ⟨g,hg,hj⟩)) e
  ·have j':j<M.nl:=by rw[<-h.nl];exact (List.getElem?_eq_some_iff.1 hj).1
   obtain⟨fid,T',k1,⟨i',k2⟩,k3,k4,k5⟩:=h.lps j lp hj;refine⟨fid,T',by rw[J _ (h.sep j i j' hi).1];exact k1,?_,k3,k4,k5.1.rv hκ,k5.2⟩
   by_cases e:M.mq j=M.mq i
   ·exact⟨none,by rw[e];exact f'⟩
   ·exact⟨i',by rw[J _ e];exact k2⟩
  ·simp only[O8,Pq]at Z ⊢;exact Z.2
theorem vi{I:List (Nat×Ob)}{h:List Lp}{l:List Fr}{f:Fr}{a b:List Nat}:∀(L:List ResultVar),jo P ⟨I,{ f with ds:=a }::l,h⟩ L=jo P ⟨I,{ f with ds:=b }::l,h⟩ L
 | []=>rfl
 | .tmp t::L=>by rw[jo,jo,vi L];rfl
 | .cell p t::L=>by
  rw[jo,jo,vi L];have:look (⟨I,{ f with ds:=a }::l,h⟩:Sg)=look (⟨I,{ f with ds:=b }::l,h⟩:Sg):=by funext v;cases v<;>rfl
  rw[this];rfl
theorem JG{f:Fr}{a b:List Nat}:fD P ⟨I,{ f with ds:=a }::l,h⟩ fn=fD P ⟨I,{ f with ds:=b }::l,h⟩ fn:=by
 unfold fD;rw[vi]
theorem tH{fn:Func}{x:V}{R:Ending->World->Prop}{n:Nat}{J:List (Nat×Ob)}{I:List Lp}{l:List Fr}{T:Array Value}{F1:Nat->Nat}{w1:World}:∀{ds:List Nat}{f:Fr}{D:List Deferred}{w0 w:World},
  SR gl n0 M w ⟨J,{ f with ds:=ds }::l,I⟩ (⟨T,D,ρ⟩::S)->Below n0 w0 w->fD P ⟨J,{ f with ds:=ds }::l,I⟩ fn=some x ->
  Kept F1 w1 M.F w->(∀w' v,Below n0 w0 w'->Kept F1 w1 M.F w'->SR gl n0 M w' ⟨J,l,I⟩ S->Rv M w' x v->R (.returned v) w')->LeavesInM (Rnd none) n P fn T R D .returning w
 | [],f,D,w0,w,h,hb,hx,hk,hR=>by
  have hD:D=[]:=h.stk.1.ds;subst hD;obtain⟨v,r1,r2⟩:=Jd (P:=P) h hx;refine⟨v,r1,hR w v hb hk ⟨h.size,h.ob,h.apart,h.stk.2,h.gls,h.nl,h.lps,?_,h.sep⟩ r2⟩;have:=h.nd
  simpa using this
 | i::ds,f,D,w0,w,h,hb,hx,hk,hR=>by
  obtain⟨D',w',rfl,h1,h2,Z,h3⟩:=h.take (P:=P);exact⟨by simp,.inl ⟨M.mq i,w',rfl,h1,tH (ds:=ds) (f:=f) h3 (hb.trans h2) (by rw[<-hx];exact JG) (hk.trans Z) hR⟩⟩
theorem qi(hf:P.funcs[f]?=some fn)(hb:fn.body=some c)(h:SR gl n0 M w σ S)(hv:Rvs M w xs vs){Q:V->Sg->Prop}(hN:N<=nx σ.obs)(hw:AWN P gl N c (fun e σ'=>(e=.normal\/e=.ret)/\∃x,fD P σ' fn=some x/\Q x ⟨σ'.obs,σ'.stk.tail,σ'.lps⟩) ⟨σ.obs,frame fn xs::σ.stk,σ.lps⟩) :
  Calls P f vs.toArray w fun e w'=>∃v M' x σ',e=.returned v/\Below n0 w w'/\Ff n0 N (nx σ'.obs) M w M' w'/\SR gl n0 M' w' σ' S/\Rv M' w' x v/\Q x σ':=by
 refine (nO (ρ:=none) (n:=0)).1 (callsIn_of_wp_marks hf hb trivial ?_);have hs:SR gl n0 M w ⟨σ.obs,frame fn xs::σ.stk,σ.lps⟩ (rf ⟨vs.toArray++Array.replicate (fn.ntmps-vs.toArray.size) undef,[]⟩ none::S) :=
  ⟨h.size,h.ob,h.apart,⟨Gw hv,h.stk⟩,h.gls,h.nl,h.lps,by simpa [frame] using h.nd,h.sep⟩
 refine Qv (hw n0 M w S ⟨_,[]⟩ none 0 hN hs) fun e a' w' hq=>?_
 obtain⟨M',σ',q2,q3,q4,q5,x,q6,q7⟩:=hq;have key:LeavesInM (Rnd none) 0 P fn a'.tmps (fun e w'=>∃v M' x σ',e=.returned v/\Below n0 w w'/\Ff n0 N (nx σ'.obs) M w M' w'/\SR gl n0 M' w' σ' S/\Rv M' w' x v/\Q x σ') a'.defers .returning w':=by
  obtain⟨Z,f',J⟩:=σ'
  cases f' with
  | nil=>exact q4.stk.elim
  | cons g l =>
   refine tH (ds:=g.ds) (f:=g) (l:=l) q4 q2 q6 (Kept.refl _ _) fun h' v g' d' I c'=>?_
   exact⟨v,M',x,⟨Z,l,J⟩,rfl,g',q3.trans (.same d'),I,c',q7⟩
 rcases q5 with rfl|rfl<;>exact key
theorem LW(hf:P.funcs[f]?=some fn)(J:fn.body=some c){ts:List Tr}{r:Tr}(hw:AWN P gl 0 c (fun e σ'=>(e=.normal\/e=.ret)/\∃x,fD P σ' fn=some x/\x.frz false ⟨σ'.obs,σ'.stk.tail,σ'.lps⟩=some r) ⟨[],[frame fn (ts.map .p)],[]⟩):PuC P gl f ts r:=by
 intro F w vs hr hg
 let M:Mem:=⟨F,fun _=>undef,fun _=>0,fun _=>0,fun _=>0,0⟩
 have hs:SR gl w.heap.size M w ⟨[],[],[]⟩ []:=⟨OI _,fun n x h=>(by cases h),fun m n x y g _ h=>(by cases h),trivial,hg,rfl,fun i lp h=>by simp at h,by simp,fun i j h=>by cases h⟩;have hv:Rvs M w (ts.map .p) vs:=⟨jQ hr.1,fun i t v I hv=>by
  rw[OQ]at I
  cases Z:ts[i]? with
  | none=>rw[Z]at I;cases I
  | some s=>rw[Z]at I;cases I;exact .p _ _ (hr.2 i s v Z hv)⟩
 refine (qi hf J hs hv (Q:=fun x σ'=>x.frz false σ'=some r) (OO _) hw).mono ?_;rintro e w' ⟨v,M',x,σ',rfl,h1,h2,h3,h4,h5⟩;obtain⟨F',f1,f2,f3,f4⟩:=h3.frz h4 h5;exact⟨v,F',rfl,h1,fun b J=>(f2.lo b J).trans (h2.lo b J),f4⟩
end
end
section
def kL:V->Option (FuncId × List V × List V)
 | .p (.fn (.func f) a b)=>some (f,a.map .p,b.map .p)
 | .p (.at (.func (.func f) a b))=>some (f,a.toList.map fun v=>.p (.at v),b.toList.map fun v=>.p (.at v))
 | .fn (.func f) a b=>some (f,a,b)
 | _=>none
def wC(P:Program)(f:FuncId):Bool:=match P.funcs[f]? with|some fn=>!(fn.name == "runtime.NumGoroutine")&&!fn.body.isNone|none=>false
mutual
def Tr.scal:Tr->Bool
 | .at _=>true
 | .agg cs=>Tr.scals cs
 | .tup cs=>Tr.scals cs
 | _=>false
def Tr.scals:List Tr->Bool
 | []=>true
 | t::l=>Tr.scal t&&Tr.scals l
end
theorem Tr.scals_get{l:List Tr}(h:Tr.scals l=true){t:Tr}(I:l[i]?=some t):t.scal=true:=by
 induction l generalizing i with
 | nil=>simp at I
 | cons x l J =>
  rw[Tr.scals,ON]at h
  cases i with
  | zero=>simp at I;exact I▸h.1
  | succ i=>exact J h.2 (jQ I)
def fA(P:Program)(gl:Nat->Option (List Tr))(σ:Sg)(o:Oper):Option (FuncId × List V) :=
 match o.op with
 | .call c=>match c.callee with
  | .value f=>match (evl gl σ f).bind kL,mf gl σ c.args.toList with
   | some (f,a,b),some xs=>if wC P f then some (f,a++xs++b) else none
   | _,_=>none
  | _=>none
 | _=>none
section
variable {gl:Nat->Option (List Tr)}{σ σ':Sg}
theorem Rp.scal{F F':Nat->Nat}{t:Tr}(h:Rp F w t v):t.scal=true->Rp F' w' t v:=by
 induction h with
 | «at» v=>exact fun _=>.at v
 | agg cs vs Z h ih=>exact fun hs=>.agg cs vs Z fun i t v I J=>ih i t v I J (Tr.scals_get (by rwa [Tr.scal]at hs) I)
 | tup cs vs Z h ih=>exact fun hs=>.tup cs vs Z fun i t v I J=>ih i t v I J (Tr.scals_get (by rwa [Tr.scal]at hs) I)
 | _=>intro hs;simp[Tr.scal]at hs
theorem mj(h:wC P f=true)(args:Array Value):(callFunc f args).run P w=.ok (.enter f args) w:=by
 unfold wC at h
 split at h
 ·rename_i fn hf
  simp only[ON,Pj]at h;have h1:¬fn.name = "runtime.NumGoroutine":=fun e=>by have:=h.1;rw[e]at this;simp at this
  have I:¬fn.body=none:=fun e=>by have:=h.2;rw[e]at this;simp at this
  simp[callFunc,hf,h1,I]
 ·cases h
theorem sJ{v:V}{ca cb:List V}(c':Rv M w v u)(h:kL v=some (f,ca,cb)):∃va vb:List Value,u=.func (.func f) va.toArray vb.toArray/\Rvs M w ca va/\Rvs M w cb vb:=by
 have pl:∀{cs:List Tr}{vs:Array Value},vs.size=cs.length->(∀(i:Nat)(t:Tr)(v:Value),cs[i]?=some t->vs[i]?=some v->Rp M.F w t v)->Rvs M w (cs.map .p) vs.toList:=fun {cs vs} hl hr =>
  ⟨by simp[hl],fun i t v I Z=>by
   rw[OQ]at I
   cases hi:cs[i]? with
   | none=>rw[hi]at I;cases I
   | some s=>rw[hi]at I;cases I;exact .p _ _ (hr i s v hi (jQ Z))⟩
 cases c' with
 | p _ _ h1 =>
  cases h1 with
  | «at» u =>
   unfold kL at h
   split at h
   ·rename_i e;cases e
   ·rename_i f' a b e
    cases e
    cases h
    have q:∀a:Array Value,Rvs M w (a.toList.map fun v=>.p (.at v)) a.toList:=fun a=>⟨by simp,fun i t v I Z=>by
     rw[OQ,Z]at I;cases I;exact .p _ _ (.at _)⟩
    exact⟨a.toList,b.toList,by simp,q a,q b⟩
   ·rename_i e;cases e
   ·cases h
  | fn g x y va vb J a' ha hb =>
   cases g<;>simp only[kL,Qy,Prod.mk.injEq]at h<;>first|cases h;done|skip
   obtain⟨rfl,rfl,rfl⟩:=h;exact⟨va.toList,vb.toList,by simp,pl J ha,pl a' hb⟩
  | _=>cases h
 | fn g x y va vb J a' ha hb =>
  cases g<;>simp only[kL,Qy,Prod.mk.injEq]at h<;>first|cases h;done|skip
  obtain⟨rfl,rfl,rfl⟩:=h;exact⟨va.toList,vb.toList,by simp,⟨jQ J,fun i t v I Z=>ha i t v I (jQ Z)⟩,⟨jQ a',fun i t v I Z=>hb i t v I (jQ Z)⟩⟩
 | _=>cases h
theorem kO(J:fA P gl σ o=some (f,xs))(h:SR gl n0 M w σ (rf a ρ::S)):∃vs:List Value,(execOp a.eval o).run P w=.ok (.enter f vs.toArray) w/\Rvs M w xs vs:=by
 unfold fA at J;unfold execOp
 split at J
 ·rename_i c ho
  rw[ho]
  split at J
  ·rename_i q hq
   split at J
   ·rename_i f' ca cb ys I d'
    split at J
    ·rename_i g'
     cases J
     cases he:evl gl σ q with
     | none=>rw[he]at I;cases I
     | some cv =>
      rw[he,OY]at I;have h':=aH h he;have a':=gE h d';have c':=sJ h' I;obtain⟨va,vb,e1,e2,e3⟩:=c';refine⟨va++c.args.toList.map a.eval++vb,?_,(e2.append a').append e3⟩;have Z:(va.toArray++c.args.map a.eval++vb.toArray)=(va++c.args.toList.map a.eval++vb).toArray:=by apply QZ;simp
      simp only[resolve,hq,Deferred.ofValue,e1,Pg,P0,Py,invoke];rw[Z];exact mj g' _
    ·cases J
   ·cases J
  ·cases J
 ·cases J
theorem xQ(σ:Sg):∃L,∀n ob,gt σ.obs n=some ob->ob.sz<=L:=by
 have:∀l:List (Nat × Ob),∃L,∀n ob,gt l n=some ob->ob.sz<=L:=by
  intro l
  induction l with
  | nil=>exact⟨0,fun n ob h=>by cases h⟩
  | cons x l I =>
   obtain⟨L,hL⟩:=I;refine⟨L+x.2.sz,fun n ob h=>?_⟩;rw[gt]at h
   split at h
   ·cases h;omega
   ·have:=hL n ob h;omega
 exact this σ.obs
theorem zj{ts:List Tr}(h:V.frzs b σ xs=some ts):V.frz b σ (.agg xs)=some (.agg ts):=by rw[V.frz,h];rfl
theorem nL{ts:List Tr}{r:Tr}(hc:fA P gl σ o=some (f,xs))(hf:V.frzs true σ xs=some ts)(a':PuC P gl f ts r)(hs:r.scal=true):QDoes P gl o σ (.p r):=by
 intro n0 M w S a ρ h K Q n hk;obtain⟨vs,h1,h2⟩:=kO hc h;obtain⟨L,hL⟩:=xQ σ;have J:Rv M w (.agg xs) (.agg vs.toArray):=.agg _ _ (jQ h2.1) (fun i t v ht I=>h2.2 i t v ht (jQ I));have hF:∀b,M.F b<=M.F b+L:=fun b=>Nat.le_add_right _ _
 have Z:=vK h hF J (zj hf) (fun n ob g _ hg _=>OP (hL n ob hg) (Nat.le_add_left _ _))
 cases Z with
 | agg _ _ hl hr =>
  refine jq h1 ?_;refine (a' (fun b=>M.F b+L) w vs ⟨jQ hl,fun i t v ht I=>hr i t v ht (jQ I)⟩ (fun g cs hg=>(h.gls g cs hg).kept fun b n u hn e=>⟨e,OT hn (hF b)⟩)).mono ?_;rintro e w' ⟨v,F',rfl,hb,c',I⟩;exact⟨v,rfl,hk M.F v w' hb (fun _ _=>rfl) (.p _ _ (I.scal hs))⟩
theorem nM{ts:List Tr}{r:Tr}(hc:fA P gl σ o=some (f,ts.map .p))(J:PuC P gl f ts r):QDoes P gl o σ (.p r):=by
 intro n0 M w S a ρ h K Q n hk;obtain⟨vs,h1,Z⟩:=kO hc h;obtain⟨h3,h4⟩:=sX Z;refine jq h1 ((J M.F w vs ⟨h3,h4⟩ h.gls).mono ?_);rintro e w' ⟨v,F',rfl,hb,I,hv⟩;exact⟨v,rfl,hk F' v w' hb I (.p _ _ hv)⟩
theorem yG{ts:List Tr}{r:Tr}(hc:fA P gl σ o=some (f,xs))(hf:V.frzs false σ xs=some ts)(a':PuC P gl f ts r):Does P gl o σ (.p r) (σ.fzs (V.nmss xs)):=by
 intro n0 M w S a ρ h K Q n hk;obtain⟨vs,h1,h2⟩:=kO hc h;have Z:Rv M w (.agg xs) (.agg vs.toArray):=.agg _ _ (jQ h2.1) (fun i t v ht J=>h2.2 i t v ht (jQ J));obtain⟨F,f1,f2,f3,f4⟩:=h.frz Z (zj hf);rw[V.nms]at f2 f3
 cases f4 with
 | agg _ _ hl hr =>
  refine jq h1 ?_;refine (a' F w vs ⟨jQ hl,fun i t v ht J=>hr i t v ht (jQ J)⟩ f3.gls).mono ?_;rintro e w' ⟨v,F',rfl,hb,I,J⟩;exact⟨v,rfl,hk { M with F:=F' } v w' (hb.mono f3.size) (f2.trans (.grow hb I f3.size)) (f3.grow hb F' I) (.p _ _ J)⟩
theorem nX(hc:fA P gl σ o=some (f,xs))(hf:P.funcs[f]?=some fn)(hb:fn.body=some c)(hw:AWN P gl N c (fun e τ=>(e=.normal\/e=.ret)/\fD P τ fn=some x/\σ'=⟨τ.obs,τ.stk.tail,τ.lps⟩) ⟨σ.obs,frame fn xs::σ.stk,σ.lps⟩):DoesN N P gl o σ x σ':=by
 intro n0 M w S a ρ I h K Q n hk;obtain⟨vs,h1,J⟩:=kO hc h;refine jq h1 ?_;refine (qi hf hb h J I (Q:=fun y τ=>y=x/\σ'=τ) ?_).mono ?_
 ·refine fun n0 M w S a ρ n I hs=>Qv (hw n0 M w S a ρ n I hs) ?_
  rintro e a' w' ⟨M',τ,q2,q3,q4,q5,q6,Z⟩;exact⟨M',τ,q2,q3,q4,q5,x,q6,rfl,Z⟩
 ·rintro e w' ⟨v,M',y,τ,rfl,h3,h4,h5,h6,rfl,rfl⟩;exact⟨v,rfl,hk M' v w' h3 h4 h5 h6⟩
end
end
end Go.Proofs.YteemngnialjaiaaGreatDoor
