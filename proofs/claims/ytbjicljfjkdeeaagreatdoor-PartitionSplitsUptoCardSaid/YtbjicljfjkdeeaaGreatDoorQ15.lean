/- Part. -/
import Derived.Test.YtbjicljfjkdeeaaGreatDoorQ14
set_option maxRecDepth 100000
set_option maxHeartbeats 16000000
set_option linter.unusedVariables false
set_option linter.unusedSimpArgs false
namespace Go.Proofs.YtbjicljfjkdeeaaGreatDoor
open Go.Proofs.Tryz Go.RowKit
section
def wW:Tr->Option (List Tr)
 | .lst _ es=>some es
 | .at (.slice none 0 0)=>some []
 | _=>none
def bsl (P:Program) (σ:Sg) (t:TypeId) (len:Nat) (parts:List (Nat × V)):Option (V × Sg) :=
 match P.underlying t with
 | some (.slice e)=>match P.info? e,V.frzs false σ (parts.map (·.2)) with
  | some ie,some ts=>if parts.length=len/\uO 0 parts=true/\0<ie.size/\ie.zero.isSome=true/\len*ie.size<=2^24/\(ts.all fun t=>t.cells.length==ie.size&&t.cells.all Tr.cell)=true then
    some (.p (.lst true ts),σ.fzs (V.nmss (parts.map (·.2)))) else none
  | _,_=>none
 | _=>none
def vi:List V->Option (List V)
 | []=>some []
 | v::l=>match V.cells v,vi l with|some c,some m=>some (c++m)|_,_=>none
def Lt (P:Program) (σ:Sg) (t:TypeId) (len:Nat) (parts:List (Nat × V)):Option (V × Sg) :=
 match P.underlying t with
 | some (.slice e)=>match P.info? e,vi (parts.map (·.2)) with
  | some ie,some cs=>if parts.length=len/\uO 0 parts=true/\0<ie.size/\ie.zero.isSome=true/\0<len/\len*ie.size<=2^24/\(parts.all fun x=>(x.2.cells.map (·.length))==some ie.size)=true then
    some (.arr (nm σ) ie.size len true,(gx σ cs).2) else none
  | _,_=>none
 | _=>none
def LZ (P:Program) (σ:Sg) (t:TypeId) (dst src:V):Option (V × Sg) :=
 match P.underlying t,dst,src with
 | some (.slice e),.arr n k len true,.arr n' k' len' _=>match P.info? e,gt σ.obs n,gt σ.obs n' with
  | some i,some (.box cs),some (.box cs')=>if i.zero.isSome=true/\k=i.size/\k'=i.size/\0<len'/\len*k<=cs.length/\len'*k'<=cs'.length/\len+len'<=maxLen/\(len+len')*i.bytes<=140737488355328 then
    some (.arr (nm σ) k (len+len') false,(gx σ (cs.take (len*k)++cs'.take (len'*k'))).2) else none
  | _,_,_=>none
 | _,_,_=>none
def Sg.rm (σ:Sg) (n:Nat):Sg:=⟨Go.Proofs.YtbjicljfjkdeeaaGreatDoor.rm σ.obs n,σ.stk,σ.lps⟩
def app (P:Program) (σ:Sg) (t:TypeId) (dst src:V):Option (V × Sg) :=
 match P.underlying t with
 | some (.slice e)=>match P.info? e,(src.frz false σ).bind wW with
  | some i,some ys=>match i.zero with
   | some z=>if z.cells.size=i.size/\0<i.size/\(ys.all fun t=>t.cells.length==i.size)=true then
     let σ1:=σ.fzs src.nms
     let go (τ:Sg) (es:List Tr):Option (V × Sg):=if es.length+ys.length<=maxLen/\(es.length+ys.length)*i.bytes<=140737488355328 then some (.ref (nm σ1),τ.new (nm σ1) (.row e i.size (es++ys) false)) else none
     match dst with
     | .p (.at (.slice none 0 0))=>go σ1 []
     | .p (.lst full es)=>if ys.isEmpty then some (dst,σ1) else if full=true/\(es.all fun t=>t.cells.length==i.size)=true then go σ1 es else none
     | .ref n=>match gt σ1.obs n with
      | some (.row e' k es false)=>if e'=e/\k=i.size then go (σ1.rm n) es else none
      | _=>none
     | _=>none
    else none
   | none=>none
  | _,_=>none
 | _=>none
section
variable {P : Program} {gl : Nat -> Option (List Tr)} {n0 : Nat} {M M' : Mem} {w w' : World} {σ σ' : Sg} {S : List Rf} {a : Act} {o : Oper}
theorem FU {F:Nat->Nat} (hF:∀b,M.F b<=F b) {x:V} {u:Value} (h:Rv M w x u):Rv { M with F:=F } w x u :=
 h.kept (M':={ M with F:=F }) (fun b n u z e=>⟨e,ME z (hF b)⟩) rfl rfl
mutual
theorem lg:∀(x:V) {t:Tr},x.frz false σ=some t->∀n∈x.nms,∃e k es G,gt σ.obs n=some (.row e k es G)
 | .p t,_,_=>fun n z=>by simp[V.nms]at z
 | .agg cs,_,h=>fun n z=>by
  rw[V.frz]at h;rw[V.nms]at z
  cases hf:V.frzs false σ cs with
  | none=>rw[hf]at h;cases h
  | some ts=>exact dP cs hf n z
 | .tup cs,_,h=>fun n z=>by
  rw[V.frz]at h;rw[V.nms]at z
  cases hf:V.frzs false σ cs with
  | none=>rw[hf]at h;cases h
  | some ts=>exact dP cs hf n z
 | .ref m,_,h=>fun n z=>by
  rw[V.frz]at h;rw[V.nms]at z;obtain rfl:n=m:=jQ z
  split at h
  ·rename_i e k es G he;exact⟨e,k,es,G,he⟩
  ·cases h
 | .off m i o,_,_=>fun n z=>by simp[V.nms]at z
 | .arr m k len full,_,_=>fun n z=>by simp[V.nms]at z
 | .fn f x y,_,h=>fun n z=>by
  rw[V.frz]at h;rw[V.nms]at z
  split at h
  ·rename_i Z O J I
   rcases List.mem_append.1 z with z|z
   ·exact dP x J n z
   ·exact dP y I n z
  ·cases h
 | .yld i,_,_=>fun n z=>by simp[V.nms]at z
 | .junk,_,_=>fun n z=>by simp[V.nms]at z
theorem dP:∀(cs:List V) {ts:List Tr},V.frzs false σ cs=some ts->∀n∈V.nmss cs,∃e k es G,gt σ.obs n=some (.row e k es G)
 | [],_,_=>fun n z=>by rw[V.nmss]at z;cases z
 | x::l,_,h=>fun n z=>by
  rw[V.frzs]at h;rw[V.nmss]at z
  split at h
  ·rename_i v m J I
   rcases List.mem_append.1 z with z|z
   ·exact lg x J n z
   ·exact dP l I n z
  ·cases h
end
theorem SR.frz (h:SR gl n0 M w σ S) {x:V} {u:Value} (hu:Rv M w x u) {t:Tr} (J:x.frz false σ=some t):∃F,(∀b,M.F b<=F b)/\Ff n0 (nx σ.obs) (nx (σ.fzs x.nms).obs) M w { M with F:=F } w/\SR gl n0 { M with F:=F } w (σ.fzs x.nms) S/\Rp F w t u:=by
 obtain⟨F,G,Z,h3,h4⟩:=h.fzs x.nms;refine⟨F,G,(Ff.more G Z).mono (N2 (Fv _ _).symm),h3,Hm h G hu J fun n ob g hn O I=>?_⟩;have z:n∈x.nms:=hn.resolve_right jS;obtain⟨e,k,es,fz,he⟩:=lg x J n z;rw[he]at O;cases O;exact h4 n e k es fz g z he I
theorem Cv {α:Type}:∀(l:List (Nat × α)) (n:Nat),uO n l=true->l=((l.map (·.2)).zipIdx n).map fun x=>(x.2,x.1)
 | [],_,_=>rfl
 | (i,x)::l,n,h=>by
  simp only[uO,My,MO]at h;obtain⟨rfl,h⟩:=h;simp only[MF,List.zipIdx_cons];rw[<-Cv l _ h]
theorem gI:maxLen=9223372036854775807:=rfl
theorem kS {F:Nat->Nat}:∀{ts:List Tr} {vs:List Value},vs.length=ts.length->(∀(i:Nat) (t:Tr) (v:Value),ts[i]?=some t->vs[i]?=some v->Rp F w t v) ->
  (vs.flatMap fun v=>v.cells.toList).length=(aO ts).length/\∀(j:Nat) (t:Tr) (u:Value),(aO ts)[j]?=some t->(vs.flatMap fun v=>v.cells.toList)[j]?=some u->Rp F w t u
 | [],vs,hl,_=>by
  have:vs=[]:=M8 (jQ hl);subst this;exact⟨rfl,fun j t u h=>by simp at h⟩
 | t::ts,[],hl,_=>by simp at hl
 | t::ts,v::vs,hl,h=>by
  obtain⟨J,z⟩:=(h 0 t v rfl rfl).cells;obtain⟨h3,I⟩:=kS (ts:=ts) (vs:=vs) (jQ hl) (fun i t v G Z=>h (i+1) t v (jQ G) (jQ Z));refine⟨by simp only[aO,MM,Mw]at *;omega,fun j s u hs hu=>?_⟩;simp only[aO,MM]at hs hu
  by_cases O:j<t.cells.length
  ·rw[MQ O]at hs;rw[MQ om]at hu;exact z j s u hs hu
  ·rw[M7 om]at hs;rw[M7 om,J]at hu;exact I _ s u hs hu
theorem uv {α β:Type}:∀(l:List (Nat × α)) (m:List (Nat × β)) (n:Nat),l.map (·.1)=m.map (·.1)->uO n m=true->uO n l=true
 | [],_,_,_,_=>rfl
 | x::l,[],n,hm,_=>by simp at hm
 | x::l,y::m,n,hm,hi=>by
  simp only[MF,Nf]at hm;simp only[uO,My,MO]at hi ⊢;exact⟨hm.1.trans hi.1,uv l m _ hm.2 hi.2⟩
theorem BX {t e:TypeId} {len:Nat} {G:TypeInfo} {z:Value} {ps:List (Nat × Value)} (hu:P.underlying t=some (.slice e)) (O:P.info? e=some G) (hz:G.zero=some z) (h0:0<G.size) (a':len*G.size<=2^24)
  (I:ps.length=len) (J:uO 0 ps=true) (Z:∀v∈ps.map (·.2),v.cells.size=G.size) :
  (Instr.buildSlice t len ps.toArray).run P w=.ok (.slice (some ⟨w.heap.size,0,none⟩) len len) (w.alloc (.cells ((ps.map (·.2)).flatMap fun v=>v.cells.toList).toArray e)):=by
 by_cases hlen:len*G.size=0
 ·have:len=0:=by rcases Nat.mul_eq_zero.1 hlen with h|h<;>omega
  subst this;have:ps=[]:=M8 I;subst this;simp[Instr.buildSlice,M6 hu,dq O,Instr.fill,newRow];rw[show Array.range 0=#[] by simp[Array.range],Array.map_empty]
 ·refine run_buildSlice (P:=P) w t e len ps.toArray _ G z hu O hz om hlen ?_;have:=Great.fill_whole h0 (ps.map (·.2)) ((Array.range (len*G.size)).map (z.cells[·%z.cells.size]!)) Z (by simp[I]);rw[<-this];congr 1;exact Cv ps 0 J
theorem tg:∀{l:List V} {vs:List Value} {cs:List V},Rvs M w l vs->vi l=some cs->Rvs M w cs (vs.flatMap fun v=>v.cells.toList)
 | [],vs,cs,h,hc=>by
  have:vs=[]:=M8 (jQ h.1);subst this;cases hc;exact⟨rfl,fun i t v h=>by simp at h⟩
 | x::l,[],cs,h,_=>by have:=h.1;simp at this
 | x::l,v::vs,cs,h,hc=>by
  rw[vi]at hc
  split at hc
  ·rename_i c m G z
   cases hc
   exact ((h.2 0 x v rfl rfl).cells G).append (tg ⟨jQ h.1,fun i t u I hu=>h.2 (i+1) t u (jQ I) (jQ hu)⟩ z)
  ·cases hc
theorem I8 {t:TypeId} {len:Nat} {parts:List (Nat × V)} {ps:List (Nat × Value)} {x:V} (h:SR gl n0 M w σ S) (G:Lt P σ t len parts=some (x,σ')) (he:ps.map (·.1)=parts.map (·.1)) (hp:Rvs M w (parts.map (·.2)) (ps.map (·.2))) :
  ∃M' w' u,(Instr.buildSlice t len ps.toArray).run P w=.ok u w'/\Below n0 w w'/\Ff n0 (nx σ.obs) (nx σ'.obs) M w M' w'/\SR gl n0 M' w' σ' S/\Rv M' w' x u:=by
 unfold Lt at G
 split at G
 ·rename_i e hu
  split at G
  ·rename_i ie cs hi h'
   split at G
   ·rename_i hc
    cases G
    obtain⟨hl,f',h0,hz,i',g',c'⟩:=hc;obtain⟨z,hz⟩:=Option.isSome_iff_exists.1 hz;have J:ps.length=len:=by have h9:=congrArg List.length he;rw[MB,MB]at h9;rw[h9,hl]
    have a':=BX (P:=P) (w:=w) hu hi hz h0 g' J (uv ps parts 0 he f') (fun v hv=>by
     obtain⟨i,O,rfl⟩:=N9 hv;have Z:i<parts.length:=by rw[hl,<-J];simpa using O
     have h1:=List.all_eq_true.1 c' _ (Nu Z);simp only[MO]at h1
     cases I:(parts[i].2).cells with
     | none=>rw[I]at h1;cases h1
     | some c =>
      rw[I]at h1;have h2:c.length=ie.size:=jQ h1;have h3:=(hp.2 i parts[i].2 _ (by simp[Z]) (Mq O)).cells I;rw[<-h2,<-h3.1];simp)
    obtain⟨M',m1,m2,m3,m4,hh⟩:=mX (cs:=cs) (vs:=((ps.map (·.2)).flatMap fun v=>v.cells.toList).toArray) h (by simpa using tg hp h') e;refine⟨M',_,_,a',m1,m2,m3,?_⟩;have d':jV (M'.h (nm σ))=w.heap.size:=by rw[hh];rfl
    have:=Rv.arr (M:=M') (w:=w.alloc (.cells ((ps.map (·.2)).flatMap fun v=>v.cells.toList).toArray e)) (nm σ) ie.size len true len (Mt _) (fun _=>rfl)
    rwa [d']at this
   ·cases G
  ·cases G
 ·cases G
theorem Ig {t:TypeId} {len:Nat} {parts:List (Nat × V)} {ps:List (Nat × Value)} {x:V} (h:SR gl n0 M w σ S) (Z:bsl P σ t len parts=some (x,σ')) (he:ps.map (·.1)=parts.map (·.1)) (hp:Rvs M w (parts.map (·.2)) (ps.map (·.2))) :
  ∃M' w' u,(Instr.buildSlice t len ps.toArray).run P w=.ok u w'/\Below n0 w w'/\Ff n0 (nx σ.obs) (nx σ'.obs) M w M' w'/\SR gl n0 M' w' σ' S/\Rv M' w' x u:=by
 unfold bsl at Z
 split at Z
 ·rename_i e hu
  split at Z
  ·rename_i ie ts hi t'
   split at Z
   ·rename_i hc
    cases Z
    obtain⟨hl,p',h0,hz,s',a'⟩:=hc;obtain⟨z,hz⟩:=Option.isSome_iff_exists.1 hz;have n':Rv M w (.agg (parts.map (·.2))) (.agg (ps.map (·.2)).toArray):=.agg _ _ (jQ hp.1) (fun i t v I hv=>hp.2 i t v I (jQ hv));obtain⟨F,f1,f2,f3,f4⟩:=h.frz n' (t:=.agg ts) (by rw[V.frz,t'];rfl);rw[V.nms]at f2 f3
    cases f4 with
    | agg _ _ l' hr =>
     have d':ps.length=len:=by have h9:=congrArg List.length he;rw[MB,MB]at h9;rw[h9,hl]
     have c':∀t∈ts,t.cells.length=ie.size:=fun t I=>by have:=List.all_eq_true.1 a' t I;simp only[My,MO]at this;exact this.1
     have q':∀t∈aO ts,t.cell=true:=fun t I=>by
      obtain⟨s,hs,h'⟩:=List.mem_flatMap.1 I;have:=List.all_eq_true.1 a' s hs;simp only[My]at this;exact List.all_eq_true.1 this.2 t h'
     obtain⟨c1,c2⟩:=kS (ts:=ts) (vs:=ps.map (·.2)) (jQ l') (fun i t v I hv=>hr i t v I (jQ hv));have J:ts.length=len:=by rw[<-d'];simpa using l'.symm
     have r':(aO ts).length=len*ie.size:=by rw[ij c',J]
     obtain⟨cells,G,k'⟩:∃cells:Array Value,cells=((ps.map (·.2)).flatMap fun v=>v.cells.toList).toArray/\(Instr.buildSlice t len ps.toArray).run P w=.ok (.slice (some ⟨w.heap.size,0,none⟩) len len) (w.alloc (.cells cells e)) :=
      ⟨_,rfl,BX hu hi hz h0 s' d' (uv ps parts 0 he p') fun v hv=>by
       obtain⟨i,i',rfl⟩:=N9 hv;have j':i<ts.length:=by simpa [J,d'] using i'
       have:=(hr i _ _ (Mq j') (by simpa using Mq i')).cells.1;rw[<-c' _ (Nu j'),<-this];simp⟩
     have u':cells.size=len*ie.size:=by rw[G];simp only[N5];rw[c1,r']
     let O:Nat->Nat:=fun b=>if b=w.heap.size then cells.size else F b
     have hb:Mm w (w.alloc (.cells cells e)):=ka _ _ _ (Mt _);have hg:=f3.grow hb O (fun b m'=>by simp only[O];rw[Mo om]);have kp:Kept F w O (w.alloc (.cells cells e)):=Kept.below hb fun b m'=>by simp only[O];rw[Mo om];exact Mt _
     refine⟨{ M with F:=O },_,_,k',ka _ _ _ h.size,f2.trans (.grow hb (fun b m'=>by simp only[O];rw[Mo om]) h.size),hg,.p _ _ ?_⟩
     ·have f':∀j,j<(aO ts).length->(w.alloc (.cells cells e)).cell? ⟨w.heap.size,0+j,none⟩=some (cells.getD j undef):=fun j hj=>by
       have:j<cells.size:=by omega
       rw[MC,World.cell?_alloc_new];simp[this]
      have:=Rp.lst (F:=O) (w:=w.alloc (.cells cells e)) true ts w.heap.size 0 len ie.size (fun j=>cells.getD j undef) c' q' (fun j hj=>⟨f' j hj,by show 0+j<O w.heap.size;have:O w.heap.size=cells.size:=Mp rfl;omega⟩)
       (fun j t I=>by
        have hj:=(List.getElem?_eq_some_iff.1 I).1;have g':j<cells.size:=by omega
        refine (c2 j t _ I ?_).kept kp;rw[show cells.getD j undef=cells[j] by simp[g'],<-PL g'];have:cells.toList=(ps.map (·.2)).flatMap fun v=>v.cells.toList:=by rw[G]
        simp only[<-this];exact Mq (jQ g')) (fun _=>J.symm) om (by rw[gI];have:len<=len*ie.size:=Nat.le_mul_of_pos_right _ h0;omega)
      rwa [J]at this
   ·cases Z
  ·cases Z
 ·cases Z
end
end
section
section
variable {P : Program} {gl : Nat -> Option (List Tr)} {n0 : Nat} {M M' : Mem} {w w' : World} {σ σ' : Sg} {S : List Rf} {a : Act} {o : Oper}
theorem uu {base:Nat} {e:TypeId} {k:Nat} {v:Value} {n:Nat} {xs:List Value} (h:w.ownsRow base e k v n xs):v.ownBlock=dG v:=by
 rcases h.2 with ⟨rfl,-⟩|⟨g,cap,cur,rfl,-⟩<;>rfl
theorem uT {F:Nat->Nat} {t:Tr} {v:Value} {ys:List Tr} {k:Nat} (h:Rp F w t v) (G:wW t=some ys) (hk:∀t∈ys,t.cells.length=k) :
  ∃A c news,v=.slice A ys.length c/\Src w A ys.length k news/\(∀t∈aO ys,t.cell=true)/\(∀(j:Nat) (t:Tr) (u:Value),(aO ys)[j]?=some t->news[j]?=some u->Rp F w t u):=by
 have nil:∀A,Src w A 0 k []:=fun A=>Src.nil w A k
 cases h with
 | «at» =>
  unfold wW at G
  split at G
  ·rename_i e;cases e
  ·rename_i e;cases e;cases G;exact⟨none,0,[],rfl,nil _,by simp,by simp⟩
  ·cases G
 | nil a cap=>cases G;exact⟨a,cap,[],rfl,nil _,by simp,by simp⟩
 | lst full es A o cap k' g a' hc hg hr hf hle hm =>
  cases G
  have O:(aO ys).length=ys.length*k:=ij hk;refine⟨some ⟨A,o,none⟩,cap,(List.range (aO ys).length).map g,rfl,⟨by rw[MB,Pg,O],fun u hu=>?_,fun _=>⟨A,o,rfl,fun j u I=>?_⟩⟩,hc,fun j t u Z hu=>?_⟩
  ·obtain⟨j,I,rfl⟩:=List.mem_map.1 hu;have J:j<(aO ys).length:=jQ I;exact (hr j _ (Mq J)).oneCell (hc _ (Nu J))
  ·rw[MA]at I
   by_cases z:j<(aO ys).length
   ·rw[PB z]at I;cases I;exact (hg j z).1
   ·rw[NZ (jQ z)]at I;cases I
  ·have z:=(List.getElem?_eq_some_iff.1 Z).1;rw[MA,PB z]at hu
   cases hu
   exact hr j t Z
 | _=>cases G
theorem ml (xs ys:List Tr):aO (xs++ys)=aO xs++aO ys:=by simp[aO]
theorem DK (σ:Sg) (n:Nat) (ob:Ob):n<nx (σ.new n ob).obs:=by
 unfold Sg.new Sg.mp;simp only[BD];omega
theorem SR.rm (h:SR gl n0 M w σ S) (n:Nat):SR gl n0 M w (σ.rm n) S:=h.less (fun m x G=>by
 have z:gt (Go.Proofs.YtbjicljfjkdeeaaGreatDoor.rm σ.obs n) m=some x:=G;rw[Ci]at z
 split at z
 ·cases z
 ·exact z) h.stk rfl rfl
theorem iG (h:SR gl n0 M w σ S) {n N:Nat} (hN:N<=n) {e:TypeId} {k:Nat} {zs:List Tr} {v':Value} {xs:List Value} {row:Option Nat} (h0:0<k) (ho:w'.ownsRow n0 e k v' zs.length xs) (O:w.grownBy w' row)
  (z:∀g,row=some g->M.F g=0/\(n0<=g/\∃c e fz,w.heap[g]?=some (.cells c e fz))/\∀m x,m≠n->gt σ.obs m=some x->dG (M.h m)≠some g) (f':∀g,dG v'=some g->some g=row/\g<w.heap.size\/g=w.heap.size)
  (i':∀t∈zs,t.cells.length=k) (j':∀t∈aO zs,t.cell=true) (hr:∀(j:Nat) (t:Tr) (u:Value),(aO zs)[j]?=some t->xs[j]?=some u->Rp M.F w t u) :
  ∃M',Below n0 w w'/\Ff n0 N (nx (σ.new n (.row e k zs false)).obs) M w M' w'/\SR gl n0 M' w' (σ.new n (.row e k zs false)) S/\Rv M' w' (.ref n) v':=by
 let M':Mem:=⟨fun b=>if b<w.heap.size then M.F b else 0,fun m=>if m=n then v' else M.h m,fun m=>if m=n then k else M.k m,M.lp,M.mq,M.nl⟩
 have Z:∀b,b<w.heap.size->M'.F b=M.F b:=fun b hb=>by simp only[M'];rw[Mp hb]
 have kp:Kept M.F w M'.F w':=fun b j u hj he=>by
  have hb:=Ms w ⟨b,j,none⟩ he;have d':some b≠row:=fun e=>by rw[(z b e.symm).1]at hj;omega
  exact⟨by rw[ML (a:=⟨b,j,none⟩) (O.block b hb d')];exact he,by rw[Z b hb];exact hj⟩
 have g':Below n0 w w':=⟨O.os,O.tape,O.output,O.size,fun b hb=>O.block b (by have:=h.size;omega) (fun e=>by have:=(z b e.symm).2.1.1;omega)⟩;have I:M'.h n=v':=Mp rfl;have G:∀m,m≠n->M'.h m=M.h m/\M'.k m=M.k m:=fun m hm=>⟨Mo hm,Mo hm⟩
 refine⟨M',g',⟨fun b hb=>Z b (by have:=h.size;omega),kp,fun m hm=>G m om,LM.refl M,Mx hN (Nat.le_of_lt (DK σ n _))⟩,?_,?_⟩
 ·have c':∀b,b<w.heap.size->(∀g,row=some g->b≠g)->w'.heap[b]?=w.heap[b]?:=fun b hb d'=>O.block b hb (fun e=>d' b e.symm rfl)
  refine h.upd (κ:=V.kill n) (fun t v hv=>hv.step kp G) kp O.size G (fun m x g hm hx J=>?_) ?_ (fun m x g hm hx J h'=>?_) (fun i hi=>⟨c' _ (h.lp_lt hi).1 fun g O=>by
   obtain⟨c,e',fz,hc⟩:=(z g O).2.1.2;exact (h.lp_cells hi hc).1,c' _ (h.lp_lt hi).2 fun g O=>by
   obtain⟨c,e',fz,hc⟩:=(z g O).2.1.2;exact (h.lp_cells hi hc).2⟩)
  ·have a':=((h.ob m x hx).lt J).1;exact⟨O.block g a' (fun e=>(z g e.symm).2.2 m x hm hx J),Z g a'⟩
  ·refine⟨Mp rfl,h0,xs,by rw[I];exact ho,i',j',fun j t u ht hu=>(hr j t u ht hu).kept kp,fun g J=>?_⟩;rw[Mo jS];rw[I]at J;rcases f' g J with ⟨e,hl⟩|e
   ·rw[Z g hl];exact (z g e.symm).1
   ·simp only[M'];rw[Mo om]
  ·rw[I]at J;rcases f' g J with ⟨e,hl⟩|e
   ·exact (z g e.symm).2.2 m x hm hx h'
   ·have:=((h.ob m x hx).lt h').1;omega
 ·have:=Rv.ref (M:=M') (w:=w') n (by rw[I];rcases ho.2 with ⟨e,-⟩|⟨g,cap,cur,e,-⟩<;>rw[e]<;>rfl)
  rwa [I]at this
theorem qE {F:Nat->Nat} {es ys:List Tr} {k:Nat} {xs news:List Value} (G:xs.length=(aO es).length) (J:∀(j:Nat) (t:Tr) (u:Value),(aO es)[j]?=some t->xs[j]?=some u->Rp F w t u)
  (I:∀(j:Nat) (t:Tr) (u:Value),(aO ys)[j]?=some t->news[j]?=some u->Rp F w t u):∀(j:Nat) (t:Tr) (u:Value),(aO (es++ys))[j]?=some t->(xs++news)[j]?=some u->Rp F w t u:=by
 intro j t u h hu;rw[ml]at h
 by_cases z:j<(aO es).length
 ·rw[MQ z]at h;rw[MQ om]at hu;exact J j t u h hu
 ·rw[M7 om]at h;rw[M7 om,G]at hu;exact I _ t u h hu
theorem CJ (h:SR gl n0 M w σ S) {n N:Nat} (hN:N<=n) {e:TypeId} {k:Nat} {es ys:List Tr} {t ty:TypeId} {i:TypeInfo} {z:Value} (Z:P.underlying t=some (.slice e)) (hi:P.info? e=some i) (hz:i.zero=some z)
  (m':z.cells.size=i.size) (hk:k=i.size) (h0:0<i.size) {v:Value} {xs:List Value} (G:w.ownsRow n0 e k v es.length xs) (c':∀t∈es,t.cells.length=k) (n':∀t∈aO es,t.cell=true)
  (hr:∀(j:Nat) (t:Tr) (u:Value),(aO es)[j]?=some t->xs[j]?=some u->Rp M.F w t u) (hF:∀g,dG v=some g->M.F g=0)
  (h':∀m x g,m≠n->gt σ.obs m=some x->dG (M.h m)=some g->dG v≠some g) {src:Value} {y:Tr} (hy:Rp M.F w y src) (hl:wW y=some ys) (f':∀t∈ys,t.cells.length=i.size)
  (j':es.length+ys.length<=maxLen) (k':(es.length+ys.length)*i.bytes<=140737488355328) :
  ∃M' w' u,(Builtin.append_ #[t,t] ty #[v,src]).run P w=.ok u w'/\Below n0 w w'/\Ff n0 N (nx (σ.new n (.row e i.size (es++ys) false)).obs) M w M' w'/\SR gl n0 M' w' (σ.new n (.row e i.size (es++ys) false)) S/\Rv M' w' (.ref n) u:=by
 subst hk;obtain⟨A,c,news,rfl,hs,l',i'⟩:=uT hy hl f';obtain⟨v',w',d',ho,J,O⟩:=pk (P:=P) w n0 t ty e i z i.size i.bytes Z hi hz rfl rfl m' h0 v es.length xs G A ys.length c news hs j' k' h.size;have a':∀g,dG v=some g->g<w.heap.size/\n0<=g/\∃c e fz,w.heap[g]?=some (.cells c e fz):=fun g J=>by
  rcases G.2 with ⟨rfl,-⟩|⟨g',cap,cur,rfl,hb,hh,-⟩
  ·cases J
  ·cases J;exact⟨(Array.getElem?_eq_some_iff.1 hh).1,hb,_,_,_,hh⟩
 rw[uu G]at J O;rw[uu ho]at O;obtain⟨M',m1,m2,m3,m4⟩:=iG (n:=n) (N:=N) (zs:=es++ys) h hN h0 (by rw[Mw];exact ho) J (fun g J=>⟨hF g J,(a' g J).2,fun m x hm hx e=>h' m x g hm hx e J⟩)
  (fun g I=>O.imp (fun e=>by rw[e]at I;exact⟨I.symm,(a' g I).1⟩) (fun e=>by rw[e]at I;cases I;rfl))
  (fun t Z=>(List.mem_append.1 Z).elim (c' t) (f' t)) (fun t Z=>by rw[ml]at Z;exact (List.mem_append.1 Z).elim (n' t) (l' t))
  (qE (k:=0) (by rw[ij c',G.1]) hr i')
 exact⟨M',w',v',d',m1,m2,m3,m4⟩
theorem JV (h:SR gl n0 M w σ S) {n N:Nat} (hN:N<=n) {e:TypeId} {es ys:List Tr} {t ty:TypeId} {i:TypeInfo} {z:Value} (O:P.underlying t=some (.slice e)) (hi:P.info? e=some i) (hz:i.zero=some z)
  (q':z.cells.size=i.size) (h0:0<i.size) {v:Value} (hv:Rp M.F w (.lst true es) v) (f':∀t∈es,t.cells.length=i.size) {src:Value} {y:Tr} (hy:Rp M.F w y src) (hl:wW y=some ys) (d':ys≠[])
  (i':∀t∈ys,t.cells.length=i.size) (g':es.length+ys.length<=maxLen) (m':(es.length+ys.length)*i.bytes<=140737488355328) :
  ∃M' w' u,(Builtin.append_ #[t,t] ty #[v,src]).run P w=.ok u w'/\Below n0 w w'/\Ff n0 N (nx (σ.new n (.row e i.size (es++ys) false)).obs) M w M' w'/\SR gl n0 M' w' (σ.new n (.row e i.size (es++ys) false)) S/\Rv M' w' (.ref n) u:=by
 obtain⟨A,c,news,rfl,hs,n',l'⟩:=uT hy hl i';obtain⟨b,o,hA,p'⟩:=hs.2.2 (List.length_pos_iff.2 d');subst hA
 cases hv with
 | lst _ _ A o' cap k g hk hc hg hr hf hle hm =>
  obtain rfl:cap=es.length:=hf rfl;have Z:=ij f';have r':0<ys.length:=List.length_pos_iff.2 d';have h':=run_append_grow (P:=P) w t ty e i z O hi hz ⟨A,o',none⟩ es.length es.length ((List.range (aO es).length).map g) (by rw[MB,Pg,Z]) (fun j v hv=>by
    rw[MA]at hv
    by_cases G:j<(aO es).length
    ·rw[PB G]at hv;cases hv;rw[cN];exact (hg j G).1
    ·rw[NZ (jQ G)]at hv;cases hv) ⟨b,o,none⟩ ys.length c news hs.1 (fun j u hj=>by rw[cN];exact p' j u hj) om (by rw[gI]at g';omega) (growslice_fits om m')
  have j':=grownCap_ge w (es.length+ys.length) es.length e;have k':grownCap w (es.length+ys.length) es.length e<=maxLen:=grownCap_le_maxLen w _ _ e g';have hlen:((List.range (aO es).length).map g++news).length=(es.length+ys.length)*i.size:=by rw[Mw,MB,Pg,Z,hs.1,Ou]
  have a':(es++ys).length=es.length+ys.length:=Mw;obtain⟨I,hold⟩:∃l,l=(List.range (aO es).length).map g:=⟨_,rfl⟩;have J:I.length=es.length*i.size:=by rw[hold,MB,Pg,Z]
  rw[<-hold]at h' hlen;have c':(w.drew.alloc (.cells (I.toArray++news.toArray++Builtin.zeroCells z.cells (grownCap w (es.length+ys.length) es.length e-(es.length+ys.length))) e)).ownsRow n0 e i.size
    (.slice (some ⟨w.heap.size,0,none⟩) (es.length+ys.length) (grownCap w (es.length+ys.length) es.length e)) (es++ys).length (I++news):=by
   refine⟨by rw[a'];exact hlen,.inr ⟨w.heap.size,_,_,by rw[a'],h.size,Nr w.drew _,by rw[a'];exact j',k',?_,?_⟩⟩
   ·simp only[Array.size_append,N5,size_zeroCells,q',J,hs.1,<-Ou];congr 1;omega
   ·rw[a',<-hlen];simp only[Array.toList_append];exact List.take_left
  obtain⟨M',m1,m2,m3,m4⟩:=iG (n:=n) (N:=N) (zs:=es++ys) (row:=none) h hN h0 c'
   ⟨rfl,rfl,rfl,by simp,fun k hk _=>Nz w.drew _ k hk⟩ (fun g hg=>by cases hg) (fun g hg=>by cases hg;exact .inr rfl)
   (fun t O=>(List.mem_append.1 O).elim (f' t) (i' t)) (fun t O=>by rw[ml]at O;exact (List.mem_append.1 O).elim (hc t) (n' t))
   (qE (k:=0) (by rw[J,Z]) (fun j t u O hu=>by
    subst hold;have G:=(List.getElem?_eq_some_iff.1 O).1;rw[MA,PB G]at hu
    cases hu
    exact hr j t O) l')
  exact⟨M',_,_,h',m1,m2,m3,m4⟩
theorem L2 {t ty:TypeId} {dst src r:V} {u v:Value} (h:SR gl n0 M w σ S) (G:app P σ t dst src=some (r,σ')) (hu:Rv M w dst u) (hv:Rv M w src v) :
  ∃M' w' q,(Builtin.append_ #[t,t] ty #[u,v]).run P w=.ok q w'/\Below n0 w w'/\Ff n0 (nx σ.obs) (nx σ'.obs) M w M' w'/\SR gl n0 M' w' σ' S/\Rv M' w' r q:=by
 unfold app at G
 split at G
 ·rename_i e O
  split at G
  ·rename_i i ys hi I
   cases hf:src.frz false σ with
   | none=>rw[hf]at I;cases I
   | some y =>
    rw[hf,MR]at I
    split at G
    ·rename_i z hz
     split at G
     ·rename_i hc
      obtain⟨c1,c2,c3⟩:=hc;have a':∀t∈ys,t.cells.length=i.size:=fun t O=>by have:=List.all_eq_true.1 c3 t O;simpa using this
      obtain⟨F,f1,f2,f3,f4⟩:=h.frz hv hf;simp only[]at G;have g':=FU f1 hu
      split at G
      ·split at G
       ·rename_i hb
        cases G
        cases hu with
        | p _ _ J =>
         cases J
         obtain⟨M',w',q,r1,r2,r3,r4,r5⟩:=CJ (ty:=ty) (n:=nm (σ.fzs src.nms)) (k:=i.size) (es:=[]) f3 (Mt _) O hi hz c1 rfl c2 (v:=.slice none 0 0) (xs:=[]) ⟨by simp,.inl ⟨rfl,rfl⟩⟩ jS jS jS (fun g hg=>by cases hg)
          (fun m x g _ _ _ e=>by cases e) f4 I a' (jQ hb.1) (jQ hb.2)
         exact⟨M',w',q,r1,r2,f2.trans r3,r4,r5⟩
       ·cases G
      ·rename_i full es _
       split at G
       ·rename_i i'
        cases G
        have:ys=[]:=jQ i';subst this;have f':=uT f4 I a';obtain⟨A,c,news,k',-⟩:=f';subst k';refine⟨{ M with F:=F },w,u,?_,Mr _ _,f2,f3,g'⟩
        cases hu with
        | p _ _ J =>
         cases J with
         | nil a cap=>cases A<;>cases a<;>simp[Builtin.append_,M6 O,dq hi,Builtin.lenOf,Builtin.firstCells,loadCells,loadCellsFrom,storeCells]
         | lst full es A' o cap k g hk hc hg hr hf hle hm=>cases A<;>simp[Builtin.append_,M6 O,dq hi,Builtin.lenOf,Builtin.firstCells,loadCells,loadCellsFrom,storeCells,hle]
       ·split at G
        ·rename_i c'
         split at G
         ·rename_i hb
          cases G
          obtain⟨rfl,d'⟩:=c';have h':ys≠[]:=fun e=>by subst e;simp_all
          cases g' with
          | p _ _ J =>
           obtain⟨M',w',q,r1,r2,r3,r4,r5⟩:=JV (ty:=ty) (n:=nm (σ.fzs src.nms)) f3 (Mt _) O hi hz c1 c2 J (fun t O=>by have:=List.all_eq_true.1 d' t O;simpa using this) f4 I h' a' hb.1 hb.2;exact⟨M',w',q,r1,r2,f2.trans r3,r4,r5⟩
         ·cases G
        ·cases G
      ·rename_i n
       split at G
       ·rename_i e' k es hn
        split at G
        ·rename_i l'
         split at G
         ·rename_i hb
          cases G
          obtain⟨rfl,hk⟩:=l'
          cases hu with
          | ref _ m' =>
           obtain⟨g1,g2,xs,g3,g4,g5,g6,g7⟩:=f3.ob n _ hn;obtain⟨M',w',q,r1,r2,r3,r4,r5⟩:=CJ (ty:=ty) (n:=nm (σ.fzs src.nms)) (f3.rm n) (Mt _) O hi hz c1 hk c2 g3 g4 g5 g6 (fun g hg=>by have:=g7 g hg;rwa [Mo jS]at this)
            (fun m x g hm G hg e=>(by
             have Z:gt (rm (σ.fzs src.nms).obs n) m=some x:=G;rw[Ci]at Z
             split at Z
             ·cases Z
             ·rename_i j';exact f3.apart m n x _ g (MT j') Z hn hg e)) f4 I a' hb.1 hb.2
           exact⟨M',w',q,r1,r2,f2.trans r3,r4,r5⟩
         ·cases G
        ·cases G
       ·cases G
      ·cases G
     ·cases G
    ·cases G
  ·cases G
 ·cases G
theorem sW (h:SR gl n0 M w σ S) {n m:Nat} {cs:List V} (hn:gt σ.obs n=some (.box cs)) (hm:m<=cs.length):∃vs:List Value,vs.length=m/\Rvs M w (cs.take m) vs/\∀j v,vs[j]?=some v->w.cell? ((⟨jV (M.h n),0,none⟩:Addr).add j)=some v:=by
 obtain⟨A,c,el,Z,h2,h3,O,h5,h6⟩:=h.ob n _ hn;refine⟨c.toList.take m,by simp;omega,⟨by simp;omega,fun i t v z J=>?_⟩,fun j v G=>?_⟩
 ·rw[NP]at z J
  split at z
  ·rename_i I;rw[Mp I]at J;exact h6 i t v z (jQ J)
  ·cases z
 ·rw[NP]at G
  split at G
  ·rw[cN,Z];simp only[jV,World.cell?,O,MC];simpa using G
  ·cases G
theorem Jg {t ty:TypeId} {dst src r:V} {u v:Value} (h:SR gl n0 M w σ S) (J:LZ P σ t dst src=some (r,σ')) (hu:Rv M w dst u) (Z:Rv M w src v) :
  ∃M' w' q,(Builtin.append_ #[t,t] ty #[u,v]).run P w=.ok q w'/\Below n0 w w'/\Ff n0 (nx σ.obs) (nx σ'.obs) M w M' w'/\SR gl n0 M' w' σ' S/\Rv M' w' r q:=by
 unfold LZ at J
 split at J
 ·rename_i e n k len n' k' G f' O
  split at J
  ·rename_i i cs g' hi hn d'
   split at J
   ·rename_i hc
    cases J
    obtain⟨c0,rfl,rfl,c3,c4,c5,c6,c7⟩:=hc;obtain⟨z,hz⟩:=Option.isSome_iff_exists.1 c0
    cases hu with
    | arr _ _ _ _ cap h1 h2 =>
     obtain rfl:=h2 rfl
     cases Z with
     | arr _ _ _ _ a' h3 h4 =>
      obtain⟨I,o1,o2,o3⟩:=sW h hn c4;obtain⟨news,n1,n2,n3⟩:=sW h d' c5;have h':=run_append_grow (P:=P) w t ty e i z O hi hz _ cap cap I o1 o3 _ G a' news n1 n3 om (by rw[gI]at c6;omega) (growslice_fits om c7);have c':=grownCap_ge w (cap+G) cap e;have hd:SR gl n0 M w.drew σ S:=h.grow (w':=w.drew) ((Mr _ _).drew) M.F (fun _ _=>rfl);have hr:Rvs M w.drew (cs.take (cap*i.size)++g'.take (G*i.size)) (I++news):=⟨(o2.append n2).1,fun j t v O Z=>Rv.kept (w:=w) (w':=w.drew) (M:=M) (M':=M) (fun b n u hn e=>⟨e,hn⟩) rfl rfl (LM.refl M) ((o2.append n2).2 j t v O Z)⟩;obtain⟨M',m1,m2,m3,m4,hh⟩:=tY (vs:=I.toArray++news.toArray++Builtin.zeroCells z.cells (grownCap w (cap+G) cap e-(cap+G))) hd ⟨by have:=hr.1;simp only[Mw]at this;simp only[Array.size_append,N5,Mw];omega,fun j t v O Z=>hr.2 j t v O (by
       have hj:=(List.getElem?_eq_some_iff.1 O).1;rw[<-hr.1]at hj;simp only[Array.toList_append]at Z
       rwa [MQ hj]at Z)⟩ e
      refine⟨M',_,_,h',((Mr n0 w).drew).trans m1,(Ff.same (w:=w) (w':=w.drew) (M:=M) fun b n u hn e=>⟨e,hn⟩).trans m2,m3,?_⟩;have:=Rv.arr (M:=M') (w:=w.drew.alloc (.cells (I.toArray++news.toArray++Builtin.zeroCells z.cells (grownCap w (cap+G) cap e-(cap+G))) e)) (nm σ) i.size (cap+G) false (grownCap w (cap+G) cap e) c' (fun e=>by cases e);rw[hh]at this;exact this
   ·cases J
  ·cases J
 ·cases J
end
end
end Go.Proofs.YtbjicljfjkdeeaaGreatDoor
