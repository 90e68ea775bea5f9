/- Part. -/
import Derived.Test.YtbjicljfjkdeeaaGreatDoorQ16
import Derived.Lib.AppendStr
import Derived.Lib.AppendZerosOnto
import Derived.TacticsIn
import Derived.RangeFuncIn
set_option maxRecDepth 100000
set_option maxHeartbeats 16000000
set_option linter.unusedVariables false
set_option linter.unusedSimpArgs false
namespace Go.Proofs.YtbjicljfjkdeeaaGreatDoor
open Go.Proofs.Tryz Go.RowKit
section
def zJ:Tr->Bool
 | .lst full _=>full
 | _=>false
def nilOr:Tr->Tr
 | .at (.slice none 0 0)=>.at (.slice none 0 0)
 | _=>.lst false []
def slc (P:Program) (t:TypeId) (x:Tr) (h z:Option Int):Option Tr :=
 match P.underlying t,wW x with
 | some (.slice e),some es=>match P.info? e with
  | some i=>if 0<=h.getD 0/\h.getD 0<=z.getD es.length/\z.getD es.length<=es.length/\(es.all fun t=>t.cells.length==i.size)=true then
    some (if h.getD 0=z.getD es.length then nilOr x else .lst (zJ x&&z.getD es.length==es.length) ((es.drop (h.getD 0).toNat).take (z.getD es.length-h.getD 0).toNat)) else none
  | none=>none
 | _,_=>none
def apS (P:Program) (σ:Sg) (t h:TypeId) (dst src:V):Option (V × Sg) :=
 match P.underlying t,P.underlying h,src.toVal with
 | some (.slice e),some .string,some (.string s)=>match P.info? e with
  | some i=>match i.zero with
   | some (.int .u8 0)=>if i.size=1/\i.bytes=1 then
     let go (τ:Sg) (es:List Tr):Option (V × Sg):=if es.length+s.size<=140737488355328 then some (.ref (nm σ),τ.new (nm σ) (.row e 1 (es++s.data.toList.map ga) false)) else none
     match dst with
     | .p (.at (.slice none 0 0))=>go σ []
     | .ref n=>match gt σ.obs n with
      | some (.row e' k es false)=>if e'=e/\k=1 then go (σ.rm n) es else none
      | _=>none
     | _=>none
    else none
   | _=>none
  | none=>none
 | _,_,_=>none
def bys:List Tr->Option (List UInt8)
 | []=>some []
 | .at (.int .u8 i)::l=>if ((UInt8.ofNat i.toNat).toNat:Int)=i then (bys l).map (UInt8.ofNat i.toNat::·) else none
 | _=>none
def bst (P:Program) (σ:Sg) (src dst:TypeId) (x:V):Option V :=
 match P.underlying src,P.underlying dst with
 | some (.slice e),some .string=>match P.underlying e with
  | some d=>if I2 d=true then
    (match x with
    | .p (.lst _ es)=>bys es
    | .ref n=>match gt σ.obs n with|some (.row _ k es _)=>if k=1 then bys es else none|_=>none
    | _=>none).map fun (l:List UInt8)=>.p (.at (.string ⟨l.toArray⟩)) else none
  | none=>none
 | _,_=>none
def evo (gl:Nat->Option (List Tr)) (σ:Sg):Option Operand->Option (Option Int)
 | none=>some none
 | some x=>((evl gl σ x).bind V.int?).map some
section
variable {ρ : Option Nat}
variable {P : Program} {gl : Nat -> Option (List Tr)} {n0 : Nat} {M M' : Mem} {w w' : World} {σ σ' : Sg} {S : List Rf} {a : Act} {o : Oper}
theorem Ik (w:World) (base:Nat) (t u ty e:TypeId) (i:TypeInfo) (ht:P.underlying t=some (.slice e)) (hu:P.underlying u=some .string) (hi:P.info? e=some i) (hz:i.zero=some (.int .u8 0)) (I:i.size=1) (a':i.bytes=1)
  (v:Value) (n:Nat) (xs:List Value) (G:w.ownsRow base e 1 v n xs) (s:ByteArray) (h:n+s.size<=140737488355328) (Z:base<=w.heap.size) :
  ∃v' w',(Builtin.append_ #[t,u] ty #[v,.string s]).run P w=.ok v' w'/\w'.ownsRow base e 1 v' (n+s.size) (xs++Lib.strCells s)/\w.grownBy w' (dG v)/\∀g,dG v'=some g->dG v=some g\/g=w.heap.size:=by
 obtain⟨v',w',z,ho,hg,c'⟩:=Lib.run_append_own_string (P:=P) w base t u ty e i ht hu hi hz I a' v n xs G s (by rw[gI];omega) h Z;refine⟨v',w',z,ho,by rwa [<-uu G],fun g J=>?_⟩;rcases G.2 with ⟨rfl,hn⟩|⟨g0,cap,cur,rfl,hb,hh,hnc,hm,hsz,ht'⟩
 ·right
  by_cases hs:s.size=0
  ·have:=c'.2 ⟨rfl,hs⟩;subst this;cases J
  ·rw[run_append_nil_string (P:=P) w t u ty e i _ ht hu hi hz s om om (by rw[a'];omega)]at z
   cases z;cases J;rfl
 ·by_cases O:n+s.size<=cap
  ·left
   rw[Lib.run_append_room_string (P:=P) w t u ty e i ht hu hi I g0 n cap cur hh s O om]at z
   cases z;exact J
  ·right
   rw[Lib.run_append_grow_string (P:=P) w t u ty e i _ ht hu hi hz ⟨g0,0,none⟩ n cap xs (by rw[I];exact G.1) (fun j v hj=>by
    obtain⟨A,cp,e1,e2⟩:=cW G hj
    cases e1;rw[cN];exact e2) s om om (growslice_fits om (by rw[a'];omega))]at z
   cases z;cases J;rfl
theorem sf {k:Nat}:∀(l:Nat) {es:List Tr},(∀e∈es,e.cells.length=k)->aO (es.drop l)=(aO es).drop (l*k)
 | 0,es,_=>by simp
 | l+1,[],_=>by simp[aO]
 | l+1,e::es,h=>by
  have he:e.cells.length=k:=h e jS;have hm:(l+1)*k=l*k+k:=OF l k;rw[List.drop_succ_cons,sf l (fun e he=>h e (by simp[he])),show aO (e::es)=e.cells++aO es from MM,List.drop_append,he,No (i:=(l+1)*k) (l:=e.cells) om,OP,hm,PM]
theorem vq {k:Nat}:∀(l:Nat) {es:List Tr},(∀e∈es,e.cells.length=k)->aO (es.take l)=(aO es).take (l*k)
 | 0,es,_=>by simp[aO]
 | l+1,[],_=>by simp[aO]
 | l+1,e::es,h=>by
  have he:e.cells.length=k:=h e jS;have hm:(l+1)*k=l*k+k:=OF l k;have:=vq l (es:=es) (fun e he=>h e (by simp[he]));rw[Oc,show aO (e::es.take l)=e.cells++aO (es.take l) from MM,this,show aO (e::es)=e.cells++aO es from MM,List.take_append,he,Of (i:=(l+1)*k) om,hm,PM]
theorem Gt {F:Nat->Nat} {t:TypeId} {x r:Tr} {v:Value} {lo hi:Option Int} {J I:Option Value} (hx:slc P t x lo hi=some r) (hr:Rp F w x v) (i':(∀l,lo=some l->∃k,J=some (.int k l))/\(lo=none->J=none))
  (a':(∀l,hi=some l->∃k,I=some (.int k l))/\(hi=none->I=none)):∃u,(Instr.sliceAt t v J I none).run P w=.ok u w/\Rp F w r u:=by
 unfold slc at hx
 split at hx
 ·rename_i e es Z z
  split at hx
  ·rename_i i l'
   split at hx
   ·rename_i hc
    obtain⟨c1,c2,c3,c4⟩:=hc;have hb:∀(len cap:Nat),len=es.length->len<=cap->(Instr.sliceBounds true len cap J I none).run P w=.ok ((lo.getD 0).toNat,(hi.getD es.length).toNat,cap) w:=by
     intro len cap hl m';subst hl
     cases lo with
     | none =>
      cases i'.2 rfl
      cases hi with
      | none=>cases a'.2 rfl;simp[Instr.sliceBounds]
      | some h =>
       obtain⟨k,e⟩:=a'.1 h rfl;subst e;simp only[NS,Option.getD_none]at c1 c2 c3 ⊢;simp[Instr.sliceBounds,PD w k h cap _ om om]
     | some l =>
      obtain⟨kl,e⟩:=i'.1 l rfl;subst e
      cases hi with
      | none =>
       cases a'.2 rfl
       simp only[NS,Option.getD_none]at c1 c2 c3 ⊢;simp[Instr.sliceBounds,PD w kl l es.length _ om om]
      | some h =>
       obtain⟨k,e⟩:=a'.1 h rfl;subst e;simp only[NS,Option.getD_none]at c1 c2 c3 ⊢;simp[Instr.sliceBounds,PD w k h cap _ om om,PD w kl l h.toNat _ om om]
    have run:∀(A:Option Addr) (len cap:Nat),len=es.length->len<=cap->(Instr.sliceAt t (.slice A len cap) J I none).run P w =
      .ok (.slice (if cap=(lo.getD 0).toNat then A else A.map (·.add ((lo.getD 0).toNat*i.size))) ((hi.getD es.length).toNat-(lo.getD 0).toNat) (cap-(lo.getD 0).toNat)) w:=by
     intro A len cap h1 h2;simp[Instr.sliceAt,Instr.slice,M6 Z,hb len cap h1 h2,dq l']
    generalize lo.getD 0=l at *;generalize hi.getD es.length=h at *
    cases hx
    by_cases d':l=h
    ·rw[Mp d'];subst d';have key:∀(A:Option Addr) (len cap:Nat),len=es.length->len<=cap->∃u,(Instr.sliceAt t (.slice A len cap) J I none).run P w=.ok u w/\Rp F w (.lst false []) u:=fun A len cap h1 h2=>by
      refine⟨_,run A len cap h1 h2,?_⟩;rw[Nat.sub_self];exact .nil _ _
     cases hr with
     | «at» =>
      unfold wW at z
      split at z
      ·rename_i e;cases e
      ·rename_i e
       cases e;cases z
       have:=run none 0 0 rfl (Mt _);rw[show l.toNat=0 by simp at c3;omega]at this;exact⟨_,this,.at _⟩
      ·cases z
     | nil a cap=>cases z;exact key _ _ _ rfl (Mu _)
     | lst full es A o cap k g hk g' hg hr hf hle hm=>cases z;exact key _ _ _ rfl hle
     | _=>cases z
    ·rw[Mo d']
     cases hr with
     | «at» =>
      unfold wW at z
      split at z
      ·rename_i e;cases e
      ·rename_i e;cases e;cases z;simp at c3;omega
      ·cases z
     | nil a cap=>cases z;simp at c3;omega
     | lst full es A o cap k g hk g' hg hr hf hle hm =>
      cases z
      obtain⟨G,rfl⟩:∃n:Nat,l=n:=⟨l.toNat,by omega⟩;obtain⟨hn,rfl⟩:∃n:Nat,h=n:=⟨h.toNat,by omega⟩;have f':G<es.length:=by omega
      have j':i.size=k:=by
       have h1:=List.all_eq_true.1 c4 _ (Nu f');rw[<-hk _ (Nu f')];simpa using (beq_iff_eq.1 h1).symm
      have h':∀e∈es.drop G,e.cells.length=k:=fun e he=>hk e (PI he)
      have k':aO ((es.drop G).take (hn-G))=((aO es).drop (G*k)).take ((hn-G)*k):=by rw[vq _ h',sf _ hk]
      have hlen:((es.drop G).take (hn-G)).length=hn-G:=by simp;omega
      have O:∀j t,(aO ((es.drop G).take (hn-G)))[j]?=some t->(aO es)[G*k+j]?=some t:=fun j t Z=>by
       rw[k',NP]at Z
       split at Z
       ·rwa [N7]at Z
       ·cases Z
      have c':=run (some ⟨A,o,none⟩) es.length cap rfl hle;rw[Mo om]at c';simp only[Int.toNat_natCast,NR,Ai,j']at c';refine⟨_,c',?_⟩;have hd:((hn:Int)-(G:Int)).toNat=hn-G:=by omega
      simp only[Int.toNat_natCast,hd];have:=Rp.lst (F:=F) (w:=w) (zJ (.lst full es)&&((hn:Int)==(es.length:Int))) ((es.drop G).take (hn-G)) A (o+G*k) (cap-G) k (fun j=>g (G*k+j))
       (fun e he=>h' e (PK he)) (fun t Z=>by
        obtain⟨j,hj,e⟩:=N9 Z;exact g' t (MI (O j t (by rw[<-e];exact Mq hj))))
       (fun j hj=>by
        have:=hg _ (List.getElem?_eq_some_iff.1 (O j _ (Mq hj))).1
        rwa [<-NT]at this)
       (fun j t Z=>hr _ t (O j t Z)) (fun e=>by
        simp only[zJ,My,MO]at e;have:=hf e.1;rw[hlen];omega) (by rw[hlen];omega) om
      rwa [hlen]at this
     | _=>cases z
   ·cases hx
  ·cases hx
 ·cases hx
theorem iI (l:List UInt8):aO (l.map ga)=l.map ga:=by
 simp only[aO]
 induction l with
 | nil=>rfl
 | cons x l h=>simp only[MF,MM,h];rfl
theorem Ma {t t' ty:TypeId} {dst src r:V} {u v:Value} (h:SR gl n0 M w σ S) (z:apS P σ t t' dst src=some (r,σ')) (hu:Rv M w dst u) (hv:Rv M w src v) :
  ∃M' w' q,(Builtin.append_ #[t,t'] ty #[u,v]).run P w=.ok q w'/\Below n0 w w'/\Ff n0 (nx σ.obs) (nx σ'.obs) M w M' w'/\SR gl n0 M' w' σ' S/\Rv M' w' r q:=by
 unfold apS at z
 split at z
 ·rename_i e s G i' hs
  obtain rfl:=dF hv hs
  split at z
  ·rename_i i hi
   split at z
   ·rename_i hz
    split at z
    ·rename_i hc
     simp only[]at z;have key:∀(τ:Sg) (es:List Tr) (xs:List Value),SR gl n0 M w τ S->(if es.length+s.size<=140737488355328 then some (V.ref (nm σ),τ.new (nm σ) (.row e 1 (es++s.data.toList.map ga) false)) else none)=some (r,σ') ->
       w.ownsRow n0 e 1 u es.length xs->(∀t∈es,t.cells.length=1)->(∀t∈aO es,t.cell=true)->(∀(j:Nat) (t:Tr) (u:Value),(aO es)[j]?=some t->xs[j]?=some u->Rp M.F w t u)->(∀g,dG u=some g->M.F g=0) ->
       (∀m x g,m≠nm σ->gt τ.obs m=some x->dG (M.h m)=some g->dG u≠some g) ->
       ∃M' w' q,(Builtin.append_ #[t,t'] ty #[u,.string s]).run P w=.ok q w'/\Below n0 w w'/\Ff n0 (nx σ.obs) (nx σ'.obs) M w M' w'/\SR gl n0 M' w' σ' S/\Rv M' w' r q:=by
      intro τ es xs hsr z hown O hec hr hF hap
      split at z
      ·rename_i hb
       cases z
       obtain⟨v',w',c',ho,I,h'⟩:=Ik (P:=P) w n0 t t' ty e i G i' hi hz hc.1 hc.2 u es.length xs hown s hb h.size;have Z:∀g,dG u=some g->g<w.heap.size/\n0<=g/\∃c e fz,w.heap[g]?=some (.cells c e fz):=fun g I=>by
        rcases hown.2 with ⟨rfl,-⟩|⟨g',cap,cur,rfl,hb,hh,-⟩
        ·cases I
        ·cases I;exact⟨(Array.getElem?_eq_some_iff.1 hh).1,hb,_,_,_,hh⟩
       have f':s.data.toList.length=s.size:=by simp
       have a':∀x∈s.data.toList.map ga,x.cells.length=1/\x.cell=true:=fun x z=>by obtain⟨b,-,rfl⟩:=List.mem_map.1 z;exact⟨rfl,rfl⟩
       obtain⟨M',m1,m2,m3,m4⟩:=iG (n:=nm σ) (N:=nm σ) (e:=e) (k:=1) (zs:=es++s.data.toList.map ga) hsr (Mt _) om (by rw[Mw,MB,f'];exact ho) I
        (fun g I=>⟨hF g I,(Z g I).2,fun m x hm z e=>hap m x g hm z e I⟩)
        (fun g j'=>(h' g j').imp (fun e=>⟨e.symm,(Z g e).1⟩) id)
        (fun t G=>(List.mem_append.1 G).elim (O t) (fun G=>(a' t G).1)) (fun t G=>by rw[ml,iI]at G;exact (List.mem_append.1 G).elim (hec t) (fun G=>(a' t G).2))
        (qE (k:=0) (by rw[ij O,hown.1]) hr (fun j t u G hu=>by
         rw[iI,MA]at G;unfold Lib.strCells at hu;rw[MA]at hu
         cases hj:s.data.toList[j]? with
         | none=>rw[hj]at G;cases G
         | some b=>rw[hj]at G hu;cases G;cases hu;exact .at _))
       exact⟨M',w',v',c',m1,m2,m3,m4⟩
      ·cases z
     split at z
     ·cases hu with
      | p _ _ d' =>
       cases d'
       exact key _ [] [] h z ⟨by simp,.inl ⟨rfl,rfl⟩⟩ jS jS jS (fun g I=>by cases I) (fun m x g _ _ _ e=>by cases e)
     ·rename_i n
      split at z
      ·rename_i e' k es hn
       split at z
       ·rename_i O
        obtain⟨rfl,rfl⟩:=O
        cases hu with
        | ref _ l' =>
         obtain⟨g1,g2,xs,g3,g4,g5,g6,g7⟩:=h.ob n _ hn;exact key _ es xs (h.rm n) z g3 g4 g5 g6 (fun g I=>by have:=g7 g I;rwa [Mo jS]at this) (fun m x g hm z I e=>(by
          have J:gt (rm σ.obs n) m=some x:=z;rw[Ci]at J
          split at J
          ·cases J
          ·rename_i k';exact h.apart m n x _ g (MT k') J hn I e))
       ·cases z
      ·cases z
     ·cases z
    ·cases z
   ·cases z
  ·cases z
 ·cases z
theorem zg:∀{es:List Tr} {l:List UInt8},bys es=some l->es=l.map ga
 | [],l,h=>by cases h;rfl
 | x::es,l,h=>by
  unfold bys at h
  split at h
  ·rename_i e;cases e
  ·rename_i i m e
   cases e
   split at h
   ·rename_i G
    cases z:bys es with
    | none=>rw[z]at h;cases h
    | some I =>
     rw[z]at h;cases h;rw[MF,<-zg z,ga,G]
   ·cases h
  ·cases h
theorem LD {src dst:TypeId} {x y:V} {u:Value} (h:SR gl n0 M w σ S) (G:bst P σ src dst x=some y) (hu:Rv M w x u):∃q,(convert src dst u).run P w=.ok q w/\Rv M w y q:=by
 unfold bst at G
 split at G
 ·rename_i e hs hd
  split at G
  ·rename_i d he
   split at G
   ·rename_i h8
    have h':d=.int .u8:=by
     unfold I2 at h8
     split at h8
     ·rfl
     ·cases h8
    subst h';have back:∀(A:Option Addr) (cap:Nat) (l:List UInt8),(∀j b,l[j]?=some b->∃a,A=some a/\w.cell? (a.add j)=some (.int .u8 b.toNat))->(convert src dst (.slice A l.length cap)).run P w=.ok (.string ⟨l.toArray⟩) w:=by
     intro A cap l hc
     cases A with
     | none =>
      have:l=[]:=by
       cases l with
       | nil=>rfl
       | cons b l=>obtain⟨a,e,-⟩:=hc 0 b rfl;cases e
      subst this;show (convert src dst (.slice none 0 cap)).run P w=_;rw[run_convert_bytes_string w src dst e none 0 cap hs he hd];rfl
     | some a =>
      refine run_convert_bytes_back (P:=P) w src dst e a cap l hs he hd fun j I=>?_
      obtain⟨a',e',O⟩:=hc j _ (Mq I)
      cases e';exact O
    split at G
    ·rename_i full es
     cases J:bys es with
     | none=>rw[J]at G;cases G
     | some l =>
      rw[J]at G;cases G;have i':=zg J
      cases hu with
      | p _ _ h1 =>
       cases h1 with
       | nil a cap =>
        cases J
        exact⟨_,back a cap [] (fun j b I=>by simp at I),.p _ _ (.at _)⟩
       | lst _ _ A o cap k g hk l' hg hr hf hle hm =>
        subst i';refine⟨_,?_,.p _ _ (.at _)⟩;have:=back (some ⟨A,o,none⟩) cap l (fun j b I=>by
         have c':(aO (l.map ga))[j]?=some (ga b):=by rw[iI,MA,I];rfl
         have h2:=hg j (List.getElem?_eq_some_iff.1 c').1;have h3:=hr j _ c';refine⟨_,rfl,?_⟩;rw[cN,h2.1];generalize g j=z at h3
         cases h3;rfl)
        rwa [MB]
    ·rename_i n
     split at G
     ·rename_i e' k es fz hn
      split at G
      ·rename_i f'
       subst f'
       cases J:bys es with
       | none=>rw[J]at G;cases G
       | some l =>
        rw[J]at G;cases G;have:=zg J;subst this
        cases hu with
        | ref _ k' =>
         obtain⟨g1,g2,xs,g3,g4,g5,g6,g7⟩:=h.ob n _ hn;refine⟨_,?_,.p _ _ (.at _)⟩;have d':xs.length=l.length:=by rw[g3.1];simp
         have key:∀j b,l[j]?=some b->∃a cap,M.h n=.slice (some a) (l.map ga).length cap/\w.cell? (a.add j)=some (.int .u8 b.toNat):=fun j b I=>by
          have Z:j<xs.length:=by rw[d'];exact (List.getElem?_eq_some_iff.1 I).1
          obtain⟨A,cap,e1,e2⟩:=cW g3 (Mq Z);have h6:=g6 j _ _ (by rw[iI,MA,I];rfl) (Mq Z);refine⟨_,cap,e1,?_⟩;rw[cN,e2];generalize xs[j]=z at h6
          cases h6;rfl
         rcases g3.2 with ⟨hv,g'⟩|⟨g,cap,cur,hv,-⟩
         ·rw[hv];have:l=[]:=M8 (jQ g');subst this;exact back none 0 [] (fun j b I=>by simp at I)
         ·rw[hv];have:=back (some ⟨g,0,none⟩) cap l (fun j b I=>by
           obtain⟨a,j',e1,e2⟩:=key j b I;rw[hv]at e1
           cases e1;exact⟨_,rfl,e2⟩)
          rwa [MB]
      ·cases G
     ·cases G
    ·cases G
   ·cases G
  ·cases G
 ·cases G
theorem mY (h:SR gl n0 M w σ (rf a ρ::S)) {x:Option Operand} {r:Option Int} (z:evo gl σ x=some r):(∀l,r=some l->∃k,x.map a.eval=some (.int k l))/\(r=none->x.map a.eval=none):=by
 cases x with
 | none=>cases z;exact⟨fun l e=>(by cases e),fun _=>rfl⟩
 | some y =>
  simp only[evo]at z
  cases hy:evl gl σ y with
  | none=>rw[hy]at z;cases z
  | some v =>
   rw[hy,MR]at z
   cases G:v.int? with
   | none=>rw[G]at z;cases z
   | some n =>
    rw[G]at z;cases z;obtain⟨k,e⟩:=qX (aJ h hy) G;exact⟨fun l e'=>(by cases e';exact⟨k,by simp[e]⟩),fun e'=>(by cases e')⟩
end
end
section
def Kz:V->Bool
 | .p (.at (.slice none 0 0))=>true
 | _=>false
def apM (P:Program) (σ:Sg) (t h:TypeId) (dst src:V):Option (V × Sg) :=
 match P.underlying t,P.underlying h,src.toVal with
 | some (.slice e),some (.int _),some (.int _ (.ofNat n))=>match P.info? e with
  | some i=>match i.zero with
   | some z=>if Kz dst=true/\z.cells.size=i.size/\0<i.size/\0<n/\n<=9223372036854775807/\n<=maxLen/\n*i.bytes<=281474976710656/\Builtin.nextslicecap n 0*i.bytes<=281474976710656/\z.cells.all (·.oneCell')=true then
     some (.ref (nm σ),σ.new (nm σ) (.row e i.size (List.replicate n (.at z)) false)) else none
   | none=>none
  | none=>none
 | _,_,_=>none
def slR (P:Program) (σ:Sg) (t:TypeId) (x:V) (h z:Option Int):Option (V × Sg) :=
 match P.underlying t,x,h,z with
 | some (.slice e),.ref n,none,some (.ofNat m)=>match P.info? e,gt σ.obs n with
  | some i,some (.row e' k es false)=>if e'=e/\i.size=k/\m<=es.length/\m=0 then some (.ref (nm σ),(σ.rm n).new (nm σ) (.row e k (es.take m) false)) else none
  | _,_=>none
 | _,_,_,_=>none
section
variable {P : Program} {gl : Nat -> Option (List Tr)} {n0 : Nat} {M M' : Mem} {w w' : World} {σ σ' : Sg} {S : List Rf} {a : Act} {o : Oper}
theorem Lb {t t' ty:TypeId} {dst src r:V} {u v:Value} (h:SR gl n0 M w σ S) (J:apM P σ t t' dst src=some (r,σ')) (hu:Rv M w dst u) (hv:Rv M w src v) :
  ∃M' w' q,(Builtin.append_ #[t,t'] ty #[u,v]).run P w=.ok q w'/\Below n0 w w'/\Ff n0 (nx σ.obs) (nx σ'.obs) M w M' w'/\SR gl n0 M' w' σ' S/\Rv M' w' r q:=by
 unfold apM at J
 split at J
 ·rename_i e ki kj n Z m' hs
  obtain rfl:=dF hv hs
  split at J
  ·rename_i i hi
   split at J
   ·rename_i z hz
    split at J
    ·rename_i hc
     cases J
     obtain⟨c0,c1,c2,c3,c4,c5,c6,c7,c8⟩:=hc;have g':u=.slice none 0 0:=by
      unfold Kz at c0
      split at c0
      ·cases hu with|p _ _ hu=>cases hu;rfl
      ·cases c0
     subst g';have O:=Lib.run_append_grow_zeros (P:=P) w t t' ty e i z kj ki Z m' hi hz none 0 0 [] (run_firstCells_none (w:=w.drew) i.size 0 0 0) n c3 c2 om om c6 (by rw[MC];exact c7);rw[MC]at O;have k':n<=grownCap w n 0 e:=grownCap_ge w n 0 e;have j':=grownCap_le_maxLen w n 0 e c5;generalize grownCap w n 0 e=G at O k' j';have f':(Tr.at z).cells.length=i.size:=by rw[iH];simpa using c1
     have d':∀t∈List.replicate n (Tr.at z),t.cells.length=i.size:=fun t Z=>by rw[(List.mem_replicate.1 Z).2];exact f'
     have a':∀x∈z.cells.toList,x.oneCell'=true:=fun x J=>(Array.all_eq_true_iff_forall_mem.1 c8) x (jQ J)
     have h':(Builtin.zeroCells z.cells n).size=n*i.size:=by rw[size_zeroCells,c1]
     have l':(#[]++Builtin.zeroCells z.cells n++Builtin.zeroCells z.cells (G-n)).size=G*i.size:=by
      rw[Array.size_append,Array.size_append,size_zeroCells,size_zeroCells,c1,show (#[]:Array Value).size=0 from rfl,MC,<-Ou];congr 1;omega
     obtain⟨M',m1,m2,m3,m4⟩:=iG (n:=nm σ) (N:=nm σ) (e:=e) (k:=i.size) (zs:=List.replicate n (.at z)) (row:=none) (v':=.slice (some ⟨w.heap.size,0,none⟩) n G) (xs:=(Builtin.zeroCells z.cells n).toList)
      (w':=w.drew.alloc (.cells (([]:List Value).toArray++Builtin.zeroCells z.cells n++Builtin.zeroCells z.cells (G-n)) e)) h (Mt _) c2
      ⟨by simp[h'],.inr ⟨w.heap.size,G,_,by simp,h.size,Nr w.drew _,by simp;omega,j',l',by
       rw[List.length_replicate];simp[<-h']⟩⟩
      (have g:=World.grownBy_alloc w.drew (.cells (([]:List Value).toArray++Builtin.zeroCells z.cells n++Builtin.zeroCells z.cells (G-n)) e) none;⟨g.os,g.tape,g.output,g.size,g.block⟩) (fun g hg=>by cases hg) (fun g hg=>by cases hg;exact .inr rfl) d'
      (fun t Z=>by
       obtain⟨s,hs,i'⟩:=List.mem_flatMap.1 Z;rw[(List.mem_replicate.1 hs).2,iH]at i';obtain⟨y,hy,rfl⟩:=List.mem_map.1 i';exact a' y hy)
      (fun j t u Z hu=>by
       have hj:=(List.getElem?_eq_some_iff.1 Z).1;rw[ij d',List.length_replicate]at hj;rw[qc f' c2 _ _ hj,iH,MA]at Z;have c':j%i.size<z.cells.size:=by rw[c1];exact Nat.mod_lt _ c2
       have I:(Builtin.zeroCells z.cells n)[j]?=some u:=jQ hu;unfold Builtin.zeroCells at I;rw[Array.getElem?_map,Array.getElem?_range]at I;rw[Mp (by rw[c1];exact hj)]at I;simp only[NR,Ol]at I;rw[N6,MJ c']at Z
       cases Z
       have e1:z.cells[j%z.cells.size]! = z.cells[j%i.size]:=by simp only[c1];exact getElem!_pos z.cells _ c'
       rw[e1]at I;exact I▸.at _)
     exact⟨M',_,_,O,m1,m2,m3,m4⟩
    ·cases J
   ·cases J
  ·cases J
 ·cases J
theorem Mb {t:TypeId} {x r:V} {lo hi:Option Int} {v:Value} {i' d':Option Value} (h:SR gl n0 M w σ S) (I:slR P σ t x lo hi=some (r,σ')) (Z:Rv M w x v) (m':lo=none->i'=none)
  (l':∀l,hi=some l->∃k,d'=some (.int k l)) :
  ∃M' q,(Instr.sliceAt t v i' d' none).run P w=.ok q w/\Below n0 w w/\Ff n0 (nx σ.obs) (nx σ'.obs) M w M' w/\SR gl n0 M' w σ' S/\Rv M' w r q:=by
 unfold slR at I
 split at I
 ·rename_i e n m z
  cases m' rfl
  split at I
  ·rename_i i e' k es q' hn
   split at I
   ·rename_i hc
    cases I
    obtain⟨rfl,rfl,hle,-⟩:=hc;obtain⟨kk,rfl⟩:=l' _ rfl
    cases Z with
    | ref _ r' =>
     obtain⟨g1,g2,xs,g3,g4,g5,g6,g7⟩:=h.ob n _ hn;have p':∀(len cap:Nat),m<=len->len<=cap->(Instr.sliceBounds true len cap none (some (.int kk (m:Int))) none).run P w=.ok (0,m,cap) w:=fun len cap h1 h2=>by
      simp[Instr.sliceBounds,PD w kk (m:Int) cap _ om (by simp;omega)]
     have run:∀(A:Option Addr) (len cap:Nat),m<=len->len<=cap->(Instr.sliceAt t (.slice A len cap) none (some (.int kk (m:Int))) none).run P w =
       .ok (.slice (if cap=0 then A else A.map (·.add (0*i.size))) (m-0) (cap-0)) w:=fun A len cap h1 h2=>by
      simp[Instr.sliceAt,Instr.slice,M6 z,p' len cap h1 h2,dq q']
     have j':∀t∈es.take m,t.cells.length=i.size:=fun t z=>g4 t (PK z)
     have O:∀(j:Nat) (t:Tr),(aO (es.take m))[j]?=some t->(aO es)[j]?=some t:=fun j t z=>by
      rw[vq _ g4,NP]at z
      split at z
      ·exact z
      ·cases z
     have key:∀v',(Instr.sliceAt t (M.h n) none (some (.int kk (m:Int))) none).run P w=.ok v' w->w.ownsRow n0 e' i.size v' (es.take m).length (xs.take (m*i.size))->dG v'=dG (M.h n)->∃M' q,(Instr.sliceAt t (M.h n) none (some (.int kk (m:Int))) none).run P w=.ok q w/\Below n0 w w /\
       Ff n0 (nx σ.obs) (nx ((σ.rm n).new (nm σ) (.row e' i.size (es.take m) false)).obs) M w M' w/\SR gl n0 M' w ((σ.rm n).new (nm σ) (.row e' i.size (es.take m) false)) S/\Rv M' w (.ref (nm σ)) q:=by
      intro v' h' a' f';have c':∀g,dG (M.h n)=some g->g<w.heap.size/\n0<=g/\∃c e fz,w.heap[g]?=some (.cells c e fz):=fun g G=>by
       rcases g3.2 with ⟨e,-⟩|⟨g',cap,cur,e,hb,hh,-⟩
       ·rw[e]at G;cases G
       ·rw[e]at G;cases G;exact⟨(Array.getElem?_eq_some_iff.1 hh).1,hb,_,_,_,hh⟩
      obtain⟨M',m1,m2,m3,m4⟩:=iG (w':=w) (n:=nm σ) (N:=nm σ) (e:=e') (k:=i.size) (zs:=es.take m) (row:=dG (M.h n)) (v':=v') (xs:=xs.take (m*i.size)) (h.rm n) (Mt _) g2 a'
       ⟨rfl,rfl,rfl,Mt _,fun b hb s'=>rfl⟩
       (fun g G=>⟨by have:=g7 g G;rwa [Mo jS]at this,(c' g G).2,fun m x hm I e=>by
        have J:gt (rm σ.obs n) m=some x:=I;rw[Ci]at J
        split at J
        ·cases J
        ·rename_i n';exact h.apart m n x _ g (MT n') J hn e G⟩)
       (fun g G=>.inl ⟨by rw[<-f'];exact G.symm,(c' g (f'▸G)).1⟩)
       j' (fun t z=>by
        obtain⟨j,hj,e⟩:=N9 z;exact g5 t (MI (O j t (by rw[<-e];exact Mq hj))))
       (fun j t u z hu=>by
        rw[NP]at hu
        split at hu
        ·exact g6 j t u (O j t z) hu
        ·cases hu)
      exact⟨M',v',h',m1,m2,m3,m4⟩
     rcases g3.2 with ⟨Z,hz⟩|⟨g,cap,cur,Z,hb,hh,hcap,hmx,hs,htk⟩
     ·have k':m=0:=by omega
      subst k';have:=run none 0 0 (Mt _) (Mt _);rw[<-Z]at this;refine key _ this ⟨by simp,.inl ⟨?_,by simp⟩⟩ (by rw[Z];rfl);simp
     ·have:=run (some ⟨g,0,none⟩) es.length cap hle hcap;rw[<-Z]at this;have e0:(if cap=0 then some (⟨g,0,none⟩:Addr) else (some (⟨g,0,none⟩:Addr)).map (·.add (0*i.size)))=some ⟨g,0,none⟩:=by
       split
       ·rfl
       ·rw[Nn];rfl
      rw[e0]at this;refine key _ this ⟨?_,.inr ⟨g,cap,cur,?_,hb,hh,?_,hmx,hs,?_⟩⟩ (by rw[Z];rfl)
      ·rw[Nx,g3.1,Nx];have:=Ov i.size hle;rw[Nat.min_eq_left hle];omega
      ·rw[Nx,Nat.min_eq_left hle];rfl
      ·rw[Nx];omega
      ·rw[Nx,Nat.min_eq_left hle,<-htk,List.take_take];congr 1;have:=Ov i.size hle;omega
   ·cases I
  ·cases I
 ·cases I
end
end
section
def sa (P:Program) (gl:Nat->Option (List Tr)) (o:Oper) (σ:Sg):Option (V × Sg) :=
 match o.op with
 | .alloc t=>((P.info? t).bind (·.zero)).map fun z=>gx σ (zrV z)
 | .box _ x=>((evl gl σ x).bind V.cells).map (gx σ)
 | .store t x y=>match evl gl σ x,evl gl σ y with
  | some x,some y=>match BO P σ t x y with
   | some r=>some r
   | none=>(y.frz false σ).bind fun u=>BO P (σ.fzs y.nms) t x (.p u)
  | _,_=>none
 | .buildSlice t len parts=>(mL gl σ (parts.toList.map (·.2))).bind fun vs=>match bsl P σ t len ((parts.toList.map (·.1)).zip vs) with|some r=>some r|none=>Lt P σ t len ((parts.toList.map (·.1)).zip vs)
 | .makeMap _ none=>some (xu σ)
 | .makeSlice t l c=>match evl gl σ l,evl gl σ c with|some l,some c=>mks P σ t l c|_,_=>none
 | .convert s d x=>match evl gl σ x with|some x=>(J1 P s d x).map fun y=>(y,σ)|none=>none
 | .mapUpdate t m k x=>match evl gl σ m,evl gl σ k,evl gl σ x with|some m,some k,some x=>mup P σ t m k x|_,_,_=>none
 | .insert t m k x=>match evl gl σ m,evl gl σ k,evl gl σ x with|some m,some k,some x=>mup P σ t m k x|_,_,_=>none
 | .lookup t x G ok=>match evl gl σ x,evl gl σ G with|some x,some G=>(lkp P σ t x G ok).map fun y=>(y,σ)|_,_=>none
 | .mapEntry t m k=>match evl gl σ m,evl gl σ k with|some m,some k=>men P σ t m k|_,_=>none
 | .entryStore _ m s x=>match evl gl σ m,evl gl σ s,evl gl σ x with|some m,some s,some x=>mst σ m s x|_,_,_=>none
 | .slice t x J I none=>match evl gl σ x,evo gl σ J,evo gl σ I with
  | some y,some l,some h=>match slR P σ t y l h with
   | some r=>some r
   | none=>((y.frz false σ).bind fun u=>slc P t u l h).map fun r=>(.p r,σ.fzs y.nms)
  | _,_,_=>none
 | .call c=>match c.callee,c.args.toList,c.argTypes.toList with
  | .builtin .append,[s,x],[t,t']=>if t=t' then match evl gl σ s,evl gl σ x with|some s,some x=>(match app P σ t s x with|some r=>some r|none=>LZ P σ t s x)|_,_=>none else match evl gl σ s,evl gl σ x with|some s,some x=>(match apS P σ t t' s x with|some r=>some r|none=>apM P σ t t' s x)|_,_=>none
  | _,_,_=>none
 | _=>none
def Hh (P:Program) (gl:Nat->Option (List Tr)) (o:Oper) (σ:Sg):Option (V × Sg) :=
 match sa P gl o σ with
 | some r=>some r
 | none=>match ge P gl o σ with
  | some x=>some (x,σ)
  | none=>(gO P gl o σ).map fun x=>(x,σ)
section
variable {ρ : Option Nat}
variable {P : Program} {gl : Nat -> Option (List Tr)} {n0 : Nat} {M M' : Mem} {w w' : World} {σ σ' : Sg} {S : List Rf} {a : Act} {o : Oper}
theorem ubb {p:Prop} (h:p:=by
  rw[ho]
  split at G
  ·rename_i mv kv yv hm hk hy
   obtain⟨M',w',J,I,O,Z,h5⟩:=Hf h G (aJ h hm) (aJ h hk) (aJ h hy);exact⟨M',w',undef,.inr ⟨by simp[J],rfl⟩,I,O,Z,h5▸.p _ _ (.at _)⟩
  ·cases G):p:=h
theorem wT {x:V} (G:sa P gl o σ=some (x,σ')):Goes P gl o σ x σ':=by
 intro n0 M w S a ρ h;unfold sa at G;unfold execOp
 split at G
 ·rename_i t ho
  rw[ho]
  cases hi:P.info? t with
  | none=>rw[hi]at G;cases G
  | some i =>
   rw[hi,MR]at G
   cases hz:i.zero with
   | none=>rw[hz]at G;cases G
   | some z =>
    rw[hz]at G;simp only[NR,Ol]at G;obtain⟨M',J,I,O,Z,-⟩:=mX h (qH z) t;rw[G]at I O Z;exact⟨M',_,_,.inl (by simp[Instr.alloc,zeroValue,typeInfo,hi,hz,newVar,newRow]),J,I,O,Z⟩
 ·rename_i t y ho
  rw[ho]
  cases hy:evl gl σ y with
  | none=>rw[hy]at G;cases G
  | some yv =>
   rw[hy,MR]at G
   cases hc:yv.cells with
   | none=>rw[hc]at G;cases G
   | some cs =>
    rw[hc]at G;simp only[NR,Ol]at G;obtain⟨M',J,I,O,Z,-⟩:=mX h ((aJ h hy).cells hc) t;rw[G]at I O Z;exact⟨M',_,_,.inl (by simp[Instr.box,newVar,newRow]),J,I,O,Z⟩
 ·rename_i t y z ho
  rw[ho]
  split at G
  ·rename_i yv zv hy hz
   split at G
   ·rename_i r hr
    cases G
    obtain⟨w',J,I,hf,O,Z⟩:=yi h hr (aJ h hy) (aJ h hz);exact⟨M,w',undef,.inr ⟨by simp[J],rfl⟩,I,hf,O,Z▸.p _ _ (.at _)⟩
   ·cases f':zv.frz false σ with
    | none=>rw[f']at G;cases G
    | some u =>
     rw[f',MR]at G;obtain⟨F,f1,f2,f3,f4⟩:=h.frz (aJ h hz) f';obtain⟨w',J,I,hf,O,Z⟩:=yi f3 G (FU f1 (aJ h hy)) (.p _ _ f4);exact⟨{ M with F:=F },w',undef,.inr ⟨by simp[J],rfl⟩,I,f2.trans hf,O,Z▸.p _ _ (.at _)⟩
  ·cases G
 ·rename_i t len parts ho
  rw[ho]
  cases hv:mL gl σ (parts.toList.map (·.2)) with
  | none=>rw[hv]at G;cases G
  | some vs =>
   rw[hv,MR]at G;have hr:=gV h hv;have hlen:vs.length=parts.toList.length:=by have:=hr.1;simpa using this.symm
   have c':(parts.toList.map fun x=>(x.1,a.eval x.2)).map (·.1)=((parts.toList.map (·.1)).zip vs).map (·.1):=by rw[Oa,List.map_fst_zip (by simp[hlen])];rfl
   have a':Rvs M w (((parts.toList.map (·.1)).zip vs).map (·.2)) ((parts.toList.map fun x=>(x.1,a.eval x.2)).map (·.2)):=by
    rw[List.map_snd_zip (by simp[hlen]),Oa];have:(fun x:Nat × Value=>x.2) ∘ (fun x:Nat × Operand=>(x.1,a.eval x.2))=a.eval ∘ (fun x=>x.2):=rfl;rw[this,<-Oa];exact hr
   obtain⟨M',w',u,J,I,O,Z,h5⟩:∃M' w' u,(Instr.buildSlice t len (parts.toList.map fun x=>(x.1,a.eval x.2)).toArray).run P w=.ok u w'/\Below n0 w w'/\Ff n0 (nx σ.obs) (nx σ'.obs) M w M' w'/\SR gl n0 M' w' σ' (rf a ρ::S)/\Rv M' w' x u:=by
    split at G
    ·rename_i r k';cases G;exact Ig h k' c' a'
    ·exact I8 h G c' a'
   have he:(parts.toList.map fun x=>(x.1,a.eval x.2)).toArray=parts.map fun x=>(x.1,a.eval x.2):=by apply OG;simp
   rw[he]at J;exact⟨M',w',u,.inl (by simp[J]),I,O,Z,h5⟩
 ·rename_i t ho
  rw[ho];obtain⟨M',J,I,O,Z⟩:=E5 h
  cases G
  exact⟨M',_,_,.inl (by simp[Instr.makeMap]),J,I,O,Z⟩
 ·rename_i t l c ho
  rw[ho]
  split at G
  ·rename_i lv cv hl hc
   obtain⟨M',w',q,J,I,O,Z,h5⟩:=KY h G (aJ h hl) (aJ h hc);exact⟨M',w',q,.inl (by simp[J]),I,O,Z,h5⟩
  ·cases G
 ·rename_i s d y ho
  rw[ho]
  split at G
  ·rename_i yv hy
   cases hb:J1 P s d yv with
   | none=>rw[hb]at G;cases G
   | some z =>
    rw[hb]at G;cases G;obtain⟨F,v,w',J,I,O,Z⟩:=I7 h hb (aJ h hy);exact⟨{ M with F:=F },w',v,.inl (by simp[J]),I.mono h.size,.grow I O h.size,h.grow I F O,Z⟩
  ·cases G
 ·rename_i t m k y ho
  exact ubb
 ·rename_i t m k y ho
  exact ubb
 ·rename_i t y ix ok ho
  rw[ho]
  split at G
  ·rename_i yv iv hy hi
   cases hl:lkp P σ t yv iv ok with
   | none=>rw[hl]at G;cases G
   | some r =>
    rw[hl]at G;cases G;obtain⟨q,J,I⟩:=FQ h hl (aJ h hy) (aJ h hi);exact⟨M,w,q,.inl (by simp[J]),Mr _ _,.refl _ _ _ _,h,I⟩
  ·cases G
 ·rename_i t m k ho
  rw[ho]
  split at G
  ·rename_i mv kv hm hk
   obtain⟨w',q,J,I,hf,O,Z⟩:=L0 h G (aJ h hm) (aJ h hk);exact⟨M,w',q,.inl (by simp[J]),I,hf,O,Z⟩
  ·cases G
 ·rename_i t m s y ho
  rw[ho]
  split at G
  ·rename_i mv sv yv hm hs hy
   obtain⟨w',J,I,hf,O,Z⟩:=KL (P:=P) (t:=t) h G (aJ h hm) (aJ h hs) (aJ h hy);exact⟨M,w',undef,.inr ⟨by simp[J],rfl⟩,I,hf,O,Z▸.p _ _ (.at _)⟩
  ·cases G
 ·rename_i t y lo hi ho
  rw[ho]
  split at G
  ·rename_i yv l hh hy hl g'
   split at G
   ·rename_i r hr
    cases G
    obtain⟨M',q,J,I,O,Z,h5⟩:=Mb h hr (aJ h hy) (mY h hl).2 (mY h g').1;exact⟨M',w,q,.inl (by simp[J]),I,O,Z,h5⟩
   ·cases hf:yv.frz false σ with
    | none=>rw[hf]at G;cases G
    | some u =>
     rw[hf,MR]at G
     cases d':slc P t u l hh with
     | none=>rw[d']at G;cases G
     | some r =>
      rw[d']at G;cases G;obtain⟨F,f1,f2,f3,f4⟩:=h.frz (aJ h hy) hf;obtain⟨q,J,I⟩:=Gt d' f4 (mY h hl) (mY h g');exact⟨{ M with F:=F },w,q,.inl (by simp[J]),Mr _ _,f2,f3,.p _ _ I⟩
  ·cases G
 ·rename_i c ho
  rw[ho];obtain⟨cl,h',i'⟩:=c;simp only[]at G
  split at G
  ·rename_i s y t t' e1 e2
   have l':h'=#[s,y]:=by rw[<-PJ (xs:=h'),e1]
   have j':i'=#[t,t']:=by rw[<-PJ (xs:=i'),e2]
   subst l' j'
   split at G
   ·rename_i e
    subst e
    split at G
    ·rename_i sv yv hs hy
     obtain⟨M',w',q,J,I,O,Z,h5⟩:∃M' w' q,(Builtin.append_ #[t,t] o.type #[a.eval s,a.eval y]).run P w=.ok q w'/\Below n0 w w'/\Ff n0 (nx σ.obs) (nx σ'.obs) M w M' w'/\SR gl n0 M' w' σ' (rf a ρ::S)/\Rv M' w' x q:=by
      split at G
      ·rename_i r hr;cases G;exact L2 h hr (aJ h hs) (aJ h hy)
      ·exact Jg h G (aJ h hs) (aJ h hy)
     exact⟨M',w',q,.inl (by simp[resolve,invoke,builtin,J]),I,O,Z,h5⟩
    ·cases G
   ·split at G
    ·rename_i sv yv hs hy
     obtain⟨M',w',q,J,I,O,Z,h5⟩:∃M' w' q,(Builtin.append_ #[t,t'] o.type #[a.eval s,a.eval y]).run P w=.ok q w'/\Below n0 w w'/\Ff n0 (nx σ.obs) (nx σ'.obs) M w M' w'/\SR gl n0 M' w' σ' (rf a ρ::S)/\Rv M' w' x q:=by
      split at G
      ·rename_i r hr;cases G;exact Ma h hr (aJ h hs) (aJ h hy)
      ·exact Lb h G (aJ h hs) (aJ h hy)
     exact⟨M',w',q,.inl (by simp[resolve,invoke,builtin,J]),I,O,Z,h5⟩
    ·cases G
  ·cases G
 ·cases G
theorem FL {x:V} (h:Hh P gl o σ=some (x,σ')):Goes P gl o σ x σ':=by
 unfold Hh at h
 split at h
 ·rename_i r hr;cases h;exact wT hr
 ·split at h
  ·rename_i y hy;cases h;exact (qC hy).goes
  ·cases hp:gO P gl o σ with
   | none=>rw[hp]at h;cases h
   | some y=>rw[hp]at h;cases h;exact (lA hp).goes
def Rnd (ρ:Option Nat):Fence:={ Fence.wide with round:=ρ }
theorem nh {P:Program} {n:Nat} {f:FuncId} {args:Array Value} {w:World} {R:Ending->World->Prop}:CallsIn (Rnd ρ) n P f args w R↔Calls P f args w R:=OQ
theorem kG {P:Program} {o:Oper} {e:Operand->Value} {w:World} {r:Result Next} (h:(execOp e o).run P w=r) (hr:∀d w',r≠.ok (.defer d) w') (J:∀x w',r≠.halt x w'):(o.semAt ρ e).run P w=r:=by
 by_cases I:∃c,o.op=.defer c
 ·obtain⟨c,G⟩:=I
  exfalso
  unfold execOp at h;rw[G]at h;simp only[MP]at h
  cases z:(resolve e c o.type).run P w with
  | ok d w'=>rw[z]at h;exact hr d w' h.symm
  | halt x w'=>rw[z]at h;exact J x w' h.symm
 ·rw[Oper.semAt_eq ρ e o (fun c G=>I ⟨c,G⟩)];exact h
theorem ubc {p:Prop} (h:p:=by
  refine⟨fun _ _=>trivial,?_⟩;rw[kG h (fun d w' e=>by cases e) (fun x w' e=>by cases e)];exact hk):p:=h
theorem lC {P:Program} {o:Oper} {a:Act} {w w':World} {u:Value} {K:Act->World->Prop} {Q:Exit->Act->World->Prop} {n:Nat} (h:(execOp a.eval o).run P w=.ok (.value u) w') (hk:K (a.put o.dst u) w'):o.wpIn (Rnd ρ) n P a w K Q:=by
 exact ubc
theorem Be {P:Program} {o:Oper} {a:Act} {w w':World} {K:Act->World->Prop} {Q:Exit->Act->World->Prop} {n:Nat} (h:(execOp a.eval o).run P w=.ok .skip w') (hk:K (a.put o.dst undef) w'):o.wpIn (Rnd ρ) n P a w K Q:=by
 exact ubc
theorem iZ {P:Program} {o:Oper} {a:Act} {w w':World} {f:FuncId} {args:Array Value} {K:Act->World->Prop} {Q:Exit->Act->World->Prop} {n:Nat} (h:(execOp a.eval o).run P w=.ok (.enter f args) w')
  (hk:Calls P f args w' fun e z=>∃v,e=.returned v/\K (a.put o.dst v) z):o.wpIn (Rnd ρ) n P a w K Q:=by
 refine⟨fun _ _=>trivial,?_⟩;rw[kG h (fun d w' e=>by cases e) (fun x w' e=>by cases e)];refine⟨fun h=>(by cases h),nh.2 (hk.mono ?_)⟩;rintro e z ⟨v,rfl,G⟩;exact G
def QDoes (P:Program) (gl:Nat->Option (List Tr)) (o:Oper) (σ:Sg) (x:V):Prop :=
 ∀(n0:Nat) (M:Mem) (w:World) (S:List Rf) (a:Act) (ρ:Option Nat),SR gl n0 M w σ (rf a ρ::S)->∀(K:Act->World->Prop) (Q:Exit->Act->World->Prop) (n:Nat),
  (∀F u w',Mm w w'->(∀b,b<w.heap.size->F b=M.F b)->Rv { M with F:=F } w' x u->K (a.put o.dst u) w')->o.wpIn (Rnd ρ) n P a w K Q
def kq (P:Program) (gl:Nat->Option (List Tr)) (o:Oper) (σ:Sg) (x:V) (σ':Sg):Prop :=
 ∀(n0:Nat) (M:Mem) (w:World) (S:List Rf) (a:Act) (ρ:Option Nat),SR gl n0 M w σ (rf a ρ::S)->∀(K:Act->World->Prop) (Q:Exit->Act->World->Prop) (n:Nat),
  (∀M' u w',Below n0 w w'->Ff n0 (nx σ.obs) (nx σ'.obs) M w M' w'->SR gl n0 M' w' σ' (rf a ρ::S)->Rv M' w' x u->K (a.put o.dst u) w')->o.wpIn (Rnd ρ) n P a w K Q
theorem Quiet.qdoes {x:V} (h:Quiet P gl o σ x):QDoes P gl o σ x:=fun n0 M w S a ρ hs K Q n hk=>by
 obtain⟨v,G,z⟩:=h n0 M w S a ρ hs;exact lC G (hk M.F v w (Mr _ _) (fun _ _=>rfl) z)
theorem Goes.does {x:V} (h:Goes P gl o σ x σ'):kq P gl o σ x σ':=fun n0 M w S a ρ hs K Q n hk=>by
 obtain⟨M',w',u,z,G,O,I,J⟩:=h n0 M w S a ρ hs;rcases z with z|⟨z,rfl⟩
 ·exact lC z (hk M' _ w' G O I J)
 ·exact Be z (hk M' _ w' G O I J)
theorem QDoes.does {x:V} (h:QDoes P gl o σ x):kq P gl o σ x σ:=fun n0 M w S a ρ hs K Q n hk =>
 h n0 M w S a ρ hs K Q n fun F u w' z hF hr=>hk { M with F:=F } u w' (z.mono hs.size) (.grow z hF hs.size) (hs.grow z F hF) hr
def Le (σ σ':Sg):Prop:=(∀n x,gt σ.obs n=some x->gt σ'.obs n=some x)/\(∀(M:Mem) (w:World) (S:List Rf),Stk M w σ'.stk S->Stk M w σ.stk S)/\σ.lps=σ'.lps/\σ.stk.flatMap (·.ds)=σ'.stk.flatMap (·.ds)
theorem QDoes.mono {x:V} (h:QDoes P gl o σ x) (z:Le σ σ'):QDoes P gl o σ' x:=fun n0 M w S a ρ hs=>h n0 M w S a ρ (hs.less z.1 (z.2.1 M w _ hs.stk) z.2.2.1 z.2.2.2)
theorem sw {α:Type} (q:Nat->Bool):∀(l:List (Nat × α)) (n:Nat),gt (l.filter fun x=>q x.1) n=if q n=true then gt l n else none
 | [],n=>by simp[gt]
 | x::l,n=>by
  have z:=sw q l n
  by_cases hq:q x.1=true
  ·rw[List.filter_cons_of_pos (jQ hq)];simp only[gt]
   by_cases h:x.1=n
   ·rw[Mp h,Mp (h▸hq),Mp h]
   ·rw[Mo h,z,Mo h]
  ·rw[List.filter_cons_of_neg (jQ hq),z];simp only[gt]
   by_cases h:x.1=n
   ·rw[Mo (h▸hq),Mo (h▸hq)]
   ·rw[Mo h]
end
end
end Go.Proofs.YtbjicljfjkdeeaaGreatDoor
