/- Part. -/
import Derived.Test.YtbjicljfjkdeeaaGreatDoorQ13
set_option maxRecDepth 100000
set_option maxHeartbeats 16000000
set_option linter.unusedVariables false
set_option linter.unusedSimpArgs false
namespace Go.Proofs.YtbjicljfjkdeeaaGreatDoor
open Go.Proofs.Tryz Go.RowKit
def zi:List Evt:=[⟨0,1,0,3,[]⟩,⟨0,0,0,5,[]⟩,⟨0,2,0,5,[]⟩]
theorem eG {P:Program} (w:World) {o:Oper} {a:Act} {K:Act->World->Prop} {Q:Exit->Act->World->Prop} (s x:Operand) (t:TypeId)
  (ho:o.op=.call { callee:=.builtin .append,args:=#[s,x],argTypes:=#[t,t] })
  (base:Nat) (e:TypeId) (i:TypeInfo) (z:Value) (size bytes:Nat) (ht:P.underlying t=some (.slice e)) (hi:P.info? e=some i) (hz:i.zero=some z)
  (I:i.size=size) (f':i.bytes=bytes) (g':z.cells.size=size) (d':0<size)
  (v:Value) (n:Nat) (xs:List Value) (hs:a.eval s=v) (O:w.ownsRow base e size v n xs)
  (A:Option Addr) (m c:Nat) (news:List Value) (hx:a.eval x=.slice A m c) (a':Src w A m size news)
  (c':n+m<=maxLen) (G:(n+m)*bytes<=140737488355328) (J:base<=w.heap.size)
  (h:∀v' w',w'.ownsRow base e size v' (n+m) (xs++news)->w.grownBy w' v.ownBlock->(v'.ownBlock=v.ownBlock\/v'.ownBlock=some w.heap.size)->K (a.put o.dst v') w') :
  Oper.wp P o a w K Q:=by
 obtain⟨v',w',Z,h2,h3,h4⟩:=pk (P:=P) w base t o.type e i z size bytes ht hi hz I f' g' d' v n xs O A m c news a' c' G J;unfold Oper.wp execOp;simp only[ho,resolve,invoke,builtin,MP,NE,M9,List.map_toArray,MF,Om,hs,hx,Z];exact h v' w' h2 h3 h4
def EvCells (W:World) (G:Nat):Prop:=∀(j:Nat) (e:Evt),zi[j]?=some e->W.cell? ⟨G,j*5,none⟩=some (Mk e.src)/\W.cell? ⟨G,j*5+1,none⟩=some (Mk e.sq)/\W.cell? ⟨G,j*5+2,none⟩=some (Mk e.ty)/\W.cell? ⟨G,j*5+3,none⟩=some (Mk e.tm)/\W.cell? ⟨G,j*5+4,none⟩=some (.slice none 0 0)
theorem CY {j:Nat} {e:Evt} (h:zi[j]?=some e):e.vals=[]:=by
 match j,h with
 | 0,h=>simp[zi]at h;subst h;rfl
 | 1,h=>simp[zi]at h;subst h;rfl
 | 2,h=>simp[zi]at h;subst h;rfl
 | k+3,h=>simp[zi]at h
theorem EvCells.is {w:World} {b:Nat} (h:EvCells w b):bh w (.slice (some ⟨b,0,none⟩) 3 3) zi:=by
 refine⟨_,3,rfl,Mt _,by decide,fun k x hk=>⟨b,0,rfl,?_⟩⟩;obtain⟨h0,I,z,J,G⟩:=h k x hk;rw[MC];exact⟨_,by rw[CY hk];exact Sl.nil _ _ _ _ _ (Mu _),h0,I,z,J,G⟩
section
theorem lZ:oV me 3:=fun w b p x ⟨h0,I,G⟩ =>
 ⟨[Mk x.kind,Mk x.num,.string x.text],rfl,by simp[Value.oneCell'],fun j u h=>by
  match j,h with
  | 0,h=>simp at h;subst h;exact h0
  | 1,h=>simp at h;subst h;exact I
  | 2,h=>simp at h;subst h;exact G
  | j+3,h=>simp at h,fun W b' J _ z=>⟨z 0 _ rfl,z 1 _ rfl,z 2 _ rfl⟩⟩
theorem FD {α:Type} {R:World->Nat->Nat->α->Prop} {sz:Nat} (Z:∀w w' b p x,w'.heap[b]?=w.heap[b]?->R w b p x->R w' b p x) (z:∀w b p x,R w b p x->b<w.heap.size)
  {w w':World} {v:Value} {l:List α} (h:Sl R sz w v l) (hk:l≠[]->∀g,g<w.heap.size->v.ownBlock=some g->w'.heap[g]?=w.heap[g]?):Sl R sz w' v l:=by
 obtain⟨A,c,rfl,J,I,O⟩:=h;refine⟨A,c,rfl,J,I,fun k x G=>?_⟩;obtain⟨b,o,rfl,hr⟩:=O k x G;exact⟨b,o,rfl,Z _ _ _ _ _ (hk (fun e=>by rw[e]at G;simp at G) b (z _ _ _ _ hr) rfl) hr⟩
theorem zn:∀w w' b p x,w'.heap[b]?=w.heap[b]?->me w b p x->me w' b p x:=fun w w' b p x h ⟨h0,G,z⟩ =>
 ⟨(ML (a:=⟨b,p,none⟩) h).trans h0,(ML (a:=⟨b,p+1,none⟩) h).trans G,(ML (a:=⟨b,p+2,none⟩) h).trans z⟩
theorem CE:∀w b p x,me w b p x->b<w.heap.size:=fun w b p _ ⟨h0,_⟩=>Ms w ⟨b,p,none⟩ h0
theorem jn {w w':World} {v:Value} {l:List Vl} (h:aV w v l) (hk:l≠[]->∀g,g<w.heap.size->v.ownBlock=some g->w'.heap[g]?=w.heap[g]?):aV w' v l:=FD zn CE h hk
theorem Is {w:World} {v:Value} {l:List Vl} (h:aV w v l) (z:l≠[]) {g:Nat} (I:v.ownBlock=some g):g<w.heap.size:=by
 obtain⟨A,c,rfl,O,J,G⟩:=h
 cases l with
 | nil=>exact absurd rfl z
 | cons x l =>
  obtain⟨b,o,rfl,hr⟩:=G 0 x rfl;have:b=g:=by simpa [Value.ownBlock] using I
  subst this;exact CE _ _ _ _ hr
abbrev EV:=Evt × Value
def ci (l:List EV):List Value:=l.flatMap fun e=>[Mk e.1.src,Mk e.1.sq,Mk e.1.ty,Mk e.1.tm,e.2]
theorem kh (l m:List EV):ci (l++m)=ci l++ci m:=OK
theorem gn {w:World}:∀{l:List EV},(∀e∈l,aV w e.2 e.1.vals)->Means pz 5 w (ci l) (l.map (·.1))
 | [],_=>Means.nil
 | e::l,h=>by
  have he:=h e (Mz ..);have I:Means pz 5 w [Mk e.1.src,Mk e.1.sq,Mk e.1.ty,Mk e.1.tm,e.2] [e.1]:=⟨rfl,by simp[Value.oneCell'];exact fD he,fun W b o G z k y hk=>by
   cases k with
   | zero =>
    simp at hk;subst hk;have J:=z 0 _ rfl;have O:=z 1 _ rfl;have Z:=z 2 _ rfl;have c3:=z 3 _ rfl;have c4:=z 4 _ rfl;exact⟨e.2,he.stays aD G,jQ J,jQ O,jQ Z,jQ c3,jQ c4⟩
   | succ k=>simp at hk⟩
  exact I.app (gn fun x hx=>h x (MD _ hx))
structure VarsW (A B g:Nat) (w:World) (vs:List Value) (es:List (List EV)):Prop where
 len:vs.length=es.length
 low:A<=g/\g<B
 blk:w.heap[g]?=some (.cells vs.toArray 34 (0,0))
 row:∀(k:Nat) (v:Value) (l:List EV),vs[k]?=some v->es[k]?=some l->w.ownsRow B 60 5 v l.length (ci l)
 apart:∀(j k:Nat) (u v:Value),vs[j]?=some u->vs[k]?=some v->j≠k->∀h,u.ownBlock=some h->v.ownBlock≠some h
 vals:∀(k:Nat) (l:List EV),es[k]?=some l->∀e∈l,aV w e.2 e.1.vals/\(e.1.vals≠[]->∀h,e.2.ownBlock=some h->(h<A\/B<=h)/\∀v∈vs,v.ownBlock≠some h)
section
variable {A B g : Nat} {w w' : World} {vs : List Value} {es : List (List EV)}
theorem VarsW.grow (h:VarsW A B g w vs es) (G:Mm w w'):VarsW A B g w' vs es :=
 ⟨h.len,h.low,(G.block g (bC h.blk)).trans h.blk,fun k v l z I=>ao (h.row k v l z I) G,h.apart,fun k l z e he=>⟨(h.vals k l z e he).1.stays aD G,(h.vals k l z e he).2⟩⟩
theorem VarsW.set (h:VarsW A B g w vs es) {R:Nat} (Z:A<=R/\R<B) (G:R≠g) (i:Nat) (u:Value):VarsW A B g (w.setCell ⟨R,i,none⟩ u) vs es :=
 ⟨h.len,h.low,(Nj w ⟨R,i,none⟩ u g (MT G)).trans h.blk,fun k v l z J=>aT (h.row k v l z J) fun b I=>Nj w ⟨R,i,none⟩ u b (by have:=(ag (h.row k v l z J) I).1;simp only;omega),h.apart,
  fun k l z e he=>⟨jn (h.vals k l z e he).1 fun O b _ I=>Nj w ⟨R,i,none⟩ u b (by have:=((h.vals k l z e he).2 O b I).1;simp only;omega),(h.vals k l z e he).2⟩⟩
theorem pj {α:Type} {l:List α} {k:Nat} {x:α} (h:l[k]?=some x):k<l.length:=(List.getElem?_eq_some_iff.1 h).1
theorem VarsW.app (h:VarsW A B g w vs es) {k:Nat} {v v7 u:Value} {l:List EV} {x:Evt} {w7:World} (hv:vs[k]?=some v) (hl:es[k]?=some l) (hB:B<=w.heap.size)
  (d':w7.ownsRow B 60 5 v7 (l.length+1) (ci l++[Mk x.src,Mk x.sq,Mk x.ty,Mk x.tm,u])) (hg:w.grownBy w7 v.ownBlock) (g':v7.ownBlock=v.ownBlock\/v7.ownBlock=some w.heap.size)
  (hu:aV w u x.vals) (p':x.vals≠[]->∀h,u.ownBlock=some h->(h<A\/B<=h)/\∀v∈vs,v.ownBlock≠some h) :
  VarsW A B g (w7.setCell ⟨g,k,none⟩ v7) (vs.set k v7) (es.set k (l++[(x,u)])):=by
 have i':=pj hv;have f':=pj hl;have s':=bC h.blk;have l':=h.row k v l hv hl;have q':v.ownBlock≠some g:=fun e=>by have:=(ag l' e).1;have:=h.low.2;omega
 have j':w7.heap[g]?=some (.cells vs.toArray 34 (0,0)):=(hg.block g s' (fun e=>q' e.symm)).trans h.blk;have r':∀b,v7.ownBlock=some b->B<=b/\b<w7.heap.size:=fun b J=>ag d' J
 have hk:∀b,b<w.heap.size->b≠g->v.ownBlock≠some b->(w7.setCell ⟨g,k,none⟩ v7).heap[b]?=w.heap[b]?:=fun b J n' m' =>
  (Nj w7 ⟨g,k,none⟩ v7 b n').trans (hg.block b J (fun e=>m' e.symm))
 have hold:∀(j:Nat) (u':Value),vs[j]?=some u'->∀b,u'.ownBlock=some b->B<=b/\b<w.heap.size:=fun j u' G b J=>by
  have t':j<es.length:=by rw[<-h.len];exact pj G
  exact ag (h.row j u' es[j] G (Mq t')) J
 have h':∀(j:Nat) (u':Value),j≠k->vs[j]?=some u'->∀b,u'.ownBlock=some b->v7.ownBlock≠some b:=fun j u' I G b J e=>by
  rcases g' with e2|e2
  ·rw[e2]at e;exact h.apart j k u' v G hv I b J e
  ·rw[e2]at e;injection e with e;have:=(hold j u' G b J).2;omega
 have a':∀(y:EV),aV w y.2 y.1.vals->(y.1.vals≠[]->∀b,y.2.ownBlock=some b->(b<A\/B<=b)/\∀v∈vs,v.ownBlock≠some b) ->
   aV (w7.setCell ⟨g,k,none⟩ v7) y.2 y.1.vals/\(y.1.vals≠[]->∀b,y.2.ownBlock=some b->(b<A\/B<=b)/\∀v∈vs.set k v7,v.ownBlock≠some b):=fun y h1 h2=>by
  refine⟨jn h1 fun O b J Z=>hk b J (by have:=(h2 O b Z).1;have:=h.low;omega) ((h2 O b Z).2 v (MI hv)),fun O b Z=>⟨(h2 O b Z).1,fun z hz e=>?_⟩⟩;rcases List.mem_or_eq_of_mem_set hz with hz|rfl
  ·exact (h2 O b Z).2 z hz e
  ·rcases g' with e2|e2
   ·rw[e2]at e;exact (h2 O b Z).2 v (MI hv) e
   ·rw[e2]at e;injection e with e;have:=Is h1 O Z;omega
 refine⟨by rw[Pq,Pq];exact h.len,h.low,?_,?_,?_,?_⟩
 ·have:=gm j' k v7;exact this
 ·intro j u' m G hm
  by_cases I:k=j
  ·subst I;rw[Ps i']at G;rw[Ps f']at hm;injection G with G;injection hm with hm;subst G hm;rw[Mw,kh];exact aT d' fun b J=>Nj w7 ⟨g,k,none⟩ v7 b (by have:=(r' b J).1;have:=h.low.2;simp only;omega)
  ·rw[Pu I]at G hm;exact aT (h.row j u' m G hm) fun b J=>hk b (hold j u' G b J).2 (by have:=(hold j u' G b J).1;have:=h.low.2;omega) (fun e=>h.apart j k u' v G hv (MT I) b J e)
 ·intro i j a b hi G c' c hc e
  by_cases k':k=i
  ·subst k';rw[Ps i']at hi;injection hi with hi;subst hi;rw[Pu c']at G;exact h' j b (MT c') G c e hc
  ·rw[Pu k']at hi
   by_cases I:k=j
   ·subst I;rw[Ps i']at G;injection G with G;subst G;exact h' i a c' hi c hc e
   ·rw[Pu I]at G;exact h.apart i j a b hi G c' c hc e
 ·intro j m hm y hy
  by_cases I:k=j
  ·subst I;rw[Ps f']at hm;injection hm with hm;subst hm;rcases List.mem_append.1 hy with hy|hy
   ·exact a' y (h.vals k l hl y hy).1 (h.vals k l hl y hy).2
   ·simp at hy;subst hy;exact a' (x,u) hu p'
  ·rw[Pu I]at hm;exact a' y (h.vals j m hm y hy).1 (h.vals j m hm y hy).2
theorem VarsW.is (h:VarsW A B g w vs es) (hm:es.length<=maxLen):fW w (.slice (some ⟨g,0,none⟩) es.length es.length) (es.map fun l=>l.map (·.1)):=by
 refine⟨_,es.length,by rw[MB],by rw[MB];exact Mt _,hm,fun k x hk=>⟨g,0,rfl,?_⟩⟩;rw[MA]at hk;obtain⟨l,G,rfl⟩:=Option.map_eq_some_iff.1 hk;have z:k<vs.length:=by rw[h.len];exact pj G
 have I:=Mq z;refine⟨vs[k],dr (gn fun e he=>(h.vals k l G e he).1) (Mr _ _) (by have:=h.row k vs[k] l I G;rwa [MB]),?_⟩;rw[ae h.blk,MC,NF];exact I
theorem zO {n:Nat} (J:w.heap[g]?=some (.cells (List.replicate n (Value.slice none 0 0)).toArray 34 (0,0))) (I:A<=g/\g<B):VarsW A B g w (List.replicate n (.slice none 0 0)) (List.replicate n []):=by
 have hr:∀(k:Nat) (v:Value),(List.replicate n (Value.slice none 0 0))[k]?=some v->v=.slice none 0 0:=fun k v h=>(List.mem_replicate.1 (MI h)).2
 refine⟨by simp,I,J,fun k v l z G=>?_,fun j k u v z G _ h e=>?_,fun k l z e he=>?_⟩
 ·rw[hr k v z,(List.mem_replicate.1 (MI G)).2];exact⟨rfl,.inl ⟨rfl,rfl⟩⟩
 ·rw[hr j u z]at e;simp[Value.ownBlock]at e
 ·rw[(List.mem_replicate.1 (MI z)).2]at he;simp at he
end
theorem mo:(prog.info? 27).map (fun i=>(i.zero,i.size,i.bytes))=some (some (.agg #[Mk 0,Mk 0,.string ByteArray.empty]),3,32):=kr
theorem qJ:(prog.info? 60).map (fun i=>(i.zero,i.size,i.bytes))=some (some (.agg #[Mk 0,Mk 0,Mk 0,Mk 0,.slice none 0 0]),5,56):=kr
theorem kM:(prog.info? 34).map (fun i=>(i.zero,i.size,i.bytes))=some (some (.slice none 0 0),1,24):=kr
theorem DH (A:Option Addr) (n c:Nat) (cs:List Value) (w:World) (hs:Src w A n 3 cs) (hn:n<=1048576) :
  Calls prog 116 #[.slice A n c] w (K8 27 3 n cs w):=by
 obtain⟨i0,hi,G,I,J⟩:=Np mo;have he:=fun W=>Lib.run_eql_slice_nil W 41 27 A n c 0 0 underlying41
 cases A with
 | none =>
  have h0:n=0:=by
   rcases OT n with h|h
   ·exact h
   ·obtain⟨b,o,hA,_⟩:=hs.2.2 h;cases hA
  subst h0;have O:cs=[]:=M8 (jQ hs.1);subst O;clear hs;go_enter func116,ntmps116;go_wp2;go_ret;exact⟨_,rfl,⟨by simp,.inl ⟨rfl,rfl⟩⟩,Mr _ _⟩
 | some ad =>
  have HS:=jD hs;clear hs;go_enter func116,ntmps116;go_wp2_with (at_builtin;refine bA _ rfl (.tmp 5) (.tmp 6) 41 rfl w.heap.size 27 i0 _ 3 32 underlying41 hi G I J rfl dc (.slice (some ⟨w.heap.size,0,none⟩) 0 0) 0 [] rfl (rI w _ _ _ (Mt _)) (some ad) n c cs rfl (HS.out.stays (bt (Mr _ _) _)) (by unfold maxLen;omega) om jS ?_;intro v1 w1 z hg Z);go_ret;exact⟨_,rfl,jQ z,(bt (Mr _ _) _).trans (au hg jS (fun g h=>N2 (by simpa [Value.ownBlock] using h)))⟩
def ub (B:Nat) (w:World) (v:Value) (l:List Vl):Prop:=aV w v l/\∀g,v.ownBlock=some g->B<=g/\g<w.heap.size
theorem zT (l:List Vl) (v:Value) (w:World) (Z:aV w v l) (hn:l.length<=1048576) :
  Calls prog 116 #[v] w fun e w'=>∃v',e=.returned v'/\ub w.heap.size w' v' l/\Mm w w':=by
 obtain⟨A,c,rfl,O,I,G⟩:=Z;obtain⟨cs,hm,hs,-⟩:=gR lZ ⟨A,c,rfl,O,I,G⟩;refine (DH A l.length c cs w hs hn).mono ?_;rintro e w3 ⟨v3,rfl,h,z⟩;exact⟨v3,rfl,⟨dr hm z h,fun g J=>ag h J⟩,z⟩
end
section
def nm (σ:Sg):Nat:=nx σ.obs
def Sg.new (σ:Sg) (n:Nat) (ob:Ob):Sg:=⟨pt (σ.mp (V.kill n)).obs n ob,(σ.mp (V.kill n)).stk,(σ.mp (V.kill n)).lps⟩
def gx (σ:Sg) (cs:List V):V × Sg:=let n:=nm σ;(.off n 0 0,σ.new n (.box (cs.map (V.kill n))))
def uO {α:Type}:Nat->List (Nat × α)->Bool
 | _,[]=>true
 | n,x::l=>x.1==n&&uO (n+1) l
def Goes (P:Program) (gl:Nat->Option (List Tr)) (o:Oper) (σ:Sg) (x:V) (σ':Sg):Prop :=
 ∀(n0:Nat) (M:Mem) (w:World) (S:List Rf) (a:Act) (ρ:Option Nat),SR gl n0 M w σ (rf a ρ::S)->∃M' w' u,((execOp a.eval o).run P w=.ok (.value u) w'\/(execOp a.eval o).run P w=.ok .skip w'/\u=undef) /\
  Below n0 w w'/\Ff n0 (nx σ.obs) (nx σ'.obs) M w M' w'/\SR gl n0 M' w' σ' (rf a ρ::S)/\Rv M' w' x u
section
variable {ρ : Option Nat}
variable {P : Program} {gl : Nat -> Option (List Tr)} {n0 : Nat} {M M' : Mem} {w w' : World} {σ σ' : Sg} {S : List Rf} {a : Act} {o : Oper}
theorem Quiet.goes {x:V} (h:Quiet P gl o σ x):Goes P gl o σ x σ:=fun n0 M w S a ρ hs=>by
 obtain⟨v,G,z⟩:=h n0 M w S a ρ hs;exact⟨M,w,v,.inl G,Mr _ _,.refl _ _ _ _,hs,z⟩
def Mem.new (M:Mem) (n A φ:Nat) (v:Value) (k:Nat):Mem:=⟨fun b=>if b=A then φ else M.F b,fun m=>if m=n then v else M.h m,fun m=>if m=n then k else M.k m,M.lp,M.mq,M.nl⟩
theorem pK (M:Mem) (w:World) (n φ:Nat) (v:Value) (k:Nat) (o:Obj):Kept M.F w (M.new n w.heap.size φ v k).F (w.alloc o):=fun b j u z he=>by
 have h:=Ms w ⟨b,j,none⟩ he;refine⟨(World.cell?_alloc_lt (w:=w) (o:=o) (a:=⟨b,j,none⟩) h).trans he,?_⟩;simp only[Mem.new];rw[Mo (by simp only at h;omega)];exact z
theorem Fi {n φ:Nat} {v:Value} {k:Nat} {o:Obj} {x:V} {u:Value} (h:Rv M w x u):Rv (M.new n w.heap.size φ v k) (w.alloc o) (x.kill n) u :=
 h.step (pK M w n φ v k o) (fun m hm=>by simp[Mem.new,hm])
theorem ka (n0:Nat) (w:World) (o:Obj) (h:n0<=w.heap.size):Below n0 w (w.alloc o):=(Mr n0 w).alloc h o
theorem LQ (σ:Sg) (n:Nat) (ob:Ob):nx σ.obs<=nx (σ.new n ob).obs:=by
 unfold Sg.new Sg.mp;simp only[BD,Lw];omega
theorem SR.new (h:SR gl n0 M w σ S) {n φ k:Nat} {v:Value} {ob:Ob} {o:Obj} (Z:ObOk n0 (M.new n w.heap.size φ v k) (w.alloc o) n ob) (hv:∀g,dG v=some g->g=w.heap.size) (hn:nx σ.obs<=n) :
  SR gl n0 (M.new n w.heap.size φ v k) (w.alloc o) (σ.new n ob) S/\Below n0 w (w.alloc o)/\Ff n0 (nx σ.obs) (nx (σ.new n ob).obs) M w (M.new n w.heap.size φ v k) (w.alloc o):=by
 refine⟨?_,ka _ _ _ h.size,fun b hb=>by simp only[Mem.new];rw[Mo (by have:=h.size;omega)],pK M w n φ v k o,fun m hm=>by simp only[Mem.new];rw[Mo om,Mo om];exact⟨rfl,rfl⟩,LM.refl M,LQ σ n ob⟩;refine h.upd (fun t v=>Fi) (pK M w n φ v k o) jS (fun m hm=>by simp[Mem.new,hm]) (fun m x g hm J G=>?_) Z (fun m x g hm J G I=>?_) (fun i O=>⟨Nz w _ _ (h.lp_lt O).1,Nz w _ _ (h.lp_lt O).2⟩)
 ·have z:=((h.ob m x J).lt G).1;exact⟨Nz w _ g z,by simp only[Mem.new];rw[Mo om]⟩
 ·have z:=((h.ob m x J).lt I).1;have e:(M.new n w.heap.size φ v k).h n=v:=by simp[Mem.new]
  rw[e]at G;have:=hv g G;omega
theorem tY (h:SR gl n0 M w σ S) {cs:List V} {vs:Array Value} (J:cs.length<=vs.size/\∀(i:Nat) (t:V) (v:Value),cs[i]?=some t->vs.toList[i]?=some v->Rv M w t v) (z:TypeId):∃M',Below n0 w (w.alloc (.cells vs z))/\Ff n0 (nx σ.obs) (nx (gx σ cs).2.obs) M w M' (w.alloc (.cells vs z)) /\
  SR gl n0 M' (w.alloc (.cells vs z)) (gx σ cs).2 S/\Rv M' (w.alloc (.cells vs z)) (gx σ cs).1 (.pointer (some ⟨w.heap.size,0,none⟩))/\M'.h (nm σ)=.pointer (some ⟨w.heap.size,0,none⟩):=by
 obtain⟨h1,Z,h3⟩:=h.new (n:=nm σ) (φ:=0) (k:=0) (v:=.pointer (some ⟨w.heap.size,0,none⟩)) (ob:=.box (cs.map (V.kill (nm σ)))) (o:=.cells vs z)
  ⟨w.heap.size,vs,z,by simp[Mem.new],h.size,by simp[Mem.new],Nr w _,by rw[MB];exact J.1,fun i t v G O=>by
   rw[MA]at G
   cases I:cs[i]? with
   | none=>rw[I]at G;cases G
   | some s=>rw[I]at G;cases G;exact Fi (J.2 i s v I (jQ O))⟩ (fun g I=>by cases I;rfl) (Mt _)
 refine⟨_,Z,h3,h1,?_,by simp[Mem.new]⟩;have:=Rv.off (M:=M.new (nm σ) w.heap.size 0 (.pointer (some ⟨w.heap.size,0,none⟩)) 0) (w:=w.alloc (.cells vs z)) (nm σ) 0 0
 simpa [Mem.new,jV,gx] using this
theorem mX (h:SR gl n0 M w σ S) {cs:List V} {vs:Array Value} (G:Rvs M w cs vs.toList) (z:TypeId):∃M',Below n0 w (w.alloc (.cells vs z))/\Ff n0 (nx σ.obs) (nx (gx σ cs).2.obs) M w M' (w.alloc (.cells vs z)) /\
  SR gl n0 M' (w.alloc (.cells vs z)) (gx σ cs).2 S/\Rv M' (w.alloc (.cells vs z)) (gx σ cs).1 (.pointer (some ⟨w.heap.size,0,none⟩))/\M'.h (nm σ)=.pointer (some ⟨w.heap.size,0,none⟩) :=
 tY h ⟨by have:=G.1;simp at this;omega,G.2⟩ z
theorem B0 (g o:Nat) (t:TypeId):∀(vs:List Value) (i:Nat) (cur:Array Value) (w:World),w.heap[g]?=some (.cells cur t (0,0))->o+i+vs.length<=cur.size->(∀v∈vs,v.oneCell'=true) ->
  ∃w',(storeCells ⟨g,o,none⟩ vs i).run P w=.ok () w'/\w'.heap[g]?=some (.cells (cur.toList.take (o+i)++vs++cur.toList.drop (o+i+vs.length)).toArray t (0,0)) /\
   (∀k,k≠g->w'.heap[k]?=w.heap[k]?)/\w'.heap.size=w.heap.size/\w'.os=w.os/\w'.tape=w.tape/\w'.output=w.output
 | [],i,cur,w,hg,_,_=>⟨w,rfl,jQ hg,fun _ _=>rfl,rfl,rfl,rfl,rfl⟩
 | v::vs,i,cur,w,hg,hl,hv=>by
  simp only[MG]at hl;have h:w.cell? ⟨g,o+i,none⟩=some cur[o+i]:=by simp[World.cell?,hg,show o+i<cur.size by omega]
  have G:w.frozen? ⟨g,o+i,none⟩=false:=by simp[World.frozen?,hg]
  have z:(store ((⟨g,o,none⟩:Addr).add i) v).run P w=.ok () (w.setCell ⟨g,o+i,none⟩ v):=by
   rw[cN,run_store P w _ v .plain (hv v jS),h];simp[G]
  have I:(w.setCell ⟨g,o+i,none⟩ v).heap[g]?=some (.cells (cur.setIfInBounds (o+i) v) t (0,0)):=heap_setCell_same w g (o+i) cur t v hg;obtain⟨w',h1,O,h3,Z,h5,h6,h7⟩:=B0 g o t vs (i+1) _ _ I (by simp;omega) (fun u hu=>hv u (by simp[hu]));refine⟨w',?_,?_,fun k hk=>(h3 k hk).trans (heap_setCell_other w _ k v hk),by rw[Z];simp,by rw[h5];rfl,by rw[h6];rfl,by rw[h7];rfl⟩
  ·simp only[storeCells,MP,z,M9];exact h1
  ·rw[O];congr 2;apply OG;simp only[Array.toList_setIfInBounds,List.toList_toArray];have:=sM [v] (o+i) 0 cur (by simp;omega);apply OZ;intro j;simp only[List.getElem?_append,NP,N7,Mw,Nx,Pq,Oh,MG,OR];rcases Py j (o+i) with J|J|J
   ·simp only[show j<min (o+(i+1)) cur.size+vs.length by omega,show j<min (o+(i+1)) cur.size by omega,show j<o+(i+1) by omega,show ¬o+i=j by omega,show j<min (o+i) cur.size+(vs.length+1) by omega,show j<min (o+i) cur.size by omega,show j<o+i by omega,M5,NJ]
   ·subst J;simp only[show o+i<min (o+(i+1)) cur.size+vs.length by omega,show o+i<min (o+(i+1)) cur.size by omega,show o+i<o+(i+1) by omega,show o+i<min (o+i) cur.size+(vs.length+1) by omega,show ¬o+i<min (o+i) cur.size by omega,show o+i<cur.size by omega,M5,NJ,show o+i-min (o+i) cur.size=0 by omega,OS]
   ·by_cases O:j<o+i+1+vs.length
    ·simp only[show j<min (o+(i+1)) cur.size+vs.length by omega,show ¬j<min (o+(i+1)) cur.size by omega,show j<min (o+i) cur.size+(vs.length+1) by omega,show ¬j<min (o+i) cur.size by omega,M5,NJ,show j-min (o+i) cur.size=(j-min (o+(i+1)) cur.size)+1 by omega,OA]
    ·simp only[show ¬j<min (o+(i+1)) cur.size+vs.length by omega,show ¬j<min (o+i) cur.size+(vs.length+1) by omega,NJ,show o+i+(vs.length+1)+(j-(min (o+i) cur.size+(vs.length+1)))=j by omega,show o+(i+1)+vs.length+(j-(min (o+(i+1)) cur.size+vs.length))=j by omega,show ¬o+i=j by omega]
theorem lc {t:TypeId} {i:TypeInfo} (O:P.info? t=some i) (g o:Nat) {h:TypeId} {cur:Array Value} (J:w.heap[g]?=some (.cells cur h (0,0))) {v:Value} (hs:v.cells.size=i.size) (G:o+v.cells.size<=cur.size) (z:∀u∈v.cells.toList,u.oneCell'=true) :
  ∃w',(Instr.storeAt t (.pointer (some ⟨g,o,none⟩)) v).run P w=.ok () w'/\w'.heap[g]?=some (.cells (cur.toList.take o++v.cells.toList++cur.toList.drop (o+v.cells.toList.length)).toArray h (0,0)) /\
   (∀k,k≠g->w'.heap[k]?=w.heap[k]?)/\w'.heap.size=w.heap.size/\w'.os=w.os/\w'.tape=w.tape/\w'.output=w.output:=by
 obtain⟨w',z,I⟩:=B0 (P:=P) g o h v.cells.toList 0 cur w J (jQ G) z;refine⟨w',?_,jQ I⟩;simp[Instr.storeAt,Instr.sureAddr,storeVar,dq O,hs,z]
def Ib (h:Tr) (new:List Tr):Tr:=match h.cell,new with|true,[t]=>t|_,_=>.agg new
def BO (P:Program) (σ:Sg) (t:TypeId) (x y:V):Option (V × Sg) :=
 match P.info? t,x,y.cells with
 | some i,.off n j o,some ys=>match gt σ.obs n with
  | some (.box cs)=>if j=0/\ys.length=i.size/\o+ys.length<=cs.length/\ys.all V.cell=true then some (.p (.at undef),⟨pt σ.obs n (.box (tP cs o ys)),σ.stk,σ.lps⟩) else none
  | some (.row e k es false)=>match V.unp ys,es[j]? with
   | some ts,some old=>if ys.length=i.size/\o+ys.length<=k/\ts.all Tr.cell=true then
     let new:=old.cells.take o++ts++old.cells.drop (o+ts.length)
     some (.p (.at undef),⟨pt σ.obs n (.row e k (es.set j (Ib old new)) false),σ.stk,σ.lps⟩) else none
   | _,_=>none
  | _=>none
 | _,_,_=>none
end
end
section
section
variable {P : Program} {gl : Nat -> Option (List Tr)} {n0 : Nat} {M M' : Mem} {w w' : World} {σ σ' : Sg} {S : List Rf} {a : Act} {o : Oper}
theorem xT {cs:List V} {vs:List Value} (h:Rvs M w cs vs) (I:cs.all V.cell=true):∀u∈vs,u.oneCell'=true:=fun u hu=>by
 obtain⟨i,G,rfl⟩:=N9 hu;have z:i<cs.length:=by rw[<-h.1];exact G
 exact (h.2 i _ _ (Mq z) (Mq G)).oneCell (List.all_eq_true.1 I _ (Nu z))
theorem xg {n0 g:Nat} {w w':World} (I:n0<=g) (h:∀k,k≠g->w'.heap[k]?=w.heap[k]?) (hs:w'.heap.size=w.heap.size) (z:w'.os=w.os) (G:w'.tape=w.tape) (hp:w'.output=w.output):Below n0 w w' :=
 ⟨z,G,hp,N2 hs.symm,fun k hk=>h k om⟩
theorem oZ {F:Nat->Nat} {g:Nat} (I:F g=0) (h:∀k,k≠g->w'.heap[k]?=w.heap[k]?):Kept F w F w':=fun b n u G he=>by
 have z:b≠g:=fun e=>by rw[e,I]at G;omega
 exact⟨by rw[ML (a:=⟨b,n,none⟩) (h b z)];exact he,G⟩
theorem EN {es:List Tr} {k i:Nat} {e e':Tr} (hk:∀e∈es,e.cells.length=k) (he:es[i]?=some e) (G:e'.cells.length=k):aO (es.set i e')=(aO es).take (i*k)++e'.cells++(aO es).drop (i*k+k):=by
 induction es generalizing i with
 | nil=>simp at he
 | cons x l z =>
  have h:x.cells.length=k:=hk x jS
  cases i with
  | zero=>simp[aO,<-h]
  | succ i =>
   have:=z (fun e he=>hk e (by simp[he])) (jQ he);simp only[aO,MY,MM]at this ⊢;rw[this,show (i+1)*k=x.cells.length+i*k by rw[OF,h];omega,List.take_length_add_append,show x.cells.length+i*k+k=x.cells.length+(i*k+k) by omega,List.drop_length_add_append];simp
theorem yC {base:Nat} {e:TypeId} {k:Nat} {v:Value} {n:Nat} {xs:List Value} (h:w.ownsRow base e k v n xs) {g off:Nat} {ys:List Value} (J:dG v=some g) (Z:off+ys.length<=xs.length)
  (hw:∀cur I,w.heap[g]?=some (.cells cur I (0,0))->w'.heap[g]?=some (.cells (cur.toList.take off++ys++cur.toList.drop (off+ys.length)).toArray I (0,0))) :
  w'.ownsRow base e k v n (xs.take off++ys++xs.drop (off+ys.length)):=by
 have hlen:(xs.take off++ys++xs.drop (off+ys.length)).length=xs.length:=by simp;omega
 refine⟨by rw[hlen];exact h.1,?_⟩;rcases h.2 with ⟨rfl,-⟩|⟨g',cap,cur,rfl,hb,hh,hn,hm,hcs,ht⟩
 ·cases J
 ·obtain rfl:g'=g:=by cases J;rfl
  refine .inr ⟨g',cap,_,rfl,hb,hw cur e hh,hn,hm,?_,?_⟩
  ·have G:xs.length<=cur.size:=by rw[<-ht];simp;exact Nat.min_le_right _ _
   simp;omega
  ·have G:xs.length=n*k:=h.1;have O:n*k<=cur.size:=by rw[hcs];exact Ov k hn
   subst ht;have z:(cur.toList.take off++ys).length=off+ys.length:=by simp;omega
   rw[List.toList_toArray,List.take_append,Of (by rw[z];omega),z,List.take_take,show min off (n*k)=off by omega,List.drop_take]
theorem yi {t:TypeId} {x y r:V} {u v:Value} (h:SR gl n0 M w σ S) (J:BO P σ t x y=some (r,σ')) (hu:Rv M w x u) (hv:Rv M w y v) :
  ∃w',(Instr.storeAt t u v).run P w=.ok () w'/\Below n0 w w'/\Ff n0 (nx σ.obs) (nx σ'.obs) M w M w'/\SR gl n0 M w' σ' S/\r=.p (.at undef):=by
 unfold BO at J
 split at J
 ·rename_i i n j o' ys hi A'
  have d':=hv.cells A';have c':v.cells.size=ys.length:=jQ d'.1
  cases hu with
  | off _ _ _ =>
   split at J
   ·rename_i cs hn
    split at J
    ·rename_i hc
     cases J
     obtain⟨rfl,h1,h2,h3⟩:=hc;obtain⟨A,c,el,g1,g2,g3,g4,g5,g6⟩:=h.ob n _ hn;obtain⟨w',r1,r2,r3,r4,r5,r6,r7⟩:=lc (P:=P) hi A o' g4 (v:=v) (by rw[c',h1]) (by rw[c'];omega) (xT d' h3);refine⟨w',?_,xg g2 r3 r4 r5 r6 r7,.put (oZ (F:=M.F) g3 r3),?_,rfl⟩
     ·rw[g1];simpa [jV] using r1
     ·have kp:=oZ (F:=M.F) g3 r3;have hh:=h.upd (M':=M) (κ:=id) (n:=n) (ob:=.box (tP cs o' ys)) (fun t v hv=>hv.kept kp rfl rfl) kp (N2 r4.symm) (fun m _=>⟨rfl,rfl⟩)
       (fun m x g hm J hg=>⟨r3 g (fun e=>h.apart n m _ x A (MT hm) hn J (by rw[g1];rfl) (e▸hg)),rfl⟩)
       ⟨A,_,el,g1,g2,g3,r2,by simp[tP];omega,?_⟩ (fun m x g hm J hg j'=>h.apart n m _ x g (MT hm) hn J hg j') (fun i hi=>⟨r3 _ (h.lp_cells hi g4).1,r3 _ (h.lp_cells hi g4).2⟩)
      ·rwa [BZ]at hh
      ·have hb:Rvs M w cs (c.toList.take cs.length):=⟨by simp;omega,fun i t v G hv=>g6 i t v G (by
        rw[NP,Mp (List.getElem?_eq_some_iff.1 G).1]at hv;simpa using hv)⟩
       have hr:=((hb.take o').append d').append (hb.drop (o'+ys.length));intro i t u G hu;have e:v.cells.toList.length=ys.length:=jQ c';have hi:i<cs.length:=by
        have:=(List.getElem?_eq_some_iff.1 G).1;simp only[tP,Mw,Nx,O0]at this;omega
       refine (hr.2 i t u G ?_).kept kp rfl rfl;rw[e]at hu;have p':((c.toList.take o'++v.cells.toList++c.toList.drop (o'+ys.length)).take cs.length)[i]?=some u:=by rw[NP,Mp hi];simpa using hu
       have l':(c.toList.take o'++v.cells.toList).length=o'+ys.length:=by rw[Mw,Nx,e,Oh];omega
       rw[List.take_append,Of (by rw[l'];exact h2),l']at p';rw[List.take_take,show min o' cs.length=o' by omega,List.drop_take];exact p'
    ·cases J
   ·rename_i e k es hn
    split at J
    ·rename_i ts z B' hold
     split at J
     ·rename_i hc
      cases J
      obtain⟨h1,h2,h3⟩:=hc;have k':=V.unp_eq B';have C':ts.length=ys.length:=by rw[k'];simp
      obtain⟨hk,h0,xs,b1,b2,b3,b4,b5⟩:=h.ob n _ hn;have z':j<es.length:=(List.getElem?_eq_some_iff.1 hold).1;have H':z.cells.length=k:=b2 z (MI hold);have i':xs.length=es.length*k:=b1.1;have J':j*k+k<=es.length*k:=by rw[<-OF];exact Ov k z'
      have n':0<xs.length:=by rw[i'];exact Nat.mul_pos om h0
      obtain⟨A,cap,I,-⟩:=cW b1 (Mq n');have D':=(h.ob n _ hn).lt (g:=A) (by rw[I];rfl);have h':M.F A=0:=by have:=b5 A (by rw[I];rfl);rwa [Mo jS]at this
      have q':∃cur,w.heap[A]?=some (.cells cur e (0,0))/\cur.size=cap*k/\es.length<=cap:=by
       rcases b1.2 with ⟨f',-⟩|⟨g',cap',cur,f',hb,hh,hn',hm,hcs,G⟩
       ·rw[I]at f';cases f'
       ·rw[I]at f';cases f';exact⟨cur,hh,hcs,hn'⟩
      obtain⟨cur,q1,q2,q3⟩:=q';have I':es.length*k<=cur.size:=by rw[q2];exact Ov k q3
      obtain⟨w',r1,r2,r3,r4,r5,r6,r7⟩:=lc (P:=P) hi A (j*k+o') q1 (v:=v) (by rw[c',h1]) (by rw[c'];omega) (xT d' (by
       rw[k',List.all_map];exact h3))
      have s':v.cells.toList.length=ts.length:=by rw[C'];simpa using c'
      have x':∀(new:List Tr),(∀t∈new,t.cell=true)->(Ib z new).cells=new:=by
       intro new E';unfold Ib
       split
       ·rename_i t _
        have:=E' t jS
        cases t with
        | «at» v=>cases v<;>first|rfl|cases this
        | _=>first|rfl|cases this
       ·rfl
      have t':∀t∈z.cells,t.cell=true:=fun t G=>b3 t (List.mem_flatMap.2 ⟨z,MI hold,G⟩)
      have y':(z.cells.take o'++ts++z.cells.drop (o'+ts.length)).length=k:=by simp;omega
      have r':∀t∈z.cells.take o'++ts++z.cells.drop (o'+ts.length),t.cell=true:=by
       intro t G;rcases List.mem_append.1 G with G|G
       ·rcases List.mem_append.1 G with G|G
        ·exact t' t (PK G)
        ·exact List.all_eq_true.1 h3 t G
       ·exact t' t (PI G)
      have O:=x' _ r';refine⟨w',?_,xg D'.2 r3 r4 r5 r6 r7,.put (oZ (F:=M.F) h' r3),?_,rfl⟩
      ·rw[I,hk];simpa [jV] using r1
      ·have kp:=oZ (F:=M.F) h' r3;have u':=yC (w':=w') b1 (g:=A) (off:=j*k+o') (ys:=v.cells.toList) (by rw[I];rfl) (by rw[s',i'];omega) (fun F' N' m'=>by rw[q1]at m';cases m';exact r2);have a':=EN (e':=Ib z (z.cells.take o'++ts++z.cells.drop (o'+ts.length))) b2 hold (by rw[O];exact y');rw[O]at a';have hh:=h.upd (M':=M) (κ:=id) (n:=n) (ob:=.row e k (es.set j (Ib z (z.cells.take o'++ts++z.cells.drop (o'+ts.length)))) false) (fun t v hv=>hv.kept kp rfl rfl) kp (N2 r4.symm) (fun m _=>⟨rfl,rfl⟩)
        (fun m x g hm J hg=>⟨r3 g (fun e=>h.apart n m _ x A (MT hm) hn J (by rw[I];rfl) (e▸hg)),rfl⟩)
        ⟨hk,h0,_,by rw[Pq];exact u',?_,?_,?_,fun g hg=>by rw[I]at hg;cases hg;rw[Mo jS];exact h'⟩ (fun m x g hm J hg j'=>h.apart n m _ x g (MT hm) hn J hg j') (fun i hi=>⟨r3 _ (h.lp_cells hi q1).1,r3 _ (h.lp_cells hi q1).2⟩)
       ·rwa [BZ]at hh
       ·intro t G;rcases List.mem_or_eq_of_mem_set G with G|G
        ·exact b2 t G
        ·rw[G,O];exact y'
       ·intro t G;rw[a']at G;rcases List.mem_append.1 G with G|G
        ·rcases List.mem_append.1 G with G|G
         ·exact b3 t (PK G)
         ·exact r' t G
        ·exact b3 t (PI G)
       ·intro q t u G hu;rw[a']at G;refine Rp.kept kp ?_;have O':(aO es).length=xs.length:=by rw[ij b2,i']
        have Z:∀q t,z.cells[q]?=some t->(aO es)[j*k+q]?=some t:=fun q t hq=>mD b2 hold hq
        have G':j*k+k<=(aO es).length:=by omega
        simp only[List.getElem?_append,Mw,Nx,O0,NP,N7,s']at G hu
        by_cases c1:q<j*k
        ·simp only[show q<min (j*k) (aO es).length+(min o' z.cells.length+ts.length+(z.cells.length-(o'+ts.length))) by omega,show q<min (j*k) (aO es).length by omega,c1,show q<min (j*k+o') xs.length+ts.length by omega,show q<min (j*k+o') xs.length by omega,show q<j*k+o' by omega,M5]at G hu;exact b4 q t u G hu
        ·by_cases c2:q<j*k+o'
         ·simp only[show q<min (j*k) (aO es).length+(min o' z.cells.length+ts.length+(z.cells.length-(o'+ts.length))) by omega,show ¬q<min (j*k) (aO es).length by omega,show q-min (j*k) (aO es).length<min o' z.cells.length+ts.length by omega,show q-min (j*k) (aO es).length<min o' z.cells.length by omega,show q-min (j*k) (aO es).length<o' by omega,show q<min (j*k+o') xs.length+ts.length by omega,show q<min (j*k+o') xs.length by omega,c2,M5,NJ]at G hu;have:=Z _ t G;rw[show j*k+(q-min (j*k) (aO es).length)=q by omega]at this;exact b4 q t u this hu
         ·by_cases c3:q<j*k+o'+ts.length
          ·simp only[show q<min (j*k) (aO es).length+(min o' z.cells.length+ts.length+(z.cells.length-(o'+ts.length))) by omega,show ¬q<min (j*k) (aO es).length by omega,show q-min (j*k) (aO es).length<min o' z.cells.length+ts.length by omega,show ¬q-min (j*k) (aO es).length<min o' z.cells.length by omega,show q<min (j*k+o') xs.length+ts.length by omega,show ¬q<min (j*k+o') xs.length by omega,M5,NJ]at G hu;rw[show q-min (j*k) (aO es).length-min o' z.cells.length=q-(j*k+o') by omega]at G;rw[show q-min (j*k+o') xs.length=q-(j*k+o') by omega]at hu;have:=d'.2 (q-(j*k+o')) (.p t) u (by rw[k'];simp[G]) hu;exact this.inv_p
          ·by_cases c4:q<j*k+k
           ·simp only[show q<min (j*k) (aO es).length+(min o' z.cells.length+ts.length+(z.cells.length-(o'+ts.length))) by omega,show ¬q<min (j*k) (aO es).length by omega,show ¬q-min (j*k) (aO es).length<min o' z.cells.length+ts.length by omega,show ¬q<min (j*k+o') xs.length+ts.length by omega,M5,NJ]at G hu;rw[show j*k+o'+ts.length+(q-(min (j*k+o') xs.length+ts.length))=q by omega]at hu;have:=Z _ t G;rw[show j*k+(o'+ts.length+(q-min (j*k) (aO es).length-(min o' z.cells.length+ts.length)))=q by omega]at this;exact b4 q t u this hu
           ·simp only[show ¬q<min (j*k) (aO es).length+(min o' z.cells.length+ts.length+(z.cells.length-(o'+ts.length))) by omega,show ¬q<min (j*k+o') xs.length+ts.length by omega,NJ]at G hu;rw[show j*k+o'+ts.length+(q-(min (j*k+o') xs.length+ts.length))=q by omega]at hu;rw[show j*k+k+(q-(min (j*k) (aO es).length+(min o' z.cells.length+ts.length+(z.cells.length-(o'+ts.length)))))=q by omega]at G;exact b4 q t u G hu
     ·cases J
    ·cases J
   ·cases J
 ·cases J
end
end
end Go.Proofs.YtbjicljfjkdeeaaGreatDoor
