/- Part. -/
import Derived.Test.YtokconodddedhaaGreatDoorQ05
set_option maxRecDepth 100000
set_option maxHeartbeats 16000000
set_option linter.unusedVariables false
set_option linter.unusedSimpArgs false
namespace Go.Proofs.YtokconodddedhaaGreatDoor
open Go.Proofs.Tryz Go.RowKit
def zV:List Evt:=[⟨0,1,0,3,[]⟩,⟨0,0,0,5,[]⟩,⟨0,2,0,5,[]⟩]
theorem ed {P:Program} (w:World) {o:Oper} {a:Act} {K:Act->World->Prop} {Q:Exit->Act->World->Prop} (s x:Operand) (t:TypeId)
  (ho:o.op=.call { callee:=.builtin .append,args:=#[s,x],argTypes:=#[t,t] })
  (base:Nat) (e:TypeId) (i:TypeInfo) (z:Value) (size bytes:Nat) (ht:P.underlying t=some (.slice e)) (hi:P.info? e=some i) (hz:i.zero=some z)
  (F:i.size=size) (b':i.bytes=bytes) (c':z.cells.size=size) (Z:0<size)
  (v:Value) (n:Nat) (xs:List Value) (hs:a.eval s=v) (O:w.ownsRow base e size v n xs)
  (A:Option Addr) (m c:Nat) (news:List Value) (hx:a.eval x=.slice A m c) (J:Src w A m size news)
  (a':n+m<=maxLen) (D:(n+m)*bytes<=140737488355328) (G:base<=w.heap.size)
  (h:∀v' w',w'.ownsRow base e size v' (n+m) (xs++news)->w.grownBy w' v.ownBlock->(v'.ownBlock=v.ownBlock\/v'.ownBlock=some w.heap.size)->K (a.put o.dst v') w') :
  Oper.wp P o a w K Q:=by
 obtain⟨v',w',I,h2,h3,h4⟩:=lG (P:=P) w base t o.type e i z size bytes ht hi hz F b' c' Z v n xs O A m c news J a' D G;unfold Oper.wp execOp;simp only[ho,resolve,invoke,builtin,Sem.run_bind,Sem.run_pure,Result.andThen_ok,List.map_toArray,LF,MD,hs,hx,I];exact h v' w' h2 h3 h4
def EvCells (W:World) (G:Nat):Prop:=∀(j:Nat) (e:Evt),zV[j]?=some e->W.cell? ⟨G,j*5,none⟩=some (KW e.src)/\W.cell? ⟨G,j*5+1,none⟩=some (KW e.sq)/\W.cell? ⟨G,j*5+2,none⟩=some (KW e.ty)/\W.cell? ⟨G,j*5+3,none⟩=some (KW e.tm)/\W.cell? ⟨G,j*5+4,none⟩=some (.slice none 0 0)
theorem BZ {j:Nat} {e:Evt} (h:zV[j]?=some e):e.vals=[]:=by
 match j,h with
 | 0,h=>simp[zV]at h;subst h;rfl
 | 1,h=>simp[zV]at h;subst h;rfl
 | 2,h=>simp[zV]at h;subst h;rfl
 | k+3,h=>simp[zV]at h
theorem EvCells.is {w:World} {b:Nat} (h:EvCells w b):bm w (.slice (some ⟨b,0,none⟩) 3 3) zV:=by
 refine⟨_,3,rfl,Ld _,by decide,fun k x hk=>⟨b,0,rfl,?_⟩⟩;obtain⟨h0,z,G,D,F⟩:=h k x hk;rw[Lu];exact⟨_,by rw[BZ hk];exact Sl.nil _ _ _ _ _ (Lb _),h0,z,G,D,F⟩
section
theorem mQ:pi lU 3:=fun w b p x ⟨h0,D,F⟩ =>
 ⟨[KW x.kind,KW x.num,.string x.text],rfl,by simp[Value.oneCell'],fun j u h=>by
  match j,h with
  | 0,h=>simp at h;subst h;exact h0
  | 1,h=>simp at h;subst h;exact D
  | 2,h=>simp at h;subst h;exact F
  | j+3,h=>simp at h,fun W G I _ z=>⟨z 0 _ rfl,z 1 _ rfl,z 2 _ rfl⟩⟩
theorem D8 {α:Type} {R:World->Nat->Nat->α->Prop} {sz:Nat} (I:∀w w' b p x,w'.heap[b]?=w.heap[b]?->R w b p x->R w' b p x) (D:∀w b p x,R w b p x->b<w.heap.size)
  {w w':World} {v:Value} {l:List α} (h:Sl R sz w v l) (hk:l≠[]->∀g,g<w.heap.size->v.ownBlock=some g->w'.heap[g]?=w.heap[g]?):Sl R sz w' v l:=by
 obtain⟨A,c,rfl,G,J,F⟩:=h;refine⟨A,c,rfl,G,J,fun k x z=>?_⟩;obtain⟨b,o,rfl,hr⟩:=F k x z;exact⟨b,o,rfl,I _ _ _ _ _ (hk (fun e=>by rw[e]at z;simp at z) b (D _ _ _ _ hr) rfl) hr⟩
theorem yG:∀w w' b p x,w'.heap[b]?=w.heap[b]?->lU w b p x->lU w' b p x:=fun w w' b p x h ⟨h0,z,D⟩ =>
 ⟨(Ln (a:=⟨b,p,none⟩) h).trans h0,(Ln (a:=⟨b,p+1,none⟩) h).trans z,(Ln (a:=⟨b,p+2,none⟩) h).trans D⟩
theorem Bd:∀w b p x,lU w b p x->b<w.heap.size:=fun w b p _ ⟨h0,_⟩=>K8 w ⟨b,p,none⟩ h0
theorem fg {w w':World} {v:Value} {l:List Vl} (h:aV w v l) (hk:l≠[]->∀g,g<w.heap.size->v.ownBlock=some g->w'.heap[g]?=w.heap[g]?):aV w' v l:=D8 yG Bd h hk
theorem GF {w:World} {v:Value} {l:List Vl} (h:aV w v l) (F:l≠[]) {g:Nat} (z:v.ownBlock=some g):g<w.heap.size:=by
 obtain⟨A,c,rfl,G,I,D⟩:=h
 cases l with
 | nil=>exact absurd rfl F
 | cons x l =>
  obtain⟨b,o,rfl,hr⟩:=D 0 x rfl;have:b=g:=by simpa [Value.ownBlock] using z
  subst this;exact Bd _ _ _ _ hr
abbrev EV:=Evt × Value
def cn (l:List EV):List Value:=l.flatMap fun e=>[KW e.1.src,KW e.1.sq,KW e.1.ty,KW e.1.tm,e.2]
theorem jM (l m:List EV):cn (l++m)=cn l++cn m:=MP
theorem gk {w:World}:∀{l:List EV},(∀e∈l,aV w e.2 e.1.vals)->Means tP 5 w (cn l) (l.map (·.1))
 | [],_=>Means.nil
 | e::l,h=>by
  have he:=h e (Lg ..);have G:Means tP 5 w [KW e.1.src,KW e.1.sq,KW e.1.ty,KW e.1.tm,e.2] [e.1]:=⟨rfl,by simp[Value.oneCell'];exact fK he,fun W b o Z z k y hk=>by
   cases k with
   | zero =>
    simp at hk;subst hk;have I:=z 0 _ rfl;have J:=z 1 _ rfl;have O:=z 2 _ rfl;have F:=z 3 _ rfl;have c4:=z 4 _ rfl;exact⟨e.2,he.stays aC Z,jQ I,jQ J,jQ O,jQ F,jQ c4⟩
   | succ k=>simp at hk⟩
  exact G.app (gk fun x D=>h x (Lh _ D))
structure VarsW (A B g:Nat) (w:World) (vs:List Value) (es:List (List EV)):Prop where
 len:vs.length=es.length
 low:A<=g/\g<B
 blk:w.heap[g]?=some (.cells vs.toArray 34 (0,0))
 row:∀(k:Nat) (v:Value) (l:List EV),vs[k]?=some v->es[k]?=some l->w.ownsRow B 68 5 v l.length (cn l)
 apart:∀(j k:Nat) (u v:Value),vs[j]?=some u->vs[k]?=some v->j≠k->∀h,u.ownBlock=some h->v.ownBlock≠some h
 vals:∀(k:Nat) (l:List EV),es[k]?=some l->∀e∈l,aV w e.2 e.1.vals/\(e.1.vals≠[]->∀h,e.2.ownBlock=some h->(h<A\/B<=h)/\∀v∈vs,v.ownBlock≠some h)
section
variable {A B g : Nat} {w w' : World} {vs : List Value} {es : List (List EV)}
theorem VarsW.grow (h:VarsW A B g w vs es) (D:KY w w'):VarsW A B g w' vs es :=
 ⟨h.len,h.low,(D.block g (aD h.blk)).trans h.blk,fun k v l z F=>aj (h.row k v l z F) D,h.apart,fun k l z e he=>⟨(h.vals k l z e he).1.stays aC D,(h.vals k l z e he).2⟩⟩
theorem VarsW.set (h:VarsW A B g w vs es) {R:Nat} (J:A<=R/\R<B) (D:R≠g) (i:Nat) (u:Value):VarsW A B g (w.setCell ⟨R,i,none⟩ u) vs es :=
 ⟨h.len,h.low,(LB w ⟨R,i,none⟩ u g (Me D)).trans h.blk,fun k v l z G=>aT (h.row k v l z G) fun b F=>LB w ⟨R,i,none⟩ u b (by have:=(ah (h.row k v l z G) F).1;simp only;omega),h.apart,
  fun k l z e he=>⟨fg (h.vals k l z e he).1 fun I b _ F=>LB w ⟨R,i,none⟩ u b (by have:=((h.vals k l z e he).2 I b F).1;simp only;omega),(h.vals k l z e he).2⟩⟩
theorem mD {α:Type} {l:List α} {k:Nat} {x:α} (h:l[k]?=some x):k<l.length:=(List.getElem?_eq_some_iff.1 h).1
theorem VarsW.app (h:VarsW A B g w vs es) {k:Nat} {v Z u:Value} {l:List EV} {x:Evt} {w7:World} (hv:vs[k]?=some v) (hl:es[k]?=some l) (hB:B<=w.heap.size)
  (d':w7.ownsRow B 68 5 Z (l.length+1) (cn l++[KW x.src,KW x.sq,KW x.ty,KW x.tm,u])) (hg:w.grownBy w7 v.ownBlock) (e':Z.ownBlock=v.ownBlock\/Z.ownBlock=some w.heap.size)
  (hu:aV w u x.vals) (r':x.vals≠[]->∀h,u.ownBlock=some h->(h<A\/B<=h)/\∀v∈vs,v.ownBlock≠some h) :
  VarsW A B g (w7.setCell ⟨g,k,none⟩ Z) (vs.set k Z) (es.set k (l++[(x,u)])):=by
 have g':=mD hv;have f':=mD hl;have n':=aD h.blk;have i':=h.row k v l hv hl;have q':v.ownBlock≠some g:=fun e=>by have:=(ah i' e).1;have:=h.low.2;omega
 have h':w7.heap[g]?=some (.cells vs.toArray 34 (0,0)):=(hg.block g n' (fun e=>q' e.symm)).trans h.blk;have p':∀b,Z.ownBlock=some b->B<=b/\b<w7.heap.size:=fun b G=>ah d' G
 have hk:∀b,b<w.heap.size->b≠g->v.ownBlock≠some b->(w7.setCell ⟨g,k,none⟩ Z).heap[b]?=w.heap[b]?:=fun b G k' m' =>
  (LB w7 ⟨g,k,none⟩ Z b k').trans (hg.block b G (fun e=>m' e.symm))
 have hold:∀(j:Nat) (J:Value),vs[j]?=some J->∀b,J.ownBlock=some b->B<=b/\b<w.heap.size:=fun j J D b G=>by
  have l':j<es.length:=by rw[<-h.len];exact mD D
  exact ah (h.row j J es[j] D (K9 l')) G
 have c':∀(j:Nat) (J:Value),j≠k->vs[j]?=some J->∀b,J.ownBlock=some b->Z.ownBlock≠some b:=fun j J F D b G e=>by
  rcases e' with e2|e2
  ·rw[e2]at e;exact h.apart j k J v D hv F b G e
  ·rw[e2]at e;injection e with e;have:=(hold j J D b G).2;omega
 have a':∀(y:EV),aV w y.2 y.1.vals->(y.1.vals≠[]->∀b,y.2.ownBlock=some b->(b<A\/B<=b)/\∀v∈vs,v.ownBlock≠some b) ->
   aV (w7.setCell ⟨g,k,none⟩ Z) y.2 y.1.vals/\(y.1.vals≠[]->∀b,y.2.ownBlock=some b->(b<A\/B<=b)/\∀v∈vs.set k Z,v.ownBlock≠some b):=fun y h1 h2=>by
  refine⟨fg h1 fun I b G O=>hk b G (by have:=(h2 I b O).1;have:=h.low;omega) ((h2 I b O).2 v (Li hv)),fun I b O=>⟨(h2 I b O).1,fun z hz e=>?_⟩⟩;rcases List.mem_or_eq_of_mem_set hz with hz|rfl
  ·exact (h2 I b O).2 z hz e
  ·rcases e' with e2|e2
   ·rw[e2]at e;exact (h2 I b O).2 v (Li hv) e
   ·rw[e2]at e;injection e with e;have:=GF h1 I O;omega
 refine⟨by rw[List.length_set,List.length_set];exact h.len,h.low,?_,?_,?_,?_⟩
 ·have:=fx h' k Z;exact this
 ·intro j J m D hm
  by_cases F:k=j
  ·subst F;rw[NB g']at D;rw[NB f']at hm;injection D with D;injection hm with hm;subst D hm;rw[Le,jM];exact aT d' fun b G=>LB w7 ⟨g,k,none⟩ Z b (by have:=(p' b G).1;have:=h.low.2;simp only;omega)
  ·rw[NC F]at D hm;exact aT (h.row j J m D hm) fun b G=>hk b (hold j J D b G).2 (by have:=(hold j J D b G).1;have:=h.low.2;omega) (fun e=>h.apart j k J v D hv (Me F) b G e)
 ·intro i j a b hi D b' c hc e
  by_cases j':k=i
  ·subst j';rw[NB g']at hi;injection hi with hi;subst hi;rw[NC b']at D;exact c' j b (Me b') D c e hc
  ·rw[NC j']at hi
   by_cases F:k=j
   ·subst F;rw[NB g']at D;injection D with D;subst D;exact c' i a b' hi c hc e
   ·rw[NC F]at D;exact h.apart i j a b hi D b' c hc e
 ·intro j m hm y hy
  by_cases F:k=j
  ·subst F;rw[NB f']at hm;injection hm with hm;subst hm;rcases List.mem_append.1 hy with hy|hy
   ·exact a' y (h.vals k l hl y hy).1 (h.vals k l hl y hy).2
   ·simp at hy;subst hy;exact a' (x,u) hu r'
  ·rw[NC F]at hm;exact a' y (h.vals j m hm y hy).1 (h.vals j m hm y hy).2
theorem VarsW.is (h:VarsW A B g w vs es) (hm:es.length<=maxLen):gH w (.slice (some ⟨g,0,none⟩) es.length es.length) (es.map fun l=>l.map (·.1)):=by
 refine⟨_,es.length,by rw[Lm],by rw[Lm];exact Ld _,hm,fun k x hk=>⟨g,0,rfl,?_⟩⟩;rw[LI]at hk;obtain⟨l,D,rfl⟩:=Option.map_eq_some_iff.1 hk;have z:k<vs.length:=by rw[h.len];exact mD D
 have F:=K9 z;refine⟨vs[k],dC (gk fun e he=>(h.vals k l D e he).1) (La _ _) (by have:=h.row k vs[k] l F D;rwa [Lm]),?_⟩;rw[af h.blk,Lu,LL];exact F
theorem qI {n:Nat} (G:w.heap[g]?=some (.cells (List.replicate n (Value.slice none 0 0)).toArray 34 (0,0))) (F:A<=g/\g<B):VarsW A B g w (List.replicate n (.slice none 0 0)) (List.replicate n []):=by
 have hr:∀(k:Nat) (v:Value),(List.replicate n (Value.slice none 0 0))[k]?=some v->v=.slice none 0 0:=fun k v h=>(List.mem_replicate.1 (Li h)).2
 refine⟨by simp,F,G,fun k v l z D=>?_,fun j k u v z D _ h e=>?_,fun k l z e he=>?_⟩
 ·rw[hr k v z,(List.mem_replicate.1 (Li D)).2];exact⟨rfl,.inl ⟨rfl,rfl⟩⟩
 ·rw[hr j u z]at e;simp[Value.ownBlock]at e
 ·rw[(List.mem_replicate.1 (Li z)).2]at he;simp at he
end
theorem mA:(prog.info? 27).map (fun i=>(i.zero,i.size,i.bytes))=some (some (.agg #[KW 0,KW 0,.string ByteArray.empty]),3,32):=kr
theorem ju:(prog.info? 68).map (fun i=>(i.zero,i.size,i.bytes))=some (some (.agg #[KW 0,KW 0,KW 0,KW 0,.slice none 0 0]),5,56):=kr
theorem gw:(prog.info? 34).map (fun i=>(i.zero,i.size,i.bytes))=some (some (.slice none 0 0),1,24):=kr
theorem DZ (A:Option Addr) (n c:Nat) (cs:List Value) (w:World) (hs:Src w A n 3 cs) (hn:n<=1048576) :
  Calls prog 176 #[.slice A n c] w (J9 27 3 n cs w):=by
 obtain⟨O,hi,F,D,I⟩:=LD mA;have he:=fun W=>Lib.run_eql_slice_nil W 56 27 A n c 0 0 underlying56
 cases A with
 | none =>
  have h0:n=0:=by
   rcases No n with h|h
   ·exact h
   ·obtain⟨b,o,hA,_⟩:=hs.2.2 h;cases hA
  subst h0;have G:cs=[]:=L3 (jQ hs.1);subst G;clear hs;go_enter func176,ntmps176;go_wp2;go_ret;exact⟨_,rfl,⟨by simp,.inl ⟨rfl,rfl⟩⟩,La _ _⟩
 | some ad =>
  have HS:=jD hs;clear hs;go_enter func176,ntmps176;go_wp2_with (at_builtin;refine aR _ rfl (.tmp 5) (.tmp 6) 56 rfl w.heap.size 27 O _ 3 32 underlying56 hi F D I rfl dc (.slice (some ⟨w.heap.size,0,none⟩) 0 0) 0 [] rfl (rN w _ _ _ (Ld _)) (some ad) n c cs rfl (HS.out.stays (aJ (La _ _) _)) (by unfold maxLen;omega) om jS ?_;intro v1 w1 z Z J);go_ret;exact⟨_,rfl,jQ z,(aJ (La _ _) _).trans (am Z jS (fun g h=>Nat.le_of_eq (by simpa [Value.ownBlock] using h)))⟩
def rC (B:Nat) (w:World) (v:Value) (l:List Vl):Prop:=aV w v l/\∀g,v.ownBlock=some g->B<=g/\g<w.heap.size
theorem qa (l:List Vl) (v:Value) (w:World) (O:aV w v l) (F:l.length<=1048576) :
  Calls prog 176 #[v] w fun e w'=>∃v',e=.returned v'/\rC w.heap.size w' v' l/\KY w w':=by
 obtain⟨A,c,rfl,I,Z,D⟩:=O;obtain⟨cs,hm,hs,-⟩:=im mQ ⟨A,c,rfl,I,Z,D⟩;refine (DZ A l.length c cs w hs F).mono ?_;rintro e w3 ⟨J,rfl,z,h⟩;exact⟨J,rfl,⟨dC hm h z,fun g G=>ah z G⟩,h⟩
end
def eE (b:Bool):Vl:=⟨1,if b then 1 else 0,⟨#[]⟩⟩
def uT (n:Int):Vl:=⟨0,n,⟨#[]⟩⟩
def bY (x:Vl):List Value:=[KW x.kind,KW x.num,.string x.text]
def bb (l:List Vl):List Value:=l.flatMap bY
theorem fY (l m:List Vl):bb (l++m)=bb l++bb m:=MP
theorem go (l:List Vl) (x:Vl):bb (l++[x])=bb l++[KW x.kind,KW x.num,.string x.text]:=by rw[fY];rfl
theorem oN (l:List Vl):∀u∈bb l,u.oneCell'=true:=fun u hu=>by
 obtain⟨x,_,h⟩:=List.mem_flatMap.1 hu;simp only[bY,Lv,LM,LN]at h;rcases h with rfl|rfl|rfl<;>rfl
theorem gS:∀{l:List Vl} {k:Nat} {x:Vl},l[k]?=some x->∀r,r<3->(bb l)[k*3+r]?=(bY x)[r]?
 | [],k,x,h,_,_=>by simp at h
 | y::l,0,x,h,r,hr=>by
  simp at h;subst h;unfold bb;rw[Mk,My,Lu,LR (by simpa [bY] using hr)]
 | y::l,k+1,x,h,r,hr=>by
  have z:=gS (l:=l) (k:=k) (x:=x) (jQ h) r hr;unfold bb at z ⊢;rw[Mk,Mf (by simp[bY];omega),<-z];congr 1;simp[bY];omega
theorem mi {B:Nat} {wr:World} {D:Value} {l:List Vl} (h:wr.ownsRow B 27 3 D l.length (bb l)):aV wr D l:=by
 obtain⟨A,c,rfl,O,F,J⟩:=cU h (oN l);refine⟨A,c,rfl,O,F,fun k x hk=>?_⟩;have G:=(List.getElem?_eq_some_iff.1 hk).1;obtain⟨b,o,I,z⟩:=J.2.2 om;refine⟨b,o,I,z _ _ ?_,?_,?_⟩
 ·have:=gS hk 0 dc;simpa [bY] using this
 ·have:=gS hk 1 dc;rw[LJ];exact z _ _ (by simpa [bY] using this)
 ·have:=gS hk 2 dc;rw[LJ];exact z _ _ (by simpa [bY] using this)
def mW (w:World) (b p:Nat) (x:Int):Prop:=w.cell? ⟨b,p,none⟩=some (KW x)
abbrev bD (w:World) (v:Value) (l:List Int):Prop:=Sl mW 1 w v l
theorem aL:gG mW:=fun _ _ _ _ _ z h=>aa z h
def bl (l:List Int):List Value:=l.map (Value.int .i64)
theorem mH (l:List Int) (x:Int):bl (l++[x])=bl l++[KW x]:=by unfold bl;simp
theorem oW (l:List Int):∀u∈bl l,u.oneCell'=true:=fun u hu=>by
 obtain⟨x,_,rfl⟩:=List.mem_map.1 hu;rfl
theorem mc {B:Nat} {wr:World} {D:Value} {l:List Int} (h:wr.ownsRow B 3 1 D l.length (bl l)):bD wr D l:=by
 obtain⟨A,c,rfl,O,F,J⟩:=cU h (oW l);refine⟨A,c,rfl,O,F,fun k x hk=>?_⟩;have G:=(List.getElem?_eq_some_iff.1 hk).1;obtain⟨b,o,I,z⟩:=J.2.2 om;exact⟨b,o,I,by rw[LL];exact z k _ (by unfold bl;rw[LI,hk];rfl)⟩
theorem iA:(prog.info? 3).map (fun i=>(i.zero,i.size,i.bytes))=some (some (KW 0),1,8):=kr
end Go.Proofs.YtokconodddedhaaGreatDoor
