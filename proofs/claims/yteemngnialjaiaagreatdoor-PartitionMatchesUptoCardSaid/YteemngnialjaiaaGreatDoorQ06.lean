/- Part. -/
import Derived.Test.YteemngnialjaiaaGreatDoorRows
import Derived.Test.YteemngnialjaiaaGreatDoorQ05
import Derived.WideMake
import Derived.Shelf.SlSortCmp.NoneTotal
set_option maxRecDepth 100000
set_option maxHeartbeats 16000000
set_option linter.unusedVariables false
set_option linter.unusedSimpArgs false
namespace Go.Proofs.YteemngnialjaiaaGreatDoor
open Go.Proofs.Tryz Go.RowKit
variable {H α:Type}{P:Program}{w w' w7 wr W:World}{base fuel j b g B R k m:Nat}{spare:Nat->Bool}{held:Bool}{e x:Evt}{v J:Value}{o:Oper}{a:Act}{K:Act->World->Prop}{Q:Exit->Act->World->Prop}{l:List Vl}{vs:List Value}{ops:Array Oper}
section
section
open Go.ChangeShapes Go.WideShapes Go.ChangeAt Go.RowKit Go.Deep
section
variable {enc:TypeId×Value->H}
theorem pr{R:World->Nat->Nat->α->Prop}{sz:Nat}{t e:TypeId}(ht:P.underlying t=some (.slice e))(c':P.cellsOf e=sz)(a':0<sz)(hR:∀(n b o:Nat)(cs:List Value)(y:DataW H × List MemPlace),cs.length=sz->(∀(j:Nat)(u:Value),cs[j]?=some u->w.cell? ⟨b,o+j,none⟩=some u)->DataW.trod enc P w base spare held n e cs=some y->∃x,R w b o x){y:DataW H×List MemPlace}(h:DataW.trod enc P w base spare held fuel t [v]=some y):∃l:List α,Sl R sz w v l:=by
 rcases open_slice ht h with ⟨I,_⟩|⟨a,len,cap,m,n,D,Pl,I,_,hl,hm,hmm,_,hi⟩
 ·simp only[PJ,PU]at I;subst I;exact⟨[],Sl.nil _ _ _ _ _ (OO _)⟩
 ·simp only[PJ,PU]at I;subst I;have j':len<=m:=by rw[hmm];split<;>omega
  rcases QS len with h0|h0
  ·subst h0;exact⟨[],Sl.nil _ _ _ _ _ hm⟩
  ·have Z:∃b o,a=⟨b,o,none⟩:=by
    obtain⟨d',hc,_⟩:=hi 0 om;rw[c']at hc;obtain⟨_,f',J⟩:=World.cells?_some hc;have h2:=J 0 a';rw[OH om]at h2;have h3:=World.cell?_spot h2;obtain⟨b,o,sp⟩:=a;simp only[Addr.add,P1,Ps]at h3;exact⟨b,o,jQ h3⟩
   obtain⟨b,o,rfl⟩:=Z;obtain⟨l,g',h'⟩:=kf (fun k x=>R w b (o+k*sz) x) len (fun i k'=>by
    obtain⟨d',hc,i'⟩:=hi i om;rw[c']at hc;obtain⟨_,f',J⟩:=World.cells?_some hc;refine hR n b (o+i*sz) d' _ f' (fun j u hj=>?_) i';have h4:=J j (by have:=(List.getElem?_eq_some_iff.1 hj).1;omega);rw[cY,cY,hj]at h4;exact h4)
   exact⟨l,some ⟨b,o,none⟩,cap,by rw[g'],by omega,hm,fun k x hk=>⟨b,o,rfl,h' k x hk⟩⟩
end
theorem list1{l:List α}(h:l.length=1):∃a,l=[a]:=by
 match l,h with
 | [a],_=>exact⟨a,rfl⟩
theorem B2{l:List α}(h:l.length=2):∃a b,l=[a,b]:=by
 match l,h with
 | [a,b],_=>exact⟨a,b,rfl⟩
theorem sG{l:List α}(h:l.length=3):∃a b c,l=[a,b,c]:=by
 match l,h with
 | [a,b,c],_=>exact⟨a,b,c,rfl⟩
theorem dP:prog.cellsOf 3=1:=kr
section
variable {enc:TypeId×Value->H}
end
theorem FX:ownKnob prog.godebug=none:=kr
theorem yY:laidOutB prog=true:=kr
end
end
def zV:List Evt:=[⟨0,1,0,3,[]⟩,⟨0,0,0,5,[]⟩,⟨0,2,0,5,[]⟩]
theorem cU(w:World)(s x:Operand)(t:TypeId)(ho:o.op=.call { callee:=.builtin .append,args:=#[s,x],argTypes:=#[t,t] })(base:Nat)(e:TypeId)(i:TypeInfo)(z:Value)(size bytes:Nat)(ht:P.underlying t=some (.slice e))(hi:P.info? e=some i)(hz:i.zero=some z)(J:i.size=size)(h':i.bytes=bytes)(i':z.cells.size=size)(g':0<size)(v:Value)(n:Nat)(xs:List Value)(hs:a.eval s=v)(a':w.ownsRow base e size v n xs)(A:Option Addr)(m c:Nat)(news:List Value)(hx:a.eval x=.slice A m c)(d':Src w A m size news)(f':n+m<=maxLen)(I:(n+m)*bytes<=140737488355328)(Z:base<=w.heap.size)(h:∀v' w',w'.ownsRow base e size v' (n+m) (xs++news)->w.grownBy w' v.ownBlock->(v'.ownBlock=v.ownBlock\/v'.ownBlock=some w.heap.size)->K (a.put o.dst v') w') :
  Oper.wp P o a w K Q:=by
 obtain⟨v',w',c',h2,h3,h4⟩:=pB (P:=P) w base t o.type e i z size bytes ht hi hz J h' i' g' v n xs a' A m c news d' f' I Z;unfold Oper.wp execOp;simp only[ho,resolve,invoke,builtin,Pg,P0,Py,List.map_toArray,OU,P6,hs,hx,c'];exact h v' w' h2 h3 h4
def EvCells(W:World)(G:Nat):Prop:=∀(j:Nat)(e:Evt),zV[j]?=some e->W.cell? ⟨G,j*5,none⟩=some (OB e.src)/\W.cell? ⟨G,j*5+1,none⟩=some (OB e.sq)/\W.cell? ⟨G,j*5+2,none⟩=some (OB e.ty)/\W.cell? ⟨G,j*5+3,none⟩=some (OB e.tm)/\W.cell? ⟨G,j*5+4,none⟩=some (.slice none 0 0)
theorem DM(h:zV[j]?=some e):e.vals=[]:=by
 match j,h with
 | 0,h=>simp[zV]at h;subst h;rfl
 | 1,h=>simp[zV]at h;subst h;rfl
 | 2,h=>simp[zV]at h;subst h;rfl
 | k+3,h=>simp[zV]at h
theorem EvCells.is(h:EvCells w b):cH w (.slice (some ⟨b,0,none⟩) 3 3) zV:=by
 refine⟨_,3,rfl,OI _,by decide,fun k x hk=>⟨b,0,rfl,?_⟩⟩;obtain⟨h0,h1,I,Z,J⟩:=h k x hk;rw[Pd];exact⟨_,by rw[DM hk];exact Sl.nil _ _ _ _ _ (OO _),h0,h1,I,Z,J⟩
section
theorem uw:pg mC 3:=fun w b p x ⟨h0,h1,J⟩ =>
 ⟨[OB x.kind,OB x.num,.string x.text],rfl,by simp[Value.oneCell'],fun j u h=>by
  match j,h with
  | 0,h=>simp at h;subst h;exact h0
  | 1,h=>simp at h;subst h;exact h1
  | 2,h=>simp at h;subst h;exact J
  | j+3,h=>simp at h,fun W b' Z _ I=>⟨I 0 _ rfl,I 1 _ rfl,I 2 _ rfl⟩⟩
theorem F6{R:World->Nat->Nat->α->Prop}{sz:Nat}(hR:∀w w' b p x,w'.heap[b]?=w.heap[b]?->R w b p x->R w' b p x)(I:∀w b p x,R w b p x->b<w.heap.size){l:List α}(h:Sl R sz w v l)(hk:l≠[]->∀g,g<w.heap.size->v.ownBlock=some g->w'.heap[g]?=w.heap[g]?):Sl R sz w' v l:=by
 obtain⟨A,c,rfl,h1,Z,h3⟩:=h;refine⟨A,c,rfl,h1,Z,fun k x J=>?_⟩;obtain⟨b,o,rfl,hr⟩:=h3 k x J;exact⟨b,o,rfl,hR _ _ _ _ _ (hk (fun e=>by rw[e]at J;simp at J) b (I _ _ _ _ hr) rfl) hr⟩
theorem zY:∀w w' b p x,w'.heap[b]?=w.heap[b]?->mC w b p x->mC w' b p x:=fun w w' b p x h ⟨h0,h1,I⟩ =>
 ⟨(Pf (a:=⟨b,p,none⟩) h).trans h0,(Pf (a:=⟨b,p+1,none⟩) h).trans h1,(Pf (a:=⟨b,p+2,none⟩) h).trans I⟩
theorem Dy:∀w b p x,mC w b p x->b<w.heap.size:=fun w b p _ ⟨h0,_⟩=>OV w ⟨b,p,none⟩ h0
theorem jP(h:bh w v l)(hk:l≠[]->∀g,g<w.heap.size->v.ownBlock=some g->w'.heap[g]?=w.heap[g]?):bh w' v l:=F6 zY Dy h hk
theorem Ox(h:bh w v l)(I:l≠[])(Z:v.ownBlock=some g):g<w.heap.size:=by
 obtain⟨A,c,rfl,h1,h2,J⟩:=h
 cases l with
 | nil=>exact absurd rfl I
 | cons x l =>
  obtain⟨b,o,rfl,hr⟩:=J 0 x rfl;have:b=g:=by simpa [Value.ownBlock] using Z
  subst this;exact Dy _ _ _ _ hr
abbrev EV:=Evt × Value
def du(l:List EV):List Value:=l.flatMap fun e=>[OB e.1.src,OB e.1.sq,OB e.1.ty,OB e.1.tm,e.2]
theorem oP(l m:List EV):du (l++m)=du l++du m:=QD
theorem jn{w:World}:∀{l:List EV},(∀e∈l,bh w e.2 e.1.vals)->Means pP 5 w (du l) (l.map (·.1))
 | [],_=>Means.nil
 | e::l,h=>by
  have he:=h e (OR ..);have h1:Means pP 5 w [OB e.1.src,OB e.1.sq,OB e.1.ty,OB e.1.tm,e.2] [e.1]:=⟨rfl,by simp[Value.oneCell'];exact jf he,fun W b o J I k y hk=>by
   cases k with
   | zero =>
    simp at hk;subst hk;have Z:=I 0 _ rfl;have c1:=I 1 _ rfl;have c2:=I 2 _ rfl;have c3:=I 3 _ rfl;have c4:=I 4 _ rfl;exact⟨e.2,he.stays aG J,jQ Z,jQ c1,jQ c2,jQ c3,jQ c4⟩
   | succ k=>simp at hk⟩
  exact h1.app (jn fun x hx=>h x (OS _ hx))
structure VarsW(A B g:Nat)(w:World)(vs:List Value)(es:List (List EV)):Prop where
 len:vs.length=es.length
 low:A<=g/\g<B
 blk:w.heap[g]?=some (.cells vs.toArray 34 (0,0))
 row:∀(k:Nat)(v:Value)(l:List EV),vs[k]?=some v->es[k]?=some l->w.ownsRow B 71 5 v l.length (du l)
 apart:∀(j k:Nat)(u v:Value),vs[j]?=some u->vs[k]?=some v->j≠k->∀h,u.ownBlock=some h->v.ownBlock≠some h
 vals:∀(k:Nat)(l:List EV),es[k]?=some l->∀e∈l,bh w e.2 e.1.vals/\(e.1.vals≠[]->∀h,e.2.ownBlock=some h->(h<A\/B<=h)/\∀v∈vs,v.ownBlock≠some h)
section
variable {A:Nat}{es:List (List EV)}
theorem VarsW.grow(h:VarsW A B g w vs es)(I:OD w w'):VarsW A B g w' vs es :=
 ⟨h.len,h.low,(I.block g (aX h.blk)).trans h.blk,fun k v l h1 J=>aF (h.row k v l h1 J) I,h.apart,fun k l h1 e he=>⟨(h.vals k l h1 e he).1.stays aG I,(h.vals k l h1 e he).2⟩⟩
theorem VarsW.set(h:VarsW A B g w vs es)(hR:A<=R/\R<B)(I:R≠g)(i:Nat)(u:Value):VarsW A B g (w.setCell ⟨R,i,none⟩ u) vs es :=
 ⟨h.len,h.low,(Qq w ⟨R,i,none⟩ u g (Pc I)).trans h.blk,fun k v l h1 Z=>aY (h.row k v l h1 Z) fun b J=>Qq w ⟨R,i,none⟩ u b (by have:=(ao (h.row k v l h1 Z) J).1;simp only;omega),h.apart,
  fun k l h1 e he=>⟨jP (h.vals k l h1 e he).1 fun hn b _ J=>Qq w ⟨R,i,none⟩ u b (by have:=((h.vals k l h1 e he).2 hn b J).1;simp only;omega),(h.vals k l h1 e he).2⟩⟩
theorem pA{l:List α}{x:α}(h:l[k]?=some x):k<l.length:=(List.getElem?_eq_some_iff.1 h).1
theorem VarsW.app(h:VarsW A B g w vs es){v7 u:Value}{l:List EV}(hv:vs[k]?=some v)(hl:es[k]?=some l)(hB:B<=w.heap.size)(g':w7.ownsRow B 71 5 v7 (l.length+1) (du l++[OB x.src,OB x.sq,OB x.ty,OB x.tm,u]))(hg:w.grownBy w7 v.ownBlock)(i':v7.ownBlock=v.ownBlock\/v7.ownBlock=some w.heap.size)(hu:bh w u x.vals)(r':x.vals≠[]->∀h,u.ownBlock=some h->(h<A\/B<=h)/\∀v∈vs,v.ownBlock≠some h) :
  VarsW A B g (w7.setCell ⟨g,k,none⟩ v7) (vs.set k v7) (es.set k (l++[(x,u)])):=by
 have k':=pA hv;have h':=pA hl;have x':=aX h.blk;have n':=h.row k v l hv hl;have s':v.ownBlock≠some g:=fun e=>by have:=(ao n' e).1;have:=h.low.2;omega
 have l':w7.heap[g]?=some (.cells vs.toArray 34 (0,0)):=(hg.block g x' (fun e=>s' e.symm)).trans h.blk;have t':∀b,v7.ownBlock=some b->B<=b/\b<w7.heap.size:=fun b Z=>ao g' Z
 have hk:∀b,b<w.heap.size->b≠g->v.ownBlock≠some b->(w7.setCell ⟨g,k,none⟩ v7).heap[b]?=w.heap[b]?:=fun b Z q' p' =>
  (Qq w7 ⟨g,k,none⟩ v7 b q').trans (hg.block b Z (fun e=>p' e.symm))
 have dX:∀(j:Nat)(u':Value),vs[j]?=some u'->∀b,u'.ownBlock=some b->B<=b/\b<w.heap.size:=fun j u' I b Z=>by
  have y':j<es.length:=by rw[<-h.len];exact pA I
  exact ao (h.row j u' es[j] I (OH y')) Z
 have j':∀(j:Nat)(u':Value),j≠k->vs[j]?=some u'->∀b,u'.ownBlock=some b->v7.ownBlock≠some b:=fun j u' J I b Z e=>by
  rcases i' with e2|e2
  ·rw[e2]at e;exact h.apart j k u' v I hv J b Z e
  ·rw[e2]at e;injection e with e;have:=(dX j u' I b Z).2;omega
 have d':∀(y:EV),bh w y.2 y.1.vals->(y.1.vals≠[]->∀b,y.2.ownBlock=some b->(b<A\/B<=b)/\∀v∈vs,v.ownBlock≠some b) ->
   bh (w7.setCell ⟨g,k,none⟩ v7) y.2 y.1.vals/\(y.1.vals≠[]->∀b,y.2.ownBlock=some b->(b<A\/B<=b)/\∀v∈vs.set k v7,v.ownBlock≠some b):=fun y h1 h2=>by
  refine⟨jP h1 fun a' b Z c'=>hk b Z (by have:=(h2 a' b c').1;have:=h.low;omega) ((h2 a' b c').2 v (Pb hv)),fun a' b c'=>⟨(h2 a' b c').1,fun z hz e=>?_⟩⟩;rcases List.mem_or_eq_of_mem_set hz with hz|rfl
  ·exact (h2 a' b c').2 z hz e
  ·rcases i' with e2|e2
   ·rw[e2]at e;exact (h2 a' b c').2 v (Pb hv) e
   ·rw[e2]at e;injection e with e;have:=Ox h1 a' c';omega
 refine⟨by rw[RY,RY];exact h.len,h.low,?_,?_,?_,?_⟩
 ·have:=dV l' k v7;exact this
 ·intro j u' m I hm
  by_cases J:k=j
  ·subst J;rw[RZ k']at I;rw[RZ h']at hm;injection I with I;injection hm with hm;subst I hm;rw[OM,oP];exact aY g' fun b Z=>Qq w7 ⟨g,k,none⟩ v7 b (by have:=(t' b Z).1;have:=h.low.2;simp only;omega)
  ·rw[R0 J]at I hm;exact aY (h.row j u' m I hm) fun b Z=>hk b (dX j u' I b Z).2 (by have:=(dX j u' I b Z).1;have:=h.low.2;omega) (fun e=>h.apart j k u' v I hv (Pc J) b Z e)
 ·intro i j a b hi I f' c hc e
  by_cases m':k=i
  ·subst m';rw[RZ k']at hi;injection hi with hi;subst hi;rw[R0 f']at I;exact j' j b (Pc f') I c e hc
  ·rw[R0 m']at hi
   by_cases J:k=j
   ·subst J;rw[RZ k']at I;injection I with I;subst I;exact j' i a f' hi c hc e
   ·rw[R0 J]at I;exact h.apart i j a b hi I f' c hc e
 ·intro j m hm y hy
  by_cases J:k=j
  ·subst J;rw[RZ h']at hm;injection hm with hm;subst hm;rcases List.mem_append.1 hy with hy|hy
   ·exact d' y (h.vals k l hl y hy).1 (h.vals k l hl y hy).2
   ·simp at hy;subst hy;exact d' (x,u) hu r'
  ·rw[R0 J]at hm;exact d' y (h.vals j m hm y hy).1 (h.vals j m hm y hy).2
theorem VarsW.is(h:VarsW A B g w vs es)(hm:es.length<=maxLen):dU w (.slice (some ⟨g,0,none⟩) es.length es.length) (es.map fun l=>l.map (·.1)):=by
 refine⟨_,es.length,by rw[OL],by rw[OL];exact OI _,hm,fun k x hk=>⟨g,0,rfl,?_⟩⟩;rw[OQ]at hk;obtain⟨l,J,rfl⟩:=Option.map_eq_some_iff.1 hk;have I:k<vs.length:=by rw[h.len];exact pA J
 have Z:=OH I;refine⟨vs[k],fj (jn fun e he=>(h.vals k l J e he).1) (OK _ _) (by have:=h.row k vs[k] l Z J;rwa [OL]),?_⟩;rw[ab h.blk,Pd,P7];exact Z
end
theorem kQ:(prog.info? 27).map (fun i=>(i.zero,i.size,i.bytes))=some (some (.agg #[OB 0,OB 0,.string ByteArray.empty]),3,32):=kr
theorem If:(prog.info? 71).map (fun i=>(i.zero,i.size,i.bytes))=some (some (.agg #[OB 0,OB 0,OB 0,OB 0,.slice none 0 0]),5,56):=kr
theorem E0:(prog.info? 34).map (fun i=>(i.zero,i.size,i.bytes))=some (some (.slice none 0 0),1,24):=kr
theorem Er(A:Option Addr)(n c:Nat)(cs:List Value)(w:World)(hs:Src w A n 3 cs)(hn:n<=1048576) :
  Calls prog 150 #[.slice A n c] w (MQ 27 3 n cs w):=by
 obtain⟨i0,hi,J,Z,a'⟩:=Ql kQ;have he:=fun W=>Lib.run_eql_slice_nil W 59 27 A n c 0 0 underlying59
 cases A with
 | none =>
  have h0:n=0:=by
   rcases QS n with h|h
   ·exact h
   ·obtain⟨b,o,hA,_⟩:=hs.2.2 h;cases hA
  subst h0;have c':cs=[]:=Po (jQ hs.1);subst c';clear hs;go_enter func150,ntmps150;go_wp2;go_ret;exact⟨_,rfl,⟨by simp,.inl ⟨rfl,rfl⟩⟩,OK _ _⟩
 | some ad =>
  have HS:=jD hs;clear hs;go_enter func150,ntmps150;go_wp2_with (at_builtin;refine fb _ rfl (.tmp 5) (.tmp 6) 59 rfl w.heap.size 27 i0 _ 3 32 underlying59 hi J Z a' rfl dc (.slice (some ⟨w.heap.size,0,none⟩) 0 0) 0 [] rfl (rZ w _ _ _ (OI _)) (some ad) n c cs rfl (HS.out.stays (bA (OK _ _) _)) (by unfold maxLen;omega) om jS ?_;intro v1 w1 I hg d');go_ret;exact⟨_,rfl,jQ I,(bA (OK _ _) _).trans (aB hg jS (fun g h=>Qr (by simpa [Value.ownBlock] using h)))⟩
def tW(B:Nat)(w:World)(v:Value)(l:List Vl):Prop:=bh w v l/\∀g,v.ownBlock=some g->B<=g/\g<w.heap.size
theorem AN(l:List Vl)(v:Value)(w:World)(hl:bh w v l)(hn:l.length<=1048576) :
  Calls prog 150 #[v] w fun e w'=>∃v',e=.returned v'/\tW w.heap.size w' v' l/\OD w w':=by
 obtain⟨A,c,rfl,h1,Z,J⟩:=hl;obtain⟨cs,hm,hs,-⟩:=jY uw ⟨A,c,rfl,h1,Z,J⟩;refine (Er A l.length c cs w hs hn).mono ?_;rintro e w3 ⟨v3,rfl,h,I⟩;exact⟨v3,rfl,⟨fj hm I h,fun g hg=>ao h hg⟩,I⟩
end
def bQ(b:Bool):Vl:=⟨1,if b then 1 else 0,⟨#[]⟩⟩
def fK(n:Int):Vl:=⟨0,n,⟨#[]⟩⟩
def eA(x:Vl):List Value:=[OB x.kind,OB x.num,.string x.text]
def bS(l:List Vl):List Value:=l.flatMap eA
theorem zA(l m:List Vl):bS (l++m)=bS l++bS m:=QD
theorem gD(l:List Vl)(x:Vl):bS (l++[x])=bS l++[OB x.kind,OB x.num,.string x.text]:=by rw[zA];rfl
theorem yJ(l:List Vl):∀u∈bS l,u.oneCell'=true:=fun u hu=>by
 obtain⟨x,_,h⟩:=List.mem_flatMap.1 hu;simp only[eA,O7,Pw,Px]at h;rcases h with rfl|rfl|rfl<;>rfl
theorem je:∀{l:List Vl}{k:Nat}{x:Vl},l[k]?=some x->∀r,r<3->(bS l)[k*3+r]?=(eA x)[r]?
 | [],k,x,h,_,_=>by simp at h
 | y::l,0,x,h,r,hr=>by
  simp at h;subst h;unfold bS;rw[O8,P1,Pd,Ph (by simpa [eA] using hr)]
 | y::l,k+1,x,h,r,hr=>by
  have I:=je (l:=l) (k:=k) (x:=x) (jQ h) r hr;unfold bS at I ⊢;rw[O8,Pz (by simp[eA];omega),<-I];congr 1;simp[eA];omega
theorem kG(h:wr.ownsRow B 27 3 J l.length (bS l)):bh wr J l:=by
 obtain⟨A,c,rfl,Z,h3,h4⟩:=fm h (yJ l);refine⟨A,c,rfl,Z,h3,fun k x hk=>?_⟩;have a':=(List.getElem?_eq_some_iff.1 hk).1;obtain⟨b,o,hA,I⟩:=h4.2.2 om;refine⟨b,o,hA,I _ _ ?_,?_,?_⟩
 ·have:=je hk 0 dc;simpa [eA] using this
 ·have:=je hk 1 dc;rw[PP];exact I _ _ (by simpa [eA] using this)
 ·have:=je hk 2 dc;rw[PP];exact I _ _ (by simpa [eA] using this)
def vH(w:World)(b p:Nat)(x:Int):Prop:=w.cell? ⟨b,p,none⟩=some (OB x)
abbrev iJ(w:World)(v:Value)(l:List Int):Prop:=Sl vH 1 w v l
theorem ic:jU vH:=fun _ _ _ _ _ I h=>aa I h
def eo(l:List Int):List Value:=l.map (Value.int .i64)
theorem vo(l:List Int)(x:Int):eo (l++[x])=eo l++[OB x]:=by unfold eo;simp
theorem zo(l:List Int):∀u∈eo l,u.oneCell'=true:=fun u hu=>by
 obtain⟨x,_,rfl⟩:=List.mem_map.1 hu;rfl
theorem wG{l:List Int}(h:wr.ownsRow B 3 1 J l.length (eo l)):iJ wr J l:=by
 obtain⟨A,c,rfl,Z,h3,h4⟩:=fm h (zo l);refine⟨A,c,rfl,Z,h3,fun k x hk=>?_⟩;have a':=(List.getElem?_eq_some_iff.1 hk).1;obtain⟨b,o,hA,I⟩:=h4.2.2 om;exact⟨b,o,hA,by rw[P7];exact I k _ (by unfold eo;rw[OQ,hk];rfl)⟩
theorem wJ:(prog.info? 3).map (fun i=>(i.zero,i.size,i.bytes))=some (some (OB 0),1,8):=kr
theorem aw{o:Obj}(I:OD w w')(h:w.heap[m]?=some o):w'.heap[m]?=some o:=(I.block m (Array.getElem?_eq_some_iff.1 h).1).trans h
theorem aI{o x:Obj}(h:W.heap[k]?=some x):(W.alloc o).heap[k]?=some x:=aw (ay W o) h
def VBox(W:World)(B:Nat):Prop:=∃a b c,W.heap[B]?=some (.cells [a,b,c].toArray 27 (0,0))
theorem VBox.stays(h:VBox w B)(I:OD w w'):VBox w' B:=by
 obtain⟨a,b,c,h⟩:=h;exact⟨a,b,c,aw I h⟩
theorem VBox.lt(h:VBox w B):B<w.heap.size:=by
 obtain⟨a,b,c,h⟩:=h;exact aX h
theorem VBox.facts(h:VBox W B):∃a b c,W.cell? ⟨B,0,none⟩=some a/\W.cell? ⟨B,1,none⟩=some b/\W.cell? ⟨B,2,none⟩=some c/\W.frozen? ⟨B,0,none⟩=false/\W.frozen? ⟨B,1,none⟩=false/\W.frozen? ⟨B,2,none⟩=false:=by
 obtain⟨a,b,c,h⟩:=h;exact⟨a,b,c,ab h 0,ab h 1,ab h 2,af h 0,af h 1,af h 2⟩
theorem am(w:World)(b i:Nat)(v:Value):(w.setCell ⟨b,i,none⟩ v).cell? ⟨b,i,none⟩=(w.cell? ⟨b,i,none⟩).map fun _=>v:=by
 unfold World.setCell World.cell?;simp only[RC,Ps]
 cases h:w.heap[b]? with
 | none=>rfl
 | some o =>
  cases o<;>simp[Array.getElem?_setIfInBounds]
  all_goals (try split)<;>simp_all
theorem bH(h:OD w W)(I:w.heap.size<=b)(x y z:Value):OD w (((W.setCell ⟨b,0,none⟩ x).setCell ⟨b,1,none⟩ y).setCell ⟨b,2,none⟩ z):=aj (aj (aj h I _) I _) I _
theorem eE{a b c:Value}(h:Below (w.alloc (.cells [a,b,c].toArray 27 (0,0))).heap.size (w.alloc (.cells [a,b,c].toArray 27 (0,0))) w'):VBox w' w.heap.size:=⟨a,b,c,aw h (ax _ _ _ rfl)⟩
theorem D2(b:Bool)(w:World):OE 163 #[.bool b] w (vlV (bQ b)):=by
 unfold vlV bQ
 cases b
 all_goals
  go_enter func163,ntmps163;go_wp2
  go_returns
  exact⟨rfl,jB⟩
theorem ia(b:Bool)(w:World):OE 90 #[.bool b] w (vlV (bQ b)):=by
 obtain⟨x,J⟩:=jE (bQ b);have I:=jD (fun W=>D2 b W);rw[J]at I ⊢;clear J;unfold vlV at *;go_enter func90,ntmps90;go_wp2_with fail;refine (I.out _).mono ?_;rintro e w1 ⟨rfl,h⟩;obtain⟨a0,b0,c0,z0,Z,z2,f0,f1,f2⟩:=(eE h).facts;go_wp2;exact OJ (v:=vlV x) (by simp[results,results90,go_sem,am,z0,Z,z2,vlV]) rfl ⟨rfl,bH (ae (ay w _) h) (OI _) _ _ _⟩
theorem fV(b:Bool)(w:World):OE 49 #[.bool b] w (vlV (bQ b)):=by
 unfold vlV bQ
 cases b
 all_goals
  go_enter func49,ntmps49;go_wp2
  go_returns
  exact⟨rfl,jB⟩
theorem opsT:prog.underlying 113=some (.map 3 162):=kr
theorem iF(w:World){rest:List Oper}(I:o.guard=none)(m x v:Operand)(a':o.op=Op.insert 113 m x v)(b:Nat)(k:Int)(u:Value)(es:Array MapEntry)(clock:Nat)(hm:a.eval m=.map (some b))(hx:a.eval x=OB k)(hv:a.eval v=u)(Z:w.heap[b]?=some (.map es clock))(hf:Instr.findNow (.int .i64) (OB k) es.toList 0=some none)(hK:∀w',w'.heap[b]?=some (.map (es.push { key:=OB k,val:=u,born:=clock }) (clock+1))->w.grownBy w' (some b)->wpList prog ops Q rest (a.put o.dst undef) w'):wpList prog ops Q (o::rest) a w:=by
 refine wpList_plain I fun K' c'=>?_
 have hc:(Instr.checkKey false 10000 3 (OB k)).run prog w=.ok () w:=MapKept.run_checkKey (k:=OB k) underlying3 (by simp[MapKept.IsKey]) false 9999;have h:(Instr.mapUpdate 113 (.map (some b)) (OB k) u).run prog w=.ok () { w with heap:=w.heap.setIfInBounds b (.map (es.push { key:=OB k,val:=u,born:=clock }) (clock+1)) }:=by
  simp[Instr.mapUpdate,Pu opsT,MapKept.run_getObj_map Z,hc,MapKept.run_findKey underlying3 hf,MapKept.run_setObj_map _ Z,Result.andThen]
 unfold Oper.wp;simp[execOp,a',hm,hx,hv,h,Result.andThen];have h2:=MapKept.heap_set (o':=.map (es.push { key:=OB k,val:=u,born:=clock }) (clock+1)) Z;exact c' _ _ (hK _ h2.1 ⟨rfl,rfl,rfl,by simp,fun i hi J=>h2.2 i (fun e=>J (by rw[e]))⟩)
def opEs(g:Nat):Array MapEntry:=#[⟨OB 5,.func (.func 87) #[] #[.pointer (some ⟨g,0,none⟩)],0⟩,⟨OB 6,.func (.func 88) #[] #[.pointer (some ⟨g,0,none⟩)],1⟩,
 ⟨OB 7,.func (.func 89) #[] #[],2⟩,⟨OB 8,.func (.func 91) #[] #[],3⟩,⟨OB 10,.func (.func 92) #[] #[],4⟩,
 ⟨OB 11,.func (.func 93) #[] #[],5⟩,⟨OB 12,.func (.func 94) #[] #[],6⟩]
def OpsAt(w:World)(m:Nat):Prop:=∃g,w.heap[m]?=some (.map (opEs g) 7)/\w.cell? ⟨g,0,none⟩=some (.func (.func 86) #[] #[])
theorem OpsAt.stays(h:OpsAt w m)(I:OD w w'):OpsAt w' m:=by
 obtain⟨g,h1,J⟩:=h;exact⟨g,aw I h1,aa I J⟩
theorem tQ(n:Int)(w:World):OE 86 #[OB n] w (vlV (fK n)):=by
 unfold vlV fK;go_enter func86,ntmps86;go_wp2
 go_returns
 exact⟨rfl,jB⟩
theorem Kn(a b:Int)(g:Nat)(w:World)(Z:w.cell? ⟨g,0,none⟩=some (.func (.func 86) #[] #[])) :
  Calls prog 87 #[OB a,OB b,.pointer (some ⟨g,0,none⟩)] w fun e w'=>e=.returned (vlV (fK (IntKind.i64.wrap (a+b))))/\OD w w':=by
 obtain⟨n,hn⟩:=jE (IntKind.i64.wrap (a+b));have I:=jD (fun W=>tQ n W);rw[hn];obtain⟨x,J⟩:=jE (fK n);rw[J]at I ⊢;clear J;have c':g<w.heap.size:=OV w ⟨g,_,none⟩ Z;have a':g≠w.heap.size:=by omega
 unfold vlV at *;go_enter func87,ntmps87;go_wp2_with fail;refine (I.out _).mono ?_;rintro e w1 ⟨rfl,h⟩;obtain⟨a0,b0,c0,z0,z1,z2,f0,f1,f2⟩:=(eE h).facts;go_wp2;exact OJ (v:=vlV x) (by simp[results,results87,go_sem,am,z0,z1,z2,vlV]) rfl ⟨rfl,bH (ae (ay w _) h) (OI _) _ _ _⟩
theorem K7(a b:Int)(g:Nat)(w:World)(Z:w.cell? ⟨g,0,none⟩=some (.func (.func 86) #[] #[])) :
  Calls prog 88 #[OB a,OB b,.pointer (some ⟨g,0,none⟩)] w fun e w'=>e=.returned (vlV (fK (IntKind.i64.wrap (a-b))))/\OD w w':=by
 obtain⟨n,hn⟩:=jE (IntKind.i64.wrap (a-b));have I:=jD (fun W=>tQ n W);rw[hn];obtain⟨x,J⟩:=jE (fK n);rw[J]at I ⊢;clear J;have c':g<w.heap.size:=OV w ⟨g,_,none⟩ Z;have a':g≠w.heap.size:=by omega
 unfold vlV at *;go_enter func88,ntmps88;go_wp2_with fail;refine (I.out _).mono ?_;rintro e w1 ⟨rfl,h⟩;obtain⟨a0,b0,c0,z0,z1,z2,f0,f1,f2⟩:=(eE h).facts;go_wp2;exact OJ (v:=vlV x) (by simp[results,results88,go_sem,am,z0,z1,z2,vlV]) rfl ⟨rfl,bH (ae (ay w _) h) (OI _) _ _ _⟩
theorem K8(a b:Int)(w:World) :
  Calls prog 89 #[OB a,OB b] w fun e w'=>e=.returned (vlV (bQ (decide (a<b))))/\OD w w':=by
 by_cases c1:a<b
 all_goals
  obtain⟨t,I⟩:=jE (decide (a<b));rw[I];simp[c1]at I;have J:=jD (fun W=>ia t W);generalize hx:bQ t=x at J ⊢;clear hx;subst I;unfold vlV at *;go_enter func89,ntmps89;go_wp2_with fail;refine (J.out _).mono ?_;rintro e w1 ⟨rfl,h⟩;obtain⟨a0,b0,c0,z0,Z,z2,f0,f1,f2⟩:=(eE h).facts;go_wp2;exact OJ (v:=vlV x) (by simp[results,results89,go_sem,am,z0,Z,z2,vlV]) rfl ⟨rfl,bH (ae (ay w _) h) (OI _) _ _ _⟩
theorem I9(a b:Int)(w:World) :
  Calls prog 91 #[OB a,OB b] w fun e w'=>e=.returned (vlV (bQ (decide (a<=b))))/\OD w w':=by
 by_cases c1:a<=b
 all_goals
  obtain⟨t,I⟩:=jE (decide (a<=b));rw[I];simp[c1]at I;have J:=jD (fun W=>ia t W);generalize hx:bQ t=x at J ⊢;clear hx;subst I;unfold vlV at *;go_enter func91,ntmps91;go_wp2_with fail;refine (J.out _).mono ?_;rintro e w1 ⟨rfl,h⟩;obtain⟨a0,b0,c0,z0,Z,z2,f0,f1,f2⟩:=(eE h).facts;go_wp2;exact OJ (v:=vlV x) (by simp[results,results91,go_sem,am,z0,Z,z2,vlV]) rfl ⟨rfl,bH (ae (ay w _) h) (OI _) _ _ _⟩
theorem Hz(a b:Int)(w:World) :
  Calls prog 92 #[OB a,OB b] w fun e w'=>e=.returned (vlV (bQ ((decide (a=1)&&decide (b=1)))))/\OD w w':=by
 by_cases c1:a=1<;>by_cases c2:b=1
 all_goals
  obtain⟨t,Z⟩:∃t,((decide (a=1)&&decide (b=1)))=t:=⟨_,rfl⟩;rw[Z];simp[c1,c2]at Z;have HN:=jD (fun W=>ia t W);generalize hx:bQ t=x at HN ⊢;clear hx;subst Z;unfold vlV at *;obtain⟨da,a'⟩:∃d,(a==1)=d:=⟨_,rfl⟩;have h:da=decide (a=1):=by rw[<-a',Qc];simp
  simp only[c1,QJ,QU]at h;subst h;obtain⟨db,c'⟩:∃d,(b==1)=d:=⟨_,rfl⟩;have I:db=decide (b=1):=by rw[<-c',Qc];simp
  simp only[c2,QJ,QU]at I;subst I;go_enter func92,ntmps92;go_wp2_with fail;refine (HN.out _).mono ?_;rintro e w1 ⟨rfl,J⟩;obtain⟨a0,b0,c0,z0,z1,z2,f0,f1,f2⟩:=(eE J).facts;go_wp2;exact OJ (v:=vlV x) (by simp[results,results92,go_sem,am,z0,z1,z2,vlV]) rfl ⟨rfl,bH (ae (ay w _) J) (OI _) _ _ _⟩
theorem G4(a b:Int)(w:World) :
  Calls prog 93 #[OB a,OB b] w fun e w'=>e=.returned (vlV (bQ ((decide (a=1) || decide (b=1)))))/\OD w w':=by
 by_cases c1:a=1<;>by_cases c2:b=1
 all_goals
  obtain⟨t,Z⟩:∃t,((decide (a=1) || decide (b=1)))=t:=⟨_,rfl⟩;rw[Z];simp[c1,c2]at Z;have HN:=jD (fun W=>ia t W);generalize hx:bQ t=x at HN ⊢;clear hx;subst Z;unfold vlV at *;obtain⟨da,a'⟩:∃d,(a==1)=d:=⟨_,rfl⟩;have h:da=decide (a=1):=by rw[<-a',Qc];simp
  simp only[c1,QJ,QU]at h;subst h;obtain⟨db,c'⟩:∃d,(b==1)=d:=⟨_,rfl⟩;have I:db=decide (b=1):=by rw[<-c',Qc];simp
  simp only[c2,QJ,QU]at I;subst I;go_enter func93,ntmps93;go_wp2_with fail;refine (HN.out _).mono ?_;rintro e w1 ⟨rfl,J⟩;obtain⟨a0,b0,c0,z0,z1,z2,f0,f1,f2⟩:=(eE J).facts;go_wp2;exact OJ (v:=vlV x) (by simp[results,results93,go_sem,am,z0,z1,z2,vlV]) rfl ⟨rfl,bH (ae (ay w _) J) (OI _) _ _ _⟩
theorem FT(a b:Int)(w:World) :
  Calls prog 94 #[OB a,OB b] w fun e w'=>e=.returned (vlV (bQ (!decide (a=1))))/\OD w w':=by
 by_cases c1:a=1
 all_goals
  obtain⟨t,ht⟩:∃t,(!decide (a=1))=t:=⟨_,rfl⟩;rw[ht];simp[c1]at ht;have HN:=jD (fun W=>ia t W);generalize hx:bQ t=x at HN ⊢;clear hx;subst ht;unfold vlV at *;obtain⟨da,J⟩:∃d,(a==1)=d:=⟨_,rfl⟩;have h:da=decide (a=1):=by rw[<-J,Qc];simp
  simp only[c1,QJ,QU]at h;subst h;have I:(a != 1)=!(a==1):=rfl;rw[J]at I;simp only[PH,PY]at I;go_enter func94,ntmps94;go_wp2_with fail;refine (HN.out _).mono ?_;rintro e w1 ⟨rfl,Z⟩;obtain⟨a0,b0,c0,z0,z1,z2,f0,f1,f2⟩:=(eE Z).facts;go_wp2;exact OJ (v:=vlV x) (by simp[results,results94,go_sem,am,z0,z1,z2,vlV]) rfl ⟨rfl,bH (ae (ay w _) Z) (OI _) _ _ _⟩
theorem ry(w:World):Calls prog 43 #[] w fun e w'=>∃m,e=.returned (.map (some m))/\OpsAt w' m/\OD w w':=by
 have g':=@run_makeMap_plain prog;have f':∀(W:World)(a:Addr),(store a (.func (.func 86) #[] #[])).run prog W=stored prog W a (.func (.func 86) #[] #[]) .plain:=fun W a=>run_store prog W a _ .plain rfl
 go_enter func43,ntmps43;go_wp2_with (first
  | ((refine iF _ rfl _ _ _ rfl (w.heap.size+1) 5 _ #[] 0 rfl rfl rfl (ax _ _ _ jS) rfl ?_);(intro w1 h d');(have I:=aB d' (B:=w.heap.size+1) jS (fun g J=>by injection J with J;omega));have c':w.heap.size+1<w1.heap.size:=(Array.getElem?_eq_some_iff.1 h).1)
  | ((refine iF _ rfl _ _ _ rfl (w.heap.size+1) _ _ _ _ rfl rfl rfl h rfl ?_);(clear h);(intro w2 h a');(have Z:=I.trans (aB a' (B:=w.heap.size+1) om (fun g J=>by injection J with J;omega)));(clear I);(have I:=Z);(clear Z a' c');have c':w.heap.size+1<w2.heap.size:=(Array.getElem?_eq_some_iff.1 h).1))
 go_ret;refine⟨w.heap.size+1,rfl,⟨w.heap.size,h,?_⟩,?_⟩
 ·refine (Pf (I.block w.heap.size om)).trans ?_;simp
 ·refine (Below.trans ?_ (I.mono om));exact jB
end Go.Proofs.YteemngnialjaiaaGreatDoor
namespace Go.Proofs
variable {P:Program}{f:FuncId}{B:Func}
section
open Go.Shelf
def Tryz.sortMat_ren:Go.Shelf.Ren:=⟨fun|6=>24|15=>57|14=>56|28=>117|29=>118|20=>109|21=>110|22=>111|23=>112|24=>113|25=>114|26=>115|27=>116|46=>177|47=>178|48=>179|49=>180|50=>181|57=>255|n=>n,fun|22=>37|24=>58|25=>62|3=>3|39=>131|0=>0|53=>193|55=>195|4=>4|46=>186|45=>185|50=>190|5=>5|9=>9|66=>253|70=>257|76=>302|77=>103|n=>n,fun|n=>n⟩
theorem bears(h1:(((P.funcs[f]?).map (·.name)).getD "" == "runtime.NumGoroutine")=false:=by kernel_rfl)(h:P.funcs[f]?=some {B with name:=((P.funcs[f]?).map (·.name)).getD ""}:=by kernel_rfl):Bears P f B:=⟨_,h1,h⟩
theorem Tryz.sortMat:Go.Proofs.SlLaysF0.n6 Tryz.prog Tryz.sortMat_ren:=by
 constructor
 all_goals first|kernel_rfl|(intro _;kernel_rfl)|exact bears|(constructor<;>first|kernel_rfl|(intro _;kernel_rfl))
def Tryz.pdqSet_ren:Go.Shelf.Ren:=⟨fun|14=>387|20=>398|21=>399|22=>400|23=>401|24=>402|25=>403|26=>404|27=>405|46=>409|47=>178|48=>179|49=>410|50=>411|15=>57|57=>412|28=>117|29=>118|n=>n,fun|24=>183|22=>180|3=>3|25=>380|4=>4|0=>0|46=>186|45=>185|50=>190|66=>253|39=>131|55=>195|70=>257|76=>302|77=>103|53=>193|5=>5|9=>9|n=>n,fun|n=>n⟩
theorem Tryz.pdqSet:Go.Proofs.SlLaysF0.n14 Tryz.prog Tryz.pdqSet_ren:=by
 constructor
 all_goals first|kernel_rfl|(intro _;kernel_rfl)|exact bears|(constructor<;>first|kernel_rfl|(intro _;kernel_rfl))
def Tryz.sortVal_ren:Go.Shelf.Ren:=⟨fun|6=>105|15=>57|14=>171|28=>117|29=>118|20=>239|21=>240|22=>241|23=>242|24=>243|25=>244|26=>245|27=>246|46=>301|47=>178|48=>179|49=>302|50=>303|57=>340|n=>n,fun|22=>59|24=>27|25=>174|3=>3|39=>131|0=>0|53=>193|55=>195|4=>4|46=>186|45=>185|50=>190|5=>5|9=>9|66=>253|70=>257|76=>302|77=>103|n=>n,fun|n=>n⟩
theorem Tryz.sortVal:Go.Proofs.SlLaysF0.n6 Tryz.prog Tryz.sortVal_ren:=by
 constructor
 all_goals first|kernel_rfl|(intro _;kernel_rfl)|exact bears|(constructor<;>first|kernel_rfl|(intro _;kernel_rfl))
end
end Go.Proofs
