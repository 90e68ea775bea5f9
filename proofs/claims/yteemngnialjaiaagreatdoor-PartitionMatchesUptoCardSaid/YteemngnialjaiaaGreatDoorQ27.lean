/- Part. -/
import Derived.Test.YteemngnialjaiaaGreatDoorQ26
import Derived.Lib.ItoaNum
import Derived.Shelf.Strconv.Itoa1
set_option maxRecDepth 100000
set_option maxHeartbeats 16000000
set_option linter.unusedVariables false
set_option linter.unusedSimpArgs false
namespace Go.Proofs.YteemngnialjaiaaGreatDoor
open Go.Proofs.Tryz Go.RowKit
variable {pre l:List Evt}{x:Evt}{key:List Int}{β:Type}{B:Option Nat}{g n0 n1 b i base k:Nat}{lb cs:Array Value}{Z:World->World->Prop}{w W X Y w':World}{v v':Value}{J ps I:List (List Bs)}{Q:Nat->Prop}{o:Oper}{c:Int}{p L:List Bs}{s:Bs}{F:Fence}{P:Program}{ops:Array Oper}{a:Act}{vs xs:List Value}{d:UInt8}{t:TypeId}{K:Act->World->Prop}{ks:List (Nat×Int)}
theorem Oy(h1:bY x=true)(h:∀p∈pre,dA (dC p) (dC x)<0)(I:∀p∈pre,dS x p=false):evE pre x=0:=by
 unfold evE;rw[OF (by rw[h1];simp),OF,OF]
 ·rw[RX,RO];intro p hp;rw[I p hp];simp
 ·unfold iD
  cases hp:pre.getLast? with
  | none=>simp
  | some p =>
   have:=h p (List.mem_of_getLast? hp);simp;omega
theorem rn:∀(l pre:List Evt),(pre++l).Pairwise (fun a b=>dA (dC a) (dC b)<0)->(pre++l).Pairwise (fun a b=>dS b a=false)->(∀e∈l,bY e=true)->cO pre l=0
 | [],_,_,_,_=>rfl
 | x::l,pre,h1,h2,h3=>by
  have e:evE pre x=0:=Oy (h3 x (OR ..)) (fun p hp=>(List.pairwise_append.1 h1).2.2 p hp x (OR ..)) (fun p hp=>(List.pairwise_append.1 h2).2.2 p hp x (OR ..));unfold cO;rw[OG e];exact rn l (pre++[x]) (by rw[QH];exact h1) (by rw[QH];exact h2) (fun y hy=>h3 y (OS _ hy))
theorem nh:∀(l pre:List Evt),pre.Pairwise (fun a b=>dS b a=false)->cO pre l=0->(pre++l).Pairwise (fun a b=>dS b a=false)
 | [],pre,h,_=>by rw[Qf];exact h
 | x::l,pre,h,h0=>by
  unfold cO at h0
  by_cases e:evE pre x=0
  ·rw[OG e]at h0;obtain⟨-,-,I⟩:=xV e;have hx:(pre++[x]).Pairwise (fun a b=>dS b a=false):=by
    rw[RE];refine⟨h,List.pairwise_singleton ..,fun a Z b J=>?_⟩;rw[QA]at J;subst J;rw[RO]at I
    simpa using I a Z
   have:=nh l (pre++[x]) hx h0
   rwa [QH]at this
  ·rw[OF e]at h0;exact absurd h0 e
theorem sx(h:bN l=0)(q:Evt->Bool):bN (l.filter q)=0:=by
 obtain⟨h1,Z⟩:=nU h;have J:cO [] l=0:=by unfold bN at h;rwa [OF om]at h
 have I:=nh l [] List.Pairwise.nil J;unfold bN;rw[OF (by have:=QF q l;omega)];exact rn _ [] (h1.asc.filter q) (I.filter q) (fun e he=>h1.placed e (List.mem_filter.1 he).1)
theorem xx(h:bN l=0):∀s∈eJ key l,bN s=0:=by
 intro s hs;obtain⟨v,_,rfl⟩:=List.mem_map.1 hs;exact sx h _
theorem Fe(key:List Int)(l:List Evt):((eJ key l).map List.length).sum<=l.length:=by
 have J:=(kT key l).1;unfold eJ;rw[PZ];have:∀(ks:List Vl),ks.Pairwise (fun a b=>vlC a b<0)->∀l:List Evt,(ks.map (List.length ∘ fun v=>l.filter (dH key v))).sum<=l.length:=fun ks=>by
  induction ks with
  | nil=>intro _ l;simp
  | cons a ks ih =>
   intro hp l;rw[Q4]at hp;rw[OU,QB];have Z:=ih hp.2 (l.filter fun e=>!dH key a e);have h3:(ks.map (List.length ∘ fun v=>(l.filter fun e=>!dH key a e).filter (dH key v)))=ks.map (List.length ∘ fun v=>l.filter (dH key v)):=by
    refine QY fun v hv=>?_
    have a':=hp.1 v hv;simp only[Function.comp];rw[List.filter_filter];congr 1;refine List.filter_congr fun e _=>?_
    cases h:dH key v e with
    | false=>simp
    | true =>
     have:dH key a e=false:=by
      rw[Bool.eq_false_iff];intro I;unfold dH at h I;rw[ON]at h I;have e1:=fE.1 h.2;have e2:=fE.1 I.2;have e3:a=v:=e2.symm.trans e1;subst e3;have:=lM.refl a;omega
     rw[this];rfl
   rw[h3]at Z;have h4:((List.length ∘ fun v=>l.filter (dH key v)) a)+(l.filter fun e=>!dH key a e).length=l.length:=by
    simp only[Function.comp];have:=List.length_eq_countP_add_countP (dH key a) (l:=l);rw[List.countP_eq_length_filter,List.countP_eq_length_filter]at this;simp only[RX,Bool.decide_eq_false]at this;omega
   omega
 exact this _ J l
section
open Go.RowKit Go.Lib
theorem rH{J:β->World->Prop}{B:Nat}(h:OwnFrom B J):AbidesFrom B J:=fun s W W' row hs Z hr=>h s W W' row hs Z fun r e=>by
 obtain⟨h1,o,I,hw⟩:=hr r e;exact⟨h1,o,I,Obj.not_cells_of_walk hw⟩
def SeqO{β:Type}(g:Nat)(lb:Array Value)(L:List β)(In:β->Array Value->World->Prop)(Z:World->World->Prop)(w:World):Prop :=
 ∀(l:Nat)(J I:Nat->World->Prop)(W:World),OD w W->OwnFrom W.heap.size J->OwnFrom W.heap.size I ->
  (∀(m k:Nat)(x:β)(a:Array Value)(h:World),L[k]?=some x->J k h->In x a h->YieldAt Fence.wide m prog l a h fun e W' =>
   (e=.returned (.bool true)/\J (k+1) W'/\Z h W'/\KeepsFrom W.heap.size h W')\/(e=.returned (.bool false)/\I (k+1) W'/\KeepsFrom W.heap.size h W')) ->
  J 0 W->Calls prog g (#[.func (.yield l) #[] #[]]++lb) W fun e W'=>(∃v,e=.returned v)/\(J L.length W'\/∃k,k<L.length/\I (k+1) W')
theorem SeqC.own{L:List β}{In:β->Array Value->World->Prop}(h:SeqC g lb L In Z w):SeqO g lb L In Z w :=
 fun l J Jx W hW hJ I hY h0=>h l J Jx W hW (rH hJ) (rH I) (fun m k x a W1 hx hj hi=>mS (hY m k x a W1 hx hj hi) fun e W'=>by
  rintro (⟨e,h1,h2,-⟩|⟨e,h1,-⟩)
  ·exact .inl ⟨e,h1,h2⟩
  ·exact .inr ⟨e,h1⟩) h0
theorem zq{row:Option Nat}{W':World}(hn:n0<=W.heap.size)(I:W.grownBy W' row)(hr:∀r,row=some r->n0<=r/\B≠some r/\(r<n1\/∃o:Obj,W.heap[r]?=some o/\o.isCells=false))(hB:∀b,B=some b->b<W.heap.size):eI n0 n1 B W W':=by
 have J:∀b,B=some b->W'.heap[b]?=W.heap[b]?:=fun b Z=>I.block b (hB b Z) (fun e=>by have:=(hr b e.symm).2.1;rw[Z]at this;exact this rfl)
 refine⟨⟨I.os,I.tape,I.output,I.size,fun k hk=>I.block k om (fun e=>by have:=(hr k e.symm).1;omega)⟩,fun s k hk=>OT (s k ((gQ J k).1 hk)) I.size,fun k o hk e c r=>⟨?_,fun h=>r ((gQ J k).1 h)⟩⟩;refine (I.block k (Array.getElem?_eq_some_iff.1 e).1 (fun e2=>?_)).trans e;rcases (hr k e2.symm).2.2 with h|⟨o2,h1,h2⟩
 ·omega
 ·rw[e]at h1;cases h1;rw[c]at h2;cases h2
def Kl(L:List Bs)(W0 w:World)(e:Ending)(W:World):Prop:=∃gf lb,e=.returned (.func (.func gf) #[] lb)/\(∀args w,(callFunc gf args).run prog w=.ok (.enter gf args) w)/\OD w W /\
 ∀n1 B,W0.heap.size<=n1->n1<=w.heap.size->rx w B->(∀k,B=some k->k<n1)->SeqO gf lb L (InS n1 B) (eI W0.heap.size n1 B) W
def Lh(g:Nat)(l:List Evt)(x:Pt)(b:Bs)(i:Nat):Prop:=∀(d e C:Nat)(v vc vl u:Value)(W0 w:World),ScnAt l W0 C vl->dg d W0 v x.args->bZ e W0 vc x.cond.args->gN W0 u b->OD W0 w ->
 Calls prog g #[.pointer (some ⟨C,0,none⟩),ptV x v vc,u,OB (i:Int)] w (Kl (io l x b i) W0 w)
theorem FinderK.own{x:Pt}{b:Bs}(h:FinderK g l x b i):Lh g l x b i:=fun d e C v vc vl u W0 w h1 I h3 J Z =>
 (h d e C v vc vl u W0 w h1 I h3 J Z).mono fun _ _ ⟨gf,lb,e1,e2,e3,e4⟩=>⟨gf,lb,e1,e2,e3,fun n1 B a1 a2 a3 a4=>(e4 n1 B a1 a2 a3 a4).own⟩
end
section
open Go.RowKit Go.Lib
def PartsIn(Q:Nat->Prop)(w:World)(v:Value)(h:List (List Bs)):Prop:=∃A c,v=.slice A h.length c/\h.length<=c/\c<=maxLen /\
 ∀(k:Nat) p,h[k]?=some p->∃b o u,A=some ⟨b,o,none⟩/\Q b/\w.cell? ⟨b,o+k,none⟩=some u/\SetsIn Q w u p
theorem PartsIn.keepO(hk:eI n0 n1 B X Y)(h:PartsIn (Own n1 B X) X v J):PartsIn (Own n1 B Y) Y v J:=by
 obtain⟨A,c,rfl,h1,h2,h3⟩:=h;refine⟨A,c,rfl,h1,h2,fun k s I=>?_⟩;obtain⟨b,o,u,e,hq,Z,hs⟩:=h3 k s I;exact⟨b,o,u,e,(ed hk hq Z).2,(ed hk hq Z).1,hs.keepO hk⟩
theorem PartsIn.tail{o n c:Nat}(h:PartsIn Q w (.slice (some ⟨b,o,none⟩) n c) (p::ps)):PartsIn Q w (.slice (if c=1 then some ⟨b,o,none⟩ else some ⟨b,o+1,none⟩) (n-1) (c-1)) ps:=by
 obtain⟨A,c',e,h1,h2,Z⟩:=h;injection e with e1 I e3;subst e1 I e3;rw[Pk]at h1;refine⟨_,c-1,by rw[Pk,R8],by omega,by omega,fun k q hq=>?_⟩;have hl:=(List.getElem?_eq_some_iff.1 hq).1;obtain⟨b',o',u,e,J,hc,hs⟩:=Z (k+1) q (by rw[QC];exact hq);injection e with e;injection e with e1 I;subst e1 I;exact⟨b,o+1,u,by rw[OF om],J,by rw[show o+1+k=o+(k+1) by omega];exact hc,hs⟩
def WithIn(Q:Nat->Prop)(w:World)(v:Value)(s:Bs):Prop:=(s=[]/\v=.slice none 0 0)\/SetIn Q w v s
theorem WithIn.is(h:WithIn Q w v s):gN w v s:=by
 rcases h with ⟨rfl,rfl⟩|h
 ·exact Sl.nil _ _ _ _ _ (OO _)
 ·exact h.is
theorem WithIn.form(h:WithIn Q w v s):∃A c,v=.slice A s.length c:=by
 rcases h with ⟨rfl,rfl⟩|h
 ·exact⟨_,_,rfl⟩
 ·exact h.form
def E2(ps:List (List Bs))(w s:Bs):List Bs:=if eD w s=true then im ps (ah w s) else []
theorem Ev(p:List Bs)(ps:List (List Bs))(w:Bs):im (p::ps) w=p.flatMap (E2 ps w):=by
 rw[im];unfold E2
 induction p with
 | nil=>rfl
 | cons a p I =>
  rw[Sf,O8]
  by_cases h:eD w a=true
  ·rw[OG h,OG h,O8,I]
  ·rw[OF h,OF h,I];rfl
end
section
open Go.RowKit Go.Lib
theorem uW{n:Nat}(w:World){rest:List Oper}{Q:Exit->Act->World->Prop}(hg:o.guard=none)(s x:Operand)(t:TypeId)(h:o.op=Op.call { callee:=Callee.builtin Builtin.append,args:=#[s,x],argTypes:=#[t,t] })(base:Nat)(e:TypeId)(i:TypeInfo)(z:Value)(size bytes:Nat)(h1:P.underlying t=some (.slice e))(h2:P.info? e=some i)(h3:i.zero=some z)(h4:i.size=size)(h5:i.bytes=bytes)(h6:z.cells.size=size)(h7:0<size)(v:Value)(k:Nat)(xs:List Value)(hs:a.eval s=v)(I:w.ownsRow base e size v k xs)(A:Option Addr)(m c:Nat)(news:List Value)(hx:a.eval x=.slice A m c)(Z:Src w A m size news)(b1:k+m<=maxLen)(b2:(k+m)*bytes<=140737488355328)(b3:base<=w.heap.size)(hK:∀v' w',w'.ownsRow base e size v' (k+m) (xs++news)->w.grownBy w' v.ownBlock->(v'.ownBlock=v.ownBlock\/v'.ownBlock=some w.heap.size)->wpListIn F n P ops Q rest (a.put o.dst v') w') :
  wpListIn F n P ops Q (o::rest) a w:=by
 refine wpListIn_plain hg fun K c'=>?_
 obtain⟨v',w',J,r1,r2,r3⟩:=pB (P:=P) w base t o.type e i z size bytes h1 h2 h3 h4 h5 h6 h7 v k xs I A m c news Z b1 b2 b3;unfold Oper.wpIn;refine⟨?_,?_⟩
 ·simp[Oper.about,h,resolve,Target.leads,P0]
 ·rw[Oper.semAt_plain F _ _ (by rw[h];intro c a';cases a')];simp[execOp,h,resolve,invoke,builtin,hs,hx,J,Result.andThen];exact c' _ _ (hK v' w' r1 r2 r3)
theorem SetsIn.keepQ{J:Nat->Prop}(h:SetsIn Q w v L)(hk:∀b,Q b->b<w.heap.size->W.heap[b]?=w.heap[b]?/\J b):SetsIn J W v L:=by
 obtain⟨A,c,rfl,h1,h2,h3⟩:=h;refine⟨A,c,rfl,h1,h2,fun k s hs=>?_⟩;obtain⟨b,o,u,e,hq,Z,hu⟩:=h3 k s hs;obtain⟨e2,I⟩:=hk b hq (OV w ⟨b,_,none⟩ Z);exact⟨b,o,u,e,I,(Pf (a:=⟨b,_,none⟩) e2).trans Z,hu.keepQ hk⟩
def RowP(base:Nat)(w:World)(v:Value)(h:List (List Bs)):Prop:=∃vs:List Value,w.ownsRow base 178 1 v h.length vs /\
 ∀(k:Nat) p,h[k]?=some p->∃u,vs[k]?=some u/\SetsIn (fun b=>v.ownBlock≠some b/\base<=b) w u p
theorem RowP.nil(base:Nat)(w:World):RowP base w (.slice none 0 0) []:=⟨[],⟨rfl,.inl ⟨rfl,rfl⟩⟩,fun k s h=>by simp at h⟩
theorem RowP.below(h:RowP base w v I)(J:OD w w'):RowP base w' v I:=by
 obtain⟨vs,h1,Z⟩:=h;exact⟨vs,aF h1 J,fun k s hk=>by obtain⟨u,hu,hs⟩:=Z k s hk;exact⟨u,hu,hs.stays J⟩⟩
theorem RowP.app{u:Value}(h2:∀(k:Nat) p,I[k]?=some p->∃u,vs[k]?=some u/\SetsIn (fun b=>v.ownBlock≠some b/\base<=b) w u p)(hlen:vs.length=I.length)(J:w'.ownsRow base 178 1 v' (I.length+1) (vs++[u]))(hg:w.grownBy w' v.ownBlock)(Z:v'.ownBlock=v.ownBlock\/v'.ownBlock=some w.heap.size)(hs:SetsIn (fun b=>v.ownBlock≠some b/\base<=b) w u p):RowP base w' v' (I++[p]):=by
 have h:∀b,(v.ownBlock≠some b/\base<=b)->b<w.heap.size->w'.heap[b]?=w.heap[b]?/\v'.ownBlock≠some b/\base<=b:=fun b hb hl=>by
  refine⟨hg.block b hl (fun e=>hb.1 e.symm),fun e=>?_,hb.2⟩;rcases Z with e2|e2
  ·rw[e2]at e;exact hb.1 e
  ·rw[e2]at e;injection e with e;omega
 refine⟨vs++[u],by rw[OM];exact J,fun k t hk=>?_⟩;rcases PT k I.length with a'|hge
 ·rw[Ph a']at hk;obtain⟨x,hx,d'⟩:=h2 k t hk;exact⟨x,by rw[Ph om];exact hx,d'.keepQ h⟩
 ·rw[Pz hge]at hk;have c':k=I.length:=by
   have:=(List.getElem?_eq_some_iff.1 hk).1;simp at this;omega
  subst c';simp at hk;subst hk;exact⟨u,by rw[<-hlen];simp,hs.keepQ h⟩
theorem PartsIn.mono{J:Nat->Prop}(hq:∀b,Q b->J b)(h:PartsIn Q w v I):PartsIn J w v I:=by
 obtain⟨A,c,rfl,h1,Z,h3⟩:=h;refine⟨A,c,rfl,h1,Z,fun k s hk=>?_⟩;obtain⟨b,o,u,e,hb,hc,hs⟩:=h3 k s hk;exact⟨b,o,u,e,hq b hb,hc,hs.mono hq⟩
end
section
open Go.Lib
theorem nW(u:Nat):∀c∈decDigits u,48<=c.toNat/\c.toNat<=57:=by
 induction u using Nat.strongRecOn with
 | _ u I =>
  intro c h;rw[decDigits]at h
  split at h
  ·simp only[QA]at h;subst h;rw[Sp];omega
  ·rcases List.mem_append.1 h with h|h
   ·exact I _ om c h
   ·simp only[QA]at h;subst h;rw[Sp];omega
theorem Nk(u:Nat):decDigits u≠[]:=by
 rw[decDigits]
 split<;>simp
def N3(l:List UInt8):Nat:=l.foldl (fun a c=>10*a+(c.toNat-48)) 0
theorem zk(u:Nat):N3 (decDigits u)=u:=by
 induction u using Nat.strongRecOn with
 | _ u I =>
  rw[decDigits]
  split
  ·simp only[N3,PR,RT];rw[Sp];omega
  ·have h:=I (u / 10) om;simp only[N3,Qm,PR,RT]at *;rw[h,Sp];omega
theorem Cp{u v:Nat}(h:decDigits u=decDigits v):u=v:=by rw[<-zk u,h,zk]
theorem zH{m n:Int}(h:itoa m=itoa n):m=n:=by
 have I:∀u v:Nat,(45:UInt8)::decDigits u≠decDigits v:=fun u v e=>by
  have:=nW v 45 (by rw[<-e];exact OR ..);simp at this
 unfold itoa at h
 split at h
 ·split at h
  ·have:=Cp (List.cons.inj h).2;omega
  ·exact absurd h (I _ _)
 ·split at h
  ·exact absurd h.symm (I _ _)
  ·have:=Cp h;omega
end
section
open Go.Lib
theorem BF(n:Int):∀c∈itoa n,c=45\/(48<=c.toNat/\c.toNat<=57):=by
 intro c h;unfold itoa at h
 split at h
 ·rcases List.mem_cons.1 h with rfl|h
  ·exact .inl rfl
  ·exact .inr (nW _ c h)
 ·exact .inr (nW _ c h)
theorem pC(n:Int)(d:UInt8)(h1:d≠45)(J:d.toNat<48\/57<d.toNat):∀c∈itoa n,c≠d:=by
 rintro c I rfl;rcases BF n c I with h|h
 ·exact h1 h
 ·omega
theorem L0{a b s t:List UInt8}(J:∀c∈a,c≠d)(Z:∀c∈b,c≠d)(h:a++d::s=b++d::t):a=b/\s=t:=by
 induction a generalizing b with
 | nil =>
  cases b with
  | nil=>simpa using h
  | cons y b=>simp at h;exact absurd h.1.symm (Z y (OR ..))
 | cons x a ih =>
  cases b with
  | nil=>simp at h;exact absurd h.1 (J x (OR ..))
  | cons y b =>
   simp only[Rq,PJ]at h;obtain⟨h1,h2⟩:=ih (fun c I=>J c (OS _ I)) (fun c I=>Z c (OS _ I)) h.2;exact⟨by rw[h.1,h1],h2⟩
end
section
open Go.RowKit Go.Lib
def fR:Bs->List UInt8
 | []=>[]
 | x::r=>itoa x.1++64::(itoa (x.2:Int)++32::fR r)
theorem kK(l:Bs)(x:Int × Nat):fR (l++[x])=fR l++itoa x.1++[64]++itoa (x.2:Int)++[32]:=by
 induction l with
 | nil=>simp[fR]
 | cons a l h=>rw[Rq,fR,h,fR];simp
theorem xD:∀{l m:Bs},fR l=fR m->l=m
 | [],[],_=>rfl
 | [],_::_,h=>by simp[fR]at h
 | _::_,[],h=>by simp[fR]at h
 | a::l,b::m,h=>by
  rw[fR,fR]at h;obtain⟨h1,I⟩:=L0 (pC a.1 64 dc dc) (pC b.1 64 dc dc) h;obtain⟨Z,J⟩:=L0 (pC (a.2:Int) 32 dc dc) (pC (b.2:Int) 32 dc dc) I;have e1:=zH h1;have e2:=zH Z;rw[xD J,Prod.ext e1 om]
theorem zE(n:Int):0<(itoa n).length:=by
 rcases QS (itoa n).length with h|h
 ·exfalso
  have h0:=Po h;unfold itoa at h0
  split at h0
  ·simp at h0
  ·exact Nk _ h0
 ·exact h
theorem qF{n:Nat}(h:n<100):(itoa (n:Int)).length<=2:=by
 rw[itoa_nonneg,decDigits_length]
 by_cases I:n<10
 ·rw[nDigits_small I];omega
 ·rw[nDigits_big I,nDigits_small (show n / 10<10 by omega)];omega
theorem wP:(prog.info? 5).map (fun i=>(i.zero,i.size,i.bytes))=some (some (.int .u8 0),1,1):=kr
theorem AW(u:Nat)(hu:u<100)(W:World):Calls prog 369 #[OB u] W fun e w'=>e=.returned (.string ⟨(decDigits u).toArray⟩)/\w'=W:=Any.internal_strconv_small { Tryz.laysM176 with } u hu W
def AP(w:World)(B n:Nat)(v:Value)(xs:List Value)(u:Nat)(e:Ending)(W:World):Prop :=
 ∃v',e=.returned v'/\W.ownsRow B 5 1 v' (n+(itoa (u:Int)).length) (xs++Lib.byteCells (itoa (u:Int)))/\w.grownBy W v.ownBlock
theorem EF(B n u:Nat)(hu:u<100)(v:Value)(xs:List Value)(w:World)(h:w.ownsRow B 5 1 v n xs)(hB:B<=w.heap.size)(hn:n<=1099511627776) :
  Calls prog 349 #[v,.int .u64 u,OB 10] w (AP w B n v xs u):=by
 have Z:=jD (fun W=>AW u hu W);have hlen:=qF hu;have HD:=jD (itoa_nonneg u);rw[itoa_nonneg]at hlen;obtain⟨i0,hi,a',d',f'⟩:=Ql wP;have J:(⟨(decDigits u).toArray⟩:ByteArray).size=(decDigits u).length:=by simp[ByteArray.size]
 have i':(u:Int)<100:=by omega
 have hw:IntKind.i64.wrap (u:Int)=u:=eR om;obtain⟨D,hD⟩:=jF (decDigits u);rw[<-hD]at Z hlen J HD;clear hD;have h':=jD h;obtain⟨A,c,rfl⟩:=bw h;clear h;go_enter func349,ntmps349;go_wp2_with fail;refine (Z.out _).mono ?_;rintro e w' ⟨rfl,rfl⟩;go_wp2_with (at_builtin;refine Lib.wpList_append_own_string _ rfl _ _ 268 9 rfl B 5 i0 underlying268 underlying9 hi a' d' f' _ _ _ rfl h'.out ⟨D.toArray⟩ rfl (by rw[J];unfold maxLen;omega) (by rw[J];omega) hB ?_;intro v7 w7 I c' g');go_ret;refine⟨_,rfl,?_,c'⟩;rw[HD.out];rw[J]at I;exact I
theorem ubj{p:Prop}(h:p:=by
  go_wp2_with fail;refine Z.out.mono ?_;rintro e w' ⟨v7,rfl,I,J⟩;have HH:=jD (And.intro I J);clear I J;go_wp2;go_ret;exact⟨_,rfl,HH.out.1,HH.out.2⟩):p:=h
theorem EB(B n u:Nat)(hu:u<100)(v:Value)(xs:List Value)(w:World)(h:w.ownsRow B 5 1 v n xs)(hB:B<=w.heap.size)(hn:n<=1099511627776) :
  Calls prog 317 #[v,OB u,OB 10] w (AP w B n v xs u):=by
 have Z:=jD (EF B n u hu v xs w h hB hn);have hw:IntKind.u64.wrap (u:Int)=u:=by simp[IntKind.wrap,IntKind.bits,IntKind.signed];omega
 have a':¬(u:Int)<0:=by omega
 obtain⟨A,c,rfl⟩:=bw h;clear h hB hn hu;go_enter func317,ntmps317;exact ubj
theorem nD(h:∀W:World,W=w->K a W):K a w:=h w rfl
theorem kq(B n u:Nat)(hu:u<100)(v:Value)(xs:List Value)(w:World)(h:w.ownsRow B 5 1 v n xs)(hB:B<=w.heap.size)(hn:n<=1099511627776) :
  Calls prog 254 #[v,OB u,OB 10] w (AP w B n v xs u):=by
 have Z:=jD (EB B n u hu v xs w h hB hn);obtain⟨A,c,rfl⟩:=bw h;clear h hB hn hu;go_enter func254,ntmps254;exact ubj
structure KS(w X:World)(v:Value)(T:List UInt8)(ks:List (Nat × Int)):Prop where
 bel:OD w X
 row:X.ownsRow w.heap.size 5 1 v T.length (Lib.byteCells T)
 blk:∀p∈ks,X.heap[p.1]?=some (.cells [Value.int .u8 p.2].toArray 5 (0,0))/\v.ownBlock≠some p.1
section
variable {T U:List UInt8}
theorem KS.alloc(h:KS w X v T ks)(c:Int):KS w (X.alloc (.cells [Value.int .u8 c].toArray 5)) v T ((X.heap.size,c)::ks) :=
 ⟨bA h.bel _,aF h.row (ay X _),fun p hp=>by
  rcases List.mem_cons.1 hp with rfl|hp
  ·exact⟨Qd X _,fun e=>by have:=(ao h.row e).2;simp at this⟩
  ·exact⟨(Qe X _ p.1 (aX (h.blk p hp).1)).trans (h.blk p hp).1,(h.blk p hp).2⟩⟩
theorem KS.drew(h:KS w X v T ks):KS w X.drew v T ks:=⟨h.bel.drew,h.row,h.blk⟩
theorem KS.nil(h:KS w X v T ks):KS w X v T []:=⟨h.bel,h.row,by simp⟩
theorem KS.src(h:KS w X v T ks)(hk:(k,c)∈ks):Src X (some ⟨k,0,none⟩) 1 1 [.int .u8 c] :=
 I4 (h.blk _ hk).1 rfl (by simp[Value.oneCell'])
theorem KS.grown(h:KS w X v T ks)(hg:X.grownBy Y v.ownBlock){n:Nat}(Z:Y.ownsRow w.heap.size 5 1 v' n xs)(hn:n=U.length)(hx:xs=Lib.byteCells U)(hU:2<=U.length):KS w Y v' U ks:=by
 subst hn hx;exact⟨h.bel.trans (aB hg h.bel.size (fun g e=>(ao h.row e).1)),Z,fun p hp=>by
  have J:=h.blk p hp;have hY:=(hg.block p.1 (aX J.1) (fun e=>J.2 e.symm)).trans J.1;refine⟨hY,fun e=>?_⟩;rcases Z.2 with ⟨_,h0⟩|⟨g,cap,cur,hv,_,I,hnc,hcm,hcs,htake⟩
  ·omega
  ·rw[hv]at e;have eg:g=p.1:=by simpa [Value.ownBlock] using e
   subst eg;rw[hY]at I;injection I with I;injection I with I _ _;rw[<-I]at hcs;simp at hcs;omega⟩
theorem KS.other(h:KS w X v T ks)(hg:X.grownBy Y v.ownBlock)(Z:X.heap[b]?=some (.cells cs t (0,0)))(ht:t≠5):Y.heap[b]?=some (.cells cs t (0,0)):=by
 refine (hg.block b (aX Z) (fun e=>?_)).trans Z;rcases h.row.2 with ⟨J,_⟩|⟨g,cap,cur,J,_,I,_⟩
 ·rw[J]at e;simp[Value.ownBlock]at e
 ·rw[J]at e;have:b=g:=by simpa [Value.ownBlock] using e
  subst this;rw[Z]at I;injection I with I;injection I with _ h2 _;exact ht h2
end
theorem ubi{p:Prop}(h:p:=by
  refine hK.out _ _ (by exact ab X5.out 1) (fun I=>?_);clear hK K;refine tkH [8] ?_;refine wpAnyH_done kr (Rz ?_) _;have hK:=K5.out.nil;clear I;go_wp2_with fail
  go_roundw
  case rel =>
   have e1:fR (s.take (k+1))=(((U++[(64:UInt8)])++N)++[(32:UInt8)]):=by rw[ef HX.out,kK,HU.out,HT.out,HN.out]
   refine⟨k+1,by omega,by go_num,jD ⟨by rw[e1];exact hK,?_⟩⟩;rw[e1];have:=J.out;simp only[OM,O0];omega
  case measure=>simp[RowKit.intOf];omega):p:=h
theorem BM(s:Bs)(v:Value)(w:World)(hs:gN w v s)(C0:∀x∈s,(0<=x.1/\x.1<16)/\x.2<100)(hn:s.length<=1048576)(V':s≠[]) :
  OE 176 #[v] w (.string ⟨(fR s).toArray⟩):=by
 obtain⟨A,c,rfl,h1,h2,Y0⟩:=hs;have W1:=aP h1 h2;have HL:=jD Y0;have T1:=jD C0;have H0:=List.length_pos_iff.2 V';clear Y0 h1 h2 C0 V';obtain⟨i0,hi,A',D',C'⟩:=Ql wP;go_enter func176,ntmps176;go_wp2_with fail
 go_loopw [3,8] (fun out i wr=>∃k:Nat,k<=s.length/\i=OB k/\Hid (KS w wr out (fR (s.take k)) []/\(fR (s.take k)).length<=6*k)) (fun _ i _=>s.length-(RowKit.intOf i).toNat)
 case atStart=>exact⟨0,OO _,rfl,jD ⟨⟨OK _ _,⟨rfl,.inl ⟨rfl,rfl⟩⟩,by simp⟩,by simp[fR]⟩⟩
 case round =>
  obtain⟨k,hk,rfl,hI⟩:=hrel
  by_cases G1:k<s.length
  ·have E1:(k:Int)<(s.length:Int):=by omega
   obtain⟨x,hx⟩:∃x,s[k]?=some x:=⟨_,OH G1⟩;obtain⟨b,o,rfl,c0,c1⟩:=HL.out k x hx;have R':=hI.out.1.bel;replace c0:=aa R' c0;replace c1:=aa R' c1;have Z0:=T1.out x (Pb hx);obtain⟨j,hj⟩:∃j:Nat,x.1=(j:Int):=⟨x.1.toNat,by omega⟩;obtain⟨q,hq⟩:=jF x.2;have HX:=jD (show s[k]?=some ((j:Int),q) by rw[hx,<-hj,hq]);rw[hj]at c0;rw[<-hq]at c1;have N':j<100:=by omega
   have m':q<100:=by omega
   have C2:b<wr.heap.size:=OV wr ⟨b,_,none⟩ c0;have C1:b≠wr.heap.size:=by omega
   have A1:wr.heap.size≠b:=by omega
   clear hx Z0 hj hq;obtain⟨Ao,co,M1⟩:=bw hI.out.1.row;subst M1;obtain⟨T,hT⟩:=jF (fR (s.take k));have y':=hI.out;rw[<-hT]at y' ⊢;have HI:=jD y';have Y1:=y'.2;have HT:=jD hT;clear hI y' hT;obtain⟨tl,O2⟩:∃n,n=T.length:=⟨_,rfl⟩;go_wp2_with fail;refine aJ fun W9 e9=>?_
   have Q':OD wr W9:=gb e9;obtain⟨X,hX⟩:=jF wr.heap.size;have Y':W9.heap[X]?=some (.cells [Value.int .i64 (j:Int),.int .i64 (q:Int)].toArray 183 (0,0)):=by rw[e9,hX];exact ax _ _ _ rfl
   have x':=aF HI.out.1.row Q';have U0:KS w W9 (.slice Ao T.length co) T []:=⟨ae R' Q',x',by simp⟩;have I':=jD U0;rw[<-hX];have S2:=jD hX;clear e9 Q' c0 c1 C1 A1 hX;refine (kq w.heap.size T.length j N' _ _ W9 x' I'.out.bel.size om).mono ?_;rintro e w3 ⟨v3,rfl,G',P'⟩;have Z1:=qF N';have U1:=qF m';have H2:=zE (j:Int);have V1:=zE (q:Int);obtain⟨U,hU⟩:=jF (T++itoa (j:Int));have V0:U.length=T.length+(itoa (j:Int)).length:=by rw[hU];exact OM
   have U':=I'.out.other P' Y' dc;have S':KS w w3 v3 U []:=⟨I'.out.bel.trans (aB P' I'.out.bel.size (fun g e=>(ao x' e).1)),by rw[V0,hU,QP];exact G',by simp⟩;obtain⟨A3,c3,h3⟩:=bw S'.row;subst h3;have K0:=jD S';have X0:Hid (w3.heap[X]?=some (.cells [Value.int .i64 (j:Int),.int .i64 (q:Int)].toArray 183 (0,0))):=jD U';have q1:w3.cell? ⟨X,1,none⟩=some (OB (q:Int)):=by rw[ab U'];rfl
   have HU:=jD hU;obtain⟨N,hN⟩:=jF (itoa (q:Int));rw[<-hN]at U1 V1;have HN:=jD hN;clear P' G' x' Y' U' S' hU U0 hN;obtain⟨ul,T'⟩:∃n,n=U.length:=⟨_,rfl⟩;have G2:1<=ul/\ul<=6*k+2:=by omega
   rw[<-T']at K0 ⊢;have J:=jD T';clear T' V0;go_wp2_with fail;refine PM ?_;refine PQ (S:=(fun W:World=>W.cell? ⟨X,1,none⟩=some (OB (q:Int)))) kr (by rw[show w3.drew.cell? ⟨X,1,none⟩=w3.cell? ⟨X,1,none⟩ from rfl];exact q1) (fun I=>?_);refine tkH [0,3,4] ?_;refine Qw (rs:=[1,6]) kr jS ?_;refine PI rfl (fun K hK=>?_) ?_
   focus
    rw[OG kr]
    go_simp;refine nD fun j' u'=>?_;have K1:Hid (KS w j' (.slice A3 ul c3) U ((w3.heap.size,64)::[])):=jD (by rw[u'];first|exact (K0.out.alloc 64).drew|exact K0.out.alloc 64);have X1:Hid (j'.heap[X]?=some (.cells [Value.int .i64 (j:Int),.int .i64 (q:Int)].toArray 183 (0,0))):=jD (by rw[u'];exact (Qe _ _ X (aX X0.out)).trans X0.out);clear u'
    refine hK.out _ _ (by exact ab X1.out 1) (fun I=>?_);clear hK K
    try simp only[Act.put,O9,O6,O4]
    refine Qw (rs:=[2,6]) kr jS ?_;refine PI rfl (fun K hK=>?_) ?_
    focus
     rw[OG kr]
     focus ((try (change Oper.wp _ _ _ _ _ _));refine cU _ (.tmp 16) (.tmp 17) 268 rfl w.heap.size 5 i0 _ 1 1 underlying268 hi A' D' C' rfl dc (.slice A3 ul c3) ul (Lib.byteCells U) jR (by have h:=K1.out.row;rw[show (U).length=ul by have:=J.out;(try simp only[OM,O0]);omega]at h;exact h) (some ⟨w3.heap.size,0,none⟩) 1 1 [.int .u8 64] jR (K1.out.src jS) (by unfold maxLen;omega) om K1.out.bel.size ?_;intro J' k' z' B' F';have K2:Hid (KS w k' J' (U++[(64:UInt8)]) ((w3.heap.size,64)::[])):=jD (K1.out.grown B' z' (by have:=J.out;(try simp only[OM,O0]);omega) (by simp only[QP];rfl) (by have:=J.out;(try simp only[OM,O0]);omega));have X2:Hid (k'.heap[X]?=some (.cells [Value.int .i64 (j:Int),.int .i64 (q:Int)].toArray 183 (0,0))):=jD (K1.out.other B' X1.out dc);clear z' B' F')
     refine hK.out _ _ (by exact ab X2.out 1) (fun I=>?_);clear hK K
     try simp only[Act.put,O9,O6,O4]
     refine Qw (rs:=[5,6]) kr jS ?_;refine PI rfl (fun K hK=>?_) ?_
     focus
      rw[OG kr]
      focus (go_simp;refine (kq w.heap.size (ul+1) q m' _ (Lib.byteCells (U++[(64:UInt8)])) k' (by have h:=K2.out.row;rw[show ((U++[(64:UInt8)])).length=(ul+1) by have:=J.out;(try simp only[OM,O0]);omega]at h;exact h) K2.out.bel.size om).mono ?_;rintro e i' ⟨s',rfl,d',g'⟩;rw[<-HN.out]at d';have K3:Hid (KS w i' s' ((U++[(64:UInt8)])++N) ((w3.heap.size,64)::[])):=jD (K2.out.grown g' d' (by have:=J.out;(try simp only[OM,O0]);omega) (by simp only[QP]) (by have:=J.out;(try simp only[OM,O0]);omega));have X3:Hid (i'.heap[X]?=some (.cells [Value.int .i64 (j:Int),.int .i64 (q:Int)].toArray 183 (0,0))):=jD (K2.out.other g' X2.out dc);clear d' g')
      refine hK.out _ _ (by exact ab X3.out 1) (fun I=>?_);clear hK K
      try simp only[Act.put,O9,O6,O4]
      refine nxH 6 (fun K hK=>?_)
      go_simp;refine nD fun t' H'=>?_;have K4:Hid (KS w t' (s') ((U++[(64:UInt8)])++N) ((i'.heap.size,32)::((w3.heap.size,64)::[]))):=jD (by rw[H'];first|exact (K3.out.alloc 32).drew|exact K3.out.alloc 32);have X4:Hid (t'.heap[X]?=some (.cells [Value.int .i64 (j:Int),.int .i64 (q:Int)].toArray 183 (0,0))):=jD (by rw[H'];exact (Qe _ _ X (aX X3.out)).trans X3.out);clear H'
      refine hK.out _ _ (by exact ab X4.out 1) (fun I=>?_);clear hK K;refine nxH 7 (fun K hK=>?_)
      focus ((try (change Oper.wp _ _ _ _ _ _));refine cU _ (.tmp 21) (.tmp 22) 268 rfl w.heap.size 5 i0 _ 1 1 underlying268 hi A' D' C' rfl dc (s') ((ul+1)+N.length) (Lib.byteCells ((U++[(64:UInt8)])++N)) jR (by have h:=K4.out.row;rw[show (((U++[(64:UInt8)])++N)).length=((ul+1)+N.length) by have:=J.out;(try simp only[OM,O0]);omega]at h;exact h) (some ⟨i'.heap.size,0,none⟩) 1 1 [.int .u8 32] jR (K4.out.src jS) (by unfold maxLen;omega) om K4.out.bel.size ?_;intro r' n' Z c' h';have K5:Hid (KS w n' r' (((U++[(64:UInt8)])++N)++[(32:UInt8)]) ((i'.heap.size,32)::((w3.heap.size,64)::[]))):=jD (K4.out.grown c' Z (by have:=J.out;(try simp only[OM,O0]);omega) (by simp only[QP];rfl) (by have:=J.out;(try simp only[OM,O0]);omega));have X5:Hid (n'.heap[X]?=some (.cells [Value.int .i64 (j:Int),.int .i64 (q:Int)].toArray 183 (0,0))):=jD (K4.out.other c' X4.out dc);clear Z c' h')
      exact ubi
     refine PI rfl (fun K hK=>?_) ?_
     focus
      rw[OG kr]
      go_simp;refine nD fun i' E'=>?_;have K3:Hid (KS w i' (J') (U++[(64:UInt8)]) ((k'.heap.size,32)::((w3.heap.size,64)::[]))):=jD (by rw[E'];first|exact (K2.out.alloc 32).drew|exact K2.out.alloc 32);have X3:Hid (i'.heap[X]?=some (.cells [Value.int .i64 (j:Int),.int .i64 (q:Int)].toArray 183 (0,0))):=jD (by rw[E'];exact (Qe _ _ X (aX X2.out)).trans X2.out);clear E'
      refine hK.out _ _ (by exact ab X3.out 1) (fun I=>?_);clear hK K
      try simp only[Act.put,O9,O6,O4]
      refine nxH 5 (fun K hK=>?_)
      focus (go_simp;refine (kq w.heap.size (ul+1) q m' _ (Lib.byteCells (U++[(64:UInt8)])) i' (by have h:=K3.out.row;rw[show ((U++[(64:UInt8)])).length=(ul+1) by have:=J.out;(try simp only[OM,O0]);omega]at h;exact h) K3.out.bel.size om).mono ?_;rintro e t' ⟨l',rfl,a',f'⟩;rw[<-HN.out]at a';have K4:Hid (KS w t' l' ((U++[(64:UInt8)])++N) ((k'.heap.size,32)::((w3.heap.size,64)::[]))):=jD (K3.out.grown f' a' (by have:=J.out;(try simp only[OM,O0]);omega) (by simp only[QP]) (by have:=J.out;(try simp only[OM,O0]);omega));have X4:Hid (t'.heap[X]?=some (.cells [Value.int .i64 (j:Int),.int .i64 (q:Int)].toArray 183 (0,0))):=jD (K3.out.other f' X3.out dc);clear a' f')
      refine hK.out _ _ (by exact ab X4.out 1) (fun I=>?_);clear hK K;refine nxH 7 (fun K hK=>?_)
      focus ((try (change Oper.wp _ _ _ _ _ _));refine cU _ (.tmp 21) (.tmp 22) 268 rfl w.heap.size 5 i0 _ 1 1 underlying268 hi A' D' C' rfl dc (l') ((ul+1)+N.length) (Lib.byteCells ((U++[(64:UInt8)])++N)) jR (by have h:=K4.out.row;rw[show (((U++[(64:UInt8)])++N)).length=((ul+1)+N.length) by have:=J.out;(try simp only[OM,O0]);omega]at h;exact h) (some ⟨k'.heap.size,0,none⟩) 1 1 [.int .u8 32] jR (K4.out.src jS) (by unfold maxLen;omega) om K4.out.bel.size ?_;intro r' n' Z c' h';have K5:Hid (KS w n' r' (((U++[(64:UInt8)])++N)++[(32:UInt8)]) ((k'.heap.size,32)::((w3.heap.size,64)::[]))):=jD (K4.out.grown c' Z (by have:=J.out;(try simp only[OM,O0]);omega) (by simp only[QP];rfl) (by have:=J.out;(try simp only[OM,O0]);omega));have X5:Hid (n'.heap[X]?=some (.cells [Value.int .i64 (j:Int),.int .i64 (q:Int)].toArray 183 (0,0))):=jD (K4.out.other c' X4.out dc);clear Z c' h')
      exact ubi
     exact Qx
    refine PI rfl (fun K hK=>?_) ?_
    focus
     rw[OG kr]
     go_simp;refine nD fun k' p'=>?_;have K2:Hid (KS w k' (.slice A3 ul c3) U ((j'.heap.size,32)::((w3.heap.size,64)::[]))):=jD (by rw[p'];first|exact (K1.out.alloc 32).drew|exact K1.out.alloc 32);have X2:Hid (k'.heap[X]?=some (.cells [Value.int .i64 (j:Int),.int .i64 (q:Int)].toArray 183 (0,0))):=jD (by rw[p'];exact (Qe _ _ X (aX X1.out)).trans X1.out);clear p'
     refine hK.out _ _ (by exact ab X2.out 1) (fun I=>?_);clear hK K
     try simp only[Act.put,O9,O6,O4]
     refine nxH 2 (fun K hK=>?_)
     focus ((try (change Oper.wp _ _ _ _ _ _));refine cU _ (.tmp 16) (.tmp 17) 268 rfl w.heap.size 5 i0 _ 1 1 underlying268 hi A' D' C' rfl dc (.slice A3 ul c3) ul (Lib.byteCells U) jR (by have h:=K2.out.row;rw[show (U).length=ul by have:=J.out;(try simp only[OM,O0]);omega]at h;exact h) (some ⟨w3.heap.size,0,none⟩) 1 1 [.int .u8 64] jR (K2.out.src jS) (by unfold maxLen;omega) om K2.out.bel.size ?_;intro s' i' d' g' q';have K3:Hid (KS w i' s' (U++[(64:UInt8)]) ((j'.heap.size,32)::((w3.heap.size,64)::[]))):=jD (K2.out.grown g' d' (by have:=J.out;(try simp only[OM,O0]);omega) (by simp only[QP];rfl) (by have:=J.out;(try simp only[OM,O0]);omega));have X3:Hid (i'.heap[X]?=some (.cells [Value.int .i64 (j:Int),.int .i64 (q:Int)].toArray 183 (0,0))):=jD (K2.out.other g' X2.out dc);clear d' g' q')
     refine hK.out _ _ (by exact ab X3.out 1) (fun I=>?_);clear hK K;refine nxH 5 (fun K hK=>?_)
     focus (go_simp;refine (kq w.heap.size (ul+1) q m' _ (Lib.byteCells (U++[(64:UInt8)])) i' (by have h:=K3.out.row;rw[show ((U++[(64:UInt8)])).length=(ul+1) by have:=J.out;(try simp only[OM,O0]);omega]at h;exact h) K3.out.bel.size om).mono ?_;rintro e t' ⟨l',rfl,a',f'⟩;rw[<-HN.out]at a';have K4:Hid (KS w t' l' ((U++[(64:UInt8)])++N) ((j'.heap.size,32)::((w3.heap.size,64)::[]))):=jD (K3.out.grown f' a' (by have:=J.out;(try simp only[OM,O0]);omega) (by simp only[QP]) (by have:=J.out;(try simp only[OM,O0]);omega));have X4:Hid (t'.heap[X]?=some (.cells [Value.int .i64 (j:Int),.int .i64 (q:Int)].toArray 183 (0,0))):=jD (K3.out.other f' X3.out dc);clear a' f')
     refine hK.out _ _ (by exact ab X4.out 1) (fun I=>?_);clear hK K;refine nxH 7 (fun K hK=>?_)
     focus ((try (change Oper.wp _ _ _ _ _ _));refine cU _ (.tmp 21) (.tmp 22) 268 rfl w.heap.size 5 i0 _ 1 1 underlying268 hi A' D' C' rfl dc (l') ((ul+1)+N.length) (Lib.byteCells ((U++[(64:UInt8)])++N)) jR (by have h:=K4.out.row;rw[show (((U++[(64:UInt8)])++N)).length=((ul+1)+N.length) by have:=J.out;(try simp only[OM,O0]);omega]at h;exact h) (some ⟨j'.heap.size,0,none⟩) 1 1 [.int .u8 32] jR (K4.out.src jS) (by unfold maxLen;omega) om K4.out.bel.size ?_;intro r' n' Z c' h';have K5:Hid (KS w n' r' (((U++[(64:UInt8)])++N)++[(32:UInt8)]) ((j'.heap.size,32)::((w3.heap.size,64)::[]))):=jD (K4.out.grown c' Z (by have:=J.out;(try simp only[OM,O0]);omega) (by simp only[QP];rfl) (by have:=J.out;(try simp only[OM,O0]);omega));have X5:Hid (n'.heap[X]?=some (.cells [Value.int .i64 (j:Int),.int .i64 (q:Int)].toArray 183 (0,0))):=jD (K4.out.other c' X4.out dc);clear Z c' h')
     exact ubi
    exact Qx
   refine PI rfl (fun K hK=>?_) ?_
   focus
    rw[OG kr]
    go_simp;refine nD fun j' u'=>?_;have K1:Hid (KS w j' (.slice A3 ul c3) U ((w3.heap.size,32)::[])):=jD (by rw[u'];first|exact (K0.out.alloc 32).drew|exact K0.out.alloc 32);have X1:Hid (j'.heap[X]?=some (.cells [Value.int .i64 (j:Int),.int .i64 (q:Int)].toArray 183 (0,0))):=jD (by rw[u'];exact (Qe _ _ X (aX X0.out)).trans X0.out);clear u'
    refine hK.out _ _ (by exact ab X1.out 1) (fun I=>?_);clear hK K
    try simp only[Act.put,O9,O6,O4]
    refine nxH 1 (fun K hK=>?_)
    go_simp;refine nD fun k' p'=>?_;have K2:Hid (KS w k' (.slice A3 ul c3) U ((j'.heap.size,64)::((w3.heap.size,32)::[]))):=jD (by rw[p'];first|exact (K1.out.alloc 64).drew|exact K1.out.alloc 64);have X2:Hid (k'.heap[X]?=some (.cells [Value.int .i64 (j:Int),.int .i64 (q:Int)].toArray 183 (0,0))):=jD (by rw[p'];exact (Qe _ _ X (aX X1.out)).trans X1.out);clear p'
    refine hK.out _ _ (by exact ab X2.out 1) (fun I=>?_);clear hK K;refine nxH 2 (fun K hK=>?_)
    focus ((try (change Oper.wp _ _ _ _ _ _));refine cU _ (.tmp 16) (.tmp 17) 268 rfl w.heap.size 5 i0 _ 1 1 underlying268 hi A' D' C' rfl dc (.slice A3 ul c3) ul (Lib.byteCells U) jR (by have h:=K2.out.row;rw[show (U).length=ul by have:=J.out;(try simp only[OM,O0]);omega]at h;exact h) (some ⟨j'.heap.size,0,none⟩) 1 1 [.int .u8 64] jR (K2.out.src jS) (by unfold maxLen;omega) om K2.out.bel.size ?_;intro s' i' d' g' q';have K3:Hid (KS w i' s' (U++[(64:UInt8)]) ((j'.heap.size,64)::((w3.heap.size,32)::[]))):=jD (K2.out.grown g' d' (by have:=J.out;(try simp only[OM,O0]);omega) (by simp only[QP];rfl) (by have:=J.out;(try simp only[OM,O0]);omega));have X3:Hid (i'.heap[X]?=some (.cells [Value.int .i64 (j:Int),.int .i64 (q:Int)].toArray 183 (0,0))):=jD (K2.out.other g' X2.out dc);clear d' g' q')
    refine hK.out _ _ (by exact ab X3.out 1) (fun I=>?_);clear hK K;refine nxH 5 (fun K hK=>?_)
    focus (go_simp;refine (kq w.heap.size (ul+1) q m' _ (Lib.byteCells (U++[(64:UInt8)])) i' (by have h:=K3.out.row;rw[show ((U++[(64:UInt8)])).length=(ul+1) by have:=J.out;(try simp only[OM,O0]);omega]at h;exact h) K3.out.bel.size om).mono ?_;rintro e t' ⟨l',rfl,a',f'⟩;rw[<-HN.out]at a';have K4:Hid (KS w t' l' ((U++[(64:UInt8)])++N) ((j'.heap.size,64)::((w3.heap.size,32)::[]))):=jD (K3.out.grown f' a' (by have:=J.out;(try simp only[OM,O0]);omega) (by simp only[QP]) (by have:=J.out;(try simp only[OM,O0]);omega));have X4:Hid (t'.heap[X]?=some (.cells [Value.int .i64 (j:Int),.int .i64 (q:Int)].toArray 183 (0,0))):=jD (K3.out.other f' X3.out dc);clear a' f')
    refine hK.out _ _ (by exact ab X4.out 1) (fun I=>?_);clear hK K;refine nxH 7 (fun K hK=>?_)
    focus ((try (change Oper.wp _ _ _ _ _ _));refine cU _ (.tmp 21) (.tmp 22) 268 rfl w.heap.size 5 i0 _ 1 1 underlying268 hi A' D' C' rfl dc (l') ((ul+1)+N.length) (Lib.byteCells ((U++[(64:UInt8)])++N)) jR (by have h:=K4.out.row;rw[show (((U++[(64:UInt8)])++N)).length=((ul+1)+N.length) by have:=J.out;(try simp only[OM,O0]);omega]at h;exact h) (some ⟨w3.heap.size,0,none⟩) 1 1 [.int .u8 32] jR (K4.out.src jS) (by unfold maxLen;omega) om K4.out.bel.size ?_;intro r' n' Z c' h';have K5:Hid (KS w n' r' (((U++[(64:UInt8)])++N)++[(32:UInt8)]) ((j'.heap.size,64)::((w3.heap.size,32)::[]))):=jD (K4.out.grown c' Z (by have:=J.out;(try simp only[OM,O0]);omega) (by simp only[QP];rfl) (by have:=J.out;(try simp only[OM,O0]);omega));have X5:Hid (n'.heap[X]?=some (.cells [Value.int .i64 (j:Int),.int .i64 (q:Int)].toArray 183 (0,0))):=jD (K4.out.other c' X4.out dc);clear Z c' h')
    exact ubi
   exact Qx
  ·have E1:¬(k:Int)<(s.length:Int):=by omega
   have S0:k=s.length:=by omega
   have y':=hI.out;rw[S0,Pp]at y';have HI:=jD y';clear hI y' S0;have F1:0<(fR s).length:=by
    cases s with
    | nil=>simp at H0
    | cons a r=>rw[fR];simp;omega
   obtain⟨g,cap,spare,rfl,-,Z',-,-⟩:=qw HI.out.1.row F1;have A2:=run_convert_bytes_back (P:=prog) wr 268 9 5 ⟨g,0,none⟩ cap (fR s) underlying268 underlying5 underlying9 (fun j hj=>by
    rw[cY,Pd,ab Z',Ph (by simpa [Lib.byteCells] using hj)];simp[Lib.byteCells,hj])
   clear Z';go_wp2;go_ret;exact⟨rfl,HI.out.1.bel⟩
end
end Go.Proofs.YteemngnialjaiaaGreatDoor
