/- Part. -/
import Derived.Test.YtbjicljfjkdeeaaGreatDoorQ14
import Derived.WideMake
import Derived.Test.YtbjicljfjkdeeaaGreatDoorQ21
import Derived.Test.YtbjicljfjkdeeaaGreatDoorQ09
set_option maxRecDepth 100000
set_option maxHeartbeats 16000000
set_option linter.unusedVariables false
set_option linter.unusedSimpArgs false
namespace Go.Proofs.YtbjicljfjkdeeaaGreatDoor
open Go.Proofs.Tryz Go.RowKit
def cL (b:Bool):Vl:=⟨1,if b then 1 else 0,⟨#[]⟩⟩
def jt (n:Int):Vl:=⟨0,n,⟨#[]⟩⟩
def bR (x:Vl):List Value:=[Mk x.kind,Mk x.num,.string x.text]
def aQ (l:List Vl):List Value:=l.flatMap bR
theorem fR (l m:List Vl):aQ (l++m)=aQ l++aQ m:=OK
theorem gk (l:List Vl) (x:Vl):aQ (l++[x])=aQ l++[Mk x.kind,Mk x.num,.string x.text]:=by rw[fR];rfl
theorem ox (l:List Vl):∀u∈aQ l,u.oneCell'=true:=fun u hu=>by
 obtain⟨x,_,h⟩:=List.mem_flatMap.1 hu;simp only[bR,MN,Nh,Ni]at h;rcases h with rfl|rfl|rfl<;>rfl
theorem gA:∀{l:List Vl} {k:Nat} {x:Vl},l[k]?=some x->∀r,r<3->(aQ l)[k*3+r]?=(bR x)[r]?
 | [],k,x,h,_,_=>by simp at h
 | y::l,0,x,h,r,hr=>by
  simp at h;subst h;unfold aQ;rw[MM,Nn,MC,MQ (by simpa [bR] using hr)]
 | y::l,k+1,x,h,r,hr=>by
  have z:=gA (l:=l) (k:=k) (x:=x) (jQ h) r hr;unfold aQ at z ⊢;rw[MM,M7 (by simp[bR];omega),<-z];congr 1;simp[bR];omega
theorem mH {B:Nat} {wr:World} {G:Value} {l:List Vl} (h:wr.ownsRow B 27 3 G l.length (aQ l)):aV wr G l:=by
 obtain⟨A,c,rfl,I,h3,O⟩:=dQ h (ox l);refine⟨A,c,rfl,I,h3,fun k x hk=>?_⟩;have J:=(List.getElem?_eq_some_iff.1 hk).1;obtain⟨b,o,Z,z⟩:=O.2.2 om;refine⟨b,o,Z,z _ _ ?_,?_,?_⟩
 ·have:=gA hk 0 dc;simpa [bR] using this
 ·have:=gA hk 1 dc;rw[NT];exact z _ _ (by simpa [bR] using this)
 ·have:=gA hk 2 dc;rw[NT];exact z _ _ (by simpa [bR] using this)
def AN (w:World) (b p:Nat) (x:Int):Prop:=w.cell? ⟨b,p,none⟩=some (Mk x)
abbrev ju (w:World) (v:Value) (l:List Int):Prop:=Sl AN 1 w v l
theorem eN:jp AN:=fun _ _ _ _ _ z h=>aa z h
def gj (l:List Int):List Value:=l.map (Value.int .i64)
theorem uY (l:List Int) (x:Int):gj (l++[x])=gj l++[Mk x]:=by unfold gj;simp
theorem yH (l:List Int):∀u∈gj l,u.oneCell'=true:=fun u hu=>by
 obtain⟨x,_,rfl⟩:=List.mem_map.1 hu;rfl
theorem EO {B:Nat} {wr:World} {G:Value} {l:List Int} (h:wr.ownsRow B 3 1 G l.length (gj l)):ju wr G l:=by
 obtain⟨A,c,rfl,I,h3,O⟩:=dQ h (yH l);refine⟨A,c,rfl,I,h3,fun k x hk=>?_⟩;have J:=(List.getElem?_eq_some_iff.1 hk).1;obtain⟨b,o,Z,z⟩:=O.2.2 om;exact⟨b,o,Z,by rw[NF];exact z k _ (by unfold gj;rw[MA,hk];rfl)⟩
theorem ET:(prog.info? 3).map (fun i=>(i.zero,i.size,i.bytes))=some (some (Mk 0),1,8):=kr
theorem am {w w':World} {m:Nat} {o:Obj} (z:Mm w w') (h:w.heap[m]?=some o):w'.heap[m]?=some o:=(z.block m (Array.getElem?_eq_some_iff.1 h).1).trans h
theorem bB {W:World} {k:Nat} {o x:Obj} (h:W.heap[k]?=some x):(W.alloc o).heap[k]?=some x:=am (af W o) h
def VBox (W:World) (B:Nat):Prop:=∃a b c,W.heap[B]?=some (.cells [a,b,c].toArray 27 (0,0))
theorem VBox.stays {w w':World} {B:Nat} (h:VBox w B) (z:Mm w w'):VBox w' B:=by
 obtain⟨a,b,c,h⟩:=h;exact⟨a,b,c,am z h⟩
theorem VBox.lt {w:World} {B:Nat} (h:VBox w B):B<w.heap.size:=by
 obtain⟨a,b,c,h⟩:=h;exact bC h
theorem VBox.facts {W:World} {B:Nat} (h:VBox W B):∃a b c,W.cell? ⟨B,0,none⟩=some a/\W.cell? ⟨B,1,none⟩=some b/\W.cell? ⟨B,2,none⟩=some c/\W.frozen? ⟨B,0,none⟩=false/\W.frozen? ⟨B,1,none⟩=false/\W.frozen? ⟨B,2,none⟩=false:=by
 obtain⟨a,b,c,h⟩:=h;exact⟨a,b,c,ae h 0,ae h 1,ae h 2,aw h 0,aw h 1,aw h 2⟩
theorem ap (w:World) (b i:Nat) (v:Value):(w.setCell ⟨b,i,none⟩ v).cell? ⟨b,i,none⟩=(w.cell? ⟨b,i,none⟩).map fun _=>v:=by
 unfold World.setCell World.cell?;simp only[O5,M5]
 cases h:w.heap[b]? with
 | none=>rfl
 | some o =>
  cases o<;>simp[Array.getElem?_setIfInBounds]
  all_goals (try split)<;>simp_all
theorem di {w W:World} (h:Mm w W) {b:Nat} (G:w.heap.size<=b) (x y z:Value):Mm w (((W.setCell ⟨b,0,none⟩ x).setCell ⟨b,1,none⟩ y).setCell ⟨b,2,none⟩ z):=aq (aq (aq h G _) G _) G _
theorem fM {w w':World} {a b c:Value} (h:Below (w.alloc (.cells [a,b,c].toArray 27 (0,0))).heap.size (w.alloc (.cells [a,b,c].toArray 27 (0,0))) w'):VBox w' w.heap.size:=⟨a,b,c,am h (ax _ _ _ rfl)⟩
theorem Df (b:Bool) (w:World):Mn 235 #[.bool b] w (vlV (cL b)):=by
 unfold vlV cL
 cases b
 all_goals
  go_enter func235,ntmps235;go_wp2
  go_returns
  exact⟨rfl,jB⟩
theorem gH (b:Bool) (w:World):Mn 177 #[.bool b] w (vlV (cL b)):=by
 obtain⟨x,G⟩:=jE (cL b);have z:=jD (fun W=>Df b W);rw[G]at z ⊢;clear G;unfold vlV at *;go_enter func177,ntmps177;go_wp2_with fail;refine (z.out _).mono ?_;rintro e J ⟨rfl,h⟩;obtain⟨a0,O,Z,z0,I,z2,f0,f1,f2⟩:=(fM h).facts;go_wp2;exact Mv (v:=vlV x) (by simp[results,results177,go_sem,ap,z0,I,z2,vlV]) rfl ⟨rfl,di (ab (af w _) h) (Mt _) _ _ _⟩
theorem opsT:prog.underlying 198=some (.map 3 243):=kr
theorem ig (w:World) {ops:Array Oper} {rest:List Oper} {o:Oper} {a:Act} {Q:Exit->Act->World->Prop}
  (z:o.guard=none) (m x v:Operand) (J:o.op=Op.insert 198 m x v) (b:Nat) (k:Int) (u:Value) (es:Array MapEntry) (clock:Nat)
  (hm:a.eval m=.map (some b)) (hx:a.eval x=Mk k) (hv:a.eval v=u) (I:w.heap[b]?=some (.map es clock)) (hf:Instr.findNow (.int .i64) (Mk k) es.toList 0=some none)
  (hK:∀w',w'.heap[b]?=some (.map (es.push { key:=Mk k,val:=u,born:=clock }) (clock+1))->w.grownBy w' (some b)->wpList prog ops Q rest (a.put o.dst undef) w'):wpList prog ops Q (o::rest) a w:=by
 refine wpList_plain z fun K' O=>?_
 have hc:(Instr.checkKey false 10000 3 (Mk k)).run prog w=.ok () w:=MapKept.run_checkKey (k:=Mk k) underlying3 (by simp[MapKept.IsKey]) false 9999;have h:(Instr.mapUpdate 198 (.map (some b)) (Mk k) u).run prog w=.ok () { w with heap:=w.heap.setIfInBounds b (.map (es.push { key:=Mk k,val:=u,born:=clock }) (clock+1)) }:=by
  simp[Instr.mapUpdate,M6 opsT,MapKept.run_getObj_map I,hc,MapKept.run_findKey underlying3 hf,MapKept.run_setObj_map _ I,Result.andThen]
 unfold Oper.wp;simp[execOp,J,hm,hx,hv,h,Result.andThen];have Z:=MapKept.heap_set (o':=.map (es.push { key:=Mk k,val:=u,born:=clock }) (clock+1)) I;exact O _ _ (hK _ Z.1 ⟨rfl,rfl,rfl,by simp,fun i hi G=>Z.2 i (fun e=>G (by rw[e]))⟩)
def opEs (g:Nat):Array MapEntry:=#[⟨Mk 5,.func (.func 174) #[] #[.pointer (some ⟨g,0,none⟩)],0⟩,⟨Mk 6,.func (.func 175) #[] #[.pointer (some ⟨g,0,none⟩)],1⟩,
 ⟨Mk 7,.func (.func 176) #[] #[],2⟩,⟨Mk 8,.func (.func 178) #[] #[],3⟩,⟨Mk 10,.func (.func 179) #[] #[],4⟩,
 ⟨Mk 11,.func (.func 180) #[] #[],5⟩,⟨Mk 12,.func (.func 181) #[] #[],6⟩]
def OpsAt (w:World) (m:Nat):Prop:=∃g,w.heap[m]?=some (.map (opEs g) 7)/\w.cell? ⟨g,0,none⟩=some (.func (.func 173) #[] #[])
theorem OpsAt.stays {w w':World} {m:Nat} (h:OpsAt w m) (z:Mm w w'):OpsAt w' m:=by
 obtain⟨g,I,G⟩:=h;exact⟨g,am z I,aa z G⟩
theorem tW (n:Int) (w:World):Mn 173 #[Mk n] w (vlV (jt n)):=by
 unfold vlV jt;go_enter func173,ntmps173;go_wp2
 go_returns
 exact⟨rfl,jB⟩
theorem Jy (a b:Int) (g:Nat) (w:World) (I:w.cell? ⟨g,0,none⟩=some (.func (.func 173) #[] #[])) :
  Calls prog 174 #[Mk a,Mk b,.pointer (some ⟨g,0,none⟩)] w fun e w'=>e=.returned (vlV (jt (IntKind.i64.wrap (a+b))))/\Mm w w':=by
 obtain⟨n,Z⟩:=jE (IntKind.i64.wrap (a+b));have z:=jD (fun W=>tW n W);rw[Z];obtain⟨x,G⟩:=jE (jt n);rw[G]at z ⊢;clear G;have a':g<w.heap.size:=Ms w ⟨g,_,none⟩ I;have O:g≠w.heap.size:=by omega
 unfold vlV at *;go_enter func174,ntmps174;go_wp2_with fail;refine (z.out _).mono ?_;rintro e w1 ⟨rfl,h⟩;obtain⟨a0,b0,c0,z0,J,z2,f0,f1,f2⟩:=(fM h).facts;go_wp2;exact Mv (v:=vlV x) (by simp[results,results174,go_sem,ap,z0,J,z2,vlV]) rfl ⟨rfl,di (ab (af w _) h) (Mt _) _ _ _⟩
theorem JQ (a b:Int) (g:Nat) (w:World) (I:w.cell? ⟨g,0,none⟩=some (.func (.func 173) #[] #[])) :
  Calls prog 175 #[Mk a,Mk b,.pointer (some ⟨g,0,none⟩)] w fun e w'=>e=.returned (vlV (jt (IntKind.i64.wrap (a-b))))/\Mm w w':=by
 obtain⟨n,Z⟩:=jE (IntKind.i64.wrap (a-b));have z:=jD (fun W=>tW n W);rw[Z];obtain⟨x,G⟩:=jE (jt n);rw[G]at z ⊢;clear G;have a':g<w.heap.size:=Ms w ⟨g,_,none⟩ I;have O:g≠w.heap.size:=by omega
 unfold vlV at *;go_enter func175,ntmps175;go_wp2_with fail;refine (z.out _).mono ?_;rintro e w1 ⟨rfl,h⟩;obtain⟨a0,b0,c0,z0,J,z2,f0,f1,f2⟩:=(fM h).facts;go_wp2;exact Mv (v:=vlV x) (by simp[results,results175,go_sem,ap,z0,J,z2,vlV]) rfl ⟨rfl,di (ab (af w _) h) (Mt _) _ _ _⟩
theorem JR (a b:Int) (w:World) :
  Calls prog 176 #[Mk a,Mk b] w fun e w'=>e=.returned (vlV (cL (decide (a<b))))/\Mm w w':=by
 by_cases J:a<b
 all_goals
  obtain⟨t,z⟩:=jE (decide (a<b));rw[z];simp[J]at z;have G:=jD (fun W=>gH t W);generalize O:cL t=x at G ⊢;clear O;subst z;unfold vlV at *;go_enter func176,ntmps176;go_wp2_with fail;refine (G.out _).mono ?_;rintro e Z ⟨rfl,h⟩;obtain⟨a0,b0,c0,z0,I,z2,f0,f1,f2⟩:=(fM h).facts;go_wp2;exact Mv (v:=vlV x) (by simp[results,results176,go_sem,ap,z0,I,z2,vlV]) rfl ⟨rfl,di (ab (af w _) h) (Mt _) _ _ _⟩
theorem IB (a b:Int) (w:World) :
  Calls prog 178 #[Mk a,Mk b] w fun e w'=>e=.returned (vlV (cL (decide (a<=b))))/\Mm w w':=by
 by_cases J:a<=b
 all_goals
  obtain⟨t,z⟩:=jE (decide (a<=b));rw[z];simp[J]at z;have G:=jD (fun W=>gH t W);generalize O:cL t=x at G ⊢;clear O;subst z;unfold vlV at *;go_enter func178,ntmps178;go_wp2_with fail;refine (G.out _).mono ?_;rintro e Z ⟨rfl,h⟩;obtain⟨a0,b0,c0,z0,I,z2,f0,f1,f2⟩:=(fM h).facts;go_wp2;exact Mv (v:=vlV x) (by simp[results,results178,go_sem,ap,z0,I,z2,vlV]) rfl ⟨rfl,di (ab (af w _) h) (Mt _) _ _ _⟩
theorem Ha (a b:Int) (w:World) :
  Calls prog 179 #[Mk a,Mk b] w fun e w'=>e=.returned (vlV (cL ((decide (a=1)&&decide (b=1)))))/\Mm w w':=by
 by_cases Z:a=1<;>by_cases c2:b=1
 all_goals
  obtain⟨t,I⟩:∃t,((decide (a=1)&&decide (b=1)))=t:=⟨_,rfl⟩;rw[I];simp[Z,c2]at I;have HN:=jD (fun W=>gH t W);generalize hx:cL t=x at HN ⊢;clear hx;subst I;unfold vlV at *;obtain⟨da,J⟩:∃d,(a==1)=d:=⟨_,rfl⟩;have h:da=decide (a=1):=by rw[<-J,Nt];simp
  simp only[Z,N8,N3]at h;subst h;obtain⟨db,O⟩:∃d,(b==1)=d:=⟨_,rfl⟩;have z:db=decide (b=1):=by rw[<-O,Nt];simp
  simp only[c2,N8,N3]at z;subst z;go_enter func179,ntmps179;go_wp2_with fail;refine (HN.out _).mono ?_;rintro e w1 ⟨rfl,G⟩;obtain⟨a0,b0,c0,z0,z1,z2,f0,f1,f2⟩:=(fM G).facts;go_wp2;exact Mv (v:=vlV x) (by simp[results,results179,go_sem,ap,z0,z1,z2,vlV]) rfl ⟨rfl,di (ab (af w _) G) (Mt _) _ _ _⟩
theorem GG (a b:Int) (w:World) :
  Calls prog 180 #[Mk a,Mk b] w fun e w'=>e=.returned (vlV (cL ((decide (a=1) || decide (b=1)))))/\Mm w w':=by
 by_cases Z:a=1<;>by_cases c2:b=1
 all_goals
  obtain⟨t,I⟩:∃t,((decide (a=1) || decide (b=1)))=t:=⟨_,rfl⟩;rw[I];simp[Z,c2]at I;have HN:=jD (fun W=>gH t W);generalize hx:cL t=x at HN ⊢;clear hx;subst I;unfold vlV at *;obtain⟨da,J⟩:∃d,(a==1)=d:=⟨_,rfl⟩;have h:da=decide (a=1):=by rw[<-J,Nt];simp
  simp only[Z,N8,N3]at h;subst h;obtain⟨db,O⟩:∃d,(b==1)=d:=⟨_,rfl⟩;have z:db=decide (b=1):=by rw[<-O,Nt];simp
  simp only[c2,N8,N3]at z;subst z;go_enter func180,ntmps180;go_wp2_with fail;refine (HN.out _).mono ?_;rintro e w1 ⟨rfl,G⟩;obtain⟨a0,b0,c0,z0,z1,z2,f0,f1,f2⟩:=(fM G).facts;go_wp2;exact Mv (v:=vlV x) (by simp[results,results180,go_sem,ap,z0,z1,z2,vlV]) rfl ⟨rfl,di (ab (af w _) G) (Mt _) _ _ _⟩
theorem Fm (a b:Int) (w:World) :
  Calls prog 181 #[Mk a,Mk b] w fun e w'=>e=.returned (vlV (cL (!decide (a=1))))/\Mm w w':=by
 by_cases O:a=1
 all_goals
  obtain⟨t,J⟩:∃t,(!decide (a=1))=t:=⟨_,rfl⟩;rw[J];simp[O]at J;have Z:=jD (fun W=>gH t W);generalize hx:cL t=x at Z ⊢;clear hx;subst J;unfold vlV at *;obtain⟨da,G⟩:∃d,(a==1)=d:=⟨_,rfl⟩;have h:da=decide (a=1):=by rw[<-G,Nt];simp
  simp only[O,N8,N3]at h;subst h;have z:(a != 1)=!(a==1):=rfl;rw[G]at z;simp only[Nk,NH]at z;go_enter func181,ntmps181;go_wp2_with fail;refine (Z.out _).mono ?_;rintro e w1 ⟨rfl,I⟩;obtain⟨a0,b0,c0,z0,z1,z2,f0,f1,f2⟩:=(fM I).facts;go_wp2;exact Mv (v:=vlV x) (by simp[results,results181,go_sem,ap,z0,z1,z2,vlV]) rfl ⟨rfl,di (ab (af w _) I) (Mt _) _ _ _⟩
theorem qY (w:World):Calls prog 118 #[] w fun e w'=>∃m,e=.returned (.map (some m))/\OpsAt w' m/\Mm w w':=by
 have c':=@run_makeMap_plain prog;have a':∀(W:World) (a:Addr),(store a (.func (.func 173) #[] #[])).run prog W=stored prog W a (.func (.func 173) #[] #[]) .plain:=fun W a=>run_store prog W a _ .plain rfl
 go_enter func118,ntmps118;go_wp2_with (first
  | ((refine ig _ rfl _ _ _ rfl (w.heap.size+1) 5 _ #[] 0 rfl rfl rfl (ax _ _ _ jS) rfl ?_);(intro w1 h Z);(have z:=au Z (B:=w.heap.size+1) jS (fun g G=>by injection G with G;omega));have O:w.heap.size+1<w1.heap.size:=(Array.getElem?_eq_some_iff.1 h).1)
  | ((refine ig _ rfl _ _ _ rfl (w.heap.size+1) _ _ _ _ rfl rfl rfl h rfl ?_);(clear h);(intro w2 h J);(have I:=z.trans (au J (B:=w.heap.size+1) om (fun g G=>by injection G with G;omega)));(clear z);(have z:=I);(clear I J O);have O:w.heap.size+1<w2.heap.size:=(Array.getElem?_eq_some_iff.1 h).1))
 go_ret;refine⟨w.heap.size+1,rfl,⟨w.heap.size,h,?_⟩,?_⟩
 ·refine (ML (z.block w.heap.size om)).trans ?_;simp
 ·refine (Below.trans ?_ (z.mono om));exact jB
def du (vs:List (List Evt)) (v:Int):List Evt:=if v<0\/(vs.length:Int)<=v then [] else vs.getD v.toNat []
def cS (h:List Vl) (k:Int):Vl × Int:=if (h.length:Int)<=k then (ah,6) else (h.getD k.toNat ah,0)
def eA (k:Int):List Evt->List Vl × Int
 | []=>([],0)
 | e::r=>if (cS e.vals k).2≠0 then ([],6) else ((cS e.vals k).1::(eA k r).1,(eA k r).2)
def qv (l:List Evt) (x:Ex):Vl × Int:=if (eA x.fl l).2≠0 then (ah,6) else ofR x.kd (eA x.fl l).1 x.val
def yl (l:List Evt) (b:Bool) (ev:Evt):Option Evt:=if b=true then some ev else l.getLast?
def Eh (x:Ex):Option Evt->Vl × Int
 | none=>(ah,10)
 | some e=>if x.op=2 then (jt e.tm,0) else if (cS e.vals x.fl).2≠0 then (ah,6) else if dN (cS e.vals x.fl).1≠0 then (ah,dN (cS e.vals x.fl).1) else ((cS e.vals x.fl).1,0)
def kZ (vs:List (List Evt)) (own:Int) (ev:Evt) (x:Ex):Vl × Int :=
 if x.op=0 then (x.val,0) else if x.op=3 then (jt (du vs x.vr).length,0) else if x.op=4 then qv (du vs x.vr) x
 else Eh x (yl (du vs x.vr) (decide (x.vr=own)) ev)
def okK (op h k:Int):Bool:=if 5<=op/\op<=8 then decide (k=0) else if 10<=op/\op<=12 then decide (k=1) else if op=9 then decide (k=h) else true
def opE (op:Int) (ks:List Int):Int:=if ks.all (okK op (ks.headD 0)) then 0 else 9
def An (op:Int) (a b:Vl):Vl :=
 if op=5 then jt (IntKind.i64.wrap (a.num+b.num)) else if op=6 then jt (IntKind.i64.wrap (a.num-b.num))
 else if op=7 then cL (decide (a.num<b.num)) else if op=8 then cL (decide (a.num<=b.num))
 else if op=9 then cL (bY a b) else if op=10 then cL (decide (a.num=1)&&decide (b.num=1))
 else if op=11 then cL (decide (a.num=1) || decide (b.num=1)) else cL (!decide (a.num=1))
def Cp (op:Int) (r:List Vl × Int):Vl × Int :=
 if r.2≠0 then (ah,r.2) else if opE op (r.1.map (·.kind))≠0 then (ah,opE op (r.1.map (·.kind)))
 else (An op (r.1.headD ah) (r.1.getLastD ah),0)
mutual
def fy (vs:List (List Evt)) (own:Int) (ev:Evt):Ex->Vl × Int
 | .mk o l a b c v=>if l.length=0 then kZ vs own ev (.mk o l a b c v) else Cp o (ji vs own ev l)
def ji (vs:List (List Evt)) (own:Int) (ev:Evt):List Ex->List Vl × Int
 | []=>([],0)
 | a::r=>if (fy vs own ev a).2≠0 then ([],(fy vs own ev a).2) else ((fy vs own ev a).1::(ji vs own ev r).1,(ji vs own ev r).2)
end
theorem zL {vs:List (List Evt)} {own:Int} {ev:Evt} {l:List Ex} {k:Nat} {a:Ex} (h:l[k]?=some a) :
  ji vs own ev (l.drop k)=if (fy vs own ev a).2≠0 then ([],(fy vs own ev a).2) else ((fy vs own ev a).1::(ji vs own ev (l.drop (k+1))).1,(ji vs own ev (l.drop (k+1))).2):=by
 obtain⟨z,rfl⟩:=List.getElem?_eq_some_iff.1 h;rw[Nd z,ji]
theorem uP {f:Int} {l:List Evt} {k:Nat} {e:Evt} (h:l[k]?=some e) :
  eA f (l.drop k)=if (cS e.vals f).2≠0 then ([],6) else ((cS e.vals f).1::(eA f (l.drop (k+1))).1,(eA f (l.drop (k+1))).2):=by
 obtain⟨z,rfl⟩:=List.getElem?_eq_some_iff.1 h;rw[Nd z,eA]
theorem Et {l:List Vl} {k:Int} (h0:0<=k) (h:k<(l.length:Int)):cS l k=(l.getD k.toNat ah,0):=Mo om
theorem Eg {l:List Vl} {k:Int} (h:(l.length:Int)<=k):cS l k=(ah,6):=Mp h
theorem Dp {x:Ex} (h:cn x=0):bl x=0/\∀(k:Nat) (a:Ex),x.args[k]?=some a->cn a=0:=by
 rw[mV]at h;have G:bl x=0:=by
  refine PP fun z=>?_
  rw[Mp z]at h;exact z h
 rw[Mo (jQ G)]at h;refine⟨G,?_⟩;generalize x.args=l at h;clear G
 induction l with
 | nil=>intro k a hk;simp at hk
 | cons y r J =>
  rw[dV]at h;have I:cn y=0:=by
   refine PP fun z=>?_
   rw[Mp z]at h;exact z h
  rw[Mo (jQ I)]at h;intro k a hk
  cases k with
  | zero=>simp at hk;subst hk;exact I
  | succ k=>exact J h k a (jQ hk)
def oJ (v:Value) (own:Int) (ev:Evt) (u:Value) (m:Nat):Value:=.agg #[v,Mk own,Mk ev.src,Mk ev.sq,Mk ev.ty,Mk ev.tm,u,.map (some m)]
theorem xm {W:World} {g t:Nat} {a0 z a2 a3 a4 a5 I G:Value} (h:W.heap[g]?=some (.cells [a0,z,a2,a3,a4,a5,I,G].toArray t (0,0))) :
  W.cell? ⟨g,0,none⟩=some a0/\W.cell? ⟨g,1,none⟩=some z/\W.cell? ⟨g,2,none⟩=some a2/\W.cell? ⟨g,3,none⟩=some a3/\W.cell? ⟨g,4,none⟩=some a4/\W.cell? ⟨g,5,none⟩=some a5/\W.cell? ⟨g,6,none⟩=some I/\W.cell? ⟨g,7,none⟩=some G :=
 ⟨ae h 0,ae h 1,ae h 2,ae h 3,ae h 4,ae h 5,ae h 6,ae h 7⟩
theorem blk5 {W:World} {g t:Nat} {a0 z a2 a3 a4:Value} (h:W.heap[g]?=some (.cells [a0,z,a2,a3,a4].toArray t (0,0))) :
  W.cell? ⟨g,0,none⟩=some a0/\W.cell? ⟨g,1,none⟩=some z/\W.cell? ⟨g,2,none⟩=some a2/\W.cell? ⟨g,3,none⟩=some a3/\W.cell? ⟨g,4,none⟩=some a4 :=
 ⟨ae h 0,ae h 1,ae h 2,ae h 3,ae h 4⟩
theorem tk (vs:List (List Evt)) (v:Value) (own:Int) (ev:Evt) (Au:Option Addr) (nu cu m:Nat) (k:Int) (w:World) (hv:fW w v vs) :
  Calls prog 236 #[oJ v own ev (.slice Au nu cu) m,Mk k] w fun e w'=>∃A c,e=.returned (.slice A (du vs k).length c)/\bh w' (.slice A (du vs k).length c) (du vs k)/\Mm w w':=by
 obtain⟨A,c,rfl,Z,I,z⟩:=hv;have O:=ay Z I;have HL:=jD z;clear z Z I;unfold oJ
 by_cases c1:k<0
 ·have e:du vs k=[]:=Mp (.inl c1);rw[e];go_enter func236,ntmps236;go_wp2;go_ret;exact⟨none,0,rfl,Sl.nil _ _ _ _ _ (Mu _),jB⟩
 by_cases c2:(vs.length:Int)<=k
 ·have e:du vs k=[]:=Mp (.inr c2);rw[e];go_enter func236,ntmps236;go_wp2;go_ret;exact⟨none,0,rfl,Sl.nil _ _ _ _ _ (Mu _),jB⟩
 obtain⟨n,rfl⟩:∃n:Nat,k=n:=⟨k.toNat,by omega⟩;have h:n<vs.length:=by omega
 have e:du vs n=vs[n]:=by unfold du;rw[Mo om];simp[PE,h]
 obtain⟨b,o,rfl,v',G,hc⟩:=HL.out n vs[n] (Mq h);rw[e];have HV:=jD G;obtain⟨A',c',rfl,-⟩:=G;have a':b<w.heap.size:=Ms w ⟨b,_,none⟩ hc;have J:b≠w.heap.size:=by omega
 rw[NF]at hc;clear e;go_enter func236,ntmps236;go_wp2;go_ret;exact⟨A',c',rfl,HV.out.stays aG jB,jB⟩
theorem bT {w:World} {A:Option Addr} {c:Nat} {l:List Vl} (h:aV w (.slice A l.length c) l) {k:Nat} (hk:k<l.length):∃b o,A=some ⟨b,o,none⟩/\b<w.heap.size /\
  w.cell? ⟨b,o+k*3,none⟩=some (Mk (l.getD k ah).kind)/\w.cell? ⟨b,o+k*3+1,none⟩=some (Mk (l.getD k ah).num)/\w.cell? ⟨b,o+k*3+2,none⟩=some (.string (l.getD k ah).text):=by
 obtain⟨A',c',e,I,G,z⟩:=h;injection e with O e2 Z;subst O Z;obtain⟨b,o,rfl,h0,I,G⟩:=z k l[k] (Mq hk);have J:l.getD k ah=l[k]:=by simp[PE,hk]
 rw[J];exact⟨b,o,rfl,Ms w ⟨b,_,none⟩ h0,h0,I,G⟩
theorem nD (x:Evt) (u:Value) (k:Int) (w:World) (hu:aV w u x.vals) (h0:0<=k) :
  Mn 238 #[cP x u,Mk k] w (.tuple #[vlV (cS x.vals k).1,Mk (cS x.vals k).2]):=by
 have HU:=jD hu;obtain⟨A,c,rfl,G,h,-⟩:=hu;have z:=ay G h;clear G h;unfold cP
 by_cases O:(x.vals.length:Int)<=k
 ·rw[Eg O];unfold vlV ah;go_enter func238,ntmps238;go_wp2;exact Mv (v:=.tuple #[.agg #[Mk 0,Mk 0,.string ⟨#[]⟩],Mk 6]) (by simp[results,results238,go_sem]) rfl ⟨rfl,jB⟩
 have Z:k<(x.vals.length:Int):=by omega
 rw[Et h0 Z];obtain⟨n,rfl⟩:∃n:Nat,k=n:=⟨k.toNat,by omega⟩;rw[Int.toNat_natCast];obtain⟨b,o,rfl,hb,p0,p1,J⟩:=bT HU.out (k:=n) om;obtain⟨y,hy⟩:=jE (x.vals.getD n ah);rw[hy]at p0 p1 J ⊢;clear hy;have a':b≠w.heap.size:=by omega
 have I:b≠w.heap.size+1:=by omega
 unfold vlV;go_enter func238,ntmps238;go_wp2;exact Mv (v:=.tuple #[.agg #[Mk y.kind,Mk y.num,.string y.text],Mk 0]) (by simp[results,results238,go_sem]) rfl ⟨rfl,jB⟩
theorem CZ (vs:List (List Evt)) (v:Value) (own:Int) (ev:Evt) (Au:Option Addr) (nu cu m:Nat) (x:Ex) (Ax:Option Addr) (nx cx:Nat) (w:World) (hv:fW w v vs) (hf:0<=x.fl) (g':(du vs x.vr).length<=1048576) :
  Calls prog 237 #[oJ v own ev (.slice Au nu cu) m,exV x (.slice Ax nx cx)] w fun e w' =>
   e=.returned (.tuple #[vlV (qv (du vs x.vr) x).1,Mk (qv (du vs x.vr) x).2])/\Mm w w':=by
 have HV:=jD hv;obtain⟨A,c,rfl,-⟩:=hv;have y':=jD (fun W (hW:Mm w W)=>tk vs _ own ev Au nu cu m x.vr W (HV.out.stays dT hW));obtain⟨evs,d'⟩:∃e,du vs x.vr=e:=⟨_,rfl⟩;rw[d']at y' g' ⊢;clear d';obtain⟨⟨RV,re⟩,hR⟩:∃r,qv evs x=r:=⟨_,rfl⟩;rw[hR];obtain⟨op,l,vr,fl,kd,vl⟩:=x;obtain⟨FR,I⟩:∃r,eA fl evs=r:=⟨_,rfl⟩;have HR:Hid ((if FR.2≠0 then (ah,6) else ofR kd FR.1 vl)=(RV,re)):=jD (by rw[<-hR,<-I];rfl);have H':=jD I;clear hR I;unfold oJ exV at *;simp only[Ex.op,Ex.vr,Ex.fl,Ex.kd,Ex.val]at *;unfold vlV;go_enter func237,ntmps237;go_wp2_with fail;refine aI fun W9 e9=>?_
 have hX:W9.heap[w.heap.size+1]?=some (.cells [.int .i64 op,.slice Ax nx cx,.int .i64 vr,.int .i64 fl,.int .i64 kd,.int .i64 vl.kind,.int .i64 vl.num,.string vl.text].toArray 29 (0,0)):=by
  rw[e9];repeat (first|exact ax _ _ _ jS|apply bB)
 have hB:VBox W9 (w.heap.size+2):=⟨Mk 0,Mk 0,.string ⟨#[]⟩,by rw[e9];repeat (first|exact ax _ _ _ jS|apply bB)⟩;have h':Mm w W9:=gb e9;clear e9;refine (y'.out _ h').mono ?_;rintro e w1 ⟨A1,c1,rfl,hl,a'⟩;have HX:=jD (am a' hX);have HB:=jD (hB.stays a');have t':=jD (ab h' a');obtain⟨h1,h2,x'⟩:evs.length<=c1/\c1<=maxLen/\∀k x,evs[k]?=some x->∃b o,A1=some ⟨b,o,none⟩/\pz w1 b (o+k*5) x:=by
  obtain⟨A',c',e,h1,h2,h3⟩:=hl;injection e with e1 e2 e3;subst e1 e3;exact⟨h1,h2,h3⟩
 have T':=ay h1 h2;have HL:=jD x';have z':=jD g';have F':w.heap.size+2<w1.heap.size:=HB.out.lt;obtain⟨X,p'⟩:=jF (w.heap.size+1);have H0:X+1<w1.heap.size:=by omega
 have Q0:w.heap.size<=X:=by omega
 rw[show w.heap.size+2=w.heap.size+1+1 from rfl]at HB;rw[<-p']at HX HB ⊢;clear hX hB h' a' hl h1 h2 x' g' F' p';obtain⟨i0,hi,E',O',J'⟩:=Np mo;go_wp2_with fail
 go_loopw [6,16] (fun av i wr=>∃(k:Nat) (pre:List Vl),k<=evs.length/\pre.length=k/\i=Mk k/\Hid (wr.ownsRow w1.heap.size 27 3 av k (aQ pre))/\Hid ((pre++(eA fl (evs.drop k)).1,(eA fl (evs.drop k)).2)=FR/\Mm w1 wr)) (fun _ i _=>evs.length-(intOf i).toNat)
 case atStart=>exact⟨0,[],Mu _,rfl,rfl,jD ⟨rfl,.inl ⟨rfl,rfl⟩⟩,jD ⟨by rw[OD,H'.out];rfl,Mr _ _⟩⟩
 case round =>
  obtain⟨k,pre,hk,q',rfl,z,hI⟩:=hrel;have J:=hI.out.2;obtain⟨Ar,cr,rfl⟩:=aH z.out;have X':=J.size;have N':=jD (am J HX.out);have G':=jD (HB.out.stays J);obtain⟨q0,q1,q2,q3,q4,q5,q6,q7⟩:=xm N'.out
  by_cases m':k<evs.length
  ·have B':(k:Int)<(evs.length:Int):=by omega
   obtain⟨b,o,rfl,v',l',p0,p1,p2,p3,p4⟩:=HL.out k evs[k] (Mq m');have hg:=jD (Mq m');obtain⟨a,ha⟩:=jF (evs[k]);rw[<-ha]at hg l' p0 p1 p2 p3;clear ha;replace p0:=aa J p0;replace p1:=aa J p1;replace p2:=aa J p2;replace p3:=aa J p3;replace p4:=aa J p4;have C':=jD (l'.stays aD J);obtain⟨A',c',rfl,-⟩:=l';obtain⟨⟨G,fe⟩,k'⟩:∃r,cS a.vals fl=r:=⟨_,rfl⟩;have HF:=jD (fun W (hW:Mm wr W)=>nD a _ fl W (C'.out.stays aD hW) hf);rw[k']at HF;unfold cP vlV at HF;have r':=jD k';have K0:X≠wr.heap.size:=by omega
   have S':X+1≠wr.heap.size:=by omega
   have Z':X<wr.heap.size:=by omega
   have U':X+1<wr.heap.size:=by omega
   clear k';go_wp2_with fail;refine (HF.out _ ?_).mono ?_
   ·exact jB
   rintro e w2 ⟨rfl,O⟩;have f':Hid (Mm wr w2):=jD (ab (by exact jB) O);have i':=jD (ab J f'.out);have n':=jD (HB.out.stays i'.out);have Y':=i'.out.size;have u':X+1<w2.heap.size:=n'.out.lt;have V':X+1≠w2.heap.size:=by omega
   have h:=hI.out.1;rw[uP hg.out,r'.out]at h
   by_cases hz:fe=0
   case neg =>
    rw[Mp hz]at h;have h6:fe=6:=by
     have h:=r'.out;unfold cS at h
     split at h
     ·injection h with _ h;exact h.symm
     ·injection h with _ h;exact absurd h.symm hz
    subst h6;obtain⟨e1,e2⟩:ah=RV/\6=re:=by
     have h2:=HR.out;rw[<-h,Mp jS]at h2;injection h2 with e1 e2;exact⟨e1,e2⟩
    subst e1 e2;obtain⟨a0,b0,c0,z0,z1,z2,f0,f1,f2⟩:=n'.out.facts;clear h hz;go_wp2;exact Mv (v:=.tuple #[.agg #[Mk 0,Mk 0,.string ⟨#[]⟩],Mk 6]) (by simp[results,results237,go_sem,ap,z0,z1,z2,u']) rfl ⟨rfl,bt (di (ab t'.out i'.out) om _ _ _) _⟩
   subst hz;rw[Mo jS]at h;have HH:=jD h;clear h;have P0:k<1048576:=by have:=z'.out;omega
   have Z:=jD (bt (bt f'.out (.cells #[.int .i64 G.kind,.int .i64 G.num,.string G.text] 27 (0,0))) (.cells #[.int .i64 G.kind,.int .i64 G.num,.string G.text] 27 (0,0)));go_wp2_with (at_builtin;refine bA _ rfl (.tmp 31) (.tmp 33) 41 rfl w1.heap.size 27 i0 _ 3 32 underlying41 hi E' O' J' rfl dc (.slice Ar k cr) k (aQ pre) rfl (ao z.out Z.out) (some ⟨w2.heap.size+1,0,none⟩) 1 1 [Mk G.kind,Mk G.num,.string G.text] rfl (cB _ [Mk G.kind,Mk G.num,.string G.text] _ 1 3 _ jS rfl (by intro u hu;simp only[MN,Nh,Ni]at hu;rcases hu with rfl|rfl|rfl<;>rfl)) (by unfold maxLen;omega) om (by have:=Z.out.size;omega) ?_;intro v8 w8 j' R' I');have D':Mm w1 w8:=(ab J Z.out).trans (au R' (by have:=Z.out.size;omega) (fun g h=>(ag z.out h).1));refine⟨⟨k+1,pre++[G],by omega,by simp[q'],by go_num,jD ?_,jD ⟨?_,D'⟩⟩,by simp[intOf];omega⟩
   ·rw[gk];exact j'
   ·have h:=HH.out;rw[OC];exact h
  ·have B':¬(k:Int)<(evs.length:Int):=by omega
   have P':Hid (aV wr (.slice Ar k cr) pre):=jD (mH (by rw[q'];exact z.out));have I:FR=(pre,0):=by
    have h:=hI.out.1;rw[No om,eA,OV]at h;exact h.symm
   have s':ofR kd pre vl=(RV,re):=by
    have h:=HR.out;rw[I,Mo jS]at h;exact h
   have HO:=jD (fun W (hW:Mm wr W)=>JA kd pre vl _ W (P'.out.stays aD hW));rw[s']at HO;unfold vlV at HO;clear I s';go_wp2_with fail;refine (HO.out _ (Mr _ _)).mono ?_;rintro e w2 ⟨rfl,O⟩;obtain⟨a0,b0,c0,z0,z1,z2,f0,f1,f2⟩:=(G'.out.stays O).facts;go_wp2;exact Mv (v:=.tuple #[.agg #[Mk RV.kind,Mk RV.num,.string RV.text],Mk re]) (by simp[results,results237,go_sem,ap,z0,z1,z2]) rfl ⟨rfl,di (ab t'.out (ab J O)) om _ _ _⟩
section
theorem xP {w:World} {A:Option Addr} {c:Nat} {l:List Evt} (h:bh w (.slice A l.length c) l) {k:Nat} {e:Evt} (hk:l[k]?=some e):∃b o G z,A=some ⟨b,o,none⟩/\b<w.heap.size/\aV w (.slice G e.vals.length z) e.vals /\
  w.cell? ⟨b,o+k*5,none⟩=some (Mk e.src)/\w.cell? ⟨b,o+k*5+1,none⟩=some (Mk e.sq)/\w.cell? ⟨b,o+k*5+2,none⟩=some (Mk e.ty)/\w.cell? ⟨b,o+k*5+3,none⟩=some (Mk e.tm)/\w.cell? ⟨b,o+k*5+4,none⟩=some (.slice G e.vals.length z):=by
 obtain⟨A1,c1,O,h1,h2,I⟩:=h;injection O with O e2 e3;subst O e3;obtain⟨b,o,rfl,v,Z,p0,p1,p2,p3,p4⟩:=I k e hk;have J:=Z;obtain⟨G,z,rfl,-⟩:=J;exact⟨b,o,G,z,rfl,Ms w ⟨b,_,none⟩ p0,Z,p0,p1,p2,p3,p4⟩
section
variable {vs : List (List Evt)} {own : Int} {ev e : Evt} {l : List Ex} {vr fl kd : Int} {vl : Vl} {evs : List Evt}
theorem Jr:kZ vs own ev (.mk 0 l vr fl kd vl)=(vl,0):=rfl
theorem Jf:kZ vs own ev (.mk 3 l vr fl kd vl)=(jt (du vs vr).length,0):=rfl
theorem JX:kZ vs own ev (.mk 4 l vr fl kd vl)=qv (du vs vr) (.mk 4 l vr fl kd vl):=rfl
theorem uZ:kZ vs own ev (.mk 1 l vr fl kd vl)=Eh (.mk 1 l vr fl kd vl) (yl (du vs vr) (decide (vr=own)) ev):=rfl
theorem vG:kZ vs own ev (.mk 2 l vr fl kd vl)=Eh (.mk 2 l vr fl kd vl) (yl (du vs vr) (decide (vr=own)) ev):=rfl
theorem Fo:Eh (.mk 1 l vr fl kd vl) (some e)=if (cS e.vals fl).2≠0 then (ah,6) else if dN (cS e.vals fl).1≠0 then (ah,dN (cS e.vals fl).1) else ((cS e.vals fl).1,0):=rfl
theorem E0:Eh (.mk 2 l vr fl kd vl) (some e)=(jt e.tm,0):=rfl
theorem Fd {x:Ex}:Eh x none=(ah,10):=rfl
theorem Bv:yl evs true ev=some ev:=rfl
theorem oR:yl evs false ev=evs.getLast?:=rfl
end
theorem uaS {p:Prop} (h:p:=by
  by_cases hz:fe=0
  case neg =>
   rw[Mp hz]at h;have h6:fe=6:=by
    have h:=m'.out;unfold cS at h
    split at h
    ·injection h with _ h;exact h.symm
    ·injection h with _ h;exact absurd h.symm hz
   subst h6;injection h with G I;subst G I;clear hz;go_wp2;exact Mv (v:=.tuple #[.agg #[Mk 0,Mk 0,.string ⟨#[]⟩],Mk 6]) (by simp[results,results182,go_sem,ap,z0,z1,z2,p']) rfl ⟨rfl,bt (di (ab J.out a'.out) om _ _ _) _⟩
  subst hz;rw[Mo jS]at h;obtain⟨ce,r'⟩:∃c,dN fv=c:=⟨_,rfl⟩;have h':=jD (fun W=>gz fv W);simp only[r']at h' h;unfold vlV at h';have HH:=jD h;clear h r';go_wp2_with fail;refine (h'.out _).mono ?_;rintro e w3 ⟨rfl,i'⟩;have Z:=(bE i').1;have y0:w3.cell? ⟨w2.heap.size,0,none⟩=some (Mk fv.kind):=by rw[Z];rfl
  have y1:w3.cell? ⟨w2.heap.size,1,none⟩=some (Mk fv.num):=by rw[Z];rfl
  have y2:w3.cell? ⟨w2.heap.size,2,none⟩=some (.string fv.text):=by rw[Z];rfl
  have d':Hid (Mm w1 w3):=jD (ab a'.out (ab (af w2 _) i'));have I':=d'.out.size;have F':X+1<w3.heap.size:=by omega
  clear Z i' z0 z1 z2 f0 f1 f2 a0 b0 c0;obtain⟨a0,b0,c0,z0,z1,z2,f0,f1,f2⟩:=(HB.out.stays d'.out).facts;have h:=HH.out
  by_cases hc:ce=0
  case neg =>
   rw[Mp hc]at h;injection h with G I;subst G I;have O':(ce != 0)=true:=jQ hc;go_wp2;exact Mv (v:=.tuple #[.agg #[Mk 0,Mk 0,.string ⟨#[]⟩],Mk ce]) (by simp[results,results182,go_sem,ap,z0,z1,z2]) rfl ⟨rfl,di (ab J.out d'.out) om _ _ _⟩
  subst hc;rw[Mo jS]at h;injection h with G I;subst G I;go_wp2;exact Mv (v:=.tuple #[.agg #[Mk fv.kind,Mk fv.num,.string fv.text],Mk 0]) (by simp[results,results182,go_sem,ap,z0,z1,z2]) rfl ⟨rfl,di (ab J.out d'.out) om _ _ _⟩):p:=h
theorem uaT {p:Prop} (h:p:=by
  subst G I;clear hz z;obtain⟨a0,b0,c0,z0,z1,z2,f0,f1,f2⟩:=HB.out.facts;go_wp2;exact Mv (v:=.tuple #[.agg #[Mk 0,Mk 0,.string ⟨#[]⟩],Mk 10]) (by simp[results,results182,go_sem,ap,z0,z1,z2,t']) rfl ⟨rfl,bt (di J.out om _ _ _) _⟩):p:=h
theorem Gv (vs:List (List Evt)) (v:Value) (own:Int) (ev:Evt) (u:Value) (m:Nat) (x:Ex) (Ax:Option Addr) (nx cx:Nat) (w:World) (hv:fW w v vs) (hu:aV w u ev.vals)
  (X':0<=x.op/\x.op<=4) (hf:x.op=1\/x.op=4->0<=x.fl) (E':(du vs x.vr).length<=1048576) :
  Calls prog 182 #[oJ v own ev u m,exV x (.slice Ax nx cx)] w fun e w' =>
   e=.returned (.tuple #[vlV (kZ vs own ev x).1,Mk (kZ vs own ev x).2])/\Mm w w':=by
 have HV:=jD hv;have HU:=jD hu;obtain⟨A,c,rfl,-⟩:=hv;obtain⟨Au,cu,rfl,-⟩:=hu;have C':=jD (fun W (hW:Mm w W)=>tk vs _ own ev Au ev.vals.length cu m x.vr W (HV.out.stays dT hW));have l':=jD (fun W (hW:Mm w W) (hf:0<=x.fl)=>CZ vs _ own ev Au ev.vals.length cu m x Ax nx cx W (HV.out.stays dT hW) hf E');obtain⟨evs,k'⟩:∃e,du vs x.vr=e:=⟨_,rfl⟩;rw[k']at C' l';obtain⟨⟨RV,re⟩,hR⟩:∃r,kZ vs own ev x=r:=⟨_,rfl⟩;rw[hR];have HR:=jD hR;have f':=jD k';clear k' hR E';obtain⟨op,l,vr,fl,kd,vl⟩:=x;unfold oJ exV at *;simp only[Ex.op,Ex.vr,Ex.fl,Ex.kd,Ex.val]at *;unfold vlV at *;go_enter func182,ntmps182;go_wp2_with fail;refine aI fun W9 e9=>?_
 have hE:W9.heap[w.heap.size]?=some (.cells [.slice A vs.length c,.int .i64 own,.int .i64 ev.src,.int .i64 ev.sq,.int .i64 ev.ty,.int .i64 ev.tm,.slice Au ev.vals.length cu,.map (some m)].toArray 201 (0,0)):=by
  rw[e9];repeat (first|exact ax _ _ _ jS|apply bB)
 have hX:W9.heap[w.heap.size+1]?=some (.cells [.int .i64 op,.slice Ax nx cx,.int .i64 vr,.int .i64 fl,.int .i64 kd,.int .i64 vl.kind,.int .i64 vl.num,.string vl.text].toArray 29 (0,0)):=by
  rw[e9];repeat (first|exact ax _ _ _ jS|apply bB)
 have hB:VBox W9 (w.heap.size+1+1):=⟨Mk 0,Mk 0,.string ⟨#[]⟩,by rw[e9];repeat (first|exact ax _ _ _ jS|apply bB)⟩;have x':Mm w W9:=gb e9;clear e9;refine (C'.out _ x').mono ?_;rintro e w1 ⟨A1,c1,rfl,hl,s'⟩;obtain⟨q0,q1,q2,q3,q4,q5,q6,q7⟩:=xm (am s' hX);obtain⟨r0,r1,r2,r3,r4,r5,r6,r7⟩:=xm (am s' hE);have HB:=jD (hB.stays s');have J:=jD (ab x' s');have HL:=jD hl;have T':(evs.length:Int)<=9223372036854775807:=by obtain⟨A',c',e,h1,h2,h3⟩:=hl;exact ay h1 h2
 have N':=HB.out.lt;obtain⟨X,G'⟩:=jF (w.heap.size+1);obtain⟨E,D'⟩:=jF w.heap.size;have t':X+1<w1.heap.size:=by omega
 have V':X<w1.heap.size:=by omega
 have U':E<w1.heap.size:=by omega
 have Y':w.heap.size<=X:=by omega
 rw[<-G']at q0 q1 q2 q3 q4 q5 q6 q7 HB ⊢;rw[<-D']at r0 r1 r2 r3 r4 r5 r6 r7 ⊢;have R':=jD (HU.out.stays aD J.out);clear hX hE hB x' s' hl N' G' D' C';have B':op=0\/op=3\/op=4\/op=1\/op=2:=by omega
 rcases B' with rfl|rfl|rfl|rfl|rfl
 ·obtain⟨G,I⟩:vl=RV/\0=re:=by have h:=HR.out;rw[Jr]at h;injection h with G I;exact⟨G,I⟩
  subst G I;obtain⟨a0,b0,c0,z0,z1,z2,f0,f1,f2⟩:=HB.out.facts;go_wp2;exact Mv (v:=.tuple #[.agg #[Mk vl.kind,Mk vl.num,.string vl.text],Mk 0]) (by simp[results,results182,go_sem,ap,z0,z1,z2]) rfl ⟨rfl,di J.out om _ _ _⟩
 ·obtain⟨G,I⟩:jt evs.length=RV/\0=re:=by have h:=HR.out;rw[Jf,f'.out]at h;injection h with G I;exact⟨G,I⟩
  subst G I;obtain⟨a0,b0,c0,z0,z1,z2,f0,f1,f2⟩:=HB.out.facts;go_wp2;exact Mv (v:=.tuple #[.agg #[Mk 0,Mk evs.length,.string ⟨#[]⟩],Mk 0]) (by simp[results,results182,go_sem,ap,z0,z1,z2]) rfl ⟨rfl,di J.out om _ _ _⟩
 ·have h4:=HR.out;rw[JX,f'.out]at h4;rw[h4]at l';clear h4;go_wp2_with fail;refine (l'.out _ J.out (hf jS)).mono ?_;rintro e w2 ⟨rfl,g'⟩;obtain⟨a0,b0,c0,z0,z1,z2,f0,f1,f2⟩:=(HB.out.stays g').facts;go_wp2;exact Mv (v:=.tuple #[.agg #[Mk RV.kind,Mk RV.num,.string RV.text],Mk re]) (by simp[results,results182,go_sem,ap,z0,z1,z2]) rfl ⟨rfl,di (ab J.out g') om _ _ _⟩
 ·clear l'
  by_cases z:vr=own
  ·have u':(vr != own)=false:=jQ z;obtain⟨⟨fv,fe⟩,j'⟩:∃r,cS ev.vals fl=r:=⟨_,rfl⟩;have HF:=jD (fun W (hW:Mm w1 W)=>nD ev _ fl W (R'.out.stays aD hW) (hf jS));rw[j']at HF;unfold cP vlV at HF;have m':=jD j';clear j';go_wp2_with fail;refine (HF.out _ ?_).mono ?_
   ·exact jB
   rintro e w2 ⟨rfl,g'⟩;have a':Hid (Mm w1 w2):=jD (ab (by exact jB) g');clear g';have J':=a'.out.size;have p':X+1<w2.heap.size:=by omega
   obtain⟨a0,b0,c0,z0,z1,z2,f0,f1,f2⟩:=(HB.out.stays a'.out).facts;have h:=HR.out;rw[uZ,f'.out,Nm z,Bv,Fo,m'.out]at h
   exact uaS
  have u':(vr != own)=true:=jQ z
  by_cases hz:evs.length=0
  ·have y':((evs.length:Int)==0)=true:=by simp[hz]
   obtain⟨G,I⟩:ah=RV/\10=re:=by have h:=HR.out;rw[uZ,f'.out,Nb z,oR,M8 hz,List.getLast?_nil,Fd]at h;injection h with G I;exact⟨G,I⟩
   exact uaT
  have y':((evs.length:Int)==0)=false:=by simp[hz]
  have hw:wrap64 ((evs.length:Int)-1)=((evs.length-1:Nat):Int):=by unfold wrap64;omega
  have S':((evs.length-1:Nat):Int)<(evs.length:Int):=by omega
  have hg:evs[evs.length-1]?=some (evs[evs.length-1]'om):=Mq _;have O:evs.getLast?=some (evs[evs.length-1]'om):=by rw[PF];exact hg
  obtain⟨la,n'⟩:∃a,a=evs[evs.length-1]'om:=⟨_,rfl⟩;rw[<-n']at hg O;obtain⟨b,o,A',c',rfl,P',q',p0,p1,p2,p3,p4⟩:=xP HL.out hg;have H':=jD q';have z':=jD O;clear n' hz q' hg O;obtain⟨⟨fv,fe⟩,j'⟩:∃r,cS la.vals fl=r:=⟨_,rfl⟩;have HF:=jD (fun W (hW:Mm w1 W)=>nD la _ fl W (H'.out.stays aD hW) (hf jS));rw[j']at HF;unfold cP vlV at HF;have m':=jD j';clear j';go_wp2_with fail;refine (HF.out _ ?_).mono ?_
  ·exact jB
  rintro e w2 ⟨rfl,g'⟩;have a':Hid (Mm w1 w2):=jD (ab (by exact jB) g');clear g';have J':=a'.out.size;have p':X+1<w2.heap.size:=by omega
  obtain⟨a0,b0,c0,z0,z1,z2,f0,f1,f2⟩:=(HB.out.stays a'.out).facts;have h:=HR.out;rw[uZ,f'.out,Nb z,oR,z'.out,Fo,m'.out]at h
  exact uaS
 ·clear l'
  by_cases z:vr=own
  ·have u':(vr != own)=false:=jQ z;obtain⟨G,I⟩:jt ev.tm=RV/\0=re:=by have h:=HR.out;rw[vG,f'.out,Nm z,Bv,E0]at h;injection h with G I;exact⟨G,I⟩
   subst G I;clear z;obtain⟨a0,b0,c0,z0,z1,z2,f0,f1,f2⟩:=HB.out.facts;go_wp2;exact Mv (v:=.tuple #[.agg #[Mk 0,Mk ev.tm,.string ⟨#[]⟩],Mk 0]) (by simp[results,results182,go_sem,ap,z0,z1,z2,t']) rfl ⟨rfl,bt (di J.out om _ _ _) _⟩
  have u':(vr != own)=true:=jQ z
  by_cases hz:evs.length=0
  ·have y':((evs.length:Int)==0)=true:=by simp[hz]
   obtain⟨G,I⟩:ah=RV/\10=re:=by have h:=HR.out;rw[vG,f'.out,Nb z,oR,M8 hz,List.getLast?_nil,Fd]at h;injection h with G I;exact⟨G,I⟩
   exact uaT
  have y':((evs.length:Int)==0)=false:=by simp[hz]
  have hw:wrap64 ((evs.length:Int)-1)=((evs.length-1:Nat):Int):=by unfold wrap64;omega
  have S':((evs.length-1:Nat):Int)<(evs.length:Int):=by omega
  have hg:evs[evs.length-1]?=some (evs[evs.length-1]'om):=Mq _;have O:evs.getLast?=some (evs[evs.length-1]'om):=by rw[PF];exact hg
  obtain⟨la,n'⟩:∃a,a=evs[evs.length-1]'om:=⟨_,rfl⟩;rw[<-n']at hg O;obtain⟨b,o,A',c',rfl,P',q',p0,p1,p2,p3,p4⟩:=xP HL.out hg;have H':=jD q';have z':=jD O;clear n' hz q' hg O;obtain⟨G,I⟩:jt la.tm=RV/\0=re:=by have h:=HR.out;rw[vG,f'.out,Nb z,oR,z'.out,E0]at h;injection h with G I;exact⟨G,I⟩
  subst G I;obtain⟨a0,b0,c0,z0,z1,z2,f0,f1,f2⟩:=HB.out.facts;go_wp2;exact Mv (v:=.tuple #[.agg #[Mk 0,Mk la.tm,.string ⟨#[]⟩],Mk 0]) (by simp[results,results182,go_sem,ap,z0,z1,z2,t']) rfl ⟨rfl,bt (di J.out om _ _ _) _⟩
end
theorem wX {p:Int->Bool} {l:List Int} {k:Nat} {a:Int} (h:l[k]?=some a):(l.drop k).all p=(p a&&(l.drop (k+1)).all p):=by
 obtain⟨z,rfl⟩:=List.getElem?_eq_some_iff.1 h;rw[Nd z,List.all_cons]
theorem F9 {op z x:Int} {b:Bool} (J:5<=op/\op<=8->decide (x=0)=b) (G:10<=op/\op<=12->decide (x=1)=b) (O:op=9->decide (x=z)=b) (I:op<5\/12<op->b=true):okK op z x=b:=by
 unfold okK
 split
 ·next h=>exact J h
 ·split
  ·next h=>exact G h
  ·split
   ·next h=>exact O h
   ·exact (I om).symm
theorem ug (op:Int) (ks:List Int) (v:Value) (w:World) (hk:ju w v ks) :
  Mn 183 #[Mk op,v] w (Mk (opE op ks)):=by
 obtain⟨A,c,rfl,h1,h2,J⟩:=hk;have c':=ay h1 h2;have HL:=jD J;obtain⟨R,hR⟩:=jE (opE op ks);obtain⟨O,G⟩:=jE (ks.headD 0);have HR:Hid ((if ks.all (okK op O) then (0:Int) else 9)=R):=jD (by rw[<-hR,<-G];rfl);have HK:=jD G;rw[hR];clear hR G J h1 h2;go_enter func183,ntmps183;go_wp2_with fail
 go_loopw [10] (fun i wr=>∃k:Nat,k<=ks.length/\i=Mk k/\Hid ((if (ks.drop k).all (okK op O) then (0:Int) else 9)=R)/\wr=w) (fun i _=>ks.length-(intOf i).toNat)
 case atStart=>exact⟨0,Mu _,rfl,jD HR.out,rfl⟩
 case round =>
  obtain⟨k,hk,rfl,hI,rfl⟩:=hrel
  by_cases I:k<ks.length
  ·have a':(k:Int)<(ks.length:Int):=by omega
   obtain⟨b,o,rfl,z⟩:=HL.out k ks[k] (Mq I);have Z:=jD (Mq I);obtain⟨a,ha⟩:=jF (ks[k]);rw[<-ha]at Z z;clear ha;have d':wr.cell? ⟨b,o,none⟩=some (Mk O):=by
    obtain⟨b',o',e,h0⟩:=HL.out 0 (ks[0]'om) (Mq om);injection e with e;injection e with e1 e2;subst e1 e2;have h:ks.headD 0=ks[0]'om:=by rw[List.headD_eq_head?_getD,List.head?_eq_getElem?,Mq om];rfl
    rw[HK.out]at h;rw[h]
    simpa [AN] using h0
   unfold AN at z;rw[NF]at z;go_wp2_with fail
   all_goals simp only[MO,Nl,M4,NG,ne_eq]at *
   all_goals first
    | (exfalso;omega)
    | ((go_ret);(have hp:okK op O a=false:=F9 (fun h=>by first|(exfalso;omega)|(simp;omega)) (fun h=>by first|(exfalso;omega)|(simp;omega)) (fun h=>by first|(exfalso;omega)|(simp;omega)) (fun h=>by exfalso;omega));(have h:=hI.out);(rw[wX Z.out,hp]at h);exact⟨by rw[<-h];rfl,Mr _ _⟩)
    | ((refine⟨⟨k+1,by omega,by go_num,jD ?_,trivial⟩,by simp[intOf];omega⟩);(have hp:okK op O a=true:=F9 (fun h=>by first|(exfalso;omega)|(simp;omega)) (fun h=>by first|(exfalso;omega)|(simp;omega)) (fun h=>by first|(exfalso;omega)|(simp;omega)) (fun h=>rfl));(have h:=hI.out);(rw[wX Z.out,hp,NW]at h);exact h)
  ·have a':¬(k:Int)<(ks.length:Int):=by omega
   obtain rfl:(0:Int)=R:=by
    have h:=hI.out;rw[No om]at h;exact h
   go_wp2;go_ret;exact⟨rfl,Mr _ _⟩
end Go.Proofs.YtbjicljfjkdeeaaGreatDoor
