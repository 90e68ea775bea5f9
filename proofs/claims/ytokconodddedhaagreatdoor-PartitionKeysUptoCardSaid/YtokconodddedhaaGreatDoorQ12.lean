/- Part. -/
import Derived.Test.YtokconodddedhaaGreatDoorQ09
import Derived.WideMake
import Derived.Test.YtokconodddedhaaGreatDoorQ11
set_option maxRecDepth 100000
set_option maxHeartbeats 16000000
set_option linter.unusedVariables false
set_option linter.unusedSimpArgs false
namespace Go.Proofs.YtokconodddedhaaGreatDoor
open Go.Proofs.Tryz Go.RowKit
def resR (k i:Int) (a:Ac) (o:Vl):Vl × Int :=
 if yx k o≠0 then (au,yx k o) else if k=0 then (⟨0,i,⟨#[]⟩⟩,0) else if i=0/\k≠1 then (o,0) else (a.val,0)
theorem Dc {w:World} {g:Nat} {t:TypeId} {I J G:Value} (h:w.heap[g]?=some (.cells [I,J,G].toArray t (0,0))) (z F D:Value) :
  (((w.setCell ⟨g,0,none⟩ z).setCell ⟨g,1,none⟩ F).setCell ⟨g,2,none⟩ D).heap[g]?=some (.cells [z,F,D].toArray t (0,0)) :=
 fx (fx (fx h 0 z) 1 F) 2 D
theorem ao {w w':World} {m:Nat} {o:Obj} (z:KY w w') (h:w.heap[m]?=some o):w'.heap[m]?=some o:=(z.block m (Array.getElem?_eq_some_iff.1 h).1).trans h
theorem aE {W:World} {k:Nat} {o x:Obj} (h:W.heap[k]?=some x):(W.alloc o).heap[k]?=some x:=ao (ag W o) h
def VBox (W:World) (B:Nat):Prop:=∃a b c,W.heap[B]?=some (.cells [a,b,c].toArray 27 (0,0))
theorem VBox.stays {w w':World} {B:Nat} (h:VBox w B) (z:KY w w'):VBox w' B:=by
 obtain⟨a,b,c,h⟩:=h;exact⟨a,b,c,ao z h⟩
theorem VBox.lt {w:World} {B:Nat} (h:VBox w B):B<w.heap.size:=by
 obtain⟨a,b,c,h⟩:=h;exact aD h
theorem VBox.facts {W:World} {B:Nat} (h:VBox W B):∃a b c,W.cell? ⟨B,0,none⟩=some a/\W.cell? ⟨B,1,none⟩=some b/\W.cell? ⟨B,2,none⟩=some c/\W.frozen? ⟨B,0,none⟩=false/\W.frozen? ⟨B,1,none⟩=false/\W.frozen? ⟨B,2,none⟩=false:=by
 obtain⟨a,b,c,h⟩:=h;exact⟨a,b,c,af h 0,af h 1,af h 2,aq h 0,aq h 1,aq h 2⟩
theorem ba (w:World) (b i:Nat) (v:Value):(w.setCell ⟨b,i,none⟩ v).cell? ⟨b,i,none⟩=(w.cell? ⟨b,i,none⟩).map fun _=>v:=by
 unfold World.setCell World.cell?;simp only[Nx,Mo]
 cases h:w.heap[b]? with
 | none=>rfl
 | some o =>
  cases o<;>simp[Array.getElem?_setIfInBounds]
  all_goals (try split)<;>simp_all
theorem ic {w W:World} (h:KY w W) {b:Nat} (D:w.heap.size<=b) (x y z:Value):KY w (((W.setCell ⟨b,0,none⟩ x).setCell ⟨b,1,none⟩ y).setCell ⟨b,2,none⟩ z):=aA (aA (aA h D _) D _) D _
theorem wR {w w':World} {a b c:Value} (h:Below (w.alloc (.cells [a,b,c].toArray 27 (0,0))).heap.size (w.alloc (.cells [a,b,c].toArray 27 (0,0))) w'):VBox w' w.heap.size:=⟨a,b,c,ao h (ap _ _ _ rfl)⟩
theorem B9 (b:Bool) (w:World):KZ 180 #[.bool b] w (vlV (eE b)):=by
 unfold vlV eE
 cases b
 all_goals
  go_enter func180,ntmps180;go_wp2
  go_returns
  exact⟨rfl,jB⟩
theorem Em (b:Bool) (w:World):KZ 110 #[.bool b] w (vlV (eE b)):=by
 obtain⟨x,D⟩:=jE (eE b);have z:=jD (fun W=>B9 b W);rw[D]at z ⊢;clear D;unfold vlV at *;go_enter func110,ntmps110;go_wp2_with fail;refine (z.out _).mono ?_;rintro e w1 ⟨rfl,h⟩;obtain⟨J,Z,O,I,F,G,f0,f1,f2⟩:=(wR h).facts;go_wp2;exact Lc (v:=vlV x) (by simp[results,results110,go_sem,ba,I,F,G,vlV]) rfl ⟨rfl,ic (ab (ag w _) h) (Ld _) _ _ _⟩
theorem Dp (b:Bool) (w:World):KZ 72 #[.bool b] w (vlV (eE b)):=by
 unfold vlV eE
 cases b
 all_goals
  go_enter func72,ntmps72;go_wp2
  go_returns
  exact⟨rfl,jB⟩
theorem opsT:prog.underlying 127=some (.map 3 178):=kr
theorem ig (w:World) {ops:Array Oper} {rest:List Oper} {o:Oper} {a:Act} {Q:Exit->Act->World->Prop}
  (G:o.guard=none) (m x v:Operand) (D:o.op=Op.insert 127 m x v) (b:Nat) (k:Int) (u:Value) (es:Array MapEntry) (clock:Nat)
  (hm:a.eval m=.map (some b)) (hx:a.eval x=KW k) (hv:a.eval v=u) (I:w.heap[b]?=some (.map es clock)) (hf:Instr.findNow (.int .i64) (KW k) es.toList 0=some none)
  (Z:∀w',w'.heap[b]?=some (.map (es.push { key:=KW k,val:=u,born:=clock }) (clock+1))->w.grownBy w' (some b)->wpList prog ops Q rest (a.put o.dst undef) w'):wpList prog ops Q (o::rest) a w:=by
 refine wpList_plain G fun K' z=>?_
 have O:(Instr.checkKey false 10000 3 (KW k)).run prog w=.ok () w:=MapKept.run_checkKey (k:=KW k) underlying3 (by simp[MapKept.IsKey]) false 9999;have h:(Instr.mapUpdate 127 (.map (some b)) (KW k) u).run prog w=.ok () { w with heap:=w.heap.setIfInBounds b (.map (es.push { key:=KW k,val:=u,born:=clock }) (clock+1)) }:=by
  simp[Instr.mapUpdate,Ny opsT,MapKept.run_getObj_map I,O,MapKept.run_findKey underlying3 hf,MapKept.run_setObj_map _ I,Result.andThen]
 unfold Oper.wp;simp[execOp,D,hm,hx,hv,h,Result.andThen];have J:=MapKept.heap_set (o':=.map (es.push { key:=KW k,val:=u,born:=clock }) (clock+1)) I;exact z _ _ (Z _ J.1 ⟨rfl,rfl,rfl,by simp,fun i hi F=>J.2 i (fun e=>F (by rw[e]))⟩)
def opEs (g:Nat):Array MapEntry:=#[⟨KW 5,.func (.func 107) #[] #[.pointer (some ⟨g,0,none⟩)],0⟩,⟨KW 6,.func (.func 108) #[] #[.pointer (some ⟨g,0,none⟩)],1⟩,
 ⟨KW 7,.func (.func 109) #[] #[],2⟩,⟨KW 8,.func (.func 111) #[] #[],3⟩,⟨KW 10,.func (.func 112) #[] #[],4⟩,
 ⟨KW 11,.func (.func 113) #[] #[],5⟩,⟨KW 12,.func (.func 114) #[] #[],6⟩]
def OpsAt (w:World) (m:Nat):Prop:=∃g,w.heap[m]?=some (.map (opEs g) 7)/\w.cell? ⟨g,0,none⟩=some (.func (.func 106) #[] #[])
theorem OpsAt.stays {w w':World} {m:Nat} (h:OpsAt w m) (z:KY w w'):OpsAt w' m:=by
 obtain⟨g,D,F⟩:=h;exact⟨g,ao z D,aa z F⟩
theorem B1 (n:Int) (w:World):KZ 106 #[KW n] w (vlV (uT n)):=by
 unfold vlV uT;go_enter func106,ntmps106;go_wp2
 go_returns
 exact⟨rfl,jB⟩
theorem I0 (a b:Int) (g:Nat) (w:World) (G:w.cell? ⟨g,0,none⟩=some (.func (.func 106) #[] #[])) :
  Calls prog 108 #[KW a,KW b,.pointer (some ⟨g,0,none⟩)] w fun e w'=>e=.returned (vlV (uT (IntKind.i64.wrap (a-b))))/\KY w w':=by
 obtain⟨n,F⟩:=jE (IntKind.i64.wrap (a-b));have D:=jD (fun W=>B1 n W);rw[F];obtain⟨x,z⟩:=jE (uT n);rw[z]at D ⊢;clear z;have I:g<w.heap.size:=K8 w ⟨g,_,none⟩ G;have O:g≠w.heap.size:=by omega
 unfold vlV at *;go_enter func108,ntmps108;go_wp2_with fail;refine (D.out _).mono ?_;rintro e w1 ⟨rfl,h⟩;obtain⟨a0,b0,c0,z0,J,Z,f0,f1,f2⟩:=(wR h).facts;go_wp2;exact Lc (v:=vlV x) (by simp[results,results108,go_sem,ba,z0,J,Z,vlV]) rfl ⟨rfl,ic (ab (ag w _) h) (Ld _) _ _ _⟩
theorem pI (w:World):Calls prog 57 #[] w fun e w'=>∃m,e=.returned (.map (some m))/\OpsAt w' m/\KY w w':=by
 have O:=@run_makeMap_plain prog;have Z:∀(W:World) (a:Addr),(store a (.func (.func 106) #[] #[])).run prog W=stored prog W a (.func (.func 106) #[] #[]) .plain:=fun W a=>run_store prog W a _ .plain rfl
 go_enter func57,ntmps57;go_wp2_with (first
  | ((refine ig _ rfl _ _ _ rfl (w.heap.size+1) 5 _ #[] 0 rfl rfl rfl (ap _ _ _ jS) rfl ?_);(intro w1 h J);(have F:=am J (B:=w.heap.size+1) jS (fun g z=>by injection z with z;omega));have G:w.heap.size+1<w1.heap.size:=(Array.getElem?_eq_some_iff.1 h).1)
  | ((refine ig _ rfl _ _ _ rfl (w.heap.size+1) _ _ _ _ rfl rfl rfl h rfl ?_);(clear h);(intro w2 h I);(have D:=F.trans (am I (B:=w.heap.size+1) om (fun g z=>by injection z with z;omega)));(clear F);(have F:=D);(clear D I G);have G:w.heap.size+1<w2.heap.size:=(Array.getElem?_eq_some_iff.1 h).1))
 go_ret;refine⟨w.heap.size+1,rfl,⟨w.heap.size,h,?_⟩,?_⟩
 ·refine (Ln (F.block w.heap.size om)).trans ?_;simp
 ·refine (Below.trans ?_ (F.mono om));exact jB
def foldA (k:Int) (l:List Vl):Ac:=l.foldl (stepA k) ⟨k,0,au⟩
def GH (k:Int) (l:List Vl):Int:=dB (fun _ v=>yx k v) none l
def ofR (k:Int) (l:List Vl) (o:Vl):Vl × Int :=
 if KQ k=false then (au,1) else if 4096<l.length then (au,5) else if GH k l≠0 then (au,GH k l) else resR k l.length (foldA k l) o
def eG (vs:List (List Evt)) (v:Int):List Evt:=if v<0\/(vs.length:Int)<=v then [] else vs.getD v.toNat []
def dW (h:List Vl) (k:Int):Vl × Int:=if (h.length:Int)<=k then (au,6) else (h.getD k.toNat au,0)
def pt (k:Int):List Evt->List Vl × Int
 | []=>([],0)
 | e::r=>if (dW e.vals k).2≠0 then ([],6) else ((dW e.vals k).1::(pt k r).1,(pt k r).2)
def KL (l:List Evt) (x:Ex):Vl × Int:=if (pt x.fl l).2≠0 then (au,6) else ofR x.kd (pt x.fl l).1 x.val
def AL (l:List Evt) (b:Bool) (ev:Evt):Option Evt:=if b=true then some ev else l.getLast?
def Je (x:Ex):Option Evt->Vl × Int
 | none=>(au,10)
 | some e=>if x.op=2 then (uT e.tm,0) else if (dW e.vals x.fl).2≠0 then (au,6) else if eu (dW e.vals x.fl).1≠0 then (au,eu (dW e.vals x.fl).1) else ((dW e.vals x.fl).1,0)
def rm (vs:List (List Evt)) (own:Int) (ev:Evt) (x:Ex):Vl × Int :=
 if x.op=0 then (x.val,0) else if x.op=3 then (uT (eG vs x.vr).length,0) else if x.op=4 then KL (eG vs x.vr) x
 else Je x (AL (eG vs x.vr) (decide (x.vr=own)) ev)
def okK (op h k:Int):Bool:=if 5<=op/\op<=8 then decide (k=0) else if 10<=op/\op<=12 then decide (k=1) else if op=9 then decide (k=h) else true
def opE (op:Int) (ks:List Int):Int:=if ks.all (okK op (ks.headD 0)) then 0 else 9
def zX (op:Int) (a b:Vl):Vl :=
 if op=5 then uT (IntKind.i64.wrap (a.num+b.num)) else if op=6 then uT (IntKind.i64.wrap (a.num-b.num))
 else if op=7 then eE (decide (a.num<b.num)) else if op=8 then eE (decide (a.num<=b.num))
 else if op=9 then eE (cC a b) else if op=10 then eE (decide (a.num=1)&&decide (b.num=1))
 else if op=11 then eE (decide (a.num=1) || decide (b.num=1)) else eE (!decide (a.num=1))
def BI (op:Int) (r:List Vl × Int):Vl × Int :=
 if r.2≠0 then (au,r.2) else if opE op (r.1.map (·.kind))≠0 then (au,opE op (r.1.map (·.kind)))
 else (zX op (r.1.headD au) (r.1.getLastD au),0)
mutual
def fD (vs:List (List Evt)) (own:Int) (ev:Evt):Ex->Vl × Int
 | .mk o l a b c v=>if l.length=0 then rm vs own ev (.mk o l a b c v) else BI o (jf vs own ev l)
def jf (vs:List (List Evt)) (own:Int) (ev:Evt):List Ex->List Vl × Int
 | []=>([],0)
 | a::r=>if (fD vs own ev a).2≠0 then ([],(fD vs own ev a).2) else ((fD vs own ev a).1::(jf vs own ev r).1,(jf vs own ev r).2)
end
theorem Az {vs:List (List Evt)} {own:Int} {ev:Evt} {l:List Ex} {k:Nat} {a:Ex} (h:l[k]?=some a) :
  jf vs own ev (l.drop k)=if (fD vs own ev a).2≠0 then ([],(fD vs own ev a).2) else ((fD vs own ev a).1::(jf vs own ev (l.drop (k+1))).1,(jf vs own ev (l.drop (k+1))).2):=by
 obtain⟨z,rfl⟩:=List.getElem?_eq_some_iff.1 h;rw[Lr z,jf]
theorem CQ {l:List Vl} {k:Int} (h0:0<=k) (h:k<(l.length:Int)):dW l k=(l.getD k.toNat au,0):=K6 om
theorem DY {l:List Vl} {k:Int} (h:(l.length:Int)<=k):dW l k=(au,6):=K7 h
theorem Dh {x:Ex} (h:bO x=0):bh x=0/\∀(k:Nat) (a:Ex),x.args[k]?=some a->bO a=0:=by
 rw[iF]at h;have D:bh x=0:=by
  refine Classical.byContradiction fun z=>?_
  rw[K7 z]at h;exact z h
 rw[K6 (jQ D)]at h;refine⟨D,?_⟩;generalize x.args=l at h;clear D
 induction l with
 | nil=>intro k a hk;simp at hk
 | cons y r G =>
  rw[dL]at h;have F:bO y=0:=by
   refine Classical.byContradiction fun z=>?_
   rw[K7 z]at h;exact z h
  rw[K6 (jQ F)]at h;intro k a hk
  cases k with
  | zero=>simp at hk;subst hk;exact F
  | succ k=>exact G h k a (jQ hk)
def rS (v:Value) (own:Int) (ev:Evt) (u:Value) (m:Nat):Value:=.agg #[v,KW own,KW ev.src,KW ev.sq,KW ev.ty,KW ev.tm,u,.map (some m)]
theorem AB {W:World} {g t:Nat} {I Z J O G D z F:Value} (h:W.heap[g]?=some (.cells [I,Z,J,O,G,D,z,F].toArray t (0,0))) :
  W.cell? ⟨g,0,none⟩=some I/\W.cell? ⟨g,1,none⟩=some Z/\W.cell? ⟨g,2,none⟩=some J/\W.cell? ⟨g,3,none⟩=some O/\W.cell? ⟨g,4,none⟩=some G/\W.cell? ⟨g,5,none⟩=some D/\W.cell? ⟨g,6,none⟩=some z/\W.cell? ⟨g,7,none⟩=some F :=
 ⟨af h 0,af h 1,af h 2,af h 3,af h 4,af h 5,af h 6,af h 7⟩
theorem blk5 {W:World} {g t:Nat} {D I F G z:Value} (h:W.heap[g]?=some (.cells [D,I,F,G,z].toArray t (0,0))) :
  W.cell? ⟨g,0,none⟩=some D/\W.cell? ⟨g,1,none⟩=some I/\W.cell? ⟨g,2,none⟩=some F/\W.cell? ⟨g,3,none⟩=some G/\W.cell? ⟨g,4,none⟩=some z :=
 ⟨af h 0,af h 1,af h 2,af h 3,af h 4⟩
theorem Co (vs:List (List Evt)) (v:Value) (own:Int) (ev:Evt) (Z:Option Addr) (nu cu m:Nat) (k:Int) (w:World) (hv:gH w v vs) :
  Calls prog 181 #[rS v own ev (.slice Z nu cu) m,KW k] w fun e w'=>∃A c,e=.returned (.slice A (eG vs k).length c)/\bm w' (.slice A (eG vs k).length c) (eG vs k)/\KY w w':=by
 obtain⟨A,c,rfl,J,O,h⟩:=hv;have I:=ax J O;have HL:=jD h;clear h J O;unfold rS
 by_cases c1:k<0
 ·have e:eG vs k=[]:=K7 (.inl c1);rw[e];go_enter func181,ntmps181;go_wp2;go_ret;exact⟨none,0,rfl,Sl.nil _ _ _ _ _ (Lb _),jB⟩
 by_cases c2:(vs.length:Int)<=k
 ·have e:eG vs k=[]:=K7 (.inr c2);rw[e];go_enter func181,ntmps181;go_wp2;go_ret;exact⟨none,0,rfl,Sl.nil _ _ _ _ _ (Lb _),jB⟩
 obtain⟨n,rfl⟩:∃n:Nat,k=n:=⟨k.toNat,by omega⟩;have D:n<vs.length:=by omega
 have e:eG vs n=vs[n]:=by unfold eG;rw[K6 om];simp[ME,D]
 obtain⟨b,o,rfl,v',z,G⟩:=HL.out n vs[n] (K9 D);rw[e];have HV:=jD z;obtain⟨A',c',rfl,-⟩:=z;have a':b<w.heap.size:=K8 w ⟨b,_,none⟩ G;have F:b≠w.heap.size:=by omega
 rw[LL]at G;clear e;go_enter func181,ntmps181;go_wp2;go_ret;exact⟨A',c',rfl,HV.out.stays aK jB,jB⟩
theorem nS {w:World} {A:Option Addr} {c:Nat} {l:List Vl} (h:aV w (.slice A l.length c) l) {k:Nat} (hk:k<l.length):∃b o,A=some ⟨b,o,none⟩/\b<w.heap.size /\
  w.cell? ⟨b,o+k*3,none⟩=some (KW (l.getD k au).kind)/\w.cell? ⟨b,o+k*3+1,none⟩=some (KW (l.getD k au).num)/\w.cell? ⟨b,o+k*3+2,none⟩=some (.string (l.getD k au).text):=by
 obtain⟨O,Z,e,D,F,z⟩:=h;injection e with G e2 J;subst G J;obtain⟨b,o,rfl,h0,D,F⟩:=z k l[k] (K9 hk);have I:l.getD k au=l[k]:=by simp[ME,hk]
 rw[I];exact⟨b,o,rfl,K8 w ⟨b,_,none⟩ h0,h0,D,F⟩
theorem tu (x:Evt) (u:Value) (k:Int) (w:World) (hu:aV w u x.vals) (h0:0<=k) :
  KZ 183 #[cJ x u,KW k] w (.tuple #[vlV (dW x.vals k).1,KW (dW x.vals k).2]):=by
 have G:=jD hu;obtain⟨A,c,rfl,D,F,-⟩:=hu;have h:=ax D F;clear D F;unfold cJ
 by_cases J:(x.vals.length:Int)<=k
 ·rw[DY J];unfold vlV au;go_enter func183,ntmps183;go_wp2;exact Lc (v:=.tuple #[.agg #[KW 0,KW 0,.string ⟨#[]⟩],KW 6]) (by simp[results,results183,go_sem]) rfl ⟨rfl,jB⟩
 have c2:k<(x.vals.length:Int):=by omega
 rw[CQ h0 c2];obtain⟨n,rfl⟩:∃n:Nat,k=n:=⟨k.toNat,by omega⟩;rw[MQ];obtain⟨b,o,rfl,hb,I,O,p2⟩:=nS G.out (k:=n) om;obtain⟨y,hy⟩:=jE (x.vals.getD n au);rw[hy]at I O p2 ⊢;clear hy;have Z:b≠w.heap.size:=by omega
 have z:b≠w.heap.size+1:=by omega
 unfold vlV;go_enter func183,ntmps183;go_wp2;exact Lc (v:=.tuple #[.agg #[KW y.kind,KW y.num,.string y.text],KW 0]) (by simp[results,results183,go_sem]) rfl ⟨rfl,jB⟩
section
theorem G5 {w:World} {A:Option Addr} {c:Nat} {l:List Evt} (h:bm w (.slice A l.length c) l) {k:Nat} {e:Evt} (hk:l[k]?=some e):∃b o z D,A=some ⟨b,o,none⟩/\b<w.heap.size/\aV w (.slice z e.vals.length D) e.vals /\
  w.cell? ⟨b,o+k*5,none⟩=some (KW e.src)/\w.cell? ⟨b,o+k*5+1,none⟩=some (KW e.sq)/\w.cell? ⟨b,o+k*5+2,none⟩=some (KW e.ty)/\w.cell? ⟨b,o+k*5+3,none⟩=some (KW e.tm)/\w.cell? ⟨b,o+k*5+4,none⟩=some (.slice z e.vals.length D):=by
 obtain⟨A1,c1,F,h1,h2,G⟩:=h;injection F with F e2 e3;subst F e3;obtain⟨b,o,rfl,v,O,J,p1,Z,p3,p4⟩:=G k e hk;have I:=O;obtain⟨z,D,rfl,-⟩:=I;exact⟨b,o,z,D,rfl,K8 w ⟨b,_,none⟩ J,O,J,p1,Z,p3,p4⟩
section
variable {vs : List (List Evt)} {own : Int} {ev e : Evt} {l : List Ex} {vr fl kd : Int} {vl : Vl} {evs : List Evt}
theorem Hf:rm vs own ev (.mk 0 l vr fl kd vl)=(vl,0):=rfl
theorem uW:rm vs own ev (.mk 1 l vr fl kd vl)=Je (.mk 1 l vr fl kd vl) (AL (eG vs vr) (decide (vr=own)) ev):=rfl
theorem Gy:Je (.mk 1 l vr fl kd vl) (some e)=if (dW e.vals fl).2≠0 then (au,6) else if eu (dW e.vals fl).1≠0 then (au,eu (dW e.vals fl).1) else ((dW e.vals fl).1,0):=rfl
theorem JY {x:Ex}:Je x none=(au,10):=rfl
theorem Hi:AL evs true ev=some ev:=rfl
theorem Bk:AL evs false ev=evs.getLast?:=rfl
end
theorem ED (vs:List (List Evt)) (v:Value) (own:Int) (ev:Evt) (u:Value) (m:Nat) (x:Ex) (Ax:Option Addr) (nx cx:Nat) (w:World) (hv:gH w v vs) (hu:aV w u ev.vals)
  (H':x.op=0\/x.op=1) (hf:x.op=1\/x.op=4->0<=x.fl) (z':(eG vs x.vr).length<=1048576) :
  Calls prog 115 #[rS v own ev u m,exV x (.slice Ax nx cx)] w fun e w' =>
   e=.returned (.tuple #[vlV (rm vs own ev x).1,KW (rm vs own ev x).2])/\KY w w':=by
 have HV:=jD hv;have HU:=jD hu;obtain⟨A,c,rfl,-⟩:=hv;obtain⟨Au,cu,rfl,-⟩:=hu;have l':=jD (fun W (hW:KY w W)=>Co vs _ own ev Au ev.vals.length cu m x.vr W (HV.out.stays eT hW));obtain⟨evs,i'⟩:∃e,eG vs x.vr=e:=⟨_,rfl⟩;rw[i']at l';obtain⟨⟨RV,re⟩,hR⟩:∃r,rm vs own ev x=r:=⟨_,rfl⟩;rw[hR];have HR:=jD hR;have n':=jD i';clear i' hR z';obtain⟨op,l,vr,fl,kd,vl⟩:=x;unfold rS exV at *;simp only[Ex.op,Ex.vr,Ex.fl,Ex.kd,Ex.val]at *;unfold vlV at *;go_enter func115,ntmps115;go_wp2_with fail;refine aw fun W9 e9=>?_
 have hE:W9.heap[w.heap.size]?=some (.cells [.slice A vs.length c,.int .i64 own,.int .i64 ev.src,.int .i64 ev.sq,.int .i64 ev.ty,.int .i64 ev.tm,.slice Au ev.vals.length cu,.map (some m)].toArray 130 (0,0)):=by
  rw[e9];repeat (first|exact ap _ _ _ jS|apply aE)
 have hX:W9.heap[w.heap.size+1]?=some (.cells [.int .i64 op,.slice Ax nx cx,.int .i64 vr,.int .i64 fl,.int .i64 kd,.int .i64 vl.kind,.int .i64 vl.num,.string vl.text].toArray 29 (0,0)):=by
  rw[e9];repeat (first|exact ap _ _ _ jS|apply aE)
 have hB:VBox W9 (w.heap.size+1+1):=⟨KW 0,KW 0,.string ⟨#[]⟩,by rw[e9];repeat (first|exact ap _ _ _ jS|apply aE)⟩;have m':KY w W9:=gb e9;clear e9;refine (l'.out _ m').mono ?_;rintro e w1 ⟨A1,c1,rfl,hl,g'⟩;obtain⟨q0,q1,q2,q3,q4,q5,q6,q7⟩:=AB (ao g' hX);obtain⟨r0,r1,r2,r3,r4,r5,r6,r7⟩:=AB (ao g' hE);have HB:=jD (hB.stays g');have I:=jD (ab m' g');have HL:=jD hl;have J':(evs.length:Int)<=9223372036854775807:=by obtain⟨A',c',e,h1,h2,h3⟩:=hl;exact ax h1 h2
 have G':=HB.out.lt;obtain⟨X,r'⟩:=jF (w.heap.size+1);obtain⟨E,q'⟩:=jF w.heap.size;have F':X+1<w1.heap.size:=by omega
 have L':X<w1.heap.size:=by omega
 have M':E<w1.heap.size:=by omega
 have P':w.heap.size<=X:=by omega
 rw[<-r']at q0 q1 q2 q3 q4 q5 q6 q7 HB ⊢;rw[<-q']at r0 r1 r2 r3 r4 r5 r6 r7 ⊢;have B':=jD (HU.out.stays aC I.out);clear hX hE hB m' g' hl G' r' q' l';rcases H' with rfl|rfl
 ·obtain⟨F,O⟩:vl=RV/\0=re:=by have h:=HR.out;rw[Hf]at h;injection h with F O;exact⟨F,O⟩
  subst F O;obtain⟨a0,b0,c0,z0,z1,z2,f0,f1,f2⟩:=HB.out.facts;go_wp2;exact Lc (v:=.tuple #[.agg #[KW vl.kind,KW vl.num,.string vl.text],KW 0]) (by simp[results,results115,go_sem,ba,z0,z1,z2]) rfl ⟨rfl,ic I.out om _ _ _⟩
 ·skip
  by_cases D:vr=own
  ·have D':(vr != own)=false:=jQ D;obtain⟨⟨Z,fe⟩,e'⟩:∃r,dW ev.vals fl=r:=⟨_,rfl⟩;have HF:=jD (fun W (hW:KY w1 W)=>tu ev _ fl W (B'.out.stays aC hW) (hf jS));rw[e']at HF;unfold cJ vlV at HF;have j':=jD e';clear e';go_wp2_with fail;refine (HF.out _ ?_).mono ?_
   ·exact jB
   rintro e w2 ⟨rfl,f'⟩;have G:Hid (KY w1 w2):=jD (ab (by exact jB) f');clear f';have I':=G.out.size;have k':X+1<w2.heap.size:=by omega
   obtain⟨a0,b0,c0,z0,z1,z2,f0,f1,f2⟩:=(HB.out.stays G.out).facts;have h:=HR.out;rw[uW,n'.out,Nc D,Hi,Gy,j'.out]at h
   by_cases hz:fe=0
   case neg =>
    rw[K7 hz]at h;have h6:fe=6:=by
     have h:=j'.out;unfold dW at h
     split at h
     ·injection h with _ h;exact h.symm
     ·injection h with _ h;exact absurd h.symm hz
    subst h6;injection h with F O;subst F O;clear hz;go_wp2;exact Lc (v:=.tuple #[.agg #[KW 0,KW 0,.string ⟨#[]⟩],KW 6]) (by simp[results,results115,go_sem,ba,z0,z1,z2,k']) rfl ⟨rfl,aJ (ic (ab I.out G.out) om _ _ _) _⟩
   subst hz;rw[K6 jS]at h;obtain⟨ce,h'⟩:∃c,eu Z=c:=⟨_,rfl⟩;have a':=jD (fun W=>ja Z W);simp only[h']at a' h;unfold vlV at a';have HH:=jD h;clear h h';go_wp2_with fail;refine (a'.out _).mono ?_;rintro e w3 ⟨rfl,d'⟩;have z:=(aY d').1;have y0:w3.cell? ⟨w2.heap.size,0,none⟩=some (KW Z.kind):=by rw[z];rfl
   have y1:w3.cell? ⟨w2.heap.size,1,none⟩=some (KW Z.num):=by rw[z];rfl
   have y2:w3.cell? ⟨w2.heap.size,2,none⟩=some (.string Z.text):=by rw[z];rfl
   have J:Hid (KY w1 w3):=jD (ab G.out (ab (ag w2 _) d'));have C':=J.out.size;have s':X+1<w3.heap.size:=by omega
   clear z d' z0 z1 z2 f0 f1 f2 a0 b0 c0;obtain⟨a0,b0,c0,z0,z1,z2,f0,f1,f2⟩:=(HB.out.stays J.out).facts;have h:=HH.out
   by_cases hc:ce=0
   case neg =>
    rw[K7 hc]at h;injection h with F O;subst F O;have u':(ce != 0)=true:=jQ hc;go_wp2;exact Lc (v:=.tuple #[.agg #[KW 0,KW 0,.string ⟨#[]⟩],KW ce]) (by simp[results,results115,go_sem,ba,z0,z1,z2]) rfl ⟨rfl,ic (ab I.out J.out) om _ _ _⟩
   subst hc;rw[K6 jS]at h;injection h with F O;subst F O;go_wp2;exact Lc (v:=.tuple #[.agg #[KW Z.kind,KW Z.num,.string Z.text],KW 0]) (by simp[results,results115,go_sem,ba,z0,z1,z2]) rfl ⟨rfl,ic (ab I.out J.out) om _ _ _⟩
  have D':(vr != own)=true:=jQ D
  by_cases hz:evs.length=0
  ·have x':((evs.length:Int)==0)=true:=by simp[hz]
   obtain⟨F,O⟩:au=RV/\10=re:=by have h:=HR.out;rw[uW,n'.out,MC D,Bk,L3 hz,List.getLast?_nil,JY]at h;injection h with F O;exact⟨F,O⟩
   subst F O;clear hz D;obtain⟨a0,b0,c0,z0,z1,z2,f0,f1,f2⟩:=HB.out.facts;go_wp2;exact Lc (v:=.tuple #[.agg #[KW 0,KW 0,.string ⟨#[]⟩],KW 10]) (by simp[results,results115,go_sem,ba,z0,z1,z2,F']) rfl ⟨rfl,aJ (ic I.out om _ _ _) _⟩
  have x':((evs.length:Int)==0)=false:=by simp[hz]
  have hw:wrap64 ((evs.length:Int)-1)=((evs.length-1:Nat):Int):=by unfold wrap64;omega
  have N':((evs.length-1:Nat):Int)<(evs.length:Int):=by omega
  have hg:evs[evs.length-1]?=some (evs[evs.length-1]'om):=K9 _;have b':evs.getLast?=some (evs[evs.length-1]'om):=by rw[List.getLast?_eq_getElem?];exact hg
  obtain⟨la,t'⟩:∃a,a=evs[evs.length-1]'om:=⟨_,rfl⟩;rw[<-t']at hg b';obtain⟨b,o,A',c',rfl,O',p',p0,p1,p2,p3,p4⟩:=G5 HL.out hg;have y':=jD p';have E':=jD b';clear t' hz p' hg b';obtain⟨⟨Z,fe⟩,e'⟩:∃r,dW la.vals fl=r:=⟨_,rfl⟩;have HF:=jD (fun W (hW:KY w1 W)=>tu la _ fl W (y'.out.stays aC hW) (hf jS));rw[e']at HF;unfold cJ vlV at HF;have j':=jD e';clear e';go_wp2_with fail;refine (HF.out _ ?_).mono ?_
  ·exact jB
  rintro e w2 ⟨rfl,f'⟩;have G:Hid (KY w1 w2):=jD (ab (by exact jB) f');clear f';have I':=G.out.size;have k':X+1<w2.heap.size:=by omega
  obtain⟨a0,b0,c0,z0,z1,z2,f0,f1,f2⟩:=(HB.out.stays G.out).facts;have h:=HR.out;rw[uW,n'.out,MC D,Bk,E'.out,Gy,j'.out]at h
  by_cases hz:fe=0
  case neg =>
   rw[K7 hz]at h;have h6:fe=6:=by
    have h:=j'.out;unfold dW at h
    split at h
    ·injection h with _ h;exact h.symm
    ·injection h with _ h;exact absurd h.symm hz
   subst h6;injection h with F O;subst F O;clear hz;go_wp2;exact Lc (v:=.tuple #[.agg #[KW 0,KW 0,.string ⟨#[]⟩],KW 6]) (by simp[results,results115,go_sem,ba,z0,z1,z2,k']) rfl ⟨rfl,aJ (ic (ab I.out G.out) om _ _ _) _⟩
  subst hz;rw[K6 jS]at h;obtain⟨ce,h'⟩:∃c,eu Z=c:=⟨_,rfl⟩;have a':=jD (fun W=>ja Z W);simp only[h']at a' h;unfold vlV at a';have HH:=jD h;clear h h';go_wp2_with fail;refine (a'.out _).mono ?_;rintro e w3 ⟨rfl,d'⟩;have z:=(aY d').1;have y0:w3.cell? ⟨w2.heap.size,0,none⟩=some (KW Z.kind):=by rw[z];rfl
  have y1:w3.cell? ⟨w2.heap.size,1,none⟩=some (KW Z.num):=by rw[z];rfl
  have y2:w3.cell? ⟨w2.heap.size,2,none⟩=some (.string Z.text):=by rw[z];rfl
  have J:Hid (KY w1 w3):=jD (ab G.out (ab (ag w2 _) d'));have C':=J.out.size;have s':X+1<w3.heap.size:=by omega
  clear z d' z0 z1 z2 f0 f1 f2 a0 b0 c0;obtain⟨a0,b0,c0,z0,z1,z2,f0,f1,f2⟩:=(HB.out.stays J.out).facts;have h:=HH.out
  by_cases hc:ce=0
  case neg =>
   rw[K7 hc]at h;injection h with F O;subst F O;have u':(ce != 0)=true:=jQ hc;go_wp2;exact Lc (v:=.tuple #[.agg #[KW 0,KW 0,.string ⟨#[]⟩],KW ce]) (by simp[results,results115,go_sem,ba,z0,z1,z2]) rfl ⟨rfl,ic (ab I.out J.out) om _ _ _⟩
  subst hc;rw[K6 jS]at h;injection h with F O;subst F O;go_wp2;exact Lc (v:=.tuple #[.agg #[KW Z.kind,KW Z.num,.string Z.text],KW 0]) (by simp[results,results115,go_sem,ba,z0,z1,z2]) rfl ⟨rfl,ic (ab I.out J.out) om _ _ _⟩
end
theorem xX {p:Int->Bool} {l:List Int} {k:Nat} {a:Int} (h:l[k]?=some a):(l.drop k).all p=(p a&&(l.drop (k+1)).all p):=by
 obtain⟨z,rfl⟩:=List.getElem?_eq_some_iff.1 h;rw[Lr z,List.all_cons]
theorem Ej {op z x:Int} {b:Bool} (D:5<=op/\op<=8->decide (x=0)=b) (I:10<=op/\op<=12->decide (x=1)=b) (F:op=9->decide (x=z)=b) (G:op<5\/12<op->b=true):okK op z x=b:=by
 unfold okK
 split
 ·next h=>exact D h
 ·split
  ·next h=>exact I h
  ·split
   ·next h=>exact F h
   ·exact (G om).symm
theorem lK (op:Int) (ks:List Int) (v:Value) (w:World) (hk:bD w v ks) :
  KZ 116 #[KW op,v] w (KW (opE op ks)):=by
 obtain⟨A,c,rfl,h1,h2,F⟩:=hk;have a':=ax h1 h2;have HL:=jD F;obtain⟨R,hR⟩:=jE (opE op ks);obtain⟨I,D⟩:=jE (ks.headD 0);have HR:Hid ((if ks.all (okK op I) then (0:Int) else 9)=R):=jD (by rw[<-hR,<-D];rfl);have HK:=jD D;rw[hR];clear hR D F h1 h2;go_enter func116,ntmps116;go_wp2_with fail
 go_loopw [10] (fun i wr=>∃k:Nat,k<=ks.length/\i=KW k/\Hid ((if (ks.drop k).all (okK op I) then (0:Int) else 9)=R)/\wr=w) (fun i _=>ks.length-(intOf i).toNat)
 case atStart=>exact⟨0,Lb _,rfl,jD HR.out,rfl⟩
 case round =>
  obtain⟨k,hk,rfl,J,rfl⟩:=hrel
  by_cases G:k<ks.length
  ·have Z:(k:Int)<(ks.length:Int):=by omega
   obtain⟨b,o,rfl,z⟩:=HL.out k ks[k] (K9 G);have O:=jD (K9 G);obtain⟨a,ha⟩:=jF (ks[k]);rw[<-ha]at O z;clear ha;have c':wr.cell? ⟨b,o,none⟩=some (KW I):=by
    obtain⟨b',o',e,h0⟩:=HL.out 0 (ks[0]'om) (K9 om);injection e with e;injection e with e1 e2;subst e1 e2;have h:ks.headD 0=ks[0]'om:=by rw[List.headD_eq_head?_getD,List.head?_eq_getElem?,K9 om];rfl
    rw[HK.out]at h;rw[h]
    simpa [mW] using h0
   unfold mW at z;rw[LL]at z;go_wp2_with fail
   all_goals simp only[LO,LZ,LU,L9,LP]at *
   all_goals first
    | (exfalso;omega)
    | ((go_ret);(have hp:okK op I a=false:=Ej (fun h=>by first|(exfalso;omega)|(simp;omega)) (fun h=>by first|(exfalso;omega)|(simp;omega)) (fun h=>by first|(exfalso;omega)|(simp;omega)) (fun h=>by exfalso;omega));(have h:=J.out);(rw[xX O.out,hp]at h);exact⟨by rw[<-h];rfl,La _ _⟩)
    | ((refine⟨⟨k+1,by omega,by go_num,jD ?_,trivial⟩,by simp[intOf];omega⟩);(have hp:okK op I a=true:=Ej (fun h=>by first|(exfalso;omega)|(simp;omega)) (fun h=>by first|(exfalso;omega)|(simp;omega)) (fun h=>by first|(exfalso;omega)|(simp;omega)) (fun h=>rfl));(have h:=J.out);(rw[xX O.out,hp,L5]at h);exact h)
  ·have Z:¬(k:Int)<(ks.length:Int):=by omega
   obtain rfl:(0:Int)=R:=by
    have h:=J.out;rw[Lq om]at h;exact h
   go_wp2;go_ret;exact⟨rfl,La _ _⟩
theorem vu (a b:Vl) (W:World):(binOp .eql 27 (vlV a) (vlV b)).run prog W=.ok (.bool (cC a b)) W:=by
 have G:=underlying3;have J:=Tryz.isAgg3;have O:=Tryz.sizeOf3;have I:prog.underlying 9=some .string:=kr;have a9:=Tryz.isAgg9;have Z:=Tryz.sizeOf9;have h:prog.underlying 27=some (.struct (prog.fieldsOf 27)):=kr;have hp:prog.stoodInHeld 27=false:=kr;unfold vlV;rw[run_eql_struct,show (10000:Nat)=9999+1 from rfl,run_equalIn_agg W 9999 27 _ _ h hp];simp only[Program.fieldsOf,underlying27]
 go_simp
 by_cases z:a.kind=b.kind<;>by_cases F:a.num=b.num<;>by_cases D:a.text.toList=b.text.toList<;>simp[cC,z,F,D]
theorem aI {w w':World} {row:Option Nat} {b i:Nat} {v:Value} (D:w.grownBy w' row) (h:w.cell? ⟨b,i,none⟩=some v) (z:row≠some b):w'.cell? ⟨b,i,none⟩=some v :=
 (Ln (a:=⟨b,i,none⟩) (D.block b (K8 w ⟨b,i,none⟩ h) (fun e=>z e.symm))).trans h
theorem nK {w w':World} {row:Option Nat} {q n sz:Nat} {cs:List Value} (O:w.grownBy w' row) (h:Src w (some ⟨q,0,none⟩) n sz cs) (z:row≠some q):Src w' (some ⟨q,0,none⟩) n sz cs :=
 ⟨h.1,h.2.1,fun J=>by
  obtain⟨b,o,D,F⟩:=h.2.2 J;injection D with D;injection D with I Z;subst I Z;exact⟨q,0,rfl,fun j u G=>aI O (F j u G) z⟩⟩
theorem qS {K:World->Prop} {w:World} {cs:List Value} {t n sz:Nat} (z:cs.length=n*sz) (D:∀u∈cs,u.oneCell'=true) (h:∀W:World,KY w W->Src W (some ⟨w.heap.size,0,none⟩) n sz cs->K W):K (w.alloc (.cells cs.toArray t)) :=
 h _ (aJ (La _ _) _) (bE _ cs t n sz _ rfl z D)
theorem It {K:Act->World->Prop} {Q:Exit->Act->World->Prop} {o:Oper} {a:Act} (w:World) (m x:Operand) (z:o.op=Op.lookup 127 m x false) (b:Nat) (k:Int) (i:Nat) (u:Value) (es:Array MapEntry) (clock:Nat)
  (hm:a.eval m=.map (some b)) (G:a.eval x=KW k) (I:w.heap[b]?=some (.map es clock)) (hf:Instr.findNow (.int .i64) (KW k) es.toList 0=some (some (i,u)))
  (F:K (a.put o.dst u) w):Oper.wp prog o a w K Q:=by
 have D:∀e,(Instr.checkKey e 10000 3 (KW k)).run prog w=.ok () w:=fun e=>MapKept.run_checkKey (k:=KW k) underlying3 (by simp[MapKept.IsKey]) e 9999
 have h:(Instr.lookup 127 (.map (some b)) (KW k) false).run prog w=.ok u w:=by
  simp[Instr.lookup,Ny opsT,MapKept.run_getObj_map I,D,MapKept.run_findKey underlying3 hf,Result.andThen]
 unfold Oper.wp;simp[execOp,z,hm,G,h,Result.andThen];exact F
def TW (B:Nat) (v6 h:Value) (k n:Nat) (pre:List Vl) (ks:List Int) (W:World):Prop :=
 W.ownsRow B 27 3 v6 k (bb pre)/\W.ownsRow B 3 1 h n (bl ks)/\∀g,v6.ownBlock=some g->h.ownBlock≠some g
theorem TW.below {B k n:Nat} {v6 z:Value} {pre:List Vl} {ks:List Int} {W W':World} (h:TW B v6 z k n pre ks W) (D:KY W W'):TW B v6 z k n pre ks W' :=
 ⟨aj h.1 D,aj h.2.1 D,h.2.2⟩
theorem TW.app6 {B k n:Nat} {v6 G v8:Value} {pre:List Vl} {ks:List Int} {x:Vl} {W W':World} (h:TW B v6 G k n pre ks W)
  (O:W'.ownsRow B 27 3 v8 (k+1) (bb pre++[KW x.kind,KW x.num,.string x.text])) (J:W.grownBy W' v6.ownBlock) (I:v8.ownBlock=v6.ownBlock\/v8.ownBlock=some W.heap.size):TW B v8 G (k+1) n (pre++[x]) ks W':=by
 refine⟨by rw[go];exact O,aT h.2.1 fun g z=>J.block g (ah h.2.1 z).2 (fun e=>h.2.2 g e.symm z),fun g D F=>?_⟩;rcases I with e|e
 ·rw[e]at D;exact h.2.2 g D F
 ·rw[e]at D;injection D with D;have:=(ah h.2.1 F).2;omega
theorem TW.app7 {B k n:Nat} {v6 F v8:Value} {pre:List Vl} {ks:List Int} {x:Int} {W W':World} (h:TW B v6 F k n pre ks W)
  (O:W'.ownsRow B 3 1 v8 (n+1) (bl ks++[KW x])) (J:W.grownBy W' F.ownBlock) (I:v8.ownBlock=F.ownBlock\/v8.ownBlock=some W.heap.size):TW B v6 v8 k (n+1) pre (ks++[x]) W':=by
 refine⟨aT h.1 fun g z=>J.block g (ah h.1 z).2 (fun e=>h.2.2 g z e.symm),by rw[mH];exact O,fun g G D=>?_⟩;rcases I with e|e
 ·rw[e]at D;exact h.2.2 g G D
 ·rw[e]at D;injection D with D;have:=(ah h.1 G).2;omega
theorem VBox.set3 {W:World} {B:Nat} (h:VBox W B) (x y z:Value):VBox (((W.setCell ⟨B,0,none⟩ x).setCell ⟨B,1,none⟩ y).setCell ⟨B,2,none⟩ z) B:=by
 obtain⟨a,b,c,h⟩:=h;exact⟨x,y,z,Dc h x y z⟩
theorem qv {w W:World} {B:Nat} (h:w.grownBy W (some B)) (x y z:Value):w.grownBy (((W.setCell ⟨B,0,none⟩ x).setCell ⟨B,1,none⟩ y).setCell ⟨B,2,none⟩ z) (some B):=by
 have s:∀(W:World) (i:Nat) (v:Value),w.grownBy W (some B)->w.grownBy (W.setCell ⟨B,i,none⟩ v) (some B):=fun W i v h =>
  ⟨h.os,h.tape,h.output,by simpa [World.setCell] using h.size,fun k hk D=>(LB W ⟨B,i,none⟩ v k (fun e=>D (by rw[e]))).trans (h.block k hk D)⟩
 exact s _ _ _ (s _ _ _ (s _ _ _ h))
theorem uu {x:Ex} (h:bh x=0):0<=x.op/\x.op<=12/\(x.args.length:Int)=arN x.op/\(x.op=1\/x.op=4->0<=x.fl):=by
 unfold bh at h;have z:¬arN x.op<0:=fun e=>by rw[K7 e]at h;exact absurd h dc
 rw[K6 z]at h;have F:¬(x.args.length:Int)≠arN x.op:=fun e=>by rw[K7 e]at h;exact absurd h dc
 rw[K6 F]at h;have D:0<=x.op/\x.op<=12:=by
  unfold arN at z
  split at z
  ·omega
  ·omega
 refine⟨D.1,D.2,Decidable.not_not.1 F,fun e=>?_⟩
 by_cases G:x.fl<0
 ·have:(dr x.op).2=true:=by unfold dr;rw[K7 e]
  rw[K7 (.inr ⟨this,.inl G⟩)]at h;exact absurd h dc
 ·omega
theorem GY (vs:List (List Evt)) (own:Int) (ev:Evt) (o:Int) (l:List Ex) (a b c:Int) (v:Vl):fD vs own ev (.mk o l a b c v)=if l.length=0 then rm vs own ev (.mk o l a b c v) else BI o (jf vs own ev l):=by rw[fD]
theorem DM (op:Int) (pre:List Vl):BI op (pre,0)=if opE op (pre.map (·.kind))≠0 then (au,opE op (pre.map (·.kind))) else (zX op (pre.headD au) (pre.getLastD au),0):=rfl
theorem wY {op:Int} (h0:0<=op) (z:op<=12) (h:arN op=0):op<=4:=by
 unfold arN at h
 split at h
 ·omega
 ·split at h
  ·omega
  ·split at h<;>omega
theorem Gg {op:Int} (h0:0<=op) (F:op<=12) (h:arN op≠0):5<=op/\arN op=if op=12 then 1 else 2:=by
 unfold arN at h ⊢
 split at h
 ·omega
 ·split at h
  ·omega
  ·next D z=>rw[K6 D,K6 z];exact⟨by omega,rfl⟩
end Go.Proofs.YtokconodddedhaaGreatDoor
