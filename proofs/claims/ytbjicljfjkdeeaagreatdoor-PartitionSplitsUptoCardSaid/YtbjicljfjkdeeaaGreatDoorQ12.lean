/- Part. -/
import Derived.Test.YtbjicljfjkdeeaaGreatDoorQ04
set_option maxRecDepth 100000
set_option maxHeartbeats 16000000
set_option linter.unusedVariables false
set_option linter.unusedSimpArgs false
namespace Go.Proofs.YtbjicljfjkdeeaaGreatDoor
open Go.Proofs.Tryz Go.RowKit
def DJ (k i:Int) (a:Ac) (o:Vl):Vl × Int :=
 if ed k o≠0 then (ah,ed k o) else if k=0 then (⟨0,i,⟨#[]⟩⟩,0) else if i=0/\k≠1 then (o,0) else (a.val,0)
theorem dI {w:World} {g:Nat} {t:TypeId} {I J G:Value} (h:w.heap[g]?=some (.cells [I,J,G].toArray t (0,0))) (a0 z a2:Value) :
  (((w.setCell ⟨g,0,none⟩ a0).setCell ⟨g,1,none⟩ z).setCell ⟨g,2,none⟩ a2).heap[g]?=some (.cells [a0,z,a2].toArray t (0,0)) :=
 gm (gm (gm h 0 a0) 1 z) 2 a2
theorem uaQ {p:Prop} (h:p:=by
  have J:=jD (dI G.out (Mk a.val.kind) (Mk a.val.num) (.string a.val.text));have O:=jD (aq (aq (aq a'.out (b:=w.heap.size+2) (i:=0) om (Mk a.val.kind)) (b:=w.heap.size+2) (i:=1) om (Mk a.val.num)) (b:=w.heap.size+2) (i:=2) om (.string a.val.text));go_wp2_with fail;have r0:=ae J.out 0;have r1:=ae J.out 1;have r2:=ae J.out 2;exact Mv (v:=.tuple #[.agg #[Mk a.val.kind,Mk a.val.num,.string a.val.text],Mk 0]) (by simp[results,results286,go_sem,r0,r1,r2]) rfl ⟨rfl,O.out⟩):p:=h
theorem zH (k i:Int) (a:Ac) (o:Vl) (w:World) (hk:dg k=true) (h:rM k a i) (hi:0<=i/\i<=4096) :
  Mn 286 #[gw a,vlV o] w (.tuple #[vlV (DJ k i a o).1,Mk (DJ k i a o).2]):=by
 have ha:gw a=.agg #[Mk k,Mk i,Mk a.val.kind,Mk a.val.num,.string a.val.text]:=by
  unfold gw;rw[h.kind,h.count]
 have j':=jD (fun W=>DE k i a W hk h hi);have d':=jD (fun W=>rY k o W hk);obtain⟨er,f'⟩:=jE (ed k o);rw[f']at d';obtain⟨⟨RV,re⟩,hR⟩:∃r,DJ k i a o=r:=⟨_,rfl⟩;have HR:Hid ((if er≠0 then (ah,er) else if k=0 then (⟨0,i,⟨#[]⟩⟩,0) else if i=0/\k≠1 then (o,0) else (a.val,0))=(RV,re)):=jD (by rw[<-hR,<-f'];rfl);rw[hR];clear hR;rw[ha]at j' ⊢;obtain⟨q',s'⟩:=hi;unfold vlV at d' ⊢;clear f' hk h ha;go_enter func286,ntmps286;go_wp2_with fail;refine aI fun W9 e9=>?_
 have x0:Ml W9 w.heap.size 0 (Mk k):=jG e9;have x1:Ml W9 w.heap.size 1 (Mk i):=jG e9;have x2:Ml W9 w.heap.size 2 (Mk a.val.kind):=jG e9;have x3:Ml W9 w.heap.size 3 (Mk a.val.num):=jG e9;have x4:Ml W9 w.heap.size 4 (.string a.val.text):=jG e9;have y0:Ml W9 (w.heap.size+1) 0 (Mk o.kind):=jG e9;have y1:Ml W9 (w.heap.size+1) 1 (Mk o.num):=jG e9;have y2:Ml W9 (w.heap.size+1) 2 (.string o.text):=jG e9;have hr:W9.heap[w.heap.size+2]?=some (.cells [.int .i64 0,.int .i64 0,.string ⟨#[]⟩].toArray 27 (0,0)):=by rw[e9];exact ax _ _ _ jS
 have i':Mm w W9:=gb e9;clear e9;refine (j'.out W9).mono ?_;rintro e w1 ⟨rfl,I⟩;replace x0:=aa I x0;replace x1:=aa I x1;replace x2:=aa I x2;replace x3:=aa I x3;replace x4:=aa I x4;replace y0:=aa I y0;replace y1:=aa I y1;replace y2:=aa I y2;have m':=(I.block _ (bC hr)).trans hr;have l':=jD (ab i' I);have h':=jD m';clear i' I hr m';go_wp2_with fail;refine (d'.out _).mono ?_;rintro e w2 ⟨rfl,z⟩;replace x0:=aa z x0;replace x1:=aa z x1;replace x2:=aa z x2;replace x3:=aa z x3;replace x4:=aa z x4;replace y0:=aa z y0;replace y1:=aa z y1;replace y2:=aa z y2;have G:=jD ((z.block _ (bC h'.out)).trans h'.out);have a':=jD (ab l'.out z);clear z h' l';have z0:w2.cell? ⟨w.heap.size+2,0,none⟩=some (Mk 0):=by rw[ae G.out];rfl
 have z1:w2.cell? ⟨w.heap.size+2,1,none⟩=some (Mk 0):=by rw[ae G.out];rfl
 have z2:w2.cell? ⟨w.heap.size+2,2,none⟩=some (.string ⟨#[]⟩):=by rw[ae G.out];rfl
 have f0:=aw G.out 0;have f1:=aw G.out 1;have f2:=aw G.out 2
 by_cases h0:er=0
 case neg =>
  obtain⟨e1,e2⟩:(⟨0,0,⟨#[]⟩⟩:Vl)=RV/\er=re:=by have h:=HR.out;rw[Mp h0]at h;injection h with h1 h2;exact⟨h1,h2⟩
  subst e1 e2;have t':(er != 0)=true:=jQ h0;clear h0;have J:=jD (dI G.out (Mk 0) (Mk 0) (.string ⟨#[]⟩));have O:=jD (aq (aq (aq a'.out (b:=w.heap.size+2) (i:=0) om (Mk 0)) (b:=w.heap.size+2) (i:=1) om (Mk 0)) (b:=w.heap.size+2) (i:=2) om (.string ⟨#[]⟩));go_wp2_with fail;have r0:=ae J.out 0;have r1:=ae J.out 1;have r2:=ae J.out 2;exact Mv (v:=.tuple #[.agg #[Mk 0,Mk 0,.string ⟨#[]⟩],Mk er]) (by simp[results,results286,go_sem,r0,r1,r2]) rfl ⟨rfl,O.out⟩
 have k':Hid ((if k=0 then (⟨0,i,⟨#[]⟩⟩,0) else if i=0/\k≠1 then (o,0) else (a.val,0))=(RV,re)):=jD (by have h:=HR.out;rwa [Mo (jQ h0)]at h);subst h0
 by_cases Z:k=0
 ·obtain⟨e1,e2⟩:(⟨0,i,⟨#[]⟩⟩:Vl)=RV/\0=re:=by have h:=k'.out;rw[Mp Z]at h;injection h with h1 h2;exact⟨h1,h2⟩
  subst e1 e2;subst Z;have J:=jD (dI G.out (Mk 0) (Mk i) (.string ⟨#[]⟩));have O:=jD (aq (aq (aq a'.out (b:=w.heap.size+2) (i:=0) om (Mk 0)) (b:=w.heap.size+2) (i:=1) om (Mk i)) (b:=w.heap.size+2) (i:=2) om (.string ⟨#[]⟩));go_wp2_with fail;have r0:=ae J.out 0;have r1:=ae J.out 1;have r2:=ae J.out 2;exact Mv (v:=.tuple #[.agg #[Mk 0,Mk i,.string ⟨#[]⟩],Mk 0]) (by simp[results,results286,go_sem,r0,r1,r2]) rfl ⟨rfl,O.out⟩
 have g':Hid ((if i=0/\k≠1 then (o,0) else (a.val,0))=(RV,re)):=jD (by have h:=k'.out;rwa [Mo Z]at h);have p':(k==0)=false:=jQ Z
 by_cases hc:i=0
 ·subst hc
  by_cases c':k=1
  ·subst c';obtain⟨e1,e2⟩:a.val=RV/\0=re:=by have h:=g'.out;rw[Mo jS]at h;injection h with h1 h2;exact⟨h1,h2⟩
   subst e1 e2;clear Z;exact uaQ
  ·have n':(k != 1)=true:=jQ c';obtain⟨e1,e2⟩:o=RV/\0=re:=by have h:=g'.out;rw[Mp ⟨rfl,c'⟩]at h;injection h with h1 h2;exact⟨h1,h2⟩
   subst e1 e2;clear Z c';have J:=jD (dI G.out (Mk o.kind) (Mk o.num) (.string o.text));have O:=jD (aq (aq (aq a'.out (b:=w.heap.size+2) (i:=0) om (Mk o.kind)) (b:=w.heap.size+2) (i:=1) om (Mk o.num)) (b:=w.heap.size+2) (i:=2) om (.string o.text));go_wp2_with fail;have r0:=ae J.out 0;have r1:=ae J.out 1;have r2:=ae J.out 2;exact Mv (v:=.tuple #[.agg #[Mk o.kind,Mk o.num,.string o.text],Mk 0]) (by simp[results,results286,go_sem,r0,r1,r2]) rfl ⟨rfl,O.out⟩
 ·have r':(i==0)=false:=jQ hc;obtain⟨e1,e2⟩:a.val=RV/\0=re:=by have h:=g'.out;rw[Mo (fun e=>hc e.1)]at h;injection h with h1 h2;exact⟨h1,h2⟩
  subst e1 e2;clear Z hc;exact uaQ
inductive Tr where
 | at (v:Value)
 | agg (cs:List Tr)
 | tup (cs:List Tr)
 | lst (full:Bool) (es:List Tr)
 | elp (cs:List Tr)
 | fn (f:Fn) (a b:List Tr)
 deriving Inhabited
def Tr.cells:Tr->List Tr
 | .at (.agg vs)=>vs.toList.map .at
 | .agg cs=>cs
 | t=>[t]
def Tr.cell:Tr->Bool
 | .at v=>v.oneCell'
 | .agg _=>false
 | .tup _=>false
 | _=>true
abbrev aO (es:List Tr):List Tr:=es.flatMap Tr.cells
inductive Rp (F:Nat->Nat) (w:World):Tr->Value->Prop
 | at (v:Value):Rp F w (.at v) v
 | agg (cs:List Tr) (vs:Array Value) (hl:vs.size=cs.length) (h:∀(i:Nat) (t:Tr) (v:Value),cs[i]?=some t->vs[i]?=some v->Rp F w t v):Rp F w (.agg cs) (.agg vs)
 | tup (cs:List Tr) (vs:Array Value) (hl:vs.size=cs.length) (h:∀(i:Nat) (t:Tr) (v:Value),cs[i]?=some t->vs[i]?=some v->Rp F w t v):Rp F w (.tup cs) (.tuple vs)
 | nil (a:Option Addr) (cap:Nat):Rp F w (.lst false []) (.slice a 0 cap)
 | lst (full:Bool) (es:List Tr) (A o cap k:Nat) (g:Nat->Value) (hk:∀e∈es,e.cells.length=k) (hc:∀t∈aO es,t.cell=true)
   (hg:∀j,j<(aO es).length->w.cell? ⟨A,o+j,none⟩=some (g j)/\o+j<F A) (h:∀(j:Nat) (t:Tr),(aO es)[j]?=some t->Rp F w t (g j))
   (hf:full=true->cap=es.length) (hle:es.length<=cap) (hm:cap<=maxLen):Rp F w (.lst full es) (.slice (some ⟨A,o,none⟩) es.length cap)
 | elp (cs:List Tr) (A o:Nat) (g:Nat->Value) (hc:∀t∈cs,t.cell=true)
   (hg:∀j,j<cs.length->w.cell? ⟨A,o+j,none⟩=some (g j)/\o+j<F A) (h:∀(j:Nat) (t:Tr),cs[j]?=some t->Rp F w t (g j)):Rp F w (.elp cs) (.pointer (some ⟨A,o,none⟩))
 | fn (f:Fn) (a b:List Tr) (va vb:Array Value) (hla:va.size=a.length) (hlb:vb.size=b.length) (ha:∀(i:Nat) (t:Tr) (v:Value),a[i]?=some t->va[i]?=some v->Rp F w t v)
   (hb:∀(i:Nat) (t:Tr) (v:Value),b[i]?=some t->vb[i]?=some v->Rp F w t v):Rp F w (.fn f a b) (.func f va vb)
def Kept (F:Nat->Nat) (w:World) (h:Nat->Nat) (w':World):Prop:=∀b n u,n<F b->w.cell? ⟨b,n,none⟩=some u->w'.cell? ⟨b,n,none⟩=some u/\n<h b
theorem Kept.refl (F:Nat->Nat) (w:World):Kept F w F w:=fun _ _ _ h e=>⟨e,h⟩
theorem Kept.trans {F G H:Nat->Nat} {a b c:World} (h:Kept F a G b) (k:Kept G b H c):Kept F a H c:=fun x n u I e=>let ⟨e',z⟩:=h x n u I e;k x n u z e'
theorem Kept.below {F z:Nat->Nat} {w w':World} (G:Mm w w') (hF:∀b,b<w.heap.size->F b<=z b):Kept F w z w':=fun b n u I e=>by
 have h:=Ms w ⟨b,n,none⟩ e;exact⟨(G.cell (p:=⟨b,n,none⟩) h).trans e,ME I (hF b h)⟩
theorem Rp.kept {F F':Nat->Nat} {w w':World} (k:Kept F w F' w') {t:Tr} {v:Value} (h:Rp F w t v):Rp F' w' t v:=by
 induction h with
 | «at» v=>exact .at v
 | agg cs vs O h z=>exact .agg cs vs O z
 | tup cs vs O h z=>exact .tup cs vs O z
 | nil a cap=>exact .nil a cap
 | lst full es A o cap kk g hk hc G h hf hle hm z=>exact .lst full es A o cap kk g hk hc (fun j I=>k _ _ _ (G j I).2 (G j I).1) z hf hle hm
 | elp cs A o g hc G h z=>exact .elp cs A o g hc (fun j I=>k _ _ _ (G j I).2 (G j I).1) z
 | fn f a b va vb Z c' ha hb J a'=>exact .fn f a b va vb Z c' J a'
theorem Rp.oneCell {F:Nat->Nat} {w:World} {t:Tr} {v:Value} (h:Rp F w t v) (z:t.cell=true):v.oneCell'=true:=by
 cases h<;>first|exact z|rfl|cases z
inductive V where
 | p (t:Tr)
 | agg (cs:List V)
 | tup (cs:List V)
 | ref (n:Nat)
 | off (n i o:Nat)
 | arr (n k len:Nat) (full:Bool)
 | fn (f:Fn) (a b:List V)
 | yld (i:Nat)
 | junk
 deriving Inhabited
structure Mem where
 F:Nat->Nat
 h:Nat->Value
 k:Nat->Nat
 lp:Nat->Nat
 mq:Nat->Nat
 nl:Nat
def LM (M M':Mem):Prop:=M.nl<=M'.nl/\∀i,i<M.nl->M'.lp i=M.lp i/\M'.mq i=M.mq i
theorem LM.refl (M:Mem):LM M M:=⟨Mt _,fun _ _=>⟨rfl,rfl⟩⟩
def jV:Value->Nat
 | .pointer (some a)=>a.block
 | .slice (some a) _ _=>a.block
 | .map (some r)=>r
 | _=>0
inductive Rv (M:Mem) (w:World):V->Value->Prop
 | p (t:Tr) (v:Value) (h:Rp M.F w t v):Rv M w (.p t) v
 | agg (cs:List V) (vs:Array Value) (hl:vs.size=cs.length) (h:∀(i:Nat) (t:V) (v:Value),cs[i]?=some t->vs[i]?=some v->Rv M w t v):Rv M w (.agg cs) (.agg vs)
 | tup (cs:List V) (vs:Array Value) (hl:vs.size=cs.length) (h:∀(i:Nat) (t:V) (v:Value),cs[i]?=some t->vs[i]?=some v->Rv M w t v):Rv M w (.tup cs) (.tuple vs)
 | ref (n:Nat) (hc:(M.h n).oneCell'=true):Rv M w (.ref n) (M.h n)
 | off (n i o:Nat):Rv M w (.off n i o) (.pointer (some ⟨jV (M.h n),i*M.k n+o,none⟩))
 | arr (n k len:Nat) (full:Bool) (cap:Nat) (hc:len<=cap) (hf:full=true->cap=len):Rv M w (.arr n k len full) (.slice (some ⟨jV (M.h n),0,none⟩) len cap)
 | fn (f:Fn) (a b:List V) (va vb:Array Value) (hla:va.size=a.length) (hlb:vb.size=b.length) (ha:∀(i:Nat) (t:V) (v:Value),a[i]?=some t->va[i]?=some v->Rv M w t v)
   (hb:∀(i:Nat) (t:V) (v:Value),b[i]?=some t->vb[i]?=some v->Rv M w t v):Rv M w (.fn f a b) (.func f va vb)
 | yld (i:Nat) (h:i<M.nl):Rv M w (.yld i) (.func (.yield (M.lp i)) #[] #[])
 | junk (v:Value):Rv M w .junk v
mutual
def V.kill (n:Nat):V->V
 | .p t=>.p t
 | .agg cs=>.agg (V.kills n cs)
 | .tup cs=>.tup (V.kills n cs)
 | .ref m=>if m=n then .junk else .ref m
 | .off m i o=>if m=n then .junk else .off m i o
 | .arr m k len full=>if m=n then .junk else .arr m k len full
 | .fn f a b=>.fn f (V.kills n a) (V.kills n b)
 | .yld i=>.yld i
 | .junk=>.junk
def V.kills (n:Nat):List V->List V
 | []=>[]
 | v::l=>V.kill n v::V.kills n l
end
theorem V.kills_eq (n:Nat) (l:List V):V.kills n l=l.map (V.kill n):=by
 induction l with
 | nil=>rw[V.kills];rfl
 | cons a l h=>rw[V.kills,h];rfl
theorem Rv.step {M M':Mem} {w w':World} {n:Nat} (k:Kept M.F w M'.F w') (J:∀m,m≠n->M'.h m=M.h m/\M'.k m=M.k m) (hL:LM M M':=by exact LM.refl _) {t:V} {v:Value} (h:Rv M w t v):Rv M' w' (t.kill n) v:=by
 have mp:∀(cs:List V) (vs:Array Value),(∀(i:Nat) (t:V) (v:Value),cs[i]?=some t->vs[i]?=some v->Rv M' w' (t.kill n) v) ->
   ∀(i:Nat) (t:V) (v:Value),(V.kills n cs)[i]?=some t->vs[i]?=some v->Rv M' w' t v:=by
  intro cs vs I i t v G h2;rw[V.kills_eq,MA]at G
  cases h3:cs[i]? with
  | none=>rw[h3]at G;cases G
  | some t' =>
   rw[h3]at G;have:t'.kill n=t:=jQ G;exact this▸I i t' v h3 h2
 have O:∀cs:List V,(V.kills n cs).length=cs.length:=fun cs=>by rw[V.kills_eq];simp
 induction h with
 | p t v h=>rw[V.kill];exact .p t v (h.kept k)
 | agg cs vs hl h I=>rw[V.kill];exact .agg _ vs (by rw[O];exact hl) (mp cs vs I)
 | tup cs vs hl h I=>rw[V.kill];exact .tup _ vs (by rw[O];exact hl) (mp cs vs I)
 | ref m Z =>
  rw[V.kill]
  split
  ·exact .junk _
  ·rename_i z;rw[<-(J m z).1]at Z ⊢;exact .ref m Z
 | off m i o =>
  rw[V.kill]
  split
  ·exact .junk _
  ·rename_i z;rw[<-(J m z).1,<-(J m z).2];exact .off m i o
 | arr m k len full cap Z hf =>
  rw[V.kill]
  split
  ·exact .junk _
  ·rename_i z;rw[<-(J m z).1];exact .arr m k len full cap Z hf
 | fn f a b va vb c' f' ha hb a' d'=>rw[V.kill];exact .fn f _ _ va vb (by rw[O];exact c') (by rw[O];exact f') (mp a va a') (mp b vb d')
 | yld i hi=>rw[V.kill,<-(hL.2 i hi).1];exact .yld i (ME hi hL.1)
 | junk v=>rw[V.kill];exact .junk v
theorem Rv.kept {M M':Mem} {w w':World} (k:Kept M.F w M'.F w') (J:M'.h=M.h) (hk:M'.k=M.k) (hL:LM M M':=by exact LM.refl _) {t:V} {v:Value} (h:Rv M w t v):Rv M' w' t v:=by
 induction h with
 | p t v h=>exact .p t v (h.kept k)
 | agg cs vs I h ih=>exact .agg _ vs I ih
 | tup cs vs I h ih=>exact .tup _ vs I ih
 | ref m z=>rw[<-J]at z ⊢;exact .ref m z
 | off m i o=>rw[<-J,<-hk];exact .off m i o
 | arr m k len full cap z hf=>rw[<-J];exact .arr m k len full cap z hf
 | fn f a b va vb O a' ha hb G Z=>exact .fn f _ _ va vb O a' G Z
 | yld i hi=>rw[<-(hL.2 i hi).1];exact .yld i (ME hi hL.1)
 | junk v=>exact .junk v
section
inductive Ob where
 | box (cs:List V)
 | row (e:TypeId) (k:Nat) (es:List Tr) (fz:Bool)
 | map (es:List (Value × V × Nat)) (cl:Nat)
 deriving Inhabited
section
variable {α : Type}
def gt:List (Nat × α)->Nat->Option α
 | [],_=>none
 | x::l,n=>if x.1=n then some x.2 else gt l n
def pt:List (Nat × α)->Nat->α->List (Nat × α)
 | [],n,v=>[(n,v)]
 | x::l,n,v=>if x.1=n then (n,v)::l else x::pt l n v
def gtm:List (Nat × α)->Nat->Option α
 | [],_=>none
 | x::l,n=>match Nat.beq x.1 n with|true=>some x.2|false=>gtm l n
def ptm:List (Nat × α)->Nat->α->List (Nat × α)
 | [],n,v=>[(n,v)]
 | x::l,n,v=>match Nat.beq x.1 n with|true=>(n,v)::l|false=>x::ptm l n v
theorem Gw {β:Type} (m n:Nat) (a b:β):(match Nat.beq m n with|true=>a|false=>b)=if m=n then a else b:=by
 cases h:Nat.beq m n with
 | true=>rw[Mp (Nat.eq_of_beq_eq_true h)]
 | false=>rw[Mo (Nat.ne_of_beq_eq_false h)]
theorem LN (l:List (Nat × α)) (n:Nat):gtm l n=gt l n:=by
 induction l with
 | nil=>rfl
 | cons x l h=>rw[gtm,gt,h];exact Gw _ _ _ _
theorem EQ (l:List (Nat × α)) (n:Nat) (v:α):ptm l n v=pt l n v:=by
 induction l with
 | nil=>rfl
 | cons x l h=>rw[ptm,pt,h];exact Gw _ _ _ _
theorem xV (l:List (Nat × α)) (n m:Nat) (v:α):gt (pt l n v) m=if n=m then some v else gt l m:=by
 induction l with
 | nil=>simp[pt,gt]
 | cons x l z=>unfold pt;by_cases h:x.1=n<;>by_cases G:n=m<;>simp_all [gt]
def nx:List (Nat × α)->Nat
 | []=>0
 | x::l=>max (x.1+1) (nx l)
theorem BD (l:List (Nat × α)) (n:Nat) (v:α):nx (pt l n v)=max (n+1) (nx l):=by
 induction l with
 | nil=>simp[pt,nx]
 | cons x l h=>unfold pt;split<;>simp only[nx]<;>omega
theorem Lw (f:α->α) (l:List (Nat × α)):nx (l.map fun x=>(x.1,f x.2))=nx l:=by
 induction l with
 | nil=>rfl
 | cons x l h=>simp only[MF,nx,h]
theorem gt_nx {l:List (Nat × α)} {n:Nat} {v:α} (h:gt l n=some v):n<nx l:=by
 induction l with
 | nil=>cases h
 | cons x l z =>
  simp only[gt]at h;simp only[nx]
  split at h
  ·omega
  ·have:=z h;omega
def rm:List (Nat × α)->Nat->List (Nat × α)
 | [],_=>[]
 | x::l,n=>if x.1=n then rm l n else x::rm l n
theorem Ci (l:List (Nat × α)) (n m:Nat):gt (rm l n) m=if n=m then none else gt l m:=by
 induction l with
 | nil=>simp[rm,gt]
 | cons x l z=>unfold rm;by_cases h:x.1=n<;>by_cases G:n=m<;>simp_all [gt]
theorem GM (f:α->α) (l:List (Nat × α)) (n:Nat):gt (l.map fun x=>(x.1,f x.2)) n=(gt l n).map f:=by
 induction l with
 | nil=>rfl
 | cons x l h=>simp only[MF,gt,h];split<;>rfl
end
structure Fr where
 n:Nat
 l:List (Nat × V)
 rd:Option Nat:=none
 ds:List Nat:=[]
 deriving Inhabited
structure Lp where
 fr:Fr
 ps:Array Tmp
 asg:Code
 bd:Code
 st:LoopState
 pend:Option Code
 deriving Inhabited
structure Sg where
 obs:List (Nat × Ob)
 stk:List Fr
 lps:List Lp:=[]
 deriving Inhabited
structure Rf where
 tmps:Array Value
 defers:List Deferred
 round:Option Nat
def Ob.mp (κ:V->V):Ob->Ob
 | .box cs=>.box (cs.map κ)
 | .map es h=>.map (es.map fun x=>(x.1,κ x.2.1,x.2.2)) h
 | o=>o
def Fr.mp (κ:V->V) (f:Fr):Fr:={ f with l:=f.l.map fun x=>(x.1,κ x.2) }
def Sg.mp (κ:V->V) (σ:Sg):Sg:=⟨σ.obs.map fun x=>(x.1,x.2.mp κ),σ.stk.map (Fr.mp κ),σ.lps.map fun x=>{ x with fr:=x.fr.mp κ }⟩
def dG:Value->Option Nat
 | .pointer (some a)=>some a.block
 | .slice (some a) _ _=>some a.block
 | .map (some r)=>some r
 | _=>none
def ObOk (n0:Nat) (M:Mem) (w:World) (n:Nat):Ob->Prop
 | .box cs=>∃A c I,M.h n=.pointer (some ⟨A,0,none⟩)/\n0<=A/\M.F A=0/\w.heap[A]?=some (.cells c I (0,0))/\cs.length<=c.size /\
   ∀(i:Nat) (t:V) (v:Value),cs[i]?=some t->c[i]?=some v->Rv M w t v
 | .row e k es G=>M.k n=k/\0<k/\∃xs,w.ownsRow n0 e k (M.h n) es.length xs/\(∀t∈es,t.cells.length=k)/\(∀t∈aO es,t.cell=true) /\
    (∀(j:Nat) (t:Tr) (u:Value),(aO es)[j]?=some t->xs[j]?=some u->Rp M.F w t u)/\∀g,dG (M.h n)=some g->if G=true then es.length*k<=M.F g else M.F g=0
 | .map es J=>∃r z,M.h n=.map (some r)/\n0<=r/\w.heap[r]?=some (.map z J)/\z.size=es.length /\
   ∀(i:Nat) (x:Value × V × Nat) (e:MapEntry),es[i]?=some x->z[i]?=some e->e.key=x.1/\Rv M w x.2.1 e.val/\e.born=x.2.2
def TmOk (M:Mem) (w:World) (f:Fr) (h:Array Value):Prop:=h.size=f.n/\∀t x,gt f.l t=some x->∃v,h[t]?=some v/\Rv M w x v
def mkD (M:Mem) (i:Nat):Deferred:={ target:=.collected (M.mq i),args:=#[] }
structure FrOk (M:Mem) (w:World) (f:Fr) (t:Rf):Prop where
 tm:TmOk M w f t.tmps
 rd:t.round=f.rd.map M.lp
 rl:∀i,f.rd=some i->i<M.nl
 ds:t.defers=f.ds.map (mkD M)
 dl:∀i,i∈f.ds->i<M.nl
 dm:∀i,i∈f.ds->w.heap[M.mq i]?=some (.deferred (some []))
def LpOk (n0:Nat) (M:Mem) (w:World) (i:Nat) (lp:Lp):Prop :=
 ∃fid T,w.heap[M.lp i]?=some (.loop { state:=lp.st,pending:=lp.pend,fn:=fid,tmps:=T,params:=lp.ps,assign:=lp.asg,body:=lp.bd,defers:=M.mq i }) /\
  (∃ds,w.heap[M.mq i]?=some (.deferred ds))/\n0<=M.lp i/\n0<=M.mq i/\TmOk M w lp.fr T
def Stk (M:Mem) (w:World):List Fr->List Rf->Prop
 | [],[]=>True
 | f::l,t::m=>FrOk M w f t/\Stk M w l m
 | _,_=>False
def GOk (gl:Nat->Option (List Tr)) (F:Nat->Nat) (w:World):Prop:=∀g cs,gl g=some cs->Rp F w (.elp cs) (.pointer (some ⟨g,0,none⟩))
structure SR (gl:Nat->Option (List Tr)) (n0:Nat) (M:Mem) (w:World) (σ:Sg) (S:List Rf):Prop where
 size:n0<=w.heap.size
 ob:∀n x,gt σ.obs n=some x->ObOk n0 M w n x
 apart:∀m n x y g,m≠n->gt σ.obs m=some x->gt σ.obs n=some y->dG (M.h m)=some g->dG (M.h n)≠some g
 stk:Stk M w σ.stk S
 gls:GOk gl M.F w
 nl:σ.lps.length=M.nl
 lps:∀i lp,σ.lps[i]?=some lp->LpOk n0 M w i lp
 nd:((σ.stk.flatMap (·.ds)).map M.mq).Nodup
 sep:∀i j,i<M.nl->j<M.nl->M.lp i≠M.mq j/\(i≠j->M.lp i≠M.lp j)
section
variable {gl : Nat -> Option (List Tr)} {n0 : Nat} {M M' : Mem} {w w' : World} {σ σ' : Sg} {S : List Rf}
theorem TmOk.mp {κ:V->V} (O:∀t v,Rv M w t v->Rv M' w' (κ t) v) {f:Fr} {t:Array Value} (h:TmOk M w f t):TmOk M' w' (f.mp κ) t:=by
 refine⟨h.1,?_⟩;intro s x z;rw[Fr.mp,GM]at z
 cases G:gt f.l s with
 | none=>rw[G]at z;cases z
 | some y =>
  rw[G]at z;have:κ y=x:=jQ z;subst this;obtain⟨v,J,I⟩:=h.2 s y G;exact⟨v,J,O y v I⟩
theorem Ly (hL:LM M M') {i:Nat} (h:i<M.nl):mkD M' i=mkD M i:=by unfold mkD;rw[(hL.2 i h).2]
theorem FrOk.mp {κ:V->V} (G:∀t v,Rv M w t v->Rv M' w' (κ t) v) (hL:LM M M') (hq:∀i,i<M.nl->w'.heap[M.mq i]?=w.heap[M.mq i]?) {f:Fr} {t:Rf} (h:FrOk M w f t):FrOk M' w' (f.mp κ) t:=by
 refine⟨h.tm.mp G,?_,fun i z=>ME (h.rl i z) hL.1,?_,fun i z=>ME (h.dl i z) hL.1,fun i z=>by rw[(hL.2 i (h.dl i z)).2,hq i (h.dl i z)];exact h.dm i z⟩
 ·rw[h.rd];show f.rd.map M.lp=f.rd.map M'.lp
  cases hr:f.rd with
  | none=>rfl
  | some i=>simp only[NR,(hL.2 i (h.rl i hr)).1]
 ·rw[h.ds];exact Pz fun i z=>(Ly hL (h.dl i z)).symm
theorem Stk.mp {κ:V->V} (z:∀t v,Rv M w t v->Rv M' w' (κ t) v) (hL:LM M M') (hq:∀i,i<M.nl->w'.heap[M.mq i]?=w.heap[M.mq i]?):∀{f:List Fr} {S:List Rf},Stk M w f S->Stk M' w' (f.map (Fr.mp κ)) S
 | [],[],_=>trivial
 | _::_,_::_,h=>⟨h.1.mp z hL hq,Stk.mp z hL hq h.2⟩
 | [],_::_,h=>h.elim
 | _::_,[],h=>h.elim
theorem ObOk.lt {n:Nat} {x:Ob} (h:ObOk n0 M w n x) {g:Nat} (z:dG (M.h n)=some g):g<w.heap.size/\n0<=g:=by
 have lt:∀{b:Nat} {o:Obj},w.heap[b]?=some o->b<w.heap.size:=fun {b o} e=>by
  rcases Ny b w.heap.size with J|J
  ·exact J
  ·rw[Ot J]at e;cases e
 cases x with
 | box cs =>
  obtain⟨A,c,el,G,I,Z,h4,-⟩:=h;rw[G]at z;cases z;exact⟨lt h4,I⟩
 | row e k es fz =>
  obtain⟨-,-,xs,G,-⟩:=h;rcases G.2 with ⟨O,-⟩|⟨g',cap,cur,O,hb,hh,-⟩
  ·rw[O]at z;cases z
  ·rw[O]at z;cases z;exact⟨lt hh,hb⟩
 | map es cl =>
  obtain⟨r,a',G,I,Z,-⟩:=h;rw[G]at z;cases z;exact⟨lt Z,I⟩
theorem vT {base:Nat} {e:TypeId} {k:Nat} {v:Value} {n:Nat} {xs:List Value} (h:w.ownsRow base e k v n xs) (hk:∀g,dG v=some g->w'.heap[g]?=w.heap[g]?):w'.ownsRow base e k v n xs:=by
 refine⟨h.1,?_⟩;rcases h.2 with z|⟨g,cap,cur,hv,hg,hh,r⟩
 ·exact .inl z
 ·exact .inr ⟨g,cap,cur,hv,hg,by rw[hk g (by rw[hv];rfl)];exact hh,r⟩
theorem ObOk.move {κ:V->V} {n:Nat} {x:Ob} (h:ObOk n0 M w n x) (hκ:∀t v,Rv M w t v->Rv M' w' (κ t) v) (G:Kept M.F w M'.F w') (hh:M'.h n=M.h n) (hk:M'.k n=M.k n)
  (hb:∀g,dG (M.h n)=some g->w'.heap[g]?=w.heap[g]?/\M'.F g=M.F g):ObOk n0 M' w' n (x.mp κ):=by
 cases x with
 | box cs =>
  obtain⟨A,c,el,z,J,h3,h4,h5,h6⟩:=h;have hA:=hb A (by rw[z];rfl);refine⟨A,c,el,by rw[hh];exact z,J,by rw[hA.2];exact h3,by rw[hA.1];exact h4,jQ h5,?_⟩;intro i t v O hv;rw[MA]at O
  cases I:cs[i]? with
  | none=>rw[I]at O;cases O
  | some t' =>
   rw[I]at O;have:κ t'=t:=jQ O;subst this;exact hκ _ _ (h6 i t' v I hv)
 | row e k es fz =>
  obtain⟨z,J,xs,a,b,c,d,e⟩:=h;refine⟨by rw[hk];exact z,J,xs,?_,b,c,fun j t u h4 h5=>(d j t u h4 h5).kept G,fun g Z=>?_⟩
  ·rw[hh];exact vT a fun g Z=>(hb g Z).1
  ·rw[hh]at Z;rw[(hb g Z).2];exact e g Z
 | map es cl =>
  obtain⟨r,c',z,J,h3,h4,h5⟩:=h;refine⟨r,c',by rw[hh];exact z,J,by rw[(hb r (by rw[z];rfl)).1];exact h3,jQ h4,fun i x e ha a'=>?_⟩;rw[MA]at ha
  cases I:es[i]? with
  | none=>rw[I]at ha;cases ha
  | some y =>
   rw[I]at ha;cases ha;obtain⟨a,b,c⟩:=h5 i y e I a';exact⟨a,hκ _ _ b,c⟩
theorem th (κ:V->V) (n:Nat):gt (σ.mp κ).obs n=(gt σ.obs n).map (Ob.mp κ):=GM (Ob.mp κ) σ.obs n
theorem LpOk.move {κ:V->V} {i:Nat} {lp:Lp} (h:LpOk n0 M w i lp) (O:∀t v,Rv M w t v->Rv M' w' (κ t) v) (G:M'.lp i=M.lp i) (z:M'.mq i=M.mq i) (J:w'.heap[M.lp i]?=w.heap[M.lp i]?)
  (I:w'.heap[M.mq i]?=w.heap[M.mq i]?):LpOk n0 M' w' i { lp with fr:=lp.fr.mp κ }:=by
 obtain⟨fid,T,a,⟨ds,b⟩,c,d,e⟩:=h;exact⟨fid,T,by rw[G,z,J];exact a,⟨ds,by rw[z,I];exact b⟩,by rw[G];exact c,by rw[z];exact d,e.mp O⟩
theorem SR.lp_lt (h:SR gl n0 M w σ S) {i:Nat} (z:i<M.nl):M.lp i<w.heap.size/\M.mq i<w.heap.size:=by
 rw[<-h.nl]at z;obtain⟨fid,T,a,⟨ds,b⟩,-⟩:=h.lps i _ (Mq z);exact⟨(Array.getElem?_eq_some_iff.1 a).1,(Array.getElem?_eq_some_iff.1 b).1⟩
theorem SR.lp_cells (h:SR gl n0 M w σ S) {i g:Nat} (G:i<M.nl) {c:Array Value} {e:TypeId} {I:Nat × Nat} (z:w.heap[g]?=some (.cells c e I)):M.lp i≠g/\M.mq i≠g:=by
 rw[<-h.nl]at G;obtain⟨fid,T,a,⟨ds,b⟩,-⟩:=h.lps i _ (Mq G);exact⟨fun e=>(by rw[e,z]at a;cases a),fun e=>(by rw[e,z]at b;cases b)⟩
theorem SR.upd {κ:V->V} {n:Nat} {ob:Ob} (h:SR gl n0 M w σ S) (hκ:∀t v,Rv M w t v->Rv M' w' (κ t) v) (O:Kept M.F w M'.F w') (hs:w.heap.size<=w'.heap.size)
  (hm:∀m,m≠n->M'.h m=M.h m/\M'.k m=M.k m)
  (hb:∀m x g,m≠n->gt σ.obs m=some x->dG (M.h m)=some g->w'.heap[g]?=w.heap[g]?/\M'.F g=M.F g)
  (ho:ObOk n0 M' w' n ob) (ha:∀m x g,m≠n->gt σ.obs m=some x->dG (M'.h n)=some g->dG (M.h m)≠some g)
  (i':∀i,i<M.nl->w'.heap[M.lp i]?=w.heap[M.lp i]?/\w'.heap[M.mq i]?=w.heap[M.mq i]?) (hL:M'.nl=M.nl/\M'.lp=M.lp/\M'.mq=M.mq:=by exact⟨rfl,rfl,rfl⟩) :
  SR gl n0 M' w' ⟨pt (σ.mp κ).obs n ob,(σ.mp κ).stk,(σ.mp κ).lps⟩ S:=by
 have m':LM M M':=⟨N2 hL.1.symm,fun i _=>⟨by rw[hL.2.1],by rw[hL.2.2]⟩⟩;refine⟨Mx h.size hs,?_,?_,h.stk.mp hκ m' (fun i hi=>(i' i hi).2),fun g cs G=>(h.gls g cs G).kept O,by simp[Sg.mp,hL.1,h.nl],fun i lp hi=>?_,by
  have e:((σ.mp κ).stk.flatMap (·.ds))=σ.stk.flatMap (·.ds):=by simp only[Sg.mp,List.flatMap_map];rfl
  rw[e,hL.2.2];exact h.nd,by rw[hL.1,hL.2.1,hL.2.2];exact h.sep⟩
 case refine_3 =>
  simp only[Sg.mp,MA]at hi
  cases G:σ.lps[i]? with
  | none=>rw[G]at hi;cases hi
  | some l =>
   rw[G]at hi;cases hi;have k':i<M.nl:=by rw[<-h.nl];exact (List.getElem?_eq_some_iff.1 G).1
   exact (h.lps i l G).move hκ (by rw[hL.2.1]) (by rw[hL.2.2]) (i' i k').1 (i' i k').2
 ·intro m x hx;rw[xV,th]at hx
  by_cases a':n=m
  ·rw[Mp a']at hx;cases hx;exact a'▸ho
  ·rw[Mo a']at hx
   cases G:gt σ.obs m with
   | none=>rw[G]at hx;cases hx
   | some y =>
    rw[G]at hx;have:y.mp κ=x:=jQ hx;subst this;have I:m≠n:=fun e=>a' e.symm
    exact (h.ob m y G).move hκ O (hm m I).1 (hm m I).2 (fun g l'=>hb m y g I G l')
 ·intro a b x y g J hx hy c' Z;rw[xV,th]at hx hy;have d':∀(m:Nat) (z:Ob),n≠m->(if n=m then some ob else (gt σ.obs m).map (Ob.mp κ))=some z->∃y,gt σ.obs m=some y:=by
   intro m z I hz;rw[Mo I]at hz
   cases G:gt σ.obs m with
   | none=>rw[G]at hz;cases hz
   | some y=>exact⟨y,rfl⟩
  by_cases f':n=a
  ·subst f';obtain⟨y',g'⟩:=d' b y J hy;rw[(hm b (MT J)).1]at Z;exact ha b y' g (MT J) g' c' Z
  ·obtain⟨x',j'⟩:=d' a x f' hx;rw[(hm a (MT f')).1]at c'
   by_cases h':n=b
   ·subst h';exact ha a x' g J j' Z c'
   ·obtain⟨y',g'⟩:=d' b y h' hy;rw[(hm b (MT h')).1]at Z;exact h.apart a b x' y' g J j' g' c' Z
theorem SR.grow (h:SR gl n0 M w σ S) (G:Mm w w') (F:Nat->Nat) (hF:∀b,b<w.heap.size->F b=M.F b):SR gl n0 { M with F:=F } w' σ S:=by
 have z:Kept M.F w F w':=Kept.below G fun b G=>N2 (hF b G).symm
 have hκ:∀t v,Rv M w t v->Rv { M with F:=F } w' (id t) v:=fun t v k=>k.kept (M':={ M with F:=F }) z rfl rfl
 have O:∀x:Ob,x.mp id=x:=fun x=>by cases x<;>simp[Ob.mp]
 have a':LM M { M with F:=F }:=LM.refl M;have I:∀f:Fr,Fr.mp id f=f:=fun f=>by cases f;simp[Fr.mp]
 refine⟨Mx h.size G.size,fun n x hx=>?_,h.apart,?_,fun g cs Z=>(h.gls g cs Z).kept z,h.nl,fun i lp hi=>?_,h.nd,h.sep⟩
 ·have:=(h.ob n x hx).move (M':={ M with F:=F }) (κ:=id) hκ z rfl rfl (fun g Z=>⟨G.block g ((h.ob n x hx).lt Z).1,hF g ((h.ob n x hx).lt Z).1⟩)
  rwa [O]at this
 ·have:=h.stk.mp hκ a' (fun i hi=>G.block _ (h.lp_lt hi).2);rw[show σ.stk.map (Fr.mp id)=σ.stk by rw[show Fr.mp id=id from funext I];simp]at this;exact this
 ·have J:i<M.nl:=by rw[<-h.nl];exact (List.getElem?_eq_some_iff.1 hi).1
  have:=(h.lps i lp hi).move (M':={ M with F:=F }) (κ:=id) hκ rfl rfl (G.block _ (h.lp_lt J).1) (G.block _ (h.lp_lt J).2);rw[I]at this;exact this
theorem SR.less (h:SR gl n0 M w σ S) (z:∀n x,gt σ'.obs n=some x->gt σ.obs n=some x) (hf:Stk M w σ'.stk S) (J:σ'.lps=σ.lps) (O:σ'.stk.flatMap (·.ds)=σ.stk.flatMap (·.ds)):SR gl n0 M w σ' S :=
 ⟨h.size,fun n x I=>h.ob n x (z n x I),fun m n x y g G I hy=>h.apart m n x y g G (z m x I) (z n y hy),hf,h.gls,by rw[J];exact h.nl,by rw[J];exact h.lps,by rw[O];exact h.nd,h.sep⟩
theorem TmOk.less {f z:Fr} {t:Array Value} (h:TmOk M w f t) (I:z.n=f.n) (hs:∀s x,gt z.l s=some x->gt f.l s=some x):TmOk M w z t:=⟨by rw[I];exact h.1,fun s x G=>h.2 s x (hs s x G)⟩
theorem FrOk.less {f z:Fr} {t:Rf} (h:FrOk M w f t) (I:z.n=f.n) (hs:∀s x,gt z.l s=some x->gt f.l s=some x) (hr:z.rd=f.rd) (G:z.ds=f.ds):FrOk M w z t :=
 ⟨h.tm.less I hs,by rw[hr];exact h.rd,by rw[hr];exact h.rl,by rw[G];exact h.ds,by rw[G];exact h.dl,by rw[G];exact h.dm⟩
theorem TmOk.put {f:Fr} {t:Array Value} (h:TmOk M w f t) (d:Nat) {x:V} {v:Value} (z:d<f.n) (G:Rv M w x v):TmOk M w { f with l:=pt f.l d x } (t.setIfInBounds d v):=by
 refine⟨jQ h.1,?_⟩;intro s y hy;rw[xV]at hy
 by_cases e:d=s
 ·subst e;rw[Mp rfl]at hy;cases hy;exact⟨v,by simp[h.1,z],G⟩
 ·rw[Mo e]at hy;obtain⟨u,J,I⟩:=h.2 s y hy;exact⟨u,by rw[PA e];exact J,I⟩
structure Ff (n0 N N':Nat) (M:Mem) (w:World) (M':Mem) (w':World):Prop where
 lo:∀b,b<n0->M'.F b=M.F b
 kp:Kept M.F w M'.F w'
 hk:∀n,n<N->M'.h n=M.h n/\M'.k n=M.k n
 lm:LM M M'
 nn:N<=N'
theorem Ff.refl (n0 N:Nat) (M:Mem) (w:World):Ff n0 N N M w M w:=⟨fun _ _=>rfl,Kept.refl _ _,fun _ _=>⟨rfl,rfl⟩,LM.refl M,Mt _⟩
theorem Ff.trans {N J z:Nat} {I:Mem} {G:World} (h:Ff n0 N J M w M' w') (k:Ff n0 J z M' w' I G):Ff n0 N z M w I G :=
 ⟨fun b O=>(k.lo b O).trans (h.lo b O),h.kp.trans k.kp,fun n hn=>let ⟨a,b⟩:=h.hk n hn;let ⟨c,d⟩:=k.hk n (ME hn h.nn);⟨c.trans a,d.trans b⟩,
  ⟨Mx h.lm.1 k.lm.1,fun i Z=>let ⟨a,b⟩:=h.lm.2 i Z;let ⟨c,d⟩:=k.lm.2 i (ME Z h.lm.1);⟨c.trans a,d.trans b⟩⟩,Mx h.nn k.nn⟩
theorem Ff.mono {N z K:Nat} (h:Ff n0 N z M w M' w') (hk:z<=K):Ff n0 N K M w M' w':=⟨h.lo,h.kp,h.hk,h.lm,Mx h.nn hk⟩
theorem Ff.more {N:Nat} {F:Nat->Nat} (hF:∀b,M.F b<=F b) (h0:∀b,b<n0->F b=M.F b):Ff n0 N N M w { M with F:=F } w :=
 ⟨h0,fun b n u h e=>⟨e,ME h (hF b)⟩,fun _ _=>⟨rfl,rfl⟩,LM.refl M,Mt _⟩
theorem Ff.grow {N:Nat} {F:Nat->Nat} (h:Mm w w') (hF:∀b,b<w.heap.size->F b=M.F b) (h0:n0<=w.heap.size):Ff n0 N N M w { M with F:=F } w' :=
 ⟨fun b h=>hF b om,Kept.below h fun b h=>N2 (hF b h).symm,fun _ _=>⟨rfl,rfl⟩,LM.refl M,Mt _⟩
theorem Ff.same {N:Nat} (h:Kept M.F w M.F w'):Ff n0 N N M w M w':=⟨fun _ _=>rfl,h,fun _ _=>⟨rfl,rfl⟩,LM.refl M,Mt _⟩
theorem Ff.put {n:Nat} {ob:Ob} (h:Kept M.F w M.F w'):Ff n0 (nx σ.obs) (nx (pt σ.obs n ob)) M w M w':=(Ff.same h).mono (by rw[BD];omega)
def rf (a:Act) (ρ:Option Nat):Rf:=⟨a.tmps,a.defers,ρ⟩
end
end
section
mutual
def Tr.toVal:Tr->Option Value
 | .at v=>some v
 | .agg cs=>(Tr.toVals cs).map fun l=>.agg l.toArray
 | .tup cs=>(Tr.toVals cs).map fun l=>.tuple l.toArray
 | .fn f a b=>match Tr.toVals a,Tr.toVals b with|some x,some y=>some (.func f x.toArray y.toArray)|_,_=>none
 | _=>none
def Tr.toVals:List Tr->Option (List Value)
 | []=>some []
 | t::l=>match Tr.toVal t,Tr.toVals l with|some v,some m=>some (v::m)|_,_=>none
end
theorem Tr.toVals_get {l:List Tr} {m:List Value} (h:Tr.toVals l=some m):l.length=m.length/\∀(i:Nat) (t:Tr),l[i]?=some t->∃v,m[i]?=some v/\Tr.toVal t=some v:=by
 induction l generalizing m with
 | nil=>rw[Tr.toVals]at h;cases h;exact⟨rfl,fun i t h=>by simp at h⟩
 | cons x l G =>
  rw[Tr.toVals]at h
  split at h
  ·rename_i v O J I
   cases h
   refine⟨by simp[(G I).1],fun i t z=>?_⟩
   cases i with
   | zero=>simp at z;subst z;exact⟨v,rfl,J⟩
   | succ i=>simp at z ⊢;exact (G I).2 i t z
  ·cases h
theorem oX {l:List Tr} {m:List Value} {vs:Array Value} (h:Tr.toVals l=some m) (Z:vs.size=l.length) (I:∀(i:Nat) (t:Tr) (v:Value),l[i]?=some t->vs[i]?=some v->∀u,Tr.toVal t=some u->v=u):vs=m.toArray:=by
 obtain⟨h1,J⟩:=Tr.toVals_get h;apply Array.ext_getElem?;intro i
 by_cases G:i<l.length
 ·obtain⟨u,hu,O⟩:=J i _ (Mq G);have z:i<vs.size:=by omega
  rw[MJ z,OY,hu,I i _ _ (Mq G) (MJ z) u O]
 ·rw[Ot om,OY,NZ om]
theorem ua6 {p:Prop} (h:p:=by
  intro u hu;rw[Tr.toVal]at hu
  cases hm:Tr.toVals cs with
  | none=>rw[hm]at hu;cases hu
  | some m=>rw[hm]at hu;cases hu;rw[oX hm I Z]):p:=h
theorem Rp.toVal {F:Nat->Nat} {w:World} {t:Tr} {v:Value} (h:Rp F w t v):∀u,t.toVal=some u->v=u:=by
 induction h with
 | «at» v=>intro u hu;rw[Tr.toVal]at hu;exact MX hu
 | agg cs vs I h Z =>
  exact ua6
 | tup cs vs I h Z =>
  exact ua6
 | fn f a b va vb J a' ha hb G O =>
  intro u hu;rw[Tr.toVal]at hu
  cases hm:Tr.toVals a with
  | none=>rw[hm]at hu;cases hu
  | some m =>
   cases z:Tr.toVals b with
   | none=>rw[hm,z]at hu;cases hu
   | some m'=>rw[hm,z]at hu;cases hu;rw[oX hm J G,oX z a' O]
 | _=>intro u hu;simp[Tr.toVal]at hu
def V.toVal:V->Option Value
 | .p t=>t.toVal
 | _=>none
def V.unp:List V->Option (List Tr)
 | []=>some []
 | .p t::l=>(V.unp l).map (t::·)
 | _::_=>none
theorem V.unp_eq {l:List V} {m:List Tr} (h:V.unp l=some m):l=m.map .p:=by
 induction l generalizing m with
 | nil=>rw[V.unp]at h;cases h;rfl
 | cons x l z =>
  cases x<;>rw[V.unp]at h<;>first|cases h|skip
  cases hu:V.unp l with
  | none=>rw[hu]at h;cases h
  | some k=>rw[hu]at h;cases h;rw[z hu];rfl
def V.mkAgg (cs:List V):V:=match V.unp cs with|some ts=>.p (.agg ts)|none=>.agg cs
def V.mkTup (cs:List V):V:=match V.unp cs with|some ts=>.p (.tup ts)|none=>.tup cs
def V.mkFn (f:Fn) (a b:List V):V:=match V.unp a,V.unp b with|some x,some y=>.p (.fn f x y)|_,_=>.fn f a b
def V.cells:V->Option (List V)
 | .p t=>some (t.cells.map .p)
 | .agg cs=>some cs
 | .junk=>none
 | v=>some [v]
def V.cell:V->Bool
 | .p t=>t.cell
 | .agg _=>false
 | .tup _=>false
 | .junk=>false
 | _=>true
def Rvs (M:Mem) (w:World) (cs:List V) (vs:List Value):Prop:=vs.length=cs.length/\∀(i:Nat) (t:V) (v:Value),cs[i]?=some t->vs[i]?=some v->Rv M w t v
section
variable {ρ : Option Nat}
variable {gl : Nat -> Option (List Tr)} {n0 : Nat} {M M' : Mem} {w w' : World} {σ σ' : Sg} {S : List Rf}
theorem Rv.inv_p {t:Tr} {v:Value} (h:Rv M w (.p t) v):Rp M.F w t v:=by cases h;assumption
theorem sN {cs:List Tr} {vs:List Value} (h:Rvs M w (cs.map .p) vs):vs.length=cs.length/\∀(i:Nat) (t:Tr) (v:Value),cs[i]?=some t->vs[i]?=some v->Rp M.F w t v :=
 ⟨jQ h.1,fun i t v G z=>(h.2 i (.p t) v (by simp[G]) z).inv_p⟩
theorem Rv.mkAgg {cs:List V} {vs:List Value} (h:Rvs M w cs vs):Rv M w (V.mkAgg cs) (.agg vs.toArray):=by
 unfold V.mkAgg
 split
 ·rename_i ts hu
  rw[V.unp_eq hu]at h;obtain⟨J,I⟩:=sN h;exact .p _ _ (.agg ts _ (jQ J) (fun i t v G z=>I i t v G (jQ z)))
 ·exact .agg _ _ (jQ h.1) (fun i t v G z=>h.2 i t v G (jQ z))
theorem Rv.mkTup {cs:List V} {vs:List Value} (h:Rvs M w cs vs):Rv M w (V.mkTup cs) (.tuple vs.toArray):=by
 unfold V.mkTup
 split
 ·rename_i ts hu
  rw[V.unp_eq hu]at h;obtain⟨J,I⟩:=sN h;exact .p _ _ (.tup ts _ (jQ J) (fun i t v G z=>I i t v G (jQ z)))
 ·exact .tup _ _ (jQ h.1) (fun i t v G z=>h.2 i t v G (jQ z))
theorem Rv.mkFn {f:Fn} {a b:List V} {O J:List Value} (I:Rvs M w a O) (G:Rvs M w b J):Rv M w (V.mkFn f a b) (.func f O.toArray J.toArray):=by
 unfold V.mkFn
 split
 ·rename_i x y hx hy
  rw[V.unp_eq hx]at I;rw[V.unp_eq hy]at G;obtain⟨h1,Z⟩:=sN I;obtain⟨h3,h4⟩:=sN G;exact .p _ _ (.fn f x y _ _ (jQ h1) (jQ h3) (fun i t v h z=>Z i t v h (jQ z)) (fun i t v h z=>h4 i t v h (jQ z)))
 ·exact .fn f a b _ _ (jQ I.1) (jQ G.1) (fun i t v h z=>I.2 i t v h (jQ z)) (fun i t v h z=>G.2 i t v h (jQ z))
theorem kF {x:V} {v:Value} (h:Rv M w x v):Rvs M w [x] [v]:=⟨rfl,fun i t u z G=>by
 cases i with
 | zero=>simp at z G;subst z;subst G;exact h
 | succ i=>simp at z⟩
theorem Rp.cells {F:Nat->Nat} {t:Tr} {v:Value} (h:Rp F w t v):v.cells.toList.length=t.cells.length/\∀(i:Nat) (s:Tr) (u:Value),t.cells[i]?=some s->v.cells.toList[i]?=some u->Rp F w s u:=by
 have one:∀{t:Tr} {v:Value},Rp F w t v->[v].length=[t].length/\∀(i:Nat) (s:Tr) (u:Value),[t][i]?=some s->[v][i]?=some u->Rp F w s u:=fun {t v} h=>⟨rfl,fun i s u J h2=>by
  cases i with
  | zero=>simp at J h2;subst J;subst h2;exact h
  | succ i=>simp at J⟩
 cases h with
 | «at» v =>
  cases v with
  | agg vs =>
   refine⟨by simp[Tr.cells,Value.cells],fun i t v z G=>?_⟩;simp only[Tr.cells,MA,Value.cells]at z G;rw[G]at z;have:Tr.at v=t:=jQ z;exact this▸.at v
  | _=>exact one (.at _)
 | agg cs vs O h=>exact⟨by simp[Tr.cells,Value.cells,O],fun i t v z G=>h i t v z (by simpa [Value.cells] using G)⟩
 | tup cs vs O h=>exact one (.tup cs vs O h)
 | nil a cap=>exact one (.nil a cap)
 | lst full es A o cap k g hk hc I h hf hle hm=>exact one (.lst full es A o cap k g hk hc I h hf hle hm)
 | elp cs A o g hc I h=>exact one (.elp cs A o g hc I h)
 | fn f a b va vb Z a' ha hb=>exact one (.fn f a b va vb Z a' ha hb)
theorem D3 {v:Value} (h:v.oneCell'=true):v.cells.toList=[v]:=by cases v<;>first|rfl|cases h
theorem Rv.cells {x:V} {v:Value} {cs:List V} (h:Rv M w x v) (z:x.cells=some cs):Rvs M w cs v.cells.toList:=by
 cases h with
 | p t v h =>
  cases z
  obtain⟨G,I⟩:=h.cells;refine⟨jQ G,fun i s u hs hu=>?_⟩;rw[MA]at hs
  cases J:t.cells[i]? with
  | none=>rw[J]at hs;cases hs
  | some s' =>
   rw[J]at hs;have:V.p s'=s:=jQ hs;exact this▸.p _ _ (I i s' u J hu)
 | agg cs vs O h=>cases z;exact⟨by simp[Value.cells,O],fun i t v ht hv=>h i t v ht (by simpa [Value.cells] using hv)⟩
 | tup cs vs O h=>cases z;exact kF (.tup cs vs O h)
 | ref n G=>cases z;rw[D3 G];exact kF (.ref n G)
 | off n i o=>cases z;exact kF (.off n i o)
 | arr n k len full cap G I=>cases z;exact kF (.arr n k len full cap G I)
 | fn f a b va vb Z a' ha hb=>cases z;exact kF (.fn f a b va vb Z a' ha hb)
 | yld i hi=>cases z;exact kF (.yld i hi)
 | junk v=>cases z
theorem Rv.oneCell {x:V} {v:Value} (h:Rv M w x v) (G:x.cell=true):v.oneCell'=true:=by
 cases h with
 | p t v h=>exact h.oneCell G
 | ref n z=>exact z
 | off n i o=>rfl
 | arr n k len full cap z O=>rfl
 | fn f a b va vb I J ha Z=>rfl
 | yld i hi=>rfl
 | _=>cases G
def Sg.cur (σ:Sg):Fr:=σ.stk.headD default
def Sg.put (σ:Sg) (d:Option Tmp) (x:V):Option Sg:=match d with|none=>some σ|some d=>if d<σ.cur.n then some ⟨σ.obs,{ σ.cur with l:=ptm σ.cur.l d x }::σ.stk.tail,σ.lps⟩ else none
def evl (gl:Nat->Option (List Tr)) (σ:Sg):Operand->Option V
 | .tmp t=>gtm σ.cur.l t
 | .const v=>some (.p (.at v))
 | .global g=>(gl g).map fun cs=>.p (.elp cs)
 | .func f=>some (.p (.fn (.func f) [] []))
theorem SR.cur {T:Rf} (h:SR gl n0 M w σ (T::S)):∃f l,σ.stk=f::l/\FrOk M w f T:=by
 have:=h.stk
 cases hs:σ.stk with
 | nil=>rw[hs]at this;exact this.elim
 | cons f l=>rw[hs]at this;exact⟨f,l,rfl,this.1⟩
theorem aJ {a:Act} (h:SR gl n0 M w σ (rf a ρ::S)) {x:Operand} {y:V} (hy:evl gl σ x=some y):Rv M w y (a.eval x):=by
 cases x with
 | tmp t =>
  obtain⟨f,l,hs,hf⟩:=h.cur;have I:gt f.l t=some y:=by simpa [evl,Sg.cur,hs,LN] using hy
  obtain⟨v,O,J⟩:=hf.tm.2 t y I;have G:a.tmps[t]?=some v:=O;simp only[Act.eval,PH,G,NS];exact J
 | const v=>cases hy;exact .p _ _ (.at v)
 | global g =>
  cases z:gl g with
  | none=>simp[evl,z]at hy
  | some cs=>simp[evl,z]at hy;subst hy;exact .p _ _ (h.gls g cs z)
 | func f=>cases hy;exact .p _ _ (.fn _ _ _ _ _ rfl rfl (fun i t v h=>by simp at h) (fun i t v h=>by simp at h))
theorem put_defers (a:Act) (d:Option Tmp) (v:Value):(a.put d v).defers=a.defers:=by cases d<;>rfl
theorem SR.put {a:Act} (h:SR gl n0 M w σ (rf a ρ::S)) {x:V} {v:Value} (J:Rv M w x v) {d:Option Tmp} (I:σ.put d x=some σ'):SR gl n0 M w σ' (rf (a.put d v) ρ::S):=by
 cases d with
 | none=>cases I;exact h
 | some t =>
  obtain⟨f,l,hs,hf⟩:=h.cur;have z:(if t<σ.cur.n then some (⟨σ.obs,{ σ.cur with l:=pt σ.cur.l t x }::σ.stk.tail,σ.lps⟩:Sg) else none)=some σ':=by rw[<-EQ];exact I
  split at z
  ·rename_i G
   cases z
   have Z:σ.cur=f:=by simp[Sg.cur,hs]
   rw[Z]at G ⊢;have O:Stk M w l S:=by have:=h.stk;rw[hs]at this;exact this.2
   exact⟨h.size,h.ob,h.apart,⟨⟨hf.tm.put t G J,hf.rd,hf.rl,(by rw[rf,put_defers];exact hf.ds),hf.dl,hf.dm⟩,by simpa [hs] using O⟩,h.gls,h.nl,h.lps,by have:=h.nd;rw[hs]at this;simpa [hs] using this,h.sep⟩
  ·cases z
end
end
end Go.Proofs.YtbjicljfjkdeeaaGreatDoor
