/- Part. -/
import Derived.Test.YteemngnialjaiaaGreatDoorQ02
set_option maxRecDepth 100000
set_option maxHeartbeats 16000000
set_option linter.unusedVariables false
set_option linter.unusedSimpArgs false
namespace Go.Proofs.YteemngnialjaiaaGreatDoor
open Go.Proofs.Tryz Go.RowKit
variable {F:Nat->Nat}{a:Act}{c t:Array Value}{I n0 i base k N o j:Nat}{w w' J:World}{v u:Value}{α β:Type}{e:TypeId}{xs m vs:List Value}{Z:Nat×Nat}{p:Prop}{ρ:Option Nat}{f:Fn}{x:Operand}{d:Option Tmp}{P:Program}
inductive Tr where
 | at (v:Value)
 | agg (cs:List Tr)
 | tup (cs:List Tr)
 | lst (full:Bool) (es:List Tr)
 | elp (cs:List Tr)
 | fn (f:Fn) (a b:List Tr)
 deriving Inhabited
def Tr.cells:Tr->List Tr
 | .at (.agg vs)=>vs.toList.map .at
 | .agg cs=>cs
 | t=>[t]
def Tr.cell:Tr->Bool
 | .at v=>v.oneCell'
 | .agg _=>false
 | .tup _=>false
 | _=>true
abbrev aO(es:List Tr):List Tr:=es.flatMap Tr.cells
inductive Rp(F:Nat->Nat)(w:World):Tr->Value->Prop
 | at (v:Value):Rp F w (.at v) v
 | agg (cs:List Tr) (vs:Array Value) (hl:vs.size=cs.length) (h:∀(i:Nat)(t:Tr)(v:Value),cs[i]?=some t->vs[i]?=some v->Rp F w t v):Rp F w (.agg cs) (.agg vs)
 | tup (cs:List Tr) (vs:Array Value) (hl:vs.size=cs.length) (h:∀(i:Nat)(t:Tr)(v:Value),cs[i]?=some t->vs[i]?=some v->Rp F w t v):Rp F w (.tup cs) (.tuple vs)
 | nil (a:Option Addr) (cap:Nat) (hm:cap<=maxLen):Rp F w (.lst false []) (.slice a 0 cap)
 | lst (full:Bool) (es:List Tr) (A o cap k:Nat) (g:Nat->Value) (hk:∀e∈es,e.cells.length=k) (hc:∀t∈aO es,t.cell=true)
   (hg:∀j,j<(aO es).length->w.cell? ⟨A,o+j,none⟩=some (g j)/\o+j<F A) (h:∀(j:Nat)(t:Tr),(aO es)[j]?=some t->Rp F w t (g j))
   (hf:full=true->cap=es.length) (hle:es.length<=cap) (hm:cap<=maxLen):Rp F w (.lst full es) (.slice (some ⟨A,o,none⟩) es.length cap)
 | elp (cs:List Tr) (A o:Nat) (g:Nat->Value) (hc:∀t∈cs,t.cell=true)
   (hg:∀j,j<cs.length->w.cell? ⟨A,o+j,none⟩=some (g j)/\o+j<F A) (h:∀(j:Nat)(t:Tr),cs[j]?=some t->Rp F w t (g j)):Rp F w (.elp cs) (.pointer (some ⟨A,o,none⟩))
 | fn (f:Fn) (a b:List Tr) (va vb:Array Value) (hla:va.size=a.length) (hlb:vb.size=b.length) (ha:∀(i:Nat)(t:Tr)(v:Value),a[i]?=some t->va[i]?=some v->Rp F w t v)
   (hb:∀(i:Nat)(t:Tr)(v:Value),b[i]?=some t->vb[i]?=some v->Rp F w t v):Rp F w (.fn f a b) (.func f va vb)
def Kept(F:Nat->Nat)(w:World)(h:Nat->Nat)(w':World):Prop:=∀b n u,n<F b->w.cell? ⟨b,n,none⟩=some u->w'.cell? ⟨b,n,none⟩=some u/\n<h b
theorem Kept.refl(F:Nat->Nat)(w:World):Kept F w F w:=fun _ _ _ h e=>⟨e,h⟩
theorem Kept.trans{G H:Nat->Nat}{a b c:World}(h:Kept F a G b)(k:Kept G b H c):Kept F a H c:=fun x n u J e=>let ⟨e',I⟩:=h x n u J e;k x n u I e'
theorem Kept.below{I:Nat->Nat}(J:OD w w')(hF:∀b,b<w.heap.size->F b<=I b):Kept F w I w':=fun b n u Z e=>by
 have h:=OV w ⟨b,n,none⟩ e;exact⟨(J.cell (p:=⟨b,n,none⟩) h).trans e,OT Z (hF b h)⟩
theorem Rp.kept{F':Nat->Nat}(k:Kept F w F' w'){t:Tr}(h:Rp F w t v):Rp F' w' t v:=by
 induction h with
 | «at» v=>exact .at v
 | agg cs vs hl h I=>exact .agg cs vs hl I
 | tup cs vs hl h I=>exact .tup cs vs hl I
 | nil a cap hm=>exact .nil a cap hm
 | lst full es A o cap kk g hk hc J h hf hle hm I=>exact .lst full es A o cap kk g hk hc (fun j Z=>k _ _ _ (J j Z).2 (J j Z).1) I hf hle hm
 | elp cs A o g hc J h I=>exact .elp cs A o g hc (fun j Z=>k _ _ _ (J j Z).2 (J j Z).1) I
 | fn f a b va vb c' f' ha hb a' d'=>exact .fn f a b va vb c' f' a' d'
theorem Rp.oneCell{t:Tr}(h:Rp F w t v)(I:t.cell=true):v.oneCell'=true:=by
 cases h<;>first|exact I|rfl|cases I
inductive V where
 | p (t:Tr)
 | agg (cs:List V)
 | tup (cs:List V)
 | ref (n:Nat)
 | off (n i o:Nat)
 | arr (n k len:Nat) (full:Bool)
 | fn (f:Fn) (a b:List V)
 | yld (i:Nat)
 | vw (n lo len:Nat)
 | junk
 deriving Inhabited
structure Mem where
 F:Nat->Nat
 h:Nat->Value
 k:Nat->Nat
 lp:Nat->Nat
 mq:Nat->Nat
 nl:Nat
def LM(M M':Mem):Prop:=M.nl<=M'.nl/\∀i,i<M.nl->M'.lp i=M.lp i/\M'.mq i=M.mq i
theorem LM.refl(M:Mem):LM M M:=⟨OI _,fun _ _=>⟨rfl,rfl⟩⟩
def gj:Value->Nat
 | .pointer (some a)=>a.block
 | .slice (some a) _ _=>a.block
 | .map (some r)=>r
 | _=>0
inductive Rv(M:Mem)(w:World):V->Value->Prop
 | p (t:Tr) (v:Value) (h:Rp M.F w t v):Rv M w (.p t) v
 | agg (cs:List V) (vs:Array Value) (hl:vs.size=cs.length) (h:∀(i:Nat)(t:V)(v:Value),cs[i]?=some t->vs[i]?=some v->Rv M w t v):Rv M w (.agg cs) (.agg vs)
 | tup (cs:List V) (vs:Array Value) (hl:vs.size=cs.length) (h:∀(i:Nat)(t:V)(v:Value),cs[i]?=some t->vs[i]?=some v->Rv M w t v):Rv M w (.tup cs) (.tuple vs)
 | ref (n:Nat) (hc:(M.h n).oneCell'=true):Rv M w (.ref n) (M.h n)
 | off (n i o:Nat):Rv M w (.off n i o) (.pointer (some ⟨gj (M.h n),i*M.k n+o,none⟩))
 | arr (n k len:Nat) (full:Bool) (cap:Nat) (hc:len<=cap) (hf:full=true->cap=len) (hx:cap<=maxLen):Rv M w (.arr n k len full) (.slice (some ⟨gj (M.h n),0,none⟩) len cap)
 | fn (f:Fn) (a b:List V) (va vb:Array Value) (hla:va.size=a.length) (hlb:vb.size=b.length) (ha:∀(i:Nat)(t:V)(v:Value),a[i]?=some t->va[i]?=some v->Rv M w t v)
   (hb:∀(i:Nat)(t:V)(v:Value),b[i]?=some t->vb[i]?=some v->Rv M w t v):Rv M w (.fn f a b) (.func f va vb)
 | yld (i:Nat) (h:i<M.nl):Rv M w (.yld i) (.func (.yield (M.lp i)) #[] #[])
 | vw (n lo len:Nat) (p:Option Addr) (cap:Nat) (hp:0<len->p=some ⟨gj (M.h n),lo*M.k n,none⟩) (hc:len<=cap):Rv M w (.vw n lo len) (.slice p len cap)
 | junk (v:Value):Rv M w .junk v
mutual
def V.kill(n:Nat):V->V
 | .p t=>.p t
 | .agg cs=>.agg (V.kills n cs)
 | .tup cs=>.tup (V.kills n cs)
 | .ref m=>if m=n then .junk else .ref m
 | .off m i o=>if m=n then .junk else .off m i o
 | .arr m k len full=>if m=n then .junk else .arr m k len full
 | .fn f a b=>.fn f (V.kills n a) (V.kills n b)
 | .yld i=>.yld i
 | .vw m h len=>if m=n then .junk else .vw m h len
 | .junk=>.junk
def V.kills(n:Nat):List V->List V
 | []=>[]
 | v::l=>V.kill n v::V.kills n l
end
theorem V.kills_eq(n:Nat)(l:List V):V.kills n l=l.map (V.kill n):=by
 induction l with
 | nil=>rw[V.kills];rfl
 | cons a l h=>rw[V.kills,h];rfl
theorem Rv.step{M M':Mem}{n:Nat}(k:Kept M.F w M'.F w')(J:∀m,m≠n->M'.h m=M.h m/\M'.k m=M.k m)(hL:LM M M':=by exact LM.refl _){t:V}(h:Rv M w t v):Rv M' w' (t.kill n) v:=by
 have mp:∀(cs:List V)(vs:Array Value),(∀(i:Nat)(t:V)(v:Value),cs[i]?=some t->vs[i]?=some v->Rv M' w' (t.kill n) v) ->
   ∀(i:Nat)(t:V)(v:Value),(V.kills n cs)[i]?=some t->vs[i]?=some v->Rv M' w' t v:=by
  intro cs vs ih i t v h1 h2;rw[V.kills_eq,OQ]at h1
  cases h3:cs[i]? with
  | none=>rw[h3]at h1;cases h1
  | some t' =>
   rw[h3]at h1;have:t'.kill n=t:=jQ h1;exact this▸ih i t' v h3 h2
 have ln:∀cs:List V,(V.kills n cs).length=cs.length:=fun cs=>by rw[V.kills_eq];simp
 induction h with
 | p t v h=>rw[V.kill];exact .p t v (h.kept k)
 | agg cs vs hl h ih=>rw[V.kill];exact .agg _ vs (by rw[ln];exact hl) (mp cs vs ih)
 | tup cs vs hl h ih=>rw[V.kill];exact .tup _ vs (by rw[ln];exact hl) (mp cs vs ih)
 | ref m Z =>
  rw[V.kill]
  split
  ·exact .junk _
  ·rename_i I;rw[<-(J m I).1]at Z ⊢;exact .ref m Z
 | off m i o =>
  rw[V.kill]
  split
  ·exact .junk _
  ·rename_i I;rw[<-(J m I).1,<-(J m I).2];exact .off m i o
 | arr m k len full cap Z hf hx =>
  rw[V.kill]
  split
  ·exact .junk _
  ·rename_i I;rw[<-(J m I).1];exact .arr m k len full cap Z hf hx
 | fn f a b va vb c' f' ha hb a' d'=>rw[V.kill];exact .fn f _ _ va vb (by rw[ln];exact c') (by rw[ln];exact f') (mp a va a') (mp b vb d')
 | yld i hi=>rw[V.kill,<-(hL.2 i hi).1];exact .yld i (OT hi hL.1)
 | vw m lo len p cap hp Z =>
  rw[V.kill]
  split
  ·exact .junk _
  ·rename_i I;exact .vw m lo len p cap (by rw[(J m I).1,(J m I).2];exact hp) Z
 | junk v=>rw[V.kill];exact .junk v
theorem Rv.kept{M M':Mem}(k:Kept M.F w M'.F w')(J:M'.h=M.h)(hk:M'.k=M.k)(hL:LM M M':=by exact LM.refl _){t:V}(h:Rv M w t v):Rv M' w' t v:=by
 induction h with
 | p t v h=>exact .p t v (h.kept k)
 | agg cs vs hl h ih=>exact .agg _ vs hl ih
 | tup cs vs hl h ih=>exact .tup _ vs hl ih
 | ref m I=>rw[<-J]at I ⊢;exact .ref m I
 | off m i o=>rw[<-J,<-hk];exact .off m i o
 | arr m k len full cap I hf hx=>rw[<-J];exact .arr m k len full cap I hf hx
 | fn f a b va vb a' d' ha hb Z c'=>exact .fn f _ _ va vb a' d' Z c'
 | yld i hi=>rw[<-(hL.2 i hi).1];exact .yld i (OT hi hL.1)
 | vw m lo len p cap hp I=>exact .vw m lo len p cap (by rw[J,hk];exact hp) I
 | junk v=>exact .junk v
section
inductive Ob where
 | box (cs:List V)
 | row (e:TypeId) (k:Nat) (es:List Tr) (fz:Bool)
 | map (es:List (Value × V × Nat)) (cl:Nat)
 deriving Inhabited
def gt:List (Nat × α)->Nat->Option α
 | [],_=>none
 | x::l,n=>if x.1=n then some x.2 else gt l n
def pt:List (Nat × α)->Nat->α->List (Nat × α)
 | [],n,v=>[(n,v)]
 | x::l,n,v=>if x.1=n then (n,v)::l else x::pt l n v
def gtm:List (Nat × α)->Nat->Option α
 | [],_=>none
 | x::l,n=>match Nat.beq x.1 n with|true=>some x.2|false=>gtm l n
def ptm:List (Nat × α)->Nat->α->List (Nat × α)
 | [],n,v=>[(n,v)]
 | x::l,n,v=>match Nat.beq x.1 n with|true=>(n,v)::l|false=>x::ptm l n v
theorem GR(m n:Nat)(a b:β):(match Nat.beq m n with|true=>a|false=>b)=if m=n then a else b:=by
 cases h:Nat.beq m n with
 | true=>rw[OG (R4 h)]
 | false=>rw[OF (Nat.ne_of_beq_eq_false h)]
theorem iN(l:List (Nat × α))(n:Nat):gtm l n=gt l n:=by
 induction l with
 | nil=>rfl
 | cons x l h=>rw[gtm,gt,h];exact GR _ _ _ _
theorem nz(l:List (Nat × α))(n:Nat)(v:α):ptm l n v=pt l n v:=by
 induction l with
 | nil=>rfl
 | cons x l h=>rw[ptm,pt,h];exact GR _ _ _ _
theorem gz(l:List (Nat × α))(n m:Nat)(v:α):gt (pt l n v) m=if n=m then some v else gt l m:=by
 induction l with
 | nil=>simp[pt,gt]
 | cons x l I=>unfold pt;by_cases h:x.1=n<;>by_cases J:n=m<;>simp_all [gt]
def nx:List (Nat × α)->Nat
 | []=>0
 | x::l=>max (x.1+1) (nx l)
theorem lx(l:List (Nat × α))(n:Nat)(v:α):nx (pt l n v)=max (n+1) (nx l):=by
 induction l with
 | nil=>simp[pt,nx]
 | cons x l h=>unfold pt;split<;>simp only[nx]<;>omega
theorem Nm(f:α->α)(l:List (Nat × α)):nx (l.map fun x=>(x.1,f x.2))=nx l:=by
 induction l with
 | nil=>rfl
 | cons x l h=>simp only[OU,nx,h]
theorem Da{l:List (Nat×α)}{n:Nat}{v:α}(h:gt l n=some v):n<nx l:=by
 induction l with
 | nil=>cases h
 | cons x l I =>
  simp only[gt]at h;simp only[nx]
  split at h
  ·omega
  ·have:=I h;omega
def rm:List (Nat × α)->Nat->List (Nat × α)
 | [],_=>[]
 | x::l,n=>if x.1=n then rm l n else x::rm l n
theorem yD(l:List (Nat × α))(n m:Nat):gt (rm l n) m=if n=m then none else gt l m:=by
 induction l with
 | nil=>simp[rm,gt]
 | cons x l I=>unfold rm;by_cases h:x.1=n<;>by_cases J:n=m<;>simp_all [gt]
theorem vm(f:α->α)(l:List (Nat × α))(n:Nat):gt (l.map fun x=>(x.1,f x.2)) n=(gt l n).map f:=by
 induction l with
 | nil=>rfl
 | cons x l h=>simp only[OU,gt,h];split<;>rfl
structure Fr where
 n:Nat
 l:List (Nat × V)
 rd:Option Nat:=none
 ds:List Nat:=[]
 deriving Inhabited
structure Lp where
 fr:Fr
 ps:Array Tmp
 asg:Code
 bd:Code
 st:LoopState
 pend:Option Code
 adr:Option Nat:=none
 deriving Inhabited
structure Sg where
 obs:List (Nat × Ob)
 stk:List Fr
 lps:List Lp:=[]
 deriving Inhabited
structure Rf where
 tmps:Array Value
 defers:List Deferred
 round:Option Nat
def Ob.mp(κ:V->V):Ob->Ob
 | .box cs=>.box (cs.map κ)
 | .map es cl=>.map (es.map fun x=>(x.1,κ x.2.1,x.2.2)) cl
 | o=>o
def Fr.mp(κ:V->V)(f:Fr):Fr:={ f with l:=f.l.map fun x=>(x.1,κ x.2) }
def Sg.mp(κ:V->V)(σ:Sg):Sg:=⟨σ.obs.map fun x=>(x.1,x.2.mp κ),σ.stk.map (Fr.mp κ),σ.lps.map fun x=>{ x with fr:=x.fr.mp κ }⟩
def dj:Value->Option Nat
 | .pointer (some a)=>some a.block
 | .slice (some a) _ _=>some a.block
 | .map (some r)=>some r
 | _=>none
def ObOk(n0:Nat)(M:Mem)(w:World)(n:Nat):Ob->Prop
 | .box cs=>∃A c Z,M.h n=.pointer (some ⟨A,0,none⟩)/\n0<=A/\M.F A=0/\w.heap[A]?=some (.cells c Z (0,0))/\cs.length<=c.size /\
   ∀(i:Nat)(t:V)(v:Value),cs[i]?=some t->c[i]?=some v->Rv M w t v
 | .row e k es J=>M.k n=k/\0<k/\∃xs,w.ownsRow n0 e k (M.h n) es.length xs/\(∀t∈es,t.cells.length=k)/\(∀t∈aO es,t.cell=true) /\
    (∀(j:Nat)(t:Tr)(u:Value),(aO es)[j]?=some t->xs[j]?=some u->Rp M.F w t u)/\∀g,dj (M.h n)=some g->if J=true then es.length*k<=M.F g else M.F g=0
 | .map es cl=>∃r I,M.h n=.map (some r)/\n0<=r/\w.heap[r]?=some (.map I cl)/\I.size=es.length /\
   ∀(i:Nat)(x:Value × V × Nat)(e:MapEntry),es[i]?=some x->I[i]?=some e->e.key=x.1/\Rv M w x.2.1 e.val/\e.born=x.2.2
def TmOk(M:Mem)(w:World)(f:Fr)(h:Array Value):Prop:=h.size=f.n/\∀t x,gt f.l t=some x->∃v,h[t]?=some v/\Rv M w x v
def mkD(M:Mem)(i:Nat):Deferred:={ target:=.collected (M.mq i),args:=#[] }
structure FrOk(M:Mem)(w:World)(f:Fr)(t:Rf):Prop where
 tm:TmOk M w f t.tmps
 rd:t.round=f.rd.map M.lp
 rl:∀i,f.rd=some i->i<M.nl
 ds:t.defers=f.ds.map (mkD M)
 dl:∀i,i∈f.ds->i<M.nl
 dm:∀i,i∈f.ds->w.heap[M.mq i]?=some (.deferred (some []))
def LpOk(n0:Nat)(M:Mem)(w:World)(i:Nat)(lp:Lp):Prop :=
 ∃fid T,w.heap[M.lp i]?=some (.loop { state:=lp.st,pending:=lp.pend,fn:=fid,tmps:=T,params:=lp.ps,assign:=lp.asg,body:=lp.bd,defers:=M.mq i }) /\
  (∃ds,w.heap[M.mq i]?=some (.deferred ds))/\n0<=M.lp i/\n0<=M.mq i/\TmOk M w lp.fr T/\∀L,lp.adr=some L->M.lp i=L
def Stk(M:Mem)(w:World):List Fr->List Rf->Prop
 | [],[]=>True
 | f::l,t::m=>FrOk M w f t/\Stk M w l m
 | _,_=>False
def GOk(gl:Nat->Option (List Tr))(F:Nat->Nat)(w:World):Prop:=∀g cs,gl g=some cs->Rp F w (.elp cs) (.pointer (some ⟨g,0,none⟩))
structure SR(gl:Nat->Option (List Tr))(n0:Nat)(M:Mem)(w:World)(σ:Sg)(S:List Rf):Prop where
 size:n0<=w.heap.size
 ob:∀n x,gt σ.obs n=some x->ObOk n0 M w n x
 apart:∀m n x y g,m≠n->gt σ.obs m=some x->gt σ.obs n=some y->dj (M.h m)=some g->dj (M.h n)≠some g
 stk:Stk M w σ.stk S
 gls:GOk gl M.F w
 nl:σ.lps.length=M.nl
 lps:∀i lp,σ.lps[i]?=some lp->LpOk n0 M w i lp
 nd:((σ.stk.flatMap (·.ds)).map M.mq).Nodup
 sep:∀i j,i<M.nl->j<M.nl->M.lp i≠M.mq j/\(i≠j->M.lp i≠M.lp j)
section
variable {gl:Nat->Option (List Tr)}{M M':Mem}{σ σ':Sg}{S:List Rf}
theorem TmOk.mp{κ:V->V}(hκ:∀t v,Rv M w t v->Rv M' w' (κ t) v){f:Fr}(h:TmOk M w f t):TmOk M' w' (f.mp κ) t:=by
 refine⟨h.1,?_⟩;intro s x I;rw[Fr.mp,vm]at I
 cases J:gt f.l s with
 | none=>rw[J]at I;cases I
 | some y =>
  rw[J]at I;have:κ y=x:=jQ I;subst this;obtain⟨v,h1,Z⟩:=h.2 s y J;exact⟨v,h1,hκ y v Z⟩
theorem Nn(hL:LM M M')(h:i<M.nl):mkD M' i=mkD M i:=by unfold mkD;rw[(hL.2 i h).2]
theorem FrOk.mp{κ:V->V}(J:∀t v,Rv M w t v->Rv M' w' (κ t) v)(hL:LM M M')(hq:∀i,i<M.nl->w'.heap[M.mq i]?=w.heap[M.mq i]?){f:Fr}{t:Rf}(h:FrOk M w f t):FrOk M' w' (f.mp κ) t:=by
 refine⟨h.tm.mp J,?_,fun i I=>OT (h.rl i I) hL.1,?_,fun i I=>OT (h.dl i I) hL.1,fun i I=>by rw[(hL.2 i (h.dl i I)).2,hq i (h.dl i I)];exact h.dm i I⟩
 ·rw[h.rd];show f.rd.map M.lp=f.rd.map M'.lp
  cases hr:f.rd with
  | none=>rfl
  | some i=>simp only[PD,(hL.2 i (h.rl i hr)).1]
 ·rw[h.ds];exact QY fun i I=>(Nn hL (h.dl i I)).symm
theorem Stk.mp{κ:V->V}(I:∀t v,Rv M w t v->Rv M' w' (κ t) v)(hL:LM M M')(hq:∀i,i<M.nl->w'.heap[M.mq i]?=w.heap[M.mq i]?):∀{f:List Fr}{S:List Rf},Stk M w f S->Stk M' w' (f.map (Fr.mp κ)) S
 | [],[],_=>trivial
 | _::_,_::_,h=>⟨h.1.mp I hL hq,Stk.mp I hL hq h.2⟩
 | [],_::_,h=>h.elim
 | _::_,[],h=>h.elim
theorem ObOk.lt{n:Nat}{x:Ob}(h:ObOk n0 M w n x){g:Nat}(I:dj (M.h n)=some g):g<w.heap.size/\n0<=g:=by
 have lt:∀{b:Nat}{o:Obj},w.heap[b]?=some o->b<w.heap.size:=fun {b o} e=>by
  rcases PT b w.heap.size with Z|Z
  ·exact Z
  ·rw[QR Z]at e;cases e
 cases x with
 | box cs =>
  obtain⟨A,c,el,h1,J,h3,h4,-⟩:=h;rw[h1]at I;cases I;exact⟨lt h4,J⟩
 | row e k es fz =>
  obtain⟨-,-,xs,h1,-⟩:=h;rcases h1.2 with ⟨hv,-⟩|⟨g',cap,cur,hv,hb,hh,-⟩
  ·rw[hv]at I;cases I
  ·rw[hv]at I;cases I;exact⟨lt hh,hb⟩
 | map es cl =>
  obtain⟨r,a',h1,J,h3,-⟩:=h;rw[h1]at I;cases I;exact⟨lt h3,J⟩
theorem wn{n:Nat}(h:w.ownsRow base e k v n xs)(hk:∀g,dj v=some g->w'.heap[g]?=w.heap[g]?):w'.ownsRow base e k v n xs:=by
 refine⟨h.1,?_⟩;rcases h.2 with I|⟨g,cap,cur,hv,hg,hh,r⟩
 ·exact .inl I
 ·exact .inr ⟨g,cap,cur,hv,hg,by rw[hk g (by rw[hv];rfl)];exact hh,r⟩
theorem ObOk.move{κ:V->V}{n n':Nat}{x:Ob}(h:ObOk n0 M w n x)(hκ:∀t v,Rv M w t v->Rv M' w' (κ t) v)(I:Kept M.F w M'.F w')(hh:M'.h n'=M.h n)(hk:M'.k n'=M.k n)(hb:∀g,dj (M.h n)=some g->w'.heap[g]?=w.heap[g]?/\M'.F g=M.F g):ObOk n0 M' w' n' (x.mp κ):=by
 cases x with
 | box cs =>
  obtain⟨A,c,el,h1,Z,h3,h4,h5,h6⟩:=h;have hA:=hb A (by rw[h1];rfl);refine⟨A,c,el,by rw[hh];exact h1,Z,by rw[hA.2];exact h3,by rw[hA.1];exact h4,jQ h5,?_⟩;intro i t v ht hv;rw[OQ]at ht
  cases J:cs[i]? with
  | none=>rw[J]at ht;cases ht
  | some t' =>
   rw[J]at ht;have:κ t'=t:=jQ ht;subst this;exact hκ _ _ (h6 i t' v J hv)
 | row e k es fz =>
  obtain⟨h1,Z,xs,a,b,c,d,e⟩:=h;refine⟨by rw[hk];exact h1,Z,xs,?_,b,c,fun j t u h4 h5=>(d j t u h4 h5).kept I,fun g hg=>?_⟩
  ·rw[hh];exact wn a fun g hg=>(hb g hg).1
  ·rw[hh]at hg;rw[(hb g hg).2];exact e g hg
 | map es cl =>
  obtain⟨r,c',h1,Z,h3,h4,h5⟩:=h;refine⟨r,c',by rw[hh];exact h1,Z,by rw[(hb r (by rw[h1];rfl)).1];exact h3,jQ h4,fun i x e ha a'=>?_⟩;rw[OQ]at ha
  cases J:es[i]? with
  | none=>rw[J]at ha;cases ha
  | some y =>
   rw[J]at ha;cases ha;obtain⟨a,b,c⟩:=h5 i y e J a';exact⟨a,hκ _ _ b,c⟩
theorem nP(κ:V->V)(n:Nat):gt (σ.mp κ).obs n=(gt σ.obs n).map (Ob.mp κ):=vm (Ob.mp κ) σ.obs n
theorem LpOk.move{κ:V->V}{lp:Lp}(h:LpOk n0 M w i lp)(hκ:∀t v,Rv M w t v->Rv M' w' (κ t) v)(h1:M'.lp i=M.lp i)(I:M'.mq i=M.mq i)(Z:w'.heap[M.lp i]?=w.heap[M.lp i]?)(J:w'.heap[M.mq i]?=w.heap[M.mq i]?):LpOk n0 M' w' i { lp with fr:=lp.fr.mp κ }:=by
 obtain⟨fid,T,a,⟨ds,b⟩,c,d,e⟩:=h;exact⟨fid,T,by rw[h1,I,Z];exact a,⟨ds,by rw[I,J];exact b⟩,by rw[h1];exact c,by rw[I];exact d,e.1.mp hκ,fun L h=>h1.trans (e.2 L h)⟩
theorem SR.lp_lt(h:SR gl n0 M w σ S)(I:i<M.nl):M.lp i<w.heap.size/\M.mq i<w.heap.size:=by
 rw[<-h.nl]at I;obtain⟨fid,T,a,⟨ds,b⟩,-⟩:=h.lps i _ (OH I);exact⟨(Array.getElem?_eq_some_iff.1 a).1,(Array.getElem?_eq_some_iff.1 b).1⟩
theorem SR.lp_cells(h:SR gl n0 M w σ S){g:Nat}(J:i<M.nl)(I:w.heap[g]?=some (.cells c e Z)):M.lp i≠g/\M.mq i≠g:=by
 rw[<-h.nl]at J;obtain⟨fid,T,a,⟨ds,b⟩,-⟩:=h.lps i _ (OH J);exact⟨fun e=>(by rw[e,I]at a;cases a),fun e=>(by rw[e,I]at b;cases b)⟩
theorem SR.upd{κ:V->V}{n:Nat}{ob:Ob}(h:SR gl n0 M w σ S)(hκ:∀t v,Rv M w t v->Rv M' w' (κ t) v)(a':Kept M.F w M'.F w')(hs:w.heap.size<=w'.heap.size)(hm:∀m,m≠n->M'.h m=M.h m/\M'.k m=M.k m)(hb:∀m x g,m≠n->gt σ.obs m=some x->dj (M.h m)=some g->w'.heap[g]?=w.heap[g]?/\M'.F g=M.F g)(ho:ObOk n0 M' w' n ob)(ha:∀m x g,m≠n->gt σ.obs m=some x->dj (M'.h n)=some g->dj (M.h m)≠some g)(k':∀i,i<M.nl->w'.heap[M.lp i]?=w.heap[M.lp i]?/\w'.heap[M.mq i]?=w.heap[M.mq i]?)(hL:M'.nl=M.nl/\M'.lp=M.lp/\M'.mq=M.mq:=by exact⟨rfl,rfl,rfl⟩) :
  SR gl n0 M' w' ⟨pt (σ.mp κ).obs n ob,(σ.mp κ).stk,(σ.mp κ).lps⟩ S:=by
 have p':LM M M':=⟨Qr hL.1.symm,fun i _=>⟨by rw[hL.2.1],by rw[hL.2.2]⟩⟩;refine⟨OP h.size hs,?_,?_,h.stk.mp hκ p' (fun i hi=>(k' i hi).2),fun g cs I=>(h.gls g cs I).kept a',by simp[Sg.mp,hL.1,h.nl],fun i lp hi=>?_,by
  have e:((σ.mp κ).stk.flatMap (·.ds))=σ.stk.flatMap (·.ds):=by simp only[Sg.mp,R5];rfl
  rw[e,hL.2.2];exact h.nd,by rw[hL.1,hL.2.1,hL.2.2];exact h.sep⟩
 case refine_3 =>
  simp only[Sg.mp,OQ]at hi
  cases I:σ.lps[i]? with
  | none=>rw[I]at hi;cases hi
  | some l =>
   rw[I]at hi;cases hi;have m':i<M.nl:=by rw[<-h.nl];exact (List.getElem?_eq_some_iff.1 I).1
   exact (h.lps i l I).move hκ (by rw[hL.2.1]) (by rw[hL.2.2]) (k' i m').1 (k' i m').2
 ·intro m x hx;rw[gz,nP]at hx
  by_cases d':n=m
  ·rw[OG d']at hx;cases hx;exact d'▸ho
  ·rw[OF d']at hx
   cases I:gt σ.obs m with
   | none=>rw[I]at hx;cases hx
   | some y =>
    rw[I]at hx;have:y.mp κ=x:=jQ hx;subst this;have J:m≠n:=fun e=>d' e.symm
    exact (h.ob m y I).move hκ a' (hm m J).1 (hm m J).2 (fun g n'=>hb m y g J I n')
 ·intro a b x y g Z hx hy f' c';rw[gz,nP]at hx hy;have g':∀(m:Nat)(z:Ob),n≠m->(if n=m then some ob else (gt σ.obs m).map (Ob.mp κ))=some z->∃y,gt σ.obs m=some y:=by
   intro m z J hz;rw[OF J]at hz
   cases I:gt σ.obs m with
   | none=>rw[I]at hz;cases hz
   | some y=>exact⟨y,rfl⟩
  by_cases h':n=a
  ·subst h';obtain⟨y',i'⟩:=g' b y Z hy;rw[(hm b (Pc Z)).1]at c';exact ha b y' g (Pc Z) i' f' c'
  ·obtain⟨x',l'⟩:=g' a x h' hx;rw[(hm a (Pc h')).1]at f'
   by_cases j':n=b
   ·subst j';exact ha a x' g Z l' c' f'
   ·obtain⟨y',i'⟩:=g' b y j' hy;rw[(hm b (Pc j')).1]at c';exact h.apart a b x' y' g Z l' i' f' c'
theorem SR.grow(h:SR gl n0 M w σ S)(J:OD w w')(F:Nat->Nat)(hF:∀b,b<w.heap.size->F b=M.F b):SR gl n0 { M with F:=F } w' σ S:=by
 have I:Kept M.F w F w':=Kept.below J fun b J=>Qr (hF b J).symm
 have hκ:∀t v,Rv M w t v->Rv { M with F:=F } w' (id t) v:=fun t v k=>k.kept (M':={ M with F:=F }) I rfl rfl
 have c':∀x:Ob,x.mp id=x:=fun x=>by cases x<;>simp[Ob.mp]
 have d':LM M { M with F:=F }:=LM.refl M;have Z:∀f:Fr,Fr.mp id f=f:=fun f=>by cases f;simp[Fr.mp]
 refine⟨OP h.size J.size,fun n x hx=>?_,h.apart,?_,fun g cs hg=>(h.gls g cs hg).kept I,h.nl,fun i lp hi=>?_,h.nd,h.sep⟩
 ·have:=(h.ob n x hx).move (M':={ M with F:=F }) (κ:=id) hκ I rfl rfl (fun g hg=>⟨J.block g ((h.ob n x hx).lt hg).1,hF g ((h.ob n x hx).lt hg).1⟩)
  rwa [c']at this
 ·have:=h.stk.mp hκ d' (fun i hi=>J.block _ (h.lp_lt hi).2);rw[show σ.stk.map (Fr.mp id)=σ.stk by rw[show Fr.mp id=id from funext Z];simp]at this;exact this
 ·have a':i<M.nl:=by rw[<-h.nl];exact (List.getElem?_eq_some_iff.1 hi).1
  have:=(h.lps i lp hi).move (M':={ M with F:=F }) (κ:=id) hκ rfl rfl (J.block _ (h.lp_lt a').1) (J.block _ (h.lp_lt a').2);rw[Z]at this;exact this
theorem SR.less(h:SR gl n0 M w σ S)(I:∀n x,gt σ'.obs n=some x->gt σ.obs n=some x)(hf:Stk M w σ'.stk S)(hl:σ'.lps=σ.lps)(hd:σ'.stk.flatMap (·.ds)=σ.stk.flatMap (·.ds)):SR gl n0 M w σ' S :=
 ⟨h.size,fun n x Z=>h.ob n x (I n x Z),fun m n x y g J Z hy=>h.apart m n x y g J (I m x Z) (I n y hy),hf,h.gls,by rw[hl];exact h.nl,by rw[hl];exact h.lps,by rw[hd];exact h.nd,h.sep⟩
theorem TmOk.less{f I:Fr}(h:TmOk M w f t)(Z:I.n=f.n)(hs:∀s x,gt I.l s=some x->gt f.l s=some x):TmOk M w I t:=⟨by rw[Z];exact h.1,fun s x J=>h.2 s x (hs s x J)⟩
theorem FrOk.less{f I:Fr}{t:Rf}(h:FrOk M w f t)(Z:I.n=f.n)(hs:∀s x,gt I.l s=some x->gt f.l s=some x)(hr:I.rd=f.rd)(J:I.ds=f.ds):FrOk M w I t :=
 ⟨h.tm.less Z hs,by rw[hr];exact h.rd,by rw[hr];exact h.rl,by rw[J];exact h.ds,by rw[J];exact h.dl,by rw[J];exact h.dm⟩
theorem TmOk.put{f:Fr}(h:TmOk M w f t)(d:Nat){x:V}(I:d<f.n)(J:Rv M w x v):TmOk M w { f with l:=pt f.l d x } (t.setIfInBounds d v):=by
 refine⟨jQ h.1,?_⟩;intro s y hy;rw[gz]at hy
 by_cases e:d=s
 ·subst e;rw[OG rfl]at hy;cases hy;exact⟨v,by simp[h.1,I],J⟩
 ·rw[OF e]at hy;obtain⟨u,h1,Z⟩:=h.2 s y hy;exact⟨u,by rw[R6 e];exact h1,Z⟩
structure Ff(n0 N N':Nat)(M:Mem)(w:World)(M':Mem)(w':World):Prop where
 lo:∀b,b<n0->M'.F b=M.F b
 kp:Kept M.F w M'.F w'
 hk:∀n,n<N->M'.h n=M.h n/\M'.k n=M.k n
 lm:LM M M'
 nn:N<=N'
theorem Ff.refl(n0 N:Nat)(M:Mem)(w:World):Ff n0 N N M w M w:=⟨fun _ _=>rfl,Kept.refl _ _,fun _ _=>⟨rfl,rfl⟩,LM.refl M,OI _⟩
theorem Ff.trans{N':Nat}{Z:Mem}(h:Ff n0 N N' M w M' w')(k:Ff n0 N' I M' w' Z J):Ff n0 N I M w Z J :=
 ⟨fun b hb=>(k.lo b hb).trans (h.lo b hb),h.kp.trans k.kp,fun n hn=>let ⟨a,b⟩:=h.hk n hn;let ⟨c,d⟩:=k.hk n (OT hn h.nn);⟨c.trans a,d.trans b⟩,
  ⟨OP h.lm.1 k.lm.1,fun i hi=>let ⟨a,b⟩:=h.lm.2 i hi;let ⟨c,d⟩:=k.lm.2 i (OT hi h.lm.1);⟨c.trans a,d.trans b⟩⟩,OP h.nn k.nn⟩
theorem Ff.mono{K:Nat}(h:Ff n0 N I M w M' w')(hk:I<=K):Ff n0 N K M w M' w':=⟨h.lo,h.kp,h.hk,h.lm,OP h.nn hk⟩
theorem Ff.more(hF:∀b,M.F b<=F b)(h0:∀b,b<n0->F b=M.F b):Ff n0 N N M w { M with F:=F } w :=
 ⟨h0,fun b n u h e=>⟨e,OT h (hF b)⟩,fun _ _=>⟨rfl,rfl⟩,LM.refl M,OI _⟩
theorem Ff.grow(h:OD w w')(hF:∀b,b<w.heap.size->F b=M.F b)(h0:n0<=w.heap.size):Ff n0 N N M w { M with F:=F } w' :=
 ⟨fun b h=>hF b om,Kept.below h fun b h=>Qr (hF b h).symm,fun _ _=>⟨rfl,rfl⟩,LM.refl M,OI _⟩
theorem Ff.same(h:Kept M.F w M.F w'):Ff n0 N N M w M w':=⟨fun _ _=>rfl,h,fun _ _=>⟨rfl,rfl⟩,LM.refl M,OI _⟩
theorem Ff.put{n:Nat}{ob:Ob}(h:Kept M.F w M.F w'):Ff n0 (nx σ.obs) (nx (pt σ.obs n ob)) M w M w':=(Ff.same h).mono (by rw[lx];omega)
def rf(a:Act)(ρ:Option Nat):Rf:=⟨a.tmps,a.defers,ρ⟩
end
end
section
mutual
def Tr.toVal:Tr->Option Value
 | .at v=>some v
 | .agg cs=>(Tr.toVals cs).map fun l=>.agg l.toArray
 | .tup cs=>(Tr.toVals cs).map fun l=>.tuple l.toArray
 | .fn f a b=>match Tr.toVals a,Tr.toVals b with|some x,some y=>some (.func f x.toArray y.toArray)|_,_=>none
 | _=>none
def Tr.toVals:List Tr->Option (List Value)
 | []=>some []
 | t::l=>match Tr.toVal t,Tr.toVals l with|some v,some m=>some (v::m)|_,_=>none
end
theorem Tr.toVals_get{l:List Tr}(h:Tr.toVals l=some m):l.length=m.length/\∀(i:Nat)(t:Tr),l[i]?=some t->∃v,m[i]?=some v/\Tr.toVal t=some v:=by
 induction l generalizing m with
 | nil=>rw[Tr.toVals]at h;cases h;exact⟨rfl,fun i t h=>by simp at h⟩
 | cons x l J =>
  rw[Tr.toVals]at h
  split at h
  ·rename_i v m' h1 Z
   cases h
   refine⟨by simp[(J Z).1],fun i t I=>?_⟩
   cases i with
   | zero=>simp at I;subst I;exact⟨v,rfl,h1⟩
   | succ i=>simp at I ⊢;exact (J Z).2 i t I
  ·cases h
theorem pk{l:List Tr}{vs:Array Value}(h:Tr.toVals l=some m)(hl:vs.size=l.length)(Z:∀(i:Nat)(t:Tr)(v:Value),l[i]?=some t->vs[i]?=some v->∀u,Tr.toVal t=some u->v=u):vs=m.toArray:=by
 obtain⟨h1,h2⟩:=Tr.toVals_get h;apply Array.ext_getElem?;intro i
 by_cases J:i<l.length
 ·obtain⟨u,hu,ht⟩:=h2 i _ (OH J);have I:i<vs.size:=by omega
  rw[O5 I,Sm,hu,Z i _ _ (OH J) (O5 I) u ht]
 ·rw[QR om,Sm,PF om]
theorem uaI(h:p:=by
  intro u hu;rw[Tr.toVal]at hu
  cases hm:Tr.toVals cs with
  | none=>rw[hm]at hu;cases hu
  | some m=>rw[hm]at hu;cases hu;rw[pk hm Z ih]):p:=h
theorem Rp.toVal{t:Tr}(h:Rp F w t v):∀u,t.toVal=some u->v=u:=by
 induction h with
 | «at» v=>intro u hu;rw[Tr.toVal]at hu;exact Pn hu
 | agg cs vs Z h ih =>
  exact uaI
 | tup cs vs Z h ih =>
  exact uaI
 | fn f a b va vb a' d' ha hb J c' =>
  intro u hu;rw[Tr.toVal]at hu
  cases hm:Tr.toVals a with
  | none=>rw[hm]at hu;cases hu
  | some m =>
   cases I:Tr.toVals b with
   | none=>rw[hm,I]at hu;cases hu
   | some m'=>rw[hm,I]at hu;cases hu;rw[pk hm a' J,pk I d' c']
 | _=>intro u hu;simp[Tr.toVal]at hu
def V.toVal:V->Option Value
 | .p t=>t.toVal
 | _=>none
def V.unp:List V->Option (List Tr)
 | []=>some []
 | .p t::l=>(V.unp l).map (t::·)
 | _::_=>none
theorem V.unp_eq{l:List V}{m:List Tr}(h:V.unp l=some m):l=m.map .p:=by
 induction l generalizing m with
 | nil=>rw[V.unp]at h;cases h;rfl
 | cons x l I =>
  cases x<;>rw[V.unp]at h<;>first|cases h|skip
  cases hu:V.unp l with
  | none=>rw[hu]at h;cases h
  | some k=>rw[hu]at h;cases h;rw[I hu];rfl
def V.mkAgg(cs:List V):V:=match V.unp cs with|some ts=>.p (.agg ts)|none=>.agg cs
def V.mkTup(cs:List V):V:=match V.unp cs with|some ts=>.p (.tup ts)|none=>.tup cs
def V.mkFn(f:Fn)(a b:List V):V:=match V.unp a,V.unp b with|some x,some y=>.p (.fn f x y)|_,_=>.fn f a b
def V.cells:V->Option (List V)
 | .p t=>some (t.cells.map .p)
 | .agg cs=>some cs
 | .junk=>none
 | v=>some [v]
def V.cell:V->Bool
 | .p t=>t.cell
 | .agg _=>false
 | .tup _=>false
 | .junk=>false
 | _=>true
def Rvs(M:Mem)(w:World)(cs:List V)(vs:List Value):Prop:=vs.length=cs.length/\∀(i:Nat)(t:V)(v:Value),cs[i]?=some t->vs[i]?=some v->Rv M w t v
section
variable {gl:Nat->Option (List Tr)}{M M':Mem}{σ σ':Sg}{S:List Rf}
theorem Rv.inv_p{t:Tr}(h:Rv M w (.p t) v):Rp M.F w t v:=by cases h;assumption
theorem sX{cs:List Tr}(h:Rvs M w (cs.map .p) vs):vs.length=cs.length/\∀(i:Nat)(t:Tr)(v:Value),cs[i]?=some t->vs[i]?=some v->Rp M.F w t v :=
 ⟨jQ h.1,fun i t v J I=>(h.2 i (.p t) v (by simp[J]) I).inv_p⟩
theorem Rv.mkAgg{cs:List V}(h:Rvs M w cs vs):Rv M w (V.mkAgg cs) (.agg vs.toArray):=by
 unfold V.mkAgg
 split
 ·rename_i ts hu
  rw[V.unp_eq hu]at h;obtain⟨h1,Z⟩:=sX h;exact .p _ _ (.agg ts _ (jQ h1) (fun i t v J I=>Z i t v J (jQ I)))
 ·exact .agg _ _ (jQ h.1) (fun i t v J I=>h.2 i t v J (jQ I))
theorem Rv.mkTup{cs:List V}(h:Rvs M w cs vs):Rv M w (V.mkTup cs) (.tuple vs.toArray):=by
 unfold V.mkTup
 split
 ·rename_i ts hu
  rw[V.unp_eq hu]at h;obtain⟨h1,Z⟩:=sX h;exact .p _ _ (.tup ts _ (jQ h1) (fun i t v J I=>Z i t v J (jQ I)))
 ·exact .tup _ _ (jQ h.1) (fun i t v J I=>h.2 i t v J (jQ I))
theorem Rv.mkFn{a b:List V}{va vb:List Value}(Z:Rvs M w a va)(J:Rvs M w b vb):Rv M w (V.mkFn f a b) (.func f va.toArray vb.toArray):=by
 unfold V.mkFn
 split
 ·rename_i x y hx hy
  rw[V.unp_eq hx]at Z;rw[V.unp_eq hy]at J;obtain⟨h1,h2⟩:=sX Z;obtain⟨h3,h4⟩:=sX J;exact .p _ _ (.fn f x y _ _ (jQ h1) (jQ h3) (fun i t v h I=>h2 i t v h (jQ I)) (fun i t v h I=>h4 i t v h (jQ I)))
 ·exact .fn f a b _ _ (jQ Z.1) (jQ J.1) (fun i t v h I=>Z.2 i t v h (jQ I)) (fun i t v h I=>J.2 i t v h (jQ I))
theorem jj{x:V}(h:Rv M w x v):Rvs M w [x] [v]:=⟨rfl,fun i t u h1 I=>by
 cases i with
 | zero=>simp at h1 I;subst h1;subst I;exact h
 | succ i=>simp at h1⟩
theorem Rp.cells{t:Tr}(h:Rp F w t v):v.cells.toList.length=t.cells.length/\∀(i:Nat)(s:Tr)(u:Value),t.cells[i]?=some s->v.cells.toList[i]?=some u->Rp F w s u:=by
 have one:∀{t:Tr}{v:Value},Rp F w t v->[v].length=[t].length/\∀(i:Nat)(s:Tr)(u:Value),[t][i]?=some s->[v][i]?=some u->Rp F w s u:=fun {t v} h=>⟨rfl,fun i s u h1 h2=>by
  cases i with
  | zero=>simp at h1 h2;subst h1;subst h2;exact h
  | succ i=>simp at h1⟩
 cases h with
 | «at» v =>
  cases v with
  | agg vs =>
   refine⟨by simp[Tr.cells,Value.cells],fun i t v I J=>?_⟩;simp only[Tr.cells,OQ,Value.cells]at I J;rw[J]at I;have:Tr.at v=t:=jQ I;exact this▸.at v
  | _=>exact one (.at _)
 | agg cs vs hl h=>exact⟨by simp[Tr.cells,Value.cells,hl],fun i t v I J=>h i t v I (by simpa [Value.cells] using J)⟩
 | tup cs vs hl h=>exact one (.tup cs vs hl h)
 | nil a cap hm=>exact one (.nil a cap hm)
 | lst full es A o cap k g hk hc Z h hf hle hm=>exact one (.lst full es A o cap k g hk hc Z h hf hle hm)
 | elp cs A o g hc Z h=>exact one (.elp cs A o g hc Z h)
 | fn f a b va vb a' c' ha hb=>exact one (.fn f a b va vb a' c' ha hb)
theorem EH(h:v.oneCell'=true):v.cells.toList=[v]:=by cases v<;>first|rfl|cases h
theorem Rv.cells{x:V}{cs:List V}(h:Rv M w x v)(I:x.cells=some cs):Rvs M w cs v.cells.toList:=by
 cases h with
 | p t v h =>
  cases I
  obtain⟨h1,J⟩:=h.cells;refine⟨jQ h1,fun i s u hs hu=>?_⟩;rw[OQ]at hs
  cases Z:t.cells[i]? with
  | none=>rw[Z]at hs;cases hs
  | some s' =>
   rw[Z]at hs;have:V.p s'=s:=jQ hs;exact this▸.p _ _ (J i s' u Z hu)
 | agg cs vs hl h=>cases I;exact⟨by simp[Value.cells,hl],fun i t v ht hv=>h i t v ht (by simpa [Value.cells] using hv)⟩
 | tup cs vs hl h=>cases I;exact jj (.tup cs vs hl h)
 | ref n h1=>cases I;rw[EH h1];exact jj (.ref n h1)
 | off n i o=>cases I;exact jj (.off n i o)
 | arr n k len full cap h1 J h3=>cases I;exact jj (.arr n k len full cap h1 J h3)
 | fn f a b va vb a' c' ha hb=>cases I;exact jj (.fn f a b va vb a' c' ha hb)
 | yld i hi=>cases I;exact jj (.yld i hi)
 | vw n lo len p cap h1 J=>cases I;exact jj (.vw n lo len p cap h1 J)
 | junk v=>cases I
theorem Rv.oneCell{x:V}(h:Rv M w x v)(I:x.cell=true):v.oneCell'=true:=by
 cases h with
 | p t v h=>exact h.oneCell I
 | ref n h1=>exact h1
 | off n i o=>rfl
 | arr n k len full cap h1 J h3=>rfl
 | fn f a b va vb Z a' ha hb=>rfl
 | yld i hi=>rfl
 | vw n lo len p cap h1 J=>rfl
 | _=>cases I
def Sg.cur(σ:Sg):Fr:=σ.stk.headD default
def Sg.put(σ:Sg)(d:Option Tmp)(x:V):Option Sg:=match d with|none=>some σ|some d=>if d<σ.cur.n then some ⟨σ.obs,{ σ.cur with l:=ptm σ.cur.l d x }::σ.stk.tail,σ.lps⟩ else none
def evl(gl:Nat->Option (List Tr))(σ:Sg):Operand->Option V
 | .tmp t=>gtm σ.cur.l t
 | .const v=>some (.p (.at v))
 | .global g=>(gl g).map fun cs=>.p (.elp cs)
 | .func f=>some (.p (.fn (.func f) [] []))
theorem SR.cur{T:Rf}(h:SR gl n0 M w σ (T::S)):∃f l,σ.stk=f::l/\FrOk M w f T:=by
 have:=h.stk
 cases hs:σ.stk with
 | nil=>rw[hs]at this;exact this.elim
 | cons f l=>rw[hs]at this;exact⟨f,l,rfl,this.1⟩
theorem aH(h:SR gl n0 M w σ (rf a ρ::S)){y:V}(hy:evl gl σ x=some y):Rv M w y (a.eval x):=by
 cases x with
 | tmp t =>
  obtain⟨f,l,hs,hf⟩:=h.cur;have Z:gt f.l t=some y:=by simpa [evl,Sg.cur,hs,iN] using hy
  obtain⟨v,h1,h2⟩:=hf.tm.2 t y Z;have J:a.tmps[t]?=some v:=h1;simp only[Act.eval,Rj,J,P3];exact h2
 | const v=>cases hy;exact .p _ _ (.at v)
 | global g =>
  cases I:gl g with
  | none=>simp[evl,I]at hy
  | some cs=>simp[evl,I]at hy;subst hy;exact .p _ _ (h.gls g cs I)
 | func f=>cases hy;exact .p _ _ (.fn _ _ _ _ _ rfl rfl (fun i t v h=>by simp at h) (fun i t v h=>by simp at h))
theorem put_defers(a:Act)(d:Option Tmp)(v:Value):(a.put d v).defers=a.defers:=by cases d<;>rfl
theorem SR.put(h:SR gl n0 M w σ (rf a ρ::S)){x:V}(hv:Rv M w x v)(Z:σ.put d x=some σ'):SR gl n0 M w σ' (rf (a.put d v) ρ::S):=by
 cases d with
 | none=>cases Z;exact h
 | some t =>
  obtain⟨f,l,hs,hf⟩:=h.cur;have I:(if t<σ.cur.n then some (⟨σ.obs,{ σ.cur with l:=pt σ.cur.l t x }::σ.stk.tail,σ.lps⟩:Sg) else none)=some σ':=by rw[<-nz];exact Z
  split at I
  ·rename_i J
   cases I
   have hc:σ.cur=f:=by simp[Sg.cur,hs]
   rw[hc]at J ⊢;have ht:Stk M w l S:=by have:=h.stk;rw[hs]at this;exact this.2
   exact⟨h.size,h.ob,h.apart,⟨⟨hf.tm.put t J hv,hf.rd,hf.rl,(by rw[rf,put_defers];exact hf.ds),hf.dl,hf.dm⟩,by simpa [hs] using ht⟩,h.gls,h.nl,h.lps,by have:=h.nd;rw[hs]at this;simpa [hs] using this,h.sep⟩
  ·cases I
end
end
section
def dr(P:Program){α:Type}:Sem α->Option α
 | .pure a=>some a
 | .program k=>dr P (k P)
 | .mark _ k=>dr P k
 | _=>none
theorem gS{s:Sem α}{a:α}(h:dr P s=some a)(w:World):s.run P w=.ok a w:=by
 induction s with
 | pure b=>cases h;rfl
 | program k I=>exact I P h
 | mark m k I=>exact I h
 | _=>cases h
section
variable {gl:Nat->Option (List Tr)}{M M':Mem}{σ σ':Sg}{S:List Rf}
def isSel:Op->Bool
 | .select _ _=>true
 | _=>false
def iu(P:Program)(gl:Nat->Option (List Tr))(o:Oper)(σ:Sg):Option V :=
 if ((o.op.operands.all fun x=>((evl gl σ x).bind V.toVal).isSome)&&!isSel o.op)=true then
  match dr P (execOp (fun x=>((evl gl σ x).bind V.toVal).getD undef) o) with
  | some (.value v)=>some (.p (.at v))
  | _=>none
 else none
theorem dJ{x:V}(h:Rv M w x v)(hu:x.toVal=some u):v=u:=by
 cases h with
 | p t v h=>exact h.toVal u hu
 | _=>cases hu
def Quiet(P:Program)(gl:Nat->Option (List Tr))(o:Oper)(σ:Sg)(x:V):Prop :=
 ∀(n0:Nat)(M:Mem)(w:World)(S:List Rf)(a:Act)(ρ:Option Nat),SR gl n0 M w σ (rf a ρ::S)->∃v,(execOp a.eval o).run P w=.ok (.value v) w/\Rv M w x v
theorem lO{o:Oper}{x:V}(I:iu P gl o σ=some x):Quiet P gl o σ x:=by
 intro n0 M w S a ρ h;unfold iu at I
 split at I
 ·rename_i Z
  rw[ON,Array.all_eq_true_iff_forall_mem]at Z
  split at I
  ·rename_i v hr
   cases I
   refine⟨v,?_,.p _ _ (.at v)⟩;rw[<-gS hr w];congr 1;refine execOp_congr o (fun cs b e=>?_) (fun y hy=>?_)
   ·have:=Z.2;rw[e]at this;cases this
   ·have h1:=Z.1 y hy
    cases he:evl gl σ y with
    | none=>rw[he]at h1;simp at h1
    | some z =>
     rw[he]at h1
     cases J:z.toVal with
     | none=>rw[OY,J]at h1;simp at h1
     | some u=>simp only[OY,J,P3];exact dJ (aH h he) J
  ·cases I
 ·cases I
def isD:TypeDesc->Bool
 | .struct _|.array _ _=>true
 | _=>false
theorem CS{t:TypeId}{d:TypeDesc}(h:P.underlying t=some d)(w:World):(isAgg t).run P w=.ok (isD d) w:=by
 unfold isAgg;rw[Pg,Pu h w]
 cases d<;>simp[isD]
theorem cZ{t:TypeId}{i:TypeInfo}(h:P.info? t=some i)(w:World):(sizeOf t).run P w=.ok i.size w:=by simp[sizeOf,typeInfo,h]
def Cl(M:Mem)(w:World)(A o:Nat)(cs:List V):Prop:=∀(j:Nat)(t:V),cs[j]?=some t->∃c,w.cell? ⟨A,o+j,none⟩=some c/\Rv M w t c
def eQ(P:Program)(t:TypeId)(cs:List V):Option V :=
 match P.info? t,P.underlying t with
 | some i,some d=>if isD d then (if i.size<=cs.length then some (.mkAgg (cs.take i.size)) else none) else cs.head?
 | _,_=>none
theorem AY(A o j:Nat):(⟨A,o,none⟩:Addr).add j=⟨A,o+j,none⟩:=by unfold Addr.add;split<;>simp_all
theorem oF{t:TypeId}{cs:List V}{x:V}{A:Nat}(hc:Cl M w A o cs)(I:eQ P t cs=some x):∃v,(loadVar t ⟨A,o,none⟩).run P w=.ok v w/\Rv M w x v:=by
 unfold eQ at I
 split at I
 ·rename_i i d hi hd
  have a':=CS hd w
  split at I
  ·rename_i hD
   split at I
   ·rename_i hle
    cases I
    have key:∃vs:List Value,vs.length=i.size/\(∀j v,vs[j]?=some v->w.cell? ⟨A,o+j,none⟩=some v)/\Rvs M w (cs.take i.size) vs:=by
     have:∀n,n<=cs.length->∃vs:List Value,vs.length=n/\(∀j v,vs[j]?=some v->w.cell? ⟨A,o+j,none⟩=some v/\∀t,cs[j]?=some t->Rv M w t v):=by
      intro n
      induction n with
      | zero=>intro _;exact⟨[],rfl,fun j v h=>by simp at h⟩
      | succ n ih =>
       intro hn;obtain⟨vs,h1,J⟩:=ih om;obtain⟨c,h3,h4⟩:=hc n _ (OH om);refine⟨vs++[c],by simp[h1],fun j v Z=>?_⟩
       by_cases c':j<n
       ·rw[Ph om]at Z;exact J j v Z
       ·rw[Pz om]at Z;have:j=n:=by
         rcases PT (j-vs.length) 1 with h|h
         ·omega
         ·rw[PF (jQ h)]at Z;cases Z
        subst this;have:c=v:=by simpa [h1] using Z
        subst this;exact⟨h3,fun t ht=>by rw[OH om]at ht;cases ht;exact h4⟩
     obtain⟨vs,h1,J⟩:=this i.size hle;refine⟨vs,h1,fun j v Z=>(J j v Z).1,⟨by simp[h1,hle],fun j t v ht hv=>(J j v hv).2 t ?_⟩⟩;rw[Qt]at ht
     split at ht
     ·exact ht
     ·cases ht
    obtain⟨vs,h1,J,h3⟩:=key;have hl:=run_loadCells_list (P:=P) w ⟨A,o,none⟩ vs (fun j v hv=>by rw[AY];exact J j v hv);refine⟨_,?_,Rv.mkAgg h3⟩;rw[h1]at hl;simp[loadVar,Pg,a',hD,cZ hi,hl]
   ·cases I
  ·rename_i hD
   cases cs with
   | nil=>cases I
   | cons y cs =>
    cases I
    obtain⟨c,h1,J⟩:=hc 0 x rfl;refine⟨c,?_,J⟩;simp only[loadVar,Pg,a',Py];rw[OF hD];rw[run_load];rw[show o+0=o from rfl]at h1;rw[h1]
 ·cases I
def look(σ:Sg):V->Option (List V)
 | .p (.elp cs)=>some (cs.map .p)
 | .off n i o=>match gt σ.obs n with
  | some (.box cs)=>if i=0 then some (cs.drop o) else none
  | some (.row _ _ es _)=>(es[i]?).map fun e=>(e.cells.drop o).map .p
  | _=>none
 | _=>none
theorem gX{es:List Tr}{e t:Tr}(hk:∀e∈es,e.cells.length=k)(he:es[i]?=some e)(h:e.cells[o]?=some t):(aO es)[i*k+o]?=some t:=by
 induction es generalizing i with
 | nil=>simp at he
 | cons x l J =>
  have I:x.cells.length=k:=hk x jS
  cases i with
  | zero =>
   simp at he;subst he;simp only[aO,O8,P1,Pd];rw[Ph];exact h;exact (List.getElem?_eq_some_iff.1 h).1
  | succ i =>
   simp only[aO,O8];rw[Pz (by rw[I,Q8];omega),I,show (i+1)*k+o-k=i*k+o by rw[Q8];omega];exact J (fun e he=>hk e (by simp[he])) (jQ he)
theorem gq{es:List Tr}(hk:∀e∈es,e.cells.length=k):(aO es).length=es.length*k:=by
 induction es with
 | nil=>simp
 | cons x l h=>simp only[aO,O8,OM,Pk,Q8,hk x jS];rw[h (fun e he=>hk e (by simp[he]))];omega
theorem dw{n:Nat}(h:w.ownsRow base e k v n xs)(I:xs[j]?=some u):∃A cap,v=.slice (some ⟨A,0,none⟩) n cap/\w.cell? ⟨A,0+j,none⟩=some u:=by
 rcases h.2 with ⟨rfl,rfl⟩|⟨g,cap,cur,rfl,hb,hh,hn,hm,hcs,ht⟩
 ·have:xs=[]:=Po (jQ h.1);subst this;simp at I
 ·refine⟨g,cap,rfl,?_⟩;rw[<-ht,Qt]at I
  split at I
  ·simp only[World.cell?,hh,Pd];simpa using I
  ·cases I
theorem BU(h:SR gl n0 M w σ S){x:V}{cs:List V}(hu:Rv M w x u)(J:look σ x=some cs):∃A o,u=.pointer (some ⟨A,o,none⟩)/\Cl M w A o cs:=by
 cases hu with
 | p t v h1 =>
  cases h1 with
  | elp ts A o g l' hg h2 =>
   cases J
   refine⟨A,o,rfl,fun j t I=>?_⟩;rw[OQ]at I
   cases hj:ts[j]? with
   | none=>rw[hj]at I;cases I
   | some s =>
    rw[hj]at I;have:V.p s=t:=jQ I;exact⟨g j,(hg j (List.getElem?_eq_some_iff.1 hj).1).1,this▸.p _ _ (h2 j s hj)⟩
  | _=>cases J
 | off n i o =>
  simp only[look]at J
  split at J
  ·rename_i bs hb
   split at J
   ·rename_i hi
    cases J
    obtain⟨A,c,el,h1,h2,h3,h4,h5,h6⟩:=h.ob n _ hb;subst hi;refine⟨A,o,by rw[h1];simp[gj],fun j t I=>?_⟩;rw[Qa]at I;have Z:o+j<c.size:=OT (List.getElem?_eq_some_iff.1 I).1 h5;exact⟨c[o+j],by simp[World.cell?,h4,Z],h6 (o+j) t _ I (O5 Z)⟩
   ·cases J
  ·rename_i e k es fz hb
   cases he:es[i]? with
   | none=>rw[he]at J;cases J
   | some y =>
    rw[he]at J;have i':(y.cells.drop o).map V.p=cs:=jQ J;subst i';have hi:i<es.length:=(List.getElem?_eq_some_iff.1 he).1;obtain⟨hk,h0,xs,hx,c',-,hr,-⟩:=h.ob n _ hb;rw[hk];have d':=hx.1;have h':=gq c';have m':y.cells.length=k:=c' y (Pb he);have g':∃u,xs[0]?=some u:=⟨_,OH (by rw[d'];exact Nat.mul_pos om h0)⟩;obtain⟨u0,j'⟩:=g';obtain⟨A,cap,hv,-⟩:=dw hx j';refine⟨A,i*k+o,by rw[hv];rfl,fun j t I=>?_⟩;rw[OQ,Qa]at I
    cases hj:y.cells[o+j]? with
    | none=>rw[hj]at I;cases I
    | some s =>
     rw[hj]at I;have hs:V.p s=t:=jQ I;have hf:=gX c' he hj;have Z:i*k+(o+j)<xs.length:=by rw[d',<-h'];exact (List.getElem?_eq_some_iff.1 hf).1
     obtain⟨A',k',f',a'⟩:=dw hx (OH Z);rw[hv]at f';cases f';rw[show 0+(i*k+(o+j))=i*k+o+j by omega]at a';exact⟨_,a',hs▸.p _ _ (hr _ s _ hf (OH Z))⟩
  ·cases J
 | _=>cases J
end
end
end Go.Proofs.YteemngnialjaiaaGreatDoor
