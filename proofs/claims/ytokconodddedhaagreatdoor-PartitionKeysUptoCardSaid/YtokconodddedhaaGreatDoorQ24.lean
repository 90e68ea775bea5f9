/- Part. -/
import Derived.Test.YtokconodddedhaaGreatDoorQ53
import Derived.Test.YtokconodddedhaaGreatDoorQ23
import Derived.Test.YtokconodddedhaaGreatDoorQ21
set_option maxRecDepth 100000
set_option maxHeartbeats 16000000
set_option linter.unusedVariables false
set_option linter.unusedSimpArgs false
namespace Go.Proofs.YtokconodddedhaaGreatDoor
open Go.Proofs.Tryz Go.RowKit
theorem kc:∀{l:List Int},dV l=0->∀a∈l,a=0
 | [],_,_,h=>by cases h
 | b::r,h,a,ha=>by
  rw[dV]at h
  by_cases z:b=0
  ·rw[K6 (jQ z)]at h;rcases List.mem_cons.1 ha with rfl|ha
   ·exact z
   ·exact kc h a ha
  ·rw[K7 z]at h;exact absurd h z
theorem JN {y:Pt} (h:ptE y=0):0<=y.op/\y.op<=10:=by
 by_cases z:y.op<0\/10<y.op
 ·unfold ptE at h;rw[K7 z]at h;exact absurd h dc
 ·omega
theorem CV {x:Pt} (h:fc x=0):∀y∈aO x,0<=y.op/\y.op<=10:=fun y hy=>by
 unfold fc at h
 split at h
 ·exact absurd h dc
 ·split at h
  ·exact absurd h dc
  ·exact JN (kc h _ (List.mem_map.2 ⟨y,hy,rfl⟩))
theorem qH {x:Pt} (h:gh x=0):∀y∈aO x,0<=y.op/\y.op<=10:=CV (by
 unfold gh at h
 by_cases h0:fc x=0
 ·exact h0
 ·rw[K7 h0]at h;exact h)
theorem lc (x:Pt):cK x=if gh x≠0 then gh x else if (gT (aO x)).2.2 then 0 else 14:=by
 rw[AI,DD];unfold cK
 by_cases h0:fc x=0
 ·have e:¬fc x≠0:=fun h=>h h0
  simp only[K6 e]
  cases z:(aO x).any (fun y=>decide (8<=y.op))<;>simp
 ·rw[K7 h0,K7 h0,K7 h0]
theorem GV {x:Pt} (h:cK x=0):∀y∈aO x,0<=y.op/\y.op<=10:=by
 rw[lc]at h
 by_cases h0:gh x=0
 ·exact qH h0
 ·rw[K7 h0]at h;exact absurd h h0
theorem gP (d:Nat) (x:Pt) (v vc:Value) (w:World) (hT:Shp w) (hx:aW d w v x.args) (I:aF d w vc x.cond.args) (hN:ptB x<=1048576) :
  KZ 75 #[ptV x v vc] w (KW (cK x)):=by
 have HW:=jD (fun (W:World) (Z:KY w W)=>Du d x v vc W (hT.stays Z) (hx.stays (aB d) Z) (I.stays (ai d) Z) hN);have F:=jD (fun (h0:gh x=0) (W:World) (Z:KY w W)=>sn d x v vc W (hT.stays Z) (hx.stays (aB d) Z) (I.stays (ai d) Z) hN (qH h0));have G:=jD (lc x);obtain⟨A,c,rfl,-⟩:=hx;obtain⟨Ac,cc,rfl,-⟩:=I;obtain⟨n,hn⟩:=jF x.args.length;obtain⟨nc,d'⟩:=jF x.cond.args.length;rw[<-hn,<-d']at HW F ⊢;obtain⟨z,hz⟩:=jF (gh x);obtain⟨st,b'⟩:=jF (gT (aO x));obtain⟨R,hR⟩:=jF (cK x);rw[<-hz]at HW F G;rw[<-b']at F G;rw[<-hR]at G ⊢;obtain⟨vv,ss,oo⟩:=st;clear hn d' hT hz b' hR hN;unfold ptV at HW F ⊢;unfold cnV at F;simp only at F G;go_enter func75,ntmps75;go_wp2_with fail;refine (HW.out _ jB).mono ?_;rintro e D ⟨rfl,a'⟩;have h:=(aY a').1;have y0:D.cell? ⟨w.heap.size,0,none⟩=some (KW x.op):=by rw[h];rfl
 have y1:D.cell? ⟨w.heap.size,1,none⟩=some (.slice A n c):=by rw[h];rfl
 have y2:D.cell? ⟨w.heap.size,2,none⟩=some (KW x.ty):=by rw[h];rfl
 have y3:D.cell? ⟨w.heap.size,3,none⟩=some (KW x.vr):=by rw[h];rfl
 have y4:D.cell? ⟨w.heap.size,4,none⟩=some (KW x.sc):=by rw[h];rfl
 have y5:D.cell? ⟨w.heap.size,5,none⟩=some (KW x.sp):=by rw[h];rfl
 have y6:D.cell? ⟨w.heap.size,6,none⟩=some (KW x.cond.op):=by rw[h];rfl
 have y7:D.cell? ⟨w.heap.size,7,none⟩=some (.slice Ac nc cc):=by rw[h];rfl
 have y8:D.cell? ⟨w.heap.size,8,none⟩=some (KW x.cond.vr):=by rw[h];rfl
 have y9:D.cell? ⟨w.heap.size,9,none⟩=some (KW x.cond.fl):=by rw[h];rfl
 have g':D.cell? ⟨w.heap.size,10,none⟩=some (KW x.cond.kd):=by rw[h];rfl
 have j':D.cell? ⟨w.heap.size,11,none⟩=some (KW x.cond.val.kind):=by rw[h];rfl
 have i':D.cell? ⟨w.heap.size,12,none⟩=some (KW x.cond.val.num):=by rw[h];rfl
 have h':D.cell? ⟨w.heap.size,13,none⟩=some (.string x.cond.val.text):=by rw[h];rfl
 have O:=jD (ab (ag w _) a');clear h a'
 by_cases J:z=0
 case neg =>
  have k':(z==0)=false:=jQ J;obtain rfl:R=z:=by rw[G.out,K7 J]
  clear G F;exact fi O.out
 subst J;have f':Hid (R=if oo=true then 0 else 14):=jD (by rw[G.out,K6 jS]);clear G;go_wp2_with fail;refine (F.out trivial _ O.out).mono ?_;rintro e w2 ⟨rfl,c'⟩;have e':=jD (ab O.out c');clear c' y0 y1 y2 y3 y4 y5 y6 y7 y8 y9 g' j' i' h'
 cases oo with
 | true =>
  obtain rfl:R=0:=by rw[f'.out];rfl
  exact fi e'.out
 | false =>
  obtain rfl:R=14:=by rw[f'.out];rfl
  exact fi e'.out
def js (x:Pt):Int × Int × Int:=if cK x≠0 then (0,0,cK x) else ((gT (aO x)).1,(gT (aO x)).2.1,0)
theorem zG (d:Nat) (x:Pt) (v vc:Value) (w:World) (hT:Shp w) (hx:aW d w v x.args) (G:aF d w vc x.cond.args) (hN:ptB x<=1048576) :
  KZ 228 #[ptV x v vc] w (.tuple #[KW (js x).1,KW (js x).2.1,KW (js x).2.2]):=by
 have HW:=jD (fun (W:World) (Z:KY w W)=>gP d x v vc W (hT.stays Z) (hx.stays (aB d) Z) (G.stays (ai d) Z) hN);have F:=jD (fun (h0:cK x=0) (W:World) (Z:KY w W)=>sn d x v vc W (hT.stays Z) (hx.stays (aB d) Z) (G.stays (ai d) Z) hN (GV h0));obtain⟨A,c,rfl,-⟩:=hx;obtain⟨Ac,cc,rfl,-⟩:=G;obtain⟨n,hn⟩:=jF x.args.length;obtain⟨nc,c'⟩:=jF x.cond.args.length;rw[<-hn,<-c']at HW F ⊢;obtain⟨z,hz⟩:=jF (cK x);obtain⟨st,I⟩:=jF (gT (aO x));have HP:Hid (js x=if z≠0 then (0,0,z) else (st.1,st.2.1,0)):=jD (by rw[hz,I];rfl);obtain⟨R,hR⟩:=jF (js x);rw[<-hz]at HW F;rw[<-I]at F;rw[<-hR]at HP ⊢;obtain⟨vv,ss,oo⟩:=st;clear hn c' hT hz I hR hN;unfold ptV at HW F ⊢;unfold cnV at F;simp only at F HP;go_enter func228,ntmps228;go_wp2_with fail;refine (HW.out _ jB).mono ?_;rintro e D ⟨rfl,a'⟩;have h:=(aY a').1;have y0:D.cell? ⟨w.heap.size,0,none⟩=some (KW x.op):=by rw[h];rfl
 have y1:D.cell? ⟨w.heap.size,1,none⟩=some (.slice A n c):=by rw[h];rfl
 have y2:D.cell? ⟨w.heap.size,2,none⟩=some (KW x.ty):=by rw[h];rfl
 have y3:D.cell? ⟨w.heap.size,3,none⟩=some (KW x.vr):=by rw[h];rfl
 have y4:D.cell? ⟨w.heap.size,4,none⟩=some (KW x.sc):=by rw[h];rfl
 have y5:D.cell? ⟨w.heap.size,5,none⟩=some (KW x.sp):=by rw[h];rfl
 have y6:D.cell? ⟨w.heap.size,6,none⟩=some (KW x.cond.op):=by rw[h];rfl
 have y7:D.cell? ⟨w.heap.size,7,none⟩=some (.slice Ac nc cc):=by rw[h];rfl
 have y8:D.cell? ⟨w.heap.size,8,none⟩=some (KW x.cond.vr):=by rw[h];rfl
 have y9:D.cell? ⟨w.heap.size,9,none⟩=some (KW x.cond.fl):=by rw[h];rfl
 have d':D.cell? ⟨w.heap.size,10,none⟩=some (KW x.cond.kd):=by rw[h];rfl
 have h':D.cell? ⟨w.heap.size,11,none⟩=some (KW x.cond.val.kind):=by rw[h];rfl
 have f':D.cell? ⟨w.heap.size,12,none⟩=some (KW x.cond.val.num):=by rw[h];rfl
 have e':D.cell? ⟨w.heap.size,13,none⟩=some (.string x.cond.val.text):=by rw[h];rfl
 have O:=jD (ab (ag w _) a');clear h a'
 by_cases J:z=0
 case neg =>
  have i':(z==0)=false:=jQ J;obtain rfl:R=(0,0,z):=by rw[HP.out,K7 J]
  clear HP F;go_wp2
  go_ret3
  exact⟨rfl,O.out⟩
 subst J;obtain rfl:R=(vv,ss,0):=by rw[HP.out,K6 jS]
 clear HP;go_wp2_with fail;refine (F.out trivial _ O.out).mono ?_;rintro e w2 ⟨rfl,b'⟩;have g':=jD (ab O.out b');clear b' y0 y1 y2 y3 y4 y5 y6 y7 y8 y9 d' h' f' e';go_wp2
 go_ret3
 exact⟨rfl,g'.out⟩
section
theorem tR {Q:Exit->Act->World->Prop} {e:Exit} {a:Act} {w:World} (h:∀W:World,W=w->Q e a W):Q e a w:=h w rfl
structure KeepX (bs:List Nat) (W W':World):Prop where
 os:W'.os=W.os
 tape:W'.tape=W.tape
 output:W'.output=W.output
 size:W.heap.size<=W'.heap.size
 block:∀k,k<W.heap.size->k∉bs->W'.heap[k]?=W.heap[k]?
section
variable {bs : List Nat} {a b c W W' : World}
theorem KeepX.refl (bs:List Nat) (W:World):KeepX bs W W:=⟨rfl,rfl,rfl,Ld _,fun _ _ _=>rfl⟩
theorem KeepX.trans (h:KeepX bs a b) (k:KeepX bs b c):KeepX bs a c:=⟨k.os.trans h.os,k.tape.trans h.tape,k.output.trans h.output,Lf h.size k.size,fun i D z=>(k.block i (Ll D h.size) z).trans (h.block i D z)⟩
theorem bw (h:KY W W'):KeepX bs W W':=⟨h.os,h.tape,h.output,h.size,fun k hk _=>h.block k hk⟩
theorem eZ {b i:Nat} (W:World) (z:b∈bs) (v:Value):KeepX bs W (W.setCell ⟨b,i,none⟩ v):=⟨rfl,rfl,rfl,by simp,fun k _ h=>LB W ⟨b,i,none⟩ v k (fun e=>h (by simp only at e;rw[e];exact z))⟩
theorem KeepX.more {cs:List Nat} (h:KeepX bs W W') (hs:∀b∈bs,b∈cs):KeepX cs W W':=⟨h.os,h.tape,h.output,h.size,fun k hk z=>h.block k hk (fun e=>z (hs k e))⟩
theorem KeepX.below {n:Nat} (h:KeepX bs W W') (D:n<=W.heap.size) (z:∀b∈bs,n<=b):Below n W W':=⟨h.os,h.tape,h.output,h.size,fun k hk=>h.block k om (fun e=>by have:=z k e;omega)⟩
theorem KeepX.drop {q:Nat} (h:KeepX (q::bs) W W') (hq:W.heap.size<=q):KeepX bs W W':=⟨h.os,h.tape,h.output,h.size,fun k hk z=>h.block k hk (fun e=>by rcases List.mem_cons.1 e with e|e;omega;exact z e)⟩
theorem KeepX.cell (h:KeepX bs W W') {b p:Nat} {v:Value} (z:W.cell? ⟨b,p,none⟩=some v) (D:b∉bs):W'.cell? ⟨b,p,none⟩=some v :=
 (Ln (a:=⟨b,p,none⟩) (h.block b (K8 W ⟨b,p,none⟩ z) D)).trans z
theorem KeepX.heap (h:KeepX bs W W') {b:Nat} {o:Obj} (z:W.heap[b]?=some o) (D:b∉bs):W'.heap[b]?=some o:=(h.block b (Array.getElem?_eq_some_iff.1 z).1 D).trans z
theorem KeepX.nums (h:KeepX bs W W') {v:Value} {l:List Int} (G:bD W v l) (J:l≠[]->∀g,v.ownBlock=some g->g∉bs):bD W' v l:=by
 obtain⟨A,c,rfl,I,O,F⟩:=G;refine⟨A,c,rfl,I,O,fun k x z=>?_⟩;obtain⟨b,o,rfl,D⟩:=F k x z;exact⟨b,o,rfl,h.cell D (J (fun e=>by rw[e]at z;simp at z) b rfl)⟩
end
def BoxX (W:World) (b:Nat) (v:Value):Prop:=∃t,Boxed W b t v
section
variable {W W' : World} {b : Nat} {v : Value}
theorem BoxX.cell (h:BoxX W b v):W.cell? ⟨b,0,none⟩=some v:=let ⟨_,h⟩:=h;h.cell
theorem BoxX.frozen (h:BoxX W b v):W.frozen? ⟨b,0,none⟩=false:=let ⟨_,h⟩:=h;h.frozen
theorem BoxX.lt (h:BoxX W b v):b<W.heap.size:=let ⟨_,h⟩:=h;h.lt
theorem BoxX.set (h:BoxX W b v) (u:Value):BoxX (W.setCell ⟨b,0,none⟩ u) b u:=let ⟨t,h⟩:=h;⟨t,h.set u⟩
theorem BoxX.other (h:BoxX W b v) {c i:Nat} (z:b≠c) (u:Value):BoxX (W.setCell ⟨c,i,none⟩ u) b v:=let ⟨t,h⟩:=h;⟨t,(LB W ⟨c,i,none⟩ u b z).trans h⟩
theorem BoxX.keep (h:BoxX W b v) (z:KY W W'):BoxX W' b v:=let ⟨t,h⟩:=h;⟨t,(z.block b h.lt).trans h⟩
end
theorem tt:∀(A B:List (Pt × Plc)) (k:Nat),dZ k (A++B)=if (dZ k A).2≠0 then dZ k A else dZ (k+A.length) B
 | [],B,k=>by rw[MJ,dZ,K6 jS];rfl
 | t::A,B,k=>by
  rw[Mr,dZ,dZ]
  by_cases h:lX t≠0
  ·rw[K7 h,K7 h,K7 h]
  ·rw[K6 h,K6 h,tt A B (k+1),Lt,LJ,Nb 1]
theorem Ed (h:Plc) (x:Pt):(kK h x).length=ptN x:=by rw[<-dh,<-xP h x,Lm]
theorem Dr {op:Int} {z:Plc} {l:List Pt} {k:Nat} {a:Pt} (h:l[k]?=some a):pc op z (l.drop k)=kK z a++pc op (jh op a z) (l.drop (k+1)):=by
 obtain⟨D,rfl⟩:=List.getElem?_eq_some_iff.1 h;rw[Lr D,pc]
def EP (x:Pt):Prop:=(0<=x.op/\x.op<=7)/\(x.op=0\/x.op=5->0<=x.vr/\x.vr<16)/\(x.op=5\/x.op=7->x.args.length=1)
def WfP (x:Pt):Prop:=ptN x<=64/\∀y∈aO x,EP y
theorem WfP.arg {x a:Pt} {k:Nat} (h:WfP x) (z:x.args[k]?=some a):WfP a:=⟨by have:=pn z;have:=dm x;have:=h.1;omega,fun y hy=>h.2 y (kD z y hy)⟩
theorem WfP.okV {x:Pt} (h:WfP x):OkV x:=fun y hy=>⟨(h.2 y hy).1,fun h0=>(h.2 y hy).2.1 (.inl h0)⟩
theorem WfP.self {x:Pt} (h:WfP x):EP x:=h.2 x (by rw[da];exact Lg ..)
theorem Hk (d e:Nat) (x:Pt) (s:Plc) (v vc O I:Value) (w:World) (hT:Tbl w) (hx:aW d w v x.args) (F:aF e w vc x.cond.args) (hL:PlcIs w s O I) (D:SmP s) (G:WfP x) (ht:iw x.op=true) :
  Calls prog 295 #[ptV x v vc,iq O I s.fb] w (pX w (rP x s)):=by
 have hn:=G.self;have a':x.op=0\/x.op=5\/x.op=7:=by unfold iw at ht;simpa using ht
 have Z:∀(h:x.args.length=1),x.args[0]?=some (hdP x.args):=fun h=>by
  cases z:x.args with
  | nil=>rw[z]at h;cases h
  | cons a r=>rfl
 have J:∀(h:x.args.length=1),ptN (hdP x.args)<=64/\OkV (hdP x.args):=fun h=>⟨(G.arg (Z h)).1,(G.arg (Z h)).okV⟩
 rcases a' with h|h|h
 ·have:=Kz d e x s v vc O I w hx F hL D h (hn.2.1 (.inl h));unfold rP;rw[K7 h];exact this
 ·have z:=hn.2.2 (.inl h);have:=KV d e x (hdP x.args) s v vc O I w hx F hL D h (hn.2.1 (.inr h)) z (Z z) (J z);unfold rP;rw[K6 om,K7 h];exact this
 ·have z:=hn.2.2 (.inr h);have:=JM d e x (hdP x.args) s v vc O I w hT hx F hL D ⟨by omega,by omega⟩ z (Z z) (J z);unfold rP;rw[K6 om,K6 om];exact this
structure EachW (w0:World) (bi bn bf bv be:Nat) (W:World) (i nd e:Int):Prop where
 bel:KY w0 W
 idx:BoxX W bi (KW i)
 node:BoxX W bn (KW nd)
 err:BoxX W bf (KW e)
 vis:BoxX W bv (.func (.func 293) #[] #[.pointer (some ⟨bf,0,none⟩),.pointer (some ⟨bn,0,none⟩)])
 each:BoxX W be (.func (.func 336) #[] #[.pointer (some ⟨bi,0,none⟩),.pointer (some ⟨bv,0,none⟩),.pointer (some ⟨be,0,none⟩)])
 lo:w0.heap.size<=bi/\w0.heap.size<=bn/\w0.heap.size<=bf
 ne:bi≠bn/\bi≠bf/\bn≠bf/\bv≠bi/\bv≠bn/\bv≠bf/\be≠bi/\be≠bn/\be≠bf
section
variable {w0 W W' : World} {bi bn bf bv be : Nat} {i nd e : Int}
theorem EachW.grow (h:EachW w0 bi bn bf bv be W i nd e) (z:KY W W'):EachW w0 bi bn bf bv be W' i nd e :=
 ⟨ab h.bel z,h.idx.keep z,h.node.keep z,h.err.keep z,h.vis.keep z,h.each.keep z,h.lo,h.ne⟩
theorem EachW.setI (h:EachW w0 bi bn bf bv be W i nd e) (j:Int):EachW w0 bi bn bf bv be (W.setCell ⟨bi,0,none⟩ (.int .i64 j)) j nd e :=
 ⟨aA h.bel h.lo.1 _,h.idx.set _,h.node.other (Me h.ne.1) _,h.err.other (Me h.ne.2.1) _,h.vis.other h.ne.2.2.2.1 _,h.each.other h.ne.2.2.2.2.2.2.1 _,h.lo,h.ne⟩
theorem EachW.setN (h:EachW w0 bi bn bf bv be W i nd e) (j:Int):EachW w0 bi bn bf bv be (W.setCell ⟨bn,0,none⟩ (.int .i64 j)) i j e :=
 ⟨aA h.bel h.lo.2.1 _,h.idx.other h.ne.1 _,h.node.set _,h.err.other (Me h.ne.2.2.1) _,h.vis.other h.ne.2.2.2.2.1 _,h.each.other h.ne.2.2.2.2.2.2.2.1 _,h.lo,h.ne⟩
theorem EachW.setE (h:EachW w0 bi bn bf bv be W i nd e) (j:Int):EachW w0 bi bn bf bv be (W.setCell ⟨bf,0,none⟩ (.int .i64 j)) i nd j :=
 ⟨aA h.bel h.lo.2.2 _,h.idx.other h.ne.2.1 _,h.node.other h.ne.2.2.1 _,h.err.set _,h.vis.other h.ne.2.2.2.2.2.1 _,h.each.other h.ne.2.2.2.2.2.2.2.2 _,h.lo,h.ne⟩
end
def JU (w0:World) (bi bn bf bv be:Nat) (k:Nat) (z:Int) (W:World) (e:Ending) (W':World):Prop :=
 (z=0/\e=.returned (.bool true)/\EachW w0 bi bn bf bv be W' k 0 0/\KeepX [bi,bn,bf] W W')\/(z≠0/\e=.returned (.bool false)/\EachW w0 bi bn bf bv be W' k k z)
theorem FC {x:Pt} {z:Plc} (h:iw x.op=false):lX (x,z)=0:=by unfold lX;rw[K6 (by rw[h];simp)]
theorem Ds {x:Pt} {z:Plc} (h:iw x.op=true):lX (x,z)=eb (rP x z) x.cond:=by unfold lX;rw[K7 h]
theorem IX (w0:World) (bi bn bf bv be d ec k:Nat) (x:Pt) (lf:Plc) (v vc uv sv:Value) (W:World) (F:EachW w0 bi bn bf bv be W k 0 0) (hT:Tbl w0) (hx:aW d w0 v x.args) (D':aF ec w0 vc x.cond.args) (q':WfP x) (hL:PlcIs W lf uv sv) (hS:SmP lf) :
  Calls prog 293 #[KW k,ptV x v vc,iq uv sv lf.fb,.pointer (some ⟨bf,0,none⟩),.pointer (some ⟨bn,0,none⟩)] W (JU w0 bi bn bf bv be k (lX (x,lf)) W):=by
 have u':=hT.stays F.bel;have x':=hx.stays (aB d) F.bel;have e':=D'.stays (ai ec) F.bel;obtain⟨⟨o0,o7⟩,-,-⟩:=q'.self;obtain⟨op,i'⟩:∃op:Nat,x.op=(op:Int):=⟨x.op.toNat,by omega⟩;obtain⟨t0,t1⟩:=u' op om;rw[<-i']at t1;have f':1<W.heap.size:=K8 W ⟨_,_,none⟩ t1;have X':(op:Int)<8:=by omega
 have R':W.heap.size≠1:=by omega
 have A':1≠W.heap.size:=by omega
 have I':W.heap.size+1≠1:=by omega
 have G':1≠W.heap.size+1:=by omega
 obtain⟨Au,cu,rfl,-⟩:=id hL.us;obtain⟨As,cs,rfl,-⟩:=id hL.si;obtain⟨A,c,rfl,-⟩:=id x';obtain⟨Ac,cc,rfl,-⟩:=id e';have C':=jD F;have c':=jD (fun (ht:iw x.op=true) (W9:World) (hb:KY W W9)=>Hk d ec x lf _ _ _ _ W9 (u'.stays hb) (x'.stays (aB d) hb) (e'.stays (ai ec) hb) (hL.stays hb) hS q' ht);have b':=jD (fun (W9:World) (uo so:Value) (hb:KY W W9) (hp:PlcIs W9 (rP x lf) uo so)=>xL (rP x lf) ec x.cond _ uo so W9 (e'.stays (ai ec) hb) hp);obtain⟨tb,r'⟩:∃b,iw x.op=b:=⟨_,rfl⟩;have y':=jD r';rw[r']at t1;obtain⟨n,hn⟩:=jF x.args.length;obtain⟨nc,j'⟩:∃n,n=x.cond.args.length:=⟨_,rfl⟩;obtain⟨nu,s'⟩:∃n,n=lf.us.length:=⟨_,rfl⟩;obtain⟨ns,p'⟩:∃n,n=lf.si.length:=⟨_,rfl⟩;rw[<-hn,<-j',<-s',<-p']at c';rw[<-j']at b';rw[<-hn,<-j',<-s',<-p'];have B':=F.err;clear hT u' hx D' x' e' q' hL hS t0 r' hn j' s' p' F;unfold ptV iq at c' ⊢;unfold exV at b';have n':=jD t1;have N0:Hid (1<W.heap.size):=jD f';clear R' A' I' G' t1 f';rw[i'];rw[i']at c'
 cases tb with
 | false =>
  rw[FC y'.out];go_enter func293,ntmps293
  go_upto_region 1 with fail
  refine aP fun D G=>?_
  obtain⟨P,O⟩:∃q,q=W.heap.size:=⟨_,rfl⟩;have Z:KY W D:=gb G;have p0:KX D P 0 (KW (op:Int)):=by rw[G,O];show _=_;go_simp
  have t1:=aa Z n'.out;have f':=K8 D ⟨_,_,none⟩ t1;have M':=K8 D ⟨P,_,none⟩ p0;rw[<-O];clear G O;go_wp2;go_ret;exact .inl ⟨rfl,rfl,C'.out.grow Z,bw Z⟩
 | true =>
  rw[Ds y'.out];have m':=jD (c'.out (by have h:=y'.out;rw[i']at h;exact h));clear c';go_enter func293,ntmps293
  go_upto_region 1 with fail
  refine aP fun D G=>?_
  obtain⟨Q,hQ⟩:∃q,q=W.heap.size+1:=⟨_,rfl⟩;obtain⟨P,O⟩:∃q,q=W.heap.size:=⟨_,rfl⟩;have Z:KY W D:=gb G;have p0:KX D P 0 (KW (op:Int)):=by rw[G,O];show _=_;go_simp
  have p1:KX D P 1 (.slice A n c):=by rw[G,O];show _=_;go_simp
  have p2:KX D P 2 (KW x.ty):=by rw[G,O];show _=_;go_simp
  have p3:KX D P 3 (KW x.vr):=by rw[G,O];show _=_;go_simp
  have p4:KX D P 4 (KW x.sc):=by rw[G,O];show _=_;go_simp
  have p5:KX D P 5 (KW x.sp):=by rw[G,O];show _=_;go_simp
  have p6:KX D P 6 (KW x.cond.op):=by rw[G,O];show _=_;go_simp
  have p7:KX D P 7 (.slice Ac nc cc):=by rw[G,O];show _=_;go_simp
  have p8:KX D P 8 (KW x.cond.vr):=by rw[G,O];show _=_;go_simp
  have p9:KX D P 9 (KW x.cond.fl):=by rw[G,O];show _=_;go_simp
  have U':KX D P 10 (KW x.cond.kd):=by rw[G,O];show _=_;go_simp
  have T':KX D P 11 (KW x.cond.val.kind):=by rw[G,O];show _=_;go_simp
  have O':KX D P 12 (KW x.cond.val.num):=by rw[G,O];show _=_;go_simp
  have S':KX D P 13 (.string x.cond.val.text):=by rw[G,O];show _=_;go_simp
  have y0:KX D Q 0 (.slice Au nu cu):=by rw[G,hQ];show _=_;go_simp
  have y1:KX D Q 1 (.slice As ns cs):=by rw[G,hQ];show _=_;go_simp
  have y2:KX D Q 2 (KW lf.fb):=by rw[G,hQ];show _=_;go_simp
  have t1:=aa Z n'.out;have f':=K8 D ⟨_,_,none⟩ t1;rw[<-hQ,<-O];have M':=K8 D ⟨P,_,none⟩ p0;have A0:=K8 D ⟨Q,_,none⟩ y0;have F':=B'.keep Z;have g':=jD Z;have P':=jD (fun (W9:World) (hb:KY D W9)=>m'.out W9 (ab g'.out hb));have l':=jD (fun (W9:World) (uo so:Value) (hb:KY D W9) (hp:PlcIs W9 (rP x lf) uo so)=>b'.out W9 uo so (ab g'.out hb) hp);clear b' m' hQ O G;have b':=l';clear l';go_wp2_with fail;have k':∀z,KY D z->(fun z:World=>KY D z/\KX z P 0 (KW (op:Int))/\KX z P 1 (.slice A n c)/\KX z P 2 (KW x.ty)/\KX z P 3 (KW x.vr)/\KX z P 4 (KW x.sc)/\KX z P 5 (KW x.sp)/\KX z P 6 (KW x.cond.op)/\KX z P 7 (.slice Ac nc cc)/\KX z P 8 (KW x.cond.vr)/\KX z P 9 (KW x.cond.fl)/\KX z P 10 (KW x.cond.kd)/\KX z P 11 (KW x.cond.val.kind)/\KX z P 12 (KW x.cond.val.num)/\KX z P 13 (.string x.cond.val.text)/\KX z Q 0 (.slice Au nu cu)/\KX z Q 1 (.slice As ns cs)/\KX z Q 2 (KW lf.fb)) z:=fun z F=>⟨F,aa F p0,aa F p1,aa F p2,aa F p3,aa F p4,aa F p5,aa F p6,aa F p7,aa F p8,aa F p9,aa F U',aa F T',aa F O',aa F S',aa F y0,aa F y1,aa F y2⟩
  refine wp_region_noPanic ?_;refine di ((fun z:World=>KY D z/\z.cell? ⟨P,0,none⟩=some (KW (op:Int))/\z.cell? ⟨P,1,none⟩=some (.slice A n c)/\z.cell? ⟨P,2,none⟩=some (KW x.ty)/\z.cell? ⟨P,3,none⟩=some (KW x.vr)/\z.cell? ⟨P,4,none⟩=some (KW x.sc)/\z.cell? ⟨P,5,none⟩=some (KW x.sp)/\z.cell? ⟨P,6,none⟩=some (KW x.cond.op)/\z.cell? ⟨P,7,none⟩=some (.slice Ac nc cc)/\z.cell? ⟨P,8,none⟩=some (KW x.cond.vr)/\z.cell? ⟨P,9,none⟩=some (KW x.cond.fl)/\z.cell? ⟨P,10,none⟩=some (KW x.cond.kd)/\z.cell? ⟨P,11,none⟩=some (KW x.cond.val.kind)/\z.cell? ⟨P,12,none⟩=some (KW x.cond.val.num)/\z.cell? ⟨P,13,none⟩=some (.string x.cond.val.text)/\z.cell? ⟨Q,0,none⟩=some (.slice Au nu cu)/\z.cell? ⟨Q,1,none⟩=some (.slice As ns cs)/\z.cell? ⟨Q,2,none⟩=some (KW lf.fb))) 6 kr (k' _ (La _ _).drew) (fun I=>?_);refine tkP [0,1,2,3] ?_;refine nxP 4 (fun K hK=>?_)
  focus (go_simp;refine (P'.out _ I.1).mono ?_;rintro e w4 ⟨uo,so,rfl,z',H0,Z',L'⟩;have d':KY D w4:=ab I.1 L')
  refine hK.out _ _ (k' _ d') (fun I=>?_);clear hK K;refine nxP 5 (fun K hK=>?_)
  (have J':=b'.out w4 uo so d' z';obtain⟨fo,t'⟩:∃q,q=eb (rP x lf) x.cond:=⟨_,rfl⟩;rw[<-t']at J';have E':=jD t';clear t';go_simp;refine J'.mono ?_;rintro e w5 ⟨rfl,N'⟩;have a':KY D w5:=ab d' N';have h':=F'.keep a';have f0:=h'.cell;have f1:=h'.frozen;have f2:=h'.lt)
  refine hK.out _ _ (k' _ a') (fun I=>?_);clear hK K;refine dD (fuel:=0) (L:=(true::true::true::true::true::true::true::[]).toArray) rfl kr kr kr kr kr (fun K hK=>?_)
  go_simp
  refine hK.out _ _ ?_;clear hK K;refine⟨by kernel_rfl,NoPanic.normal ?_⟩;rotate_left 1;have J:=jD ((C'.out.grow (ab g'.out a')).setE fo);have H':Hid (KeepX [bi,bn,bf] W (w5.setCell ⟨bf,0,none⟩ (.int .i64 fo))):=jD ((bw (ab g'.out a')).trans (eZ _ jS _));refine tR (Q:=Exit.then _ _) fun w6 e6=>?_
  rw[<-e6]at J H';have c6:=J.out.err.cell;have l6:=J.out.err.lt;have d6:=J.out.node.cell;have m6:=J.out.node.frozen;have k6:=J.out.node.lt;have O0:bf≠bn:=Me J.out.ne.2.2.1;have K0:bn≠bf:=J.out.ne.2.2.1;clear e6 f0 f1 f2 h' I k' F' z'
  by_cases hz:fo=0
  ·subst hz;go_wp2;go_ret;rw[<-E'.out];exact .inl ⟨rfl,rfl,J.out,H'.out⟩
  ·have Y':(fo != 0)=true:=jQ hz;have V':(fo==0)=false:=jQ hz;go_wp2;go_ret;rw[<-E'.out];exact .inr ⟨hz,rfl,J.out.setN _⟩
end
section
open Go.RowKit Go.Lib
theorem yP (l:List Evt) (ty vr:Int) (c:Ex) (b:Bs) (i k:Nat):∀j,dU l ty vr c b i k <+: dU l ty vr c b i (k+j):=fun j=>by
 unfold dU;rw[List.range_add,MN,LH];exact List.prefix_append _ _
theorem Cf {l:List Evt} {ty vr:Int} {c:Ex} {b:Bs} {i k:Nat} {y:Evt} (h:i<=k) (hy:l[k]?=some y) (I:y.ty=ty) (F:eN (eo l b k) vr y c=true):(eJ l ty vr c b i)[(dU l ty vr c b i k).length]?=some [(vr,k)]:=by
 have D:=(List.getElem?_eq_some_iff.1 hy).1;obtain⟨j,G⟩:=Nat.exists_eq_add_of_le (show k+1<=l.length from D);obtain⟨t,z⟩:=yP l ty vr c b i (k+1) j;rw[<-rp,G,<-z,oU h hy,K7 ⟨I,F⟩,L7,Mf (Ld _),Nat.sub_self];rfl
theorem yO {Q:Nat->Prop} (w:World) (a:Int) (k:Nat) (t:TypeId) (D:Q w.heap.size):SetIn Q (w.alloc (.cells #[.int .i64 a,.int .i64 (k:Int)] t)) (.slice (some ⟨w.heap.size,0,none⟩) 1 1) [(a,k)]:=by
 have h:=kw w [KW a,KW (k:Int)] t;refine⟨w.heap.size,0,1,rfl,Ld _,by unfold maxLen;omega,by simp,D,fun j x z=>?_⟩
 cases j with
 | zero =>
  cases z
  exact⟨h 0 _ rfl,h 1 _ rfl⟩
 | succ j=>simp at z
theorem C5 {l:List Evt} {x:Pt} {b:Bs} {i d e C:Nat} {v vc vl u:Value} {W0 w:World} {n1:Nat} {B:Option Nat} {bc bp bo bf:Nat} (H:SeqHyp l x b i d e C v vc vl u W0 w n1 B bc bp bo bf)
  (r':x.op=0) (hB:BOk i b) (hi:i<=l.length) (I':l.length<=4096) (hN:sh x.cond) :
  SeqC 306 #[.pointer (some ⟨bf,0,none⟩),.pointer (some ⟨bc,0,none⟩),.pointer (some ⟨bp,0,none⟩),.pointer (some ⟨bo,0,none⟩)] (mt l x b i) (InS n1 B) (bj W0.heap.size n1 B) w:=by
 rw[show mt l x b i=eJ l x.ty x.vr x.cond b i from by unfold mt;rw[K7 r']];intro ly J Jx W z hJ s' hY n';have H1:=jD (H.next (H.grow z));have HJ:=jD hJ;have HY:=jD hY;have e':∀x∈b,(0<=x.1/\x.1<16)/\x.2<l.length:=fun x hx=>⟨(hB.ok x hx).1,by have:=(hB.ok x hx).2;omega⟩
 have B':=hB.len;have f':Hid (∀(k:Nat) (y:Evt) (W9:World),l[k]?=some y->KY W0 W9->KZ 307 #[.pointer (some ⟨C,0,none⟩),exV x.cond vc,u,KW x.vr,KW (k:Int)] W9 (.bool (eN (eo l b k) x.vr y x.cond))) :=
  jD fun k y W9 hk hb=>Cr l b k y x.vr e x.cond C vl u vc W9 (aa hb H.scn.ev) (H.scn.is.stays aK hb) (H.bs.stays cV hb) e' om hk (H.exs.stays (ai e) hb) hN
 obtain⟨Al,cl,rfl,l1,l2,d'⟩:=id H.scn.is;obtain⟨Ab,cb,rfl,-⟩:=id H.bs;obtain⟨A,c,rfl,-⟩:=id H.pts;obtain⟨Ac,cc,rfl,-⟩:=id H.exs;have D':=ax l1 l2;have z':=jD d';obtain⟨nc,j'⟩:∃n,n=x.cond.args.length:=⟨_,rfl⟩;obtain⟨u,hu⟩:=jF (Value.slice Ab b.length cb);obtain⟨v,hv⟩:=jF (Value.slice A x.args.length c);rw[<-j',<-hu,<-hv]at H1;rw[<-j',<-hu]at f';have A':=H1.out.caps.f.1;have E':=K8 W ⟨bf,_,none⟩ A';have x':=jD n';clear H z hJ s' hY n' e' B' hB hN l1 l2 d' j' hu hv r';unfold exV at f';show Calls prog 306 #[.func (.yield ly) #[] #[],.pointer (some ⟨bf,0,none⟩),.pointer (some ⟨bc,0,none⟩),.pointer (some ⟨bp,0,none⟩),.pointer (some ⟨bo,0,none⟩)] W _;go_enter func306,ntmps306;refine (wpIn_wide (n:=5)).1 ?_;gi_wp2
 gi_loopw [6] (fun t wr=>∃k:Nat,i<=k/\k<=l.length/\t=KW k/\Hid (J (dU l x.ty x.vr x.cond b i k).length wr/\bj W0.heap.size n1 B W wr)) (fun t _=>l.length-(RowKit.intOf t).toNat)
 case atStart=>exact⟨i,Ld _,hi,rfl,jD ⟨by rw[uX];exact x'.out,gC _ _ _ _⟩⟩
 case round =>
  obtain⟨k,l',hk,rfl,hI⟩:=hrel;have Hr:=H1.out.next hI.out.2;have b':=jD Hr;have q':=jD Hr.bel;obtain⟨zc,-⟩:=Hr.caps.c;have zs:=(Hr.scn.stays Hr.bel).ev;have G':=K8 wr ⟨bc,_,none⟩ zc;have F':=K8 wr ⟨C,_,none⟩ zs
  by_cases t':k<l.length
  ·have y':(k:Int)<(l.length:Int):=by omega
   obtain⟨zo,-⟩:=Hr.caps.o;have Hc:=Hr.caps;obtain P2:=Hc.p.1 2 _ rfl;rw[Lu]at P2;obtain P3:=Hc.p.1 3 _ rfl;rw[Lu]at P3;obtain P6:=Hc.p.1 6 _ rfl;rw[Lu]at P6;obtain P7:=Hc.p.1 7 _ rfl;rw[Lu]at P7;obtain P8:=Hc.p.1 8 _ rfl;rw[Lu]at P8;obtain P9:=Hc.p.1 9 _ rfl;rw[Lu]at P9;obtain P10:=Hc.p.1 10 _ rfl;rw[Lu]at P10;obtain P11:=Hc.p.1 11 _ rfl;rw[Lu]at P11;obtain P12:=Hc.p.1 12 _ rfl;rw[Lu]at P12;obtain P13:=Hc.p.1 13 _ rfl;rw[Lu]at P13;obtain⟨y,hy⟩:∃y,l[k]?=some y:=⟨_,K9 t'⟩;obtain⟨be,oe,rfl,ve,C',d0,d1,d2,d3,d4⟩:=z'.out k y hy;have q2:=aa Hr.bel d2;have i':=jD (fun W9 hb=>f'.out k y W9 hy hb);have Z:Hid ((dU l x.ty x.vr x.cond b i (k+1)).length=if y.ty=x.ty/\eN (eo l b k) x.vr y x.cond=true then (dU l x.ty x.vr x.cond b i k).length+1 else (dU l x.ty x.vr x.cond b i k).length):=jD (by rw[oU l' hy];split<;>simp);have c':Hid (y.ty=x.ty->eN (eo l b k) x.vr y x.cond=true->(eJ l x.ty x.vr x.cond b i)[(dU l x.ty x.vr x.cond b i k).length]?=some [(x.vr,k)]):=jD (Cf l' hy);obtain⟨m,hm⟩:=jF ((dU l x.ty x.vr x.cond b i k).length);obtain⟨m',k'⟩:∃m,m=(dU l x.ty x.vr x.cond b i (k+1)).length:=⟨_,rfl⟩;obtain⟨q,hq⟩:=jF (eN (eo l b k) x.vr y x.cond);rw[<-hm]at hI Z c';rw[<-k']at Z;rw[<-hq]at Z c' i';have g':=jD k';have J':=K8 wr ⟨be,_,none⟩ q2;have H':=K8 wr ⟨bp,_,none⟩ P2;clear hm k' hq C' d0 d1 d2 d3 d4 hy Hr Hc
   by_cases G:y.ty=x.ty
   ·have p':(y.ty==x.ty)=true:=jQ G;have HT:=jD G;clear G;gi_wp2
    cases q with
    | false =>
     have a':Hid (m'=m):=jD (by rw[Z.out,K6 jS]);refine wpIn_wide.2 ?_;refine rgn (fun W:World=>KY wr W/\KX W bc 0 (.pointer (some ⟨C,0,none⟩))/\KX W bo 0 (u)/\KX W C 0 (.slice (some ⟨be,oe,none⟩) l.length cl)/\KX W bp 2 (KW x.ty)/\KX W bp 3 (KW x.vr)/\KX W bp 6 (KW x.cond.op)/\KX W bp 7 ((.slice Ac nc cc))/\KX W bp 8 (KW x.cond.vr)/\KX W bp 9 (KW x.cond.fl)/\KX W bp 10 (KW x.cond.kd)/\KX W bp 11 (KW x.cond.val.kind)/\KX W bp 12 (KW x.cond.val.num)/\KX W bp 13 (.string x.cond.val.text)/\KX W be (oe+k*5+2) (KW y.ty)) (Below wr.heap.size wr) (fun W z=>⟨z,aa z zc,aa z zo,aa z zs,aa z P2,aa z P3,aa z P6,aa z P7,aa z P8,aa z P9,aa z P10,aa z P11,aa z P12,aa z P13,aa z q2⟩) ((La _ _).drew) (fun O D=>?_);refine tkH [0,1,2,3,4,5,6,7,8,9,10,11,12,13,14,15,16,17,18] ?_;refine nxH 19 (fun K I=>?_)
     focus (go_simp;refine (i'.out _ (ab q'.out D.1)).mono ?_;rintro e w6 ⟨rfl,h'⟩;have F:KY wr w6:=ab D.1 h')
     refine I.out _ _ (O _ F) (fun D=>?_);clear I K;refine tkH [20,21] ?_;refine tkS [22,23,24,25,26,27,28,29] ?_;refine tkH [30] ?_;refine wpAnyH_done kr (NoPanic.normal ?_) _;rotate_left 1;gi_wp2
     go_roundw
     case rel=>exact⟨k+1,by omega,by omega,by go_num,jD ⟨by rw[<-g'.out,a'.out];exact cD HJ.out hI.out.1 F,bW hI.out.2 (b'.out.grow F)⟩⟩
     case measure=>simp[RowKit.intOf];omega
    | true =>
     have a':Hid (m'=m+1):=jD (by rw[Z.out,K7 ⟨HT.out,rfl⟩]);have u':Hid (∀(W9:World) (t:Value),KY wr W9->SetIn (fun q=>wr.heap.size<=q) W9 t [(x.vr,k)]->YieldAt Fence.wide (5-1) prog ly #[t] W9 fun e W'=>(e=.returned (.bool true)/\J (m+1) W'/\bj W0.heap.size n1 B W W')\/(e=.returned (.bool false)/\Jx (m+1) W')):=by
      refine jD fun W9 t h9 ht=>ep (HY.out _ m [(x.vr,k)] #[t] W9 (c'.out HT.out rfl) (cD HJ.out hI.out.1 h9) (b'.out.inS h9 (Ld _) ht)) ?_
      rintro e W' (⟨rfl,g1,g2⟩|⟨rfl,g1⟩)
      ·exact .inl ⟨rfl,g1,bW (bW hI.out.2 (b'.out.grow h9)) g2⟩
      ·exact .inr ⟨rfl,g1⟩
     have O:∀W,KY wr W->(fun W:World=>KY wr W/\KX W bc 0 (.pointer (some ⟨C,0,none⟩))/\KX W bo 0 (u)/\KX W C 0 (.slice (some ⟨be,oe,none⟩) l.length cl)/\KX W bp 2 (KW x.ty)/\KX W bp 3 (KW x.vr)/\KX W bp 6 (KW x.cond.op)/\KX W bp 7 ((.slice Ac nc cc))/\KX W bp 8 (KW x.cond.vr)/\KX W bp 9 (KW x.cond.fl)/\KX W bp 10 (KW x.cond.kd)/\KX W bp 11 (KW x.cond.val.kind)/\KX W bp 12 (KW x.cond.val.num)/\KX W bp 13 (.string x.cond.val.text)/\KX W be (oe+k*5+2) (KW y.ty)) W:=fun W z=>⟨z,aa z zc,aa z zo,aa z zs,aa z P2,aa z P3,aa z P6,aa z P7,aa z P8,aa z P9,aa z P10,aa z P11,aa z P12,aa z P13,aa z q2⟩
     refine mz ?_;refine ox ((fun W:World=>KY wr W/\W.cell? ⟨bc,0,none⟩=some (.pointer (some ⟨C,0,none⟩))/\W.cell? ⟨bo,0,none⟩=some (u)/\W.cell? ⟨C,0,none⟩=some (.slice (some ⟨be,oe,none⟩) l.length cl)/\W.cell? ⟨bp,2,none⟩=some (KW x.ty)/\W.cell? ⟨bp,3,none⟩=some (KW x.vr)/\W.cell? ⟨bp,6,none⟩=some (KW x.cond.op)/\W.cell? ⟨bp,7,none⟩=some ((.slice Ac nc cc))/\W.cell? ⟨bp,8,none⟩=some (KW x.cond.vr)/\W.cell? ⟨bp,9,none⟩=some (KW x.cond.fl)/\W.cell? ⟨bp,10,none⟩=some (KW x.cond.kd)/\W.cell? ⟨bp,11,none⟩=some (KW x.cond.val.kind)/\W.cell? ⟨bp,12,none⟩=some (KW x.cond.val.num)/\W.cell? ⟨bp,13,none⟩=some (.string x.cond.val.text)/\W.cell? ⟨be,oe+k*5+2,none⟩=some (KW y.ty))) 28 kr (O _ (La _ _).drew) (fun D=>?_);refine tkY [0,1,2,3,4,5,6,7,8,9,10,11,12,13,14,15,16,17,18] ?_;refine oF (i:=19) (fuel:=11) (L:=(true::true::true::true::true::true::true::true::true::true::true::true::true::true::true::true::true::true::true::true::false::false::false::false::false::false::false::false::false::false::false::[]).toArray) rfl kr kr kr kr (fun K I=>?_)
     focus (go_simp;refine (i'.out _ (ab q'.out D.1)).mono ?_;rintro e w6 ⟨rfl,h'⟩;have F:KY wr w6:=ab D.1 h')
     refine I.out _ _ (O _ F) (fun D=>?_);clear I K;refine tkY [20,21,22,23,24,25,26] ?_;refine oF (i:=27) (fuel:=3) (L:=(true::true::true::true::true::true::true::true::true::true::true::true::true::true::true::true::true::true::true::true::true::true::true::true::true::true::true::true::false::false::false::[]).toArray) rfl kr kr kr kr (fun K I=>?_)
     go_simp
     refine I.out _ _ (O _ jB) (fun D=>?_);clear I K;refine rk (fuel:=2) (L:=(true::true::true::true::true::true::true::true::true::true::true::true::true::true::true::true::true::true::true::true::true::true::true::true::true::true::true::true::true::false::false::[]).toArray) rfl kr kr kr kr kr (fun K I=>?_)
     go_simp
     refine gy (l:=ly) (args:=#[.slice (some ⟨w6.heap.size,0,none⟩) 1 1]) (W:=w6.alloc (.cells #[.int .i64 x.vr,.int .i64 (k:Int)] 188)) (u'.out _ _ (show KY wr _ by exact ab F (by exact jB)) (yO _ _ _ _ (by have:=F.size;omega))) (fun W7 h7=>?_) (fun W7 h7=>?_)
     ·have H7:=jD h7;clear h7;refine I.out _ _ ?_;clear I K
      focus (refine eX (i:=29) (fuel:=1) (L:=(true::true::true::true::true::true::true::true::true::true::true::true::true::true::true::true::true::true::true::true::true::true::true::true::true::true::true::true::true::true::false::[]).toArray) (v:=.bool false) rfl rfl kr kr kr ?_ ?_;(focus (go_simp<;>with_reducible rfl));simp only[Lj,Lk])
      focus (refine eX (i:=30) (fuel:=0) (L:=(true::true::true::true::true::true::true::true::true::true::true::true::true::true::true::true::true::true::true::true::true::true::true::true::true::true::true::true::true::true::true::[]).toArray) (v:=.bool false) rfl rfl kr kr kr ?_ ?_;(focus (go_simp<;>with_reducible rfl));simp only[Lj,Lk])
      refine wpAnyIn_done kr (NoPanic.normal ?_) _;gi_wp2
      go_roundw
      case rel=>exact⟨k+1,by omega,by omega,by go_num,jD ⟨by rw[<-g'.out,a'.out];exact H7.out.1,H7.out.2⟩⟩
      case measure=>simp[RowKit.intOf];omega
     ·have H7:=jD h7;clear h7;refine I.out _ _ ?_;clear I K
      focus (refine eX (i:=29) (fuel:=1) (L:=(true::true::true::true::true::true::true::true::true::true::true::true::true::true::true::true::true::true::true::true::true::true::true::true::true::true::true::true::true::true::false::[]).toArray) (v:=.bool true) rfl rfl kr kr kr ?_ ?_;(focus (go_simp<;>with_reducible rfl));simp only[Lj,Lk])
      focus (refine eX (i:=30) (fuel:=0) (L:=(true::true::true::true::true::true::true::true::true::true::true::true::true::true::true::true::true::true::true::true::true::true::true::true::true::true::true::true::true::true::true::[]).toArray) (v:=.bool true) rfl rfl kr kr kr ?_ ?_;(focus (go_simp<;>with_reducible rfl));simp only[Lj,Lk])
      refine wpAnyIn_done kr (NoPanic.normal ?_) _;gi_wp2;refine Lc (v:=.tuple #[]) (Mv rfl _ _ _) rfl ?_;exact⟨⟨_,rfl⟩,.inr ⟨m,(List.getElem?_eq_some_iff.1 (c'.out HT.out jS)).1,H7.out⟩⟩
   ·have p':(y.ty==x.ty)=false:=jQ G;have a':Hid (m'=m):=jD (by rw[Z.out,K6 (fun h=>G h.1)]);clear G;gi_wp2;refine wpIn_wide.2 ?_;refine rgn (fun W:World=>KY wr W/\KX W bc 0 (.pointer (some ⟨C,0,none⟩))/\KX W bo 0 (u)/\KX W C 0 (.slice (some ⟨be,oe,none⟩) l.length cl)/\KX W bp 2 (KW x.ty)/\KX W bp 3 (KW x.vr)/\KX W bp 6 (KW x.cond.op)/\KX W bp 7 ((.slice Ac nc cc))/\KX W bp 8 (KW x.cond.vr)/\KX W bp 9 (KW x.cond.fl)/\KX W bp 10 (KW x.cond.kd)/\KX W bp 11 (KW x.cond.val.kind)/\KX W bp 12 (KW x.cond.val.num)/\KX W bp 13 (.string x.cond.val.text)/\KX W be (oe+k*5+2) (KW y.ty)) (Below wr.heap.size wr) (fun W z=>⟨z,aa z zc,aa z zo,aa z zs,aa z P2,aa z P3,aa z P6,aa z P7,aa z P8,aa z P9,aa z P10,aa z P11,aa z P12,aa z P13,aa z q2⟩) ((La _ _).drew) (fun O D=>?_);refine tkH [0,1,2,3,4,5,6,7,8,9,10,11] ?_;refine tkS [12,13,14,15,16,17,18,19] ?_;refine tkH [20,21] ?_;refine tkS [22,23,24,25,26,27,28,29] ?_;refine tkH [30] ?_;refine wpAnyH_done kr (NoPanic.normal ?_) _;rotate_left 1;gi_wp2
    go_roundw
    case rel=>exact⟨k+1,by omega,by omega,by go_num,jD ⟨by rw[<-g'.out,a'.out];exact cD HJ.out hI.out.1 jB,bW hI.out.2 (b'.out.grow jB)⟩⟩
    case measure=>simp[RowKit.intOf];omega
  ·have y':¬(k:Int)<(l.length:Int):=by omega
   obtain rfl:k=l.length:=by omega
   have HE:=jD hI.out.1;gi_wp2;refine ML (Mv rfl _ _ _) rfl ?_;exact⟨⟨_,rfl⟩,.inl (by rw[<-rp];exact cD HJ.out HE.out jB)⟩
theorem DS (l:List Evt) (x:Pt) (b:Bs) (i:Nat) (z:x.op=0) (hB:BOk i b) (hi:i<=l.length) (J:l.length<=4096) (hN:sh x.cond):FinderK 246 l x b i:=by
 intro d e C v vc vl u W0 w D F h hu hb;have HQ:=jD (fun (n1:Nat) (B:Option Nat) I Z G O (tc tp to tf:TypeId)=>C5 (oM (i:=i) (n1:=n1) (B:=B) D F h hu hb I Z G O tc tp to tf) z hB hi J hN);obtain⟨A,c,rfl,-⟩:=id F;obtain⟨Ac,cc,rfl,-⟩:=id h;obtain⟨Ab,cb,rfl,-⟩:=id hu;clear D F h hu hb hB hN z;unfold ptV;go_enter func246,ntmps246;go_wp2;go_ret;exact⟨_,_,rfl,fun _ _=>rfl,jB,fun n1 B I Z G O=>HQ.out n1 B I Z G O _ _ _ _⟩
end
section
section
open Go.RowKit Go.Shelf
open Go.Sort (SWO PermIn SortedIn HoldsK grow)
instance bndInh:Inhabited Bnd:=⟨⟨0,0,0,0⟩⟩
def kP (x:Bnd):List Value:=[KW x.v,KW x.t,KW x.s,KW x.n]
end
end
end Go.Proofs.YtokconodddedhaaGreatDoor
