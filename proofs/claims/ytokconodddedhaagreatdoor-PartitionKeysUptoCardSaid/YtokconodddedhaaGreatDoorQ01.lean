/- Part. -/
import Derived.Test.YtokconodddedhaaGreatDoorProg
import Derived.Lib.Hide
import Derived.WalkKit
import Derived.KernelRfl
import Derived.OrdersHeld
import Derived.Deep.RegionHeld
import Derived.Deep.RegionHeld3
import Derived.OrdersIn
set_option maxRecDepth 100000
set_option maxHeartbeats 16000000
set_option linter.unusedVariables false
set_option linter.unusedSimpArgs false
namespace Go.Proofs.YtokconodddedhaaGreatDoor
open Go.Proofs.Tryz Go.RowKit
theorem kr {p:Prop} (h:p:=by kernel_rfl):p:=h
theorem jD {p:Prop} (h:p):Hid p:=Lib.hid h
theorem jB {p:Prop} (h:p:=by repeat (first|exact Below.refl _ _|assumption|refine Below.drew ?_|refine aJ ?_ _|refine aA ?_ (by omega) _|refine ab ?_ (by assumption))):p:=h
theorem jC {p:Prop} (h:p:=by repeat (first|exact Gr.refl _|assumption|refine Gr.drew ?_|refine Gr.alloc ?_ _|refine Gr.set ?_ (by omega) _|refine Gr.trans ?_ (by assumption))):p:=h
def Ord (_:List Nat) (p:Prop):Prop:=p
structure CU (p:Prop):Prop where
 out:p
theorem vh {p:Prop} (h:CU p):Ord [] p:=h.out
theorem en {p B:Prop} (h:B) (hp:CU B->p:=by
  intro hk
  first
   | (exfalso;omega)
   | (exfalso;simp only[decide_eq_true_eq,decide_eq_false_iff_not]at *;omega)
   | (go_ret;exact⟨rfl,hk.out⟩)):p:=hp ⟨h⟩
theorem fi {p B:Prop} (h:B) (hp:CU B->p:=by
  intro hk
  go_wp2
  go_ret
  exact⟨rfl,hk.out⟩):p:=hp ⟨h⟩
abbrev KW (n:Int):Value:=.int .i64 n
abbrev KX (W:World) (b o:Nat) (v:Value):Prop:=W.cell? ⟨b,o,none⟩=some v
abbrev KY (w W:World):Prop:=Below w.heap.size w W
abbrev KZ (f:FuncId) (a:Array Value) (w:World) (v:Value):Prop:=Calls Tryz.prog f a w fun e W=>e=.returned v/\Below w.heap.size w W
theorem om {p:Prop} (h:p:=by omega):p:=h
theorem jS {p:Prop} (h:p:=by simp):p:=h
theorem dc {p:Prop} (h:p:=by decide):p:=h
theorem jR {p:Prop} (h:p:=by rfl):p:=h
theorem jG {W W':World} {b o:Nat} {v:Value} (e:W=W') (h:W'.cell? ⟨b,o,none⟩=some v:=by go_simp):KX W b o v:=by rw[e];exact h
theorem gb {n:Nat} {w W W':World} (e:W=W') (h:Below n w W':=by exact jB):Below n w W:=by rw[e];exact h
theorem az {p:Prop} (h:p:=by ((repeat' split) <;> first | rfl | omega | (exfalso; simp_all; done) | (exfalso; simp_all; omega))):p:=h
theorem jE {α:Type _} (a:α):∃x,a=x:=⟨a,rfl⟩
theorem jF {α:Type _} (a:α):∃x,x=a:=⟨a,rfl⟩
theorem eh {α:Type _} (a:α):∃x,Hid (a=x):=⟨a,jD rfl⟩
theorem jH {α:Type _} (a:α):∃x,Hid (x=a):=⟨a,jD rfl⟩
theorem jQ {p q:Prop} (h:p) (f:CU p->q:=by intro h;simpa using h.out):q:=f ⟨h⟩
abbrev K6:=@if_neg
abbrev K7:=@if_pos
abbrev K8:=@World.block_lt_of_cell?
abbrev K9:=@List.getElem?_eq_getElem
abbrev La:=@Below.refl
abbrev Lb:=@Nat.zero_le
abbrev Lc:=@bodyPost_ret
abbrev Ld:=@Nat.le_refl
abbrev Le:=@List.length_append
abbrev Lf:=@Nat.le_trans
abbrev Lg:=@List.mem_cons_self
abbrev Lh:=@List.mem_cons_of_mem
abbrev Li:=@List.mem_of_getElem?
abbrev Lj:=@List.set_cons_zero
abbrev Lk:=@List.set_cons_succ
abbrev Ll:=@Nat.lt_of_lt_of_le
abbrev Lm:=@List.length_map
abbrev Ln:=@World.cell?_of_block
abbrev Lo:=@List.length_singleton
abbrev Lp:=@Bool.and_eq_true
abbrev Lq:=@List.drop_of_length_le
abbrev Lr:=@List.drop_eq_getElem_cons
abbrev Lt:=@List.length_cons
abbrev Lu:=@Nat.zero_add
abbrev Lv:=@List.mem_cons
abbrev Lw:=@List.setIfInBounds_toArray
abbrev Ly:=@decide_eq_true_eq
abbrev Lz:=@List.mem_singleton
abbrev LA:=@DataW.trod_int
abbrev LB:=@Below.heap_setCell
abbrev LC:=@List.getElem?_cons_succ
abbrev LD:=@info_parts
abbrev LE:=@List.getElem?_cons_zero
abbrev LF:=@List.map_cons
abbrev LG:=@decide_eq_false_iff_not
abbrev LH:=@List.map_append
abbrev LI:=@List.getElem?_map
abbrev LJ:=@Nat.add_assoc
abbrev LK:=@Option.some.inj
abbrev LL:=@Nat.mul_one
abbrev LM:=@List.not_mem_nil
abbrev LN:=@or_false
abbrev LO:=@beq_iff_eq
abbrev LP:=@ne_eq
abbrev LQ:=@Bool.or_eq_true
abbrev LR:=@List.getElem?_append_left
abbrev LS:=@List.cons.injEq
abbrev LT:=@Bool.or_eq_false_iff
abbrev LU:=@Bool.not_eq_true'
abbrev LV:=@and_true
abbrev LW:=@Bool.eq_iff_iff
abbrev LX:=@List.take_length
abbrev LY:=@Nat.lt_or_ge
abbrev LZ:=@beq_eq_false_iff_ne
abbrev L0:=@List.mem_append
abbrev L1:=@List.drop_zero
abbrev L2:=@List.mem_flatMap
abbrev L3:=@List.eq_nil_of_length_eq_zero
abbrev L4:=@World.size_alloc
abbrev L5:=@Bool.true_and
abbrev L6:=@bne_iff_ne
abbrev L7:=@List.append_assoc
abbrev L8:=@Bool.and_eq_false_iff
abbrev L9:=@Bool.not_eq_false'
abbrev Ma:=@Nat.succ.inj
abbrev Mb:=@Bool.not_true
abbrev Mc:=@Nat.add_zero
abbrev Md:=@wpList_load_row
abbrev Me:=@Ne.symm
abbrev Mf:=@List.getElem?_append_right
abbrev Mg:=@bne_eq_false_iff_eq
abbrev Mh:=@Bool.not_false
abbrev Mi:=@Bool.true_eq
abbrev Mj:=@Bool.false_eq
abbrev Mk:=@List.flatMap_cons
abbrev Ml:=@List.length_take
abbrev Mm:=@World.size_setCell
abbrev Mn:=@List.take_of_length_le
abbrev Mo:=@if_true
abbrev Mp:=@heap_alloc_new
abbrev Mq:=@Below.heap_alloc
abbrev Mr:=@List.cons_append
abbrev Ms:=@List.foldl_cons
abbrev Mt:=@DataW.trod_struct
abbrev Mu:=@or_assoc
abbrev Mv:=@results_none
abbrev Mw:=@Bool.false_and
abbrev Mx:=@List.take_succ_cons
abbrev My:=@Nat.zero_mul
abbrev Mz:=@List.append_nil
abbrev MA:=@of_decide_eq_true
abbrev MB:=@List.sum_cons
abbrev MC:=@decide_eq_false
abbrev MD:=@List.map_nil
abbrev ME:=@List.getD_eq_getElem?_getD
abbrev MF:=@Int.natCast_add
abbrev MG:=@List.length_nil
abbrev MH:=@List.length_filter_le
abbrev MI:=@Bool.and_false
abbrev MJ:=@List.nil_append
abbrev MK:=@List.getElem_of_mem
abbrev ML:=@bodyPost_end
abbrev MM:=@List.size_toArray
abbrev MN:=@List.filter_append
abbrev MO:=@World.size_drew
abbrev MP:=@List.flatMap_append
abbrev MQ:=@Int.toNat_natCast
abbrev MR:=@List.mem_filter
abbrev MS:=@List.any_eq_false
abbrev MT:=@decide_false
abbrev MU:=@setRow_other
abbrev MX:=@getD_set_ne
abbrev MY:=@Array.getElem?_eq_none
abbrev MZ:=@List.pairwise_cons
abbrev M0:=@World.cell?_setCell_same'
abbrev M3:=@decide_true
abbrev M4:=@Option.getD_some
abbrev M5:=@Array.getElem?_toList
abbrev M6:=@Act.put_comm
abbrev M7:=@List.all_eq_true
abbrev M8:=@List.take_append_drop
abbrev M9:=@Bool.not_eq_false
abbrev Na:=@ByteArray.toList_eq
abbrev Nb:=@Nat.add_comm
abbrev Nc:=@decide_eq_true
abbrev Nd:=@List.getElem_mem
abbrev Nf:=@List.mem_append_right
abbrev Ng:=@callsIn_wide
abbrev Nh:=@Array.replicate_succ
abbrev Ni:=@Array.replicate_zero
abbrev Nj:=@List.push_toArray
abbrev Nk:=@List.append_toArray
abbrev Nl:=@List.map_map
abbrev Nm:=@Option.map_some
abbrev Nn:=@Option.some.injEq
abbrev No:=@Nat.eq_zero_or_pos
abbrev Np:=@List.pairwise_append
abbrev Nq:=@List.foldl_append
abbrev Nr:=@DataW.trod_string
abbrev Ns:=@Nat.ne_of_lt
abbrev Nt:=@List.nodup_nil
abbrev Nu:=@DataW.trod_bool
abbrev Nw:=@World.frozen?_of_block
abbrev Nx:=@Array.getElem?_modify
abbrev Ny:=@run_underlying
abbrev Nz:=@List.drop_eq_nil_of_le
abbrev NA:=@List.any_eq_true
abbrev NB:=@List.getElem?_set_self
abbrev NC:=@List.getElem?_set_ne
abbrev ND:=@List.contains_iff_mem
abbrev NE:=@List.pairwise_map
abbrev NF:=@List.getElem?_toArray
abbrev NG:=@List.getElem?_take
abbrev NH:=@List.length_drop
abbrev NI:=@Array.length_toList
abbrev NJ:=@List.pairwise_singleton
abbrev NK:=@UInt8.le_iff_toNat_le
abbrev NL:=@Nat.pow_le_pow_left
abbrev NM:=@List.getElem?_eq_none
abbrev NO:=@UInt8.toNat_ofNat'
abbrev NP:=@Array.getElem?_eq_getElem
abbrev NQ:=@List.pairwise_iff_getElem
section
section
variable {P : Program} {ops : Array Oper} {Q : Exit -> Act -> World -> Prop} {md : Region.Mode} {S : World -> Prop} {s : Nat}
def dj (P:Program) (md:Region.Mode) (ops:Array Oper) (Q:Exit->Act->World->Prop) (S:World->Prop) (s:Nat):Nat->Array Bool->Act->World->Prop
 | 0,listed,a,w=>wpAny P md ops Q 0 listed a w
 | fuel+1,listed,a,w =>
  (listed.getD s false=true->wpAny P md ops Q (fuel+1) listed a w) /\
  (listed.getD s false=false->(Region.ready md ops listed=[]->Q .normal a w) /\
   ∀i∈Region.ready md ops listed,wpOp P ops Q i (fun h w'=>(i≠s->S w')/\dj P md ops Q S s fuel (listed.setIfInBounds i true) h w') a w)
theorem qF:∀(fuel:Nat) (listed:Array Bool) (a:Act) (w:World),dj P md ops Q S s fuel listed a w->wpAny P md ops Q fuel listed a w
 | 0,_,_,_,h=>h
 | fuel+1,listed,a,w,h=>by
  cases hs:listed.getD s false
  ·have z:=h.2 hs;exact⟨z.1,fun i G=>wpOp_mono (fun F w' D=>qF fuel _ F w' D.2) (z.2 i G)⟩
  ·exact h.1 hs
def tL (md:Region.Mode) (ops:Array Oper) (s i:Nat):Bool:=((ops[s]?).map fun o=>o.after.any fun e=>Region.binds md e&&e.on==i).getD false
theorem lw {i:Nat} {listed:Array Bool} (hw:tL md ops s i=true) (F:listed.getD i false=false):s∉Region.ready md ops listed:=by
 intro h;obtain⟨_,o,D,z⟩:=mem_ready.1 h;unfold tL at hw;rw[D]at hw;simp only[Nm,M4,Array.any_eq_true]at hw;obtain⟨k,hk,he⟩:=hw;simp only[Lp,LO]at he;have:=z _ (Array.getElem_mem hk) he.1;rw[he.2,F]at this
 cases this
theorem uY {i:Nat} {oi:Oper} {v:Value} (hi:ops[i]?=some oi) (J:∀(j:Nat) (o:Oper) cs b,ops[j]?=some o->o.op≠.select cs b)
  (hQ:∀c a w,Q (.panic c) (a.put oi.dst v) w->Q (.panic c) a w) (hw:tL md ops s i=true) (i':i≠s) :
  ∀(fuel:Nat) (listed:Array Bool) (a:Act) (w:World),
   (∀j O,ops[j]?=some O->j≠i->listed.getD j true=false->(∀e∈O.after,Region.binds md e=true->e.on≠i)->oi.apart ops O=true) ->
   i∈Region.ready md ops listed->listed.getD s false=false->YieldsIf P ops S oi v a->S w ->
   dj P md ops Q S s fuel (listed.setIfInBounds i true) (a.put oi.dst v) w->dj P md ops Q S s (fuel+1) listed a w:=by
 intro fuel
 induction fuel with
 | zero =>
  intro listed a w _ hr hls hy hS H;refine⟨fun h=>(by rw[h]at hls;cases hls),fun _=>⟨fun h=>(by rw[h]at hr;cases hr),fun j hj=>?_⟩⟩
  by_cases z:j=i
  ·subst z;exact hy.wpOp hi hS ⟨fun _=>hS,H⟩
  ·have:=ready_mono hj z;rw[H.1]at this
   cases this
 | succ fuel ih =>
  intro listed a w D hr hls hy hS H;refine⟨fun h=>(by rw[h]at hls;cases hls),fun _=>⟨fun h=>(by rw[h]at hr;cases hr),fun j hj=>?_⟩⟩
  by_cases z:j=i
  ·subst z;exact hy.wpOp hi hS ⟨fun _=>hS,H⟩
  ·have c':(listed.setIfInBounds i true).getD s false=false:=by rw[MX false i'];exact hls
   have h1:=(H.2 c').2 j (ready_mono hj z);obtain⟨I,O,b',f'⟩:=mem_ready.1 hj;have G:listed.getD i false=false:=by
    have h0:=(mem_ready.1 hr).1;rcases LY i listed.size with h'|h'
    ·simpa [h'] using h0
    ·simp[MY h']at h0
   have Z:j≠s:=fun e=>lw hw G (e▸hj)
   have e':∀e∈O.after,Region.binds md e=true->e.on≠i:=fun e he hb heq=>by
    have h1:=f' e he hb;rw[heq,G]at h1
    cases h1
   have h2:=wpOp_putIf b' (D j O b' z I e') (fun cs b=>J i oi cs b hi) (fun cs b=>J j O cs b b') hQ hy h1;have F:∀k ok,ops[k]?=some ok->k≠i->(listed.setIfInBounds j true).getD k true=false ->
     (∀e∈ok.after,Region.binds md e=true->e.on≠i)->oi.apart ops ok=true:=fun k ok hk j' g' k'=>by
    refine D k ok hk j' ?_ k'
    by_cases d':j=k
    ·subst d';exact I
    ·rw[MX true d']at g';exact g'
   refine wpOp_mono (fun a' w' h3=>⟨fun _=>h3.2.1 Z,ih (listed.setIfInBounds j true) a' w' F (ready_mono hr (Me z)) (by rw[MX false Z];exact hls) h3.1 (h3.2.1 Z) ?_⟩) h2;rw[Array.setIfInBounds_comm _ _ z];exact h3.2.2
theorem cg {i:Nat} {oi:Oper} {v:Value} {fuel:Nat} {listed:Array Bool} {a:Act} {w:World} (z:ops[i]?=some oi)
  (hs:Region.noSelect ops=true) (hf:Region.free md ops listed i=true) (hr:(Region.ready md ops listed).contains i=true) (hw:(tL md ops s i&&i != s&&!listed.getD s false)=true)
  (F:∀c a w,Q (.panic c) (a.put oi.dst v) w->Q (.panic c) a w) (hy:YieldsIf P ops S oi v a) (D:S w)
  (h:dj P md ops Q S s fuel (listed.setIfInBounds i true) (a.put oi.dst v) w):dj P md ops Q S s (fuel+1) listed a w:=by
 simp only[Lp,L6,LP,LU]at hw;exact uY z (Region.noSelect_spec hs) F hw.1.1 hw.1.2 fuel listed a w (Region.free_spec z hf) (jQ hr) hw.2 hy D h
def AllReadyP (P:Program) (md:Region.Mode) (ops:Array Oper) (Q:Exit->Act->World->Prop) (S:World->Prop) (s fuel:Nat) (listed:Array Bool) (a:Act) (w:World) (rs:List Nat):Prop :=
 ∀i∈rs,wpOp P ops Q i (fun h w'=>(i≠s->S w')/\dj P md ops Q S s fuel (listed.setIfInBounds i true) h w') a w
theorem AllReadyP.nil {fuel:Nat} {listed:Array Bool} {a:Act} {w:World}:AllReadyP P md ops Q S s fuel listed a w []:=fun _ h=>by cases h
theorem AllReadyP.cons {fuel:Nat} {listed:Array Bool} {a:Act} {w:World} {i:Nat} {o:Oper} {rs:List Nat} (I:ops[i]?=some o)
  (h:∀K':Act->World->Prop,Shut (∀a w,S w->(S w->dj P md ops Q S s fuel (listed.setIfInBounds i true) a w)->K' a w)->if Region.wanted o (yielded ops a.tmps)=true then Oper.wp P o a w K' Q else K' (a.put o.dst undef) w)
  (hs:AllReadyP P md ops Q S s fuel listed a w rs):AllReadyP P md ops Q S s fuel listed a w (i::rs):=fun j z=>by
 rcases List.mem_cons.1 z with rfl|z
 ·exact wpOp_step I (fun K' F=>h K' (fun a w D G=>F a w ⟨fun _=>D,G D⟩))
 ·exact hs j z
theorem ft {rs:List Nat} {fuel:Nat} {listed:Array Bool} {a:Act} {w:World} (hr:Region.ready md ops listed=rs) (z:rs≠[]) (hls:listed.getD s false=false)
  (h:AllReadyP P md ops Q S s fuel listed a w rs):dj P md ops Q S s (fuel+1) listed a w :=
 ⟨fun h0=>(by rw[h0]at hls;cases hls),fun _=>⟨fun h0=>absurd (hr▸h0) z,hr▸h⟩⟩
theorem ri {o:Oper} {v:Value} {fuel:Nat} {listed:Array Bool} {a:Act} {w:World} (F:ops[s]?=some o) (hr:Region.ready md ops listed=[s]) (hls:listed.getD s false=false)
  (hy:YieldsIf P ops (fun _=>True) o v a) (h:wpAny P md ops Q fuel (listed.setIfInBounds s true) (a.put o.dst v) w) (z:(listed.setIfInBounds s true).getD s false=true):dj P md ops Q S s (fuel+1) listed a w:=by
 refine⟨fun h0=>(by rw[h0]at hls;cases hls),fun _=>⟨fun h0=>(by rw[h0]at hr;cases hr),fun i D=>?_⟩⟩;rw[hr]at D;obtain rfl:i=s:=jQ D;refine hy.wpOp F trivial ⟨fun e=>absurd rfl e,?_⟩
 cases fuel with
 | zero=>exact h
 | succ fuel=>exact⟨fun _=>h,fun h0=>(by rw[z]at h0;cases h0)⟩
theorem qA {i:Nat} {o:Oper} {fuel:Nat} {listed:Array Bool} {a:Act} {w:World} (G:ops[i]?=some o) (hr:Region.ready md ops listed=[i]) (z:Region.ready md ops (listed.setIfInBounds i true)=[])
  (h:∀K':Act->World->Prop,Shut (∀a w,Q .normal a w->K' a w)->if Region.wanted o (yielded ops a.tmps)=true then Oper.wp P o a w K' Q else K' (a.put o.dst undef) w):wpAny P md ops Q (fuel+1) listed a w:=by
 refine⟨fun h0=>(by rw[h0]at hr;cases hr),fun j D=>?_⟩;rw[hr]at D;obtain rfl:j=i:=jQ D;refine wpOp_step G (fun K' F=>h K' (fun a w hq=>F a w ?_))
 cases fuel with
 | zero=>exact⟨z,hq⟩
 | succ fuel=>exact⟨fun _=>hq,by rw[z];simp⟩
theorem di (S:World->Prop) (s:Nat) {id:Nat} {a:Act} {w:World} (hm:P.follows .mixedOrders=true) (z:S w.drew)
  (h:S w.drew->dj P .any ops Q S s ops.size (Array.replicate ops.size false) a w.drew):(Code.region id ops true).wp P Q a w :=
 wp_region_any hm (qF _ _ _ _ (h z))
end
end
section
section
variable {P : Program} {ops : Array Oper} {Q : Exit -> Act -> World -> Prop} {md : Region.Mode} {S : World -> Prop}
theorem gZ {i:Nat} {oi:Oper} {rest:List Oper} (z:ops.toList.drop i=oi::rest):ops[i]?=some oi:=by
 rw[<-M5];have h:(ops.toList.drop i)[0]?=some oi:=by rw[z];rfl
 rw[List.getElem?_drop]at h
 simpa using h
theorem uf {i d fuel:Nat} {l:List Value} {ds:List Deferred} {listed L:Array Bool} {oi:Oper} {rest:List Oper} {v:Value} {w:World}
  (F:ops.toList.drop i=oi::rest) (z:oi.dst=some d) (hL:listed.setIfInBounds i true=L)
  (hs:Region.noSelect ops=true) (hf:Region.free md ops listed i=true) (hr:(Region.ready md ops listed).contains i=true)
  (D:∀c a w,Q (.panic c) (a.put (some d) v) w->Q (.panic c) a w) (hw:Region.wanted oi (yielded ops l.toArray)=true)
  (hy:∀w,S w->(execOp (Act.eval ⟨l.toArray,ds⟩) oi).run P w=.ok (.value v) w) (G:S w)
  (h:wpAnyH P md ops Q S fuel L ⟨(l.set d v).toArray,ds⟩ w):wpAnyH P md ops Q S (fuel+1) listed ⟨l.toArray,ds⟩ w:=by
 subst hL;refine wpAnyH_take (gZ F) hs hf hr (by rw[z];exact D) (Or.inl ⟨hw,hy⟩) G ?_;rw[z]
 simpa [Act.put] using h
theorem xA {i fuel:Nat} {l:List Value} {ds:List Deferred} {listed L:Array Bool} {oi:Oper} {rest:List Oper} {w:World}
  (D:ops.toList.drop i=oi::rest) (hL:listed.setIfInBounds i true=L) (hr:Region.ready md ops listed=[i]) (hw:Region.wanted oi (yielded ops l.toArray)=true)
  (h:∀K':Act->World->Prop,Shut (∀a w,S w->(S w->wpAnyH P md ops Q S fuel L a w)->K' a w)->Oper.wp P oi ⟨l.toArray,ds⟩ w K' Q):wpAnyH P md ops Q S (fuel+1) listed ⟨l.toArray,ds⟩ w:=by
 subst hL;refine wpAnyH_ready hr jS (AllReadyH.cons (gZ D) (fun K z=>?_) AllReadyH.nil);rw[K7 hw];exact h K z
end
end
section
section
variable {P : Program} {ops : Array Oper} {Q : Exit -> Act -> World -> Prop} {md : Region.Mode} {S : World -> Prop}
theorem vS {i fuel:Nat} {l:List Value} {ds:List Deferred} {listed L:Array Bool} {oi:Oper} {rest:List Oper} {w:World}
  (F:ops.toList.drop i=oi::rest) (hL:listed.setIfInBounds i true=L) (hr:Region.ready md ops listed=[i]) (hw:Region.wanted oi (yielded ops l.toArray)=false) (D:S w)
  (h:S w->wpAnyH P md ops Q S fuel L ((⟨l.toArray,ds⟩:Act).put oi.dst undef) w):wpAnyH P md ops Q S (fuel+1) listed ⟨l.toArray,ds⟩ w:=by
 subst hL;refine wpAnyH_ready hr jS (AllReadyH.cons (gZ F) (fun K z=>?_) AllReadyH.nil);rw[K6 (by rw[hw];simp)];exact z.out _ _ D h
theorem Hg {i d fuel:Nat} {l:List Value} {ds:List Deferred} {listed L:Array Bool} {oi:Oper} {rest:List Oper} {w:World}
  (F:ops.toList.drop i=oi::rest) (z:oi.dst=some d) (hL:listed.setIfInBounds i true=L)
  (hs:Region.noSelect ops=true) (hf:Region.free md ops listed i=true) (hr:(Region.ready md ops listed).contains i=true)
  (D:∀c a w,Q (.panic c) (a.put (some d) undef) w->Q (.panic c) a w) (hw:Region.wanted oi (yielded ops l.toArray)=false) (G:S w)
  (h:wpAnyH P md ops Q S fuel L ⟨(l.set d undef).toArray,ds⟩ w):wpAnyH P md ops Q S (fuel+1) listed ⟨l.toArray,ds⟩ w:=by
 subst hL;refine wpAnyH_take (gZ F) hs hf hr (by rw[z];exact D) (Or.inr ⟨hw,rfl⟩) G ?_;rw[z]
 simpa [Act.put] using h
end
end
section
section
variable {P : Program} {ops : Array Oper} {Q : Exit -> Act -> World -> Prop} {md : Region.Mode} {S : World -> Prop} {s : Nat}
theorem tS {i d fuel:Nat} {l:List Value} {ds:List Deferred} {listed L:Array Bool} {oi:Oper} {rest:List Oper} {v:Value} {w:World}
  (F:ops.toList.drop i=oi::rest) (z:oi.dst=some d) (hL:listed.setIfInBounds i true=L)
  (hs:Region.noSelect ops=true) (hf:Region.free md ops listed i=true) (hr:(Region.ready md ops listed).contains i=true) (hws:(tL md ops s i&&i != s&&!listed.getD s false)=true)
  (D:∀c a w,Q (.panic c) (a.put (some d) v) w->Q (.panic c) a w) (hw:Region.wanted oi (yielded ops l.toArray)=true)
  (hy:∀w,S w->(execOp (Act.eval ⟨l.toArray,ds⟩) oi).run P w=.ok (.value v) w) (G:S w)
  (h:dj P md ops Q S s fuel L ⟨(l.set d v).toArray,ds⟩ w):dj P md ops Q S s (fuel+1) listed ⟨l.toArray,ds⟩ w:=by
 subst hL;refine cg (gZ F) hs hf hr hws (by rw[z];exact D) (Or.inl ⟨hw,hy⟩) G ?_;rw[z]
 simpa [Act.put] using h
theorem yn {i fuel:Nat} {l:List Value} {ds:List Deferred} {listed L:Array Bool} {oi:Oper} {rest:List Oper} {w:World}
  (D:ops.toList.drop i=oi::rest) (hL:listed.setIfInBounds i true=L) (hr:Region.ready md ops listed=[i]) (hls:listed.getD s false=false) (hw:Region.wanted oi (yielded ops l.toArray)=true)
  (h:∀K':Act->World->Prop,Shut (∀a w,S w->(S w->dj P md ops Q S s fuel L a w)->K' a w)->Oper.wp P oi ⟨l.toArray,ds⟩ w K' Q):dj P md ops Q S s (fuel+1) listed ⟨l.toArray,ds⟩ w:=by
 subst hL;refine ft hr jS hls (AllReadyP.cons (gZ D) (fun K z=>?_) AllReadyP.nil);rw[K7 hw];exact h K z
theorem oJ {d fuel:Nat} {l:List Value} {ds:List Deferred} {listed L:Array Bool} {o:Oper} {rest:List Oper} {v:Value} {w:World}
  (F:ops.toList.drop s=o::rest) (D:o.dst=some d) (hL:listed.setIfInBounds s true=L) (hr:Region.ready md ops listed=[s]) (hls:listed.getD s false=false) (z:L.getD s false=true)
  (hw:Region.wanted o (yielded ops l.toArray)=true) (hy:∀w,(execOp (Act.eval ⟨l.toArray,ds⟩) o).run P w=.ok (.value v) w)
  (h:wpAny P md ops Q fuel L ⟨(l.set d v).toArray,ds⟩ w):dj P md ops Q S s (fuel+1) listed ⟨l.toArray,ds⟩ w:=by
 subst hL;refine ri (gZ F) hr hls (Or.inl ⟨hw,fun w _=>hy w⟩) ?_ z;rw[D]
 simpa [Act.put] using h
theorem ol {i fuel:Nat} {l:List Value} {ds:List Deferred} {listed L:Array Bool} {o:Oper} {rest:List Oper} {w:World} (F:ops.toList.drop i=o::rest) (hL:listed.setIfInBounds i true=L) (hr:Region.ready md ops listed=[i])
  (z:Region.ready md ops L=[]) (hw:Region.wanted o (yielded ops l.toArray)=true)
  (h:∀K':Act->World->Prop,Shut (∀a w,Q .normal a w->K' a w)->Oper.wp P o ⟨l.toArray,ds⟩ w K' Q):wpAny P md ops Q (fuel+1) listed ⟨l.toArray,ds⟩ w:=by
 subst hL;refine qA (gZ F) hr z (fun K D=>?_);rw[K7 hw];exact h K D
end
end
section
section
variable {P : Program} {ops : Array Oper} {Q : Exit -> Act -> World -> Prop} {md : Region.Mode} {S : World -> Prop}
theorem ord_H {i d fuel:Nat} {is:List Nat} {l:List Value} {ds:List Deferred} {listed L:Array Bool} {oi:Oper} {rest:List Oper} {v:Value} {w:World}
  (hi:ops.toList.drop i=oi::rest) (jD:oi.dst=some d) (hL:listed.setIfInBounds i true=L)
  (hs:Region.noSelect ops=true) (hf:Region.free md ops listed i=true) (hr:(Region.ready md ops listed).contains i=true)
  (hQ:∀c a w,Q (.panic c) (a.put (some d) v) w->Q (.panic c) a w) (hw:Region.wanted oi (yielded ops l.toArray)=true)
  (hy:∀w,S w->(execOp (Act.eval ⟨l.toArray,ds⟩) oi).run P w=.ok (.value v) w) (hS:S w)
  (h:Ord is (wpAnyH P md ops Q S fuel L ⟨(l.set d v).toArray,ds⟩ w)):Ord (i::is) (wpAnyH P md ops Q S (fuel+1) listed ⟨l.toArray,ds⟩ w) :=
 uf hi jD hL hs hf hr hQ hw hy hS h
theorem ord_P {s i d fuel:Nat} {is:List Nat} {l:List Value} {ds:List Deferred} {listed L:Array Bool} {oi:Oper} {rest:List Oper} {v:Value} {w:World}
  (hi:ops.toList.drop i=oi::rest) (jD:oi.dst=some d) (hL:listed.setIfInBounds i true=L)
  (hs:Region.noSelect ops=true) (hf:Region.free md ops listed i=true) (hr:(Region.ready md ops listed).contains i=true) (hws:(tL md ops s i&&i != s&&!listed.getD s false)=true)
  (hQ:∀c a w,Q (.panic c) (a.put (some d) v) w->Q (.panic c) a w) (hw:Region.wanted oi (yielded ops l.toArray)=true)
  (hy:∀w,S w->(execOp (Act.eval ⟨l.toArray,ds⟩) oi).run P w=.ok (.value v) w) (hS:S w)
  (h:Ord is (dj P md ops Q S s fuel L ⟨(l.set d v).toArray,ds⟩ w)):Ord (i::is) (dj P md ops Q S s (fuel+1) listed ⟨l.toArray,ds⟩ w) :=
 tS hi jD hL hs hf hr hws hQ hw hy hS h
theorem tkH {p q:Prop} (is:List Nat) (h:q) (hq:CU q->Ord is p:=by
  intro hk
  repeat (focus (refine ord_H (v:=?_) rfl rfl rfl (by kernel_rfl) (by kernel_rfl) (by kernel_rfl) (fun _ _ _ h=>h) (by kernel_rfl) ?_ (by assumption) ?_;rotate_left 1;(focus (intro wS hSw;(try dsimp only at hSw);go_simp<;>with_reducible rfl));simp only[List.setIfInBounds_toArray,List.set_cons_zero,List.set_cons_succ]))
  exact vh hk):p:=hq ⟨h⟩
theorem tkP {p q:Prop} (is:List Nat) (h:q) (hq:CU q->Ord is p:=by
  intro hk
  repeat (focus (refine ord_P (v:=?_) rfl rfl rfl (by kernel_rfl) (by kernel_rfl) (by kernel_rfl) (by kernel_rfl) (fun _ _ _ h=>h) (by kernel_rfl) ?_ (by assumption) ?_;rotate_left 1;(focus (intro wS hSw;(try dsimp only at hSw);go_simp<;>with_reducible rfl));simp only[List.setIfInBounds_toArray,List.set_cons_zero,List.set_cons_succ]))
  exact vh hk):p:=hq ⟨h⟩
theorem nxH (i:Nat) {fuel:Nat} {l:List Value} {ds:List Deferred} {listed L:Array Bool} {oi:Oper} {rest:List Oper} {w:World}
  (h:∀K':Act->World->Prop,Shut (∀a w,S w->(S w->wpAnyH P md ops Q S fuel L a w)->K' a w)->Oper.wp P oi ⟨l.toArray,ds⟩ w K' Q)
  (hi:ops.toList.drop i=oi::rest:=by rfl) (hL:listed.setIfInBounds i true=L:=by rfl) (hr:Region.ready md ops listed=[i]:=by kernel_rfl) (hw:Region.wanted oi (yielded ops l.toArray)=true:=by kernel_rfl):wpAnyH P md ops Q S (fuel+1) listed ⟨l.toArray,ds⟩ w :=
 xA hi hL hr hw h
theorem nxP (i:Nat) {s fuel:Nat} {l:List Value} {ds:List Deferred} {listed L:Array Bool} {oi:Oper} {rest:List Oper} {w:World}
  (h:∀K':Act->World->Prop,Shut (∀a w,S w->(S w->dj P md ops Q S s fuel L a w)->K' a w)->Oper.wp P oi ⟨l.toArray,ds⟩ w K' Q)
  (hi:ops.toList.drop i=oi::rest:=by rfl) (hL:listed.setIfInBounds i true=L:=by rfl) (hr:Region.ready md ops listed=[i]:=by kernel_rfl) (hls:listed.getD s false=false:=by kernel_rfl) (hw:Region.wanted oi (yielded ops l.toArray)=true:=by kernel_rfl):dj P md ops Q S s (fuel+1) listed ⟨l.toArray,ds⟩ w :=
 yn hi hL hr hls hw h
end
theorem rgn {P:Program} {id:Nat} {ops:Array Oper} {Q:Exit->Act->World->Prop} {a:Act} {w:World} (S B:World->Prop) (mk:∀W,B W->S W) (h0:B w.drew)
  (h:(∀W,B W->S W)->S w.drew->wpAnyH P .any ops (NoPanic Q) S ops.size (Array.replicate ops.size false) a w.drew) (hm:P.follows .mixedOrders=true:=by kernel_rfl):(Code.region id ops true).wp P Q a w :=
 wp_region_noPanic (wp_region_held_drew hm (mk _ h0) (h mk))
end
section
section
variable {n : Nat} {P : Program} {ops : Array Oper} {Q : Exit -> Act -> World -> Prop} {md : Region.Mode} {S : World -> Prop}
theorem Dd {row:String} {args:Array Value} {w:World} {R:Value->World->Prop} (h:Rows P row args w R):RowsIn Fence.wide n P row args w R :=
 fun c cs _=>let ⟨v,w',r,s⟩:=h c cs;⟨v,w',r,stepsIn_wide.2 s⟩
theorem DK {o:Oper} {a:Act} {K:Act->World->Prop} {r:Result Next} (h:o.upon P a K Q r):o.uponIn Fence.wide n P a K Q r:=by
 have z:Fence.wide.depth.isSome=true->1<=n:=fun e=>by simp[Fence.wide]at e
 cases r with
 | ok x w' =>
  cases x<;>simp only[Oper.upon,Oper.uponIn]at h ⊢<;>first|exact h|exact⟨z,callsIn_wide.2 h⟩|exact⟨z,Dd h⟩|exact h.elim
 | halt x w'=>cases x<;>simp only[Oper.upon,Oper.uponIn]at h ⊢<;>exact h
theorem un {o:Oper} {a:Act} {K:Act->World->Prop} {w:World} (h:o.wp P a w K Q):o.wpIn Fence.wide n P a w K Q :=
 ⟨fun _ _=>trivial,DK h⟩
theorem nX {i:Nat} {o:Oper} {v:Value} {a:Act} (F:ops[i]?=some o) (hy:YieldsIf P ops S o v a) {K:Act->World->Prop} {w:World} (z:S w) (h:K (a.put o.dst v) w):wpOpIn Fence.wide n P ops Q i K a w:=by
 unfold Go.wpOpIn;simp only[F];rcases hy with ⟨hw,D⟩|⟨hw,rfl⟩
 ·simp only[hw,Mo];exact un (by simp only[Oper.wp,D w z,Oper.upon];exact h)
 ·simp only[hw,Bool.false_eq_true,if_false];exact⟨fun _ _=>trivial,h⟩
theorem vi {j:Nat} {oi z:Oper} {v:Value} (hj:ops[j]?=some z) (O:oi.apart ops z=true) (Z:∀cs b,oi.op≠.select cs b) (I:∀cs b,z.op≠.select cs b)
  (J:∀c a w,Q (.panic c) (a.put oi.dst v) w->Q (.panic c) a w) {K:Act->World->Prop} {a:Act} {w:World} (hy:YieldsIf P ops S oi v a) (h:wpOpIn Fence.wide n P ops Q j K (a.put oi.dst v) w) :
  wpOpIn Fence.wide n P ops Q j (fun a' w'=>YieldsIf P ops S oi v a'/\K (a'.put oi.dst v) w') a w:=by
 obtain⟨h1,F,h3⟩:=Oper.apart_spec O;have keep:∀(a:Act),YieldsIf P ops S oi v a->∀u,YieldsIf P ops S oi v (a.put z.dst u):=fun a hy u=>hy.of_same (execOp_put oi Z a z.dst u h3) (wanted_put oi a z.dst u h3)
 have D:∀d,YieldsIf P ops S oi v { a with defers:=d::a.defers }:=fun d=>hy.of_same rfl rfl
 unfold wpOpIn at *;simp only[hj]at *;rw[wanted_put z a oi.dst v h1]at h
 split
 ·rename_i hw
  simp only[hw,Mo]at h;unfold Oper.wpIn at *;refine⟨fun _ _=>trivial,?_⟩;have h:=h.2;rw[show Fence.wide.round=none from rfl,Oper.semAt_none,execOp_put z I a oi.dst v h1]at h;rw[show Fence.wide.round=none from rfl,Oper.semAt_none];generalize (execOp a.eval z).run P w=r at *
  cases r with
  | ok x w' =>
   cases x<;>simp only[Oper.uponIn]at h ⊢
   case value u=>exact⟨keep a hy u,by rw[<-M6 a v u F];exact h⟩
   case skip=>exact⟨keep a hy _,by rw[<-M6 a v undef F];exact h⟩
   case defer d =>
    refine⟨keep _ (D d) _,?_⟩;rw[<-M6 _ v undef F,<-Act.put_defers];exact h
   case enter f args =>
    refine⟨h.1,CallsIn.mono h.2 fun e G he=>?_⟩
    cases e with
    | returned u=>exact⟨keep a hy u,by rw[<-M6 a v u F];exact he⟩
    | panicked c=>exact J _ _ _ he
    | outgrown=>exact he
   case row row args=>exact⟨h.1,RowsIn.mono h.2 fun u G he=>⟨keep a hy u,by rw[<-M6 a v u F];exact he⟩⟩
   case round l f tmps assign body =>
    refine⟨h.1,RoundIn.mono h.2 fun e G he=>?_⟩
    cases e with
    | returned u=>exact⟨keep a hy u,by rw[<-M6 a v u F];exact he⟩
    | panicked c=>exact J _ _ _ he
    | outgrown=>exact he
  | halt x w' =>
   cases x<;>simp only[Oper.uponIn]at h ⊢
   case panic u=>exact J _ _ _ h
 ·rename_i hw
  simp only[hw]at h;exact⟨fun _ _=>trivial,keep a hy _,by rw[<-M6 a v undef F];exact h.2⟩
def rV (md:Region.Mode) (ops:Array Oper):Nat->Nat->Nat->Bool
 | 0,_,_=>false
 | f+1,s,i=>((ops[s]?).map fun o=>o.after.any fun e=>Region.binds md e&&(e.on==i || rV md ops f e.on i)).getD false
def ClosedL (md:Region.Mode) (ops:Array Oper) (listed:Array Bool):Prop:=∀(j:Nat) (o:Oper),ops[j]?=some o->listed.getD j false=true->∀e∈o.after,Region.binds md e=true->listed.getD e.on false=true
def px (md:Region.Mode) (ops:Array Oper) (listed:Array Bool):Bool:=(List.range ops.size).all fun j=>!(listed.getD j false) || ((ops[j]?).map fun o=>o.after.all fun e=>!(Region.binds md e) || listed.getD e.on false).getD true
theorem yL {listed:Array Bool} (h:px md ops listed=true):ClosedL md ops listed:=fun j o D G e he I=>by
 unfold px at h;rw[M7]at h;have z:=h j (List.mem_range.2 (Array.getElem?_eq_some_iff.1 D).1);rw[G,D]at z;simp only[Mb,Bool.false_or,Nm,M4,Array.all_eq_true]at z;obtain⟨k,hk,rfl⟩:=Array.mem_iff_getElem.1 he;have F:=z k hk;rw[I]at F
 simpa using F
theorem sQ {listed:Array Bool} {j k:Nat} (h:listed.getD k false=true):(listed.setIfInBounds j true).getD k false=true:=by
 by_cases e:j=k
 ·subst e;have D:j<listed.size:=by
   rcases LY j listed.size with z|z
   ·exact z
   ·simp[MY z]at h
  simp[D]
 ·rw[MX false e];exact h
theorem ClosedL.next {listed:Array Bool} (h:ClosedL md ops listed) {j:Nat} (J:j∈Region.ready md ops listed):ClosedL md ops (listed.setIfInBounds j true):=fun k o F hk e he I=>by
 by_cases G:j=k
 ·subst G;obtain⟨_,o',D,z⟩:=mem_ready.1 J;rw[F]at D
  cases D
  exact sQ (z e he I)
 ·rw[MX false G]at hk;exact sQ (h k o F hk e he I)
theorem pK {listed:Array Bool} (F:ClosedL md ops listed):∀(f s i:Nat) (o:Oper),ops[s]?=some o->(∀e∈o.after,Region.binds md e=true->listed.getD e.on false=true)->rV md ops f s i=true->listed.getD i false=true
 | 0,s,i,o,_,_,h=>by simp[rV]at h
 | f+1,s,i,o,ho,hall,h=>by
  rw[rV,ho]at h;simp only[Nm,M4,Array.any_eq_true]at h;obtain⟨k,hk,h⟩:=h;simp only[Lp,LQ,LO]at h;have I:=hall _ (Array.getElem_mem hk) h.1;rcases h.2 with D|D
  ·rw[<-D];exact I
  ·cases z:ops[o.after[k].on]? with
   | none =>
    cases f with
    | zero=>simp[rV]at D
    | succ f=>rw[rV,z]at D;simp at D
   | some G=>exact pK F f _ i G z (F _ G z I) D
theorem nB {s i:Nat} {listed:Array Bool} (D:ClosedL md ops listed) (hw:rV md ops ops.size s i=true) (G:listed.getD i false=false):s∉Region.ready md ops listed:=fun h=>by
 obtain⟨_,o,F,z⟩:=mem_ready.1 h;have:=pK D _ s i o F z hw;rw[G]at this
 cases this
def gd (n:Nat) (P:Program) (md:Region.Mode) (ops:Array Oper) (Q:Exit->Act->World->Prop) (S:World->Prop) (s:Nat):Nat->Array Bool->Act->World->Prop
 | 0,listed,a,w=>wpAnyIn Fence.wide n P md ops Q 0 listed a w
 | fuel+1,listed,a,w =>
  (listed.getD s false=true->wpAnyIn Fence.wide n P md ops Q (fuel+1) listed a w) /\
  (listed.getD s false=false->(Region.ready md ops listed=[]->Q .normal a w) /\
   ∀i∈Region.ready md ops listed,wpOpIn Fence.wide n P ops Q i (fun h w'=>(i≠s->S w')/\gd n P md ops Q S s fuel (listed.setIfInBounds i true) h w') a w)
variable {s : Nat}
theorem mC:∀(fuel:Nat) (listed:Array Bool) (a:Act) (w:World),gd n P md ops Q S s fuel listed a w->wpAnyIn Fence.wide n P md ops Q fuel listed a w
 | 0,_,_,_,h=>h
 | fuel+1,listed,a,w,h=>by
  cases hs:listed.getD s false
  ·have z:=h.2 hs;exact⟨z.1,fun i G=>wpOpIn_mono (fun F w' D=>mC fuel _ F w' D.2) (z.2 i G)⟩
  ·exact h.1 hs
theorem ud {i:Nat} {oi:Oper} {v:Value} (hi:ops[i]?=some oi) (J:∀(j:Nat) (o:Oper) cs b,ops[j]?=some o->o.op≠.select cs b)
  (hQ:∀c a w,Q (.panic c) (a.put oi.dst v) w->Q (.panic c) a w) (hw:rV md ops ops.size s i=true) (j':i≠s) :
  ∀(fuel:Nat) (listed:Array Bool) (a:Act) (w:World),
   (∀j O,ops[j]?=some O->j≠i->listed.getD j true=false->(∀e∈O.after,Region.binds md e=true->e.on≠i)->oi.apart ops O=true) ->
   i∈Region.ready md ops listed->ClosedL md ops listed->listed.getD s false=false->YieldsIf P ops S oi v a->S w ->
   gd n P md ops Q S s fuel (listed.setIfInBounds i true) (a.put oi.dst v) w->gd n P md ops Q S s (fuel+1) listed a w:=by
 intro fuel
 induction fuel with
 | zero =>
  intro listed a w _ hr b' hls hy hS H;refine⟨fun h=>(by rw[h]at hls;cases hls),fun _=>⟨fun h=>(by rw[h]at hr;cases hr),fun j hj=>?_⟩⟩
  by_cases z:j=i
  ·subst z;exact nX hi hy hS ⟨fun _=>hS,H⟩
  ·have:=ready_mono hj z;rw[H.1]at this
   cases this
 | succ fuel ih =>
  intro listed a w D hr b' hls hy hS H;refine⟨fun h=>(by rw[h]at hls;cases hls),fun _=>⟨fun h=>(by rw[h]at hr;cases hr),fun j hj=>?_⟩⟩
  by_cases z:j=i
  ·subst z;exact nX hi hy hS ⟨fun _=>hS,H⟩
  ·have d':(listed.setIfInBounds i true).getD s false=false:=by rw[MX false j'];exact hls
   have h1:=(H.2 d').2 j (ready_mono hj z);obtain⟨I,O,c',g'⟩:=mem_ready.1 hj;have G:listed.getD i false=false:=by
    have h0:=(mem_ready.1 hr).1;rcases LY i listed.size with h'|h'
    ·simpa [h'] using h0
    ·simp[MY h']at h0
   have Z:j≠s:=fun e=>nB b' hw G (e▸(show j∈Region.ready md ops listed from hj))
   have f':∀e∈O.after,Region.binds md e=true->e.on≠i:=fun e he hb heq=>by
    have h1:=g' e he hb;rw[heq,G]at h1
    cases h1
   have h2:=vi c' (D j O c' z I f') (fun cs b=>J i oi cs b hi) (fun cs b=>J j O cs b c') hQ hy h1;have F:∀k ok,ops[k]?=some ok->k≠i->(listed.setIfInBounds j true).getD k true=false ->
     (∀e∈ok.after,Region.binds md e=true->e.on≠i)->oi.apart ops ok=true:=fun k ok hk k' i' l'=>by
    refine D k ok hk k' ?_ l'
    by_cases e':j=k
    ·subst e';exact I
    ·rw[MX true e']at i';exact i'
   refine wpOpIn_mono (fun a' w' h3=>⟨fun _=>h3.2.1 Z,ih (listed.setIfInBounds j true) a' w' F (ready_mono hr (Me z)) (b'.next hj) (by rw[MX false Z];exact hls) h3.1 (h3.2.1 Z) ?_⟩) h2;rw[Array.setIfInBounds_comm _ _ z];exact h3.2.2
theorem uP {i d fuel:Nat} {l:List Value} {ds:List Deferred} {listed L:Array Bool} {oi:Oper} {rest:List Oper} {v:Value} {w:World}
  (D:ops.toList.drop i=oi::rest) (z:oi.dst=some d) (hL:listed.setIfInBounds i true=L)
  (hs:Region.noSelect ops=true) (hf:Region.free md ops listed i=true) (hr:(Region.ready md ops listed).contains i=true) (hws:(rV md ops ops.size s i&&px md ops listed&&i != s&&!listed.getD s false)=true)
  (F:∀c a w,Q (.panic c) (a.put (some d) v) w->Q (.panic c) a w) (hw:Region.wanted oi (yielded ops l.toArray)=true)
  (hy:∀w,S w->(execOp (Act.eval ⟨l.toArray,ds⟩) oi).run P w=.ok (.value v) w) (G:S w)
  (h:gd n P md ops Q S s fuel L ⟨(l.set d v).toArray,ds⟩ w):gd n P md ops Q S s (fuel+1) listed ⟨l.toArray,ds⟩ w:=by
 subst hL;simp only[Lp,L6,LP,LU]at hws;refine ud (gZ D) (Region.noSelect_spec hs) (by rw[z];exact F) hws.1.1.1 hws.1.2 fuel listed _ w (Region.free_spec (gZ D) hf) (jQ hr) (yL hws.1.1.2) hws.2 (Or.inl ⟨hw,hy⟩) G ?_;rw[z]
 simpa [Act.put] using h
theorem oF {i fuel:Nat} {l:List Value} {ds:List Deferred} {listed L:Array Bool} {oi:Oper} {rest:List Oper} {w:World}
  (G:ops.toList.drop i=oi::rest) (hL:listed.setIfInBounds i true=L) (hr:Region.ready md ops listed=[i]) (hls:listed.getD s false=false) (hw:Region.wanted oi (yielded ops l.toArray)=true)
  (h:∀K':Act->World->Prop,Shut (∀a w,S w->(S w->gd n P md ops Q S s fuel L a w)->K' a w)->Oper.wp P oi ⟨l.toArray,ds⟩ w K' Q):gd n P md ops Q S s (fuel+1) listed ⟨l.toArray,ds⟩ w:=by
 subst hL;refine⟨fun h0=>(by rw[h0]at hls;cases hls),fun _=>⟨fun h0=>(by rw[h0]at hr;cases hr),fun j z=>?_⟩⟩;rw[hr]at z;obtain rfl:j=i:=jQ z;refine wpOpIn_step (gZ G) (fun K' F=>?_);rw[K7 hw];exact un (h K' (fun a w D I=>F a w ⟨fun _=>D,I D⟩))
theorem rk {fuel:Nat} {l:List Value} {ds:List Deferred} {listed L:Array Bool} {o:Oper} {rest:List Oper} {w:World}
  (I:ops.toList.drop s=o::rest) (hL:listed.setIfInBounds s true=L) (hr:Region.ready md ops listed=[s]) (hls:listed.getD s false=false) (z:L.getD s false=true) (hw:Region.wanted o (yielded ops l.toArray)=true)
  (h:∀K':Act->World->Prop,Shut (∀a w,wpAnyIn Fence.wide n P md ops Q fuel L a w->K' a w)->Oper.uponIn Fence.wide n P o ⟨l.toArray,ds⟩ K' Q ((execOp (Act.eval ⟨l.toArray,ds⟩) o).run P w)):gd n P md ops Q S s (fuel+1) listed ⟨l.toArray,ds⟩ w:=by
 subst hL;refine⟨fun h0=>(by rw[h0]at hls;cases hls),fun _=>⟨fun h0=>(by rw[h0]at hr;cases hr),fun j D=>?_⟩⟩;rw[hr]at D;obtain rfl:j=s:=jQ D;refine wpOpIn_step (gZ I) (fun K' G=>?_);rw[K7 hw];refine⟨fun _ _=>trivial,h K' (fun a w F=>G a w ⟨fun e=>absurd rfl e,?_⟩)⟩
 cases fuel with
 | zero=>exact F
 | succ fuel=>exact⟨fun _=>F,fun h0=>(by rw[z]at h0;cases h0)⟩
theorem eX {i d fuel:Nat} {l:List Value} {ds:List Deferred} {listed L:Array Bool} {oi:Oper} {rest:List Oper} {v:Value} {w:World}
  (F:ops.toList.drop i=oi::rest) (D:oi.dst=some d) (hL:listed.setIfInBounds i true=L) (hr:Region.ready md ops listed=[i]) (hw:Region.wanted oi (yielded ops l.toArray)=true)
  (hy:(execOp (Act.eval ⟨l.toArray,ds⟩) oi).run P w=.ok (.value v) w)
  (h:wpAnyIn Fence.wide n P md ops Q fuel L ⟨(l.set d v).toArray,ds⟩ w):wpAnyIn Fence.wide n P md ops Q (fuel+1) listed ⟨l.toArray,ds⟩ w:=by
 subst hL;refine⟨fun h0=>(by rw[h0]at hr;cases hr),fun j z=>?_⟩;rw[hr]at z;obtain rfl:j=i:=jQ z;unfold Go.wpOpIn;simp only[gZ F,hw,Mo];refine un ?_;simp only[Oper.wp,hy,Oper.upon,D]
 simpa [Act.put] using h
theorem ox (S:World->Prop) (s:Nat) {id:Nat} {a:Act} {w:World} (hm:P.follows .mixedOrders=true) (z:S w.drew)
  (h:S w.drew->gd n P .any ops Q S s ops.size (Array.replicate ops.size false) a w.drew):(Code.region id ops true).wpIn Fence.wide n P Q a w :=
 wpIn_region_any hm (mC _ _ _ _ (h z))
theorem mz {F:Fence} {c:Code} {a:Act} {w:World} (h:c.wpIn F n P (NoPanic Q) a w):c.wpIn F n P Q a w:=wpIn_mono h NoPanic.imp
end
end
section
section
variable {n : Nat} {P : Program} {ops : Array Oper} {Q : Exit -> Act -> World -> Prop} {md : Region.Mode} {S : World -> Prop} {s : Nat}
theorem ord_Y {i d fuel:Nat} {is:List Nat} {l:List Value} {ds:List Deferred} {listed L:Array Bool} {oi:Oper} {rest:List Oper} {v:Value} {w:World}
  (hi:ops.toList.drop i=oi::rest) (jD:oi.dst=some d) (hL:listed.setIfInBounds i true=L)
  (hs:Region.noSelect ops=true) (hf:Region.free md ops listed i=true) (hr:(Region.ready md ops listed).contains i=true) (hws:(rV md ops ops.size s i&&px md ops listed&&i != s&&!listed.getD s false)=true)
  (hQ:∀c a w,Q (.panic c) (a.put (some d) v) w->Q (.panic c) a w) (hw:Region.wanted oi (yielded ops l.toArray)=true)
  (hy:∀w,S w->(execOp (Act.eval ⟨l.toArray,ds⟩) oi).run P w=.ok (.value v) w) (hS:S w)
  (h:Ord is (gd n P md ops Q S s fuel L ⟨(l.set d v).toArray,ds⟩ w)):Ord (i::is) (gd n P md ops Q S s (fuel+1) listed ⟨l.toArray,ds⟩ w) :=
 uP hi jD hL hs hf hr hws hQ hw hy hS h
theorem tkY {p q:Prop} (is:List Nat) (h:q) (hq:CU q->Ord is p:=by
  intro hk
  repeat (focus (refine ord_Y (v:=?_) rfl rfl rfl (by kernel_rfl) (by kernel_rfl) (by kernel_rfl) (by kernel_rfl) (fun _ _ _ h=>h) (by kernel_rfl) ?_ (by assumption) ?_;rotate_left 1;(focus (intro wS hSw;(try dsimp only at hSw);go_simp<;>with_reducible rfl));simp only[Lw,Lj,Lk]))
  exact vh hk):p:=hq ⟨h⟩
end
end
end Go.Proofs.YtokconodddedhaaGreatDoor
