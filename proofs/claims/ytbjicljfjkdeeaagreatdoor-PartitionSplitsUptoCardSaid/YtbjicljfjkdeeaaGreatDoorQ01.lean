/- Part. -/
import Derived.Test.YtbjicljfjkdeeaaGreatDoorProg
import Derived.Lib.Hide
import Derived.WalkKit
import Derived.KernelRfl
import Derived.OrdersHeld
import Derived.Deep.RegionHeld
import Derived.WalkSpells
import Derived.WalkLawsBesides
import Derived.Deep.QuietTactic
import Derived.BigQuiet
import Derived.Maps.AppendAt
set_option maxRecDepth 100000
set_option maxHeartbeats 16000000
set_option linter.unusedVariables false
set_option linter.unusedSimpArgs false
namespace Go.Proofs.YtbjicljfjkdeeaaGreatDoor
open Go.Proofs.Tryz Go.RowKit
theorem kr {p:Prop} (h:p:=by kernel_rfl):p:=h
theorem jD {p:Prop} (h:p):Hid p:=Lib.hid h
theorem jB {p:Prop} (h:p:=by repeat (first|exact Below.refl _ _|assumption|refine Below.drew ?_|refine bt ?_ _|refine aq ?_ (by omega) _|refine ab ?_ (by assumption))):p:=h
theorem jC {p:Prop} (h:p:=by repeat (first|exact Gr.refl _|assumption|refine Gr.drew ?_|refine Gr.alloc ?_ _|refine Gr.set ?_ (by omega) _|refine Gr.trans ?_ (by assumption))):p:=h
def Ord (_:List Nat) (p:Prop):Prop:=p
structure AS (p:Prop):Prop where
 out:p
theorem oU {p:Prop} (h:AS p):Ord [] p:=h.out
theorem en {p B:Prop} (h:B) (hp:AS B->p:=by
  intro hk
  first
   | (exfalso;omega)
   | (exfalso;simp only[decide_eq_true_eq,decide_eq_false_iff_not]at *;omega)
   | (go_ret;exact⟨rfl,hk.out⟩)):p:=hp ⟨h⟩
theorem fi {p B:Prop} (h:B) (hp:AS B->p:=by
  intro hk
  go_wp2
  go_ret
  exact⟨rfl,hk.out⟩):p:=hp ⟨h⟩
abbrev Mk (n:Int):Value:=.int .i64 n
abbrev Ml (W:World) (b o:Nat) (v:Value):Prop:=W.cell? ⟨b,o,none⟩=some v
abbrev Mm (w W:World):Prop:=Below w.heap.size w W
abbrev Mn (f:FuncId) (a:Array Value) (w:World) (v:Value):Prop:=Calls Tryz.prog f a w fun e W=>e=.returned v/\Below w.heap.size w W
theorem om {p:Prop} (h:p:=by omega):p:=h
theorem jS {p:Prop} (h:p:=by simp):p:=h
theorem dc {p:Prop} (h:p:=by decide):p:=h
theorem jR {p:Prop} (h:p:=by rfl):p:=h
theorem jG {W W':World} {b o:Nat} {v:Value} (e:W=W') (h:W'.cell? ⟨b,o,none⟩=some v:=by go_simp):Ml W b o v:=by rw[e];exact h
theorem jW {W W':World} {b b' o:Nat} {v:Value} (e:W=W') (f:b=b') (h:W'.cell? ⟨b',o,none⟩=some v:=by go_simp):Ml W b o v:=by rw[e,f];exact h
theorem gb {n:Nat} {w W W':World} (e:W=W') (h:Below n w W':=by exact jB):Below n w W:=by rw[e];exact h
theorem az {p:Prop} (h:p:=by ((repeat' split) <;> first | rfl | omega | (exfalso; simp_all; done) | (exfalso; simp_all; omega))):p:=h
theorem jE {α:Type _} (a:α):∃x,a=x:=⟨a,rfl⟩
theorem jF {α:Type _} (a:α):∃x,x=a:=⟨a,rfl⟩
theorem eh {α:Type _} (a:α):∃x,Hid (a=x):=⟨a,jD rfl⟩
theorem jH {α:Type _} (a:α):∃x,Hid (x=a):=⟨a,jD rfl⟩
theorem jQ {p q:Prop} (h:p) (f:AS p->q:=by intro h;simpa using h.out):q:=f ⟨h⟩
abbrev Mo:=@if_neg
abbrev Mp:=@if_pos
abbrev Mq:=@List.getElem?_eq_getElem
abbrev Mr:=@Below.refl
abbrev Ms:=@World.block_lt_of_cell?
abbrev Mt:=@Nat.le_refl
abbrev Mu:=@Nat.zero_le
abbrev Mv:=@bodyPost_ret
abbrev Mw:=@List.length_append
abbrev Mx:=@Nat.le_trans
abbrev My:=@Bool.and_eq_true
abbrev Mz:=@List.mem_cons_self
abbrev MA:=@List.getElem?_map
abbrev MB:=@List.length_map
abbrev MC:=@Nat.zero_add
abbrev MD:=@List.mem_cons_of_mem
abbrev ME:=@Nat.lt_of_lt_of_le
abbrev MF:=@List.map_cons
abbrev MG:=@List.length_cons
abbrev MH:=@List.length_singleton
abbrev MI:=@List.mem_of_getElem?
abbrev MJ:=@Array.getElem?_eq_getElem
abbrev MK:=@decide_eq_true_eq
abbrev ML:=@World.cell?_of_block
abbrev MM:=@List.flatMap_cons
abbrev MN:=@List.mem_cons
abbrev MO:=@beq_iff_eq
abbrev MP:=@Sem.run_bind
abbrev MQ:=@List.getElem?_append_left
abbrev MR:=@Option.bind_some
abbrev MS:=@DataW.trod_int
abbrev MT:=@Ne.symm
abbrev MU:=@Bool.or_eq_true
abbrev MX:=@Option.some.inj
abbrev MY:=@List.set_cons_succ
abbrev MZ:=@List.set_cons_zero
abbrev M4:=@Bool.not_eq_true'
abbrev M5:=@if_true
abbrev M6:=@run_underlying
abbrev M7:=@List.getElem?_append_right
abbrev M8:=@List.eq_nil_of_length_eq_zero
abbrev M9:=@Result.andThen_ok
abbrev Na:=@decide_eq_false_iff_not
abbrev Nb:=@decide_eq_false
abbrev Nc:=@Nat.add_zero
abbrev Nd:=@List.drop_eq_getElem_cons
abbrev Nf:=@List.cons.injEq
abbrev Ng:=@Bool.or_eq_false_iff
abbrev Nh:=@List.not_mem_nil
abbrev Ni:=@or_false
abbrev Nj:=@Below.heap_setCell
abbrev Nk:=@Bool.not_true
abbrev Nl:=@beq_eq_false_iff_ne
abbrev Nm:=@decide_eq_true
abbrev Nn:=@Nat.zero_mul
abbrev No:=@List.drop_of_length_le
abbrev Np:=@info_parts
abbrev Nq:=@List.take_length
abbrev Nr:=@heap_alloc_new
abbrev Ns:=@and_true
abbrev Nt:=@Bool.eq_iff_iff
abbrev Nu:=@List.getElem_mem
abbrev Nw:=@List.mem_flatMap
abbrev Nx:=@List.length_take
abbrev Ny:=@Nat.lt_or_ge
abbrev Nz:=@Below.heap_alloc
abbrev NA:=@List.setIfInBounds_toArray
abbrev NB:=@of_decide_eq_true
abbrev NC:=@List.mem_append
abbrev ND:=@bne_iff_ne
abbrev NE:=@Sem.run_pure
abbrev NF:=@Nat.mul_one
abbrev NG:=@Bool.not_eq_false'
abbrev NH:=@Bool.not_false
abbrev NI:=@results_none
abbrev NJ:=@if_false
abbrev NK:=@List.mem_singleton
abbrev NL:=@bne_eq_false_iff_eq
abbrev NM:=@Bool.and_eq_false_iff
abbrev NN:=@Bool.true_eq
abbrev NO:=@Bool.false_eq
abbrev NP:=@List.getElem?_take
abbrev NQ:=@World.size_setCell
abbrev NR:=@Option.map_some
abbrev NS:=@Option.getD_some
abbrev NT:=@Nat.add_assoc
abbrev NU:=@Nat.succ.inj
abbrev NV:=@or_assoc
abbrev NW:=@Bool.true_and
abbrev NY:=@List.map_append
abbrev NZ:=@List.getElem?_eq_none
abbrev N0:=@DataW.trod_struct
abbrev N1:=@List.sum_cons
abbrev N2:=@Nat.le_of_eq
abbrev N3:=@decide_false
abbrev N4:=@List.foldl_cons
abbrev N5:=@List.size_toArray
abbrev N6:=@Array.getElem?_toList
abbrev N7:=@List.getElem?_drop
abbrev N8:=@decide_true
abbrev N9:=@List.getElem_of_mem
abbrev Oa:=@List.map_map
abbrev Oc:=@List.take_succ_cons
abbrev Od:=@wpList_load_row
abbrev Oe:=@Int.natCast_add
abbrev Of:=@List.take_of_length_le
abbrev Og:=@List.length_nil
abbrev Oh:=@Array.length_toList
abbrev Oi:=@List.cons_append
abbrev Oj:=@Bool.false_and
abbrev Ok:=@wpIn_wide
abbrev Ol:=@Option.some.injEq
abbrev Om:=@List.map_nil
abbrev On:=@Bool.false_or
abbrev Oo:=@World.size_alloc
abbrev Oq:=@Nat.one_mul
abbrev Ot:=@Array.getElem?_eq_none
abbrev Ou:=@Nat.add_mul
abbrev Ov:=@Nat.mul_le_mul_right
abbrev Ow:=@List.length_filter_le
abbrev Ox:=@Bool.and_false
abbrev Oy:=@List.filter_append
abbrev Oz:=@getD_set_ne
abbrev OA:=@List.getElem?_cons_succ
abbrev OB:=@List.take_append_drop
abbrev OC:=@List.append_assoc
abbrev OD:=@List.drop_zero
abbrev OE:=@List.mem_append_right
abbrev OF:=@Nat.succ_mul
abbrev OG:=@Array.ext'
abbrev OH:=@Go.wpIn_mono
abbrev OI:=@bodyPost_end
abbrev OJ:=@List.pairwise_cons
abbrev OK:=@List.flatMap_append
abbrev OL:=@List.getD_cons_zero
abbrev OM:=@List.getD_cons_succ
abbrev ON:=@List.mem_filter
abbrev OO:=@List.any_eq_false
abbrev OP:=@List.nil_append
abbrev OQ:=@callsIn_wide
abbrev OR:=@List.getElem?_set
abbrev OS:=@List.getElem?_cons_zero
abbrev OT:=@Nat.eq_zero_or_pos
abbrev OU:=@Act.put_comm
abbrev OV:=@List.append_nil
abbrev OW:=@List.mem_append_left
abbrev OX:=@Nat.pow_le_pow_left
abbrev OY:=@List.getElem?_toArray
abbrev OZ:=@List.ext_getElem?
abbrev O0:=@List.length_drop
abbrev O1:=@Array.replicate_succ
abbrev O2:=@Array.replicate_zero
abbrev O3:=@List.push_toArray
abbrev O4:=@List.append_toArray
abbrev O5:=@Array.getElem?_modify
abbrev O6:=@Bool.not_eq_true
abbrev O7:=@List.any_eq_true
abbrev O8:=@ByteArray.toList_eq
abbrev O9:=@Int.natCast_zero
abbrev Pa:=@Int.natCast_one
abbrev Pb:=@Int.cast_ofNat_Int
abbrev Pc:=@List.foldl_append
abbrev Pd:=@Nat.ne_of_lt
abbrev Pe:=@List.nodup_nil
abbrev Pf:=@Nat.pow_succ
abbrev Pg:=@List.length_range
abbrev Ph:=@DataW.trod_bool
abbrev Pi:=@List.all_eq_true
abbrev Pj:=@Int.lt_trichotomy
abbrev Pk:=@Nat.lt_or_eq_of_le
abbrev Pm:=@Nat.le_of_lt_succ
abbrev Pn:=@List.drop_eq_nil_of_le
abbrev Po:=@List.pairwise_append
abbrev Pp:=@DataW.trod_string
abbrev Pq:=@List.length_set
abbrev Ps:=@List.getElem?_set_self
abbrev Pu:=@List.getElem?_set_ne
abbrev Pv:=@List.nodup_cons
abbrev Pw:=@List.length_flatMap
abbrev Px:=@Nat.mul_le_mul
abbrev Py:=@Nat.lt_trichotomy
abbrev Pz:=@List.map_congr_left
abbrev PA:=@Array.getElem?_setIfInBounds_ne
abbrev PB:=@List.getElem?_range
abbrev PD:=@run_sliceBound
abbrev PE:=@List.getD_eq_getElem?_getD
abbrev PF:=@List.getLast?_eq_getElem?
abbrev PG:=@List.contains_iff_mem
abbrev PH:=@Array.getD_eq_getD_getElem?
abbrev PI:=@List.mem_of_mem_drop
abbrev PJ:=@Array.toArray_toList
abbrev PK:=@List.mem_of_mem_take
abbrev PL:=@Array.getElem_toList
abbrev PM:=@Nat.add_sub_cancel
abbrev PN:=@Nat.pow_le_pow_right
abbrev PO:=@UInt8.toNat_ofNat'
abbrev PP:=@Classical.byContradiction
abbrev PQ:=@List.pairwise_iff_getElem
section
section
variable {P : Program} {ops : Array Oper} {Q : Exit -> Act -> World -> Prop} {md : Region.Mode} {S : World -> Prop} {s : Nat}
def dj (P:Program) (md:Region.Mode) (ops:Array Oper) (Q:Exit->Act->World->Prop) (S:World->Prop) (s:Nat):Nat->Array Bool->Act->World->Prop
 | 0,listed,a,w=>wpAny P md ops Q 0 listed a w
 | fuel+1,listed,a,w =>
  (listed.getD s false=true->wpAny P md ops Q (fuel+1) listed a w) /\
  (listed.getD s false=false->(Region.ready md ops listed=[]->Q .normal a w) /\
   ∀i∈Region.ready md ops listed,wpOp P ops Q i (fun h w'=>(i≠s->S w')/\dj P md ops Q S s fuel (listed.setIfInBounds i true) h w') a w)
theorem pS:∀(fuel:Nat) (listed:Array Bool) (a:Act) (w:World),dj P md ops Q S s fuel listed a w->wpAny P md ops Q fuel listed a w
 | 0,_,_,_,h=>h
 | fuel+1,listed,a,w,h=>by
  cases hs:listed.getD s false
  ·have z:=h.2 hs;exact⟨z.1,fun i J=>wpOp_mono (fun I w' G=>pS fuel _ I w' G.2) (z.2 i J)⟩
  ·exact h.1 hs
def sE (md:Region.Mode) (ops:Array Oper) (s i:Nat):Bool:=((ops[s]?).map fun o=>o.after.any fun e=>Region.binds md e&&e.on==i).getD false
theorem lK {i:Nat} {listed:Array Bool} (hw:sE md ops s i=true) (I:listed.getD i false=false):s∉Region.ready md ops listed:=by
 intro h;obtain⟨_,o,G,z⟩:=mem_ready.1 h;unfold sE at hw;rw[G]at hw;simp only[NR,NS,Array.any_eq_true]at hw;obtain⟨k,hk,he⟩:=hw;simp only[My,MO]at he;have:=z _ (Array.getElem_mem hk) he.1;rw[he.2,I]at this
 cases this
theorem uh {i:Nat} {oi:Oper} {v:Value} (hi:ops[i]?=some oi) (O:∀(j:Nat) (o:Oper) cs b,ops[j]?=some o->o.op≠.select cs b)
  (hQ:∀c a w,Q (.panic c) (a.put oi.dst v) w->Q (.panic c) a w) (hw:sE md ops s i=true) (n':i≠s) :
  ∀(fuel:Nat) (listed:Array Bool) (a:Act) (w:World),
   (∀j oj,ops[j]?=some oj->j≠i->listed.getD j true=false->(∀e∈oj.after,Region.binds md e=true->e.on≠i)->oi.apart ops oj=true) ->
   i∈Region.ready md ops listed->listed.getD s false=false->YieldsIf P ops S oi v a->S w ->
   dj P md ops Q S s fuel (listed.setIfInBounds i true) (a.put oi.dst v) w->dj P md ops Q S s (fuel+1) listed a w:=by
 intro fuel
 induction fuel with
 | zero =>
  intro listed a w _ hr hls hy hS H;refine⟨fun h=>(by rw[h]at hls;cases hls),fun _=>⟨fun h=>(by rw[h]at hr;cases hr),fun j hj=>?_⟩⟩
  by_cases z:j=i
  ·subst z;exact hy.wpOp hi hS ⟨fun _=>hS,H⟩
  ·have:=ready_mono hj z;rw[H.1]at this
   cases this
 | succ fuel ih =>
  intro listed a w G hr hls hy hS H;refine⟨fun h=>(by rw[h]at hls;cases hls),fun _=>⟨fun h=>(by rw[h]at hr;cases hr),fun j hj=>?_⟩⟩
  by_cases z:j=i
  ·subst z;exact hy.wpOp hi hS ⟨fun _=>hS,H⟩
  ·have f':(listed.setIfInBounds i true).getD s false=false:=by rw[Oz false n'];exact hls
   have h1:=(H.2 f').2 j (ready_mono hj z);obtain⟨J,oj,d',k'⟩:=mem_ready.1 hj;have Z:listed.getD i false=false:=by
    have h0:=(mem_ready.1 hr).1;rcases Ny i listed.size with h'|h'
    ·simpa [h'] using h0
    ·simp[Ot h']at h0
   have c':j≠s:=fun e=>lK hw Z (e▸hj)
   have i':∀e∈oj.after,Region.binds md e=true->e.on≠i:=fun e he hb heq=>by
    have h1:=k' e he hb;rw[heq,Z]at h1
    cases h1
   have h2:=wpOp_putIf d' (G j oj d' z J i') (fun cs b=>O i oi cs b hi) (fun cs b=>O j oj cs b d') hQ hy h1;have I:∀k ok,ops[k]?=some ok->k≠i->(listed.setIfInBounds j true).getD k true=false ->
     (∀e∈ok.after,Region.binds md e=true->e.on≠i)->oi.apart ops ok=true:=fun k ok hk m' j' l'=>by
    refine G k ok hk m' ?_ l'
    by_cases g':j=k
    ·subst g';exact J
    ·rw[Oz true g']at j';exact j'
   refine wpOp_mono (fun a' w' h3=>⟨fun _=>h3.2.1 c',ih (listed.setIfInBounds j true) a' w' I (ready_mono hr (MT z)) (by rw[Oz false c'];exact hls) h3.1 (h3.2.1 c') ?_⟩) h2;rw[Array.setIfInBounds_comm _ _ z];exact h3.2.2
theorem xQ {i:Nat} {oi:Oper} {v:Value} {fuel:Nat} {listed:Array Bool} {a:Act} {w:World} (z:ops[i]?=some oi)
  (hs:Region.noSelect ops=true) (hf:Region.free md ops listed i=true) (hr:(Region.ready md ops listed).contains i=true) (hw:(sE md ops s i&&i != s&&!listed.getD s false)=true)
  (I:∀c a w,Q (.panic c) (a.put oi.dst v) w->Q (.panic c) a w) (hy:YieldsIf P ops S oi v a) (G:S w)
  (h:dj P md ops Q S s fuel (listed.setIfInBounds i true) (a.put oi.dst v) w):dj P md ops Q S s (fuel+1) listed a w:=by
 simp only[My,ND,ne_eq,M4]at hw;exact uh z (Region.noSelect_spec hs) I hw.1.1 hw.1.2 fuel listed a w (Region.free_spec z hf) (jQ hr) hw.2 hy G h
def AllReadyP (P:Program) (md:Region.Mode) (ops:Array Oper) (Q:Exit->Act->World->Prop) (S:World->Prop) (s fuel:Nat) (listed:Array Bool) (a:Act) (w:World) (rs:List Nat):Prop :=
 ∀i∈rs,wpOp P ops Q i (fun h w'=>(i≠s->S w')/\dj P md ops Q S s fuel (listed.setIfInBounds i true) h w') a w
theorem AllReadyP.nil {fuel:Nat} {listed:Array Bool} {a:Act} {w:World}:AllReadyP P md ops Q S s fuel listed a w []:=fun _ h=>by cases h
theorem AllReadyP.cons {fuel:Nat} {listed:Array Bool} {a:Act} {w:World} {i:Nat} {o:Oper} {rs:List Nat} (J:ops[i]?=some o)
  (h:∀K':Act->World->Prop,Shut (∀a w,S w->(S w->dj P md ops Q S s fuel (listed.setIfInBounds i true) a w)->K' a w)->if Region.wanted o (yielded ops a.tmps)=true then Oper.wp P o a w K' Q else K' (a.put o.dst undef) w)
  (hs:AllReadyP P md ops Q S s fuel listed a w rs):AllReadyP P md ops Q S s fuel listed a w (i::rs):=fun j z=>by
 rcases List.mem_cons.1 z with rfl|z
 ·exact wpOp_step J (fun K' O=>h K' (fun a w G I=>O a w ⟨fun _=>G,I G⟩))
 ·exact hs j z
theorem ux {rs:List Nat} {fuel:Nat} {listed:Array Bool} {a:Act} {w:World} (hr:Region.ready md ops listed=rs) (z:rs≠[]) (hls:listed.getD s false=false)
  (h:AllReadyP P md ops Q S s fuel listed a w rs):dj P md ops Q S s (fuel+1) listed a w :=
 ⟨fun h0=>(by rw[h0]at hls;cases hls),fun _=>⟨fun h0=>absurd (hr▸h0) z,hr▸h⟩⟩
theorem AE {o:Oper} {v:Value} {fuel:Nat} {listed:Array Bool} {a:Act} {w:World} (I:ops[s]?=some o) (hr:Region.ready md ops listed=[s]) (hls:listed.getD s false=false)
  (hy:YieldsIf P ops (fun _=>True) o v a) (h:wpAny P md ops Q fuel (listed.setIfInBounds s true) (a.put o.dst v) w) (z:(listed.setIfInBounds s true).getD s false=true):dj P md ops Q S s (fuel+1) listed a w:=by
 refine⟨fun h0=>(by rw[h0]at hls;cases hls),fun _=>⟨fun h0=>(by rw[h0]at hr;cases hr),fun i G=>?_⟩⟩;rw[hr]at G;obtain rfl:i=s:=jQ G;refine hy.wpOp I trivial ⟨fun e=>absurd rfl e,?_⟩
 cases fuel with
 | zero=>exact h
 | succ fuel=>exact⟨fun _=>h,fun h0=>(by rw[z]at h0;cases h0)⟩
theorem zE {i:Nat} {o:Oper} {fuel:Nat} {listed:Array Bool} {a:Act} {w:World} (I:ops[i]?=some o) (hr:Region.ready md ops listed=[i]) (z:Region.ready md ops (listed.setIfInBounds i true)=[])
  (h:∀K':Act->World->Prop,Shut (∀a w,Q .normal a w->K' a w)->if Region.wanted o (yielded ops a.tmps)=true then Oper.wp P o a w K' Q else K' (a.put o.dst undef) w):wpAny P md ops Q (fuel+1) listed a w:=by
 refine⟨fun h0=>(by rw[h0]at hr;cases hr),fun j G=>?_⟩;rw[hr]at G;obtain rfl:j=i:=jQ G;refine wpOp_step I (fun K' J=>h K' (fun a w hq=>J a w ?_))
 cases fuel with
 | zero=>exact⟨z,hq⟩
 | succ fuel=>exact⟨fun _=>hq,by rw[z];simp⟩
theorem oh (S:World->Prop) (s:Nat) {id:Nat} {a:Act} {w:World} (hm:P.follows .mixedOrders=true) (z:S w.drew)
  (h:S w.drew->dj P .any ops Q S s ops.size (Array.replicate ops.size false) a w.drew):(Code.region id ops true).wp P Q a w :=
 wp_region_any hm (pS _ _ _ _ (h z))
end
end
section
section
variable {P : Program} {ops : Array Oper} {Q : Exit -> Act -> World -> Prop} {md : Region.Mode} {S : World -> Prop}
theorem iA {i:Nat} {oi:Oper} {rest:List Oper} (z:ops.toList.drop i=oi::rest):ops[i]?=some oi:=by
 rw[<-N6];have h:(ops.toList.drop i)[0]?=some oi:=by rw[z];rfl
 rw[N7]at h
 simpa using h
theorem vI {i d fuel:Nat} {l:List Value} {ds:List Deferred} {listed L:Array Bool} {oi:Oper} {rest:List Oper} {v:Value} {w:World}
  (I:ops.toList.drop i=oi::rest) (z:oi.dst=some d) (hL:listed.setIfInBounds i true=L)
  (hs:Region.noSelect ops=true) (hf:Region.free md ops listed i=true) (hr:(Region.ready md ops listed).contains i=true)
  (G:∀c a w,Q (.panic c) (a.put (some d) v) w->Q (.panic c) a w) (hw:Region.wanted oi (yielded ops l.toArray)=true)
  (hy:∀w,S w->(execOp (Act.eval ⟨l.toArray,ds⟩) oi).run P w=.ok (.value v) w) (J:S w)
  (h:wpAnyH P md ops Q S fuel L ⟨(l.set d v).toArray,ds⟩ w):wpAnyH P md ops Q S (fuel+1) listed ⟨l.toArray,ds⟩ w:=by
 subst hL;refine wpAnyH_take (iA I) hs hf hr (by rw[z];exact G) (Or.inl ⟨hw,hy⟩) J ?_;rw[z]
 simpa [Act.put] using h
theorem ym {i fuel:Nat} {l:List Value} {ds:List Deferred} {listed L:Array Bool} {oi:Oper} {rest:List Oper} {w:World}
  (G:ops.toList.drop i=oi::rest) (hL:listed.setIfInBounds i true=L) (hr:Region.ready md ops listed=[i]) (hw:Region.wanted oi (yielded ops l.toArray)=true)
  (h:∀K':Act->World->Prop,Shut (∀a w,S w->(S w->wpAnyH P md ops Q S fuel L a w)->K' a w)->Oper.wp P oi ⟨l.toArray,ds⟩ w K' Q):wpAnyH P md ops Q S (fuel+1) listed ⟨l.toArray,ds⟩ w:=by
 subst hL;refine wpAnyH_ready hr jS (AllReadyH.cons (iA G) (fun K z=>?_) AllReadyH.nil);rw[Mp hw];exact h K z
end
end
section
section
variable {P : Program} {ops : Array Oper} {Q : Exit -> Act -> World -> Prop} {md : Region.Mode} {S : World -> Prop}
theorem xO {i fuel:Nat} {l:List Value} {ds:List Deferred} {listed L:Array Bool} {oi:Oper} {rest:List Oper} {w:World}
  (I:ops.toList.drop i=oi::rest) (hL:listed.setIfInBounds i true=L) (hr:Region.ready md ops listed=[i]) (hw:Region.wanted oi (yielded ops l.toArray)=false) (z:S w)
  (h:S w->wpAnyH P md ops Q S fuel L ((⟨l.toArray,ds⟩:Act).put oi.dst undef) w):wpAnyH P md ops Q S (fuel+1) listed ⟨l.toArray,ds⟩ w:=by
 subst hL;refine wpAnyH_ready hr jS (AllReadyH.cons (iA I) (fun K G=>?_) AllReadyH.nil);rw[Mo (by rw[hw];simp)];exact G.out _ _ z h
theorem vz {i d fuel:Nat} {l:List Value} {ds:List Deferred} {listed L:Array Bool} {oi:Oper} {rest:List Oper} {w:World}
  (I:ops.toList.drop i=oi::rest) (z:oi.dst=some d) (hL:listed.setIfInBounds i true=L)
  (hs:Region.noSelect ops=true) (hf:Region.free md ops listed i=true) (hr:(Region.ready md ops listed).contains i=true)
  (G:∀c a w,Q (.panic c) (a.put (some d) undef) w->Q (.panic c) a w) (hw:Region.wanted oi (yielded ops l.toArray)=false) (J:S w)
  (h:wpAnyH P md ops Q S fuel L ⟨(l.set d undef).toArray,ds⟩ w):wpAnyH P md ops Q S (fuel+1) listed ⟨l.toArray,ds⟩ w:=by
 subst hL;refine wpAnyH_take (iA I) hs hf hr (by rw[z];exact G) (Or.inr ⟨hw,rfl⟩) J ?_;rw[z]
 simpa [Act.put] using h
end
end
section
section
variable {P : Program} {ops : Array Oper} {Q : Exit -> Act -> World -> Prop} {md : Region.Mode} {S : World -> Prop} {s : Nat}
theorem uB {i d fuel:Nat} {l:List Value} {ds:List Deferred} {listed L:Array Bool} {oi:Oper} {rest:List Oper} {v:Value} {w:World}
  (I:ops.toList.drop i=oi::rest) (z:oi.dst=some d) (hL:listed.setIfInBounds i true=L)
  (hs:Region.noSelect ops=true) (hf:Region.free md ops listed i=true) (hr:(Region.ready md ops listed).contains i=true) (hws:(sE md ops s i&&i != s&&!listed.getD s false)=true)
  (G:∀c a w,Q (.panic c) (a.put (some d) v) w->Q (.panic c) a w) (hw:Region.wanted oi (yielded ops l.toArray)=true)
  (hy:∀w,S w->(execOp (Act.eval ⟨l.toArray,ds⟩) oi).run P w=.ok (.value v) w) (J:S w)
  (h:dj P md ops Q S s fuel L ⟨(l.set d v).toArray,ds⟩ w):dj P md ops Q S s (fuel+1) listed ⟨l.toArray,ds⟩ w:=by
 subst hL;refine xQ (iA I) hs hf hr hws (by rw[z];exact G) (Or.inl ⟨hw,hy⟩) J ?_;rw[z]
 simpa [Act.put] using h
theorem wC {i fuel:Nat} {l:List Value} {ds:List Deferred} {listed L:Array Bool} {oi:Oper} {rest:List Oper} {w:World}
  (G:ops.toList.drop i=oi::rest) (hL:listed.setIfInBounds i true=L) (hr:Region.ready md ops listed=[i]) (hls:listed.getD s false=false) (hw:Region.wanted oi (yielded ops l.toArray)=true)
  (h:∀K':Act->World->Prop,Shut (∀a w,S w->(S w->dj P md ops Q S s fuel L a w)->K' a w)->Oper.wp P oi ⟨l.toArray,ds⟩ w K' Q):dj P md ops Q S s (fuel+1) listed ⟨l.toArray,ds⟩ w:=by
 subst hL;refine ux hr jS hls (AllReadyP.cons (iA G) (fun K z=>?_) AllReadyP.nil);rw[Mp hw];exact h K z
theorem nU {d fuel:Nat} {l:List Value} {ds:List Deferred} {listed L:Array Bool} {o:Oper} {rest:List Oper} {v:Value} {w:World}
  (I:ops.toList.drop s=o::rest) (G:o.dst=some d) (hL:listed.setIfInBounds s true=L) (hr:Region.ready md ops listed=[s]) (hls:listed.getD s false=false) (z:L.getD s false=true)
  (hw:Region.wanted o (yielded ops l.toArray)=true) (hy:∀w,(execOp (Act.eval ⟨l.toArray,ds⟩) o).run P w=.ok (.value v) w)
  (h:wpAny P md ops Q fuel L ⟨(l.set d v).toArray,ds⟩ w):dj P md ops Q S s (fuel+1) listed ⟨l.toArray,ds⟩ w:=by
 subst hL;refine AE (iA I) hr hls (Or.inl ⟨hw,fun w _=>hy w⟩) ?_ z;rw[G]
 simpa [Act.put] using h
theorem oE {i fuel:Nat} {l:List Value} {ds:List Deferred} {listed L:Array Bool} {o:Oper} {rest:List Oper} {w:World} (I:ops.toList.drop i=o::rest) (hL:listed.setIfInBounds i true=L) (hr:Region.ready md ops listed=[i])
  (z:Region.ready md ops L=[]) (hw:Region.wanted o (yielded ops l.toArray)=true)
  (h:∀K':Act->World->Prop,Shut (∀a w,Q .normal a w->K' a w)->Oper.wp P o ⟨l.toArray,ds⟩ w K' Q):wpAny P md ops Q (fuel+1) listed ⟨l.toArray,ds⟩ w:=by
 subst hL;refine zE (iA I) hr z (fun K G=>?_);rw[Mp hw];exact h K G
end
end
section
theorem bt {w W:World} (h:Mm w W) (o:Obj):Mm w (W.alloc o):=h.alloc h.size o
theorem ab {w W w':World} (h:Mm w W) (z:Mm W w'):Mm w w':=h.trans (z.mono h.size)
theorem aq {w W:World} (h:Mm w W) {b i:Nat} (z:w.heap.size<=b) (v:Value):Mm w (W.setCell ⟨b,i,none⟩ v):=h.setCell (p:=⟨b,i,none⟩) z v
abbrev Ent:=Nat × List Value × TypeId
structure St (w0 w:World) (L:List Ent):Prop where
 below:Mm w0 w
 own:∀e∈L,w.heap[e.1]?=some (.cells e.2.1.toArray e.2.2 (0,0))/\w0.heap.size<=e.1
 apart:L.Pairwise (fun a b=>a.1≠b.1)
section
variable {w0 w w' : World} {L : List Ent}
theorem St.start (w:World):St w w []:=⟨Mr _ _,by simp,by simp⟩
theorem St.lt (h:St w0 w L) {e:Ent} (he:e∈L):e.1<w.heap.size:=by
 have:=(h.own e he).1;rcases Ny e.1 w.heap.size with z|z
 ·exact z
 ·rw[Ot z]at this;cases this
theorem St.alloc (h:St w0 w L) (cs:List Value) (t:TypeId):St w0 (w.alloc (.cells cs.toArray t)) ((w.heap.size,cs,t)::L):=by
 refine⟨h.below.alloc h.below.size _,?_,?_⟩
 ·intro e he;rcases List.mem_cons.1 he with rfl|he
  ·exact⟨Nr w _,h.below.size⟩
  ·exact⟨(Nz w _ e.1 (h.lt he)).trans (h.own e he).1,(h.own e he).2⟩
 ·refine List.Pairwise.cons ?_ h.apart;intro e he;have:=h.lt he;simp only[ne_eq];omega
theorem St.drew (h:St w0 w L):St w0 w.drew L:=⟨h.below.drew,h.own,h.apart⟩
theorem St.call (h:St w0 w L) (z:Mm w w'):St w0 w' L :=
 ⟨h.below.trans (z.mono h.below.size),fun e he=>⟨(z.block e.1 (h.lt he)).trans (h.own e he).1,(h.own e he).2⟩,h.apart⟩
theorem St.cell (h:St w0 w L) {b:Nat} {cs:List Value} {t:TypeId} (he:(b,cs,t)∈L) (i:Nat):w.cell? ⟨b,i,none⟩=cs[i]?:=by
 have:=(h.own _ he).1;simp[World.cell?,this]
theorem St.frozen (h:St w0 w L) {b:Nat} {cs:List Value} {t:TypeId} (he:(b,cs,t)∈L) (i:Nat):w.frozen? ⟨b,i,none⟩=false:=by
 have:=(h.own _ he).1;simp[World.frozen?,this]
theorem St.old (h:St w0 w L) (b i:Nat) (z:b<w0.heap.size):w.cell? ⟨b,i,none⟩=w0.cell? ⟨b,i,none⟩:=h.below.cell (p:=⟨b,i,none⟩) z
theorem St.set (h:St w0 w L) (k:Nat) {b:Nat} {cs:List Value} {t:TypeId} (he:L[k]?=some (b,cs,t)) (i:Nat) (v:Value) :
  St w0 (w.setCell ⟨b,i,none⟩ v) (L.set k (b,cs.set i v,t)):=by
 have hk:k<L.length:=(List.getElem?_eq_some_iff.1 he).1;have hm:(b,cs,t)∈L:=MI he;refine⟨h.below.setCell (h.own _ hm).2 v,?_,?_⟩
 ·intro e J;rcases List.mem_iff_getElem?.1 J with ⟨j,z⟩;rw[OR]at z
  by_cases G:k=j
  ·subst G;simp only[M5,hk]at z;injection z with z;subst z;refine⟨?_,(h.own _ hm).2⟩;have:=(h.own _ hm).1;simp[World.setCell,O5,this]
  ·rw[Mo G]at z;have O:e∈L:=MI z;have d':e.1≠b:=by
    have hp:=List.pairwise_iff_getElem.1 h.apart;obtain⟨Z,c'⟩:=List.getElem?_eq_some_iff.1 z;obtain⟨_,a'⟩:=List.getElem?_eq_some_iff.1 he;rcases Nat.lt_or_gt_of_ne G with I|I
    ·have:=hp k j hk Z I;rw[a',c']at this;exact fun x=>this x.symm
    ·have:=hp j k Z hk I;rw[a',c']at this;exact this
   exact⟨(Nj w _ v e.1 d').trans (h.own e O).1,(h.own e O).2⟩
 ·have:∀(M:List Ent) (k:Nat),M[k]?=some (b,cs,t)->M.Pairwise (fun a b=>a.1≠b.1)->(M.set k (b,cs.set i v,t)).Pairwise (fun a b=>a.1≠b.1):=by
   intro M
   induction M with
   | nil=>intro k hk _;simp at hk
   | cons x M ih =>
    intro k hk hp;rw[OJ]at hp
    cases k with
    | zero =>
     simp only[OS,Ol]at hk;subst hk;simp only[MZ];exact List.pairwise_cons.2 hp
    | succ k =>
     simp only[OA]at hk;simp only[MY];refine List.pairwise_cons.2 ⟨?_,ih k hk hp.2⟩;intro e J;rcases List.mem_iff_getElem?.1 J with ⟨j,z⟩;rw[OR]at z
     by_cases G:k=j
     ·subst G;have f':k<M.length:=(List.getElem?_eq_some_iff.1 hk).1;simp only[M5,f']at z;injection z with z;subst z;exact (hp.1 _ (MI hk):x.1≠b)
     ·rw[Mo G]at z;exact hp.1 _ (MI z)
  exact this L k he h.apart
theorem St.sub (h:St w0 w L) {M:List Ent} (hs:List.Sublist M L):St w0 w M :=
 ⟨h.below,fun e he=>h.own e (hs.subset he),h.apart.sublist hs⟩
end
theorem aa {w w':World} (z:Mm w w') {b p:Nat} {v:Value} (h:w.cell? ⟨b,p,none⟩=some v):w'.cell? ⟨b,p,none⟩=some v :=
 (z.cell (p:=⟨b,p,none⟩) (Ms w ⟨b,p,none⟩ h)).trans h
structure Cls (w:World) (F:World->Prop) where
 W:World
 bel:Mm w W
 has:F W
def Grows (F:World->Prop):Prop:=∀h z:World,Mm h z->F h->F z
theorem dt {P:Program} {id:Nat} {Q:Exit->Act->World->Prop} {a:Act} {w:World} {l:List Oper} (F:World->Prop) (I:Grows F) (hm:P.follows .mixedOrders=true) (G:Region.lexB .any l.toArray=true)
  (hF:F w) (h:Nonempty (Cls w F)->(∀x:Cls w F,F x.W)->wpQuiet P l.toArray (fun w'=>∃x:Cls w F,w'=x.W) (fun z=>∀w',(∃x:Cls w F,w'=x.W)->Q .normal z w') l a):(Code.region id l.toArray true).wp P Q a w :=
 wp_region_quiet (C:=fun w'=>∃x:Cls w F,w'=x.W) hm G ⟨⟨w.drew,(Mr _ w).drew,I _ _ (Mr _ w).drew hF⟩,rfl⟩ (by simpa using h ⟨w,Mr _ _,hF⟩ fun x=>x.has)
theorem kf {P:Program} {f:FuncId} {args:Array Value} {w:World} {F:World->Prop} (I:Grows F) {x:Cls w F} {v:Value}
  (h:Calls P f args x.W fun e w'=>e=.returned v/\Below x.W.heap.size x.W w'):Calls P f args x.W fun e z=>e=.returned v/\∃y:Cls w F,z=y.W :=
 h.mono fun _ z ⟨he,G⟩=>⟨he,⟨z,ab x.bel G,I _ _ G x.has⟩,rfl⟩
theorem aX (b p:Nat) (v:Value):Grows fun w=>w.cell? ⟨b,p,none⟩=some v:=fun _ _ z h=>aa z h
theorem bw {F G:World->Prop} (hF:Grows F) (I:Grows G):Grows fun w=>F w/\G w:=fun _ _ z h=>⟨hF _ _ z h.1,I _ _ z h.2⟩
theorem aW:Grows fun _=>True:=fun _ _ _ h=>h
end
section
def Cells (w:World) (b o:Nat) (cs:List Value):Prop:=∀(j:Nat) (u:Value),cs[j]?=some u->w.cell? ⟨b,o+j,none⟩=some u
theorem Cells.stays {w w':World} {b o:Nat} {cs:List Value} (h:Cells w b o cs) (G:Mm w w'):Cells w' b o cs:=fun j u z=>aa G (h j u z)
def Src (w:World) (A:Option Addr) (n sz:Nat) (cs:List Value):Prop :=
 cs.length=n*sz/\(∀u∈cs,u.oneCell'=true)/\(0<n->∃b o,A=some ⟨b,o,none⟩/\Cells w b o cs)
theorem Src.stays {w w':World} {A:Option Addr} {n sz:Nat} {cs:List Value} (h:Src w A n sz cs) (z:Mm w w'):Src w' A n sz cs :=
 ⟨h.1,h.2.1,fun J=>by obtain⟨b,o,I,G⟩:=h.2.2 J;exact⟨b,o,I,G.stays z⟩⟩
theorem Src.nil (w:World) (A:Option Addr) (sz:Nat):Src w A 0 sz []:=⟨by simp,by simp,fun h=>absurd h om⟩
theorem cN (b o j:Nat):(⟨b,o,none⟩:Addr).add j=⟨b,o+j,none⟩:=by unfold Addr.add;split<;>simp_all
section
variable {P : Program} (w : World)
theorem pk (base:Nat) (t ty e:TypeId) (i:TypeInfo) (z:Value) (size bytes:Nat) (ht:P.underlying t=some (.slice e)) (hi:P.info? e=some i) (hz:i.zero=some z)
  (J:i.size=size) (d':i.bytes=bytes) (g':z.cells.size=size) (c':0<size)
  (v:Value) (n:Nat) (xs:List Value) (G:w.ownsRow base e size v n xs) (A:Option Addr) (m c:Nat) (news:List Value) (hs:Src w A m size news)
  (a':n+m<=maxLen) (I:(n+m)*bytes<=140737488355328) (O:base<=w.heap.size) :
  ∃v' w',(Builtin.append_ #[t,t] ty #[v,.slice A m c]).run P w=.ok v' w'/\w'.ownsRow base e size v' (n+m) (xs++news)/\w.grownBy w' v.ownBlock /\
   (v'.ownBlock=v.ownBlock\/v'.ownBlock=some w.heap.size):=by
 obtain⟨h1,h2,h3⟩:=hs
 cases A with
 | none =>
  have hm:m=0:=by
   rcases OT m with h|h
   ·exact h
   ·obtain⟨b,o,Z,_⟩:=h3 h;cases Z
  subst hm;have hn:news=[]:=M8 (jQ h1);subst hn;refine⟨v,w,?_,jQ G,World.grownBy.refl w _,.inl rfl⟩;rcases G.2 with ⟨rfl,rfl⟩|⟨g,cap,cur,rfl,_,_,hnc,_⟩
  ·simp[Builtin.append_,M6 ht,sizeOf,typeInfo,hi,Builtin.lenOf,Builtin.firstCells]
  ·simp[Builtin.append_,M6 ht,sizeOf,typeInfo,hi,Builtin.lenOf,Builtin.firstCells,hnc,storeCells]
 | some ad =>
  have hc:∀(j:Nat) (u:Value),news[j]?=some u->w.cell? (ad.add j)=some u:=by
   intro j u hj;rcases OT m with h|h
   ·subst h;have hn:news=[]:=M8 (jQ h1);subst hn;simp at hj
   ·obtain⟨b,o,Z,f'⟩:=h3 h;injection Z with Z;subst Z;rw[cN];exact f' j u hj
  obtain⟨v',w',hr,ho,hg,_,hl⟩:=run_append_own_at (P:=P) w base t ty e i z size bytes ht hi hz J d' g' c' v n xs G ad m c news h1 hc h2 a' I O;exact⟨v',w',hr,ho,hg,hl⟩
theorem bA {ops:Array Oper} {rest:List Oper} {o:Oper} {a:Act} {Q:Exit->Act->World->Prop} (c':o.guard=none) (s x:Operand) (t:TypeId)
  (ho:o.op=.call { callee:=.builtin .append,args:=#[s,x],argTypes:=#[t,t] })
  (base:Nat) (e:TypeId) (i:TypeInfo) (z:Value) (size bytes:Nat) (ht:P.underlying t=some (.slice e)) (hi:P.info? e=some i) (hz:i.zero=some z)
  (I:i.size=size) (g':i.bytes=bytes) (h':z.cells.size=size) (f':0<size)
  (v:Value) (n:Nat) (xs:List Value) (hs:a.eval s=v) (O:w.ownsRow base e size v n xs)
  (A:Option Addr) (m c:Nat) (news:List Value) (hx:a.eval x=.slice A m c) (a':Src w A m size news)
  (d':n+m<=maxLen) (G:(n+m)*bytes<=140737488355328) (J:base<=w.heap.size)
  (h:∀v' w',w'.ownsRow base e size v' (n+m) (xs++news)->w.grownBy w' v.ownBlock->(v'.ownBlock=v.ownBlock\/v'.ownBlock=some w.heap.size)->wpList P ops Q rest (a.put o.dst v') w'):wpList P ops Q (o::rest) a w :=
 wpList_plain c' fun _ hK=>by
  obtain⟨v',w',Z,h2,h3,h4⟩:=pk (P:=P) w base t o.type e i z size bytes ht hi hz I g' h' f' v n xs O A m c news a' d' G J;unfold Oper.wp execOp;simp only[ho,resolve,invoke,builtin,MP,NE,M9,List.map_toArray,MF,Om,hs,hx,Z];exact hK _ _ (h v' w' h2 h3 h4)
end
theorem rI (w:World) (base:Nat) (e:TypeId) (size:Nat) (h:base<=w.heap.size):(w.alloc (.cells #[] e)).ownsRow base e size (.slice (some ⟨w.heap.size,0,none⟩) 0 0) 0 [] :=
 ⟨by simp,.inr ⟨w.heap.size,0,#[],rfl,h,Nr w _,Mt _,Mu _,by simp,by simp⟩⟩
theorem uf {w:World} {base z:Nat} {e:TypeId} {size:Nat} {v:Value} {n:Nat} {xs:List Value} (h:w.ownsRow base e size v n xs) (I:z<=base):w.ownsRow z e size v n xs:=by
 refine⟨h.1,?_⟩;rcases h.2 with G|⟨g,cap,cur,hv,hg,r⟩
 ·exact .inl G
 ·exact .inr ⟨g,cap,cur,hv,by omega,r⟩
theorem aT {w w':World} {base:Nat} {e:TypeId} {size:Nat} {v:Value} {n:Nat} {xs:List Value} (h:w.ownsRow base e size v n xs) (hk:∀g,v.ownBlock=some g->w'.heap[g]?=w.heap[g]?):w'.ownsRow base e size v n xs:=by
 refine⟨h.1,?_⟩;rcases h.2 with z|⟨g,cap,cur,hv,hg,hh,r⟩
 ·exact .inl z
 ·exact .inr ⟨g,cap,cur,hv,hg,by rw[hk g (by rw[hv];rfl)];exact hh,r⟩
theorem ag {w:World} {base:Nat} {e:TypeId} {size:Nat} {v:Value} {n:Nat} {xs:List Value} (h:w.ownsRow base e size v n xs) {g:Nat} (G:v.ownBlock=some g):base<=g/\g<w.heap.size:=by
 rcases h.2 with ⟨rfl,_⟩|⟨g',cap,cur,rfl,hb,hh,_⟩
 ·simp[Value.ownBlock]at G
 ·have:g'=g:=by simpa [Value.ownBlock] using G
  subst this;refine⟨hb,?_⟩;rcases Ny g' w.heap.size with z|z
  ·exact z
  ·rw[Ot z]at hh;cases hh
theorem ao {w w':World} {base:Nat} {e:TypeId} {size:Nat} {v:Value} {n:Nat} {xs:List Value} (h:w.ownsRow base e size v n xs) (z:Mm w w'):w'.ownsRow base e size v n xs :=
 aT h fun g G=>z.block g (ag h G).2
theorem dQ {w:World} {base:Nat} {e:TypeId} {size:Nat} {v:Value} {n:Nat} {xs:List Value} (h:w.ownsRow base e size v n xs) (G:∀u∈xs,u.oneCell'=true) :
  ∃A c,v=.slice A n c/\n<=c/\c<=maxLen/\Src w A n size xs:=by
 rcases h.2 with ⟨rfl,rfl⟩|⟨g,cap,cur,rfl,hb,hh,hn,hm,hcs,ht⟩
 ·have:xs=[]:=M8 (jQ h.1);subst this;exact⟨none,0,rfl,Mt _,Mu _,Src.nil _ _ _⟩
 ·refine⟨_,_,rfl,hn,hm,h.1,G,fun _=>⟨g,0,rfl,fun j u z=>?_⟩⟩;have:=h.cells (g:=g) rfl j u z
  rwa [cN]at this
theorem au {w w':World} {row:Option Nat} (h:w.grownBy w' row) {B:Nat} (z:B<=w.heap.size) (hr:∀g,row=some g->B<=g):Below B w w' :=
 ⟨h.os,h.tape,h.output,h.size,fun k hk=>h.block k om (fun e=>by have:=hr k e.symm;omega)⟩
end
section
def Sl {α:Type} (R:World->Nat->Nat->α->Prop) (sz:Nat) (w:World) (v:Value) (l:List α):Prop :=
 ∃A c,v=.slice A l.length c/\l.length<=c/\c<=maxLen/\∀k x,l[k]?=some x->∃b o,A=some ⟨b,o,none⟩/\R w b (o+k*sz) x
def jp {α:Type} (R:World->Nat->Nat->α->Prop):Prop:=∀w w' b p x,Mm w w'->R w b p x->R w' b p x
theorem Sl.stays {α:Type} {R:World->Nat->Nat->α->Prop} {sz:Nat} {w w':World} {v:Value} {l:List α} (h:Sl R sz w v l) (hR:jp R) (G:Mm w w'):Sl R sz w' v l:=by
 obtain⟨A,c,hv,I,z,O⟩:=h;refine⟨A,c,hv,I,z,fun k x hk=>?_⟩;obtain⟨b,o,J,Z⟩:=O k x hk;exact⟨b,o,J,hR _ _ _ _ _ G Z⟩
theorem Sl.nil {α:Type} (R:World->Nat->Nat->α->Prop) (sz:Nat) (w:World) (A:Option Addr) (c:Nat) (h:c<=maxLen):Sl R sz w (.slice A 0 c) ([]:List α) :=
 ⟨A,c,rfl,by simp,h,by simp⟩
def Kg (w:World) (b p:Nat) (x:Int):Prop:=w.cell? ⟨b,p,none⟩=some (Mk x)
abbrev AY (w:World) (v:Value) (l:List Int):Prop:=Sl Kg 1 w v l
def SlAt {α:Type} (R:World->Nat->Nat->α->Prop) (sz:Nat) (w:World) (b o:Nat) (l:List α):Prop:=∀(k:Nat) (x:α),l[k]?=some x->R w b (o+k*sz) x
def Means {α:Type} (R:World->Nat->Nat->α->Prop) (sz:Nat) (w:World) (cs:List Value) (l:List α):Prop :=
 cs.length=l.length*sz/\(∀u∈cs,u.oneCell'=true)/\∀(W:World) (b o:Nat),Mm w W->Cells W b o cs->SlAt R sz W b o l
def oV {α:Type} (R:World->Nat->Nat->α->Prop) (sz:Nat):Prop :=
 ∀(w:World) (b p:Nat) (x:α),R w b p x->∃cs:List Value,cs.length=sz/\(∀u∈cs,u.oneCell'=true)/\Cells w b p cs/\∀(W:World) (b' h:Nat),Mm w W->Cells W b' h cs->R W b' h x
section
variable {α : Type} {R : World -> Nat -> Nat -> α -> Prop} {sz : Nat} {w : World}
theorem Cells.left {b o:Nat} {cs ds:List Value} (h:Cells w b o (cs++ds)):Cells w b o cs:=fun j u z =>
 h j u (by rw[MQ (List.getElem?_eq_some_iff.1 z).1];exact z)
theorem Cells.right {b o:Nat} {cs ds:List Value} (h:Cells w b o (cs++ds)):Cells w b (o+cs.length) ds:=fun j u z=>by
 have:=h (cs.length+j) u (by rw[M7 om];simpa using z)
 rwa [show o+cs.length+j=o+(cs.length+j) by omega]
theorem Cells.app {b o:Nat} {cs ds:List Value} (I:Cells w b o cs) (G:Cells w b (o+cs.length) ds):Cells w b o (cs++ds):=fun j u z=>by
 rcases Ny j cs.length with h|h
 ·rw[MQ h]at z;exact I j u z
 ·rw[M7 h]at z;have:=G (j-cs.length) u z
  rwa [show o+cs.length+(j-cs.length)=o+j by omega]at this
theorem Means.nil:Means R sz w [] ([]:List α):=⟨by simp,by simp,fun _ _ _ _ _ k x h=>by simp at h⟩
theorem Means.app {cs ds:List Value} {l m:List α} (z:Means R sz w cs l) (G:Means R sz w ds m):Means R sz w (cs++ds) (l++m):=by
 refine⟨by rw[Mw,z.1,G.1,Mw,Ou],?_,?_⟩
 ·intro u hu;rcases List.mem_append.1 hu with h|h
  ·exact z.2.1 u h
  ·exact G.2.1 u h
 ·intro W b o I J k x hk;rcases Ny k l.length with h|h
  ·rw[MQ h]at hk;exact z.2.2 W b o I J.left k x hk
  ·rw[M7 h]at hk;have:=G.2.2 W b _ I J.right (k-l.length) x hk;rw[z.1]at this
   rwa [show o+l.length*sz+(k-l.length)*sz=o+k*sz by rw[NT,<-Ou];congr 2;omega]at this
theorem SlAt.tail {b o:Nat} {x:α} {l:List α} (h:SlAt R sz w b o (x::l)):SlAt R sz w b (o+sz) l:=fun k y hk=>by
 have:=h (k+1) y (jQ hk)
 rwa [show o+(k+1)*sz=o+sz+k*sz by rw[Ou];omega]at this
theorem oA (G:oV R sz) {b:Nat}:∀(l:List α) (o:Nat),SlAt R sz w b o l->∃cs,Means R sz w cs l/\Cells w b o cs
 | [],_,_=>⟨[],Means.nil,fun j u h=>by simp at h⟩
 | x::l,o,h=>by
  obtain⟨cs,I,O,h3,h4⟩:=G w b o x (by simpa using h 0 x rfl);obtain⟨ds,J,z⟩:=oA G l (o+sz) h.tail;have hx:Means R sz w cs [x]:=⟨by simp[I],O,fun W b' o' Z hc k y hk=>by
   cases k with
   | zero=>simp at hk;subst hk;simpa using h4 W b' o' Z hc
   | succ k=>simp at hk⟩
  exact⟨cs++ds,hx.app J,h3.app (by rw[I];exact z)⟩
theorem gR (Z:oV R sz) {A:Option Addr} {n c:Nat} {l:List α} (h:Sl R sz w (.slice A n c) l):∃cs,Means R sz w cs l/\Src w A n sz cs/\n=l.length:=by
 obtain⟨A',c',hv,h1,h2,O⟩:=h;injection hv with J I e3;subst J I e3
 cases l with
 | nil=>exact⟨[],Means.nil,Src.nil _ _ _,rfl⟩
 | cons x l =>
  obtain⟨b,o,z,_⟩:=O 0 x rfl;subst z;have G:SlAt R sz w b o (x::l):=fun k y hk=>by
   obtain⟨b',o',z,hR⟩:=O k y hk;injection z with z;injection z with J I;subst J I;exact hR
  obtain⟨cs,hm,hc⟩:=oA Z _ o G;exact⟨cs,hm,⟨hm.1,hm.2.1,fun _=>⟨b,o,rfl,hc⟩⟩,rfl⟩
theorem dr {W:World} {base e:Nat} {v:Value} {cs:List Value} {l:List α} (hm:Means R sz w cs l) (z:Mm w W) (J:W.ownsRow base e sz v l.length cs):Sl R sz W v l:=by
 obtain⟨A,c,rfl,G,h,O⟩:=dQ J hm.2.1;refine⟨A,c,rfl,G,h,fun k x hk=>?_⟩;obtain⟨b,o,I,Z⟩:=O.2.2 (by have:=(List.getElem?_eq_some_iff.1 hk).1;omega);exact⟨b,o,I,hm.2.2 W b o z Z k x hk⟩
theorem Means.later {w':World} {cs:List Value} {l:List α} (hm:Means R sz w cs l) (z:Mm w w'):Means R sz w' cs l :=
 ⟨hm.1,hm.2.1,fun W b o h G=>hm.2.2 W b o (ab z h) G⟩
end
theorem fD {α:Type} {R:World->Nat->Nat->α->Prop} {sz:Nat} {w:World} {v:Value} {l:List α} (h:Sl R sz w v l):v.oneCell'=true:=by
 obtain⟨A,c,rfl,_⟩:=h;rfl
theorem ae {W:World} {g t:Nat} {cs:List Value} (h:W.heap[g]?=some (.cells cs.toArray t (0,0))) (i:Nat):W.cell? ⟨g,i,none⟩=cs[i]?:=by simp[World.cell?,h]
theorem aw {W:World} {g t:Nat} {cs:List Value} (h:W.heap[g]?=some (.cells cs.toArray t (0,0))) (i:Nat):W.frozen? ⟨g,i,none⟩=false:=by simp[World.frozen?,h]
theorem bC {W:World} {g t:Nat} {cs:Array Value} (h:W.heap[g]?=some (.cells cs t (0,0))):g<W.heap.size:=by
 rcases Ny g W.heap.size with z|z
 ·exact z
 ·rw[Ot z]at h;cases h
theorem gm {W:World} {g t:Nat} {cs:List Value} (h:W.heap[g]?=some (.cells cs.toArray t (0,0))) (i:Nat) (v:Value):(W.setCell ⟨g,i,none⟩ v).heap[g]?=some (.cells (cs.set i v).toArray t (0,0)):=by
 simp[World.setCell,O5,h]
theorem af (w:World) (o:Obj):Mm w (w.alloc o):=bt (Mr _ _) o
theorem bE {w w':World} {cs:Array Value} {t:TypeId} (z:Below (w.alloc (.cells cs t)).heap.size (w.alloc (.cells cs t)) w'):(∀i,w'.cell? ⟨w.heap.size,i,none⟩=cs[i]?)/\(∀i,w'.frozen? ⟨w.heap.size,i,none⟩=false):=by
 have h:=(z.block w.heap.size jS).trans (Nr w _);exact⟨fun i=>by simp[World.cell?,h],fun i=>by simp[World.frozen?,h]⟩
theorem Kc (w:World) (cs:List Value) (t n sz:Nat) (z:cs.length=n*sz) (G:∀u∈cs,u.oneCell'=true):Src (w.alloc (.cells cs.toArray t)) (some ⟨w.heap.size,0,none⟩) n sz cs :=
 ⟨z,G,fun _=>⟨w.heap.size,0,rfl,fun j u h=>by rw[MC,ae (Nr w _)];exact h⟩⟩
theorem aH {w:World} {base e sz n:Nat} {v:Value} {xs:List Value} (h:w.ownsRow base e sz v n xs):∃A c,v=.slice A n c:=by
 rcases h.2 with ⟨rfl,rfl⟩|⟨g,cap,cur,rfl,_⟩
 ·exact⟨none,0,rfl⟩
 ·exact⟨_,_,rfl⟩
theorem bP {α:Type} {l:List α} {k:Nat} {x:α} (h:l[k]?=some x):l.take (k+1)=l.take k++[x]:=by
 obtain⟨hk,rfl⟩:=List.getElem?_eq_some_iff.1 h;rw[List.take_succ_eq_append_getElem hk]
theorem cB (w:World) (cs:List Value) (t n sz k:Nat) (hk:k=w.heap.size) (h:cs.length=n*sz) (z:∀u∈cs,u.oneCell'=true):Src (w.alloc (.cells cs.toArray t)) (some ⟨k,0,none⟩) n sz cs:=by
 subst hk;exact Kc w cs t n sz h z
theorem ay {n c:Nat} (h:n<=c) (z:c<=maxLen):(n:Int)<=9223372036854775807:=by unfold maxLen at z;omega
theorem mr {w:World} {base e sz n:Nat} {v:Value} {xs:List Value} (h:w.ownsRow base e sz v n xs) (z:0<n) :
  ∃g cap spare,v=.slice (some ⟨g,0,none⟩) n cap/\base<=g/\w.heap[g]?=some (.cells (xs++spare).toArray e (0,0))/\n<=cap/\cap<=maxLen:=by
 rcases h.2 with ⟨_,h0⟩|⟨g,cap,cur,hv,hg,hh,hnc,hcm,hcs,htake⟩
 ·omega
 ·exact⟨g,cap,cur.toList.drop (n*sz),hv,hg,by rw[hh,<-htake,OB],hnc,hcm⟩
theorem bg {P:Program} {c:Code} {Q:Exit->Act->World->Prop} {a:Act} {w:World} (h:∀W:World,W=w->c.wp P Q a W):c.wp P Q a w:=h w rfl
theorem Iv {w:World} {k t n sz:Nat} {cs:List Value} (h:w.heap[k]?=some (.cells cs.toArray t (0,0))) (G:cs.length=n*sz) (I:∀u∈cs,u.oneCell'=true):Src w (some ⟨k,0,none⟩) n sz cs :=
 ⟨G,I,fun _=>⟨k,0,rfl,fun j u z=>by rw[MC,ae h];exact z⟩⟩
theorem ax (W:World) (k:Nat) (o:Obj) (hk:k=W.heap.size):(W.alloc o).heap[k]?=some o:=by subst hk;exact Nr W o
theorem nN {P:Program} {f:FuncId} {args:Array Value} {w:World} {F:World->Prop} (G:Grows F) {x:Cls w F} {v:Value}
  (h:∀W:World,Mm w W->Calls P f args W fun e w'=>e=.returned v/\Mm W w'):Calls P f args x.W fun e z=>e=.returned v/\∃y:Cls w F,z=y.W :=
 kf G (h x.W x.bel)
end
end Go.Proofs.YtbjicljfjkdeeaaGreatDoor
