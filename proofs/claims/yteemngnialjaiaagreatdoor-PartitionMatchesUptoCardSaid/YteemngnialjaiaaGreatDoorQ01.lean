/- Part. -/
import Derived.Test.YteemngnialjaiaaGreatDoorProg
import Derived.Lib.Hide
import Derived.WalkKit
import Derived.KernelRfl
import Derived.MakeChecks
import Derived.RangeFuncOwn
import Derived.RangeFuncRecord
import Derived.OrdersHeld
import Derived.Deep.RegionHeld
import Derived.WalkSpells
import Derived.WalkLawsBesides
import Derived.Deep.QuietTactic
import Derived.BigQuiet
import Derived.Maps.AppendAt
import Derived.Deep.RegionHeld3
set_option maxRecDepth 100000
set_option maxHeartbeats 16000000
set_option linter.unusedVariables false
set_option linter.unusedSimpArgs false
namespace Go.Proofs.YteemngnialjaiaaGreatDoor
open Go.Proofs.Tryz Go.RowKit
variable {p B q:Prop}{W W' w w':World}{b b' s i fuel id d base size g c k:Nat}{o oi:Oper}{v v0 v1 v2 v3 v4:Value}{α:Type _}{P:Program}{ops:Array Oper}{Q:Exit->Act->World->Prop}{md:Region.Mode}{S F:World->Prop}{listed L:Array Bool}{a:Act}{rs:List Nat}{l cs xs:List Value}{ds:List Deferred}{t e:TypeId}{f:FuncId}{A:Option Addr}{row:Option Nat}
theorem kr(h:p:=by kernel_rfl):p:=h
theorem jD(h:p):Hid p:=Lib.hid h
theorem jB(h:p:=by repeat (first|exact Below.refl _ _|assumption|refine Below.drew ?_|refine bA ?_ _|refine aj ?_ (by omega) _|refine ae ?_ (by assumption))):p:=h
theorem jC(h:p:=by repeat (first|exact Gr.refl _|assumption|refine Gr.drew ?_|refine Gr.alloc ?_ _|refine Gr.set ?_ (by omega) _|refine Gr.trans ?_ (by assumption))):p:=h
def Ord(_:List Nat)(p:Prop):Prop:=p
structure Bw(p:Prop):Prop where
 out:p
theorem pc(h:Bw p):Ord [] p:=h.out
theorem en(h:B)(hp:Bw B->p:=by
  intro hk
  first
   | (exfalso;omega)
   | (exfalso;simp only[decide_eq_true_eq,decide_eq_false_iff_not]at *;omega)
   | (go_ret;exact⟨rfl,hk.out⟩)):p:=hp ⟨h⟩
theorem fi(h:B)(hp:Bw B->p:=by
  intro hk
  go_wp2
  go_ret
  exact⟨rfl,hk.out⟩):p:=hp ⟨h⟩
abbrev OB(n:Int):Value:=.int .i64 n
abbrev OC(W:World)(b o:Nat)(v:Value):Prop:=W.cell? ⟨b,o,none⟩=some v
abbrev OD(w W:World):Prop:=Below w.heap.size w W
abbrev OE(f:FuncId)(a:Array Value)(w:World)(v:Value):Prop:=Calls Tryz.prog f a w fun e W=>e=.returned v/\Below w.heap.size w W
theorem om(h:p:=by omega):p:=h
theorem jS(h:p:=by simp):p:=h
theorem dc(h:p:=by decide):p:=h
theorem jR(h:p:=by rfl):p:=h
theorem jG{o:Nat}(e:W=W')(h:W'.cell? ⟨b,o,none⟩=some v:=by go_simp):OC W b o v:=by rw[e];exact h
theorem jW{o:Nat}(e:W=W')(f:b=b')(h:W'.cell? ⟨b',o,none⟩=some v:=by go_simp):OC W b o v:=by rw[e,f];exact h
theorem gb{n:Nat}(e:W=W')(h:Below n w W':=by exact jB):Below n w W:=by rw[e];exact h
theorem az(h:p:=by ((repeat' split) <;> first | rfl | omega | (exfalso; simp_all; done) | (exfalso; simp_all; omega))):p:=h
theorem jE(a:α):∃x,a=x:=⟨a,rfl⟩
theorem jF(a:α):∃x,x=a:=⟨a,rfl⟩
theorem eh(a:α):∃x,Hid (a=x):=⟨a,jD rfl⟩
theorem jH(a:α):∃x,Hid (x=a):=⟨a,jD rfl⟩
theorem jQ(h:p)(f:Bw p->q:=by intro h;simpa using h.out):q:=f ⟨h⟩
abbrev OF:=@if_neg
abbrev OG:=@if_pos
abbrev OH:=@List.getElem?_eq_getElem
abbrev OI:=@Nat.le_refl
abbrev OJ:=@bodyPost_ret
abbrev OK:=@Below.refl
abbrev OL:=@List.length_map
abbrev OM:=@List.length_append
abbrev ON:=@Bool.and_eq_true
abbrev OO:=@Nat.zero_le
abbrev OP:=@Nat.le_trans
abbrev OQ:=@List.getElem?_map
abbrev OR:=@List.mem_cons_self
abbrev OS:=@List.mem_cons_of_mem
abbrev OT:=@Nat.lt_of_lt_of_le
abbrev OU:=@List.map_cons
abbrev OV:=@World.block_lt_of_cell?
abbrev OW:=@decide_eq_true_eq
abbrev OX:=@List.getElem_mem
abbrev OY:=@Option.bind_some
abbrev OZ:=@decide_eq_false
abbrev O0:=@List.length_singleton
abbrev O3:=@decide_eq_true
abbrev O4:=@List.set_cons_succ
abbrev O5:=@Array.getElem?_eq_getElem
abbrev O6:=@List.set_cons_zero
abbrev O7:=@List.mem_cons
abbrev O8:=@List.flatMap_cons
abbrev O9:=@List.setIfInBounds_toArray
abbrev Pa:=@beq_iff_eq
abbrev Pb:=@List.mem_of_getElem?
abbrev Pc:=@Ne.symm
abbrev Pd:=@Nat.zero_add
abbrev Pe:=@of_decide_eq_true
abbrev Pf:=@World.cell?_of_block
abbrev Pg:=@Sem.run_bind
abbrev Ph:=@List.getElem?_append_left
abbrev Pi:=@Bool.or_eq_true
abbrev Pj:=@Bool.not_eq_true'
abbrev Pk:=@List.length_cons
abbrev Pm:=@DataW.trod_int
abbrev Pn:=@Option.some.inj
abbrev Po:=@List.eq_nil_of_length_eq_zero
abbrev Pp:=@List.take_length
abbrev Pq:=@List.map_append
abbrev Ps:=@if_true
abbrev Pu:=@run_underlying
abbrev Pv:=@IntKind.wrap_i64
abbrev Pw:=@List.not_mem_nil
abbrev Px:=@or_false
abbrev Py:=@Result.andThen_ok
abbrev Pz:=@List.getElem?_append_right
abbrev PA:=@beq_eq_false_iff_ne
abbrev PB:=@List.length_take
abbrev PD:=@Option.map_some
abbrev PE:=@List.drop_eq_getElem_cons
abbrev PF:=@List.getElem?_eq_none
abbrev PG:=@ne_eq
abbrev PH:=@Bool.not_true
abbrev PI:=@AllReadyH.cons
abbrev PJ:=@List.cons.injEq
abbrev PK:=@decide_eq_false_iff_not
abbrev PL:=@Bool.or_eq_false_iff
abbrev PM:=@wp_region_noPanic
abbrev PN:=@List.drop_zero
abbrev PO:=@Int.natCast_nonneg
abbrev PP:=@Nat.add_assoc
abbrev PQ:=@wp_region_held_drew
abbrev PR:=@List.foldl_cons
abbrev PT:=@Nat.lt_or_ge
abbrev PU:=@and_true
abbrev PV:=@List.mem_flatMap
abbrev PW:=@List.take_add_one
abbrev PY:=@Bool.not_false
abbrev PZ:=@List.map_map
abbrev P0:=@Sem.run_pure
abbrev P1:=@Nat.zero_mul
abbrev P2:=@Bool.not_not
abbrev P3:=@Option.getD_some
abbrev P5:=@bne_iff_ne
abbrev P6:=@List.map_nil
abbrev P7:=@Nat.mul_one
abbrev P8:=@Bool.not_eq_false'
abbrev P9:=@Nat.add_zero
abbrev Qa:=@List.getElem?_drop
abbrev Qb:=@if_false
abbrev Qc:=@Bool.eq_iff_iff
abbrev Qd:=@heap_alloc_new
abbrev Qe:=@Below.heap_alloc
abbrev Qf:=@List.append_nil
abbrev Qg:=@List.mem_append
abbrev Qh:=@bne_eq_false_iff_eq
abbrev Qi:=@Bool.and_eq_false_iff
abbrev Qj:=@Bool.true_eq
abbrev Qk:=@Bool.false_eq
abbrev Ql:=@info_parts
abbrev Qm:=@List.foldl_append
abbrev Qn:=@List.drop_length
abbrev Qo:=@Array.getElem?_toList
abbrev Qp:=@wpAnyH_take
abbrev Qq:=@Below.heap_setCell
abbrev Qr:=@Nat.le_of_eq
abbrev Qs:=@List.all_cons
abbrev Qt:=@List.getElem?_take
abbrev Qu:=@List.length_drop
abbrev Qv:=@Go.wpIn_mono
abbrev Qw:=@wpAnyH_ready
abbrev Qx:=@AllReadyH.nil
abbrev Qy:=@Option.some.injEq
abbrev Qz:=@DataW.trod_struct
abbrev QA:=@List.mem_singleton
abbrev QB:=@List.sum_cons
abbrev QC:=@List.getElem?_cons_succ
abbrev QD:=@List.flatMap_append
abbrev QE:=@List.length_range
abbrev QF:=@List.length_filter_le
abbrev QG:=@Option.toList_some
abbrev QH:=@List.append_assoc
abbrev QI:=@wpQuiet_nil
abbrev QJ:=@decide_true
abbrev QK:=@List.take_of_length_le
abbrev QL:=@List.drop_of_length_le
abbrev QM:=@Nat.one_mul
abbrev QN:=@Array.length_toList
abbrev QO:=@List.getElem_of_mem
abbrev QP:=@Lib.byteCells_append
abbrev QQ:=@Bool.true_and
abbrev QR:=@Array.getElem?_eq_none
abbrev QS:=@Nat.eq_zero_or_pos
abbrev QT:=@List.take_append_drop
abbrev QU:=@decide_false
abbrev QW:=@List.getD_cons_zero
abbrev QX:=@List.getD_cons_succ
abbrev QY:=@List.map_congr_left
abbrev QZ:=@Array.ext'
abbrev Q0:=@List.mem_append_right
abbrev Q1:=@Nat.mul_le_mul_right
abbrev Q2:=@getD_set_ne
abbrev Q4:=@List.pairwise_cons
abbrev Q5:=@List.getElem?_cons_zero
abbrev Q6:=@Nat.add_mul
abbrev Q7:=@Nat.ne_of_lt
abbrev Q8:=@Nat.succ_mul
abbrev Q9:=@List.mem_of_mem_drop
abbrev Ra:=@List.mem_of_mem_take
abbrev Rb:=@List.mem_filter
abbrev Rd:=@List.getElem?_set
abbrev Re:=@List.all_eq_true
abbrev Rg:=@Bool.false_or
abbrev Rh:=@ByteArray.toList_eq
abbrev Ri:=@List.length_nil
abbrev Rj:=@Array.getD_eq_getD_getElem?
abbrev Rk:=@List.getElem?_append
abbrev Rl:=@List.mem_append_left
abbrev Rm:=@List.size_toArray
abbrev Rq:=@List.cons_append
abbrev Rr:=@List.nodup_nil
abbrev Rs:=@List.filter_append
abbrev Rt:=@Act.put_comm
abbrev Ru:=@World.putObj_heap_other
abbrev Rw:=@List.ext_getElem?
abbrev Rx:=@Nat.sub_self
abbrev Ry:=@List.nil_append
abbrev Rz:=@NoPanic.normal
abbrev RB:=@wpList_load_row
abbrev RC:=@Array.getElem?_modify
abbrev RD:=@List.drop_eq_nil_of_le
abbrev RE:=@List.pairwise_append
abbrev RF:=@run_equalIn_agg
abbrev RG:=@List.any_eq_true
abbrev RH:=@Int.natCast_zero
abbrev RI:=@Int.natCast_one
abbrev RJ:=@Int.cast_ofNat_Int
abbrev RK:=@Array.toArray_toList
abbrev RL:=@List.getElem?_range
abbrev RM:=@run_sliceBound
abbrev RN:=@List.nodup_cons
abbrev RO:=@List.any_eq_false
abbrev RP:=@Nat.pow_succ
abbrev RQ:=@Nat.pow_le_pow_left
abbrev RR:=@DataW.trod_bool
abbrev RS:=@List.all_append
abbrev RT:=@List.foldl_nil
abbrev RU:=@Int.lt_trichotomy
abbrev RW:=@DataW.trod_string
abbrev RX:=@Bool.not_eq_true
abbrev RY:=@List.length_set
abbrev RZ:=@List.getElem?_set_self
abbrev R0:=@List.getElem?_set_ne
abbrev R1:=@List.getD_eq_getElem?_getD
abbrev R2:=@Int.toNat_natCast
abbrev R3:=@List.getLast?_eq_getElem?
abbrev R4:=@Nat.eq_of_beq_eq_true
abbrev R5:=@List.flatMap_map
abbrev R6:=@Array.getElem?_setIfInBounds_ne
abbrev R7:=@Nat.lt_trichotomy
abbrev R8:=@Nat.add_sub_cancel
abbrev Sa:=@List.take_succ_cons
abbrev Sb:=@List.tail_cons
abbrev Sc:=@Nat.mul_le_mul
abbrev Sd:=@List.getElem_range
abbrev Se:=@List.flatMap_singleton
abbrev Sf:=@List.filter_cons
abbrev Sh:=@KeepsOthers.setCell
abbrev Si:=@grownBy_putObj'
abbrev Sj:=@Nat.lt_or_gt_of_ne
abbrev Sk:=@Classical.byContradiction
abbrev Sm:=@List.getElem?_toArray
abbrev Sn:=@Array.getElem_toList
abbrev So:=@grownCap_le_maxLen
abbrev Sp:=@UInt8.toNat_ofNat'
abbrev Sq:=@MakeChecks.laidMetH_plain
abbrev Sr:=@List.pairwise_iff_getElem
def dM(P:Program)(md:Region.Mode)(ops:Array Oper)(Q:Exit->Act->World->Prop)(S:World->Prop)(s:Nat):Nat->Array Bool->Act->World->Prop
 | 0,listed,a,w=>wpAny P md ops Q 0 listed a w
 | fuel+1,listed,a,w =>
  (listed.getD s false=true->wpAny P md ops Q (fuel+1) listed a w) /\
  (listed.getD s false=false->(Region.ready md ops listed=[]->Q .normal a w) /\
   ∀i∈Region.ready md ops listed,wpOp P ops Q i (fun h w'=>(i≠s->S w')/\dM P md ops Q S s fuel (listed.setIfInBounds i true) h w') a w)
theorem qf:∀(fuel:Nat)(listed:Array Bool)(a:Act)(w:World),dM P md ops Q S s fuel listed a w->wpAny P md ops Q fuel listed a w
 | 0,_,_,_,h=>h
 | fuel+1,listed,a,w,h=>by
  cases hs:listed.getD s false
  ·have I:=h.2 hs;exact⟨I.1,fun i hi=>wpOp_mono (fun Z w' J=>qf fuel _ Z w' J.2) (I.2 i hi)⟩
  ·exact h.1 hs
def sL(md:Region.Mode)(ops:Array Oper)(s i:Nat):Bool:=((ops[s]?).map fun o=>o.after.any fun e=>Region.binds md e&&e.on==i).getD false
theorem lX(hw:sL md ops s i=true)(Z:listed.getD i false=false):s∉Region.ready md ops listed:=by
 intro h;obtain⟨_,o,J,I⟩:=mem_ready.1 h;unfold sL at hw;rw[J]at hw;simp only[PD,P3,Array.any_eq_true]at hw;obtain⟨k,hk,he⟩:=hw;simp only[ON,Pa]at he;have:=I _ (Array.getElem_mem hk) he.1;rw[he.2,Z]at this
 cases this
theorem ud(hi:ops[i]?=some oi)(d':∀(j:Nat)(o:Oper) cs b,ops[j]?=some o->o.op≠.select cs b)(hQ:∀c a w,Q (.panic c) (a.put oi.dst v) w->Q (.panic c) a w)(hw:sL md ops s i=true)(r':i≠s) :
  ∀(fuel:Nat)(listed:Array Bool)(a:Act)(w:World),
   (∀j oj,ops[j]?=some oj->j≠i->listed.getD j true=false->(∀e∈oj.after,Region.binds md e=true->e.on≠i)->oi.apart ops oj=true) ->
   i∈Region.ready md ops listed->listed.getD s false=false->YieldsIf P ops S oi v a->S w ->
   dM P md ops Q S s fuel (listed.setIfInBounds i true) (a.put oi.dst v) w->dM P md ops Q S s (fuel+1) listed a w:=by
 intro fuel
 induction fuel with
 | zero =>
  intro listed a w _ hr hls hy hS H;refine⟨fun h=>(by rw[h]at hls;cases hls),fun _=>⟨fun h=>(by rw[h]at hr;cases hr),fun j hj=>?_⟩⟩
  by_cases I:j=i
  ·subst I;exact hy.wpOp hi hS ⟨fun _=>hS,H⟩
  ·have:=ready_mono hj I;rw[H.1]at this
   cases this
 | succ fuel ih =>
  intro listed a w J hr hls hy hS H;refine⟨fun h=>(by rw[h]at hls;cases hls),fun _=>⟨fun h=>(by rw[h]at hr;cases hr),fun j hj=>?_⟩⟩
  by_cases I:j=i
  ·subst I;exact hy.wpOp hi hS ⟨fun _=>hS,H⟩
  ·have j':(listed.setIfInBounds i true).getD s false=false:=by rw[Q2 false r'];exact hls
   have h1:=(H.2 j').2 j (ready_mono hj I);obtain⟨c',oj,i',n'⟩:=mem_ready.1 hj;have f':listed.getD i false=false:=by
    have h0:=(mem_ready.1 hr).1;rcases PT i listed.size with h'|h'
    ·simpa [h'] using h0
    ·simp[QR h']at h0
   have g':j≠s:=fun e=>lX hw f' (e▸hj)
   have l':∀e∈oj.after,Region.binds md e=true->e.on≠i:=fun e he hb heq=>by
    have h1:=n' e he hb;rw[heq,f']at h1
    cases h1
   have h2:=wpOp_putIf i' (J j oj i' I c' l') (fun cs b=>d' i oi cs b hi) (fun cs b=>d' j oj cs b i') hQ hy h1;have Z:∀k ok,ops[k]?=some ok->k≠i->(listed.setIfInBounds j true).getD k true=false ->
     (∀e∈ok.after,Region.binds md e=true->e.on≠i)->oi.apart ops ok=true:=fun k ok hk q' m' p'=>by
    refine J k ok hk q' ?_ p'
    by_cases k':j=k
    ·subst k';exact c'
    ·rw[Q2 true k']at m';exact m'
   refine wpOp_mono (fun a' w' h3=>⟨fun _=>h3.2.1 g',ih (listed.setIfInBounds j true) a' w' Z (ready_mono hr (Pc I)) (by rw[Q2 false g'];exact hls) h3.1 (h3.2.1 g') ?_⟩) h2;rw[Array.setIfInBounds_comm _ _ I];exact h3.2.2
theorem ym(I:ops[i]?=some oi)(hs:Region.noSelect ops=true)(hf:Region.free md ops listed i=true)(hr:(Region.ready md ops listed).contains i=true)(hw:(sL md ops s i&&i != s&&!listed.getD s false)=true)(Z:∀c a w,Q (.panic c) (a.put oi.dst v) w->Q (.panic c) a w)(hy:YieldsIf P ops S oi v a)(J:S w)(h:dM P md ops Q S s fuel (listed.setIfInBounds i true) (a.put oi.dst v) w):dM P md ops Q S s (fuel+1) listed a w:=by
 simp only[ON,P5,PG,Pj]at hw;exact ud I (Region.noSelect_spec hs) Z hw.1.1 hw.1.2 fuel listed a w (Region.free_spec I hf) (jQ hr) hw.2 hy J h
def AllReadyP(P:Program)(md:Region.Mode)(ops:Array Oper)(Q:Exit->Act->World->Prop)(S:World->Prop)(s fuel:Nat)(listed:Array Bool)(a:Act)(w:World)(rs:List Nat):Prop :=
 ∀i∈rs,wpOp P ops Q i (fun h w'=>(i≠s->S w')/\dM P md ops Q S s fuel (listed.setIfInBounds i true) h w') a w
theorem AllReadyP.nil:AllReadyP P md ops Q S s fuel listed a w []:=fun _ h=>by cases h
theorem AllReadyP.cons(ho:ops[i]?=some o)(h:∀K':Act->World->Prop,Shut (∀a w,S w->(S w->dM P md ops Q S s fuel (listed.setIfInBounds i true) a w)->K' a w)->if Region.wanted o (yielded ops a.tmps)=true then Oper.wp P o a w K' Q else K' (a.put o.dst undef) w)(hs:AllReadyP P md ops Q S s fuel listed a w rs):AllReadyP P md ops Q S s fuel listed a w (i::rs):=fun j I=>by
 rcases List.mem_cons.1 I with rfl|I
 ·exact wpOp_step ho (fun K' hK=>h K' (fun a w J Z=>hK a w ⟨fun _=>J,Z J⟩))
 ·exact hs j I
theorem ux(hr:Region.ready md ops listed=rs)(I:rs≠[])(hls:listed.getD s false=false)(h:AllReadyP P md ops Q S s fuel listed a w rs):dM P md ops Q S s (fuel+1) listed a w :=
 ⟨fun h0=>(by rw[h0]at hls;cases hls),fun _=>⟨fun h0=>absurd (hr▸h0) I,hr▸h⟩⟩
theorem Bf(Z:ops[s]?=some o)(hr:Region.ready md ops listed=[s])(hls:listed.getD s false=false)(hy:YieldsIf P ops (fun _=>True) o v a)(h:wpAny P md ops Q fuel (listed.setIfInBounds s true) (a.put o.dst v) w)(I:(listed.setIfInBounds s true).getD s false=true):dM P md ops Q S s (fuel+1) listed a w:=by
 refine⟨fun h0=>(by rw[h0]at hls;cases hls),fun _=>⟨fun h0=>(by rw[h0]at hr;cases hr),fun i J=>?_⟩⟩;rw[hr]at J;obtain rfl:i=s:=jQ J;refine hy.wpOp Z trivial ⟨fun e=>absurd rfl e,?_⟩
 cases fuel with
 | zero=>exact h
 | succ fuel=>exact⟨fun _=>h,fun h0=>(by rw[I]at h0;cases h0)⟩
theorem Aw(Z:ops[i]?=some o)(hr:Region.ready md ops listed=[i])(I:Region.ready md ops (listed.setIfInBounds i true)=[])(h:∀K':Act->World->Prop,Shut (∀a w,Q .normal a w->K' a w)->if Region.wanted o (yielded ops a.tmps)=true then Oper.wp P o a w K' Q else K' (a.put o.dst undef) w):wpAny P md ops Q (fuel+1) listed a w:=by
 refine⟨fun h0=>(by rw[h0]at hr;cases hr),fun j J=>?_⟩;rw[hr]at J;obtain rfl:j=i:=jQ J;refine wpOp_step Z (fun K' hK=>h K' (fun a w hq=>hK a w ?_))
 cases fuel with
 | zero=>exact⟨I,hq⟩
 | succ fuel=>exact⟨fun _=>hq,by rw[I];simp⟩
theorem yr(S:World->Prop)(s:Nat)(hm:P.follows .mixedOrders=true)(I:S w.drew)(h:S w.drew->dM P .any ops Q S s ops.size (Array.replicate ops.size false) a w.drew):(Code.region id ops true).wp P Q a w :=
 wp_region_any hm (qf _ _ _ _ (h I))
theorem ky{rest:List Oper}(I:ops.toList.drop i=oi::rest):ops[i]?=some oi:=by
 rw[<-Qo];have h:(ops.toList.drop i)[0]?=some oi:=by rw[I];rfl
 rw[Qa]at h
 simpa using h
theorem vV{rest:List Oper}(Z:ops.toList.drop i=oi::rest)(I:oi.dst=some d)(hL:listed.setIfInBounds i true=L)(hs:Region.noSelect ops=true)(hf:Region.free md ops listed i=true)(hr:(Region.ready md ops listed).contains i=true)(J:∀c a w,Q (.panic c) (a.put (some d) v) w->Q (.panic c) a w)(hw:Region.wanted oi (yielded ops l.toArray)=true)(hy:∀w,S w->(execOp (Act.eval ⟨l.toArray,ds⟩) oi).run P w=.ok (.value v) w)(hS:S w)(h:wpAnyH P md ops Q S fuel L ⟨(l.set d v).toArray,ds⟩ w):wpAnyH P md ops Q S (fuel+1) listed ⟨l.toArray,ds⟩ w:=by
 subst hL;refine Qp (ky Z) hs hf hr (by rw[I];exact J) (Or.inl ⟨hw,hy⟩) hS ?_;rw[I]
 simpa [Act.put] using h
theorem yQ{rest:List Oper}(J:ops.toList.drop i=oi::rest)(hL:listed.setIfInBounds i true=L)(hr:Region.ready md ops listed=[i])(hw:Region.wanted oi (yielded ops l.toArray)=true)(h:∀K':Act->World->Prop,Shut (∀a w,S w->(S w->wpAnyH P md ops Q S fuel L a w)->K' a w)->Oper.wp P oi ⟨l.toArray,ds⟩ w K' Q):wpAnyH P md ops Q S (fuel+1) listed ⟨l.toArray,ds⟩ w:=by
 subst hL;refine Qw hr jS (PI (ky J) (fun K I=>?_) Qx);rw[OG hw];exact h K I
theorem vJ{rest:List Oper}(Z:ops.toList.drop i=oi::rest)(I:oi.dst=some d)(hL:listed.setIfInBounds i true=L)(hs:Region.noSelect ops=true)(hf:Region.free md ops listed i=true)(hr:(Region.ready md ops listed).contains i=true)(J:∀c a w,Q (.panic c) (a.put (some d) undef) w->Q (.panic c) a w)(hw:Region.wanted oi (yielded ops l.toArray)=false)(hS:S w)(h:wpAnyH P md ops Q S fuel L ⟨(l.set d undef).toArray,ds⟩ w):wpAnyH P md ops Q S (fuel+1) listed ⟨l.toArray,ds⟩ w:=by
 subst hL;refine Qp (ky Z) hs hf hr (by rw[I];exact J) (Or.inr ⟨hw,rfl⟩) hS ?_;rw[I]
 simpa [Act.put] using h
theorem uD{rest:List Oper}(Z:ops.toList.drop i=oi::rest)(I:oi.dst=some d)(hL:listed.setIfInBounds i true=L)(hs:Region.noSelect ops=true)(hf:Region.free md ops listed i=true)(hr:(Region.ready md ops listed).contains i=true)(hws:(sL md ops s i&&i != s&&!listed.getD s false)=true)(J:∀c a w,Q (.panic c) (a.put (some d) v) w->Q (.panic c) a w)(hw:Region.wanted oi (yielded ops l.toArray)=true)(hy:∀w,S w->(execOp (Act.eval ⟨l.toArray,ds⟩) oi).run P w=.ok (.value v) w)(hS:S w)(h:dM P md ops Q S s fuel L ⟨(l.set d v).toArray,ds⟩ w):dM P md ops Q S s (fuel+1) listed ⟨l.toArray,ds⟩ w:=by
 subst hL;refine ym (ky Z) hs hf hr hws (by rw[I];exact J) (Or.inl ⟨hw,hy⟩) hS ?_;rw[I]
 simpa [Act.put] using h
theorem wT{rest:List Oper}(J:ops.toList.drop i=oi::rest)(hL:listed.setIfInBounds i true=L)(hr:Region.ready md ops listed=[i])(hls:listed.getD s false=false)(hw:Region.wanted oi (yielded ops l.toArray)=true)(h:∀K':Act->World->Prop,Shut (∀a w,S w->(S w->dM P md ops Q S s fuel L a w)->K' a w)->Oper.wp P oi ⟨l.toArray,ds⟩ w K' Q):dM P md ops Q S s (fuel+1) listed ⟨l.toArray,ds⟩ w:=by
 subst hL;refine ux hr jS hls (AllReadyP.cons (ky J) (fun K I=>?_) AllReadyP.nil);rw[OG hw];exact h K I
theorem xq{rest:List Oper}(Z:ops.toList.drop s=o::rest)(J:o.dst=some d)(hL:listed.setIfInBounds s true=L)(hr:Region.ready md ops listed=[s])(hls:listed.getD s false=false)(I:L.getD s false=true)(hw:Region.wanted o (yielded ops l.toArray)=true)(hy:∀w,(execOp (Act.eval ⟨l.toArray,ds⟩) o).run P w=.ok (.value v) w)(h:wpAny P md ops Q fuel L ⟨(l.set d v).toArray,ds⟩ w):dM P md ops Q S s (fuel+1) listed ⟨l.toArray,ds⟩ w:=by
 subst hL;refine Bf (ky Z) hr hls (Or.inl ⟨hw,fun w _=>hy w⟩) ?_ I;rw[J]
 simpa [Act.put] using h
theorem zr{rest:List Oper}(Z:ops.toList.drop i=o::rest)(hL:listed.setIfInBounds i true=L)(hr:Region.ready md ops listed=[i])(I:Region.ready md ops L=[])(hw:Region.wanted o (yielded ops l.toArray)=true)(h:∀K':Act->World->Prop,Shut (∀a w,Q .normal a w->K' a w)->Oper.wp P o ⟨l.toArray,ds⟩ w K' Q):wpAny P md ops Q (fuel+1) listed ⟨l.toArray,ds⟩ w:=by
 subst hL;refine Aw (ky Z) hr I (fun K J=>?_);rw[OG hw];exact h K J
section
theorem bA(h:OD w W)(o:Obj):OD w (W.alloc o):=h.alloc h.size o
theorem ae(h:OD w W)(I:OD W w'):OD w w':=h.trans (I.mono h.size)
theorem aj(h:OD w W)(I:w.heap.size<=b)(v:Value):OD w (W.setCell ⟨b,i,none⟩ v):=h.setCell (p:=⟨b,i,none⟩) I v
abbrev Ent:=Nat × List Value × TypeId
structure St(w0 w:World)(L:List Ent):Prop where
 below:OD w0 w
 own:∀e∈L,w.heap[e.1]?=some (.cells e.2.1.toArray e.2.2 (0,0))/\w0.heap.size<=e.1
 apart:L.Pairwise (fun a b=>a.1≠b.1)
section
variable {w0:World}{L:List Ent}
theorem St.start(w:World):St w w []:=⟨OK _ _,by simp,by simp⟩
theorem St.lt(h:St w0 w L){e:Ent}(he:e∈L):e.1<w.heap.size:=by
 have:=(h.own e he).1;rcases PT e.1 w.heap.size with I|I
 ·exact I
 ·rw[QR I]at this;cases this
theorem St.alloc(h:St w0 w L)(cs:List Value)(t:TypeId):St w0 (w.alloc (.cells cs.toArray t)) ((w.heap.size,cs,t)::L):=by
 refine⟨h.below.alloc h.below.size _,?_,?_⟩
 ·intro e he;rcases List.mem_cons.1 he with rfl|he
  ·exact⟨Qd w _,h.below.size⟩
  ·exact⟨(Qe w _ e.1 (h.lt he)).trans (h.own e he).1,(h.own e he).2⟩
 ·refine List.Pairwise.cons ?_ h.apart;intro e he;have:=h.lt he;simp only[PG];omega
theorem St.drew(h:St w0 w L):St w0 w.drew L:=⟨h.below.drew,h.own,h.apart⟩
theorem St.call(h:St w0 w L)(I:OD w w'):St w0 w' L :=
 ⟨h.below.trans (I.mono h.below.size),fun e he=>⟨(I.block e.1 (h.lt he)).trans (h.own e he).1,(h.own e he).2⟩,h.apart⟩
theorem St.cell(h:St w0 w L)(he:(b,cs,t)∈L)(i:Nat):w.cell? ⟨b,i,none⟩=cs[i]?:=by
 have:=(h.own _ he).1;simp[World.cell?,this]
theorem St.frozen(h:St w0 w L)(he:(b,cs,t)∈L)(i:Nat):w.frozen? ⟨b,i,none⟩=false:=by
 have:=(h.own _ he).1;simp[World.frozen?,this]
theorem St.old(h:St w0 w L)(b i:Nat)(I:b<w0.heap.size):w.cell? ⟨b,i,none⟩=w0.cell? ⟨b,i,none⟩:=h.below.cell (p:=⟨b,i,none⟩) I
theorem St.set(h:St w0 w L)(k:Nat)(he:L[k]?=some (b,cs,t))(i:Nat)(v:Value) :
  St w0 (w.setCell ⟨b,i,none⟩ v) (L.set k (b,cs.set i v,t)):=by
 have hk:k<L.length:=(List.getElem?_eq_some_iff.1 he).1;have hm:(b,cs,t)∈L:=Pb he;refine⟨h.below.setCell (h.own _ hm).2 v,?_,?_⟩
 ·intro e a';rcases List.mem_iff_getElem?.1 a' with ⟨j,I⟩;rw[Rd]at I
  by_cases J:k=j
  ·subst J;simp only[Ps,hk]at I;injection I with I;subst I;refine⟨?_,(h.own _ hm).2⟩;have:=(h.own _ hm).1;simp[World.setCell,RC,this]
  ·rw[OF J]at I;have c':e∈L:=Pb I;have h':e.1≠b:=by
    have hp:=List.pairwise_iff_getElem.1 h.apart;obtain⟨d',g'⟩:=List.getElem?_eq_some_iff.1 I;obtain⟨_,f'⟩:=List.getElem?_eq_some_iff.1 he;rcases Sj J with Z|Z
    ·have:=hp k j hk d' Z;rw[f',g']at this;exact fun x=>this x.symm
    ·have:=hp j k d' hk Z;rw[f',g']at this;exact this
   exact⟨(Qq w _ v e.1 h').trans (h.own e c').1,(h.own e c').2⟩
 ·have:∀(M:List Ent)(k:Nat),M[k]?=some (b,cs,t)->M.Pairwise (fun a b=>a.1≠b.1)->(M.set k (b,cs.set i v,t)).Pairwise (fun a b=>a.1≠b.1):=by
   intro M
   induction M with
   | nil=>intro k hk _;simp at hk
   | cons x M ih =>
    intro k hk hp;rw[Q4]at hp
    cases k with
    | zero =>
     simp only[Q5,Qy]at hk;subst hk;simp only[O6];exact List.pairwise_cons.2 hp
    | succ k =>
     simp only[QC]at hk;simp only[O4];refine List.pairwise_cons.2 ⟨?_,ih k hk hp.2⟩;intro e a';rcases List.mem_iff_getElem?.1 a' with ⟨j,I⟩;rw[Rd]at I
     by_cases J:k=j
     ·subst J;have i':k<M.length:=(List.getElem?_eq_some_iff.1 hk).1;simp only[Ps,i']at I;injection I with I;subst I;exact (hp.1 _ (Pb hk):x.1≠b)
     ·rw[OF J]at I;exact hp.1 _ (Pb I)
  exact this L k he h.apart
theorem St.sub(h:St w0 w L){M:List Ent}(hs:List.Sublist M L):St w0 w M :=
 ⟨h.below,fun e he=>h.own e (hs.subset he),h.apart.sublist hs⟩
end
theorem aa(I:OD w w'){p:Nat}(h:w.cell? ⟨b,p,none⟩=some v):w'.cell? ⟨b,p,none⟩=some v :=
 (I.cell (p:=⟨b,p,none⟩) (OV w ⟨b,p,none⟩ h)).trans h
structure Cls(w:World)(F:World->Prop) where
 W:World
 bel:OD w W
 has:F W
def Grows(F:World->Prop):Prop:=∀h I:World,OD h I->F h->F I
theorem cw{l:List Oper}(F:World->Prop)(Z:Grows F)(hm:P.follows .mixedOrders=true)(J:Region.lexB .any l.toArray=true)(hF:F w)(h:Nonempty (Cls w F)->(∀x:Cls w F,F x.W)->wpQuiet P l.toArray (fun w'=>∃x:Cls w F,w'=x.W) (fun I=>∀w',(∃x:Cls w F,w'=x.W)->Q .normal I w') l a):(Code.region id l.toArray true).wp P Q a w :=
 wp_region_quiet (C:=fun w'=>∃x:Cls w F,w'=x.W) hm J ⟨⟨w.drew,(OK _ w).drew,Z _ _ (OK _ w).drew hF⟩,rfl⟩ (by simpa using h ⟨w,OK _ _,hF⟩ fun x=>x.has)
theorem kB{args:Array Value}(Z:Grows F){x:Cls w F}(h:Calls P f args x.W fun e w'=>e=.returned v/\Below x.W.heap.size x.W w'):Calls P f args x.W fun e I=>e=.returned v/\∃y:Cls w F,I=y.W :=
 h.mono fun _ I ⟨he,J⟩=>⟨he,⟨I,ae x.bel J,Z _ _ J x.has⟩,rfl⟩
theorem aN(b p:Nat)(v:Value):Grows fun w=>w.cell? ⟨b,p,none⟩=some v:=fun _ _ I h=>aa I h
theorem aT{G:World->Prop}(hF:Grows F)(J:Grows G):Grows fun w=>F w/\G w:=fun _ _ I h=>⟨hF _ _ I h.1,J _ _ I h.2⟩
theorem aM:Grows fun _=>True:=fun _ _ _ h=>h
end
section
def Cells(w:World)(b o:Nat)(cs:List Value):Prop:=∀(j:Nat)(u:Value),cs[j]?=some u->w.cell? ⟨b,o+j,none⟩=some u
theorem Cells.stays{o:Nat}(h:Cells w b o cs)(J:OD w w'):Cells w' b o cs:=fun j u I=>aa J (h j u I)
def Src(w:World)(A:Option Addr)(n sz:Nat)(cs:List Value):Prop :=
 cs.length=n*sz/\(∀u∈cs,u.oneCell'=true)/\(0<n->∃b o,A=some ⟨b,o,none⟩/\Cells w b o cs)
theorem Src.stays{n sz:Nat}(h:Src w A n sz cs)(I:OD w w'):Src w' A n sz cs :=
 ⟨h.1,h.2.1,fun hn=>by obtain⟨b,o,Z,J⟩:=h.2.2 hn;exact⟨b,o,Z,J.stays I⟩⟩
theorem Src.nil(w:World)(A:Option Addr)(sz:Nat):Src w A 0 sz []:=⟨by simp,by simp,fun h=>absurd h om⟩
theorem cY(b o j:Nat):(⟨b,o,none⟩:Addr).add j=⟨b,o+j,none⟩:=by unfold Addr.add;split<;>simp_all
section
variable (w : World)
theorem pB(base:Nat)(t ty e:TypeId)(i:TypeInfo)(z:Value)(size bytes:Nat)(ht:P.underlying t=some (.slice e))(hi:P.info? e=some i)(hz:i.zero=some z)(Z:i.size=size)(f':i.bytes=bytes)(h':z.cells.size=size)(d':0<size)(v:Value)(n:Nat)(xs:List Value)(I:w.ownsRow base e size v n xs)(A:Option Addr)(m c:Nat)(news:List Value)(hs:Src w A m size news)(c':n+m<=maxLen)(J:(n+m)*bytes<=140737488355328)(a':base<=w.heap.size) :
  ∃v' w',(Builtin.append_ #[t,t] ty #[v,.slice A m c]).run P w=.ok v' w'/\w'.ownsRow base e size v' (n+m) (xs++news)/\w.grownBy w' v.ownBlock /\
   (v'.ownBlock=v.ownBlock\/v'.ownBlock=some w.heap.size):=by
 obtain⟨h1,h2,h3⟩:=hs
 cases A with
 | none =>
  have hm:m=0:=by
   rcases QS m with h|h
   ·exact h
   ·obtain⟨b,o,hA,_⟩:=h3 h;cases hA
  subst hm;have hn:news=[]:=Po (jQ h1);subst hn;refine⟨v,w,?_,jQ I,World.grownBy.refl w _,.inl rfl⟩;rcases I.2 with ⟨rfl,rfl⟩|⟨g,cap,cur,rfl,_,_,hnc,_⟩
  ·simp[Builtin.append_,Pu ht,sizeOf,typeInfo,hi,Builtin.lenOf,Builtin.firstCells]
  ·simp[Builtin.append_,Pu ht,sizeOf,typeInfo,hi,Builtin.lenOf,Builtin.firstCells,hnc,storeCells]
 | some ad =>
  have hc:∀(j:Nat)(u:Value),news[j]?=some u->w.cell? (ad.add j)=some u:=by
   intro j u hj;rcases QS m with h|h
   ·subst h;have hn:news=[]:=Po (jQ h1);subst hn;simp at hj
   ·obtain⟨b,o,hA,g'⟩:=h3 h;injection hA with hA;subst hA;rw[cY];exact g' j u hj
  obtain⟨v',w',hr,ho,hg,_,hl⟩:=run_append_own_at (P:=P) w base t ty e i z size bytes ht hi hz Z f' h' d' v n xs I ad m c news h1 hc h2 c' J a';exact⟨v',w',hr,ho,hg,hl⟩
theorem fb{rest:List Oper}(f':o.guard=none)(s x:Operand)(t:TypeId)(ho:o.op=.call { callee:=.builtin .append,args:=#[s,x],argTypes:=#[t,t] })(base:Nat)(e:TypeId)(i:TypeInfo)(z:Value)(size bytes:Nat)(ht:P.underlying t=some (.slice e))(hi:P.info? e=some i)(hz:i.zero=some z)(J:i.size=size)(i':i.bytes=bytes)(j':z.cells.size=size)(h':0<size)(v:Value)(n:Nat)(xs:List Value)(hs:a.eval s=v)(a':w.ownsRow base e size v n xs)(A:Option Addr)(m c:Nat)(news:List Value)(hx:a.eval x=.slice A m c)(d':Src w A m size news)(g':n+m<=maxLen)(I:(n+m)*bytes<=140737488355328)(Z:base<=w.heap.size)(h:∀v' w',w'.ownsRow base e size v' (n+m) (xs++news)->w.grownBy w' v.ownBlock->(v'.ownBlock=v.ownBlock\/v'.ownBlock=some w.heap.size)->wpList P ops Q rest (a.put o.dst v') w'):wpList P ops Q (o::rest) a w :=
 wpList_plain f' fun _ hK=>by
  obtain⟨v',w',c',h2,h3,h4⟩:=pB (P:=P) w base t o.type e i z size bytes ht hi hz J i' j' h' v n xs a' A m c news d' g' I Z;unfold Oper.wp execOp;simp only[ho,resolve,invoke,builtin,Pg,P0,Py,List.map_toArray,OU,P6,hs,hx,c'];exact hK _ _ (h v' w' h2 h3 h4)
end
theorem rZ(w:World)(base:Nat)(e:TypeId)(size:Nat)(h:base<=w.heap.size):(w.alloc (.cells #[] e)).ownsRow base e size (.slice (some ⟨w.heap.size,0,none⟩) 0 0) 0 [] :=
 ⟨by simp,.inr ⟨w.heap.size,0,#[],rfl,h,Qd w _,OI _,OO _,by simp,by simp⟩⟩
theorem tY{I:Nat}{n:Nat}(h:w.ownsRow base e size v n xs)(Z:I<=base):w.ownsRow I e size v n xs:=by
 refine⟨h.1,?_⟩;rcases h.2 with J|⟨g,cap,cur,hv,hg,r⟩
 ·exact .inl J
 ·exact .inr ⟨g,cap,cur,hv,by omega,r⟩
theorem aY{n:Nat}(h:w.ownsRow base e size v n xs)(hk:∀g,v.ownBlock=some g->w'.heap[g]?=w.heap[g]?):w'.ownsRow base e size v n xs:=by
 refine⟨h.1,?_⟩;rcases h.2 with I|⟨g,cap,cur,hv,hg,hh,r⟩
 ·exact .inl I
 ·exact .inr ⟨g,cap,cur,hv,hg,by rw[hk g (by rw[hv];rfl)];exact hh,r⟩
theorem ao{n:Nat}(h:w.ownsRow base e size v n xs)(J:v.ownBlock=some g):base<=g/\g<w.heap.size:=by
 rcases h.2 with ⟨rfl,_⟩|⟨g',cap,cur,rfl,hb,hh,_⟩
 ·simp[Value.ownBlock]at J
 ·have:g'=g:=by simpa [Value.ownBlock] using J
  subst this;refine⟨hb,?_⟩;rcases PT g' w.heap.size with I|I
  ·exact I
  ·rw[QR I]at hh;cases hh
theorem aF{n:Nat}(h:w.ownsRow base e size v n xs)(I:OD w w'):w'.ownsRow base e size v n xs :=
 aY h fun g J=>I.block g (ao h J).2
theorem fm{n:Nat}(h:w.ownsRow base e size v n xs)(h1:∀u∈xs,u.oneCell'=true) :
  ∃A c,v=.slice A n c/\n<=c/\c<=maxLen/\Src w A n size xs:=by
 rcases h.2 with ⟨rfl,rfl⟩|⟨g,cap,cur,rfl,hb,hh,hn,hm,hcs,ht⟩
 ·have:xs=[]:=Po (jQ h.1);subst this;exact⟨none,0,rfl,OI _,OO _,Src.nil _ _ _⟩
 ·refine⟨_,_,rfl,hn,hm,h.1,h1,fun _=>⟨g,0,rfl,fun j u I=>?_⟩⟩;have:=h.cells (g:=g) rfl j u I
  rwa [cY]at this
theorem aB(h:w.grownBy w' row){B:Nat}(I:B<=w.heap.size)(hr:∀g,row=some g->B<=g):Below B w w' :=
 ⟨h.os,h.tape,h.output,h.size,fun k hk=>h.block k om (fun e=>by have:=hr k e.symm;omega)⟩
end
section
def Sl{α:Type}(R:World->Nat->Nat->α->Prop)(sz:Nat)(w:World)(v:Value)(l:List α):Prop :=
 ∃A c,v=.slice A l.length c/\l.length<=c/\c<=maxLen/\∀k x,l[k]?=some x->∃b o,A=some ⟨b,o,none⟩/\R w b (o+k*sz) x
def jU{α:Type}(R:World->Nat->Nat->α->Prop):Prop:=∀w w' b p x,OD w w'->R w b p x->R w' b p x
theorem Sl.stays{α:Type}{R:World->Nat->Nat->α->Prop}{sz:Nat}{l:List α}(h:Sl R sz w v l)(hR:jU R)(J:OD w w'):Sl R sz w' v l:=by
 obtain⟨A,c,hv,h1,I,h3⟩:=h;refine⟨A,c,hv,h1,I,fun k x hk=>?_⟩;obtain⟨b,o,Z,hx⟩:=h3 k x hk;exact⟨b,o,Z,hR _ _ _ _ _ J hx⟩
theorem Sl.nil{α:Type}(R:World->Nat->Nat->α->Prop)(sz:Nat)(w:World)(A:Option Addr)(c:Nat)(h:c<=maxLen):Sl R sz w (.slice A 0 c) ([]:List α) :=
 ⟨A,c,rfl,by simp,h,by simp⟩
def LG(w:World)(b p:Nat)(x:Int):Prop:=w.cell? ⟨b,p,none⟩=some (OB x)
abbrev BE(w:World)(v:Value)(l:List Int):Prop:=Sl LG 1 w v l
def SlAt{α:Type}(R:World->Nat->Nat->α->Prop)(sz:Nat)(w:World)(b o:Nat)(l:List α):Prop:=∀(k:Nat)(x:α),l[k]?=some x->R w b (o+k*sz) x
def Means{α:Type}(R:World->Nat->Nat->α->Prop)(sz:Nat)(w:World)(cs:List Value)(l:List α):Prop :=
 cs.length=l.length*sz/\(∀u∈cs,u.oneCell'=true)/\∀(W:World)(b o:Nat),OD w W->Cells W b o cs->SlAt R sz W b o l
def pg{α:Type}(R:World->Nat->Nat->α->Prop)(sz:Nat):Prop :=
 ∀(w:World)(b p:Nat)(x:α),R w b p x->∃cs:List Value,cs.length=sz/\(∀u∈cs,u.oneCell'=true)/\Cells w b p cs/\∀(W:World)(b' h:Nat),OD w W->Cells W b' h cs->R W b' h x
section
variable {α:Type}{R:World->Nat->Nat->α->Prop}{sz:Nat}
theorem Cells.left{o:Nat}{ds:List Value}(h:Cells w b o (cs++ds)):Cells w b o cs:=fun j u I =>
 h j u (by rw[Ph (List.getElem?_eq_some_iff.1 I).1];exact I)
theorem Cells.right{o:Nat}{ds:List Value}(h:Cells w b o (cs++ds)):Cells w b (o+cs.length) ds:=fun j u I=>by
 have:=h (cs.length+j) u (by rw[Pz om];simpa using I)
 rwa [show o+cs.length+j=o+(cs.length+j) by omega]
theorem Cells.app{o:Nat}{ds:List Value}(h1:Cells w b o cs)(J:Cells w b (o+cs.length) ds):Cells w b o (cs++ds):=fun j u I=>by
 rcases PT j cs.length with h|h
 ·rw[Ph h]at I;exact h1 j u I
 ·rw[Pz h]at I;have:=J (j-cs.length) u I
  rwa [show o+cs.length+(j-cs.length)=o+j by omega]at this
theorem Means.nil:Means R sz w [] ([]:List α):=⟨by simp,by simp,fun _ _ _ _ _ k x h=>by simp at h⟩
theorem Means.app{ds:List Value}{l m:List α}(h1:Means R sz w cs l)(I:Means R sz w ds m):Means R sz w (cs++ds) (l++m):=by
 refine⟨by rw[OM,h1.1,I.1,OM,Q6],?_,?_⟩
 ·intro u hu;rcases List.mem_append.1 hu with h|h
  ·exact h1.2.1 u h
  ·exact I.2.1 u h
 ·intro W b o J Z k x hk;rcases PT k l.length with h|h
  ·rw[Ph h]at hk;exact h1.2.2 W b o J Z.left k x hk
  ·rw[Pz h]at hk;have:=I.2.2 W b _ J Z.right (k-l.length) x hk;rw[h1.1]at this
   rwa [show o+l.length*sz+(k-l.length)*sz=o+k*sz by rw[PP,<-Q6];congr 2;omega]at this
theorem SlAt.tail{o:Nat}{x:α}{l:List α}(h:SlAt R sz w b o (x::l)):SlAt R sz w b (o+sz) l:=fun k y hk=>by
 have:=h (k+1) y (jQ hk)
 rwa [show o+(k+1)*sz=o+sz+k*sz by rw[Q6];omega]at this
theorem oN(J:pg R sz){b:Nat}:∀(l:List α)(o:Nat),SlAt R sz w b o l->∃cs,Means R sz w cs l/\Cells w b o cs
 | [],_,_=>⟨[],Means.nil,fun j u h=>by simp at h⟩
 | x::l,o,h=>by
  obtain⟨cs,h1,h2,h3,h4⟩:=J w b o x (by simpa using h 0 x rfl);obtain⟨ds,Z,I⟩:=oN J l (o+sz) h.tail;have hx:Means R sz w cs [x]:=⟨by simp[h1],h2,fun W b' o' hb hc k y hk=>by
   cases k with
   | zero=>simp at hk;subst hk;simpa using h4 W b' o' hb hc
   | succ k=>simp at hk⟩
  exact⟨cs++ds,hx.app Z,h3.app (by rw[h1];exact I)⟩
theorem jY(hM:pg R sz){n:Nat}{l:List α}(h:Sl R sz w (.slice A n c) l):∃cs,Means R sz w cs l/\Src w A n sz cs/\n=l.length:=by
 obtain⟨A',c',hv,h1,h2,h3⟩:=h;injection hv with e1 Z e3;subst e1 Z e3
 cases l with
 | nil=>exact⟨[],Means.nil,Src.nil _ _ _,rfl⟩
 | cons x l =>
  obtain⟨b,o,I,_⟩:=h3 0 x rfl;subst I;have J:SlAt R sz w b o (x::l):=fun k y hk=>by
   obtain⟨b',o',I,hR⟩:=h3 k y hk;injection I with I;injection I with e1 Z;subst e1 Z;exact hR
  obtain⟨cs,hm,hc⟩:=oN hM _ o J;exact⟨cs,hm,⟨hm.1,hm.2.1,fun _=>⟨b,o,rfl,hc⟩⟩,rfl⟩
theorem fj{e:Nat}{l:List α}(hm:Means R sz w cs l)(I:OD w W)(Z:W.ownsRow base e sz v l.length cs):Sl R sz W v l:=by
 obtain⟨A,c,rfl,h1,h,h3⟩:=fm Z hm.2.1;refine⟨A,c,rfl,h1,h,fun k x hk=>?_⟩;obtain⟨b,o,J,hc⟩:=h3.2.2 (by have:=(List.getElem?_eq_some_iff.1 hk).1;omega);exact⟨b,o,J,hm.2.2 W b o I hc k x hk⟩
theorem Means.later{l:List α}(hm:Means R sz w cs l)(I:OD w w'):Means R sz w' cs l :=
 ⟨hm.1,hm.2.1,fun W b o h J=>hm.2.2 W b o (ae I h) J⟩
end
theorem jf{α:Type}{R:World->Nat->Nat->α->Prop}{sz:Nat}{l:List α}(h:Sl R sz w v l):v.oneCell'=true:=by
 obtain⟨A,c,rfl,_⟩:=h;rfl
theorem ab{t:Nat}(h:W.heap[g]?=some (.cells cs.toArray t (0,0)))(i:Nat):W.cell? ⟨g,i,none⟩=cs[i]?:=by simp[World.cell?,h]
theorem af{t:Nat}(h:W.heap[g]?=some (.cells cs.toArray t (0,0)))(i:Nat):W.frozen? ⟨g,i,none⟩=false:=by simp[World.frozen?,h]
theorem aX{t:Nat}{cs:Array Value}(h:W.heap[g]?=some (.cells cs t (0,0))):g<W.heap.size:=by
 rcases PT g W.heap.size with I|I
 ·exact I
 ·rw[QR I]at h;cases h
theorem dV{t:Nat}(h:W.heap[g]?=some (.cells cs.toArray t (0,0)))(i:Nat)(v:Value):(W.setCell ⟨g,i,none⟩ v).heap[g]?=some (.cells (cs.set i v).toArray t (0,0)):=by
 simp[World.setCell,RC,h]
theorem ay(w:World)(o:Obj):OD w (w.alloc o):=bA (OK _ _) o
theorem iW{cs:Array Value}(I:Below (w.alloc (.cells cs t)).heap.size (w.alloc (.cells cs t)) w'):(∀i,w'.cell? ⟨w.heap.size,i,none⟩=cs[i]?)/\(∀i,w'.frozen? ⟨w.heap.size,i,none⟩=false):=by
 have h:=(I.block w.heap.size jS).trans (Qd w _);exact⟨fun i=>by simp[World.cell?,h],fun i=>by simp[World.frozen?,h]⟩
theorem Lw(w:World)(cs:List Value)(t n sz:Nat)(I:cs.length=n*sz)(h1:∀u∈cs,u.oneCell'=true):Src (w.alloc (.cells cs.toArray t)) (some ⟨w.heap.size,0,none⟩) n sz cs :=
 ⟨I,h1,fun _=>⟨w.heap.size,0,rfl,fun j u h=>by rw[Pd,ab (Qd w _)];exact h⟩⟩
theorem bw{e sz n:Nat}(h:w.ownsRow base e sz v n xs):∃A c,v=.slice A n c:=by
 rcases h.2 with ⟨rfl,rfl⟩|⟨g,cap,cur,rfl,_⟩
 ·exact⟨none,0,rfl⟩
 ·exact⟨_,_,rfl⟩
theorem dz{α:Type}{l:List α}{x:α}(h:l[k]?=some x):l.take (k+1)=l.take k++[x]:=by
 obtain⟨hk,rfl⟩:=List.getElem?_eq_some_iff.1 h;rw[List.take_succ_eq_append_getElem hk]
theorem gk(w:World)(cs:List Value)(t n sz k:Nat)(hk:k=w.heap.size)(h:cs.length=n*sz)(h1:∀u∈cs,u.oneCell'=true):Src (w.alloc (.cells cs.toArray t)) (some ⟨k,0,none⟩) n sz cs:=by
 subst hk;exact Lw w cs t n sz h h1
theorem aP{n:Nat}(h:n<=c)(I:c<=maxLen):(n:Int)<=9223372036854775807:=by unfold maxLen at I;omega
theorem qw{e sz n:Nat}(h:w.ownsRow base e sz v n xs)(I:0<n) :
  ∃g cap spare,v=.slice (some ⟨g,0,none⟩) n cap/\base<=g/\w.heap[g]?=some (.cells (xs++spare).toArray e (0,0))/\n<=cap/\cap<=maxLen:=by
 rcases h.2 with ⟨_,h0⟩|⟨g,cap,cur,hv,hg,hh,hnc,hcm,hcs,htake⟩
 ·omega
 ·exact⟨g,cap,cur.toList.drop (n*sz),hv,hg,by rw[hh,<-htake,QT],hnc,hcm⟩
theorem bV{c:Code}(h:∀W:World,W=w->c.wp P Q a W):c.wp P Q a w:=h w rfl
theorem I4{t n sz:Nat}(h:w.heap[k]?=some (.cells cs.toArray t (0,0)))(J:cs.length=n*sz)(h1:∀u∈cs,u.oneCell'=true):Src w (some ⟨k,0,none⟩) n sz cs :=
 ⟨J,h1,fun _=>⟨k,0,rfl,fun j u I=>by rw[Pd,ab h];exact I⟩⟩
theorem ax(W:World)(k:Nat)(o:Obj)(hk:k=W.heap.size):(W.alloc o).heap[k]?=some o:=by subst hk;exact Qd W o
theorem lg{args:Array Value}(J:Grows F){x:Cls w F}(h:∀W:World,OD w W->Calls P f args W fun e w'=>e=.returned v/\OD W w'):Calls P f args x.W fun e I=>e=.returned v/\∃y:Cls w F,I=y.W :=
 kB J (h x.W x.bel)
end
theorem ord_H{is:List Nat}{rest:List Oper}(hi:ops.toList.drop i=oi::rest)(jD:oi.dst=some d)(hL:listed.setIfInBounds i true=L)(hs:Region.noSelect ops=true)(hf:Region.free md ops listed i=true)(hr:(Region.ready md ops listed).contains i=true)(hQ:∀c a w,Q (.panic c) (a.put (some d) v) w->Q (.panic c) a w)(hw:Region.wanted oi (yielded ops l.toArray)=true)(hy:∀w,S w->(execOp (Act.eval ⟨l.toArray,ds⟩) oi).run P w=.ok (.value v) w)(hS:S w)(h:Ord is (wpAnyH P md ops Q S fuel L ⟨(l.set d v).toArray,ds⟩ w)):Ord (i::is) (wpAnyH P md ops Q S (fuel+1) listed ⟨l.toArray,ds⟩ w) :=
 vV hi jD hL hs hf hr hQ hw hy hS h
theorem ord_P{is:List Nat}{rest:List Oper}(hi:ops.toList.drop i=oi::rest)(jD:oi.dst=some d)(hL:listed.setIfInBounds i true=L)(hs:Region.noSelect ops=true)(hf:Region.free md ops listed i=true)(hr:(Region.ready md ops listed).contains i=true)(hws:(sL md ops s i&&i != s&&!listed.getD s false)=true)(hQ:∀c a w,Q (.panic c) (a.put (some d) v) w->Q (.panic c) a w)(hw:Region.wanted oi (yielded ops l.toArray)=true)(hy:∀w,S w->(execOp (Act.eval ⟨l.toArray,ds⟩) oi).run P w=.ok (.value v) w)(hS:S w)(h:Ord is (dM P md ops Q S s fuel L ⟨(l.set d v).toArray,ds⟩ w)):Ord (i::is) (dM P md ops Q S s (fuel+1) listed ⟨l.toArray,ds⟩ w) :=
 uD hi jD hL hs hf hr hws hQ hw hy hS h
theorem tkH(is:List Nat)(h:q)(hq:Bw q->Ord is p:=by
  intro hk
  repeat (focus (refine ord_H (v:=?_) rfl rfl rfl (by kernel_rfl) (by kernel_rfl) (by kernel_rfl) (fun _ _ _ h=>h) (by kernel_rfl) ?_ (by assumption) ?_;rotate_left 1;(focus (intro wS hSw;(try dsimp only at hSw);go_simp<;>with_reducible rfl));simp only[List.setIfInBounds_toArray,List.set_cons_zero,List.set_cons_succ]))
  exact pc hk):p:=hq ⟨h⟩
theorem ord_S{is:List Nat}{rest:List Oper}(hi:ops.toList.drop i=oi::rest)(jD:oi.dst=some d)(hL:listed.setIfInBounds i true=L)(hs:Region.noSelect ops=true)(hf:Region.free md ops listed i=true)(hr:(Region.ready md ops listed).contains i=true)(hQ:∀c a w,Q (.panic c) (a.put (some d) undef) w->Q (.panic c) a w)(hw:Region.wanted oi (yielded ops l.toArray)=false)(hS:S w)(h:Ord is (wpAnyH P md ops Q S fuel L ⟨(l.set d undef).toArray,ds⟩ w)):Ord (i::is) (wpAnyH P md ops Q S (fuel+1) listed ⟨l.toArray,ds⟩ w) :=
 vJ hi jD hL hs hf hr hQ hw hS h
theorem tkS(is:List Nat)(h:q)(hq:Bw q->Ord is p:=by
  intro hk
  repeat (focus (refine ord_S rfl rfl rfl (by kernel_rfl) (by kernel_rfl) (by kernel_rfl) (fun _ _ _ h=>h) (by kernel_rfl) (by assumption) ?_;simp only[List.setIfInBounds_toArray,List.set_cons_zero,List.set_cons_succ]))
  exact pc hk):p:=hq ⟨h⟩
theorem tkP(is:List Nat)(h:q)(hq:Bw q->Ord is p:=by
  intro hk
  repeat (focus (refine ord_P (v:=?_) rfl rfl rfl (by kernel_rfl) (by kernel_rfl) (by kernel_rfl) (by kernel_rfl) (fun _ _ _ h=>h) (by kernel_rfl) ?_ (by assumption) ?_;rotate_left 1;(focus (intro wS hSw;(try dsimp only at hSw);go_simp<;>with_reducible rfl));simp only[List.setIfInBounds_toArray,List.set_cons_zero,List.set_cons_succ]))
  exact pc hk):p:=hq ⟨h⟩
theorem nxH(i:Nat){rest:List Oper}(h:∀K':Act->World->Prop,Shut (∀a w,S w->(S w->wpAnyH P md ops Q S fuel L a w)->K' a w)->Oper.wp P oi ⟨l.toArray,ds⟩ w K' Q)(hi:ops.toList.drop i=oi::rest:=by rfl)(hL:listed.setIfInBounds i true=L:=by rfl)(hr:Region.ready md ops listed=[i]:=by kernel_rfl)(hw:Region.wanted oi (yielded ops l.toArray)=true:=by kernel_rfl):wpAnyH P md ops Q S (fuel+1) listed ⟨l.toArray,ds⟩ w :=
 yQ hi hL hr hw h
theorem nxP(i:Nat){rest:List Oper}(h:∀K':Act->World->Prop,Shut (∀a w,S w->(S w->dM P md ops Q S s fuel L a w)->K' a w)->Oper.wp P oi ⟨l.toArray,ds⟩ w K' Q)(hi:ops.toList.drop i=oi::rest:=by rfl)(hL:listed.setIfInBounds i true=L:=by rfl)(hr:Region.ready md ops listed=[i]:=by kernel_rfl)(hls:listed.getD s false=false:=by kernel_rfl)(hw:Region.wanted oi (yielded ops l.toArray)=true:=by kernel_rfl):dM P md ops Q S s (fuel+1) listed ⟨l.toArray,ds⟩ w :=
 wT hi hL hr hls hw h
theorem dn(h:Q .normal a w)(hr:Region.ready md ops listed=[]:=by kernel_rfl):wpAnyH P md ops (NoPanic Q) S fuel listed a w:=wpAnyH_done hr (NoPanic.normal h) fuel
theorem rgn(S B:World->Prop)(mk:∀W,B W->S W)(h0:B w.drew)(h:(∀W,B W->S W)->S w.drew->wpAnyH P .any ops (NoPanic Q) S ops.size (Array.replicate ops.size false) a w.drew)(hm:P.follows .mixedOrders=true:=by kernel_rfl):(Code.region id ops true).wp P Q a w :=
 wp_region_noPanic (wp_region_held_drew hm (mk _ h0) (h mk))
theorem c5(e:W=W')(f:b=b')(h:W'.heap[b']?=some (.cells #[v0,v1,v2,v3,v4] t (0,0)):=by
  first
  | exact ax _ _ _ (by simp)
  | exact aw (ay _ _) (ax _ _ _ (by simp))
  | exact aw (ay _ _) (aw (ay _ _) (ax _ _ _ (by simp)))
  | exact aw (ay _ _) (aw (ay _ _) (aw (ay _ _) (ax _ _ _ (by simp))))):W.cell? ⟨b,0,none⟩=some v0/\W.cell? ⟨b,1,none⟩=some v1/\W.cell? ⟨b,2,none⟩=some v2/\W.cell? ⟨b,3,none⟩=some v3/\W.cell? ⟨b,4,none⟩=some v4:=by
 rw[e,f]
 exact⟨ab h 0,ab h 1,ab h 2,ab h 3,ab h 4⟩
theorem c8{v5 v6 v7:Value}(e:W=W')(f:b=b')(h:W'.heap[b']?=some (.cells #[v0,v1,v2,v3,v4,v5,v6,v7] t (0,0)):=by
  first
  | exact ax _ _ _ (by simp)
  | exact aw (ay _ _) (ax _ _ _ (by simp))
  | exact aw (ay _ _) (aw (ay _ _) (ax _ _ _ (by simp)))
  | exact aw (ay _ _) (aw (ay _ _) (aw (ay _ _) (ax _ _ _ (by simp))))):W.cell? ⟨b,0,none⟩=some v0/\W.cell? ⟨b,1,none⟩=some v1/\W.cell? ⟨b,2,none⟩=some v2/\W.cell? ⟨b,3,none⟩=some v3/\W.cell? ⟨b,4,none⟩=some v4/\W.cell? ⟨b,5,none⟩=some v5/\W.cell? ⟨b,6,none⟩=some v6/\W.cell? ⟨b,7,none⟩=some v7:=by
 rw[e,f]
 exact⟨ab h 0,ab h 1,ab h 2,ab h 3,ab h 4,ab h 5,ab h 6,ab h 7⟩
theorem c14{v5 v6 v7 v8 v9 v10 v11 v12 v13:Value}(e:W=W')(f:b=b')(h:W'.heap[b']?=some (.cells #[v0,v1,v2,v3,v4,v5,v6,v7,v8,v9,v10,v11,v12,v13] t (0,0)):=by
  first
  | exact ax _ _ _ (by simp)
  | exact aw (ay _ _) (ax _ _ _ (by simp))
  | exact aw (ay _ _) (aw (ay _ _) (ax _ _ _ (by simp)))
  | exact aw (ay _ _) (aw (ay _ _) (aw (ay _ _) (ax _ _ _ (by simp))))):W.cell? ⟨b,0,none⟩=some v0/\W.cell? ⟨b,1,none⟩=some v1/\W.cell? ⟨b,2,none⟩=some v2/\W.cell? ⟨b,3,none⟩=some v3/\W.cell? ⟨b,4,none⟩=some v4/\W.cell? ⟨b,5,none⟩=some v5/\W.cell? ⟨b,6,none⟩=some v6/\W.cell? ⟨b,7,none⟩=some v7/\W.cell? ⟨b,8,none⟩=some v8/\W.cell? ⟨b,9,none⟩=some v9/\W.cell? ⟨b,10,none⟩=some v10/\W.cell? ⟨b,11,none⟩=some v11/\W.cell? ⟨b,12,none⟩=some v12/\W.cell? ⟨b,13,none⟩=some v13:=by
 rw[e,f]
 exact⟨ab h 0,ab h 1,ab h 2,ab h 3,ab h 4,ab h 5,ab h 6,ab h 7,ab h 8,ab h 9,ab h 10,ab h 11,ab h 12,ab h 13⟩
end Go.Proofs.YteemngnialjaiaaGreatDoor
