/- Part. -/
import Derived.Test.YtbjicljfjkdeeaaGreatDoorQ45
import Derived.Test.YtbjicljfjkdeeaaGreatDoorQ44
import Derived.Deep.DeepHandedRow
set_option maxRecDepth 100000
set_option maxHeartbeats 16000000
set_option linter.unusedVariables false
set_option linter.unusedSimpArgs false
namespace Go.Proofs.YtbjicljfjkdeeaaGreatDoor
open Go.Proofs.Tryz Go.RowKit
section
open Go.ChangeShapes Go.WideShapes Go.ChangeAt Go.RowKit Go.Deep
theorem vF (os:Os) {H:Type} (enc:TypeId × Value->H):∃places,DataW.whole enc prog ((World.doorLaid prog 400 os).forCall (fun _ _=>0) ⟨#[],#[uJ,.slice none 0 0],[]⟩).memory Tryz.f3.params.toList Rows.partitionSplitsSpec.vars false #[uJ,Value.slice none 0 0].toList 8 =
  some ([.agg [.lit (.string []),.nil,.nil,.agg [.lit (.int .i64 0),.nil,.lit (.int .i64 0),.lit (.int .i64 0),.lit (.int .i64 0),.lit (.int .i64 0),.agg [.lit (.int .i64 0),.nil,.lit (.int .i64 0),.lit (.int .i64 0),.lit (.int .i64 0),.agg [.lit (.int .i64 0),.lit (.int .i64 0),.lit (.string [])]]],.nil],.nil],[],places) :=
 ⟨[],by kernel_rfl⟩
theorem rQ (os:Os) (started:os.Started) (H:Type) (enc:TypeId × Value->H) (F:Stop.Interp) :
  ReturnsInHanded {} Tryz.checked os 3 .any ((Rows.OpenSpec.upto Rows.partitionSplitsSpec).preRow enc prog Tryz.f3 Rows.partitionSplitsUptoRow.domain false Rows.partitionSplitsUptoRow.laid) (((Rows.OpenSpec.upto Rows.partitionSplitsSpec).at F).post enc prog Tryz.f3 false true false false):=by
 obtain⟨places,hx⟩:=vF os enc;refine returnsInHanded_of_row (C:=Tryz.checked) (s:=Rows.OpenSpec.upto Rows.partitionSplitsSpec) Ft started kr func3
  (witness_row_at (enc:=enc) (C:=Tryz.checked) false (World.doorLaid prog 400 os) #[uJ,.slice none 0 0] rfl kr kr kr
   (OpenSpec.preRow_of_cond 8 hx kr (fun k hk=>by cases hk;kernel_rfl) kr (CO os _))) ?_
 intro W base args ds gs before G hW _ z _ hL m' _;have c':Lx W:=⟨uI hL,Tryz.laysM144.s1_3 W m'⟩;have f':Shp W:=uF hL;have g':Tbl W:=vJ hL;have I:∀(j:Nat) t v,Tryz.f3.params[j]?=some t->args[j]?=some v->Value.okWide prog W .any base t v:=G;have l':=hW;obtain⟨p,q,d',hV,rfl,s',x'⟩:=hW;have hA:DataW.TrodAll enc prog W 0 (fun _=>true) true Tryz.f3.params.toList args.toList ds p:=d';rw[Tryz.params3]at hA I;obtain⟨v0,r',d0,q',p0,q0,j',rfl,rfl,h0,r0⟩:=trodAll_cons hA;obtain⟨v1,p',d1,t',p1,q1,rfl,rfl,rfl,h1,r1⟩:=trodAll_cons r0;obtain⟨rfl,rfl,rfl⟩:=trodAll_nil r1;obtain rfl:args=#[v0,v1]:=by cases args;simp_all
 obtain⟨rfl,rfl⟩:=trodVars_none hV;have Z:Rows.uptoBulkAll ([d0,d1]++([]:List (DataW H)))<=1048576:=NB (z _ rfl);have u':Rows.uptoBulk d0<=1048576:=Mx (nA jS) Z;have k0:=h0;have h':∀x∈p0,x.block<W.heap.size:=by obtain⟨m,hm⟩:=k0;exact DataW.trod_lt m _ _ _ hm
 obtain⟨qq,vv,vk,va,vc,vr,fu,rfl,hq,k'⟩:=Gp (I 0 33 v0 rfl rfl) h0;have k1:=h1;have i':∀x∈p1,x.block<W.heap.size:=by obtain⟨m,hm⟩:=k1;exact DataW.trod_lt m _ _ _ hm
 obtain⟨s1,J,O,rfl⟩:=okWide_slice underlying34 (I 1 34 v1 rfl rfl);obtain⟨l1,w1,n'⟩:∃l,bh W (.slice s1 J O) l/\∀e∈l,∀u∈e.vals,ja u:=by obtain⟨fuel,hf⟩:=h1;exact zM (v:=.slice s1 J O) hf
 have hB:ptB qq.pat<=1048576:=by unfold Ke at k';omega
 clear d' G z;refine (yj fu qq l1 vv vk va vc vr _ W hq w1 n' hB f' g' c').mono fun e W' ⟨he,a'⟩=>?_
 subst he;exact⟨_,rfl,_,_,_,[],_,[],l',trodAll_mk1 (shut_bool underlying4 _),(trodAll_cons_mk (Below.trod yw kr (NB kr) k0 a' h') (trodAll_cons_mk (Below.trod yw kr (NB kr) k1 a' i') trodAll_mk0)),rfl,a'.frame _,fun h=>by cases h⟩
end
end Go.Proofs.YtbjicljfjkdeeaaGreatDoor
