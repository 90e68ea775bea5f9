/- Part. -/
import Derived.Test.YteemngnialjaiaaGreatDoorQ44
import Derived.Test.YteemngnialjaiaaGreatDoorQ45
import Derived.Deep.DeepHandedRow
set_option maxRecDepth 100000
set_option maxHeartbeats 16000000
set_option linter.unusedVariables false
set_option linter.unusedSimpArgs false
namespace Go.Proofs.YteemngnialjaiaaGreatDoor
open Go.Proofs.Tryz Go.RowKit
variable {H:Type}
open Go.ChangeShapes Go.WideShapes Go.ChangeAt Go.RowKit Go.Deep
theorem Bk(os:Os)(enc:TypeId × Value->H):∃places,DataW.whole enc prog ((World.doorLaid prog 400 os).forCall (fun _ _=>0) ⟨#[],#[uO,.slice none 0 0],[]⟩).memory Tryz.f3.params.toList Rows.partitionMatchesSpec.vars false #[uO,Value.slice none 0 0].toList 8 =
  some ([.agg [.lit (.string []),.nil,.nil,.agg [.lit (.int .i64 0),.nil,.lit (.int .i64 0),.lit (.int .i64 0),.lit (.int .i64 0),.lit (.int .i64 0),.agg [.lit (.int .i64 0),.nil,.lit (.int .i64 0),.lit (.int .i64 0),.lit (.int .i64 0),.agg [.lit (.int .i64 0),.lit (.int .i64 0),.lit (.string [])]]],.nil],.nil],[],places) :=
 ⟨[],by kernel_rfl⟩
theorem ze(os:Os)(started:os.Started)(H:Type)(enc:TypeId × Value->H)(F:Stop.Interp) :
  ReturnsInHanded {} Tryz.checked os 3 .any ((Rows.OpenSpec.upto Rows.partitionMatchesSpec).preRow enc prog Tryz.f3 Rows.partitionMatchesUptoRow.domain false Rows.partitionMatchesUptoRow.laid) (((Rows.OpenSpec.upto Rows.partitionMatchesSpec).at F).post enc prog Tryz.f3 false true false false):=by
 obtain⟨places,hx⟩:=Bk os enc;refine returnsInHanded_of_row (C:=Tryz.checked) (s:=Rows.OpenSpec.upto Rows.partitionMatchesSpec) FX started kr func3
  (witness_row_at (enc:=enc) (C:=Tryz.checked) false (World.doorLaid prog 400 os) #[uO,.slice none 0 0] rfl kr kr kr
   (OpenSpec.preRow_of_cond 8 hx kr (fun k hk=>by cases hk;kernel_rfl) kr (DG os _))) ?_
 intro W base args ds gs before J hW _ I _ hL q' _;have g':Lx W:=⟨uM hL,Tryz.laysM144.s1_3 W q'⟩;have i':Shp W:=uJ hL;have j':Tbl W:=vY hL;have Z:∀(j:Nat) t v,Tryz.f3.params[j]?=some t->args[j]?=some v->Value.okWide prog W .any base t v:=J;have p':=hW;obtain⟨p,q,h',hV,rfl,x',A'⟩:=hW;have hA:DataW.TrodAll enc prog W 0 (fun _=>true) true Tryz.f3.params.toList args.toList ds p:=h';rw[Tryz.params3]at hA Z;obtain⟨v0,u',d0,t',p0,q0,m',rfl,rfl,h0,r0⟩:=trodAll_cons hA;obtain⟨v1,s',d1,y',p1,q1,rfl,rfl,rfl,h1,r1⟩:=trodAll_cons r0;obtain⟨rfl,rfl,rfl⟩:=trodAll_nil r1;obtain rfl:args=#[v0,v1]:=by cases args;simp_all
 obtain⟨rfl,rfl⟩:=trodVars_none hV;have d':Rows.uptoBulkAll ([d0,d1]++([]:List (DataW H)))<=1048576:=Pe (I _ rfl);have z':Rows.uptoBulk d0<=1048576:=OP (nT jS) d';have k0:=h0;have k':∀x∈p0,x.block<W.heap.size:=by obtain⟨m,hm⟩:=k0;exact DataW.trod_lt m _ _ _ hm
 obtain⟨qq,vv,vk,va,vc,vr,fu,rfl,hq,n'⟩:=GN (Z 0 33 v0 rfl rfl) h0;have k1:=h1;have l':∀x∈p1,x.block<W.heap.size:=by obtain⟨m,hm⟩:=k1;exact DataW.trod_lt m _ _ _ hm
 obtain⟨s1,a',c',rfl⟩:=okWide_slice underlying34 (Z 1 34 v1 rfl rfl);obtain⟨l1,w1,r'⟩:∃l,cH W (.slice s1 a' c') l/\∀e∈l,∀u∈e.vals,jM u:=by obtain⟨fuel,hf⟩:=h1;exact AI (v:=.slice s1 a' c') hf
 have hB:ptB qq.pat<=1048576:=by unfold LC at n';omega
 clear h' J I;refine (Ej fu qq l1 vv vk va vc vr _ W hq w1 r' hB i' j' g').mono fun e W' ⟨he,f'⟩=>?_
 subst he;exact⟨_,rfl,_,_,_,[],_,[],p',trodAll_mk1 (shut_bool underlying4 _),(trodAll_cons_mk (Below.trod yY kr (Pe kr) k0 f' k') (trodAll_cons_mk (Below.trod yY kr (Pe kr) k1 f' l') trodAll_mk0)),rfl,f'.frame _,fun h=>by cases h⟩
end Go.Proofs.YteemngnialjaiaaGreatDoor
