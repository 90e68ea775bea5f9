/- Part. -/
import Derived.Test.YtokconodddedhaaGreatDoorQ48
import Derived.Deep.DeepHandedRow
set_option maxRecDepth 100000
set_option maxHeartbeats 16000000
set_option linter.unusedVariables false
set_option linter.unusedSimpArgs false
namespace Go.Proofs.YtokconodddedhaaGreatDoor
open Go.Proofs.Tryz Go.RowKit
section
open Go.ChangeShapes Go.WideShapes Go.ChangeAt Go.RowKit Go.Deep
def yz:Value:=.agg #[KW 0,KW 0,.string ⟨#[]⟩]
theorem Ag (os:Os) {H:Type} (enc:TypeId × Value->H):∃places,DataW.whole enc prog ((World.doorLaid prog 400 os).forCall (fun _ _=>0) ⟨#[],#[ui,.slice none 0 0,yz],[]⟩).memory Tryz.f6.params.toList Rows.partitionKeysSpec.vars false #[ui,Value.slice none 0 0,yz].toList 8 =
  some ([.agg [.lit (.string []),.nil,.nil,.agg [.lit (.int .i64 0),.nil,.lit (.int .i64 0),.lit (.int .i64 0),.lit (.int .i64 0),.lit (.int .i64 0),.agg [.lit (.int .i64 0),.nil,.lit (.int .i64 0),.lit (.int .i64 0),.lit (.int .i64 0),.agg [.lit (.int .i64 0),.lit (.int .i64 0),.lit (.string [])]]],.nil],.nil,.agg [.lit (.int .i64 0),.lit (.int .i64 0),.lit (.string [])]],[],places) :=
 ⟨[],by kernel_rfl⟩
theorem xV (os:Os) (started:os.Started) (H:Type) (enc:TypeId × Value->H) (F:Stop.Interp) :
  ReturnsInHanded {} Tryz.checked os 6 .any ((Rows.OpenSpec.upto Rows.partitionKeysSpec).preRow enc prog Tryz.f6 Rows.partitionKeysUptoRow.domain false Rows.partitionKeysUptoRow.laid) (((Rows.OpenSpec.upto Rows.partitionKeysSpec).at F).post enc prog Tryz.f6 false true false false):=by
 obtain⟨places,hx⟩:=Ag os enc;refine returnsInHanded_of_row (C:=Tryz.checked) (s:=Rows.OpenSpec.upto Rows.partitionKeysSpec) Fu started kr func6
  (witness_row_at (enc:=enc) (C:=Tryz.checked) false (World.doorLaid prog 400 os) #[ui,.slice none 0 0,yz] rfl kr kr kr
   (OpenSpec.preRow_of_cond 8 hx kr (fun k hk=>by cases hk;kernel_rfl) kr (B6 os _))) ?_
 intro W base args ds gs before D hW _ G _ hL h' _;have b':Lx W:=⟨uO hL,Tryz.laysM144.s1_3 W h'⟩;have c':Shp W:=uU hL;have d':Tbl W:=uz hL;have z:∀(j:Nat) t v,Tryz.f6.params[j]?=some t->args[j]?=some v->Value.okWide prog W .any base t v:=D;have l':=hW;obtain⟨p,q,a',hV,rfl,s',m'⟩:=hW;have hA:DataW.TrodAll enc prog W 0 (fun _=>true) true Tryz.f6.params.toList args.toList ds p:=a';rw[Tryz.params6]at hA z;obtain⟨v0,t',d0,p',p0,q0,j',rfl,rfl,h0,r0⟩:=trodAll_cons hA;obtain⟨v1,n',d1,r',p1,q1,rfl,rfl,rfl,h1,r1⟩:=trodAll_cons r0;obtain⟨v2,x',d2,u',p2,q2,rfl,rfl,rfl,h2,r2⟩:=trodAll_cons r1;obtain⟨rfl,rfl,rfl⟩:=trodAll_nil r2;obtain rfl:args=#[v0,v1,v2]:=by cases args;simp_all
 obtain⟨rfl,rfl⟩:=trodVars_none hV;have Z:Rows.uptoBulkAll ([d0,d1,d2]++([]:List (DataW H)))<=1048576:=MA (G _ rfl);have q':Rows.uptoBulk d0<=1048576:=Lf (nI jS) Z;have k0:=h0;have i':∀x∈p0,x.block<W.heap.size:=by obtain⟨m,hm⟩:=k0;exact DataW.trod_lt m _ _ _ hm
 obtain⟨qq,vv,vk,va,vc,vr,fu,rfl,hq,g'⟩:=Gs (z 0 33 v0 rfl rfl) h0;have k1:=h1;have e':∀x∈p1,x.block<W.heap.size:=by obtain⟨m,hm⟩:=k1;exact DataW.trod_lt m _ _ _ hm
 obtain⟨s1,J,O,rfl⟩:=okWide_slice underlying34 (z 1 34 v1 rfl rfl);obtain⟨l1,w1,f'⟩:∃l,bm W (.slice s1 J O) l/\∀e∈l,∀u∈e.vals,gV u:=by obtain⟨fuel,hf⟩:=h1;exact zE (v:=.slice s1 J O) hf
 have k2:=h2;have k':∀x∈p2,x.block<W.heap.size:=by obtain⟨m,hm⟩:=k2;exact DataW.trod_lt m _ _ _ hm
 obtain⟨key,rfl,-⟩:=EC (z 2 27 v2 rfl rfl) h2;have hB:ptB qq.pat<=1048576:=by unfold xr at g';omega
 clear a' D G;refine (CH fu qq l1 key vv vk va vc vr _ W hq w1 f' hB c' d' b').mono fun e W' ⟨he,I⟩=>?_
 subst he;exact⟨_,rfl,_,_,_,[],_,[],l',trodAll_mk1 (shut_bool underlying4 _),(trodAll_cons_mk (Below.trod qM kr (MA kr) k0 I i') (trodAll_cons_mk (Below.trod qM kr (MA kr) k1 I e') (trodAll_cons_mk (Below.trod qM kr (MA kr) k2 I k') trodAll_mk0))),rfl,I.frame _,fun h=>by cases h⟩
end
end Go.Proofs.YtokconodddedhaaGreatDoor
