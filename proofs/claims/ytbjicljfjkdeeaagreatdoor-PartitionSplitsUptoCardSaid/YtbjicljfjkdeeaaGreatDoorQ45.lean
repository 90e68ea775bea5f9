/- Part. -/
import Derived.Test.YtbjicljfjkdeeaaGreatDoorQ41
import Derived.Test.YtbjicljfjkdeeaaGreatDoorQ23
set_option maxRecDepth 100000
set_option maxHeartbeats 16000000
set_option linter.unusedVariables false
set_option linter.unusedSimpArgs false
namespace Go.Proofs.YtbjicljfjkdeeaaGreatDoor
open Go.Proofs.Tryz Go.RowKit
section
open Go.ChangeShapes Go.WideShapes Go.ChangeAt Go.RowKit Go.Deep
theorem E8 {α:Type} {R:World->Nat->Nat->α->Prop} {P:α->Prop} {sz:Nat} {w:World} {v:Value} {l:List α} (h:Sl (fun w b o x=>R w b o x/\P x) sz w v l):Sl R sz w v l/\∀x∈l,P x:=by
 obtain⟨A,c,Z,I,G,z⟩:=h;refine⟨⟨A,c,Z,I,G,fun k x hk=>?_⟩,fun x O=>?_⟩
 ·obtain⟨b,o,J,hR,-⟩:=z k x hk;exact⟨b,o,J,hR⟩
 ·obtain⟨k,hk⟩:=List.getElem?_of_mem O;obtain⟨b,o,-,-,hP⟩:=z k x hk;exact hP
section
variable {H : Type} {enc : TypeId × Value -> H} {w : World} {base : Nat} {spare : Nat -> Bool} {held : Bool}
theorem GX (n b o:Nat) (cs:List Value) (y:DataW H × List MemPlace) (hl:cs.length=3) (G:∀(j:Nat) (u:Value),cs[j]?=some u->w.cell? ⟨b,o+j,none⟩=some u)
  (h:DataW.trod enc prog w base spare held n 27 cs=some y):∃x,me w b o x/\ja x:=by
 obtain⟨c0,c1,c2,rfl⟩:=sx hl;obtain⟨xs,m,_,_,_,z,hf⟩:=N0 underlying27 h;obtain⟨x0,x1,x2,rfl⟩:=sx (jQ z);have f0:=hf 0 _ rfl;have f1:=hf 1 _ rfl;have f2:=hf 2 _ rfl;simp[dp,fm]at f0 f1 f2;obtain⟨k0,I,_,g0⟩:=MS underlying3 f0;obtain⟨Z,O,_,g1⟩:=MS underlying3 f1;obtain⟨k2,J,_,g2⟩:=Pp underlying9 f2;simp only[Nf,Ns]at I O J;subst I O J;exact⟨⟨k0,Z,k2⟩,⟨G 0 _ rfl,G 1 _ rfl,G 2 _ rfl⟩,g0,g1,g2⟩
theorem DR {fuel:Nat} {v:Value} {y:DataW H × List MemPlace} (h:DataW.trod enc prog w base spare held fuel 41 [v]=some y):∃l,aV w v l/\∀x∈l,ja x:=by
 obtain⟨l,z⟩:=pf (R:=fun w b o x=>me w b o x/\ja x) underlying41 pw dc (fun n b o cs y I G J=>GX n b o cs y I G J) h;exact⟨l,E8 z⟩
theorem DF (n b o:Nat) (cs:List Value) (y:DataW H × List MemPlace) (hl:cs.length=5) (z:∀(j:Nat) (u:Value),cs[j]?=some u->w.cell? ⟨b,o+j,none⟩=some u)
  (h:DataW.trod enc prog w base spare held n 60 cs=some y):∃x,pz w b o x/\∀u∈x.vals,ja u:=by
 obtain⟨c0,c1,c2,c3,c4,rfl⟩:=Ht hl;obtain⟨xs,m,_,_,_,G,hf⟩:=N0 underlying60 h;obtain⟨x0,x1,x2,x3,x4,rfl⟩:=Ht (jQ G);have f0:=hf 0 _ rfl;have f1:=hf 1 _ rfl;have f2:=hf 2 _ rfl;have f3:=hf 3 _ rfl;have f4:=hf 4 _ rfl;simp[dp,Dd]at f0 f1 f2 f3 f4;obtain⟨k0,O,_⟩:=MS underlying3 f0;obtain⟨k1,e1,_⟩:=MS underlying3 f1;obtain⟨k2,Z,_⟩:=MS underlying3 f2;obtain⟨k3,e3,_⟩:=MS underlying3 f3;obtain⟨l,I,J⟩:=DR f4;simp only[Nf,Ns]at O e1 Z e3;subst O e1 Z e3;exact⟨⟨k0,k1,k2,k3,l⟩,⟨c4,I,z 0 _ rfl,z 1 _ rfl,z 2 _ rfl,z 3 _ rfl,z 4 _ rfl⟩,J⟩
theorem zM {fuel:Nat} {v:Value} {y:DataW H × List MemPlace} (h:DataW.trod enc prog w base spare held fuel 34 [v]=some y):∃l,bh w v l/\∀e∈l,∀u∈e.vals,ja u:=by
 obtain⟨l,z⟩:=pf (R:=fun w b o x=>pz w b o x/\∀u∈x.vals,ja u) underlying34 Do dc (fun n b o cs y I G J=>DF n b o cs y I G J) h;exact⟨l,E8 z⟩
theorem Gp {r:Reach} {O:Nat} {v:Value} {d:DataW H} {p:List MemPlace} (Z:Value.okWide prog w r O 33 v) (h:DataW.Trod enc prog w base spare held 33 v d p) :
  ∃(q:Qry) (I z G vc vr:Value) (f:Nat),v=gN q I z G vc vr/\QryIs f w q I z G vc vr/\Ke q<=Rows.uptoBulk d:=by
 obtain⟨cs,rfl,hs⟩:=okWide_struct underlying33 Z;obtain⟨fuel,hf⟩:=h;obtain⟨l⟩:=cs;rw[CW]at hs;obtain⟨q,I,z,G,vc,vr,f,he,hq,J⟩:=Eb (cs:=l) (jQ hs) hf;subst he;exact⟨q,I,z,G,vc,vr,f,rfl,hq,J⟩
end
end
section
open Go.RowKit Go.Deep
theorem xj {H:Type} {enc:TypeId × Value->H} {P:Program} {w:World} {base:Nat} {sp:Nat->Bool} {held:Bool} {fuel:Nat} {t e:TypeId} {n sz:Nat} {cs:List Value} {x:DataW H × List MemPlace}
  (G:P.underlying t=some (.array n e)) (z:P.cellsOf e=sz) (h:DataW.trod enc P w base sp held fuel t cs=some x) :
  ∃(xs:List (DataW H × List MemPlace)) (m:Nat),x.1=.agg (xs.map (·.1))/\cs.length=P.cellsOf t/\xs.length=n/\∀i,i<n->DataW.trod enc P w base sp held m e ((cs.drop (i*sz)).take sz)=xs[i]?:=by
 cases fuel with
 | zero=>simp[DataW.trod]at h
 | succ fuel =>
  simp only[DataW.trod,G,z]at h
  split at h
  ·rename_i J
   obtain⟨xs,hm,Z⟩:=Option.map_eq_some_iff.1 h;refine⟨xs,fuel,by rw[<-Z],J,by simpa using Lib.mapM_length hm,fun i O=>?_⟩;obtain⟨b,I,hf⟩:=Lib.mapM_at hm i i (by simp[O]);rw[hf,I]
  ·cases h
theorem sF {P:Program} {W:World} {name:String} {d:DataW Unit} {rest:List (String × DataW Unit)} {g:Nat} {t:TypeId}
  (Z:P.globalNamed name=some g) (J:(P.globals[g]?).map (·.type)=some t) (h:laidMet P ((name,d)::rest) W) :
  ∃cs fuel p,W.var? P name=some cs/\DataW.trod (fun _=>()) P W 0 (fun _=>true) false fuel t cs.toList=some (d,p):=by
 obtain⟨ps,⟨g',t',cs,fuel,p,q,G,I,z,O,_,_⟩,_⟩:=h;obtain rfl:=MX (Z.symm.trans G);obtain rfl:=MX (J.symm.trans I);exact⟨cs,fuel,p,z,O⟩
theorem qd:prog.cellsOf 4=1:=kr
theorem yz:prog.cellsOf 207=6:=kr
theorem wL:prog.cellsOf 271=2:=kr
section
variable {w : World} {base : Nat} {spare : Nat -> Bool} {held : Bool}
theorem dh {n:Nat} {cs:List Value} {a b:Int} {c d e f:Bool} {p:List MemPlace} (hl:cs.length=6)
  (h:DataW.trod (fun _=>()) prog w base spare held n 207 cs=some (.agg [.lit (.int .i64 a),.lit (.int .i64 b),.lit (.bool c),.lit (.bool d),.lit (.bool e),.lit (.bool f)],p)) :
  cs=[Mk a,Mk b,.bool c,.bool d,.bool e,.bool f]:=by
 obtain⟨c0,c1,c2,c3,c4,c5,rfl⟩:=Br hl;obtain⟨xs,m,_,hx,_,z,hf⟩:=N0 underlying207 h;obtain⟨x0,x1,x2,x3,x4,x5,rfl⟩:=Br (jQ z);have f0:=hf 0 _ rfl;have f1:=hf 1 _ rfl;have f2:=hf 2 _ rfl;have f3:=hf 3 _ rfl;have f4:=hf 4 _ rfl;have f5:=hf 5 _ rfl;simp[dp,qd]at f0 f1 f2 f3 f4 f5;obtain⟨k0,G,g0,_⟩:=MS underlying3 f0;obtain⟨k1,Z,g1,_⟩:=MS underlying3 f1;obtain⟨k2,O,g2⟩:=Ph underlying4 f2;obtain⟨k3,e3,g3⟩:=Ph underlying4 f3;obtain⟨k4,e4,g4⟩:=Ph underlying4 f4;obtain⟨k5,I,g5⟩:=Ph underlying4 f5;subst g0 g1 g2 g3 g4 g5;have J:=congrArg Prod.fst hx;simp at J G Z O e3 e4 I;obtain⟨rfl,rfl,rfl,rfl,rfl,rfl⟩:=J;rw[G,Z,O,e3,e4,I]
theorem eZ {n:Nat} {cs:List Value} {a b:Bool} {p:List MemPlace} (O:cs.length=2)
  (h:DataW.trod (fun _=>()) prog w base spare held n 271 cs=some (.agg [.lit (.bool a),.lit (.bool b)],p)):cs=[.bool a,.bool b]:=by
 obtain⟨c0,c1,rfl⟩:=Bw O;obtain⟨xs,m,_,Z,_,z,hf⟩:=N0 underlying271 h;obtain⟨x0,x1,rfl⟩:=Bw (jQ z);have f0:=hf 0 _ rfl;have f1:=hf 1 _ rfl;simp[qd]at f0 f1;obtain⟨k0,G,g0⟩:=Ph underlying4 f0;obtain⟨k1,J,g1⟩:=Ph underlying4 f1;subst g0 g1;have I:=congrArg Prod.fst Z;simp at I G J;obtain⟨rfl,rfl⟩:=I;rw[G,J]
end
def rj (a b:Int) (c d e f:Bool):DataW Unit:=.agg [.lit (.int .i64 a),.lit (.int .i64 b),.lit (.bool c),.lit (.bool d),.lit (.bool e),.lit (.bool f)]
def lx:List (DataW Unit):=[rj 0 0 true true false false,rj 2 64 false false false false,rj 2 64 false false false false,rj 2 64 false false false false,rj 1 1 false false false false,rj 1 1 true true true false,rj 1 1 false false true true,rj 1 1 false true false false,rj 2 2 false false false false,rj 1 1 true true true false,rj 1 1 false false true true]
def xX (a b:Bool):DataW Unit:=.agg [.lit (.bool a),.lit (.bool b)]
def oK:List (DataW Unit):=[xX true true,xX true false,xX false false,xX true false,xX false false,xX true true,xX true false,xX true true]
theorem qn {W:World} {name:String} {g:Nat} {cs:Array Value} (z:prog.globalNamed name=some g) (h:W.var? prog name=some cs) (i:Nat):W.cell? ⟨g,i,none⟩=cs[i]?:=World.var?_cell z h i
theorem zB {cs:List Value} {k sz j:Nat} {r:List Value} {u:Value} (h:(cs.drop (k*sz)).take sz=r) (z:r[j]?=some u):cs[k*sz+j]?=some u:=by
 subst h;rw[NP]at z
 split at z
 ·rw[N7]at z;exact z
 ·cases z
theorem yU {W:World} {rest:List (String × DataW Unit)} (h:laidMet prog (("tidegate/pattern.shapes",.agg lx)::rest) W):Shp W:=by
 obtain⟨t,ht,hu,hc⟩:∃t,(prog.globals[(0:Nat)]?).map (·.type)=some t/\prog.underlying t=some (.array 11 207)/\prog.cellsOf t=66:=⟨208,by kernel_rfl,by kernel_rfl,by kernel_rfl⟩;obtain⟨cs,fuel,p,hv,hd⟩:=sF (g:=0) kr ht h;obtain⟨xs,m,hx,hl,a',Z⟩:=xj hu yz hd;rw[hc]at hl;have O:lx=xs.map (·.1):=by injection hx
 intro k hk j u hj;rw[qn kr hv];have I:=Z k hk;have G:lx[k]?=(xs[k]?).map (·.1):=by rw[O,MA]
 have hlen:((cs.toList.drop (k*6)).take 6).length=6:=by rw[Nx,O0,hl];omega
 have h3:(cs.toList.drop (k*6)).take 6=Ga k:=by
  have J:k<xs.length:=by omega
  rw[Mq J]at I G;obtain⟨z,hz⟩:=jF (xs[k]'J);rw[<-hz]at I G;clear hz J;obtain⟨dd,pp⟩:=z;simp only[NR]at G
  match k,hk,G with
  | 0,_,G=>simp[lx]at G;subst G;exact dh hlen I
  | 1,_,G=>simp[lx]at G;subst G;exact dh hlen I
  | 2,_,G=>simp[lx]at G;subst G;exact dh hlen I
  | 3,_,G=>simp[lx]at G;subst G;exact dh hlen I
  | 4,_,G=>simp[lx]at G;subst G;exact dh hlen I
  | 5,_,G=>simp[lx]at G;subst G;exact dh hlen I
  | 6,_,G=>simp[lx]at G;subst G;exact dh hlen I
  | 7,_,G=>simp[lx]at G;subst G;exact dh hlen I
  | 8,_,G=>simp[lx]at G;subst G;exact dh hlen I
  | 9,_,G=>simp[lx]at G;subst G;exact dh hlen I
  | 10,_,G=>simp[lx]at G;subst G;exact dh hlen I
 have:=zB h3 hj;rw[N6]at this;exact this
theorem yB {W:World} {rest:List (String × DataW Unit)} (h:laidMet prog (("tidegate/scope.table",.agg oK)::rest) W):Tbl W:=by
 obtain⟨t,ht,hu,hc⟩:∃t,(prog.globals[(1:Nat)]?).map (·.type)=some t/\prog.underlying t=some (.array 8 271)/\prog.cellsOf t=16:=⟨((prog.globals[(1:Nat)]?).map (·.type)).getD 0,by kernel_rfl,by kernel_rfl,by kernel_rfl⟩;obtain⟨cs,fuel,p,hv,hd⟩:=sF (g:=1) kr ht h;obtain⟨xs,m,hx,hl,a',Z⟩:=xj hu wL hd;rw[hc]at hl;have O:oK=xs.map (·.1):=by injection hx
 intro k hk;have I:=Z k hk;have G:oK[k]?=(xs[k]?).map (·.1):=by rw[O,MA]
 have hlen:((cs.toList.drop (k*2)).take 2).length=2:=by rw[Nx,O0,hl];omega
 have h3:(cs.toList.drop (k*2)).take 2=[.bool (!decide (k=2\/k=4)),.bool (LC k)]:=by
  have J:k<xs.length:=by omega
  rw[Mq J]at I G;obtain⟨z,hz⟩:=jF (xs[k]'J);rw[<-hz]at I G;clear hz J;obtain⟨dd,pp⟩:=z;simp only[NR]at G
  match k,hk,G with
  | 0,_,G=>simp[oK]at G;subst G;exact eZ hlen I
  | 1,_,G=>simp[oK]at G;subst G;exact eZ hlen I
  | 2,_,G=>simp[oK]at G;subst G;exact eZ hlen I
  | 3,_,G=>simp[oK]at G;subst G;exact eZ hlen I
  | 4,_,G=>simp[oK]at G;subst G;exact eZ hlen I
  | 5,_,G=>simp[oK]at G;subst G;exact eZ hlen I
  | 6,_,G=>simp[oK]at G;subst G;exact eZ hlen I
  | 7,_,G=>simp[oK]at G;subst G;exact eZ hlen I
 rw[qn kr hv,qn kr hv];have e0:=zB h3 (j:=0) rfl;have e1:=zB h3 (j:=1) rfl;rw[N6]at e0 e1;exact⟨e0,e1⟩
end
section
open Go.ChangeShapes Go.WideShapes Go.ChangeAt Go.RowKit Go.Deep
abbrev lV:List (String × DataW Unit):=[("math/bits.deBruijn32tab",Rows.laid_math_bits_deBruijn32tab),("math/bits.deBruijn64tab",Rows.laid_math_bits_deBruijn64tab),("internal/strconv.uint64pow10",Rows.laid_internal_strconv_uint64pow10),("tidegate/pattern.shapes",Rows.laid_tidegate_pattern_shapes),("tidegate/scope.table",Rows.laid_tidegate_scope_table)]
theorem CO (os:Os) (args:Array Value):laidMetH prog lV ((World.doorLaid prog 400 os).forCall (fun _ _=>0) ⟨#[],args,[]⟩).memory :=
 laidMetH_of_parts3 (fuel:=8) (laidMet_of_run' 8 kr kr) kr kr
theorem uI {W:World} (h:laidMetH prog lV W):Tab W:=by
 rw[MakeChecks.laidMetH_plain _ _ _ kr]at h;have z:laidMet prog (("internal/strconv.uint64pow10",Lib.tabData .u64 Lib.pow10Tab)::[("tidegate/pattern.shapes",Rows.laid_tidegate_pattern_shapes),("tidegate/scope.table",Rows.laid_tidegate_scope_table)]) W:=h.tail.tail;exact Lib.tabIs_of_head (g:=3) (t:=327) (e:=162) (n:=20) kr kr kr kr kr kr z
theorem uF {W:World} (h:laidMetH prog lV W):Shp W:=by
 rw[MakeChecks.laidMetH_plain _ _ _ kr]at h;have z:laidMet prog (("tidegate/pattern.shapes",.agg lx)::[("tidegate/scope.table",Rows.laid_tidegate_scope_table)]) W:=h.tail.tail.tail;exact yU z
theorem vJ {W:World} (h:laidMetH prog lV W):Tbl W:=by
 rw[MakeChecks.laidMetH_plain _ _ _ kr]at h;have z:laidMet prog (("tidegate/scope.table",.agg oK)::[]) W:=h.tail.tail.tail.tail;exact yB z
def uJ:Value:=.agg #[.string ⟨#[]⟩,.slice none 0 0,.slice none 0 0,Mk 0,.slice none 0 0,Mk 0,Mk 0,Mk 0,Mk 0,Mk 0,.slice none 0 0,Mk 0,Mk 0,Mk 0,Mk 0,Mk 0,.string ⟨#[]⟩,.slice none 0 0]
end
end Go.Proofs.YtbjicljfjkdeeaaGreatDoor
