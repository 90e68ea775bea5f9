/- Part. -/
import Derived.Test.YteemngnialjaiaaGreatDoorQ39
import Derived.Test.YteemngnialjaiaaGreatDoorQ43
set_option maxRecDepth 100000
set_option maxHeartbeats 16000000
set_option linter.unusedVariables false
set_option linter.unusedSimpArgs false
namespace Go.Proofs.YteemngnialjaiaaGreatDoor
open Go.Proofs.Tryz Go.RowKit
variable {α H:Type}{w W:World}{v u:Value}{base fuel b0 g:Nat}{spare:Nat->Bool}{held:Bool}{r cs:List Value}{p:List MemPlace}{P:Program}{t:TypeId}{name:String}{d:DataW Unit}
section
open Go.ChangeShapes Go.WideShapes Go.ChangeAt Go.RowKit Go.Deep
theorem FH{R:World->Nat->Nat->α->Prop}{P:α->Prop}{sz:Nat}{l:List α}(h:Sl (fun w b o x=>R w b o x/\P x) sz w v l):Sl R sz w v l/\∀x∈l,P x:=by
 obtain⟨A,c,hv,h1,J,I⟩:=h;refine⟨⟨A,c,hv,h1,J,fun k x hk=>?_⟩,fun x hx=>?_⟩
 ·obtain⟨b,o,Z,hR,-⟩:=I k x hk;exact⟨b,o,Z,hR⟩
 ·obtain⟨k,hk⟩:=List.getElem?_of_mem hx;obtain⟨b,o,-,-,hP⟩:=I k x hk;exact hP
section
variable {enc:TypeId×Value->H}
theorem Hq(n b o:Nat)(cs:List Value)(y:DataW H × List MemPlace)(hl:cs.length=3)(J:∀(j:Nat)(u:Value),cs[j]?=some u->w.cell? ⟨b,o+j,none⟩=some u)(h:DataW.trod enc prog w base spare held n 27 cs=some y):∃x,mC w b o x/\jM x:=by
 obtain⟨c0,c1,c2,rfl⟩:=sG hl;obtain⟨xs,m,_,_,_,I,hf⟩:=Qz underlying27 h;obtain⟨x0,x1,x2,rfl⟩:=sG (jQ I);have f0:=hf 0 _ rfl;have f1:=hf 1 _ rfl;have f2:=hf 2 _ rfl;simp[dP,fJ]at f0 f1 f2;obtain⟨k0,Z,_,g0⟩:=Pm underlying3 f0;obtain⟨k1,e1,_,g1⟩:=Pm underlying3 f1;obtain⟨k2,e2,_,g2⟩:=RW underlying9 f2;simp only[PJ,PU]at Z e1 e2;subst Z e1 e2;exact⟨⟨k0,k1,k2⟩,⟨J 0 _ rfl,J 1 _ rfl,J 2 _ rfl⟩,g0,g1,g2⟩
theorem EA{y:DataW H×List MemPlace}(h:DataW.trod enc prog w base spare held fuel 59 [v]=some y):∃l,bh w v l/\∀x∈l,jM x:=by
 obtain⟨l,I⟩:=pr (R:=fun w b o x=>mC w b o x/\jM x) underlying59 pI dc (fun n b o cs y h1 J Z=>Hq n b o cs y h1 J Z) h;exact⟨l,FH I⟩
theorem El(n b o:Nat)(cs:List Value)(y:DataW H × List MemPlace)(hl:cs.length=5)(I:∀(j:Nat)(u:Value),cs[j]?=some u->w.cell? ⟨b,o+j,none⟩=some u)(h:DataW.trod enc prog w base spare held n 71 cs=some y):∃x,pP w b o x/\∀u∈x.vals,jM u:=by
 obtain⟨c0,c1,c2,c3,c4,rfl⟩:=Iu hl;obtain⟨xs,m,_,_,_,J,hf⟩:=Qz underlying71 h;obtain⟨x0,x1,x2,x3,x4,rfl⟩:=Iu (jQ J);have f0:=hf 0 _ rfl;have f1:=hf 1 _ rfl;have f2:=hf 2 _ rfl;have f3:=hf 3 _ rfl;have f4:=hf 4 _ rfl;simp[dP,D0]at f0 f1 f2 f3 f4;obtain⟨k0,e0,_⟩:=Pm underlying3 f0;obtain⟨k1,e1,_⟩:=Pm underlying3 f1;obtain⟨k2,e2,_⟩:=Pm underlying3 f2;obtain⟨k3,e3,_⟩:=Pm underlying3 f3;obtain⟨l,Z,a'⟩:=EA f4;simp only[PJ,PU]at e0 e1 e2 e3;subst e0 e1 e2 e3;exact⟨⟨k0,k1,k2,k3,l⟩,⟨c4,Z,I 0 _ rfl,I 1 _ rfl,I 2 _ rfl,I 3 _ rfl,I 4 _ rfl⟩,a'⟩
theorem AI{y:DataW H×List MemPlace}(h:DataW.trod enc prog w base spare held fuel 34 [v]=some y):∃l,cH w v l/\∀e∈l,∀u∈e.vals,jM u:=by
 obtain⟨l,I⟩:=pr (R:=fun w b o x=>pP w b o x/\∀u∈x.vals,jM u) underlying34 D7 dc (fun n b o cs y h1 J Z=>El n b o cs y h1 J Z) h;exact⟨l,FH I⟩
theorem GN{r:Reach}{d:DataW H}(ho:Value.okWide prog w r b0 33 v)(h:DataW.Trod enc prog w base spare held 33 v d p) :
  ∃(q:Qry)(Z I J vc vr:Value)(f:Nat),v=og q Z I J vc vr/\QryIs f w q Z I J vc vr/\LC q<=Rows.uptoBulk d:=by
 obtain⟨cs,rfl,hs⟩:=okWide_struct underlying33 ho;obtain⟨fuel,hf⟩:=h;obtain⟨l⟩:=cs;rw[DJ]at hs;obtain⟨q,Z,I,J,vc,vr,f,he,hq,hb⟩:=EM (cs:=l) (jQ hs) hf;subst he;exact⟨q,Z,I,J,vc,vr,f,rfl,hq,hb⟩
end
end
section
open Go.RowKit Go.Deep
theorem xC{enc:TypeId×Value->H}{sp:Nat->Bool}{e:TypeId}{n sz:Nat}{x:DataW H×List MemPlace}(J:P.underlying t=some (.array n e))(I:P.cellsOf e=sz)(h:DataW.trod enc P w base sp held fuel t cs=some x) :
  ∃(xs:List (DataW H × List MemPlace))(m:Nat),x.1=.agg (xs.map (·.1))/\cs.length=P.cellsOf t/\xs.length=n/\∀i,i<n->DataW.trod enc P w base sp held m e ((cs.drop (i*sz)).take sz)=xs[i]?:=by
 cases fuel with
 | zero=>simp[DataW.trod]at h
 | succ fuel =>
  simp only[DataW.trod,J,I]at h
  split at h
  ·rename_i hl
   obtain⟨xs,hm,hx⟩:=Option.map_eq_some_iff.1 h;refine⟨xs,fuel,by rw[<-hx],hl,by simpa using Lib.mapM_length hm,fun i hi=>?_⟩;obtain⟨b,Z,hf⟩:=Lib.mapM_at hm i i (by simp[hi]);rw[hf,Z]
  ·cases h
theorem sM{rest:List (String×DataW Unit)}(hg:P.globalNamed name=some g)(a':(P.globals[g]?).map (·.type)=some t)(h:laidMet P ((name,d)::rest) W) :
  ∃cs fuel p,W.var? P name=some cs/\DataW.trod (fun _=>()) P W 0 (fun _=>true) false fuel t cs.toList=some (d,p):=by
 obtain⟨ps,⟨g',t',cs,fuel,p,q,J,Z,I,hd,_,_⟩,_⟩:=h;obtain rfl:=Pn (hg.symm.trans J);obtain rfl:=Pn (a'.symm.trans Z);exact⟨cs,fuel,p,I,hd⟩
theorem qu:prog.cellsOf 4=1:=kr
theorem za:prog.cellsOf 241=6:=kr
theorem wY:prog.cellsOf 314=2:=kr
theorem dG{n:Nat}{a b:Int}{c d e f:Bool}(hl:cs.length=6)(h:DataW.trod (fun _=>()) prog w base spare held n 241 cs=some (.agg [.lit (.int .i64 a),.lit (.int .i64 b),.lit (.bool c),.lit (.bool d),.lit (.bool e),.lit (.bool f)],p)) :
  cs=[OB a,OB b,.bool c,.bool d,.bool e,.bool f]:=by
 obtain⟨c0,c1,c2,c3,c4,c5,rfl⟩:=BX hl;obtain⟨xs,m,_,hx,_,I,hf⟩:=Qz underlying241 h;obtain⟨x0,x1,x2,x3,x4,x5,rfl⟩:=BX (jQ I);have f0:=hf 0 _ rfl;have f1:=hf 1 _ rfl;have f2:=hf 2 _ rfl;have f3:=hf 3 _ rfl;have f4:=hf 4 _ rfl;have f5:=hf 5 _ rfl;simp[dP,qu]at f0 f1 f2 f3 f4 f5;obtain⟨k0,J,g0,_⟩:=Pm underlying3 f0;obtain⟨k1,e1,g1,_⟩:=Pm underlying3 f1;obtain⟨k2,e2,g2⟩:=RR underlying4 f2;obtain⟨k3,e3,g3⟩:=RR underlying4 f3;obtain⟨k4,e4,g4⟩:=RR underlying4 f4;obtain⟨k5,Z,g5⟩:=RR underlying4 f5;subst g0 g1 g2 g3 g4 g5;have h1:=congrArg Prod.fst hx;simp at h1 J e1 e2 e3 e4 Z;obtain⟨rfl,rfl,rfl,rfl,rfl,rfl⟩:=h1;rw[J,e1,e2,e3,e4,Z]
theorem fo{n:Nat}{a b:Bool}(Z:cs.length=2)(h:DataW.trod (fun _=>()) prog w base spare held n 314 cs=some (.agg [.lit (.bool a),.lit (.bool b)],p)):cs=[.bool a,.bool b]:=by
 obtain⟨c0,c1,rfl⟩:=B2 Z;obtain⟨xs,m,_,hx,_,I,hf⟩:=Qz underlying314 h;obtain⟨x0,x1,rfl⟩:=B2 (jQ I);have f0:=hf 0 _ rfl;have f1:=hf 1 _ rfl;simp[qu]at f0 f1;obtain⟨k0,J,g0⟩:=RR underlying4 f0;obtain⟨k1,e1,g1⟩:=RR underlying4 f1;subst g0 g1;have h1:=congrArg Prod.fst hx;simp at h1 J e1;obtain⟨rfl,rfl⟩:=h1;rw[J,e1]
def rG(a b:Int)(c d e f:Bool):DataW Unit:=.agg [.lit (.int .i64 a),.lit (.int .i64 b),.lit (.bool c),.lit (.bool d),.lit (.bool e),.lit (.bool f)]
def lN:List (DataW Unit):=[rG 0 0 true true false false,rG 2 64 false false false false,rG 2 64 false false false false,rG 2 64 false false false false,rG 1 1 false false false false,rG 1 1 true true true false,rG 1 1 false false true true,rG 1 1 false true false false,rG 2 2 false false false false,rG 1 1 true true true false,rG 1 1 false false true true]
def yu(a b:Bool):DataW Unit:=.agg [.lit (.bool a),.lit (.bool b)]
def oV:List (DataW Unit):=[yu true true,yu true false,yu false false,yu true false,yu false false,yu true true,yu true false,yu true true]
theorem qJ{cs:Array Value}(I:prog.globalNamed name=some g)(h:W.var? prog name=some cs)(i:Nat):W.cell? ⟨g,i,none⟩=cs[i]?:=World.var?_cell I h i
theorem Aj{k sz j:Nat}(h:(cs.drop (k*sz)).take sz=r)(I:r[j]?=some u):cs[k*sz+j]?=some u:=by
 subst h;rw[Qt]at I
 split at I
 ·rw[Qa]at I;exact I
 ·cases I
theorem zJ{rest:List (String×DataW Unit)}(h:laidMet prog (("tidegate/pattern.shapes",.agg lN)::rest) W):Shp W:=by
 obtain⟨t,ht,hu,hc⟩:∃t,(prog.globals[(0:Nat)]?).map (·.type)=some t/\prog.underlying t=some (.array 11 241)/\prog.cellsOf t=66:=⟨242,by kernel_rfl,by kernel_rfl,by kernel_rfl⟩;obtain⟨cs,fuel,p,hv,hd⟩:=sM (g:=0) kr ht h;obtain⟨xs,m,hx,hl,c',a'⟩:=xC hu za hd;rw[hc]at hl;have Z:lN=xs.map (·.1):=by injection hx
 intro k hk j u hj;rw[qJ kr hv];have h1:=a' k hk;have I:lN[k]?=(xs[k]?).map (·.1):=by rw[Z,OQ]
 have hlen:((cs.toList.drop (k*6)).take 6).length=6:=by rw[PB,Qu,hl];omega
 have h3:(cs.toList.drop (k*6)).take 6=lA k:=by
  have J:k<xs.length:=by omega
  rw[OH J]at h1 I;obtain⟨z,hz⟩:=jF (xs[k]'J);rw[<-hz]at h1 I;clear hz J;obtain⟨dd,pp⟩:=z;simp only[PD]at I
  match k,hk,I with
  | 0,_,I=>simp[lN]at I;subst I;exact dG hlen h1
  | 1,_,I=>simp[lN]at I;subst I;exact dG hlen h1
  | 2,_,I=>simp[lN]at I;subst I;exact dG hlen h1
  | 3,_,I=>simp[lN]at I;subst I;exact dG hlen h1
  | 4,_,I=>simp[lN]at I;subst I;exact dG hlen h1
  | 5,_,I=>simp[lN]at I;subst I;exact dG hlen h1
  | 6,_,I=>simp[lN]at I;subst I;exact dG hlen h1
  | 7,_,I=>simp[lN]at I;subst I;exact dG hlen h1
  | 8,_,I=>simp[lN]at I;subst I;exact dG hlen h1
  | 9,_,I=>simp[lN]at I;subst I;exact dG hlen h1
  | 10,_,I=>simp[lN]at I;subst I;exact dG hlen h1
 have:=Aj h3 hj;rw[Qo]at this;exact this
theorem zg{rest:List (String×DataW Unit)}(h:laidMet prog (("tidegate/scope.table",.agg oV)::rest) W):Tbl W:=by
 obtain⟨t,ht,hu,hc⟩:∃t,(prog.globals[(1:Nat)]?).map (·.type)=some t/\prog.underlying t=some (.array 8 314)/\prog.cellsOf t=16:=⟨((prog.globals[(1:Nat)]?).map (·.type)).getD 0,by kernel_rfl,by kernel_rfl,by kernel_rfl⟩;obtain⟨cs,fuel,p,hv,hd⟩:=sM (g:=1) kr ht h;obtain⟨xs,m,hx,hl,c',a'⟩:=xC hu wY hd;rw[hc]at hl;have Z:oV=xs.map (·.1):=by injection hx
 intro k hk;have h1:=a' k hk;have I:oV[k]?=(xs[k]?).map (·.1):=by rw[Z,OQ]
 have hlen:((cs.toList.drop (k*2)).take 2).length=2:=by rw[PB,Qu,hl];omega
 have h3:(cs.toList.drop (k*2)).take 2=[.bool (!decide (k=2\/k=4)),.bool (Nw k)]:=by
  have J:k<xs.length:=by omega
  rw[OH J]at h1 I;obtain⟨z,hz⟩:=jF (xs[k]'J);rw[<-hz]at h1 I;clear hz J;obtain⟨dd,pp⟩:=z;simp only[PD]at I
  match k,hk,I with
  | 0,_,I=>simp[oV]at I;subst I;exact fo hlen h1
  | 1,_,I=>simp[oV]at I;subst I;exact fo hlen h1
  | 2,_,I=>simp[oV]at I;subst I;exact fo hlen h1
  | 3,_,I=>simp[oV]at I;subst I;exact fo hlen h1
  | 4,_,I=>simp[oV]at I;subst I;exact fo hlen h1
  | 5,_,I=>simp[oV]at I;subst I;exact fo hlen h1
  | 6,_,I=>simp[oV]at I;subst I;exact fo hlen h1
  | 7,_,I=>simp[oV]at I;subst I;exact fo hlen h1
 rw[qJ kr hv,qJ kr hv];have e0:=Aj h3 (j:=0) rfl;have e1:=Aj h3 (j:=1) rfl;rw[Qo]at e0 e1;exact⟨e0,e1⟩
end
section
open Go.ChangeShapes Go.WideShapes Go.ChangeAt Go.RowKit Go.Deep
abbrev mw:List (String × DataW Unit):=[("math/bits.deBruijn32tab",Rows.laid_math_bits_deBruijn32tab),("math/bits.deBruijn64tab",Rows.laid_math_bits_deBruijn64tab),("internal/strconv.uint64pow10",Rows.laid_internal_strconv_uint64pow10),("tidegate/pattern.shapes",Rows.laid_tidegate_pattern_shapes),("tidegate/scope.table",Rows.laid_tidegate_scope_table)]
theorem DG(os:Os)(args:Array Value):laidMetH prog mw ((World.doorLaid prog 400 os).forCall (fun _ _=>0) ⟨#[],args,[]⟩).memory :=
 laidMetH_of_parts3 (fuel:=8) (laidMet_of_run' 8 kr kr) kr kr
theorem uM(h:laidMetH prog mw W):Tab W:=by
 rw[Sq _ _ _ kr]at h;have I:laidMet prog (("internal/strconv.uint64pow10",Lib.tabData .u64 Lib.pow10Tab)::[("tidegate/pattern.shapes",Rows.laid_tidegate_pattern_shapes),("tidegate/scope.table",Rows.laid_tidegate_scope_table)]) W:=h.tail.tail;exact Lib.tabIs_of_head (g:=3) (t:=399) (e:=195) (n:=20) kr kr kr kr kr kr I
theorem uJ(h:laidMetH prog mw W):Shp W:=by
 rw[Sq _ _ _ kr]at h;have I:laidMet prog (("tidegate/pattern.shapes",.agg lN)::[("tidegate/scope.table",Rows.laid_tidegate_scope_table)]) W:=h.tail.tail.tail;exact zJ I
theorem vY(h:laidMetH prog mw W):Tbl W:=by
 rw[Sq _ _ _ kr]at h;have I:laidMet prog (("tidegate/scope.table",.agg oV)::[]) W:=h.tail.tail.tail.tail;exact zg I
def uO:Value:=.agg #[.string ⟨#[]⟩,.slice none 0 0,.slice none 0 0,OB 0,.slice none 0 0,OB 0,OB 0,OB 0,OB 0,OB 0,.slice none 0 0,OB 0,OB 0,OB 0,OB 0,OB 0,.string ⟨#[]⟩,.slice none 0 0]
end
end Go.Proofs.YteemngnialjaiaaGreatDoor
