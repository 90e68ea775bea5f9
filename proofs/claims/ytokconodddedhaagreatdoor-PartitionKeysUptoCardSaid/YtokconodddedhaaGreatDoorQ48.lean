/- Part. -/
import Derived.Test.YtokconodddedhaaGreatDoorQ47
set_option maxRecDepth 100000
set_option maxHeartbeats 16000000
set_option linter.unusedVariables false
set_option linter.unusedSimpArgs false
namespace Go.Proofs.YtokconodddedhaaGreatDoor
open Go.Proofs.Tryz Go.RowKit
section
open Go.ChangeShapes Go.WideShapes Go.ChangeAt Go.RowKit Go.Deep
theorem En {α:Type} {R:World->Nat->Nat->α->Prop} {P:α->Prop} {sz:Nat} {w:World} {v:Value} {l:List α} (h:Sl (fun w b o x=>R w b o x/\P x) sz w v l):Sl R sz w v l/\∀x∈l,P x:=by
 obtain⟨A,c,J,F,Z,z⟩:=h;refine⟨⟨A,c,J,F,Z,fun k x hk=>?_⟩,fun x D=>?_⟩
 ·obtain⟨b,o,I,O,-⟩:=z k x hk;exact⟨b,o,I,O⟩
 ·obtain⟨k,hk⟩:=List.getElem?_of_mem D;obtain⟨b,o,-,-,G⟩:=z k x hk;exact G
section
variable {H : Type} {enc : TypeId × Value -> H} {w : World} {base : Nat} {spare : Nat -> Bool} {held : Bool}
theorem ER (n b o:Nat) (cs:List Value) (y:DataW H × List MemPlace) (hl:cs.length=3) (z:∀(j:Nat) (u:Value),cs[j]?=some u->w.cell? ⟨b,o+j,none⟩=some u)
  (h:DataW.trod enc prog w base spare held n 27 cs=some y):∃x,lU w b o x/\gV x:=by
 obtain⟨c0,c1,c2,rfl⟩:=oX hl;obtain⟨xs,m,_,_,_,D,hf⟩:=Mt underlying27 h;obtain⟨x0,x1,x2,rfl⟩:=oX (jQ D);have f0:=hf 0 _ rfl;have f1:=hf 1 _ rfl;have f2:=hf 2 _ rfl;simp[df,ey]at f0 f1 f2;obtain⟨k0,G,_,O⟩:=LA underlying3 f0;obtain⟨J,F,_,Z⟩:=LA underlying3 f1;obtain⟨k2,I,_,g2⟩:=Nr underlying9 f2;simp only[LS,LV]at G F I;subst G F I;exact⟨⟨k0,J,k2⟩,⟨z 0 _ rfl,z 1 _ rfl,z 2 _ rfl⟩,O,Z,g2⟩
theorem Dy {fuel:Nat} {v:Value} {y:DataW H × List MemPlace} (h:DataW.trod enc prog w base spare held fuel 56 [v]=some y):∃l,aV w v l/\∀x∈l,gV x:=by
 obtain⟨l,z⟩:=pB (R:=fun w b o x=>lU w b o x/\gV x) underlying56 mN dc (fun n b o cs y D G F=>ER n b o cs y D G F) h;exact⟨l,En z⟩
theorem Db (n b o:Nat) (cs:List Value) (y:DataW H × List MemPlace) (hl:cs.length=5) (z:∀(j:Nat) (u:Value),cs[j]?=some u->w.cell? ⟨b,o+j,none⟩=some u)
  (h:DataW.trod enc prog w base spare held n 68 cs=some y):∃x,tP w b o x/\∀u∈x.vals,gV u:=by
 obtain⟨c0,c1,c2,c3,c4,rfl⟩:=Gv hl;obtain⟨xs,m,_,_,_,G,hf⟩:=Mt underlying68 h;obtain⟨x0,x1,x2,x3,x4,rfl⟩:=Gv (jQ G);have f0:=hf 0 _ rfl;have f1:=hf 1 _ rfl;have f2:=hf 2 _ rfl;have f3:=hf 3 _ rfl;have f4:=hf 4 _ rfl;simp[df,Cw]at f0 f1 f2 f3 f4;obtain⟨k0,O,_⟩:=LA underlying3 f0;obtain⟨k1,I,_⟩:=LA underlying3 f1;obtain⟨k2,Z,_⟩:=LA underlying3 f2;obtain⟨k3,J,_⟩:=LA underlying3 f3;obtain⟨l,F,D⟩:=Dy f4;simp only[LS,LV]at O I Z J;subst O I Z J;exact⟨⟨k0,k1,k2,k3,l⟩,⟨c4,F,z 0 _ rfl,z 1 _ rfl,z 2 _ rfl,z 3 _ rfl,z 4 _ rfl⟩,D⟩
theorem zE {fuel:Nat} {v:Value} {y:DataW H × List MemPlace} (h:DataW.trod enc prog w base spare held fuel 34 [v]=some y):∃l,bm w v l/\∀e∈l,∀u∈e.vals,gV u:=by
 obtain⟨l,z⟩:=pB (R:=fun w b o x=>tP w b o x/\∀u∈x.vals,gV u) underlying34 BU dc (fun n b o cs y D G F=>Db n b o cs y D G F) h;exact⟨l,En z⟩
theorem EC {r:Reach} {I:Nat} {v:Value} {d:DataW H} {p:List MemPlace} (ho:Value.okWide prog w r I 27 v) (h:DataW.Trod enc prog w base spare held 27 v d p):∃x:Vl,v=vlV x/\gV x:=by
 obtain⟨cs,rfl,hs⟩:=okWide_struct underlying27 ho;obtain⟨fuel,hf⟩:=h;obtain⟨l⟩:=cs;rw[mN]at hs;obtain⟨c0,c1,c2,rfl⟩:=oX (jQ hs);obtain⟨xs,m,_,_,_,z,hf⟩:=Mt underlying27 hf;obtain⟨x0,x1,x2,rfl⟩:=oX (jQ z);have f0:=hf 0 _ rfl;have f1:=hf 1 _ rfl;have f2:=hf 2 _ rfl;simp[df,ey,Value.cells]at f0 f1 f2;obtain⟨k0,F,_,O⟩:=LA underlying3 f0;obtain⟨J,D,_,Z⟩:=LA underlying3 f1;obtain⟨k2,G,_,g2⟩:=Nr underlying9 f2;simp only[LS,LV]at F D G;subst F D G;exact⟨⟨k0,J,k2⟩,rfl,O,Z,g2⟩
theorem Gs {r:Reach} {z:Nat} {v:Value} {d:DataW H} {p:List MemPlace} (F:Value.okWide prog w r z 33 v) (h:DataW.Trod enc prog w base spare held 33 v d p) :
  ∃(q:Qry) (vv vk va vc vr:Value) (f:Nat),v=dO q vv vk va vc vr/\QryIs f w q vv vk va vc vr/\xr q<=Rows.uptoBulk d:=by
 obtain⟨cs,rfl,hs⟩:=okWide_struct underlying33 F;obtain⟨fuel,hf⟩:=h;obtain⟨l⟩:=cs;rw[DQ]at hs;obtain⟨q,vv,vk,va,vc,vr,f,he,hq,D⟩:=Cd (cs:=l) (jQ hs) hf;subst he;exact⟨q,vv,vk,va,vc,vr,f,rfl,hq,D⟩
end
end
section
open Go.RowKit Go.Deep
theorem xp {H:Type} {enc:TypeId × Value->H} {P:Program} {w:World} {base:Nat} {sp:Nat->Bool} {held:Bool} {fuel:Nat} {t e:TypeId} {n sz:Nat} {cs:List Value} {x:DataW H × List MemPlace}
  (I:P.underlying t=some (.array n e)) (z:P.cellsOf e=sz) (h:DataW.trod enc P w base sp held fuel t cs=some x) :
  ∃(xs:List (DataW H × List MemPlace)) (m:Nat),x.1=.agg (xs.map (·.1))/\cs.length=P.cellsOf t/\xs.length=n/\∀i,i<n->DataW.trod enc P w base sp held m e ((cs.drop (i*sz)).take sz)=xs[i]?:=by
 cases fuel with
 | zero=>simp[DataW.trod]at h
 | succ fuel =>
  simp only[DataW.trod,I,z]at h
  split at h
  ·rename_i D
   obtain⟨xs,hm,F⟩:=Option.map_eq_some_iff.1 h;refine⟨xs,fuel,by rw[<-F],D,by simpa using Lib.mapM_length hm,fun i G=>?_⟩;obtain⟨b,J,hf⟩:=Lib.mapM_at hm i i (by simp[G]);rw[hf,J]
  ·cases h
theorem tE {P:Program} {W:World} {name:String} {d:DataW Unit} {rest:List (String × DataW Unit)} {g:Nat} {t:TypeId}
  (J:P.globalNamed name=some g) (G:(P.globals[g]?).map (·.type)=some t) (h:laidMet P ((name,d)::rest) W) :
  ∃cs fuel p,W.var? P name=some cs/\DataW.trod (fun _=>()) P W 0 (fun _=>true) false fuel t cs.toList=some (d,p):=by
 obtain⟨ps,⟨O,Z,cs,fuel,p,q,F,D,z,I,_,_⟩,_⟩:=h;obtain rfl:=LK (J.symm.trans F);obtain rfl:=LK (G.symm.trans D);exact⟨cs,fuel,p,z,I⟩
theorem pE:prog.cellsOf 4=1:=kr
theorem wX:prog.cellsOf 261=6:=kr
theorem vV:prog.cellsOf 333=2:=kr
section
variable {w : World} {base : Nat} {spare : Nat -> Bool} {held : Bool}
theorem dx {n:Nat} {cs:List Value} {a b:Int} {c d e f:Bool} {p:List MemPlace} (hl:cs.length=6)
  (h:DataW.trod (fun _=>()) prog w base spare held n 261 cs=some (.agg [.lit (.int .i64 a),.lit (.int .i64 b),.lit (.bool c),.lit (.bool d),.lit (.bool e),.lit (.bool f)],p)) :
  cs=[KW a,KW b,.bool c,.bool d,.bool e,.bool f]:=by
 obtain⟨c0,c1,c2,c3,c4,c5,rfl⟩:=Bx hl;obtain⟨xs,m,_,hx,_,z,hf⟩:=Mt underlying261 h;obtain⟨x0,x1,x2,x3,x4,x5,rfl⟩:=Bx (jQ z);have f0:=hf 0 _ rfl;have f1:=hf 1 _ rfl;have f2:=hf 2 _ rfl;have f3:=hf 3 _ rfl;have f4:=hf 4 _ rfl;have f5:=hf 5 _ rfl;simp[df,pE]at f0 f1 f2 f3 f4 f5;obtain⟨k0,J,g0,_⟩:=LA underlying3 f0;obtain⟨k1,D,g1,_⟩:=LA underlying3 f1;obtain⟨k2,O,g2⟩:=Nu underlying4 f2;obtain⟨k3,I,g3⟩:=Nu underlying4 f3;obtain⟨k4,F,g4⟩:=Nu underlying4 f4;obtain⟨k5,Z,g5⟩:=Nu underlying4 f5;subst g0 g1 g2 g3 g4 g5;have G:=congrArg Prod.fst hx;simp at G J D O I F Z;obtain⟨rfl,rfl,rfl,rfl,rfl,rfl⟩:=G;rw[J,D,O,I,F,Z]
theorem fa {n:Nat} {cs:List Value} {a b:Bool} {p:List MemPlace} (Z:cs.length=2)
  (h:DataW.trod (fun _=>()) prog w base spare held n 333 cs=some (.agg [.lit (.bool a),.lit (.bool b)],p)):cs=[.bool a,.bool b]:=by
 obtain⟨c0,c1,rfl⟩:=AD Z;obtain⟨xs,m,_,I,_,z,hf⟩:=Mt underlying333 h;obtain⟨x0,x1,rfl⟩:=AD (jQ z);have f0:=hf 0 _ rfl;have f1:=hf 1 _ rfl;simp[pE]at f0 f1;obtain⟨k0,G,J⟩:=Nu underlying4 f0;obtain⟨k1,D,O⟩:=Nu underlying4 f1;subst J O;have F:=congrArg Prod.fst I;simp at F G D;obtain⟨rfl,rfl⟩:=F;rw[G,D]
end
def qG (a b:Int) (c d e f:Bool):DataW Unit:=.agg [.lit (.int .i64 a),.lit (.int .i64 b),.lit (.bool c),.lit (.bool d),.lit (.bool e),.lit (.bool f)]
def ll:List (DataW Unit):=[qG 0 0 true true false false,qG 2 64 false false false false,qG 2 64 false false false false,qG 2 64 false false false false,qG 1 1 false false false false,qG 1 1 true true true false,qG 1 1 false false true true,qG 1 1 false true false false,qG 2 2 false false false false,qG 1 1 true true true false,qG 1 1 false false true true]
def ym (a b:Bool):DataW Unit:=.agg [.lit (.bool a),.lit (.bool b)]
def oZ:List (DataW Unit):=[ym true true,ym true false,ym false false,ym true false,ym false false,ym true true,ym true false,ym true true]
theorem pS {W:World} {name:String} {g:Nat} {cs:Array Value} (z:prog.globalNamed name=some g) (h:W.var? prog name=some cs) (i:Nat):W.cell? ⟨g,i,none⟩=cs[i]?:=World.var?_cell z h i
theorem zO {cs:List Value} {k sz j:Nat} {r:List Value} {u:Value} (h:(cs.drop (k*sz)).take sz=r) (z:r[j]?=some u):cs[k*sz+j]?=some u:=by
 subst h;rw[NG]at z
 split at z
 ·rw[List.getElem?_drop]at z;exact z
 ·cases z
theorem vX {W:World} {rest:List (String × DataW Unit)} (h:laidMet prog (("tidegate/pattern.shapes",.agg ll)::rest) W):Shp W:=by
 obtain⟨t,ht,hu,hc⟩:∃t,(prog.globals[(0:Nat)]?).map (·.type)=some t/\prog.underlying t=some (.array 11 261)/\prog.cellsOf t=66:=⟨262,by kernel_rfl,by kernel_rfl,by kernel_rfl⟩;obtain⟨cs,fuel,p,hv,hd⟩:=tE (g:=0) kr ht h;obtain⟨xs,m,hx,Z,a',I⟩:=xp hu wX hd;rw[hc]at Z;have J:ll=xs.map (·.1):=by injection hx
 intro k hk j u hj;rw[pS kr hv];have F:=I k hk;have D:ll[k]?=(xs[k]?).map (·.1):=by rw[J,LI]
 have hlen:((cs.toList.drop (k*6)).take 6).length=6:=by rw[Ml,NH,Z];omega
 have h3:(cs.toList.drop (k*6)).take 6=Jv k:=by
  have G:k<xs.length:=by omega
  rw[K9 G]at F D;obtain⟨z,O⟩:=jF (xs[k]'G);rw[<-O]at F D;clear O G;obtain⟨dd,pp⟩:=z;simp only[Nm]at D
  match k,hk,D with
  | 0,_,D=>simp[ll]at D;subst D;exact dx hlen F
  | 1,_,D=>simp[ll]at D;subst D;exact dx hlen F
  | 2,_,D=>simp[ll]at D;subst D;exact dx hlen F
  | 3,_,D=>simp[ll]at D;subst D;exact dx hlen F
  | 4,_,D=>simp[ll]at D;subst D;exact dx hlen F
  | 5,_,D=>simp[ll]at D;subst D;exact dx hlen F
  | 6,_,D=>simp[ll]at D;subst D;exact dx hlen F
  | 7,_,D=>simp[ll]at D;subst D;exact dx hlen F
  | 8,_,D=>simp[ll]at D;subst D;exact dx hlen F
  | 9,_,D=>simp[ll]at D;subst D;exact dx hlen F
  | 10,_,D=>simp[ll]at D;subst D;exact dx hlen F
 have:=zO h3 hj;rw[M5]at this;exact this
theorem xK {W:World} {rest:List (String × DataW Unit)} (h:laidMet prog (("tidegate/scope.table",.agg oZ)::rest) W):Tbl W:=by
 obtain⟨t,ht,hu,hc⟩:∃t,(prog.globals[(1:Nat)]?).map (·.type)=some t/\prog.underlying t=some (.array 8 333)/\prog.cellsOf t=16:=⟨((prog.globals[(1:Nat)]?).map (·.type)).getD 0,by kernel_rfl,by kernel_rfl,by kernel_rfl⟩;obtain⟨cs,fuel,p,hv,hd⟩:=tE (g:=1) kr ht h;obtain⟨xs,m,hx,hl,a',I⟩:=xp hu vV hd;rw[hc]at hl;have J:oZ=xs.map (·.1):=by injection hx
 intro k hk;have F:=I k hk;have D:oZ[k]?=(xs[k]?).map (·.1):=by rw[J,LI]
 have hlen:((cs.toList.drop (k*2)).take 2).length=2:=by rw[Ml,NH,hl];omega
 have h3:(cs.toList.drop (k*2)).take 2=[.bool (!decide (k=2\/k=4)),.bool (iw k)]:=by
  have G:k<xs.length:=by omega
  rw[K9 G]at F D;obtain⟨z,Z⟩:=jF (xs[k]'G);rw[<-Z]at F D;clear Z G;obtain⟨dd,pp⟩:=z;simp only[Nm]at D
  match k,hk,D with
  | 0,_,D=>simp[oZ]at D;subst D;exact fa hlen F
  | 1,_,D=>simp[oZ]at D;subst D;exact fa hlen F
  | 2,_,D=>simp[oZ]at D;subst D;exact fa hlen F
  | 3,_,D=>simp[oZ]at D;subst D;exact fa hlen F
  | 4,_,D=>simp[oZ]at D;subst D;exact fa hlen F
  | 5,_,D=>simp[oZ]at D;subst D;exact fa hlen F
  | 6,_,D=>simp[oZ]at D;subst D;exact fa hlen F
  | 7,_,D=>simp[oZ]at D;subst D;exact fa hlen F
 rw[pS kr hv,pS kr hv];have e0:=zO h3 (j:=0) rfl;have O:=zO h3 (j:=1) rfl;rw[M5]at e0 O;exact⟨e0,O⟩
end
section
open Go.ChangeShapes Go.WideShapes Go.ChangeAt Go.RowKit Go.Deep
abbrev mn:List (String × DataW Unit):=[("math/bits.deBruijn32tab",Rows.laid_math_bits_deBruijn32tab),("math/bits.deBruijn64tab",Rows.laid_math_bits_deBruijn64tab),("internal/strconv.uint64pow10",Rows.laid_internal_strconv_uint64pow10),("tidegate/pattern.shapes",Rows.laid_tidegate_pattern_shapes),("tidegate/scope.table",Rows.laid_tidegate_scope_table)]
theorem B6 (os:Os) (args:Array Value):laidMetH prog mn ((World.doorLaid prog 400 os).forCall (fun _ _=>0) ⟨#[],args,[]⟩).memory :=
 laidMetH_of_parts3 (fuel:=8) (laidMet_of_run' 8 kr kr) kr kr
theorem uO {W:World} (h:laidMetH prog mn W):Tab W:=by
 rw[MakeChecks.laidMetH_plain _ _ _ kr]at h;have z:laidMet prog (("internal/strconv.uint64pow10",Lib.tabData .u64 Lib.pow10Tab)::[("tidegate/pattern.shapes",Rows.laid_tidegate_pattern_shapes),("tidegate/scope.table",Rows.laid_tidegate_scope_table)]) W:=h.tail.tail;exact Lib.tabIs_of_head (g:=3) (t:=409) (e:=210) (n:=20) kr kr kr kr kr kr z
theorem uU {W:World} (h:laidMetH prog mn W):Shp W:=by
 rw[MakeChecks.laidMetH_plain _ _ _ kr]at h;have z:laidMet prog (("tidegate/pattern.shapes",.agg ll)::[("tidegate/scope.table",Rows.laid_tidegate_scope_table)]) W:=h.tail.tail.tail;exact vX z
theorem uz {W:World} (h:laidMetH prog mn W):Tbl W:=by
 rw[MakeChecks.laidMetH_plain _ _ _ kr]at h;have z:laidMet prog (("tidegate/scope.table",.agg oZ)::[]) W:=h.tail.tail.tail.tail;exact xK z
def ui:Value:=.agg #[.string ⟨#[]⟩,.slice none 0 0,.slice none 0 0,KW 0,.slice none 0 0,KW 0,KW 0,KW 0,KW 0,KW 0,.slice none 0 0,KW 0,KW 0,KW 0,KW 0,KW 0,.string ⟨#[]⟩,.slice none 0 0]
end
def nz (x:Vl):Bool:=decide ((x.text.size:Int)<=128)
def xR (l:List Vl):Bool:=(l.take 40).all nz&&decide ((l.length:Int)<40)
theorem tN (l:List Vl) (v:Value) (w:World) (hl:aV w v l) :
  Calls prog 67 #[v] w fun e w'=>e=.returned (.bool (xR l))/\w=w':=by
 obtain⟨A,c,rfl,h1,h2,O⟩:=hl;have hn:=ax h1 h2;have HL:=jD O;clear O h1 h2;go_enter func67,ntmps67;go_wp2
 go_loop [3] (fun i=>∃k:Nat,k<=l.length/\k<=40/\i=KW k/\Hid (∀(j:Nat) (x:Vl),l[j]?=some x->j<k->nz x=true)) (fun i=>l.length-(intOf i).toNat)
 case atStart=>exact⟨0,Lb _,by omega,rfl,fun _ _ _ h=>absurd h om⟩
 case round =>
  obtain⟨k,hk,e',rfl,hi⟩:=hrel
  by_cases I:k<l.length/\k<40
  ·obtain⟨F,Z⟩:=I;obtain⟨b,o,rfl,c0,c1,c2⟩:=HL.out k l[k] (K9 F);have z:=jD (K9 F);obtain⟨x,hx⟩:=jF (l[k]);rw[<-hx]at c0 c1 c2 z;clear hx c0 c1;have f':(k:Int)<(l.length:Int):=by omega
   have d':(k:Int)<40:=by omega
   by_cases hb:(x.text.size:Int)<=128
   ·have HB:Hid (nz x=true):=jD (Nc hb);have c':¬128<(x.text.size:Int):=by omega
    go_wp2
    go_round
    case rel =>
     refine⟨k+1,by omega,by omega,by go_num,?_⟩;intro j y D b';rcases Nat.lt_or_eq_of_le (Nat.le_of_lt_succ b') with h|h
     ·exact hi j y D h
     ·subst h;rw[z.out]at D;injection D with D;subst D;exact HB.out
    case measure=>simp[intOf];omega
   ·have c':128<(x.text.size:Int):=by omega
    have G:Hid (xR l=false):=jD (by
     have:((l.take 40).all nz)=false:=by
      rw[List.all_eq_false];refine⟨x,?_,by unfold nz;simpa using hb⟩;have h7:(l.take 40)[k]?=some x:=by rw[NG,K7 Z];exact z.out
      exact Li h7
     simp only[xR,this,Mw])
    go_wp2;go_ret;rw[G.out];exact⟨rfl,rfl⟩
  ·have G:Hid (xR l=decide ((l.length:Int)<40)):=jD (by
    have:((l.take 40).all nz)=true:=by
     rw[M7];intro x hx;obtain⟨j,D⟩:=List.mem_iff_getElem?.1 hx;have a':=(List.getElem?_eq_some_iff.1 D).1;rw[Ml]at a';rw[NG,K7 om]at D;exact hi j x D om
    simp only[xR,this,L5])
   by_cases h1:k<l.length
   ·have h3:(k:Int)<(l.length:Int):=by omega
    have h2:¬(k:Int)<40:=by omega
    have h4:¬(l.length:Int)<40:=by omega
    have J:decide ((l.length:Int)<40)=false:=jQ h4;rw[J]at G;clear I;go_wp2;go_ret;rw[G.out];exact⟨rfl,rfl⟩
   ·have h3:¬(k:Int)<(l.length:Int):=by omega
    clear I
    by_cases h4:(l.length:Int)<40
    ·have J:decide ((l.length:Int)<40)=true:=jQ h4;rw[J]at G;go_wp2;go_ret;rw[G.out];exact⟨rfl,rfl⟩
    ·have J:decide ((l.length:Int)<40)=false:=jQ h4;rw[J]at G;go_wp2;go_ret;rw[G.out];exact⟨rfl,rfl⟩
def fQ (x:Evt):Bool:=decide ((x.vals.length:Int)<=12)&&xR x.vals
def lh (l:List Evt):Bool:=(l.take 20).all fQ&&decide ((l.length:Int)<=12)
theorem yC {l:List Evt} (h:lh l=true):l.length<=12/\∀x∈l,x.vals.length<=12/\xR x.vals=true:=by
 unfold lh at h;rw[Lp]at h;have F:l.length<=12:=by have:=MA h.2;omega
 refine⟨F,fun x G=>?_⟩;have D:=h.1;rw[Mn (show l.length<=20 by omega),M7]at D;have z:=D x G;unfold fQ at z;rw[Lp]at z;have:=MA z.1;exact⟨by omega,z.2⟩
theorem BS (l:List Evt) (v:Value) (w:World) (hl:bm w v l) :
  Calls prog 30 #[v] w fun e w'=>e=.returned (.bool (lh l))/\w=w':=by
 obtain⟨A,c,rfl,h1,h2,O⟩:=hl;have hn:=ax h1 h2;have HL:=jD O;clear O h1 h2;go_enter func30,ntmps30;go_wp2
 go_loop [3] (fun i=>∃k:Nat,k<=l.length/\k<=20/\i=KW k/\Hid (∀(j:Nat) (x:Evt),l[j]?=some x->j<k->fQ x=true)) (fun i=>l.length-(intOf i).toNat)
 case atStart=>exact⟨0,Lb _,by omega,rfl,fun _ _ _ h=>absurd h om⟩
 case round =>
  obtain⟨k,hk,i',rfl,hi⟩:=hrel
  by_cases I:k<l.length/\k<20
  ·obtain⟨G,b'⟩:=I;obtain⟨b,o,rfl,v,hv,c0,c1,c2,c3,c4⟩:=HL.out k l[k] (K9 G);have z:=jD (K9 G);obtain⟨x,hx⟩:=jF (l[k]);rw[<-hx]at hv z;clear hx c0 c1 c2 c3;have HV:=jD hv;obtain⟨A',c',rfl,a',Z,-⟩:=hv;have j':=ax a' Z;clear a' Z;have k':(k:Int)<(l.length:Int):=by omega
   have h':(k:Int)<20:=by omega
   have bad:∀h:fQ x=false,lh l=false:=fun h=>by
    have:((l.take 20).all fQ)=false:=by
     rw[List.all_eq_false];refine⟨x,?_,by rw[h];simp⟩;have h7:(l.take 20)[k]?=some x:=by rw[NG,K7 b'];exact z.out
     exact Li h7
    simp only[lh,this,Mw]
   have d':=jD bad;clear bad
   by_cases hb:(x.vals.length:Int)<=12
   ·have g':¬12<(x.vals.length:Int):=by omega
    obtain⟨t,HT⟩:=eh (xR x.vals)
    cases t with
    | true =>
     have HB:Hid (fQ x=true):=jD (by unfold fQ;rw[HT.out];simpa using hb);go_wp2_with (go_at_call 67;refine (tN _ _ _ HV.out).mono ?_;rw[HT.out];rintro e w' ⟨rfl,rfl⟩)
     go_round
     case rel =>
      refine⟨k+1,by omega,by omega,by go_num,?_⟩;intro j y F f';rcases Nat.lt_or_eq_of_le (Nat.le_of_lt_succ f') with h|h
      ·exact hi j y F h
      ·subst h;rw[z.out]at F;injection F with F;subst F;exact HB.out
     case measure=>simp[intOf];omega
    | false =>
     have D:Hid (lh l=false):=jD (d'.out (by unfold fQ;rw[HT.out,MI]));go_wp2_with (go_at_call 67;refine (tN _ _ _ HV.out).mono ?_;rw[HT.out];rintro e w' ⟨rfl,rfl⟩);go_ret;rw[D.out];exact⟨rfl,rfl⟩
   ·have g':12<(x.vals.length:Int):=by omega
    have D:Hid (lh l=false):=jD (d'.out (by unfold fQ;rw[MC hb,Mw]));go_wp2;go_ret;rw[D.out];exact⟨rfl,rfl⟩
  ·have D:Hid (lh l=decide ((l.length:Int)<=12)):=jD (by
    have:((l.take 20).all fQ)=true:=by
     rw[M7];intro x hx;obtain⟨j,F⟩:=List.mem_iff_getElem?.1 hx;have e':=(List.getElem?_eq_some_iff.1 F).1;rw[Ml]at e';rw[NG,K7 om]at F;exact hi j x F om
    simp only[lh,this,L5])
   by_cases h1:k<l.length
   ·have h3:(k:Int)<(l.length:Int):=by omega
    have h2:¬(k:Int)<20:=by omega
    have h4:¬(l.length:Int)<=12:=by omega
    have J:decide ((l.length:Int)<=12)=false:=jQ h4;rw[J]at D;clear I;go_wp2;go_ret;rw[D.out];exact⟨rfl,rfl⟩
   ·have h3:¬(k:Int)<(l.length:Int):=by omega
    clear I
    by_cases h4:(l.length:Int)<=12
    ·have J:decide ((l.length:Int)<=12)=true:=jQ h4;rw[J]at D;go_wp2;go_ret;rw[D.out];exact⟨rfl,rfl⟩
    ·have J:decide ((l.length:Int)<=12)=false:=jQ h4;rw[J]at D;go_wp2;go_ret;rw[D.out];exact⟨rfl,rfl⟩
theorem CE (l:List Vl) (v1 v2:Value) (w:World) (h1:aV w v1 l) (h2:aV w v2 l) :
  KZ 33 #[v1,v2] w (.bool true):=by
 obtain⟨A1,c1,rfl,l1,m1,a1⟩:=h1;obtain⟨A2,c2,rfl,l2,m2,a2⟩:=h2;have hn:=ax l1 m1;have a':=jD a1;have J:=jD a2;clear a1 a2 l1 l2 m1 m2;go_enter func33,ntmps33;go_wp2
 go_loopw [13] (fun i wr=>∃k:Nat,k<=l.length/\i=KW k/\KY w wr) (fun i _=>l.length-(intOf i).toNat)
 case atStart=>exact⟨0,Lb _,rfl,La _ _⟩
 case round =>
  obtain⟨k,hk,rfl,h⟩:=hrel
  by_cases I:k<l.length
  ·obtain⟨F,G,rfl,p0,p1,p2⟩:=a'.out k l[k] (K9 I);obtain⟨z,D,rfl,Z,O,q2⟩:=J.out k l[k] (K9 I);replace p0:=aa h p0;replace p1:=aa h p1;replace p2:=aa h p2;replace Z:=aa h Z;replace O:=aa h O;replace q2:=aa h q2;have f':(k:Int)<(l.length:Int):=by omega
   obtain⟨x,hx⟩:=jF (l[k]);rw[<-hx]at p0 p1 p2 Z O q2;clear hx;have he:=fun W=>Gf x W
   unfold vlV at he;go_wp2_with fail;refine bF (fun W=>W.cell? ⟨F,G+k*3,none⟩=some (KW x.kind)/\W.cell? ⟨F,G+k*3+1,none⟩=some (KW x.num)/\W.cell? ⟨F,G+k*3+2,none⟩=some (.string x.text)/\W.cell? ⟨z,D+k*3,none⟩=some (KW x.kind)/\W.cell? ⟨z,D+k*3+1,none⟩=some (KW x.num)/\W.cell? ⟨z,D+k*3+2,none⟩=some (.string x.text)) (by repeat (first|exact aG _ _ _|exact aH|refine aN ?_ ?_)) kr kr ?hF ?_;(case hF=>(first|exact⟨‹_›,‹_›⟩|(go_simp;done)|(simp[*];done)|(repeat' (first|(refine And.intro ?_ ?_)|(go_simp;done)|exact aa (aJ (La _ _) _) (by assumption)|assumption))));intro b' e';have hG:Hid (Grows (fun W=>W.cell? ⟨F,G+k*3,none⟩=some (KW x.kind)/\W.cell? ⟨F,G+k*3+1,none⟩=some (KW x.num)/\W.cell? ⟨F,G+k*3+2,none⟩=some (.string x.text)/\W.cell? ⟨z,D+k*3,none⟩=some (KW x.kind)/\W.cell? ⟨z,D+k*3+1,none⟩=some (KW x.num)/\W.cell? ⟨z,D+k*3+2,none⟩=some (.string x.text))):=(by repeat (first|exact aG _ _ _|exact aH|refine aN ?_ ?_));(repeat (go_big_quiet_step (fail)));clear hG e' b';refine wpQuiet_nil ?_;rintro _ ⟨⟨w',d',c'⟩,rfl⟩;clear c' he;go_wp2
   go_roundw
   case rel=>exact⟨k+1,by omega,by go_num,ab h d'⟩
   case measure=>simp[intOf];omega
  ·go_wp2;go_ret;exact⟨rfl,h⟩
theorem CH (d:Nat) (q:Qry) (l:List Evt) (key:Vl) (vv vk va vc vr vl:Value) (w:World) (hq:QryIs d w q vv vk va vc vr) (hl:bm w vl l) (S':∀e∈l,∀x∈e.vals,gV x) (hB:ptB q.pat<=1048576) (hS:Shp w) (hT:Tbl w) (hL:Lx w) :
  KZ 6 #[dO q vv vk va vc vr,vl,vlV key] w (.bool true):=by
 have g':=jD (fun (W:World) (h:KY w W)=>wg W (hS.stays h) (hT.stays h) (hL.stays h));have b':=jD (fun (W:World) (h:KY w W)=>CI d q.pat va vc W (hq.args.stays (aB d) h) (hq.cond.stays (ai d) h) hB);have L':=jD (fun (W:World) (h:KY w W)=>BS l vl W (hl.stays aK h));have G:Hid (lh l=true->∀W,KY w W->PartAsk d W q l vv vk va vc vr vl):=jD fun hf W h=>⟨hS.stays h,hq.stays h,hl.stays aK h,hB,S',fun e he=>by have:=((yC hf).2 e he).1;omega⟩
 have d':Hid (lh l=true->∀W,KY w W->_):=jD fun hf W h=>C0 d q l vv vk va vc vr vl W (G.out hf W h)
 have a':Hid (lh l=true->∀W,KY w W->_):=jD fun hf W h=>zj d q l vv vk va vc vr vl W (G.out hf W h)
 have I:Hid (lh l=true->∀W,KY w W->_):=jD fun hf W h=>wI d q l key vv vk va vc vr vl W (G.out hf W h)
 have F:Hid (lh l=true->∀W,KY w W->_):=jD fun hf W h=>ug d q l key vv vk va vc vr vl W (G.out hf W h)
 obtain⟨⟨ks,se⟩,hR⟩:∃r,((aZ q l).1.1,(aZ q l).2)=r:=⟨_,rfl⟩;obtain⟨⟨S,sf⟩,A'⟩:∃r,iS q l key=r:=⟨_,rfl⟩;obtain⟨fp,p'⟩:∃t,I8 q.pat=t:=⟨_,rfl⟩;obtain⟨fe,R'⟩:∃t,lh l=t:=⟨_,rfl⟩;rw[hR]at d' a';rw[A']at I F;rw[p']at b';rw[R']at L' d' a' I F;have H0:=Jm hq.key;obtain⟨Av,cv,rfl,-⟩:=id hq.vars;obtain⟨Ak,ck,rfl,-⟩:=id hq.key;obtain⟨Aa,ca,rfl,-⟩:=id hq.args;obtain⟨Ac,cc,rfl,-⟩:=id hq.cond;obtain⟨Ar,cr,rfl,-⟩:=id hq.rets;obtain⟨Al,cl,rfl,-⟩:=id hl;clear hR A' p' R' hq hl S' hB hS hT hL G;unfold dO at d' a' I F ⊢;unfold vlV at I F ⊢;unfold ptV at b';go_enter func6,ntmps6;go_wp2_with (refine tz 31 (.tmp 15) rfl ?_);refine⟨tV fun w1 e1=>?_⟩;obtain⟨Q,n'⟩:∃q,q=w.heap.size:=⟨_,rfl⟩;obtain⟨C,j'⟩:∃q,q=w.heap.size+1:=⟨_,rfl⟩;have hQ:w1.heap[Q]?=some (.cells [.string q.nm,.slice Av q.vars.length cv,.slice Ak q.key.length ck,.int .i64 q.pat.op,.slice Aa q.pat.args.length ca,.int .i64 q.pat.ty,.int .i64 q.pat.vr,.int .i64 q.pat.sc,.int .i64 q.pat.sp,.int .i64 q.pat.cond.op,.slice Ac q.pat.cond.args.length cc,.int .i64 q.pat.cond.vr,.int .i64 q.pat.cond.fl,.int .i64 q.pat.cond.kd,.int .i64 q.pat.cond.val.kind,.int .i64 q.pat.cond.val.num,.string q.pat.cond.val.text,.slice Ar q.rets.length cr].toArray 33 (0,0)):=by rw[e1];exact aE (ap _ _ _ n')
 have hC:w1.heap[C]?=some (.cells [.int .i64 key.kind,.int .i64 key.num,.string key.text].toArray 27 (0,0)):=by rw[e1,j'];exact ap _ _ _ jS
 have E':KY w w1:=gb e1;have r':=jD (Iz (p:=[KW q.pat.op,.slice Aa q.pat.args.length ca,KW q.pat.ty,KW q.pat.vr,KW q.pat.sc,KW q.pat.sp,KW q.pat.cond.op,.slice Ac q.pat.cond.args.length cc,KW q.pat.cond.vr,KW q.pat.cond.fl,KW q.pat.cond.kd,KW q.pat.cond.val.kind,KW q.pat.cond.val.num,.string q.pat.cond.val.text]) hQ);rw[<-j',<-n'];have m':=jD E';have t':=jD hQ;have D':=jD hC;clear e1 n' j' hQ hC E';go_wp2_with (refine wpList_load_mid rfl 31 (.tmp 15) rfl Q 3 rfl [KW q.pat.op,.slice Aa q.pat.args.length ca,KW q.pat.ty,KW q.pat.vr,KW q.pat.sc,KW q.pat.sp,KW q.pat.cond.op,.slice Ac q.pat.cond.args.length cc,KW q.pat.cond.vr,KW q.pat.cond.fl,KW q.pat.cond.kd,KW q.pat.cond.val.kind,KW q.pat.cond.val.num,.string q.pat.cond.val.text] _ r'.out underlying31 rfl kr ?_);refine (b'.out _ m'.out).mono ?_;rintro e w2 ⟨rfl,Z⟩;have z:=jD (ab m'.out Z);have c':=jD (ao Z t'.out);have z':=jD (ao Z D'.out);clear Z r' t' D' m' b'
 cases fp with
 | false =>
  go_wp2_with fail;refine (g'.out _ z.out).mono ?_;rintro e wz ⟨rfl,O⟩;exact fi (ab z.out O)
 | true =>
 go_wp2_with fail;refine (L'.out _ z.out).mono ?_;rintro e w3 ⟨rfl,rfl⟩
 cases fe with
 | false =>
  go_wp2_with fail;refine (g'.out _ z.out).mono ?_;rintro e wz ⟨rfl,O⟩;exact fi (ab z.out O)
 | true =>
 have y2:KX w2 Q 2 (.slice Ak q.key.length ck):=af c'.out 2
 by_cases g1:20<q.key.length
 ·have X':(20:Int)<(q.key.length:Int):=by omega
  clear g1;go_wp2_with fail;refine (g'.out _ z.out).mono ?_;rintro e wz ⟨rfl,O⟩;exact fi (ab z.out O)
 have X':¬(20:Int)<(q.key.length:Int):=by omega
 clear g1;go_wp2_with (refine Md rfl 33 (.tmp 3) rfl Q rfl 33 [.string q.nm,.slice Av q.vars.length cv,.slice Ak q.key.length ck,KW q.pat.op,.slice Aa q.pat.args.length ca,KW q.pat.ty,KW q.pat.vr,KW q.pat.sc,KW q.pat.sp,KW q.pat.cond.op,.slice Ac q.pat.cond.args.length cc,KW q.pat.cond.vr,KW q.pat.cond.fl,KW q.pat.cond.kd,KW q.pat.cond.val.kind,KW q.pat.cond.val.num,.string q.pat.cond.val.text,.slice Ar q.rets.length cr].toArray (0,0) _ c'.out underlying33 rfl bM ?_);refine (d'.out (by trivial) _ z.out).mono ?_;rintro e w3 ⟨v3,rfl,F',h'⟩;have y':=jD F';obtain⟨A3,c3,rfl,-⟩:=F';have M':=jD (ab z.out h');have k':=jD (ao h' c'.out);have J':=jD (ao h' z'.out);clear h' c' z' y2;go_wp2_with (refine Md rfl 33 (.tmp 3) rfl Q rfl 33 [.string q.nm,.slice Av q.vars.length cv,.slice Ak q.key.length ck,KW q.pat.op,.slice Aa q.pat.args.length ca,KW q.pat.ty,KW q.pat.vr,KW q.pat.sc,KW q.pat.sp,KW q.pat.cond.op,.slice Ac q.pat.cond.args.length cc,KW q.pat.cond.vr,KW q.pat.cond.fl,KW q.pat.cond.kd,KW q.pat.cond.val.kind,KW q.pat.cond.val.num,.string q.pat.cond.val.text,.slice Ar q.rets.length cr].toArray (0,0) _ k'.out underlying33 rfl bM ?_);refine (a'.out (by trivial) _ M'.out).mono ?_;rintro e w4 ⟨v4,rfl,u',J⟩;have N':=jD u'
 obtain⟨A4,c4,rfl,-⟩:=u';have A0:=jD (fun (W:World) (h:KY w4 W)=>CE ks _ _ W (y'.out.stays aC (ab J h)) (N'.out.stays aC h));have P':=jD (ab M'.out J);have l':=jD (ao J k'.out);have e':=ao J J'.out;have x0:KX w4 C 0 (KW key.kind):=af e' 0;have x1:KX w4 C 1 (KW key.num):=af e' 1;have x2:KX w4 C 2 (.string key.text):=af e' 2;clear J k' J' e' y' N';go_wp2_with (refine Md rfl 33 (.tmp 3) rfl Q rfl 33 [.string q.nm,.slice Av q.vars.length cv,.slice Ak q.key.length ck,KW q.pat.op,.slice Aa q.pat.args.length ca,KW q.pat.ty,KW q.pat.vr,KW q.pat.sc,KW q.pat.sp,KW q.pat.cond.op,.slice Ac q.pat.cond.args.length cc,KW q.pat.cond.vr,KW q.pat.cond.fl,KW q.pat.cond.kd,KW q.pat.cond.val.kind,KW q.pat.cond.val.num,.string q.pat.cond.val.text,.slice Ar q.rets.length cr].toArray (0,0) _ l'.out underlying33 rfl bM ?_);refine (I.out (by trivial) _ P'.out).mono ?_;rintro e w5 ⟨v5,rfl,B',D⟩;have x':=jD B';obtain⟨A5,c5,rfl,-⟩:=B';have H':=jD D;have s':=jD (ab P'.out D);have O':=jD (ao D l'.out);replace x0:=aa D x0;replace x1:=aa D x1;replace x2:=aa D x2;clear D l'
 go_wp2_with (refine Md rfl 33 (.tmp 3) rfl Q rfl 33 [.string q.nm,.slice Av q.vars.length cv,.slice Ak q.key.length ck,KW q.pat.op,.slice Aa q.pat.args.length ca,KW q.pat.ty,KW q.pat.vr,KW q.pat.sc,KW q.pat.sp,KW q.pat.cond.op,.slice Ac q.pat.cond.args.length cc,KW q.pat.cond.vr,KW q.pat.cond.fl,KW q.pat.cond.kd,KW q.pat.cond.val.kind,KW q.pat.cond.val.num,.string q.pat.cond.val.text,.slice Ar q.rets.length cr].toArray (0,0) _ O'.out underlying33 rfl bM ?_);refine (F.out (by trivial) _ s'.out).mono ?_;rintro e w6 ⟨v6,rfl,I',f'⟩;have C':=jD I';obtain⟨A6,c6,rfl,-⟩:=I';have Z':=jD (fun (W:World) (h:KY w6 W)=>Cc S _ _ W (x'.out.stays aK (ab f' h)) (C'.out.stays aK h));have G':=jD (ab H'.out f');have V':=jD (ab s'.out f');clear f' O' x' C' x0 x1 x2;have N0:(se==se)=true:=by simp
 have K0:(sf==sf)=true:=by simp
 go_wp2_with fail;refine (A0.out _ G'.out).mono ?_;rintro e w7 ⟨rfl,q'⟩;have i':=jD q';clear q';go_wp2_with fail;refine (Z'.out _ i'.out).mono ?_;rintro e w8 ⟨rfl,T'⟩;have U':=jD (ab V'.out (ab i'.out T'));clear T';go_wp2_with fail;refine (g'.out _ U'.out).mono ?_;rintro e w9 ⟨rfl,Y'⟩;exact fi (ab U'.out Y')
end Go.Proofs.YtokconodddedhaaGreatDoor
