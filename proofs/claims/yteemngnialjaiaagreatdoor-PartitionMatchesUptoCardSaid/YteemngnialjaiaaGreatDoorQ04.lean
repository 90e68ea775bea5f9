/- Part. -/
import Derived.Lib.LaidTab
import Derived.Lib.AppendIntMem
import Derived.OwnWalk
import Derived.Lib.SliceRun
import Derived.Shelf.Abstract
import Derived.SevenTiedAt
import Derived.OpenShut
import Derived.Deep.Slices
import Derived.LaidMore
import Derived.Stop.LaidErr
import Derived.Stop.Joined
import Derived.Test.YteemngnialjaiaaGreatDoorQ03
import Derived.Maps.OwnSet
import Derived.DeepKeys4
import Derived.MapViews
set_option maxRecDepth 100000
set_option maxHeartbeats 16000000
set_option linter.unusedVariables false
set_option linter.unusedSimpArgs false
namespace Go.Proofs.YteemngnialjaiaaGreatDoor
open Go.Proofs.Tryz Go.RowKit
variable {α H:Type}{k b base j:Nat}{E e:Int}{a:Act}{r row:Option Nat}{w w' W:World}{v:Value}{xs:List Value}{P:Program}{spare:Nat->Bool}{held:Bool}{s:ByteArray}{y:DataW Unit×List MemPlace}{pre l:List Evt}{x:Evt}{ops:Array Oper}{o:Oper}{Q:Exit->Act->World->Prop}{p:Prop}
section
def eu{α:Type}(f:Option α->α->Int):Option α->List α->Int
 | _,[]=>0
 | p,x::l=>if f p x=0 then eu f (some x) l else f p x
def jw{α:Type}(l:List α):Nat->Option α
 | 0=>none
 | k+1=>l[k]?
theorem sC{l:List α}{x:α}(h0:k≠0)(h:l[k-1]?=some x):jw l k=some x:=by
 cases k with
 | zero=>omega
 | succ k=>exact h
section
variable {f:Option α->α->Int}{l:List α}{x:α}
theorem nN(I:l[k]?=some x)(h:eu f (jw l k) (l.drop k)=E)(he:f (jw l k) x=e)(h0:e≠0):e=E:=by
 obtain⟨h1,rfl⟩:=List.getElem?_eq_some_iff.1 I;rw[PE h1,eu,OF (by rw[he];exact h0),he]at h;exact h
theorem uZ(J:l[k]?=some x)(h:eu f (jw l k) (l.drop k)=E)(he:f (jw l k) x=0):eu f (jw l (k+1)) (l.drop (k+1))=E:=by
 have I:=J;obtain⟨h1,rfl⟩:=List.getElem?_eq_some_iff.1 J;rw[PE h1,eu,OG he]at h;rw[jw,I];exact h
theorem GG(hk:l.length<=k)(h:eu f (jw l k) (l.drop k)=E):0=E:=by
 rw[RD hk,eu]at h;exact h
end
def behind(p:Option Bnd)(b:Bnd):Bool:=match p with|none=>true|some a=>decide (dA a b<0)
end
section
def MQ(e sz n:Nat)(cs:List Value)(w:World)(x:Ending)(w':World):Prop:=∃v',x=.returned v'/\w'.ownsRow w.heap.size e sz v' n cs/\OD w w'
theorem GK:(prog.info? 82).map (fun i=>(i.zero,i.size,i.bytes))=some (some (.agg #[OB 0,OB 0,OB 0,OB 0]),4,32):=kr
theorem yW:(prog.info? 58).map (fun i=>(i.zero,i.size,i.bytes))=some (some (.agg #[.slice none 0 0]),1,24):=kr
theorem kn(g:Nat):∀(Z:List Value)(o:Nat)(w:World),w.grownBy (w.setCells g o Z) (some g)
 | [],_,w=>World.grownBy.refl w _
 | z::Z,o,w=>by
  have h1:w.grownBy (w.setCell ⟨g,o,none⟩ z) (some g):=⟨rfl,rfl,rfl,by simp,fun k hk h=>Qq w _ z k (by intro e;exact h (by rw[e]))⟩;have I:=kn g Z (o+1) (w.setCell ⟨g,o,none⟩ z);exact⟨I.os.trans h1.os,I.tape.trans h1.tape,I.output.trans h1.output,OP h1.size I.size,fun k hk h=>(I.block k (OT hk h1.size) h).trans (h1.block k hk h)⟩
theorem dt{a b c:World}(h:a.grownBy b r)(k:b.grownBy c r):a.grownBy c r :=
 ⟨k.os.trans h.os,k.tape.trans h.tape,k.output.trans h.output,OP h.size k.size,fun i J I=>(k.block i (OT J h.size) I).trans (h.block i J I)⟩
theorem aE{a b:World}(h:OD a b)(r:Option Nat):a.grownBy b r:=⟨h.os,h.tape,h.output,h.size,fun i I _=>h.block i I⟩
theorem DI(w:World)(g o:Nat)(v:Value):w.grownBy (w.setCell ⟨g,o,none⟩ v) (some g):=kn g [v] o w
def Tab(w:World):Prop:=Lib.TabIs prog w "internal/strconv.uint64pow10" .u64 Lib.pow10Tab
theorem Tab.stays(h:Tab w)(I:OD w w'):Tab w':=Lib.tabBelow_of_tabIs h w' I
theorem CN{e sz n:Nat}(h:W.ownsRow base e sz v n xs) :
  (v=.slice none 0 0/\n=0)\/∃g cap spare,v=.slice (some ⟨g,0,none⟩) n cap/\base<=g/\W.heap[g]?=some (.cells (xs++spare).toArray e (0,0))/\n<=cap/\cap<=maxLen/\(xs++spare).length=cap*sz/\xs.length=n*sz:=by
 rcases h.2 with h0|⟨g,cap,cur,hv,hg,hh,hnc,hcm,hcs,htake⟩
 ·exact .inl h0
 ·have I:cur.toList=xs++cur.toList.drop (n*sz):=by rw[<-htake,QT]
  refine .inr ⟨g,cap,cur.toList.drop (n*sz),hv,hg,by rw[<-I];exact hh,hnc,hcm,by rw[<-I];simpa using hcs,h.1⟩
section
open Go.RowKit Go.Shelf
abbrev MV:=List Bnd × Value
theorem Dz{l:List MV}{e:MV}(h:l[k]?=some e)(r:List Value):(l.map (·.2)++r)[k]?=some e.2:=by
 rw[Ph (by rw[OL];exact (List.getElem?_eq_some_iff.1 h).1),OQ,h];rfl
end
section
open Go.RowKit Go.Shelf
end
section
open Go.ChangeShapes Go.WideShapes Go.ChangeAt Go.RowKit Go.Deep
theorem kf{α:Type}(I:Nat->α->Prop):∀(n:Nat),(∀i,i<n->∃x,I i x)->∃l:List α,l.length=n/\∀(k:Nat)(x:α),l[k]?=some x->I k x
 | 0,_=>⟨[],rfl,fun k x h=>by simp at h⟩
 | n+1,h=>by
  obtain⟨l,Z,hp⟩:=kf I n (fun i hi=>h i om);obtain⟨x,hx⟩:=h n om;refine⟨l++[x],by simp[Z],fun k y hk=>?_⟩;rcases PT k l.length with h1|h1
  ·rw[Ph h1]at hk;exact hp k y hk
  ·rw[Pz h1]at hk;obtain⟨h2,J⟩:=List.getElem?_eq_some_iff.1 hk;simp only[O0]at h2;obtain rfl:k=n:=by omega
   simp at J;subst J;exact hx
section
variable {enc:TypeId×Value->H}
end
section
variable {enc:TypeId×Value->H}
end
end
end
theorem JU:laidOutB prog=true:=kr
theorem CZ:(match prog.underlying 148 with|some (.array _ _)|some (.struct _)=>true|_=>false)=true:=kr
theorem N9:(148:TypeId)<prog.types.size:=Pe kr
theorem Oq:prog.keyTypeAt 2 148=true:=kr
theorem uC:Maps.Keyed prog 148:=Maps.Keyed.of_law (deep_law_laid JU (m:=2) om N9 Oq CZ)
theorem Jg:prog.keyTypeAt (prog.types.size+1) 148=true:=kr
theorem yg:prog.cellsOf 148=2:=kr
theorem JW:prog.cellsOf 3=1:=kr
def idV(s q:Int):Value:=.agg #[OB s,OB q]
theorem Gh(w:World){s q:Int}(h1:(Lit.int .i64 s).wf=true)(I:(Lit.int .i64 q).wf=true):∃l,keyOf prog 148 (idV s q)=some l :=
 ⟨_,(keyOf_asKey (H:=Unit) (enc:=fun _=>()) (w:=w) (base:=0) (sp:=fun _=>true) (held:=true) (d:=.agg [.lit (.int .i64 s),.lit (.int .i64 q)]) (ps:=[]) Jg CZ (by have h:=yg;simp[idV,Value.formed,underlying148];exact h.symm)
  ⟨3,by have h:=yg;simp[idV,DataW.trod,Value.cells,underlying148,underlying3,JW,h1,I];exact h.symm⟩).1⟩
def Du:Value->Option (DataW Unit × List MemPlace)
 | .bool true=>some (.lit (.bool true),[])
 | _=>none
theorem xu(h:Du v=some y):v=.bool true:=by
 unfold Du at h
 split at h
 ·rfl
 ·cases h
def Seen(w:World)(b n:Nat)(pre:List Evt):Prop:=∃D,w.ownsMap prog 148 Du b n D /\
 ∀(x:Evt) l,keyOf prog 148 (idV x.src x.sq)=some l->Maps.has D l=pre.any (dS x)
theorem Seen.kept{n:Nat}(h:Seen w b n pre)(Z:w.grownBy w' row)(I:some b≠row):Seen w' b n pre:=by
 obtain⟨D,h1,J⟩:=h;exact⟨D,h1.kept Z I,J⟩
theorem Seen.lt{n:Nat}(h:Seen w b n pre):b<w.heap.size:=by
 obtain⟨D,h1,_⟩:=h;exact h1.lt
theorem Seen.below{n:Nat}(h:Seen w b n pre)(I:OD w w'):Seen w' b n pre :=
 h.kept (aE I none) jS
theorem Fb(w:World):Seen (w.alloc (.map #[] 0)) w.heap.size 0 [] :=
 ⟨_,World.ownsMap_made w _ _ _,fun _ _ _=>rfl⟩
theorem kZ(h:bY x=true):(Lit.int .i64 x.src).wf=true/\(Lit.int .i64 x.sq).wf=true:=by
 unfold bY at h;rw[OW]at h;exact⟨WalkArith.wf_i64 om,WalkArith.wf_i64 om⟩
theorem LP(w:World):(zeroValue 4).run prog w=.ok (.bool false) w:=kr
theorem Seen.look{n:Nat}(h:Seen w b n pre)(hx:bY x=true) :
  (Instr.lookup 144 (.map (some b)) (idV x.src x.sq) false).run prog w=.ok (.bool (pre.any (dS x))) w:=by
 obtain⟨D,⟨es,clock,hb,F,_,rfl⟩,h2⟩:=h;obtain⟨l,hl⟩:=Gh w (kZ hx).1 (kZ hx).2;have Z:=h2 x l hl;rcases Maps.fit_look false uC underlying144 (LP w) hb F hl with ⟨I,_,J⟩|⟨e0,y,_,_,I,hRv,J,_⟩
 ·rw[Maps.has_false_of_atKey J]at Z;rw[<-Z];exact I
 ·rw[Maps.has_true_of_atKey J]at Z;rw[<-Z];have:=xu hRv;rw[this]at I;exact I
theorem Seen.store{n:Nat}(h:Seen w b n pre)(Z:bY x=true)(hn:n<maxLen) :
  ∃w',(Instr.mapUpdate 144 (.map (some b)) (idV x.src x.sq) (.bool true)).run prog w=.ok () w'/\Seen w' b (n+1) (pre++[x])/\w.grownBy w' (some b):=by
 obtain⟨D,h1,h2⟩:=h;obtain⟨l,J⟩:=Gh w (kZ Z).1 (kZ Z).2;obtain⟨w',I,r1,r2⟩:=h1.update uC underlying144 hn J (val:=.bool true) (d:=.lit (.bool true)) (ps:=[]) rfl;refine⟨w',I,⟨_,r1,fun y m hm=>?_⟩,r2⟩;have h3:=h2 y m hm;rw[List.any_append,List.any_cons,List.any_nil,Bool.or_false,<-h3]
 by_cases e:m=l
 ·subst e;have:=uC.inj hm J;unfold idV at this;simp only[Value.agg.injEq,Array.mk.injEq,PJ,Value.int.injEq,true_and,PU]at this;rw[Maps.has_put_same h1.isMap (uC.key hm)];simp[dS,this.1,this.2]
 ·rw[Maps.has_put_other e];have ht:dS y x=false:=by
   unfold dS;rw[PK];rintro⟨e1,e2⟩;rw[e1,e2]at hm;exact e (Pn (hm.symm.trans J))
  rw[ht,Bool.or_false]
theorem dW(w:World){rest:List Oper}(hg:o.guard=none)(m x:Operand)(J:o.op=Op.lookup 144 m x false)(b n:Nat)(pre:List Evt)(y:Evt)(hm:a.eval m=.map (some b))(h:Seen w b n pre)(hx:a.eval x=idV y.src y.sq)(hy:bY y=true)(hK:wpList prog ops Q rest (a.put o.dst (.bool (pre.any (dS y)))) w):wpList prog ops Q (o::rest) a w:=by
 refine wpList_plain hg fun K' Z=>?_
 have I:=h.look hy;unfold Oper.wp;simp[execOp,J,hm,hx,I,Result.andThen];exact Z _ _ hK
theorem iE(w:World){rest:List Oper}(hg:o.guard=none)(m x v:Operand)(J:o.op=Op.mapUpdate 144 m x v)(b n:Nat)(pre:List Evt)(y:Evt)(hm:a.eval m=.map (some b))(h:Seen w b n pre)(hx:a.eval x=idV y.src y.sq)(hv:a.eval v=.bool true)(hy:bY y=true)(hn:n<maxLen)(hK:∀w',Seen w' b (n+1) (pre++[y])->w.grownBy w' (some b)->wpList prog ops Q rest (a.put o.dst undef) w'):wpList prog ops Q (o::rest) a w:=by
 refine wpList_plain hg fun K' Z=>?_
 obtain⟨w',I,r1,r2⟩:=h.store hy hn;unfold Oper.wp;simp[execOp,J,hm,hx,hv,I,Result.andThen];exact Z _ _ (hK w' r1 r2)
theorem mB{l:List α}(hk:k<=l.length):(l.take k).getLast?=jw l k:=by
 cases k with
 | zero=>rfl
 | succ k =>
  have h:k<l.length:=by omega
  rw[dz (OH h),List.getLast?_concat];exact (OH h).symm
theorem ig(I:l[k]?=some x)(h:cO (l.take k) (l.drop k)=E)(he:evE (l.take k) x=e)(h0:e≠0):e=E:=by
 obtain⟨h1,rfl⟩:=List.getElem?_eq_some_iff.1 I;rw[PE h1,cO,OF (by rw[he];exact h0),he]at h;exact h
theorem uT(J:l[k]?=some x)(h:cO (l.take k) (l.drop k)=E)(he:evE (l.take k) x=0):cO (l.take (k+1)) (l.drop (k+1))=E:=by
 have I:=J;obtain⟨h1,rfl⟩:=List.getElem?_eq_some_iff.1 J;rw[PE h1,cO,OG he]at h;rw[dz I];exact h
theorem Cc(hk:l.length<=k)(h:cO (l.take k) (l.drop k)=E):0=E:=by
 rw[RD hk,cO]at h;exact h
theorem Mb(h:bY x=false):evE pre x=2:=OG h
theorem Gi{p:Evt}(h:bY x=true)(hk:k<=l.length)(h0:k≠0)(hp:l[k-1]?=some p)(hr:0<=dA (dC p) (dC x)):evE (l.take k) x=14:=by
 unfold evE;rw[OF (by simp[h]),OG];unfold iD;rw[mB hk,sC h0 hp]
 simpa using hr
theorem yH{p:Evt}(hk:k<=l.length)(h0:k≠0)(hp:l[k-1]?=some p)(hr:dA (dC p) (dC x)<0):iD (l.take k) x=false:=by
 unfold iD;rw[mB hk,sC h0 hp]
 simpa using hr
theorem rL(h0:k=0):iD (l.take k) x=false:=by subst h0;rfl
theorem Im(h:bY x=true)(I:iD pre x=false)(J:pre.any (dS x)=true):evE pre x=7:=by
 unfold evE;rw[OF (by simp[h]),OF (by simp[I]),OG J]
theorem Dn(h:bY x=true)(I:iD pre x=false)(J:pre.any (dS x)=false):evE pre x=0:=by
 unfold evE;rw[OF (by simp[h]),OF (by simp[I]),OF (by simp[J])]
theorem uam(h:p:=by
  have h':=jD (x'.out.below c');have m':=jD (ae f'.out c');have t':wr.heap.size<wq.heap.size:=OT z' c'.size;clear c' y0 y1 y2 y3 y4
  by_cases a':(l.take k).any (dS x)=true
  ·have Z:=jD a';clear a';go_wp2_with (first|(go_at_call 71;refine (mH _ _ _ _ _ _ _ _).mono ?_;rintro e w6 ⟨rfl,h⟩)|(at_lookup;refine dW _ rfl _ _ rfl w.heap.size k (l.take k) x rfl (h'.out.below h.below) rfl HP.out ?_;rw[Z.out]));go_ret;exact⟨de (ig J.out hi.out.1 (Im HP.out k'.out Z.out) dc),ae m'.out h.below⟩
  ·rw[RX]at a';have Z:=jD a';clear a';go_wp2_with (first|(go_at_call 71;refine (mH _ _ _ _ _ _ _ _).mono ?_;rintro e w6 ⟨rfl,h⟩)|(at_lookup;refine dW _ rfl _ _ rfl w.heap.size k (l.take k) x rfl (h'.out.below h.below) rfl HP.out ?_;rw[Z.out];have C':=jD (h'.out.below h.below);have q':=jD (ae m'.out h.below);replace z0:=aa h.below z0;replace z1:=aa h.below z1;replace z2:=aa h.below z2;replace z3:=aa h.below z3;replace z4:=aa h.below z4;have N':=OT t' h.below.size;clear h)|(at_mapUpdate;refine iE _ rfl _ _ _ rfl w.heap.size k (l.take k) x rfl (C'.out.below h.below) rfl rfl HP.out (by unfold maxLen;omega) ?_;intro w7 B' n'))
   go_roundw
   case rel =>
    refine⟨k+1,by omega,by go_num,jD ⟨uT J.out hi.out.1 (Dn HP.out k'.out Z.out),by rw[dz J.out];exact B'⟩,?_,?_⟩
    ·exact (ae q'.out h.below).trans (aB n' (ae q'.out h.below).size (fun g hg=>by injection hg with hg;omega))
    ·have:=n'.size;have:=h.below.size;omega
   case measure=>simp[intOf];omega):p:=h
theorem rB(l:List Evt)(v:Value)(w:World)(hl:cH w v l) :
  OE 30 #[v] w (OB (bN l)):=by
 unfold bN;obtain⟨A,c,rfl,h1,h2,H'⟩:=hl;have hn:=aP h1 h2;have HL:=jD H';clear H' h1 h2
 by_cases hm:4096<l.length
 ·rw[OG hm];have J':(4096:Int)<(l.length:Int):=by omega
  go_enter func30,ntmps30;go_wp2;go_ret;exact⟨rfl,jB⟩
 rw[OF hm];have J':¬(4096:Int)<(l.length:Int):=by omega
 have R':=@run_makeMap prog;have HM:=jD hm;clear hm;go_enter func30,ntmps30;go_wp2_with fail
 go_loopw [12] (fun i wr=>∃k:Nat,k<=l.length/\i=OB k/\Hid (cO (l.take k) (l.drop k)=cO [] l/\Seen wr w.heap.size k (l.take k))/\OD w wr/\w.heap.size<wr.heap.size) (fun i _=>l.length-(intOf i).toNat)
 case atStart=>exact⟨0,OO _,rfl,jD ⟨rfl,Fb w⟩,jB,by simp⟩
 case round =>
  clear R';obtain⟨k,hk,rfl,hi,hb,U'⟩:=hrel
  by_cases D':k<l.length
  ·have I':(k:Int)<(l.length:Int):=by omega
   obtain⟨b,o,rfl,vv,T',c0,c1,c2,c3,c4⟩:=HL.out k l[k] (OH D');replace c0:=aa hb c0;replace c1:=aa hb c1;replace c2:=aa hb c2;replace c3:=aa hb c3;replace c4:=aa hb c4;obtain⟨A1,cx,rfl,-⟩:=T';have G':b<wr.heap.size:=OV wr ⟨b,_,none⟩ c0;have F':b≠wr.heap.size:=by omega
   have r':wr.heap.size≠b:=by omega
   have J:=jD (OH D');obtain⟨x,hx⟩:=jF (l[k]);rw[<-hx]at J c0 c1 c2 c3 c4;clear hx;have d':∀W,Calls prog 69 #[.agg #[OB x.src,OB x.sq,OB x.ty,OB x.tm,.slice A1 x.vals.length cx]] W fun e w'=>e=.returned (.bool (bY x))/\Gr W w':=fun W=>tT x A1 _ cx W _ rfl
   by_cases hp:bY x=false
   ·have HP:=jD hp;rw[hp]at d';have d':=jD d';clear hp;go_wp2_with (go_at_call 69;refine (d'.out _).mono ?_;rintro e w3 ⟨rfl,P'⟩);go_ret;exact⟨de (ig J.out hi.out.1 (Mb HP.out) dc),ae hb (ae (ay _ _) P'.below)⟩
   rw[Bool.not_eq_false]at hp;rw[hp]at d';have d':=jD d';have HP:=jD hp;clear hp
   by_cases j':k=0
   ·have k':Hid (iD (l.take k) x=false):=jD (rL j');have d1:decide (0<k)=false:=by simp[j']
    have d2:decide ((0:Int)<(k:Int))=false:=by simp[j']
    clear j';go_wp2_with fail;refine aJ fun W9 e9=>?_
    have y0:OC W9 wr.heap.size 0 (OB x.src):=jG e9;have y1:OC W9 wr.heap.size 1 (OB x.sq):=jG e9;have y2:OC W9 wr.heap.size 2 (OB x.ty):=jG e9;have y3:OC W9 wr.heap.size 3 (OB x.tm):=jG e9;have y4:OC W9 wr.heap.size 4 (.slice A1 x.vals.length cx):=jG e9;have l':OD wr W9:=gb e9;have p':wr.heap.size<W9.heap.size:=by rw[e9];simp
    clear e9;refine (d'.out _).mono ?_;rintro e w4 ⟨rfl,I⟩;replace I:=I.below;have i':=ae l' I;have z':wr.heap.size<w4.heap.size:=OT p' I.size;replace y0:=aa I y0;replace y1:=aa I y1;replace y2:=aa I y2;replace y3:=aa I y3;replace y4:=aa I y4;have x':=jD (hi.out.2.below i');have f':=jD (ae hb i');clear l' p' I i' c0 c1 c2 c3 c4 F' r' G';go_wp2_with fail
    refine cw (fun W=>W.cell? ⟨wr.heap.size,0,none⟩=some (OB x.src)/\W.cell? ⟨wr.heap.size,1,none⟩=some (OB x.sq)/\W.cell? ⟨wr.heap.size,2,none⟩=some (OB x.ty)/\W.cell? ⟨wr.heap.size,3,none⟩=some (OB x.tm)/\W.cell? ⟨wr.heap.size,4,none⟩=some (.slice A1 x.vals.length cx)) (by repeat (first|exact aN _ _ _|exact aM|refine aT ?_ ?_)) kr kr ?hF ?_;(case hF=>(first|exact⟨‹_›,‹_›⟩|(go_simp;done)|(simp[*];done)|(repeat' (first|(refine And.intro ?_ ?_)|(go_simp;done)|exact aa (bA (OK _ _) _) (by assumption)|assumption))));intro s' y';have hG:Hid (Grows (fun W=>W.cell? ⟨wr.heap.size,0,none⟩=some (OB x.src)/\W.cell? ⟨wr.heap.size,1,none⟩=some (OB x.sq)/\W.cell? ⟨wr.heap.size,2,none⟩=some (OB x.ty)/\W.cell? ⟨wr.heap.size,3,none⟩=some (OB x.tm)/\W.cell? ⟨wr.heap.size,4,none⟩=some (.slice A1 x.vals.length cx))):=(by repeat (first|exact aN _ _ _|exact aM|refine aT ?_ ?_));(repeat (go_big_quiet_step (fail)));clear hG y' s';refine QI ?_;rintro wq ⟨⟨w',c',u'⟩,rfl⟩;obtain⟨z0,z1,z2,z3,z4⟩:=u';exact uam
   ·have Y':(0:Int)<=(k:Int)-1:=by omega
    have V':(k:Int)-1<(l.length:Int):=by omega
    have d1:decide (0<k)=true:=by simp;omega
    have d2:decide ((0:Int)<(k:Int))=true:=by simp;omega
    have HK:=jD j';clear j';obtain⟨_,_,E',vp,Q',p0,p1,p2,p3,p4⟩:=HL.out (k-1) l[k-1] (OH om);simp only[Qy,Addr.mk.injEq,PU]at E';obtain⟨rfl,rfl⟩:=E';obtain⟨A2,cp,rfl,-⟩:=Q';have g':=jD (OH (l:=l) (i:=k-1) om);obtain⟨p,hp⟩:=jF (l[k-1]);rw[<-hp]at p0 p1 p2 p3 p4 g';clear hp;obtain⟨r,hr⟩:=jE (dA (dC p) (dC x));have HR:=jD hr;have S':Hid (∀W,OE 70 #[.agg #[OB p.src,OB p.sq,OB p.ty,OB p.tm,.slice A2 p.vals.length cp],.agg #[OB x.src,OB x.sq,OB x.ty,OB x.tm,.slice A1 x.vals.length cx]] W (OB r)):=jD fun W=>(D5 p x A2 A1 _ cp _ cx W).mono (fun e w' ⟨h1,h2⟩=>⟨h1.trans (by rw[hr]),h2.below⟩)
    clear hr;go_wp2_with fail;refine aJ fun W9 e9=>?_
    have y0:OC W9 wr.heap.size 0 (OB x.src):=jG e9;have y1:OC W9 wr.heap.size 1 (OB x.sq):=jG e9;have y2:OC W9 wr.heap.size 2 (OB x.ty):=jG e9;have y3:OC W9 wr.heap.size 3 (OB x.tm):=jG e9;have y4:OC W9 wr.heap.size 4 (.slice A1 x.vals.length cx):=jG e9;have l':OD wr W9:=gb e9;have p':wr.heap.size<W9.heap.size:=by rw[e9];simp
    clear e9;refine (d'.out _).mono ?_;rintro e w4 ⟨rfl,I⟩;replace I:=I.below;have i':=ae l' I;have z':wr.heap.size<w4.heap.size:=OT p' I.size;replace y0:=aa I y0;replace y1:=aa I y1;replace y2:=aa I y2;replace y3:=aa I y3;replace y4:=aa I y4;have x':=jD (hi.out.2.below i');have f':=jD (ae hb i');clear l' p' I i' c0 c1 c2 c3 c4 F' r' G';replace p0:=aa f'.out p0;replace p1:=aa f'.out p1;replace p2:=aa f'.out p2;replace p3:=aa f'.out p3;replace p4:=aa f'.out p4;go_wp2_with fail
    refine cw (fun W=>W.cell? ⟨wr.heap.size,0,none⟩=some (OB x.src)/\W.cell? ⟨wr.heap.size,1,none⟩=some (OB x.sq)/\W.cell? ⟨wr.heap.size,2,none⟩=some (OB x.ty)/\W.cell? ⟨wr.heap.size,3,none⟩=some (OB x.tm)/\W.cell? ⟨wr.heap.size,4,none⟩=some (.slice A1 x.vals.length cx)/\W.cell? ⟨b,o+(k-1)*5,none⟩=some (OB p.src)/\W.cell? ⟨b,o+(k-1)*5+1,none⟩=some (OB p.sq)/\W.cell? ⟨b,o+(k-1)*5+2,none⟩=some (OB p.ty)/\W.cell? ⟨b,o+(k-1)*5+3,none⟩=some (OB p.tm)/\W.cell? ⟨b,o+(k-1)*5+4,none⟩=some (.slice A2 p.vals.length cp)) (by repeat (first|exact aN _ _ _|exact aM|refine aT ?_ ?_)) kr kr ?hF ?_;(case hF=>(first|exact⟨‹_›,‹_›⟩|(go_simp;done)|(simp[*];done)|(repeat' (first|(refine And.intro ?_ ?_)|(go_simp;done)|exact aa (bA (OK _ _) _) (by assumption)|assumption))));intro s' y';have hG:Hid (Grows (fun W=>W.cell? ⟨wr.heap.size,0,none⟩=some (OB x.src)/\W.cell? ⟨wr.heap.size,1,none⟩=some (OB x.sq)/\W.cell? ⟨wr.heap.size,2,none⟩=some (OB x.ty)/\W.cell? ⟨wr.heap.size,3,none⟩=some (OB x.tm)/\W.cell? ⟨wr.heap.size,4,none⟩=some (.slice A1 x.vals.length cx)/\W.cell? ⟨b,o+(k-1)*5,none⟩=some (OB p.src)/\W.cell? ⟨b,o+(k-1)*5+1,none⟩=some (OB p.sq)/\W.cell? ⟨b,o+(k-1)*5+2,none⟩=some (OB p.ty)/\W.cell? ⟨b,o+(k-1)*5+3,none⟩=some (OB p.tm)/\W.cell? ⟨b,o+(k-1)*5+4,none⟩=some (.slice A2 p.vals.length cp))):=(by repeat (first|exact aN _ _ _|exact aM|refine aT ?_ ?_));(repeat (go_big_quiet_step ((go_at_call 70;exact kB hG (S'.out _)))));clear hG y' s';refine QI ?_;rintro wq ⟨⟨w',c',u'⟩,rfl⟩
    by_cases A':0<=r
    ·have d3:decide (0<=r)=true:=jQ A';go_wp2;go_ret;exact⟨de (ig J.out hi.out.1 (Gi HP.out hk HK.out g'.out (by rw[HR.out];exact A')) dc),ae f'.out c'⟩
    ·have d3:decide (0<=r)=false:=jQ A';have k':Hid (iD (l.take k) x=false):=jD (yH hk HK.out g'.out (by rw[HR.out];omega));clear p0 p1 p2 p3 p4;obtain⟨z0,z1,z2,z3,z4,-⟩:=u';exact uam
  ·have I':¬(k:Int)<(l.length:Int):=by omega
   go_wp2;go_ret;exact⟨de (Cc om hi.out.1),hb⟩
theorem Ip(s q y t:Int)(A:Option Addr)(n c:Nat)(w:World):OE 79 #[.agg #[OB s,OB q,OB y,OB t,.slice A n c]] w (.agg #[OB t,OB s,OB q]) :=
 (Hg s q y t A n c w).mono fun _ _ ⟨h1,h⟩=>⟨h1,h.below⟩
def pZ(s1 I s2 h:Int):Bool:=decide (s1=s2/\I=h)
theorem Ef(s1 h Z t1 s2 I y2 t2:Int)(A B:Option Addr)(n c m d:Nat)(w:World):OE 80 #[.agg #[OB s1,OB h,OB Z,OB t1,.slice A n c],.agg #[OB s2,OB I,OB y2,OB t2,.slice B m d]] w (.bool (pZ s1 h s2 I)):=by
 unfold pZ
 by_cases h1:s1=s2
 ·subst h1
  by_cases J:h=I
  ·subst J;go_enter func80,ntmps80;go_wp2;go_ret;exact⟨by simp,jB⟩
  ·have a':(h==I)=false:=jQ J;go_enter func80,ntmps80;go_wp2;go_ret;exact⟨by simp[J],jB⟩
 ·have c':(s1==s2)=false:=jQ h1;go_enter func80,ntmps80;go_wp2;go_ret;exact⟨by simp[h1],jB⟩
theorem rT{y:Evt}(hy:l[j]?=some y)(h:(l.take j).any (dS x)=false)(I:pZ y.src y.sq x.src x.sq=false):(l.take (j+1)).any (dS x)=false:=by
 rw[dz hy,List.any_append,h,List.any_cons,List.any_nil];have:dS x y=false:=by
  unfold dS;unfold pZ at I;rw[PK]at I ⊢;exact fun⟨a,b⟩=>I ⟨a.symm,b.symm⟩
 rw[this];rfl
theorem uS{y:Evt}(hy:l[j]?=some y)(I:j<k)(h:pZ y.src y.sq x.src x.sq=true):(l.take k).any (dS x)=true:=by
 rw[RG];refine⟨y,?_,?_⟩
 ·rw[List.mem_iff_getElem?];exact⟨j,by rw[List.getElem?_take_of_lt I];exact hy⟩
 ·unfold dS;unfold pZ at h;rw[OW]at h ⊢;exact⟨h.1.symm,h.2.symm⟩
theorem xX(l:List Evt)(v:Value)(w:World)(hl:cH w v l) :
  OE 36 #[v] w (OB (bN l)):=by
 unfold bN;obtain⟨A,c,rfl,h1,h2,u'⟩:=hl;have hn:=aP h1 h2;have HL:=jD u';clear u' h1 h2
 by_cases hm:4096<l.length
 ·rw[OG hm];have z':(4096:Int)<(l.length:Int):=by omega
  go_enter func36,ntmps36;go_wp2;go_ret;exact⟨rfl,jB⟩
 rw[OF hm];have z':¬(4096:Int)<(l.length:Int):=by omega
 clear hm;go_enter func36,ntmps36;go_wp2_with fail
 go_loopw [3] (fun i wr=>∃k:Nat,k<=l.length/\i=OB k/\Hid (cO (l.take k) (l.drop k)=cO [] l)/\OD w wr) (fun i _=>l.length-(intOf i).toNat)
 case atStart=>exact⟨0,OO _,rfl,jD rfl,OK _ _⟩
 case round =>
  obtain⟨k,hk,rfl,hi,hb⟩:=hrel
  by_cases s':k<l.length
  ·have y':(k:Int)<(l.length:Int):=by omega
   obtain⟨b,o,rfl,vv,P',c0,c1,c2,c3,c4⟩:=HL.out k l[k] (OH s');replace c0:=aa hb c0;replace c1:=aa hb c1;replace c2:=aa hb c2;replace c3:=aa hb c3;replace c4:=aa hb c4;obtain⟨A1,cx,rfl,-⟩:=P';have h:=jD (OH s');obtain⟨x,hx⟩:=jF (l[k]);rw[<-hx]at h c0 c1 c2 c3 c4;clear hx;have Z:∀W,Calls prog 77 #[.agg #[OB x.src,OB x.sq,OB x.ty,OB x.tm,.slice A1 x.vals.length cx]] W fun e w'=>e=.returned (.bool (bY x))/\Gr W w':=fun W=>uv x A1 _ cx W _ rfl
   by_cases hp:bY x=false
   ·have HP:=jD hp;rw[hp]at Z;have Z:=jD Z;clear hp;go_wp2_with (go_at_call 77;refine (Z.out _).mono ?_;rintro e w3 ⟨rfl,D'⟩);go_ret;exact⟨de (ig h.out hi.out (Mb HP.out) dc),ae hb D'.below⟩
   rw[Bool.not_eq_false]at hp;rw[hp]at Z;have Z:=jD Z;have HP:=jD hp;clear hp;go_wp2_with fail;refine (Z.out _).mono ?_;rintro e w4 ⟨rfl,I⟩;replace I:=I.below;have c':=jD (ae hb I);replace c0:=aa I c0;replace c1:=aa I c1;replace c2:=aa I c2;replace c3:=aa I c3;replace c4:=aa I c4;clear I
   by_cases f':k=0
   ·have l':Hid (iD (l.take k) x=false):=jD (rL f');have x':(l.take k).any (dS x)=false:=by rw[f'];rfl
    have G':=jD x';have d1:decide (0<k)=false:=by simp[f']
    have d2:decide ((0:Int)<(k:Int))=false:=by simp[f']
    clear x' f';go_wp2_with fail;refine cw (fun W=>W.cell? ⟨b,o+k*5,none⟩=some (OB x.src)/\W.cell? ⟨b,o+k*5+1,none⟩=some (OB x.sq)/\W.cell? ⟨b,o+k*5+2,none⟩=some (OB x.ty)/\W.cell? ⟨b,o+k*5+3,none⟩=some (OB x.tm)/\W.cell? ⟨b,o+k*5+4,none⟩=some (.slice A1 x.vals.length cx)) (by repeat (first|exact aN _ _ _|exact aM|refine aT ?_ ?_)) kr kr ?hF ?_;(case hF=>(first|exact⟨‹_›,‹_›⟩|(go_simp;done)|(simp[*];done)|(repeat' (first|(refine And.intro ?_ ?_)|(go_simp;done)|exact aa (bA (OK _ _) _) (by assumption)|assumption))));intro i' k';have hG:Hid (Grows (fun W=>W.cell? ⟨b,o+k*5,none⟩=some (OB x.src)/\W.cell? ⟨b,o+k*5+1,none⟩=some (OB x.sq)/\W.cell? ⟨b,o+k*5+2,none⟩=some (OB x.ty)/\W.cell? ⟨b,o+k*5+3,none⟩=some (OB x.tm)/\W.cell? ⟨b,o+k*5+4,none⟩=some (.slice A1 x.vals.length cx))):=(by repeat (first|exact aN _ _ _|exact aM|refine aT ?_ ?_));(repeat (go_big_quiet_step (fail)));clear hG k' i';refine QI ?_;rintro wq ⟨⟨w',a',p'⟩,rfl⟩;go_wp2_with fail;refine bV fun wz ez=>?_
    obtain rfl:wq=wz:=ez.symm;clear ez
    go_loopw [4] (fun i wr=>i=OB 0/\wr=wq) (fun i _=>0)
    case atStart=>exact⟨rfl,rfl⟩
    case round =>
     obtain⟨rfl,rfl⟩:=hrel;go_wp2_with fail
     go_roundw
     case rel=>exact⟨k+1,by omega,by go_num,jD (uT h.out hi.out (Dn HP.out l'.out G'.out)),ae c'.out a'⟩
     case measure=>simp[intOf];omega
   ·have I':(0:Int)<=(k:Int)-1:=by omega
    have A':(k:Int)-1<(l.length:Int):=by omega
    have d1:decide (0<k)=true:=by simp;omega
    have d2:decide ((0:Int)<(k:Int))=true:=by simp;omega
    have HK:=jD f';clear f';obtain⟨_,_,j',vp,E',p0,p1,p2,p3,p4⟩:=HL.out (k-1) l[k-1] (OH om);simp only[Qy,Addr.mk.injEq,PU]at j';obtain⟨rfl,rfl⟩:=j';obtain⟨A2,cp,rfl,-⟩:=E';have d':=jD (OH (l:=l) (i:=k-1) om);obtain⟨p,hp⟩:=jF (l[k-1]);rw[<-hp]at p0 p1 p2 p3 p4 d';clear hp;obtain⟨r,hr⟩:=jE (dA (dC p) (dC x));have HR:=jD hr;have N':Hid (∀W,OE 78 #[.agg #[OB p.tm,OB p.src,OB p.sq],.agg #[OB x.tm,OB x.src,OB x.sq]] W (OB r)):=jD fun W=>(iR (dC p) (dC x) W).mono (fun e w' ⟨h1,h2⟩=>⟨h1.trans (by rw[hr]),h2.below⟩)
    clear hr;replace p0:=aa c'.out p0;replace p1:=aa c'.out p1;replace p2:=aa c'.out p2;replace p3:=aa c'.out p3;replace p4:=aa c'.out p4;go_wp2_with fail
    refine cw (fun W=>W.cell? ⟨b,o+k*5,none⟩=some (OB x.src)/\W.cell? ⟨b,o+k*5+1,none⟩=some (OB x.sq)/\W.cell? ⟨b,o+k*5+2,none⟩=some (OB x.ty)/\W.cell? ⟨b,o+k*5+3,none⟩=some (OB x.tm)/\W.cell? ⟨b,o+k*5+4,none⟩=some (.slice A1 x.vals.length cx)/\W.cell? ⟨b,o+(k-1)*5,none⟩=some (OB p.src)/\W.cell? ⟨b,o+(k-1)*5+1,none⟩=some (OB p.sq)/\W.cell? ⟨b,o+(k-1)*5+2,none⟩=some (OB p.ty)/\W.cell? ⟨b,o+(k-1)*5+3,none⟩=some (OB p.tm)/\W.cell? ⟨b,o+(k-1)*5+4,none⟩=some (.slice A2 p.vals.length cp)) (by repeat (first|exact aN _ _ _|exact aM|refine aT ?_ ?_)) kr kr ?hF ?_;(case hF=>(first|exact⟨‹_›,‹_›⟩|(go_simp;done)|(simp[*];done)|(repeat' (first|(refine And.intro ?_ ?_)|(go_simp;done)|exact aa (bA (OK _ _) _) (by assumption)|assumption))));intro i' k';have hG:Hid (Grows (fun W=>W.cell? ⟨b,o+k*5,none⟩=some (OB x.src)/\W.cell? ⟨b,o+k*5+1,none⟩=some (OB x.sq)/\W.cell? ⟨b,o+k*5+2,none⟩=some (OB x.ty)/\W.cell? ⟨b,o+k*5+3,none⟩=some (OB x.tm)/\W.cell? ⟨b,o+k*5+4,none⟩=some (.slice A1 x.vals.length cx)/\W.cell? ⟨b,o+(k-1)*5,none⟩=some (OB p.src)/\W.cell? ⟨b,o+(k-1)*5+1,none⟩=some (OB p.sq)/\W.cell? ⟨b,o+(k-1)*5+2,none⟩=some (OB p.ty)/\W.cell? ⟨b,o+(k-1)*5+3,none⟩=some (OB p.tm)/\W.cell? ⟨b,o+(k-1)*5+4,none⟩=some (.slice A2 p.vals.length cp))):=(by repeat (first|exact aN _ _ _|exact aM|refine aT ?_ ?_));(repeat (go_big_quiet_step (first|(go_at_call 79;exact kB hG (Ip _ _ _ _ _ _ _ _))|(go_at_call 78;exact kB hG (N'.out _)))));clear hG k' i';refine QI ?_;rintro wq ⟨⟨w',a',p'⟩,rfl⟩
    by_cases m':0<=r
    ·have d3:decide (0<=r)=true:=jQ m';go_wp2;go_ret;exact⟨de (ig h.out hi.out (Gi HP.out hk HK.out d'.out (by rw[HR.out];exact m')) dc),ae c'.out a'⟩
    ·have d3:decide (0<=r)=false:=jQ m';have l':Hid (iD (l.take k) x=false):=jD (yH hk HK.out d'.out (by rw[HR.out];omega));have q':=jD (ae c'.out a');obtain⟨z0,z1,z2,z3,z4,-⟩:=p';clear p0 p1 p2 p3 p4 c0 c1 c2 c3 c4 a';go_wp2_with fail;clear m' d1 d2 I' A';have hz:=jD (And.intro z0 (And.intro z1 (And.intro z2 (And.intro z3 z4))));clear z0 z1 z2 z3 z4;refine bV fun wz ez=>?_
     obtain rfl:wq=wz:=ez.symm;clear ez
     go_loopw [4] (fun i wr=>∃j:Nat,j<=k/\i=OB j/\Hid ((l.take j).any (dS x)=false)/\OD wq wr) (fun i _=>k-(intOf i).toNat)
     case atStart=>exact⟨0,OO _,rfl,jD rfl,OK _ _⟩
     case round =>
      obtain⟨j,hj,rfl,hJ,J⟩:=hrel
      by_cases C':j<k
      ·have J':(j:Int)<(k:Int):=by omega
       have Q':(j:Int)<(l.length:Int):=by omega
       obtain⟨_,_,j',vj,H',j0,j1,j2,j3,j4⟩:=HL.out j l[j] (OH om);simp only[Qy,Addr.mk.injEq,PU]at j';obtain⟨rfl,rfl⟩:=j';obtain⟨A3,cj,rfl,-⟩:=H';have g':=jD (OH (l:=l) (i:=j) om);obtain⟨y,hy⟩:=jF (l[j]);rw[<-hy]at j0 j1 j2 j3 j4 g';clear hy;have h':=ae q'.out J;replace j0:=aa h' j0;replace j1:=aa h' j1;replace j2:=aa h' j2;replace j3:=aa h' j3;replace j4:=aa h' j4;obtain⟨z0,z1,z2,z3,z4⟩:=hz.out;replace z0:=aa J z0;replace z1:=aa J z1;replace z2:=aa J z2;replace z3:=aa J z3;replace z4:=aa J z4;obtain⟨tb,n'⟩:∃t,pZ y.src y.sq x.src x.sq=t:=⟨_,rfl⟩;have r':=jD n';have B':Hid (∀W,OE 80 #[.agg #[OB y.src,OB y.sq,OB y.ty,OB y.tm,.slice A3 y.vals.length cj],.agg #[OB x.src,OB x.sq,OB x.ty,OB x.tm,.slice A1 x.vals.length cx]] W (.bool tb)):=jD fun W=>by rw[<-n'];exact Ef _ _ _ _ _ _ _ _ _ _ _ _ _ _ W
       clear n' h';go_wp2_with fail;refine cw (fun W=>W.cell? ⟨b,o+k*5,none⟩=some (OB x.src)/\W.cell? ⟨b,o+k*5+1,none⟩=some (OB x.sq)/\W.cell? ⟨b,o+k*5+2,none⟩=some (OB x.ty)/\W.cell? ⟨b,o+k*5+3,none⟩=some (OB x.tm)/\W.cell? ⟨b,o+k*5+4,none⟩=some (.slice A1 x.vals.length cx)/\W.cell? ⟨b,o+j*5,none⟩=some (OB y.src)/\W.cell? ⟨b,o+j*5+1,none⟩=some (OB y.sq)/\W.cell? ⟨b,o+j*5+2,none⟩=some (OB y.ty)/\W.cell? ⟨b,o+j*5+3,none⟩=some (OB y.tm)/\W.cell? ⟨b,o+j*5+4,none⟩=some (.slice A3 y.vals.length cj)) (by repeat (first|exact aN _ _ _|exact aM|refine aT ?_ ?_)) kr kr ?hF ?_;(case hF=>(first|exact⟨‹_›,‹_›⟩|(go_simp;done)|(simp[*];done)|(repeat' (first|(refine And.intro ?_ ?_)|(go_simp;done)|exact aa (bA (OK _ _) _) (by assumption)|assumption))));intro i' k';have hG:Hid (Grows (fun W=>W.cell? ⟨b,o+k*5,none⟩=some (OB x.src)/\W.cell? ⟨b,o+k*5+1,none⟩=some (OB x.sq)/\W.cell? ⟨b,o+k*5+2,none⟩=some (OB x.ty)/\W.cell? ⟨b,o+k*5+3,none⟩=some (OB x.tm)/\W.cell? ⟨b,o+k*5+4,none⟩=some (.slice A1 x.vals.length cx)/\W.cell? ⟨b,o+j*5,none⟩=some (OB y.src)/\W.cell? ⟨b,o+j*5+1,none⟩=some (OB y.sq)/\W.cell? ⟨b,o+j*5+2,none⟩=some (OB y.ty)/\W.cell? ⟨b,o+j*5+3,none⟩=some (OB y.tm)/\W.cell? ⟨b,o+j*5+4,none⟩=some (.slice A3 y.vals.length cj))):=(by repeat (first|exact aN _ _ _|exact aM|refine aT ?_ ?_));(repeat (go_big_quiet_step ((go_at_call 80;exact kB hG (B'.out _)))));clear hG k' i';refine QI ?_;rintro wq ⟨⟨w',a',p'⟩,rfl⟩
       cases tb
       ·go_wp2_with fail
        go_roundw
        case rel=>exact⟨j+1,by omega,by go_num,jD (rT g'.out hJ.out r'.out),ae J a'⟩
        case measure=>simp[intOf];omega
       ·go_wp2;go_ret;exact⟨de (ig h.out hi.out (Im HP.out l'.out (uS g'.out C' r'.out)) dc),ae q'.out (ae J a')⟩
      ·have J':¬(j:Int)<(k:Int):=by omega
       have t':j=k:=by omega
       have F':=jD t';clear t';go_wp2_with fail
       go_roundw
       case rel=>exact⟨k+1,by omega,by go_num,jD (uT h.out hi.out (Dn HP.out l'.out (by rw[<-F'.out];exact hJ.out))),ae q'.out J⟩
       case measure=>simp[intOf];omega
  ·have y':¬(k:Int)<(l.length:Int):=by omega
   go_wp2;go_ret;exact⟨de (Cc om hi.out),hb⟩
def vlV(x:Vl):Value:=.agg #[OB x.kind,OB x.num,.string x.text]
theorem MR(a:Vl)(W:World):(binOp .neq 27 (vlV a) (vlV a)).run prog W=.ok (.bool false) W:=by
 have J:=underlying3;have a3:=Tryz.isAgg3;have z3:=Tryz.sizeOf3;have I:prog.underlying 9=some .string:=kr;have a9:=Tryz.isAgg9;have z9:=Tryz.sizeOf9;have h:prog.underlying 27=some (.struct (prog.fieldsOf 27)):=kr;have hp:prog.stoodInHeld 27=false:=kr;unfold vlV;rw[run_neq_struct,show (10000:Nat)=9999+1 from rfl,RF W 9999 27 _ _ h hp];simp only[Program.fieldsOf,underlying27]
 go_simp
def cQ(v:Vl):Int :=
 if v.kind<0\/2<v.kind then 1
 else if v.kind=2 then (if v.num≠0 then 3 else if 64<v.text.size then 13 else 0)
 else if 0<v.text.size then 3
 else if (v.kind=1/\(v.num<0\/1<v.num))\/v.num < -1099511627776\/1099511627776<v.num then 2 else 0
theorem Ba(h:s.size=0):s.toList=[]:=by
 rw[Rh];exact Po (jQ h)
theorem yX(h:0<s.size):s.toList.isEmpty=false:=by
 rw[Rh]
 cases hs:s.data.toList with
 | nil=>exfalso;have:s.data.toList.length=s.size:=rfl;rw[hs]at this;simp at this;omega
 | cons=>rfl
theorem bg(s:ByteArray):s.toList.isEmpty=decide (s.size=0):=by
 by_cases h:s.size=0
 ·rw[Ba h];simp[h]
 ·rw[yX om];simp[h]
def kD(v:Vl):Int :=
 if v.kind=0/\(v.num < -1099511627776\/1099511627776<v.num) then 2
 else if v.kind=1/\v.num≠0/\v.num≠1 then 2
 else if 64<v.text.size then 13 else 0
theorem uao(h:p:=by
  go_ret;exact⟨de (by rw[<-h.out];unfold kD;dsimp only;((try simp only[bg,Pj,P8,PK,OW,Pa,P5,PA,Qh,PG,ON,Pi,Qi,PL,PH,PY,Qj,Qk]at *);(repeat' split)<;>first|rfl|omega|(exfalso;simp_all;done)|(exfalso;simp_all;omega))),ay _ _⟩):p:=h
theorem Em(v:Vl)(w:World):OE 213 #[vlV v] w (OB (kD v)):=by
 obtain⟨k,n,s⟩:=v;obtain⟨R,I⟩:=jE (kD ⟨k,n,s⟩);have h:=jD I;rw[I];clear I;unfold vlV
 by_cases h0:k=0
 ·subst h0
  by_cases h1:n < -1099511627776
  ·go_enter func213,ntmps213;go_wp2;exact uao
  ·by_cases J:1099511627776<n
   ·go_enter func213,ntmps213;go_wp2;exact uao
   ·go_enter func213,ntmps213;go_wp2
    all_goals
     exact uao
 ·by_cases h1:k=1
  ·subst h1
   by_cases J:n=0
   ·subst J;go_enter func213,ntmps213;go_wp2
    all_goals
     exact uao
   ·by_cases Z:n=1
    ·subst Z;go_enter func213,ntmps213;go_wp2
     all_goals
      exact uao
    ·go_enter func213,ntmps213;go_wp2
     all_goals
      exact uao
  ·go_enter func213,ntmps213;go_wp2
   all_goals
    exact uao
theorem jd(v:Vl)(w:World):OE 146 #[vlV v] w (OB (cQ v)):=by
 have h:=jD (Em v);obtain⟨k,n,s⟩:=v;obtain⟨R,J⟩:=jE (cQ ⟨k,n,s⟩);have I:=jD J;rw[J];obtain⟨Z,hZ⟩:=jE (kD ⟨k,n,s⟩);rw[hZ]at h;have HZ:=jD hZ;clear J hZ;unfold vlV at h ⊢;go_enter func146,ntmps146;go_wp2_with (go_at_call 213;refine (h.out _).mono ?_;rintro e w' ⟨rfl,hb⟩)
 all_goals
  go_ret
  first
   | exact⟨de (by rw[<-HZ.out,<-I.out];clear h I HZ;unfold kD cQ;dsimp only;((try simp only[bg,Pj,P8,PK,OW,Pa,P5,PA,Qh,PG,ON,Pi,Qi,PL,PH,PY,Qj,Qk]at *);(repeat' split)<;>first|rfl|omega|(exfalso;simp_all;done)|(exfalso;simp_all;omega))),ae (ay _ _) hb⟩
   | exact⟨de (by rw[<-I.out];clear h I HZ;unfold cQ;dsimp only;((try simp only[bg,Pj,P8,PK,OW,Pa,P5,PA,Qh,PG,ON,Pi,Qi,PL,PH,PY,Qj,Qk]at *);(repeat' split)<;>first|rfl|omega|(exfalso;simp_all;done)|(exfalso;simp_all;omega))),ay _ _⟩
theorem uap(h:p:=by
  go_ret;exact⟨de (by rw[<-h.out];clear h;unfold cQ;dsimp only;((try simp only[bg,Pj,P8,PK,OW,Pa,P5,PA,Qh,PG,ON,Pi,Qi,PL,PH,PY,Qj,Qk]at *);(repeat' split)<;>first|rfl|omega|(exfalso;simp_all;done)|(exfalso;simp_all;omega))),ay _ _⟩):p:=h
theorem jO(v:Vl)(w:World):OE 159 #[vlV v] w (OB (cQ v)):=by
 obtain⟨k,n,s⟩:=v;obtain⟨R,I⟩:=jE (cQ ⟨k,n,s⟩);have h:=jD I;rw[I];clear I;unfold vlV
 by_cases h0:k<0
 ·go_enter func159,ntmps159;go_wp2;exact uap
 ·by_cases h1:k=1
  ·subst h1
   by_cases h2:n<0
   ·go_enter func159,ntmps159;go_wp2
    all_goals
     exact uap
   ·by_cases h3:1<n
    ·go_enter func159,ntmps159;go_wp2
     all_goals
      exact uap
    ·have J:¬n < -1099511627776:=by omega
     go_enter func159,ntmps159;go_wp2
     all_goals
      exact uap
  ·have Z:(k==1)=false:=jQ h1
   by_cases J:n < -1099511627776
   ·go_enter func159,ntmps159;go_wp2
    all_goals
     exact uap
   ·go_enter func159,ntmps159;go_wp2
    all_goals
     exact uap
theorem jA(h:p:=by ((try simp only[bg,Pj,P8,PK,OW,Pa,P5,PA,Qh,PG,ON,Pi,Qi,PL,PH,PY,Qj,Qk]at *);(repeat' split)<;>first|rfl|omega|(exfalso;simp_all;done)|(exfalso;simp_all;omega))):p:=h
def dZ(k:Int)(v:Vl):Bool:=decide (v.kind=0\/k=0\/k=4\/k=5)
def cC(k:Int)(v:Vl):Int:=if cQ v≠0 then cQ v else if dZ k v=true then 0 else 9
def cA(k:Int):Bool:=decide (0<=k/\k<=5)
def au:Vl:=⟨0,0,⟨#[]⟩⟩
structure Ac where
 kind:Int
 count:Int
 val:Vl
def ei(a:Ac):Value:=.agg #[OB a.kind,OB a.count,OB a.val.kind,OB a.val.num,.string a.val.text]
theorem iY(k:Int)(w:World):Calls prog 291 #[OB k] w fun e w'=>e=.returned (.bool (cA k))/\w=w':=by
 obtain⟨R,h⟩:=jE (cA k);have I:=jD h;rw[h];clear h
 by_cases h0:0<=k
 ·go_enter func291,ntmps291;go_wp2;go_ret;exact⟨by rw[<-I.out];unfold cA;simp[h0],rfl⟩
 ·go_enter func291,ntmps291;go_wp2;go_ret;exact⟨by rw[<-I.out];unfold cA;simp;omega,rfl⟩
theorem gW(k:Int)(w:World):Calls prog 328 #[OB k] w fun e w'=>e=.returned (.bool (cA k))/\w=w':=by
 obtain⟨R,h⟩:=jE (cA k);have I:=jD h;rw[h];clear h
 by_cases h0:0<=k
 ·go_enter func328,ntmps328;go_wp2;go_ret;exact⟨by rw[<-I.out];unfold cA;simp[h0],rfl⟩
 ·go_enter func328,ntmps328;go_wp2;go_ret;exact⟨by rw[<-I.out];unfold cA;simp;omega,rfl⟩
theorem qG(k:Int)(v:Vl)(w:World):OE 327 #[OB k,vlV v] w (.bool (dZ k v)):=by
 obtain⟨R,hR⟩:=jE (dZ k v);have Z:=jD hR;rw[hR];clear hR;unfold vlV
 by_cases h0:v.kind=0
 ·have I:(v.kind==0)=true:=jQ h0;clear h0;go_enter func327,ntmps327;go_wp2;go_ret;exact⟨by (rw[<-Z.out];unfold dZ;have h1:v.kind=0:=jQ I);simp[h1],ay _ _⟩
 ·have I:(v.kind==0)=false:=jQ h0;have H0:=jD h0;clear h0
  by_cases h1:k=0
  ·subst h1;go_enter func327,ntmps327;go_wp2;go_ret;exact⟨by rw[<-Z.out];simp[dZ],ay _ _⟩
  ·have c':(k==0)=false:=jQ h1
   by_cases J:k=4
   ·subst J;go_enter func327,ntmps327;go_wp2;go_ret;exact⟨by rw[<-Z.out];simp[dZ],ay _ _⟩
   ·have a':(k==4)=false:=jQ J;have H1:=jD h1;have H2:=jD J;clear h1 J;go_enter func327,ntmps327;go_wp2;go_ret;exact⟨by rw[<-Z.out];simp[dZ,H0.out,H1.out,H2.out];by_cases h:k=5<;>simp[h],ay _ _⟩
theorem qK(k:Int)(v:Vl)(w:World)(hk:cA k=true):OE 337 #[OB k,vlV v] w (.bool (dZ k v)):=by
 obtain⟨R,J⟩:=jE (dZ k v);have HR:=jD J;rw[J];have h:0<=k/\k<=5:=by simpa [cA] using hk
 clear J hk;unfold vlV
 by_cases h0:v.kind=0
 ·have Z:(v.kind==0)=true:=jQ h0;have I:=jD h0;clear h0 h;go_enter func337,ntmps337;go_wp2;go_ret;exact⟨by rw[<-HR.out];simp[dZ,I.out],ay _ _⟩
 ·have Z:(v.kind==0)=false:=jQ h0;have I:=jD h0;clear h0;have hc:k=0\/k=1\/k=2\/k=3\/k=4\/k=5:=by omega
  clear h;rcases hc with rfl|rfl|rfl|rfl|rfl|rfl <;>
  ·go_enter func337,ntmps337;go_wp2;go_ret;exact⟨by rw[<-HR.out];simp[dZ,I.out],ay _ _⟩
theorem rb(k:Int)(v:Vl)(w:World):OE 355 #[OB k,vlV v] w (OB (cC k v)):=by
 have HV:=jD (jO v);have HU:=jD (qG k v);obtain⟨R,hR⟩:=jE (cC k v);have HR:=jD hR;rw[hR];unfold vlV at HV HU ⊢;obtain⟨z,hz⟩:=jE (cQ v);obtain⟨b,hb⟩:=jE (dZ k v);rw[hz]at HV;rw[hb]at HU;have HZ:=jD hz;have HB:=jD hb;clear hR hz hb
 by_cases J:z=0
 ·subst J
  cases b <;>
  ·go_enter func355,ntmps355;go_wp2_with fail;refine aJ fun W9 Z=>?_
   have y0:OC W9 w.heap.size 0 (OB v.kind):=jG Z;have y1:OC W9 w.heap.size 1 (OB v.num):=jG Z;have y2:OC W9 w.heap.size 2 (.string v.text):=jG Z;have I:OD w W9:=gb Z;clear Z;refine (HV.out W9).mono ?_;rintro e w1 ⟨rfl,h⟩;replace y0:=aa h y0;replace y1:=aa h y1;replace y2:=aa h y2;have a':=jD (ae I h);clear I h;go_wp2_with (go_at_call 327;refine (HU.out _).mono ?_;rintro e w2 ⟨rfl,c'⟩);go_ret;exact⟨de (by rw[<-HR.out];unfold cC;rw[HZ.out,HB.out];rfl),ae a'.out c'⟩
 ·have d':(z != 0)=true:=jQ J;have H0:=jD J;clear J;go_enter func355,ntmps355;go_wp2_with fail;refine aJ fun W9 Z=>?_
  have I:OD w W9:=gb Z;clear Z;refine (HV.out W9).mono ?_;rintro e w1 ⟨rfl,h⟩;have a':=jD (ae I h);clear I h;go_wp2;go_ret;exact⟨de (by rw[<-HR.out];unfold cC;rw[HZ.out,OG H0.out]),a'.out⟩
def bI(a b:Vl):Bool:=a.kind==b.kind&&(a.num==b.num&&a.text.toList==b.text.toList)
theorem Cr(a b:Vl)(W:World):(binOp .neq 27 (vlV a) (vlV b)).run prog W=.ok (.bool (!bI a b)) W:=by
 have u3:=underlying3;have a3:=Tryz.isAgg3;have z3:=Tryz.sizeOf3;have Z:prog.underlying 9=some .string:=kr;have a9:=Tryz.isAgg9;have z9:=Tryz.sizeOf9;have I:prog.underlying 27=some (.struct (prog.fieldsOf 27)):=kr;have hp:prog.stoodInHeld 27=false:=kr;unfold vlV;rw[run_neq_struct,show (10000:Nat)=9999+1 from rfl,RF W 9999 27 _ _ I hp];simp only[Program.fieldsOf,underlying27]
 go_simp
 by_cases h1:a.kind=b.kind<;>by_cases h:a.num=b.num<;>by_cases J:a.text.toList=b.text.toList<;>simp[bI,h1,h,J]
end Go.Proofs.YteemngnialjaiaaGreatDoor
