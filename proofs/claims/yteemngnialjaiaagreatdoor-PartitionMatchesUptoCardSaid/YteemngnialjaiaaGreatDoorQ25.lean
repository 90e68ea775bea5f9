/- Part. -/
import Derived.Test.YteemngnialjaiaaGreatDoorQ22
import Derived.Shelf.LaysM
import Derived.Shelf.Strconv.AppendIntPublic10
set_option maxRecDepth 100000
set_option maxHeartbeats 16000000
set_option linter.unusedVariables false
set_option linter.unusedSimpArgs false
namespace Go.Proofs.YteemngnialjaiaaGreatDoor
open Go.Proofs.Tryz Go.RowKit
variable {α:Type}{k:Nat}{p:Prop}
def prV(x:Int × Nat):Value:=.agg #[OB x.1,OB (x.2:Int)]
def jZ{α:Type}(p:α->Bool)(l:List α):Int:=if l.any p=true then (l.findIdx p:Int) else -1
theorem DW{p:α->Bool}{l:List α}{x:α}(h:l[k]?=some x)(hp:p x=true)(i':∀(j:Nat)(y:α),l[j]?=some y->j<k->p y=false):jZ p l=k:=by
 unfold jZ;obtain⟨hk,rfl⟩:=List.getElem?_eq_some_iff.1 h;rw[OG (List.any_eq_true.2 ⟨_,OX hk,hp⟩)];congr 1;rw[List.findIdx_eq hk];exact⟨hp,fun j Z=>i' j _ (OH om) Z⟩
theorem zb{p:α->Bool}{l:List α}(i':∀(j:Nat)(y:α),l[j]?=some y->p y=false):jZ p l=-1:=by
 unfold jZ;rw[OF];rw[RX,RO];intro x hx;obtain⟨j,Z⟩:=List.mem_iff_getElem?.1 hx
 simpa using i' j x Z
theorem DY(p:α->Bool)(l:List α):decide (0<=jZ p l)=l.any p:=by
 unfold jZ
 cases h:l.any p with
 | true=>rw[OG rfl];simp
 | false=>rw[OF jS];rfl
theorem ww(g:FuncId)(I:List Value)(p:Int × Nat->Bool)(l:Bs)(v:Value)(w:World)(hl:gN w v l)(eg:∀args W,(callFunc g args).run prog W=.ok (.enter g args) W)(hp:∀(W:World)(x:Int × Nat),OD w W->x∈l->Calls prog g (prV x::I).toArray W fun e W'=>e=.returned (.bool (p x))/\OD W W') :
  OE 388 #[v,.func (.func g) #[] I.toArray] w (OB (jZ p l)):=by
 obtain⟨A,c,rfl,h1,h2,f'⟩:=hl;have hn:=aP h1 h2;have HL:=jD f';have HP:=jD hp;clear f' h1 h2 hp;go_enter func388,ntmps388;go_wp2_with fail
 go_loopw [8] (fun i wr=>∃k:Nat,k<=l.length/\i=OB k/\Hid (∀(j:Nat)(y:Int × Nat),l[j]?=some y->j<k->p y=false)/\OD w wr) (fun i _=>l.length-(intOf i).toNat)
 case atStart=>exact⟨0,OO _,rfl,fun _ _ _ h=>absurd h om,OK _ _⟩
 case round =>
  obtain⟨k,hk,rfl,hi,hb⟩:=hrel
  by_cases d':k<l.length
  ·obtain⟨b,o,rfl,c0,c1⟩:=HL.out k l[k] (OH d');replace c0:=aa hb c0;replace c1:=aa hb c1;have a':=jD (OH d');have g':Hid (l[k]∈l):=jD (OX d');obtain⟨x,hx⟩:=jF (l[k]);rw[<-hx]at a' g' c0 c1;have HC:=jD (HP.out wr x hb g'.out);unfold prV at HC;clear hx;have m':(k:Int)<(l.length:Int):=by omega
   obtain⟨bb,HB⟩:=eh (p x)
   cases bb with
   | true =>
    go_wp2_with fail;refine HC.out.mono ?_;rw[HB.out];rintro e w' ⟨rfl,j'⟩;go_wp2;go_ret;rw[DW a'.out HB.out hi.out];exact⟨rfl,ae hb j'⟩
   | false =>
    go_wp2_with fail;refine HC.out.mono ?_;rw[HB.out];rintro e w' ⟨rfl,j'⟩;go_wp2_with fail
    go_roundw
    case rel =>
     refine⟨k+1,by omega,by go_num,?_,ae hb j'⟩;intro j y Z l';rcases Nat.lt_or_eq_of_le (Nat.le_of_lt_succ l') with h|h
     ·exact hi.out j y Z h
     ·subst h;rw[a'.out]at Z;injection Z with Z;subst Z;exact HB.out
    case measure=>simp[intOf];omega
  ·go_wp2;go_ret;rw[zb (fun j y Z=>hi.out j y Z (by have:=(List.getElem?_eq_some_iff.1 Z).1;omega))];exact⟨rfl,hb⟩
theorem jy(g:FuncId)(I:List Value)(p:Int × Nat->Bool)(l:Bs)(v:Value)(w:World)(hl:gN w v l)(eg:∀args W,(callFunc g args).run prog W=.ok (.enter g args) W)(hp:∀(W:World)(x:Int × Nat),OD w W->x∈l->Calls prog g (prV x::I).toArray W fun e W'=>e=.returned (.bool (p x))/\OD W W') :
  OE 366 #[v,.func (.func g) #[] I.toArray] w (.bool (l.any p)):=by
 have HP:=jD hp;have HL:=jD hl;obtain⟨A,c,rfl,-,-,-⟩:=hl;clear hp;obtain⟨r,HR⟩:=eh (jZ p l);go_enter func366,ntmps366;go_wp2_with (go_at_call 388;refine (ww g I p l _ w HL.out eg HP.out).mono ?_;rw[HR.out];rintro e w1 ⟨rfl,J⟩);go_ret;rw[<-DY,HR.out];exact⟨rfl,J⟩
def jl(s:Bs)(i:Nat):Bool:=s.any fun y=>decide (y.2=i)
theorem qr(s t:Bs):(!eD s t)=s.any fun y=>jl t y.2:=by
 unfold eD jl
 induction s with
 | nil=>rfl
 | cons a l ih=>rw[Qs,List.any_cons,Bool.not_and,P2,ih]
theorem Is(s:Bs)(v:Value)(w:World)(hs:gN w v s)(k':s≠[]) :
  OE 346 #[v] w (OB (aK s:Int)):=by
 obtain⟨A,c,rfl,h1,h2,f'⟩:=hs;have hn:=aP h1 h2;obtain⟨m,hm⟩:∃m,s.length=m+1:=⟨s.length-1,by have:=List.length_pos_iff.2 k';omega⟩;obtain⟨x,hx⟩:∃x,s[m]?=some x:=⟨_,OH om⟩;obtain⟨b,o,rfl,c0,c1⟩:=f' m x hx;have hl:aK s=x.2:=by
  unfold aK;rw[R3,hm,R8,hx];rfl
 rw[hl,hm];rw[hm]at hn;clear f' h1 h2 hl hx k' hm;have hw:IntKind.i64.wrap (((m+1:Nat):Int)-1)=(m:Int):=by simp[IntKind.wrap,IntKind.bits,IntKind.signed];omega
 go_enter func346,ntmps346;go_wp2;go_ret;exact⟨rfl,OK _ _⟩
theorem Ib(x:Int × Nat)(i:Nat)(B:Nat)(w:World)(hB:w.cell? ⟨B,0,none⟩=some (OB (i:Int))) :
  OE 368 #[prV x,.pointer (some ⟨B,0,none⟩)] w (.bool (decide (x.2=i))):=by
 obtain⟨a,k⟩:=x;have d':B<w.heap.size:=OV w ⟨B,_,none⟩ hB;unfold prV;simp only
 by_cases h:k=i
 ·subst h;go_enter func368,ntmps368;go_wp2;go_ret;exact⟨by simp,jB⟩
 ·have h':((k:Int)==(i:Int))=false:=by rw[PA];omega
  rw[OZ h];go_enter func368,ntmps368;go_wp2;go_ret;exact⟨rfl,jB⟩
theorem ua1(h:p:=by
  go_wp2_with fail;refine (HC.out _ jB (by go_simp)).mono ?_;rintro e w1 ⟨rfl,J⟩;go_wp2;go_ret;exact⟨rfl,ae (ay w _) J⟩):p:=h
theorem CU(s:Bs)(i:Nat)(v:Value)(w:World)(hs:gN w v s) :
  OE 348 #[v,OB (i:Int)] w (.bool (jl s i)):=by
 have HS:=jD hs;obtain⟨A,c,rfl,-⟩:=hs;unfold jl;obtain⟨r,hr⟩:∃r,(s.any fun y=>decide (y.2=i))=r:=⟨_,rfl⟩;have HC:=jD (fun(W:World)(hW:OD w W)(hB:W.cell? ⟨w.heap.size,0,none⟩=some (OB (i:Int))) =>
  jy 368 [.pointer (some ⟨w.heap.size,0,none⟩)] (fun y=>decide (y.2=i)) s _ W (HS.out.stays gZ hW) (fun args W=>by rfl) (fun W' x h _=>Ib x i w.heap.size W' (aa h hB)))
 rw[hr]at HC ⊢;clear hr;go_enter func348,ntmps348;exact ua1
theorem Bq(x:Int × Nat)(t:Bs)(u:Value)(B:Nat)(w:World)(ht:gN w u t)(hB:w.cell? ⟨B,0,none⟩=some u) :
  OE 367 #[prV x,.pointer (some ⟨B,0,none⟩)] w (.bool (jl t x.2)):=by
 obtain⟨a,k⟩:=x;have HC:=jD (fun(W:World)(hW:OD w W)=>CU t k u W (ht.stays gZ hW));obtain⟨A,c,rfl,-⟩:=ht;have d':B<w.heap.size:=OV w ⟨B,_,none⟩ hB;obtain⟨r,hr⟩:=jE (jl t k);simp only;rw[hr]at HC ⊢;clear hr;unfold prV;simp only;go_enter func367,ntmps367;go_wp2_with fail;refine (HC.out _ jB).mono ?_;rintro e w1 ⟨rfl,J⟩;go_wp2;go_ret;exact⟨rfl,ae (ay w _) J⟩
theorem Ey(s t:Bs)(v u:Value)(w:World)(hs:gN w v s)(ht:gN w u t) :
  OE 347 #[v,u] w (.bool (!eD s t)):=by
 have HS:=jD hs;have HT:=jD ht;obtain⟨A,c,rfl,-⟩:=hs;obtain⟨A',c',rfl,-⟩:=ht;have he:=qr s t;obtain⟨r,hr⟩:=jE (s.any fun y=>jl t y.2);have HC:=jD (fun(W:World)(hW:OD w W)(hB:W.cell? ⟨w.heap.size,0,none⟩=some (.slice A' t.length c')) =>
  jy 367 [.pointer (some ⟨w.heap.size,0,none⟩)] (fun y=>jl t y.2) s _ W (HS.out.stays gZ hW) (fun args W=>by rfl) (fun W' x h _=>Bq x t _ w.heap.size W' (HT.out.stays gZ (ae hW h)) (aa h hB)))
 rw[hr]at HC;rw[he,hr];clear hr he;go_enter func347,ntmps347;exact ua1
theorem Nu(a b:Int × Nat)(W:World):(binOp .neq 204 (prV a) (prV b)).run prog W=.ok (.bool (!decide (a=b))) W:=by
 have Z:=underlying3;have a3:=Tryz.isAgg3;have z3:=Tryz.sizeOf3;have J:prog.underlying 204=some (.struct (prog.fieldsOf 204)):=kr;have hp:prog.stoodInHeld 204=false:=kr;obtain⟨h,a2⟩:=a;obtain⟨b1,b2⟩:=b;unfold prV;rw[run_neq_struct,show (10000:Nat)=9999+1 from rfl,RF W 9999 204 _ _ J hp];simp only[Program.fieldsOf,underlying204]
 go_simp
 by_cases h1:h=b1<;>by_cases I:a2=b2<;>simp[h1,I]<;>omega
theorem LD{s t:List α}{x:α}(h:s.take k=t.take k)(hs:s[k]?=some x)(I:t[k]?=some x):s.take (k+1)=t.take (k+1):=by
 rw[ef hs,ef I,h]
theorem yK(s t:Bs)(v u:Value)(w:World)(hs:gN w v s)(ht:gN w u t) :
  OE 261 #[v,u] w (.bool (decide (s=t))):=by
 obtain⟨A,c,rfl,h1,h2,a'⟩:=hs;obtain⟨A',c',rfl,f',d',I⟩:=ht;have hn:=aP h1 h2;have h':=aP f' d';have HL:=jD a';have i':=jD I;clear a' I h1 h2 f' d';obtain⟨R,hR⟩:∃R,R=decide (s=t):=⟨_,rfl⟩;rw[<-hR];have HR:=jD hR;clear hR
 by_cases hl:s.length=t.length
 case neg =>
  have l':((s.length:Int)==(t.length:Int))=false:=by rw[PA];omega
  have k':¬(s.length:Int)=(t.length:Int):=by omega
  obtain rfl:R=false:=by rw[HR.out,OZ];exact fun e=>hl (by rw[e])
  clear hl;go_enter func261,ntmps261;go_wp2;go_ret;exact⟨rfl,OK _ _⟩
 obtain⟨m,hm⟩:=jF s.length;have J:t.length=m:=by rw[hm,hl]
 rw[J,<-hm];rw[<-hm]at hn;have HM:=jD (And.intro hm J);clear hm J hl h';go_enter func261,ntmps261;go_wp2_with fail
 go_loopw [5] (fun z wr=>∃k:Nat,k<=m/\z=OB k/\Hid (s.take k=t.take k/\OD w wr)) (fun z _=>m-(intOf z).toNat)
 case atStart=>exact⟨0,OO _,rfl,jD ⟨by simp,OK _ _⟩⟩
 case round =>
  obtain⟨k,hk,rfl,hI⟩:=hrel
  by_cases j':k<m
  ·have g':(k:Int)<(m:Int):=by omega
   obtain⟨x,hx⟩:∃x,s[k]?=some x:=⟨_,OH (by have:=HM.out.1;omega)⟩;obtain⟨y,hy⟩:∃y,t[k]?=some y:=⟨_,OH (by have:=HM.out.2;omega)⟩;obtain⟨b,o,rfl,c0,c1⟩:=HL.out k x hx;obtain⟨b',o',rfl,d0,d1⟩:=i'.out k y hy;have hb:=hI.out.2;replace c0:=aa hb c0;replace c1:=aa hb c1;replace d0:=aa hb d0;replace d1:=aa hb d1;have HX:=jD hx;have HY:=jD hy;have hQ:=fun W=>Nu x y W
   unfold prV at hQ;obtain⟨q,hq⟩:∃q,decide (x=y)=q:=⟨_,rfl⟩;rw[hq]at hQ;have HQ:=jD hq;clear hx hy hb hq
   cases q with
   | true =>
    go_wp2_with fail
    go_big_region
    go_wp2_with fail
    go_roundw
    case rel =>
     have e:x=y:=by have:=HQ.out;simpa using this
     exact⟨k+1,by omega,by go_num,jD ⟨LD hI.out.1 HX.out (by rw[e];exact HY.out),hI.out.2.drew⟩⟩
    case measure=>simp[intOf];omega
   | false =>
    have Z:R=false:=by
     rw[HR.out,OZ];intro e;have h3:=HX.out;rw[e,HY.out]at h3;have:=HQ.out;simp only[PK]at this;exact this (Pn h3).symm
    subst Z;go_wp2_with fail
    go_big_region
    go_wp2;go_ret;exact⟨rfl,hI.out.2.drew⟩
  ·have g':¬(k:Int)<(m:Int):=by omega
   have Z:R=true:=by
    have h:=hI.out.1;rw[QK (by have:=HM.out.1;omega),QK (by have:=HM.out.2;omega)]at h;rw[HR.out,h];simp
   subst Z;go_wp2;go_ret;exact⟨rfl,hI.out.2⟩
end Go.Proofs.YteemngnialjaiaaGreatDoor
namespace Go.Proofs
section
open Go.Shelf
def Tryz.laysM176_ren:Go.Shelf.Ren:=⟨fun|176=>254|249=>317|288=>349|283=>369|284=>370|285=>371|286=>372|129=>118|317=>389|318=>390|319=>391|320=>392|337=>406|338=>407|n=>n,fun|37=>268|2=>2|3=>3|53=>195|4=>4|9=>9|171=>384|0=>0|173=>386|212=>399|51=>193|5=>5|20=>20|213=>400|46=>131|232=>413|233=>414|n=>n,fun|17=>3|18=>4|19=>5|n=>n⟩
theorem Tryz.laysM176:Go.Proofs.LaysM.n176 Tryz.prog Tryz.laysM176_ren:=by
 constructor
 all_goals first|kernel_rfl|(intro _;kernel_rfl)|(constructor<;>first|kernel_rfl|(intro _;kernel_rfl))
end
end Go.Proofs
