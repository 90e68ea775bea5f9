/- Part. -/
import Derived.Test.YteemngnialjaiaaGreatDoorQ36
set_option maxRecDepth 100000
set_option maxHeartbeats 16000000
set_option linter.unusedVariables false
set_option linter.unusedSimpArgs false
namespace Go.Proofs.YteemngnialjaiaaGreatDoor
open Go.Proofs.Tryz Go.RowKit
variable {l:List Evt}{k:Nat}{a x y:Pt}{p:Prop}{e:Ending}
theorem tK{l:List Pt}(h:l[k]?=some a):(eF (l.drop k)).length=(evV a).length+(eF (l.drop (k+1))).length:=by
 obtain⟨h1,rfl⟩:=List.getElem?_eq_some_iff.1 h;rw[PE h1,eF,OM]
theorem xZ{l:List Pt}(h:l[k]?=some a):eZ (l.drop k)=(fk a || eZ (l.drop (k+1))):=by
 obtain⟨h1,rfl⟩:=List.getElem?_eq_some_iff.1 h;rw[PE h1,eZ]
mutual
theorem qp:∀x,(evV x).length<=ptN x
 | .mk o l a b c d e=>by
  have:=zi l;rw[evV,ptN,OM]
  split
  ·rw[O0];omega
  ·rw[Ri];omega
theorem zi:∀l,(eF l).length<=cE l
 | []=>by rw[eF,cE];simp
 | a::r=>by
  have:=qp a;have:=zi r;rw[eF,cE,OM];omega
end
theorem ubm(h:p:=by
  obtain⟨k,C,hk,rfl,rfl,hI⟩:=hrel;have hb:=hI.out.2;have z1:=aa hb y1
  by_cases g':k<l.length
  ·have p':(k:Int)<(l.length:Int):=by omega
   obtain⟨b,o,rfl,a'⟩:=HL.out k l[k] (OH g');have hg:=jD (OH g');obtain⟨a,ha⟩:=jF (l[k]);rw[<-ha]at hg a';clear ha;obtain⟨d',e',v',D',f',q',i',j',p0,p1,p2,p3,p4,p5,p6,p7,p8,p9,A',F',E',C'⟩:=qm (bK d _ _ _ _ _ (ae h'.out hb) a');obtain⟨s',u',I,-⟩:=j';obtain⟨r',Z⟩:∃n,n=a.cond.args.length:=⟨_,rfl⟩;rw[<-Z]at I;subst I;obtain⟨Q,hQ⟩:=jE ((evV a).length);have HC:=jD (fun(W:World)(hW:OD wr W)=>n'.out d' f' a v' s' r' u' W (i'.stays (bK d') hW) (y'.out k a hg.out));unfold ptV at HC;rw[hQ]at HC;have J:C+Q+(eF (l.drop (k+1))).length=R:=by have h:=hI.out.1;rw[tK hg.out,hQ]at h;omega
   have B':IntKind.i64.wrap ((C:Int)+(Q:Int))=((C+Q:Nat):Int):=by
    rw[<-Int.natCast_add,eR om]
   have HS:=jD J;clear hQ a' f' i' q' Z J;go_wp2_with fail;refine (HC.out _ (OK _ _)).mono ?_;rintro e w' ⟨rfl,t'⟩;go_wp2_with fail
   go_roundw
   case rel=>exact⟨k+1,C+Q,by omega,by go_num,rfl,jD ⟨HS.out,ae hb t'⟩⟩
   case measure=>simp[intOf];omega
  ·have p':¬(k:Int)<(l.length:Int):=by omega
   obtain rfl:C=R:=by
    have h:=hI.out.1;rw[QL om,eF]at h;exact h
   exact fi (ae h'.out hb)):p:=h
theorem ns(d:Nat)(m':∀d',d=d'+1->∀(x:Pt)(v:Value)(Ac:Option Addr)(nc cc:Nat)(w:World),dg d' w v x.args->ptN x<=1048576 ->
   OE 46 #[ptV x v (.slice Ac nc cc)] w (OB ((evV x).length:Nat)))(x:Pt)(v:Value)(Ac:Option Addr)(nc cc:Nat)(w:World)(hx:dg d w v x.args)(hN:ptN x<=1048576) :
  OE 46 #[ptV x v (.slice Ac nc cc)] w (OB ((evV x).length:Nat)):=by
 have n':=jD m';have c':=qp x;rw[pJ,OM]at c' ⊢;obtain⟨F,hF⟩:∃F,F=(if x.op=0 then [x.vr] else []).length:=⟨_,rfl⟩;have l':x.op=0->F=1:=fun h=>by rw[hF,OG h];rfl
 have k':¬x.op=0->F=0:=fun h=>by rw[hF,OF h];rfl
 rw[<-hF]at c' ⊢;clear hF;obtain⟨op,l,ty,vr,sc,sp,⟨H',l2,P',N',J',⟨k0,n0,t0⟩⟩⟩:=x;rw[cK]at hN c';obtain⟨A,c,rfl,h1,h2,x'⟩:=hx;simp only[Pt.args,Pt.op,Pt.vr]at hN c' h1 h2 x' l' k' ⊢;have G':=aP h1 h2;have HL:=jD x';obtain⟨R,hR⟩:=jE (F+(eF l).length);have HR:=jD hR;rw[hR]at c' ⊢;have Q':R<=1048576:=by omega
 have z':∀(k:Nat) a,l[k]?=some a->ptN a<=1048576:=fun k a h=>by have:=mm h;omega
 have y':=jD z';unfold ptV;simp only[Pt.args,Pt.op,Pt.ty,Pt.vr,Pt.sc,Pt.sp,Pt.cond,Ex.op,Ex.vr,Ex.fl,Ex.kd,Ex.val];clear x' h1 h2 hR hN m' c' z'
 by_cases h0:op=0
 ·obtain rfl:F=1:=l' h0;subst h0;clear l' k';go_enter func46,ntmps46;go_wp2;refine bV fun w1 e1=>?_
  have y1:OC w1 w.heap.size 1 (.slice A l.length c):=jG e1;have h':Hid (OD w w1):=jD (gb e1);clear e1
  go_loopw [3,4] (fun n i wr=>∃k C:Nat,k<=l.length/\i=OB k/\n=OB C/\Hid (C+(eF (l.drop k)).length=R/\OD w1 wr)) (fun n i _=>l.length-(intOf i).toNat)
  case atStart=>exact⟨0,1,OO _,rfl,rfl,jD ⟨by rw[PN];exact HR.out,OK _ _⟩⟩
  case round =>
   exact ubm
 ·have I':(op==0)=false:=jQ h0;obtain rfl:F=0:=k' h0;clear l' k' h0;go_enter func46,ntmps46;go_wp2;refine bV fun w1 e1=>?_
  have y1:OC w1 w.heap.size 1 (.slice A l.length c):=jG e1;have h':Hid (OD w w1):=jD (gb e1);clear e1
  go_loopw [3,4] (fun n i wr=>∃k C:Nat,k<=l.length/\i=OB k/\n=OB C/\Hid (C+(eF (l.drop k)).length=R/\OD w1 wr)) (fun n i _=>l.length-(intOf i).toNat)
  case atStart=>exact⟨0,0,OO _,rfl,rfl,jD ⟨by rw[PN];exact HR.out,OK _ _⟩⟩
  case round =>
   exact ubm
theorem zD(d:Nat):∀(x:Pt)(v:Value)(Ac:Option Addr)(nc J:Nat)(w:World),dg d w v x.args->ptN x<=1048576 ->
  OE 46 #[ptV x v (.slice Ac nc J)] w (OB ((evV x).length:Nat)):=by
 induction d with
 | zero=>exact ns 0 (fun Z h=>by omega)
 | succ d I=>exact ns (d+1) (fun Z h=>Nat.succ.inj h▸I)
theorem qc(d:Nat)(a':∀d',d=d'+1->∀(x:Pt)(v:Value)(Ac:Option Addr)(nc cc:Nat)(w:World),dg d' w v x.args ->
   OE 48 #[ptV x v (.slice Ac nc cc)] w (.bool (fk x)))(x:Pt)(v:Value)(Ac:Option Addr)(nc cc:Nat)(w:World)(hx:dg d w v x.args) :
  OE 48 #[ptV x v (.slice Ac nc cc)] w (.bool (fk x)):=by
 have n':=jD a';rw[me];obtain⟨F,hF⟩:∃F,F=decide (x.op=4):=⟨_,rfl⟩;have J:x.op=4->F=true:=fun h=>by rw[hF,O3 h]
 have I:¬x.op=4->F=false:=fun h=>by rw[hF,OZ h]
 rw[<-hF];clear hF;obtain⟨op,l,ty,vr,sc,sp,⟨A',l2,G',F',D',⟨k0,n0,t0⟩⟩⟩:=x;obtain⟨A,c,rfl,h1,h2,i'⟩:=hx;simp only[Pt.args,Pt.op]at h1 h2 i' J I ⊢;have j':=aP h1 h2;have HL:=jD i';unfold ptV;simp only[Pt.args,Pt.op,Pt.ty,Pt.vr,Pt.sc,Pt.sp,Pt.cond,Ex.op,Ex.vr,Ex.fl,Ex.kd,Ex.val];clear i' h1 h2 a'
 by_cases h0:op=4
 ·obtain rfl:F=true:=J h0;subst h0;clear HL j' J I;go_enter func48,ntmps48;go_wp2;go_ret;exact⟨by simp,ay w _⟩
 ·have C':(op==4)=false:=jQ h0;obtain rfl:F=false:=I h0;rw[Rg];clear J I;obtain⟨R,hR⟩:=jE (eZ l);have HR:=jD hR;rw[hR];clear h0 hR;go_enter func48,ntmps48;go_wp2;refine bV fun w1 e1=>?_
  have y1:OC w1 w.heap.size 1 (.slice A l.length c):=jG e1;have h':Hid (OD w w1):=jD (gb e1);clear e1
  go_loopw [3] (fun i wr=>∃k:Nat,k<=l.length/\i=OB k/\Hid (eZ (l.drop k)=R/\OD w1 wr)) (fun i _=>l.length-(intOf i).toNat)
  case atStart=>exact⟨0,OO _,rfl,jD ⟨by rw[PN];exact HR.out,OK _ _⟩⟩
  case round =>
   obtain⟨k,hk,rfl,hI⟩:=hrel;have hb:=hI.out.2;have z1:=aa hb y1
   by_cases l':k<l.length
   ·have r':(k:Int)<(l.length:Int):=by omega
    obtain⟨b,o,rfl,g'⟩:=HL.out k l[k] (OH l');have hg:=jD (OH l');obtain⟨a,ha⟩:=jF (l[k]);rw[<-ha]at hg g';clear ha;obtain⟨d',e',v',B',k',s',p',q',p0,p1,p2,p3,p4,p5,p6,p7,p8,p9,y',H',E',z'⟩:=qm (bK d _ _ _ _ _ (ae h'.out hb) g');obtain⟨u',x',Z,-⟩:=q';obtain⟨t',f'⟩:∃n,n=a.cond.args.length:=⟨_,rfl⟩;rw[<-f']at Z;subst Z;obtain⟨Q,hQ⟩:=jE (fk a);have HC:=jD (fun(W:World)(hW:OD wr W)=>n'.out d' k' a v' u' t' x' W (p'.stays (bK d') hW));unfold ptV at HC;rw[hQ]at HC;have c':(Q || eZ (l.drop (k+1)))=R:=by have h:=hI.out.1;rw[xZ hg.out,hQ]at h;exact h
    have HS:=jD c';clear hQ g' k' p' s' f' c';go_wp2_with fail;refine (HC.out _ (OK _ _)).mono ?_;rintro e w' ⟨rfl,m'⟩
    cases Q with
    | true =>
     obtain rfl:true=R:=HS.out;go_wp2;go_ret;exact⟨rfl,ae h'.out (ae hb m')⟩
    | false =>
     go_wp2_with fail
     go_roundw
     case rel=>exact⟨k+1,by omega,by go_num,jD ⟨HS.out,ae hb m'⟩⟩
     case measure=>simp[intOf];omega
   ·have r':¬(k:Int)<(l.length:Int):=by omega
    obtain rfl:false=R:=by
     have h:=hI.out.1;rw[QL om,eZ]at h;exact h
    exact fi (ae h'.out hb)
theorem DQ(d:Nat):∀(x:Pt)(v:Value)(Ac:Option Addr)(nc J:Nat)(w:World),dg d w v x.args ->
  OE 48 #[ptV x v (.slice Ac nc J)] w (.bool (fk x)):=by
 induction d with
 | zero=>exact qc 0 (fun Z h=>by omega)
 | succ d I=>exact qc (d+1) (fun Z h=>Nat.succ.inj h▸I)
def On(w:World)(b n:Nat)(e:Ending)(W:World):Prop:=∃r:Nat,e=.returned (OB r)/\(r<=1500↔b^n<=1500)/\OD w W
theorem GI{b i n:Nat}(h:1500<b^i)(J:i<=n):(b^i<=1500↔b^n<=1500):=by
 have I:1<=b:=by
  rcases QS b with e|e
  ·subst e
   cases i with
   | zero=>simp at h
   | succ i=>rw[Nat.zero_pow om]at h;omega
  ·exact e
 have:=Nat.pow_le_pow_right I J;omega
theorem Br(b n:Nat)(w:World)(hb:b<=1048577)(hn:n<=1048577):Calls prog 47 #[OB (b:Int),OB (n:Int),OB 1500] w (On w b n):=by
 go_enter func47,ntmps47;go_wp2_with fail
 go_loopw [7,8] (fun o i wr=>∃k C:Nat,k<=n/\i=OB k/\o=OB C/\Hid (C=b^k/\OD w wr)) (fun _ i _=>n-(intOf i).toNat)
 case atStart=>exact⟨0,1,OO _,rfl,rfl,jD ⟨by simp,OK _ _⟩⟩
 case round =>
  obtain⟨k,C,hk,rfl,rfl,h⟩:=hrel
  by_cases c':k<n
  ·have J:(k:Int)<(n:Int):=by omega
   by_cases hC:C<=1500
   ·have a':(C:Int)<=1500:=by omega
    have hm:C*b<=1500*1048577:=Sc hC hb;have Z:IntKind.i64.wrap ((C:Int)*(b:Int))=((C*b:Nat):Int):=by
     rw[<-Int.natCast_mul];simp[IntKind.wrap,IntKind.bits,IntKind.signed];omega
    have d':IntKind.i64.wrap ((k:Int)+1)=((k+1:Nat):Int):=by simp[IntKind.wrap,IntKind.bits,IntKind.signed];omega
    obtain⟨D,I⟩:=jE (C*b);rw[I]at Z;have HD:=jD I;clear I hm;go_wp2_with fail
    go_roundw
    case rel=>exact⟨k+1,D,by omega,by go_num,rfl,jD ⟨by rw[<-HD.out,h.out.1,RP],h.out.2⟩⟩
    case measure=>simp[intOf];omega
   ·have a':¬(C:Int)<=1500:=by omega
    go_wp2;go_ret;refine⟨C,rfl,?_,h.out.2⟩;rw[h.out.1];exact GI (by rw[<-h.out.1];omega) om
  ·have J:¬(k:Int)<(n:Int):=by omega
   obtain rfl:k=n:=by omega
   go_wp2;go_ret;exact⟨C,rfl,by rw[h.out.1],h.out.2⟩
theorem J6:∀(n:Nat)(x:Pt),ptN x<=n->∀v∈evV x,∃y∈aV x,y.op=0/\y.vr=v:=by
 intro n
 induction n with
 | zero=>intro x h;have:=cK x;omega
 | succ n Z =>
  intro x h v I;have he:=cK x;rw[pJ,Qg]at I;rcases I with I|I
  ·split at I
   ·next h0 =>
    rw[QA]at I;exact⟨x,by rw[fG];exact OR ..,h0,I.symm⟩
   ·simp at I
  ·have:∀ar:List Pt,cE ar<=n->v∈eF ar->∃y∈dq ar,y.op=0/\y.vr=v:=fun ar=>by
    induction ar with
    | nil=>intro _ h;rw[eF]at h;simp at h
    | cons a r J =>
     intro hle h;rw[cE]at hle;rw[eF,Qg]at h;rcases h with h|h
     ·obtain⟨y,hy,h1⟩:=Z a om v h;exact⟨y,by rw[dq];exact Rl _ hy,h1⟩
     ·obtain⟨y,hy,h1⟩:=J om h;exact⟨y,by rw[dq];exact Q0 _ hy,h1⟩
   obtain⟨y,hy,h1⟩:=this x.args om I;exact⟨y,by rw[fG];exact OS _ hy,h1⟩
theorem lS(h:fx x=0):ptN x<=64/\(∀y∈aV x,ptE y=0)/\∀y∈aV x,y.op<8:=by
 unfold fx at h
 by_cases h1:dB x=0
 ·rw[OF (jQ h1)]at h
  by_cases J:(aV x).any (fun y=>decide (8<=y.op))=true
  ·rw[OG J]at h;exact absurd h dc
  ·have I:=h1;unfold dB at I
   by_cases Z:64<ptN x
   ·rw[OG Z]at I;exact absurd I dc
   rw[OF Z]at I
   by_cases h5:12<ptD x
   ·rw[OG h5]at I;exact absurd I dc
   rw[OF h5]at I;refine⟨by omega,fun y hy=>ku I _ (List.mem_map.2 ⟨y,hy,rfl⟩),fun y hy=>?_⟩;rw[RG]at J;refine Int.not_le.1 fun h6=>J ⟨y,hy,jQ h6⟩
 ·rw[OG h1]at h;exact absurd h h1
theorem ru(h:ptE y=0):0<=y.op/\li y.op y.args.length=true/\(y.op=0->0<=y.vr/\y.vr<=15):=by
 unfold ptE at h
 by_cases h1:y.op<0\/10<y.op
 ·rw[OG h1]at h;exact absurd h dc
 rw[OF h1]at h
 by_cases I:li y.op y.args.length=false
 ·rw[OG I]at h;exact absurd h dc
 rw[OF I]at h
 by_cases Z:(gg (ee y.op) y.ty 15 || gg (ee y.op) y.vr 15 || gg (iq y.op) y.sc 63 || gg (fL y.op) y.sp 1099511627776)=true
 ·rw[OG Z]at h;exact absurd h dc
 refine⟨by omega,jQ I,fun h0=>?_⟩;have J:gg (ee y.op) y.vr 15=false:=by
  cases hb:gg (ee y.op) y.vr 15 with
  | false=>rfl
  | true=>rw[hb]at Z;simp at Z
 rw[h0]at J;unfold gg ee at J;simp at J;omega
theorem sZ(h:fx x=0)(hN:ptB x<=1048576):GoodP (evV x) x/\(∀y∈aV x,0<=y.op/\y.op<=7)/\∀v∈evV x,0<=v/\v<16:=by
 obtain⟨h1,J,h3⟩:=lS h;refine⟨⟨fun v Z=>Z,fun y hy=>⟨?_,?_⟩⟩,fun y hy=>⟨(ru (J y hy)).1,by have:=h3 y hy;omega⟩,fun v Z=>?_⟩
 ·have I:=(ru (J y hy)).2.1;have hn:=(ru (J y hy)).1
  by_cases h0:y.op=0
  ·exact .inl h0
  by_cases a':y.op=2
  ·exact .inr (.inl a')
  refine .inr (.inr fun e=>?_);rw[e]at I;unfold li at I;rw[OF h0]at I
  split at I
  ·simp at I
  ·split at I<;>simp at I
 ·have e1:=mP x y hy;have e2:=mD y;omega
 ·obtain⟨y,hy,h0,rfl⟩:=J6 _ x (OI _) v Z;have:=(ru (J y hy)).2.2 h0;omega
def SmallN(n:Nat)(x:Pt):Prop:=n<=10/\(((evV x).length+1)^n<=1500\/(fk x=false/\n^(evV x).length<=1500))
theorem SmallN.less{n m:Nat}(h:SmallN n x)(hm:m<=n):SmallN m x:=by
 refine⟨by have:=h.1;omega,?_⟩;rcases h.2 with h1|⟨h1,h2⟩
 ·exact .inl (OP (Nat.pow_le_pow_right om hm) h1)
 ·exact .inr ⟨h1,OP (RQ hm _) h2⟩
theorem ET{n v:Nat}(J:2<=n)(I:n<=10)(h:n^v<=1500):(v+1)^n<=1048576:=by
 have hv:v<=10:=by
  refine Nat.le_of_not_lt fun Z=>?_
  have h4:2^11<=n^v:=OP (RQ J 11) (Nat.pow_le_pow_right om Z);have:(2:Nat)^11=2048:=by decide
  omega
 have hn:n=2\/n=3\/n=4\/n=5\/n=6\/n=7\/n=8\/n=9\/n=10:=by omega
 have hc:v=0\/v=1\/v=2\/v=3\/v=4\/v=5\/v=6\/v=7\/v=8\/v=9\/v=10:=by omega
 rcases hn with rfl|rfl|rfl|rfl|rfl|rfl|rfl|rfl|rfl<;>rcases hc with rfl|rfl|rfl|rfl|rfl|rfl|rfl|rfl|rfl|rfl|rfl<;>first|decide|(exfalso;revert h;decide)
theorem SmallN.ok{n:Nat}(h:SmallN n x)(J:(evV x).length<=64):CapP n x/\((evV x).length+1)^n<=1048576:=by
 rcases h.2 with h1|⟨h1,h2⟩
 ·exact⟨.inl om,by omega⟩
 ·by_cases I:2<=n
  ·refine⟨.inr ⟨h1,I,?_⟩,ET I h.1 h2⟩;unfold ft
   split
   ·omega
   ·omega
  ·have:n=0\/n=1:=by omega
   rcases this with rfl|rfl
   ·exact⟨.inl (by rw[Nat.pow_zero];omega),by rw[Nat.pow_zero];omega⟩
   ·exact⟨.inl (by rw[Nat.pow_one];omega),by rw[Nat.pow_one];omega⟩
theorem pY(h:fx x=0)(hN:ptB x<=1048576)(I:SmallN l.length x):GoodQ (evV x) l.length x/\cX (evV x) l.length/\l.length<=99:=by
 obtain⟨h1,J,h3⟩:=sZ h hN;have Z:=(lS h).1;have hv:=qp x;obtain⟨hc,hb⟩:=I.ok om;exact⟨⟨h1,J,hc⟩,⟨h3,hb,by have:=I.1;omega⟩,by have:=I.1;omega⟩
theorem sw(l:List Evt)(x:Pt)(d:Nat)(v vc vl:Value)(w:World)(hT:Shp w)(hx:dg d w v x.args)(I:bZ d w vc x.cond.args)(Z:cH w vl l)(J:ptB x<=1048576)(hS:SmallN l.length x) :
  Calls prog 55 #[ptV x v vc,vl] w (MtsRet w l x) :=
 wU (evV x) l x d v vc vl w hT hx I Z J fun h _=>pY h J hS
theorem MtsRet.box{w J W:World}(Z:OD w J)(h:MtsRet J l x e W):MtsRet w l x e W:=by
 refine⟨ae Z h.1,?_⟩;rcases h.2 with h|h|⟨h1,h2,v,ms,h3,h4,h5⟩
 ·exact .inl h
 ·exact .inr (.inl h)
 ·have hs:=Z.size;obtain⟨⟨A,c,rfl,c1,c2,c3⟩,I⟩:=h4;exact .inr (.inr ⟨h1,h2,_,ms,h3,⟨⟨A,c,rfl,c1,c2,fun k e he=>by obtain⟨b,o,e1,e2,e3,hc⟩:=c3 k e he;exact⟨b,o,e1,by omega,e3,hc⟩⟩,fun e he=>⟨(I e he).1,fun g hg=>⟨by have:=((I e he).2 g hg).1;omega,((I e he).2 g hg).2⟩⟩⟩,h5⟩)
theorem nG(l:List Evt)(x:Pt)(d:Nat)(v vc vl:Value)(w:World)(hT:Shp w)(hx:dg d w v x.args)(Z:bZ d w vc x.cond.args)(hl:cH w vl l)(hN:ptB x<=1048576)(hS:SmallN l.length x) :
  Calls prog 23 #[ptV x v vc,vl] w (MtsRet w l x):=by
 have HM:=jD (fun(W:World)(hW:OD w W)=>sw l x d v vc vl W (hT.stays hW) (hx.stays (bK d) hW) (Z.stays (bi d) hW) (hl.stays bX hW) hN hS);obtain⟨Al,cl,rfl,-⟩:=hl;obtain⟨A,c,rfl,-⟩:=hx;obtain⟨Ac,cc,rfl,-⟩:=Z;obtain⟨nl,a'⟩:∃n,n=l.length:=⟨_,rfl⟩;obtain⟨na,I⟩:∃n,n=x.args.length:=⟨_,rfl⟩;obtain⟨nx,c'⟩:∃n,n=x.cond.args.length:=⟨_,rfl⟩;rw[<-a',<-I,<-c']at HM ⊢;clear hT hN hS a' I c';unfold ptV at HM ⊢;go_enter func23,ntmps23;go_wp2_with fail;refine aJ fun w1 e1=>?_
 have h:OD w w1:=gb e1;clear e1;refine (HM.out _ h).mono ?_;intro e w2 J;have H2:=jD (J.box h);rcases J.2 with ⟨-,rfl⟩|⟨-,-,rfl⟩|⟨-,-,v2,ms,rfl,hm,-⟩
 ·clear J h;go_wp2;exact OJ (v:=.tuple #[.slice none 0 0,OB (fx x)]) (by simp[results,results23,go_sem]) rfl H2.out
 ·clear J h;go_wp2;exact OJ (v:=.tuple #[.slice none 0 0,OB (bN l)]) (by simp[results,results23,go_sem]) rfl H2.out
 ·obtain⟨⟨A2,c2,rfl,-⟩,-⟩:=hm;clear J h;go_wp2;exact OJ (v:=.tuple #[.slice A2 ms.length c2,OB 0]) (by simp[results,results23,go_sem]) rfl H2.out
end Go.Proofs.YteemngnialjaiaaGreatDoor
