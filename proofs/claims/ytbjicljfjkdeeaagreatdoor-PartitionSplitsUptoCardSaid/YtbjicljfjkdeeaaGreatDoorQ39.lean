/- Part. -/
import Derived.Test.YtbjicljfjkdeeaaGreatDoorQ38
set_option maxRecDepth 100000
set_option maxHeartbeats 16000000
set_option linter.unusedVariables false
set_option linter.unusedSimpArgs false
namespace Go.Proofs.YtbjicljfjkdeeaaGreatDoor
open Go.Proofs.Tryz Go.RowKit
theorem tK {l:List Pt} {k:Nat} {a:Pt} (h:l[k]?=some a):(dZ (l.drop k)).length=(evV a).length+(dZ (l.drop (k+1))).length:=by
 obtain⟨z,rfl⟩:=List.getElem?_eq_some_iff.1 h;rw[Nd z,dZ,Mw]
theorem xH {l:List Pt} {k:Nat} {a:Pt} (h:l[k]?=some a):eH (l.drop k)=(eW a || eH (l.drop (k+1))):=by
 obtain⟨z,rfl⟩:=List.getElem?_eq_some_iff.1 h;rw[Nd z,eH]
mutual
theorem qa:∀x,(evV x).length<=ptN x
 | .mk o l a b c d e=>by
  have:=yD l;rw[evV,ptN,Mw]
  split
  ·rw[MH];omega
  ·rw[Og];omega
theorem yD:∀l,(dZ l).length<=bI l
 | []=>by rw[dZ,bI];simp
 | a::r=>by
  have:=qa a;have:=yD r;rw[dZ,bI,Mw];omega
end
theorem ubv {p:Prop} (h:p:=by
  obtain⟨k,C,hk,rfl,rfl,hI⟩:=hrel;have hb:=hI.out.2;have z1:=aa hb y1
  by_cases a':k<l.length
  ·have l':(k:Int)<(l.length:Int):=by omega
   obtain⟨b,o,rfl,J⟩:=HL.out k l[k] (Mq a');have hg:=jD (Mq a');obtain⟨a,ha⟩:=jF (l[k]);rw[<-ha]at hg J;clear ha;obtain⟨d',e',v',A',Z,m',f',g',p0,p1,p2,p3,p4,p5,p6,p7,p8,p9,x',C',B',z'⟩:=eo (aB d _ _ _ _ _ (ab c'.out hb) J);obtain⟨p',r',z,-⟩:=g';obtain⟨n',I⟩:∃n,n=a.cond.args.length:=⟨_,rfl⟩;rw[<-I]at z;subst z;obtain⟨Q,hQ⟩:=jE ((evV a).length);have HC:=jD (fun (W:World) (hW:Mm wr W)=>k'.out d' Z a v' p' n' r' W (f'.stays (aB d') hW) (t'.out k a hg.out));unfold ptV at HC;rw[hQ]at HC;have G:C+Q+(dZ (l.drop (k+1))).length=R:=by have h:=hI.out.1;rw[tK hg.out,hQ]at h;omega
   have y':IntKind.i64.wrap ((C:Int)+(Q:Int))=((C+Q:Nat):Int):=by
    rw[<-Oe,bM om]
   have HS:=jD G;clear hQ J Z f' m' I G;go_wp2_with fail;refine (HC.out _ (Mr _ _)).mono ?_;rintro e w' ⟨rfl,q'⟩;go_wp2_with fail
   go_roundw
   case rel=>exact⟨k+1,C+Q,by omega,by go_num,rfl,jD ⟨HS.out,ab hb q'⟩⟩
   case measure=>simp[intOf];omega
  ·have l':¬(k:Int)<(l.length:Int):=by omega
   obtain rfl:C=R:=by
    have h:=hI.out.1;rw[No om,dZ]at h;exact h
   exact fi (ab c'.out hb)):p:=h
theorem mK (d:Nat) (j':∀d',d=d'+1->∀(x:Pt) (v:Value) (Ac:Option Addr) (nc cc:Nat) (w:World),aU d' w v x.args->ptN x<=1048576 ->
   Mn 55 #[ptV x v (.slice Ac nc cc)] w (Mk ((evV x).length:Nat)))
  (x:Pt) (v:Value) (Ac:Option Addr) (nc cc:Nat) (w:World) (hx:aU d w v x.args) (hN:ptN x<=1048576) :
  Mn 55 #[ptV x v (.slice Ac nc cc)] w (Mk ((evV x).length:Nat)):=by
 have k':=jD j';have O:=qa x;rw[px,Mw]at O ⊢;obtain⟨F,hF⟩:∃F,F=(if x.op=0 then [x.vr] else []).length:=⟨_,rfl⟩;have i':x.op=0->F=1:=fun h=>by rw[hF,Mp h];rfl
 have h':¬x.op=0->F=0:=fun h=>by rw[hF,Mo h];rfl
 rw[<-hF]at O ⊢;clear hF;obtain⟨op,l,ty,vr,sc,sp,⟨E',l2,I',H',G',⟨k0,n0,t0⟩⟩⟩:=x;rw[cX]at hN O;obtain⟨A,c,rfl,h1,h2,s'⟩:=hx;simp only[Pt.args,Pt.op,Pt.vr]at hN O h1 h2 s' i' h' ⊢;have D':=ay h1 h2;have HL:=jD s';obtain⟨R,hR⟩:=jE (F+(dZ l).length);have HR:=jD hR;rw[hR]at O ⊢;have J':R<=1048576:=by omega
 have u':∀(k:Nat) a,l[k]?=some a->ptN a<=1048576:=fun k a h=>by have:=oQ h;omega
 have t':=jD u';unfold ptV;simp only[Pt.args,Pt.op,Pt.ty,Pt.vr,Pt.sc,Pt.sp,Pt.cond,Ex.op,Ex.vr,Ex.fl,Ex.kd,Ex.val];clear s' h1 h2 hR hN j' O u'
 by_cases h0:op=0
 ·obtain rfl:F=1:=i' h0;subst h0;clear i' h';go_enter func55,ntmps55;go_wp2;refine bg fun w1 e1=>?_
  have y1:Ml w1 w.heap.size 1 (.slice A l.length c):=jG e1;have c':Hid (Mm w w1):=jD (gb e1);clear e1
  go_loopw [3,4] (fun n i wr=>∃k C:Nat,k<=l.length/\i=Mk k/\n=Mk C/\Hid (C+(dZ (l.drop k)).length=R/\Mm w1 wr)) (fun n i _=>l.length-(intOf i).toNat)
  case atStart=>exact⟨0,1,Mu _,rfl,rfl,jD ⟨by rw[OD];exact HR.out,Mr _ _⟩⟩
  case round =>
   exact ubv
 ·have F':(op==0)=false:=jQ h0;obtain rfl:F=0:=h' h0;clear i' h' h0;go_enter func55,ntmps55;go_wp2;refine bg fun w1 e1=>?_
  have y1:Ml w1 w.heap.size 1 (.slice A l.length c):=jG e1;have c':Hid (Mm w w1):=jD (gb e1);clear e1
  go_loopw [3,4] (fun n i wr=>∃k C:Nat,k<=l.length/\i=Mk k/\n=Mk C/\Hid (C+(dZ (l.drop k)).length=R/\Mm w1 wr)) (fun n i _=>l.length-(intOf i).toNat)
  case atStart=>exact⟨0,0,Mu _,rfl,rfl,jD ⟨by rw[OD];exact HR.out,Mr _ _⟩⟩
  case round =>
   exact ubv
theorem yO (d:Nat):∀(x:Pt) (v:Value) (Ac:Option Addr) (J G:Nat) (w:World),aU d w v x.args->ptN x<=1048576 ->
  Mn 55 #[ptV x v (.slice Ac J G)] w (Mk ((evV x).length:Nat)):=by
 induction d with
 | zero=>exact mK 0 (fun I h=>by omega)
 | succ d z=>exact mK (d+1) (fun I h=>NU h▸z)
theorem pQ (d:Nat) (J:∀d',d=d'+1->∀(x:Pt) (v:Value) (Ac:Option Addr) (nc cc:Nat) (w:World),aU d' w v x.args ->
   Mn 57 #[ptV x v (.slice Ac nc cc)] w (.bool (eW x)))
  (x:Pt) (v:Value) (Ac:Option Addr) (nc cc:Nat) (w:World) (hx:aU d w v x.args) :
  Mn 57 #[ptV x v (.slice Ac nc cc)] w (.bool (eW x)):=by
 have k':=jD J;rw[lM];obtain⟨F,hF⟩:∃F,F=decide (x.op=4):=⟨_,rfl⟩;have G:x.op=4->F=true:=fun h=>by rw[hF,Nm h]
 have z:¬x.op=4->F=false:=fun h=>by rw[hF,Nb h]
 rw[<-hF];clear hF;obtain⟨op,l,ty,vr,sc,sp,⟨x',l2,D',C',A',⟨k0,n0,t0⟩⟩⟩:=x;obtain⟨A,c,rfl,h1,h2,f'⟩:=hx;simp only[Pt.args,Pt.op]at h1 h2 f' G z ⊢;have g':=ay h1 h2;have HL:=jD f';unfold ptV;simp only[Pt.args,Pt.op,Pt.ty,Pt.vr,Pt.sc,Pt.sp,Pt.cond,Ex.op,Ex.vr,Ex.fl,Ex.kd,Ex.val];clear f' h1 h2 J
 by_cases h0:op=4
 ·obtain rfl:F=true:=G h0;subst h0;clear HL g' G z;go_enter func57,ntmps57;go_wp2;go_ret;exact⟨by simp,af w _⟩
 ·have z':(op==4)=false:=jQ h0;obtain rfl:F=false:=z h0;rw[On];clear G z;obtain⟨R,hR⟩:=jE (eH l);have HR:=jD hR;rw[hR];clear h0 hR;go_enter func57,ntmps57;go_wp2;refine bg fun w1 e1=>?_
  have y1:Ml w1 w.heap.size 1 (.slice A l.length c):=jG e1;have c':Hid (Mm w w1):=jD (gb e1);clear e1
  go_loopw [3] (fun i wr=>∃k:Nat,k<=l.length/\i=Mk k/\Hid (eH (l.drop k)=R/\Mm w1 wr)) (fun i _=>l.length-(intOf i).toNat)
  case atStart=>exact⟨0,Mu _,rfl,jD ⟨by rw[OD];exact HR.out,Mr _ _⟩⟩
  case round =>
   obtain⟨k,hk,rfl,hI⟩:=hrel;have hb:=hI.out.2;have z1:=aa hb y1
   by_cases i':k<l.length
   ·have n':(k:Int)<(l.length:Int):=by omega
    obtain⟨b,o,rfl,a'⟩:=HL.out k l[k] (Mq i');have hg:=jD (Mq i');obtain⟨a,ha⟩:=jF (l[k]);rw[<-ha]at hg a';clear ha;obtain⟨d',e',v',y',h',p',l',m',p0,p1,p2,p3,p4,p5,p6,p7,p8,p9,t',E',B',u'⟩:=eo (aB d _ _ _ _ _ (ab c'.out hb) a');obtain⟨r',s',I,-⟩:=m';obtain⟨q',Z⟩:∃n,n=a.cond.args.length:=⟨_,rfl⟩;rw[<-Z]at I;subst I;obtain⟨Q,hQ⟩:=jE (eW a);have HC:=jD (fun (W:World) (hW:Mm wr W)=>k'.out d' h' a v' r' q' s' W (l'.stays (aB d') hW));unfold ptV at HC;rw[hQ]at HC;have O:(Q || eH (l.drop (k+1)))=R:=by have h:=hI.out.1;rw[xH hg.out,hQ]at h;exact h
    have HS:=jD O;clear hQ a' h' l' p' Z O;go_wp2_with fail;refine (HC.out _ (Mr _ _)).mono ?_;rintro e w' ⟨rfl,j'⟩
    cases Q with
    | true =>
     obtain rfl:true=R:=HS.out;go_wp2;go_ret;exact⟨rfl,ab c'.out (ab hb j')⟩
    | false =>
     go_wp2_with fail
     go_roundw
     case rel=>exact⟨k+1,by omega,by go_num,jD ⟨HS.out,ab hb j'⟩⟩
     case measure=>simp[intOf];omega
   ·have n':¬(k:Int)<(l.length:Int):=by omega
    obtain rfl:false=R:=by
     have h:=hI.out.1;rw[No om,eH]at h;exact h
    exact fi (ab c'.out hb)
theorem C1 (d:Nat):∀(x:Pt) (v:Value) (Ac:Option Addr) (J G:Nat) (w:World),aU d w v x.args ->
  Mn 57 #[ptV x v (.slice Ac J G)] w (.bool (eW x)):=by
 induction d with
 | zero=>exact pQ 0 (fun I h=>by omega)
 | succ d z=>exact pQ (d+1) (fun I h=>NU h▸z)
def Md (w:World) (b n:Nat) (e:Ending) (W:World):Prop:=∃r:Nat,e=.returned (Mk r)/\(r<=1500↔b^n<=1500)/\Mm w W
theorem Gi {b i n:Nat} (h:1500<b^i) (G:i<=n):(b^i<=1500↔b^n<=1500):=by
 have z:1<=b:=by
  rcases OT b with e|e
  ·subst e
   cases i with
   | zero=>simp at h
   | succ i=>rw[Nat.zero_pow om]at h;omega
  ·exact e
 have:=PN z G;omega
theorem AO (b n:Nat) (w:World) (hb:b<=1048577) (hn:n<=1048577):Calls prog 56 #[Mk (b:Int),Mk (n:Int),Mk 1500] w (Md w b n):=by
 go_enter func56,ntmps56;go_wp2_with fail
 go_loopw [7,8] (fun o i wr=>∃k C:Nat,k<=n/\i=Mk k/\o=Mk C/\Hid (C=b^k/\Mm w wr)) (fun _ i _=>n-(intOf i).toNat)
 case atStart=>exact⟨0,1,Mu _,rfl,rfl,jD ⟨by simp,Mr _ _⟩⟩
 case round =>
  obtain⟨k,C,hk,rfl,rfl,h⟩:=hrel
  by_cases O:k<n
  ·have G:(k:Int)<(n:Int):=by omega
   by_cases Z:C<=1500
   ·have J:(C:Int)<=1500:=by omega
    have hm:C*b<=1500*1048577:=Px Z hb;have I:IntKind.i64.wrap ((C:Int)*(b:Int))=((C*b:Nat):Int):=by
     rw[<-Int.natCast_mul];simp[IntKind.wrap,IntKind.bits,IntKind.signed];omega
    have a':IntKind.i64.wrap ((k:Int)+1)=((k+1:Nat):Int):=by simp[IntKind.wrap,IntKind.bits,IntKind.signed];omega
    obtain⟨D,z⟩:=jE (C*b);rw[z]at I;have HD:=jD z;clear z hm;go_wp2_with fail
    go_roundw
    case rel=>exact⟨k+1,D,by omega,by go_num,rfl,jD ⟨by rw[<-HD.out,h.out.1,Pf],h.out.2⟩⟩
    case measure=>simp[intOf];omega
   ·have J:¬(C:Int)<=1500:=by omega
    go_wp2;go_ret;refine⟨C,rfl,?_,h.out.2⟩;rw[h.out.1];exact Gi (by rw[<-h.out.1];omega) om
  ·have G:¬(k:Int)<(n:Int):=by omega
   obtain rfl:k=n:=by omega
   go_wp2;go_ret;exact⟨C,rfl,by rw[h.out.1],h.out.2⟩
section
section
open Go.RowKit Go.Shelf
open Go.Sort (SWO PermIn SortedIn HoldsK grow)
instance bndInh:Inhabited Bnd:=⟨⟨0,0,0,0⟩⟩
def kY (x:Bnd):List Value:=[Mk x.v,Mk x.t,Mk x.s,Mk x.n]
end
end
def fj (l:List Bnd):List Value:=l.flatMap kY
theorem xF (l:List Bnd):∀u∈fj l,u.oneCell'=true:=fun u hu=>by
 obtain⟨x,_,h⟩:=List.mem_flatMap.1 hu;simp only[kY,MN,Nh,Ni]at h;rcases h with rfl|rfl|rfl|rfl<;>rfl
theorem gC:∀{l:List Bnd} {k:Nat} {x:Bnd},l[k]?=some x->∀r,r<4->(fj l)[k*4+r]?=(kY x)[r]?
 | [],k,x,h,_,_=>by simp at h
 | y::l,0,x,h,r,hr=>by
  simp at h;subst h;unfold fj;rw[MM,Nn,MC,MQ (by simpa [kY] using hr)]
 | y::l,k+1,x,h,r,hr=>by
  have z:=gC (l:=l) (k:=k) (x:=x) (jQ h) r hr;unfold fj at z ⊢;rw[MM,M7 (by simp[kY];omega),<-z];congr 1;simp[kY];omega
theorem F2 {B:Nat} {wr:World} {G:Value} {l:List Bnd} (h:wr.ownsRow B 57 4 G l.length (fj l)):bD wr G l:=by
 obtain⟨A,c,rfl,I,h3,O⟩:=dQ h (xF l);refine⟨A,c,rfl,I,h3,fun k x hk=>?_⟩;have J:=(List.getElem?_eq_some_iff.1 hk).1;obtain⟨b,o,Z,z⟩:=O.2.2 om;refine⟨b,o,Z,z _ _ ?_,?_,?_,?_⟩
 ·have:=gC hk 0 dc;simpa [kY] using this
 ·have:=gC hk 1 dc;rw[NT];exact z _ _ (by simpa [kY] using this)
 ·have:=gC hk 2 dc;rw[NT];exact z _ _ (by simpa [kY] using this)
 ·have:=gC hk 3 dc;rw[NT];exact z _ _ (by simpa [kY] using this)
section
open Go.RowKit Go.Lib
def MatsNew (B:Nat) (W:World) (v:Value) (ms:List MV):Prop:=(∃A c,v=.slice A ms.length c/\ms.length<=c/\c<=maxLen/\∀(k:Nat) e,ms[k]?=some e->∃b o,A=some ⟨b,o,none⟩/\B<=b/\b<W.heap.size/\W.cell? ⟨b,o+k,none⟩=some e.2) /\
 ∀e∈ms,bD W e.2 e.1/\∀g,e.2.ownBlock=some g->B<=g/\g<W.heap.size
theorem MatsNew.is {B:Nat} {W:World} {v:Value} {ms:List MV} (h:MatsNew B W v ms):il W v (ms.map (·.1)):=by
 obtain⟨⟨A,c,rfl,I,z,J⟩,G⟩:=h;refine⟨A,c,by rw[MB],by rw[MB];exact I,z,fun k m hm=>?_⟩;rw[MA]at hm;obtain⟨e,he,rfl⟩:=Option.map_eq_some_iff.1 hm;obtain⟨b,o,O,-,-,Z⟩:=J k e he;exact⟨b,o,O,e.2,(G e (MI he)).1,by rw[NF];exact Z⟩
theorem MatsNew.stays {B:Nat} {W W':World} {v:Value} {ms:List MV} (h:MatsNew B W v ms) (z:Mm W W'):MatsNew B W' v ms:=by
 obtain⟨⟨A,c,rfl,O,J,h3⟩,G⟩:=h;exact⟨⟨A,c,rfl,O,J,fun k e he=>by obtain⟨b,o,e1,e2,e3,Z⟩:=h3 k e he;exact⟨b,o,e1,e2,ME e3 z.size,aa z Z⟩⟩,fun e he=>⟨(G e he).1.stays bL z,fun g I=>⟨((G e he).2 g I).1,ME ((G e he).2 g I).2 z.size⟩⟩⟩
def MtsRet (w:World) (l:List Evt) (x:Pt) (e:Ending) (W:World):Prop:=Mm w W /\
 ((fq x≠0/\e=.returned (.tuple #[.slice none 0 0,Mk (fq x)]))\/(fq x=0/\bH l≠0/\e=.returned (.tuple #[.slice none 0 0,Mk (bH l)])) \/
  (fq x=0/\bH l=0/\∃v ms,e=.returned (.tuple #[v,Mk 0])/\MatsNew w.heap.size W v ms/\ms.map (·.1)=cI l x))
theorem iS {l:List Evt} (h:bH l=0):Ag l:=(kJ h).1.asc
theorem og {ms:List (List Bnd)} (h:ms.Pairwise (fun a b=>¬bsC b a<0)) (z:ms.Nodup):ms.Pairwise (fun a b=>bsC a b<0):=by
 rw[List.nodup_iff_pairwise_ne]at z;refine (h.and z).imp fun {a b} hab=>?_
 have I:=gF.anti a b;have G:bsC a b≠0:=fun e=>hab.2 (Fe.1 e)
 have:=hab.1;omega
theorem rX {l:List Evt} {x:Pt} {V:List Int} (J:GoodQ V l.length x) (hs:Ag l) {es es':List MV} (he:es.map (·.1)=(bj l x [] 0).map (mOf l)) (hp:es'.Perm es) (O:(es'.map (·.1)).Pairwise (fun a b=>¬bsC b a<0)):es'.map (·.1)=cI l x:=by
 have hn:((bj l x [] 0).map (mOf l)).Nodup:=nH (ll l x [] 0) fun s I t Z e=>BU hs (fun z G=>((eu J I).ok.2.2 z G).2) (fun z G=>((eu J Z).ok.2.2 z G).2) e
 have h:(es'.map (·.1)).Perm ((bj l x [] 0).map (mOf l)):=he▸hp.map _;rw[<-zj l J.okA];exact rq (og O (h.nodup_iff.2 hn)) fun k=>h.mem_iff
theorem wG (V:List Int) (l:List Evt) (x:Pt) (d:Nat) (v vc vl:Value) (w:World) (hT:Shp w) (hx:aU d w v x.args) (Z0:aK d w vc x.cond.args) (hl:bh w vl l) (hN:ptB x<=1048576) (hS:fq x=0->bH l=0->GoodQ V l.length x/\dR V l.length/\l.length<=99) :
  Calls prog 26 #[ptV x v vc,vl] w (MtsRet w l x):=by
 have y':=jD (fun (W:World) (hW:Mm w W)=>pW d x v vc W (hT.stays hW) (hx.stays (aB d) hW) (Z0.stays (ai d) hW) hN);have E1:=jD (fun (W:World) (hW:Mm w W)=>ra l vl W (hl.stays aG hW));have HS:=jD hS;have H6:=jD hN;have HX:=jD hx;have X2:=jD Z0;have HL:=jD hl;obtain⟨Al,cl,rfl,l1,l2,S'⟩:=hl;obtain⟨A,c,rfl,-⟩:=hx;obtain⟨Ac,cc,rfl,-⟩:=Z0;have P3:=ay l1 l2;have Y7:=jD S';obtain⟨nl,V1⟩:∃n,n=l.length:=⟨_,rfl⟩;obtain⟨na,E2⟩:∃n,n=x.args.length:=⟨_,rfl⟩;obtain⟨nx,U3⟩:∃n,n=x.cond.args.length:=⟨_,rfl⟩;have R':=jD V1;rw[<-V1]at E1 HL P3 ⊢;rw[<-E2]at y' HX ⊢;rw[<-U3]at y' X2 ⊢;obtain⟨pe,T1⟩:∃e,e=fq x:=⟨_,rfl⟩;obtain⟨se,U1⟩:∃e,e=bH l:=⟨_,rfl⟩;have p':=jD T1;have i':=jD U1;rw[<-T1]at y';rw[<-U1]at E1;obtain⟨j0,Q7,V8,Z7,W6⟩:=Np Gk;obtain⟨i0,P6,R8,A7,W7⟩:=Np yr;clear hT S' l1 l2 V1 E2 U3 hS hN T1 U1;unfold ptV at y' ⊢;go_enter func26,ntmps26;go_wp2_with fail;refine aI fun w1 O=>?_
 obtain⟨bp,S1⟩:∃q,q=w.heap.size:=⟨_,rfl⟩;have A2:Mm w w1:=gb O;have G2:Cells w1 bp 0 (aM x (.slice A na c) (.slice Ac nx cc)):=by rw[S1];exact cU (jG O) (jG O) (jG O) (jG O) (jG O) (jG O) (jG O) (jG O) (jG O) (jG O) (jG O) (jG O) (jG O) (jG O)
 rw[<-S1];clear O;refine (y'.out _ A2).mono ?_;rintro e w2 ⟨rfl,P1⟩;have P':=jD (ab A2 P1);have V3:=jD (dw G2 P1);clear A2 P1 G2 S1
 by_cases J':pe=0
 case neg =>
  have Y8:(pe != 0)=true:=jQ J';have V6:=jD J';clear J';go_wp2;exact Mv (v:=.tuple #[.slice none 0 0,Mk pe]) (by simp[results,results26,go_sem]) rfl ⟨P'.out,.inl ⟨by rw[<-p'.out];exact V6.out,by rw[<-p'.out]⟩⟩
 subst J';go_wp2_with fail;refine (E1.out _ P'.out).mono ?_;rintro e w3 ⟨rfl,P0⟩;have Z1:=jD (ab P'.out P0);have S3:=jD (dw V3.out P0);clear P0 V3 P'
 by_cases H':se=0
 case neg =>
  have H9:(se != 0)=true:=jQ H';have U6:=jD H';clear H';go_wp2;exact Mv (v:=.tuple #[.slice none 0 0,Mk se]) (by simp[results,results26,go_sem]) rfl ⟨Z1.out,.inr (.inl ⟨p'.out.symm,by rw[<-i'.out];exact U6.out,by rw[<-i'.out]⟩)⟩
 subst H';obtain⟨hG,B3,B2⟩:=HS.out p'.out.symm i'.out.symm;have HG:=jD hG;have Y':=wi hG [] 0;have l':Hid (∀(C:Nat) (W:World),Mm w W->W.cell? ⟨C,0,none⟩=some (.slice Al nl cl)->W.cell? ⟨C,1,none⟩=some (.bool false)->Calls prog 51 #[.pointer (some ⟨C,0,none⟩),ptV x (.slice A na c) (.slice Ac nx cc),.slice none 0 0,Mk 0] W (gY W (bj l x [] 0))) :=
  jD fun C W hW h1 h2=>Jv V l B3 B2 (ptN x) (by have:=jM x;have:=H6.out;omega) x (Mt _) hG [] 0 ⟨List.Pairwise.nil,fun z hz=>by simp at hz⟩ (Mu _) d d C _ _ _ _ W h1 h2 (HL.out.stays aG hW) (HX.out.stays (aB d) hW) (X2.out.stays (ai d) hW) (Sl.nil _ _ _ _ _ (Mu _))
 have U2:Hid (∀s∈bj l x [] 0,SetV V 0 l.length s):=jD fun s hs=>eu hG hs
 obtain⟨L,hL⟩:=jF (bj l x [] 0);rw[<-hL]at Y' l' U2;have K3:=jD hL;obtain⟨q0,q1,q2,q3,q4,q5,q6,q7,q8,q9,T6,R6,T5,V7⟩:=dU S3.out;have Y5:=Ms w3 ⟨bp,_,none⟩ q0;have X5:Hid (nl<=99):=jD (by rw[R'.out];exact B2);clear hG B3 B2 hL;unfold ptV at l';go_wp2_with fail;refine aI fun w4 e4=>?_
 obtain⟨C,hC⟩:∃q,q=w3.heap.size:=⟨_,rfl⟩;have W1:Mm w3 w4:=gb e4;have z0:Ml w4 C 0 (.slice Al nl cl):=jW e4 hC;have z1:Ml w4 C 1 (.bool false):=jW e4 hC;rw[<-hC];have T9:Hid (w3.heap.size<=C):=jD om;clear e4 hC;refine (l'.out C _ (ab Z1.out W1) z0 z1).mono ?_;rintro e w5 ⟨v5,rfl,K1,R0⟩;have d':=jD (ab (ab Z1.out W1) R0);have B6:=aa R0 z1;have ca:=Ms w5 ⟨C,_,none⟩ B6;have P2:=jD K1;obtain⟨A5,c5,rfl,X6⟩:=K1.form;obtain⟨n5,Y0⟩:∃n,n=L.length:=⟨_,rfl⟩;have Q3:=jD Y0;rw[<-Y0]at P2 X6 Y' ⊢;clear K1 Y0 q0 q1 q2 q3 q4 q5 q6 q7 q8 q9 T6 R6 T5 V7 z0 z1 W1 R0 l' Y5 S3;go_wp2_with fail
 go_loopw [10,38] (fun av t wr=>∃(k:Nat) (ms:List MV),k<=n5/\t=Mk k/\ms.length=k/\Hid (ms.map (·.1)=(L.take k).map (mOf l)/\MW w5.heap.size wr av ms/\Mm w5 wr)) (fun _ t _=>n5-(intOf t).toNat)
 case atStart=>exact⟨0,[],Mu _,rfl,rfl,jD ⟨rfl,MW.nil _ _,Mr _ _⟩⟩
 case round =>
  obtain⟨k5,ms,V9,rfl,W4,n'⟩:=hrel;have G:=n'.out.2.2;have X0:=jD W4;clear W4
  by_cases X8:k5<n5
  ·have Z4:(k5:Int)<(n5:Int):=by omega
   obtain⟨wk,S4⟩:=jF wr;rw[<-S4]at n' G ⊢;clear S4;obtain⟨s,hs⟩:∃s,L[k5]?=some s:=⟨_,Mq (by have:=Q3.out;omega)⟩;have F1:=U2.out s (MI hs);have T4:=F1.n63;have Y6:=jD hs;obtain⟨sb,so,us,rfl,Y1,Q6⟩:=(SetsIn.stays P2.out G).at hs;have K4:=Ms wk ⟨sb,_,none⟩ Y1;obtain⟨gs,os,ks,rfl,X4,K5,-,-,U'⟩:=Q6;have H5:=jD U';have Z5:Hid (∀z∈s,z.2<nl):=jD fun z hz=>by rw[R'.out];exact (F1.ok.2.2 z hz).2
   have B5:Hid (s.length<=nl):=jD (by rw[R'.out];exact T4);have H4:=ay X4 K5;obtain⟨j',r'⟩:∃n,n=s.length:=⟨_,rfl⟩;rw[<-r']at B5 H4 Y1;have R2:=jD r';have a':=jD G;have D':=jD n'.out;have V':0<j'->gs<wk.heap.size:=fun h=>by
    obtain⟨z,hz⟩:∃z,s[0]?=some z:=⟨_,Mq om⟩;exact Ms wk ⟨gs,_,none⟩ (H5.out 0 z hz).1
   have S8:=jD V';clear hs F1 T4 U' X4 K5 r' G n' V';go_wp2_with fail;refine bg fun wM eM=>?_
   obtain⟨M,hM⟩:=jF wk.heap.size;have V4:Mm wk wM:=gb eM;have R4:wM.heap[M]?=some (.cells [Value.slice none 0 0].toArray 49 (0,0)):=by rw[eM,hM];exact Nr wk _
   have V2:wM.heap.size=M+1:=by rw[eM,hM];simp
   rw[<-hM];have S5:=jD V4;have Q4:=jD R4;have P8:=jD V2;have B':=jD hM;clear eM V4 R4 V2 hM Y1 K4
   go_loopw [44] (fun t wr=>∃(k:Nat) (u:Value),k<=j'/\t=Mk k/\Hid (wr.cell? ⟨M,0,none⟩=some u/\wr.frozen? ⟨M,0,none⟩=false/\wr.ownsRow (M+1) 57 4 u k (fj ((s.take k).map (bOf l)))/\Mm wk wr/\M+1<=wr.heap.size)) (fun t _=>j'-(intOf t).toNat)
   case atStart=>exact⟨0,.slice none 0 0,Mu _,rfl,jD ⟨by rw[ae Q4.out];rfl,aw Q4.out 0,⟨by simp[fj],.inl ⟨rfl,rfl⟩⟩,S5.out,N2 P8.out.symm⟩⟩
   case round =>
    obtain⟨k,u,hk,rfl,hI⟩:=hrel;have J:=hI.out.2.2.2.1;have U4:=hI.out.2.2.2.2
    by_cases U9:k<j'
    ·have P7:(k:Int)<(j':Int):=by omega
     obtain⟨x,hx⟩:∃x,s[k]?=some x:=⟨_,Mq (by have:=R2.out;omega)⟩;have G1:=Z5.out x (MI hx);obtain⟨y0,y1⟩:=H5.out k x hx;have N':(s.take (k+1)).map (bOf l)=(s.take k).map (bOf l)++[bOf l x]:=pO hx;obtain⟨pv,j⟩:=x;simp only at y0 y1 G1;obtain⟨y,hy⟩:∃y,l[j]?=some y:=⟨_,Mq (by rw[<-R'.out];exact G1)⟩;have Q5:bOf l (pv,j)=⟨pv,y.tm,y.src,y.sq⟩:=by unfold bOf;rw[hy];rfl
     rw[Q5]at N';obtain⟨be,oe,rfl,ve,Q8,q0,q1,q2,q3,q4⟩:=Y7.out j y hy;obtain⟨Ay,cy,rfl,-⟩:=Q8;have X3:be<w.heap.size:=Ms w ⟨be,_,none⟩ q0;have A1:=S8.out om;have Z:Mm w wr:=(d'.out.trans (a'.out.mono d'.out.size)).trans (J.mono (by have:=d'.out.size;have:=a'.out.size;omega));replace y0:=aa J y0;replace y1:=aa J y1;replace q0:=aa Z q0;replace q1:=aa Z q1;replace q2:=aa Z q2;replace q3:=aa Z q3;replace q4:=aa Z q4;obtain⟨ny,H2⟩:∃n,n=y.vals.length:=⟨_,rfl⟩;rw[<-H2]at q4;obtain⟨A4,c4,X1⟩:=aH hI.out.2.2.1;subst X1;have Y2:gs<wr.heap.size:=by have:=J.size;omega
     go_wp2_with fail;refine bg fun wj ej=>?_
     obtain⟨K,hK⟩:=jF wr.heap.size;have I:Mm wr wj:=gb ej;have Y3:Ml wj K 0 (Mk pv):=jW ej hK;have S2:Ml wj K 1 (Mk (j:Int)):=jW ej hK;have o0:=aa I hI.out.1;have S7:wj.frozen? ⟨M,0,none⟩=false:=(World.frozen?_of_block (a:=⟨M,0,none⟩) (I.block M om)).trans hI.out.2.1;replace q0:=aa I q0;replace q1:=aa I q1;replace q2:=aa I q2;replace q3:=aa I q3;replace q4:=aa I q4;have T7:=I.size;rw[<-hK];clear y0 y1;have y0:=Y3;have y1:=S2;clear Y3 S2;have W2:M<wj.heap.size:=by omega
     have R9:=Ms wj ⟨K,_,none⟩ y0;have A9:be<wj.heap.size:=Ms wj ⟨be,_,none⟩ q0;have X9:(j:Int)<(nl:Int):=by omega
     have S9:k<=99:=by have:=B5.out;have:=X5.out;omega
     obtain⟨pre,Z'⟩:=jF ((s.take k).map (bOf l));rw[<-Z']at hI N';have U8:=jD N';have G':Hid (wj.ownsRow (M+1) 57 4 (.slice A4 k c4) k (fj pre)):=jD (ao hI.out.2.2.1 I);have K0:Hid ((Value.slice A4 k c4).ownBlock≠some M):=jD fun e=>by have:=(ag G'.out e).1;omega
     have T3:Hid ((Value.slice A4 k c4).ownBlock≠some K):=jD fun e=>by have:=(ag hI.out.2.2.1 e).2;omega
     have t':Hid ((Value.slice A4 k c4).ownBlock≠some be):=jD fun e=>by have:=(ag G'.out e).1;have:=d'.out.size;have:=a'.out.size;have:=B'.out;omega
     have H7:=jD (J.trans (I.mono J.size));have P4:Hid (M+1<=wj.heap.size):=jD om;clear hx G1 N' Q5 hy H2 Z' hI J ej hK I Z X3 A1 Y2 T7 U4;go_wp2_with fail;have I':∀W,wj.grownBy W (Value.slice A4 k c4).ownBlock->(fun W:World=>wj.grownBy W (Value.slice A4 k c4).ownBlock/\Ml W M 0 (.slice A4 k c4)/\Ml W K 0 (Mk pv)/\Ml W K 1 (Mk (j:Int))/\Ml W be (oe+j*5) (Mk y.src)/\Ml W be (oe+j*5+1) (Mk y.sq)/\Ml W be (oe+j*5+2) (Mk y.ty)/\Ml W be (oe+j*5+3) (Mk y.tm)/\Ml W be (oe+j*5+4) ((.slice Ay ny cy))) W:=fun W hg=>⟨hg,eU hg (K0.out) o0,eU hg (T3.out) y0,eU hg (T3.out) y1,eU hg (t'.out) q0,eU hg (t'.out) q1,eU hg (t'.out) q2,eU hg (t'.out) q3,eU hg (t'.out) q4⟩
     refine wp_region_noPanic ?_;refine oh ((fun W:World=>wj.grownBy W (Value.slice A4 k c4).ownBlock/\W.cell? ⟨M,0,none⟩=some (.slice A4 k c4)/\W.cell? ⟨K,0,none⟩=some (Mk pv)/\W.cell? ⟨K,1,none⟩=some (Mk (j:Int))/\W.cell? ⟨be,oe+j*5,none⟩=some (Mk y.src)/\W.cell? ⟨be,oe+j*5+1,none⟩=some (Mk y.sq)/\W.cell? ⟨be,oe+j*5+2,none⟩=some (Mk y.ty)/\W.cell? ⟨be,oe+j*5+3,none⟩=some (Mk y.tm)/\W.cell? ⟨be,oe+j*5+4,none⟩=some ((.slice Ay ny cy)))) 13 kr (I' _ (aC (Mr _ _).drew _)) (fun c'=>?_);refine tkP [0,1,2,3,4,5,6,7,8] ?_;refine nxP 9 (fun K hK=>?_)
     focus (go_simp;refine (mQ _ _ _ _ _ _ _ _).mono ?_;rintro e w7 ⟨rfl,C'⟩;have f':Mm wj w7:=ab (show Mm wj _ by exact jB) C'.below;have P9:=f'.size)
     refine hK.out _ _ (I' _ (aC f' _)) (fun c'=>?_);clear hK K;refine tkP [10] ?_;refine nxP 11 (fun K hK=>?_)
     go_simp
     refine hK.out _ _ (I' _ (aC (ab f' (af _ _)) _)) (fun c'=>?_);clear hK K;refine nxP 12 (fun K hK=>?_)
     focus ((try (change Oper.wp _ _ _ _ _ _));refine eG _ (.tmp 49) (.tmp 59) 47 rfl (M+1) 57 j0 _ 4 32 underlying47 Q7 V8 Z7 W6 rfl dc (.slice A4 k c4) k (fj pre) jR (ao (ao G'.out f') (af _ _)) (some ⟨w7.heap.size,0,none⟩) 1 1 [Mk pv,Mk y.tm,Mk y.src,Mk y.sq] jR (cB _ [Mk pv,Mk y.tm,Mk y.src,Mk y.sq] _ 1 4 _ jS rfl (by simp[Value.oneCell'])) (by unfold maxLen;omega) om (by simp;omega) ?_;intro v8 w8 h' M3 V0;obtain⟨A8,c8,A6⟩:=aH h';subst A6;have g':wj.grownBy w8 (Value.slice A4 k c4).ownBlock:=cV (aC (ab f' (af _ _)) _) M3;have o8:w8.cell? ⟨M,0,none⟩=some (.slice A4 k c4):=eU g' K0.out o0;have f8:w8.frozen? ⟨M,0,none⟩=false:=(World.frozen?_of_block (a:=⟨M,0,none⟩) (g'.block M W2 (fun e=>K0.out e.symm))).trans S7)
     refine hK.out _ _ (I' _ g') (fun c'=>?_);clear hK K
     focus (refine nU (fuel:=1) (L:=(true::true::true::true::true::true::true::true::true::true::true::true::true::true::false::[]).toArray) (v:=?_) rfl rfl kr kr kr kr kr ?_ ?_;rotate_left 1;(focus (intro wS;go_simp<;>with_reducible rfl));simp only[MZ,MY])
     refine oE (i:=14) (fuel:=0) (L:=(true::true::true::true::true::true::true::true::true::true::true::true::true::true::true::[]).toArray) rfl kr kr kr kr (fun K hK=>?_)
     go_simp
     refine hK.out _ _ (NoPanic.normal ?_);clear hK K;rotate_left 1;have u':w8.ownsRow (M+1) 57 4 (.slice A8 (k+1) c8) (k+1) (fj ((s.take (k+1)).map (bOf l))):=by
      rw[U8.out];unfold fj;rw[OK];exact h'
     have X':=jD u';have W8:=jD (H7.out.trans (au g' (by have:=P4.out;have:=B'.out;omega) (fun g hg=>by have:=(ag G'.out hg).1;have:=B'.out;omega)));have R7:M+1<=w8.heap.size:=by have:=g'.size;have:=P4.out;omega
     clear u' h' M3 V0 c';go_wp2_with fail
     go_roundw
     case rel =>
      refine⟨k+1,.slice A8 (k+1) c8,by omega,by go_num,jD ⟨?_,?_,aT X'.out (fun g hg=>Nj w8 ⟨M,0,none⟩ _ g (by have:=(ag X'.out hg).1;simp only;omega)),aq W8.out (by have:=B'.out;omega) _,jQ R7⟩⟩
      ·simp[go_sem,o8]
      ·simp[go_sem,f8]
     case measure=>simp[intOf];omega
    ·have P7:¬(k:Int)<(j':Int):=by omega
     have O':k=j':=by omega
     have m':=hI.out;rw[O',R2.out,Nq]at m';have HI:=jD m';obtain⟨A4,c4,X1⟩:=aH m'.2.2.1;subst X1;have o0:=m'.1;have R3:Hid (bD wr (.slice A4 s.length c4) (mOf l s)):=jD (F2 (l:=(mOf l s)) (by unfold mOf;rw[MB];exact m'.2.2.1));have S0:=jD J;have Q9:=J.size;have T':=jD (fun (g:Nat) (e:(Value.slice A4 s.length c4).ownBlock=some g)=>ag HI.out.2.2.1 e);have U7:Hid ((L.take (k5+1)).map (mOf l)=(L.take k5).map (mOf l)++[mOf l s]):=jD (pO Y6.out);have Z8:ms.length<=4096:=by have:=X0.out;omega
     obtain⟨nq,T2⟩:∃n,n=s.length:=⟨_,rfl⟩;rw[<-T2]at o0 R3 T';have W2:M<wr.heap.size:=by omega
     clear hI m' O' J T2;go_wp2_with (at_builtin;refine bA _ rfl (.tmp 63) (.tmp 65) 37 rfl w5.heap.size 49 i0 _ 1 24 underlying37 P6 R8 A7 W7 rfl dc u10 ms.length (ms.map (·.2)) rfl (ao (MW.grow D'.out.2.1 S0.out).row (af _ _)) (some ⟨wr.heap.size,0,none⟩) 1 1 [.slice A4 nq c4] rfl (cB _ [.slice A4 nq c4] _ 1 1 _ jS rfl (by simp[Value.oneCell'])) (by unfold maxLen;omega) om (by have:=a'.out.size;simp;omega) ?_;intro v7 w7 x' C' s');have A3:=MW.app (MW.grow D'.out.2.1 S0.out) R3.out (fun g M1=>by
      have h1:=T'.out g M1;have h2:=B'.out;have h3:=a'.out.size;exact⟨by omega,h1.2,fun e=>by have:=(ag D'.out.2.1.row e.symm).2;omega⟩) x' C' s'
     have P5:Mm w5 w7:=((a'.out.trans (S0.out.mono a'.out.size)).trans ((af wr _).mono (by have:=a'.out.size;omega))).trans (au C' (by have:=a'.out.size;simp;omega) (fun g h=>(ag D'.out.2.1.row h).1));have U5:=jD A3;have X7:=jD P5;clear A3 x' C' s' P5;go_wp2_with fail
     go_roundw
     case rel =>
      refine⟨k5+1,_,by omega,by go_num,?_,jD ⟨?_,U5.out,X7.out⟩⟩
      ·rw[Mw,X0.out];rfl
      ·rw[NY,D'.out.1,U7.out];rfl
     case measure=>simp[intOf];omega
  ·have Z4:¬(k5:Int)<(n5:Int):=by omega
   have O':k5=n5:=by omega
   subst O';have A':=n'.out;rw[Q3.out,Nq]at A';have K2:=jD A'.1;have U0:=jD A'.2.1;have Y9:=jD G;have z':=A'.2.1.row;have Q1:Hid (Mm w wr):=jD (d'.out.trans (G.mono d'.out.size));clear n' A' G;rcases Cd z' with ⟨hv,h0⟩|⟨g,cap,spare,hv,H3,hh,Q2,W3,hl2,hx2⟩
   ·have Y4:ms=[]:=M8 h0;subst hv;have Z6:=jD Y4;clear h0 Y4 z';go_wp2_with fail;refine (mt _).mono ?_;rintro e w6 ⟨rfl,Z2⟩;have H0:=jD (ab Q1.out Z2);clear Z2;go_wp2_with fail;refine Mv (v:=.tuple #[.slice none 0 0,Mk 0]) (by simp[results,results26,go_sem]) rfl ⟨H0.out,.inr (.inr ⟨p'.out.symm,i'.out.symm,_,[],rfl,⟨⟨none,0,rfl,Mt _,Mu _,fun k e he=>by simp at he⟩,fun e he=>by simp at he⟩,?_⟩)⟩;exact rX HG.out (iS i'.out.symm) (es:=[]) (es':=[]) (by have h:=K2.out;rw[Z6.out]at h;rw[<-K3.out];exact h) (List.Perm.refl _) List.Pairwise.nil
   ·subst hv;have q':∀e∈ms,MOk wr g e:=fun e he=>⟨(U0.out.bnds e he).1,fun O=>((U0.out.bnds e he).2 g O).2.2 rfl⟩
    have S6:=jD (mF ms g cap spare wr hh (by have:=X0.out;omega) q');have T8:=jD q';have Z9:=bC hh;have F':=jD (And.intro H3 (And.intro Q2 W3));clear z' hh H3 hl2 hx2 q' Q2 W3;go_wp2_with fail;refine S6.out.mono ?_;rintro e w6 ⟨rfl,es',E',hp,Q0,Z3,hls,k'⟩;have R1:es'.length=ms.length:=hp.length_eq;have H0:Hid (Mm w w6):=jD (Q1.out.trans (au k' Q1.out.size (fun k e=>by injection e with e;have:=F'.out.1;have:=d'.out.size;omega)));have R5:Hid (MatsNew w.heap.size w6 (.slice (some ⟨g,0,none⟩) ms.length cap) es'):=jD (by
     have W9:=k'.size;refine⟨⟨_,cap,by rw[R1],by rw[R1];exact F'.out.2.1,F'.out.2.2,fun k e he=>⟨g,0,rfl,by have:=F'.out.1;have:=d'.out.size;omega,by omega,?_⟩⟩,fun e he=>?_⟩
     ·rw[MC,ae Z3];exact CF he E'
     ·have h1:=T8.out e (hp.mem_iff.1 he);have h2:=(U0.out.bnds e (hp.mem_iff.1 he)).2;refine⟨ro h1.1 fun b hb hv=>k'.block b hb (fun O=>h1.2 (by rw[hv,O])),fun g1 M1=>?_⟩;have:=h2 g1 M1;have:=d'.out.size;exact⟨by omega,by omega⟩)
    have V5:Hid (es'.map (·.1)=cI l x):=jD (rX HG.out (iS i'.out.symm) (by rw[<-K3.out];exact K2.out) hp (by first|exact Q0|exact Q0.imp fun {a b} h=>by omega));clear hp Q0 Z3 hls k' R1;go_wp2;exact Mv (v:=.tuple #[.slice (some ⟨g,0,none⟩) ms.length cap,Mk 0]) (by simp[results,results26,go_sem]) rfl ⟨H0.out,.inr (.inr ⟨p'.out.symm,i'.out.symm,_,es',rfl,R5.out,V5.out⟩)⟩
end
theorem Jj:∀(n:Nat) (x:Pt),ptN x<=n->∀v∈evV x,∃y∈aY x,y.op=0/\y.vr=v:=by
 intro n
 induction n with
 | zero=>intro x h;have:=cX x;omega
 | succ n O =>
  intro x h v z;have he:=cX x;rw[px,NC]at z;rcases z with z|z
  ·split at z
   ·next h0 =>
    rw[NK]at z;exact⟨x,by rw[eC];exact Mz ..,h0,z.symm⟩
   ·simp at z
  ·have:∀G:List Pt,bI G<=n->v∈dZ G->∃y∈cE G,y.op=0/\y.vr=v:=fun G=>by
    induction G with
    | nil=>intro _ h;rw[dZ]at h;simp at h
    | cons a r J =>
     intro hle h;rw[bI]at hle;rw[dZ,NC]at h;rcases h with h|h
     ·obtain⟨y,hy,I⟩:=O a om v h;exact⟨y,by rw[cE];exact OW _ hy,I⟩
     ·obtain⟨y,hy,I⟩:=J om h;exact⟨y,by rw[cE];exact OE _ hy,I⟩
   obtain⟨y,hy,I⟩:=this x.args om z;exact⟨y,by rw[eC];exact MD _ hy,I⟩
theorem lH {x:Pt} (h:fq x=0):ptN x<=64/\(∀y∈aY x,ptE y=0)/\∀y∈aY x,y.op<8:=by
 unfold fq at h
 by_cases G:eY x=0
 ·rw[Mo (jQ G)]at h
  by_cases I:(aY x).any (fun y=>decide (8<=y.op))=true
  ·rw[Mp I]at h;exact absurd h dc
  ·have z:=G;unfold eY at z
   by_cases J:64<ptN x
   ·rw[Mp J]at z;exact absurd z dc
   rw[Mo J]at z
   by_cases O:12<ptD x
   ·rw[Mp O]at z;exact absurd z dc
   rw[Mo O]at z;refine⟨by omega,fun y hy=>jZ z _ (List.mem_map.2 ⟨y,hy,rfl⟩),fun y hy=>?_⟩;rw[O7]at I;refine Int.not_le.1 fun Z=>I ⟨y,hy,jQ Z⟩
 ·rw[Mp G]at h;exact absurd h G
theorem qV {y:Pt} (h:ptE y=0):0<=y.op/\gM y.op y.args.length=true/\(y.op=0->0<=y.vr/\y.vr<=15):=by
 unfold ptE at h
 by_cases J:y.op<0\/10<y.op
 ·rw[Mp J]at h;exact absurd h dc
 rw[Mo J]at h
 by_cases z:gM y.op y.args.length=false
 ·rw[Mp z]at h;exact absurd h dc
 rw[Mo z]at h
 by_cases I:(dL (cD y.op) y.ty 15 || dL (cD y.op) y.vr 15 || dL (ft y.op) y.sc 63 || dL (fF y.op) y.sp 1099511627776)=true
 ·rw[Mp I]at h;exact absurd h dc
 refine⟨by omega,jQ z,fun h0=>?_⟩;have G:dL (cD y.op) y.vr 15=false:=by
  cases O:dL (cD y.op) y.vr 15 with
  | false=>rfl
  | true=>rw[O]at I;simp at I
 rw[h0]at G;unfold dL cD at G;simp at G;omega
theorem DD {x:Pt} (h:fq x=0) (Z:ptB x<=1048576):GoodP (evV x) x/\(∀y∈aY x,0<=y.op/\y.op<=7)/\∀v∈evV x,0<=v/\v<16:=by
 obtain⟨h1,G,O⟩:=lH h;refine⟨⟨fun v I=>I,fun y hy=>⟨?_,?_⟩⟩,fun y hy=>⟨(qV (G y hy)).1,by have:=O y hy;omega⟩,fun v I=>?_⟩
 ·have z:=(qV (G y hy)).2.1;have hn:=(qV (G y hy)).1
  by_cases h0:y.op=0
  ·exact .inl h0
  by_cases J:y.op=2
  ·exact .inr (.inl J)
  refine .inr (.inr fun e=>?_);rw[e]at z;unfold gM at z;rw[Mo h0]at z
  split at z
  ·simp at z
  ·split at z<;>simp at z
 ·have e1:=my x y hy;have e2:=mg y;omega
 ·obtain⟨y,hy,h0,rfl⟩:=Jj _ x (Mt _) v I;have:=(qV (G y hy)).2.2 h0;omega
def SmallN (n:Nat) (x:Pt):Prop:=n<=10/\(((evV x).length+1)^n<=1500\/(eW x=false/\n^(evV x).length<=1500))
theorem SmallN.less {n m:Nat} {x:Pt} (h:SmallN n x) (hm:m<=n):SmallN m x:=by
 refine⟨by have:=h.1;omega,?_⟩;rcases h.2 with z|⟨z,h2⟩
 ·exact .inl (Mx (PN om hm) z)
 ·exact .inr ⟨z,Mx (OX hm _) h2⟩
theorem Ei {n v:Nat} (G:2<=n) (z:n<=10) (h:n^v<=1500):(v+1)^n<=1048576:=by
 have Z:v<=10:=by
  refine Nat.le_of_not_lt fun I=>?_
  have h4:2^11<=n^v:=Mx (OX G 11) (PN om I);have:(2:Nat)^11=2048:=by decide
  omega
 have O:n=2\/n=3\/n=4\/n=5\/n=6\/n=7\/n=8\/n=9\/n=10:=by omega
 have J:v=0\/v=1\/v=2\/v=3\/v=4\/v=5\/v=6\/v=7\/v=8\/v=9\/v=10:=by omega
 rcases O with rfl|rfl|rfl|rfl|rfl|rfl|rfl|rfl|rfl<;>rcases J with rfl|rfl|rfl|rfl|rfl|rfl|rfl|rfl|rfl|rfl|rfl<;>first|decide|(exfalso;revert h;decide)
theorem SmallN.ok {n:Nat} {x:Pt} (h:SmallN n x) (I:(evV x).length<=64):CapP n x/\((evV x).length+1)^n<=1048576:=by
 rcases h.2 with z|⟨z,h2⟩
 ·exact⟨.inl om,by omega⟩
 ·by_cases G:2<=n
  ·refine⟨.inr ⟨z,G,?_⟩,Ei G h.1 h2⟩;unfold fc
   split
   ·omega
   ·omega
  ·have:n=0\/n=1:=by omega
   rcases this with rfl|rfl
   ·exact⟨.inl (by rw[Nat.pow_zero];omega),by rw[Nat.pow_zero];omega⟩
   ·exact⟨.inl (by rw[Nat.pow_one];omega),by rw[Nat.pow_one];omega⟩
theorem zm {l:List Evt} {x:Pt} (h:fq x=0) (hN:ptB x<=1048576) (z:SmallN l.length x):GoodQ (evV x) l.length x/\dR (evV x) l.length/\l.length<=99:=by
 obtain⟨I,G,O⟩:=DD h hN;have J:=(lH h).1;have hv:=qa x;obtain⟨hc,Z⟩:=z.ok om;exact⟨⟨I,G,hc⟩,⟨O,Z,by have:=z.1;omega⟩,by have:=z.1;omega⟩
theorem rV (l:List Evt) (x:Pt) (d:Nat) (v vc vl:Value) (w:World) (O:Shp w) (Z:aU d w v x.args) (z:aK d w vc x.cond.args) (I:bh w vl l) (G:ptB x<=1048576) (J:SmallN l.length x) :
  Calls prog 26 #[ptV x v vc,vl] w (MtsRet w l x) :=
 wG (evV x) l x d v vc vl w O Z z I G fun h _=>zm h G J
theorem MtsRet.box {w G W:World} {l:List Evt} {x:Pt} {e:Ending} (I:Mm w G) (h:MtsRet G l x e W):MtsRet w l x e W:=by
 refine⟨ab I h.1,?_⟩;rcases h.2 with h|h|⟨h1,h2,v,ms,h3,h4,h5⟩
 ·exact .inl h
 ·exact .inr (.inl h)
 ·have hs:=I.size;obtain⟨⟨A,c,rfl,O,Z,c3⟩,z⟩:=h4;exact .inr (.inr ⟨h1,h2,_,ms,h3,⟨⟨A,c,rfl,O,Z,fun k e he=>by obtain⟨b,o,e1,e2,e3,hc⟩:=c3 k e he;exact⟨b,o,e1,by omega,e3,hc⟩⟩,fun e he=>⟨(z e he).1,fun g J=>⟨by have:=((z e he).2 g J).1;omega,((z e he).2 g J).2⟩⟩⟩,h5⟩)
theorem ir (l:List Evt) (x:Pt) (d:Nat) (v vc vl:Value) (w:World) (hT:Shp w) (hx:aU d w v x.args) (I:aK d w vc x.cond.args) (hl:bh w vl l) (hN:ptB x<=1048576) (hS:SmallN l.length x) :
  Calls prog 9 #[ptV x v vc,vl] w (MtsRet w l x):=by
 have HM:=jD (fun (W:World) (Z:Mm w W)=>rV l x d v vc vl W (hT.stays Z) (hx.stays (aB d) Z) (I.stays (ai d) Z) (hl.stays aG Z) hN hS);obtain⟨Al,cl,rfl,-⟩:=hl;obtain⟨A,c,rfl,-⟩:=hx;obtain⟨Ac,cc,rfl,-⟩:=I;obtain⟨nl,J⟩:∃n,n=l.length:=⟨_,rfl⟩;obtain⟨na,z⟩:∃n,n=x.args.length:=⟨_,rfl⟩;obtain⟨nx,O⟩:∃n,n=x.cond.args.length:=⟨_,rfl⟩;rw[<-J,<-z,<-O]at HM ⊢;clear hT hN hS J z O;unfold ptV at HM ⊢;go_enter func9,ntmps9;go_wp2_with fail;refine aI fun w1 e1=>?_
 have h:Mm w w1:=gb e1;clear e1;refine (HM.out _ h).mono ?_;intro e w2 G;have H2:=jD (G.box h);rcases G.2 with ⟨-,rfl⟩|⟨-,-,rfl⟩|⟨-,-,v2,ms,rfl,hm,-⟩
 ·clear G h;go_wp2;exact Mv (v:=.tuple #[.slice none 0 0,Mk (fq x)]) (by simp[results,results9,go_sem]) rfl H2.out
 ·clear G h;go_wp2;exact Mv (v:=.tuple #[.slice none 0 0,Mk (bH l)]) (by simp[results,results9,go_sem]) rfl H2.out
 ·obtain⟨⟨A2,c2,rfl,-⟩,-⟩:=hm;clear G h;go_wp2;exact Mv (v:=.tuple #[.slice A2 ms.length c2,Mk 0]) (by simp[results,results9,go_sem]) rfl H2.out
section
section
theorem MW.is {B:Nat} {wr:World} {J:Value} {ms:List (List Bnd × Value)} (h:MW B wr J ms):il wr J (ms.map (·.1)):=by
 have I:∀u∈ms.map (·.2),u.oneCell'=true:=fun u hu=>by
  obtain⟨e,he,rfl⟩:=List.mem_map.1 hu;exact fD (h.bnds e he).1
 obtain⟨A,c,rfl,z,Z,h4⟩:=dQ h.row I;refine⟨A,c,by rw[MB],by rw[MB];exact z,Z,fun k x hk=>?_⟩;rw[MA]at hk;obtain⟨e,he,rfl⟩:=Option.map_eq_some_iff.1 hk;have O:=(List.getElem?_eq_some_iff.1 he).1;obtain⟨b,o,hA,G⟩:=h4.2.2 om;exact⟨b,o,hA,e.2,(h.bnds e (MI he)).1,by rw[NF];exact G k _ (by rw[MA,he];rfl)⟩
end
section
end
section
open Go.RowKit Go.Shelf
def PutIn (w:World) (v:Value) (l:List (List Bnd)):Prop:=(v=.slice none 0 0/\l=[])\/∃b o c,v=.slice (some ⟨b,o,none⟩) l.length c/\il w v l
theorem PutIn.is {w:World} {v:Value} {l:List (List Bnd)} (h:PutIn w v l):il w v l:=by
 rcases h with ⟨rfl,rfl⟩|⟨b,o,c,_,h⟩
 ·exact Sl.nil _ _ _ _ _ (Mu _)
 ·exact h
theorem PutIn.stays {w w':World} {v:Value} {l:List (List Bnd)} (h:PutIn w v l) (hb:Mm w w'):PutIn w' v l:=by
 rcases h with h|⟨b,o,c,I,z⟩
 ·exact .inl h
 ·exact .inr ⟨b,o,c,I,z.stays ku hb⟩
end
section
open Go.RowKit Go.Shelf
end
end
mutual
theorem Fj:∀x:Pt,(∀y∈aY x,y.op=0\/y.args≠[])->evV x≠[]
 | .mk o ar ty vr sc sp co,h=>by
  rw[evV];rcases h _ (by rw[aY];exact Mz ..) with h0|h0
  ·have h0:o=0:=h0;rw[Mp h0];simp
  ·have h0:ar≠[]:=h0;have:=Jt ar h0 (fun y hy=>h y (by rw[aY];exact MD _ hy));intro e;exact this (List.append_eq_nil_iff.1 e).2
theorem Jt:∀l:List Pt,l≠[]->(∀y∈cE l,y.op=0\/y.args≠[])->dZ l≠[]
 | [],h,_=>absurd rfl h
 | a::r,_,h=>by
  rw[dZ];intro e;exact Fj a (fun y hy=>h y (by rw[cE];exact OW _ hy)) (List.append_eq_nil_iff.1 e).1
end
theorem BP {x:Pt} (h:fq x=0):(evV x).length≠0/\(evV x).length<=64:=by
 obtain⟨I,G,J⟩:=lH h;refine⟨fun e=>Fj x (fun y hy=>?_) (M8 e),by have:=qa x;omega⟩;have z:=(qV (G y hy)).2.1
 by_cases h0:y.op=0
 ·exact .inl h0
 refine .inr fun e=>?_
 rw[e]at z;unfold gM at z;rw[Mo h0]at z
 split at z
 ·simp at z
 ·split at z<;>simp at z
theorem xq {key:List Int} {l:List Evt} {x:Pt} (h:fq x=0) (G:SmallN l.length x):(bG x (bV key l)).length<=4096:=by
 have hs:=EI key l;have z:=G.less hs;exact DV x (BP h).1 (BP h).2 _ B9 z.1 z.2
end Go.Proofs.YtbjicljfjkdeeaaGreatDoor
