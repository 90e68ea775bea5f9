/- Part. -/
import Derived.Test.YtbjicljfjkdeeaaGreatDoorQ08
set_option maxRecDepth 100000
set_option maxHeartbeats 16000000
set_option linter.unusedVariables false
set_option linter.unusedSimpArgs false
namespace Go.Proofs.YtbjicljfjkdeeaaGreatDoor
open Go.Proofs.Tryz Go.RowKit
mutual
def cn:Ex->Int
 | .mk o l a b c v=>if bl (.mk o l a b c v)≠0 then bl (.mk o l a b c v) else dV l
def dV:List Ex->Int
 | []=>0
 | a::r=>if cn a≠0 then cn a else dV r
end
theorem mV (x:Ex):cn x=if bl x≠0 then bl x else dV x.args:=by cases x;rw[cn];rfl
theorem mE {l:List Ex} {k:Nat} {a:Ex} (h:l[k]?=some a):dV (l.drop k)=if cn a≠0 then cn a else dV (l.drop (k+1)):=by
 obtain⟨h1,rfl⟩:=List.getElem?_eq_some_iff.1 h;rw[Nd h1,dV]
theorem li:∀l:List Ex,l.length<=cH l
 | []=>by simp
 | a::r=>by
  have:=li r;have:=eV a;rw[cH,MG];omega
theorem uaO {p:Prop} (h:p:=by
  have l':¬(k:Int)<(l.length:Int):=by omega
  obtain rfl:R=0:=by
   have h:=hI.out.1;rw[No om,dV]at h;exact h.symm
  exact fi (ab G.out hb)):p:=h
theorem uaP {p:Prop} (h:p:=by
  have m':(E==0)=false:=jQ z;obtain rfl:E=S:=by have h:=HS.out;rwa [Mp z]at h
  clear z HS;exact fi G.out):p:=h
theorem oI (d:Nat) (I:∀Z,d=Z+1->∀(x:Ex) (v:Value) (w:World),aK Z w v x.args->aF x<=1048576 ->
   Mn 255 #[exV x v] w (Mk (cn x)))
  (x:Ex) (v:Value) (w:World) (hx:aK d w v x.args) (hN:aF x<=1048576) :
  Mn 255 #[exV x v] w (Mk (cn x)):=by
 have k':=jD I;obtain⟨op,l,vr,fl,kd,⟨k0,n0,t0⟩⟩:=x;rw[mV];rw[eV]at hN;obtain⟨A,c,rfl,h1,h2,a'⟩:=hx;have J:=jD (fun W=>EL (.mk op l vr fl kd ⟨k0,n0,t0⟩) A c W (by have:=li l;simp only[Ex.args]at hN ⊢;omega));obtain⟨E,hE⟩:=jE (bl (.mk op l vr fl kd ⟨k0,n0,t0⟩));rw[hE]at J ⊢;simp only[Ex.args]at hN h1 h2 a' ⊢;have p':=ay h1 h2;have HL:=jD a';have HN:=jD hN;obtain⟨R,hR⟩:=jE (dV l);have HR:=jD hR;rw[hR];obtain⟨S,hS⟩:=jE (if E≠0 then E else R);rw[hS];have HS:=jD hS;clear hS;unfold exV at *;simp only[Ex.args,Ex.op,Ex.vr,Ex.fl,Ex.kd,Ex.val]at J ⊢;clear a' h1 h2 hR hN I hE;go_enter func255,ntmps255;go_wp2_with fail;refine (J.out _).mono ?_;rintro e w1 ⟨rfl,f'⟩;have y1:w1.cell? ⟨w.heap.size,1,none⟩=some (.slice A l.length c):=by rw[(bE f').1];rfl
 have G:=jD (ab (af w _) f');clear f'
 by_cases z:E=0
 case neg =>
  exact uaP
 subst z;obtain rfl:R=S:=by have h:=HS.out;rwa [Mo jS]at h
 clear HS;go_wp2_with fail
 go_loopw [4] (fun i wr=>∃k:Nat,k<=l.length/\i=Mk k/\Hid (dV (l.drop k)=R/\Mm w1 wr)) (fun i _=>l.length-(intOf i).toNat)
 case atStart=>exact⟨0,Mu _,rfl,jD ⟨HR.out,Mr _ _⟩⟩
 case round =>
  obtain⟨k,hk,rfl,hI⟩:=hrel;have hb:=hI.out.2;have z1:=aa hb y1
  by_cases i':k<l.length
  ·have l':(k:Int)<(l.length:Int):=by omega
   obtain⟨b,o,rfl,O⟩:=HL.out k l[k] (Mq i');have hg:=jD (Mq i');obtain⟨a,ha⟩:=jF (l[k]);rw[<-ha]at hg O;clear ha;obtain⟨Z,v',h',g',p0,p1,p2,p3,p4,p5,p6,p7⟩:=fk (ai d _ _ _ _ _ (ab G.out hb) O);have n':aF a<=1048576:=by have:=kD hg.out;have:=HN.out;omega
   obtain⟨Q,hQ⟩:=jE (cn a);have HC:=jD (fun (W:World) (hW:Mm wr W)=>k'.out Z h' a v' W (g'.stays (ai Z) hW) n');rw[hQ]at HC;have HQ:=jD hQ;clear hQ O h' g';go_wp2_with fail;refine (HC.out _ (Mr _ _)).mono ?_;rintro e w' ⟨rfl,j'⟩;have h:=hI.out.1;rw[mE hg.out,HQ.out]at h
   by_cases z:Q=0
   case neg =>
    rw[Mp z]at h;have m':(Q==0)=false:=jQ z;subst h;clear z;go_wp2;go_ret;exact⟨rfl,ab G.out (ab hb j')⟩
   rw[Mo (by simp[z])]at h;have HH:=jD h;subst z;clear h;go_wp2_with fail
   go_roundw
   case rel=>exact⟨k+1,by omega,by go_num,jD ⟨HH.out,ab hb j'⟩⟩
   case measure=>simp[intOf];omega
  ·exact uaO
theorem Bl (d:Nat):∀(x:Ex) (v:Value) (w:World),aK d w v x.args->aF x<=1048576 ->
  Mn 255 #[exV x v] w (Mk (cn x)):=by
 induction d with
 | zero=>exact oI 0 (fun Z h=>by omega)
 | succ d ih=>exact oI (d+1) (fun Z h=>NU h▸ih)
theorem pT (d:Nat) (I:∀Z,d=Z+1->∀(x:Ex) (v:Value) (w:World),aK Z w v x.args->aF x<=1048576 ->
   Mn 171 #[exV x v,.func (.func 172) #[] #[]] w (Mk (cn x)))
  (x:Ex) (v:Value) (w:World) (hx:aK d w v x.args) (hN:aF x<=1048576) :
  Mn 171 #[exV x v,.func (.func 172) #[] #[]] w (Mk (cn x)):=by
 have k':=jD I;obtain⟨op,l,vr,fl,kd,⟨k0,n0,t0⟩⟩:=x;rw[mV];rw[eV]at hN;obtain⟨A,c,rfl,h1,h2,a'⟩:=hx;have J:=jD (fun W=>FI (.mk op l vr fl kd ⟨k0,n0,t0⟩) A c W (by have:=li l;simp only[Ex.args]at hN ⊢;omega));obtain⟨E,hE⟩:=jE (bl (.mk op l vr fl kd ⟨k0,n0,t0⟩));rw[hE]at J ⊢;simp only[Ex.args]at hN h1 h2 a' ⊢;have p':=ay h1 h2;have HL:=jD a';have HN:=jD hN;obtain⟨R,hR⟩:=jE (dV l);have HR:=jD hR;rw[hR];obtain⟨S,hS⟩:=jE (if E≠0 then E else R);rw[hS];have HS:=jD hS;clear hS;unfold exV at *;simp only[Ex.args,Ex.op,Ex.vr,Ex.fl,Ex.kd,Ex.val]at J ⊢;clear a' h1 h2 hR hN I hE;go_enter func171,ntmps171;go_wp2_with fail;refine (J.out _).mono ?_;rintro e w1 ⟨rfl,f'⟩;have y1:w1.cell? ⟨w.heap.size,1,none⟩=some (.slice A l.length c):=by rw[(bE f').1];rfl
 have G:=jD (ab (af w _) f');clear f'
 by_cases z:E=0
 case neg =>
  exact uaP
 subst z;obtain rfl:R=S:=by have h:=HS.out;rwa [Mo jS]at h
 clear HS;go_wp2_with fail
 go_loopw [18] (fun i wr=>∃k:Nat,k<=l.length/\i=Mk k/\Hid (dV (l.drop k)=R/\Mm w1 wr)) (fun i _=>l.length-(intOf i).toNat)
 case atStart=>exact⟨0,Mu _,rfl,jD ⟨HR.out,Mr _ _⟩⟩
 case round =>
  obtain⟨k,hk,rfl,hI⟩:=hrel;have hb:=hI.out.2
  by_cases i':k<l.length
  ·have l':(k:Int)<(l.length:Int):=by omega
   obtain⟨b,o,rfl,O⟩:=HL.out k l[k] (Mq i');have hg:=jD (Mq i');obtain⟨a,ha⟩:=jF (l[k]);rw[<-ha]at hg O;clear ha;obtain⟨Z,v',h',g',p0,p1,p2,p3,p4,p5,p6,p7⟩:=fk (ai d _ _ _ _ _ (ab G.out hb) O);have n':aF a<=1048576:=by have:=kD hg.out;have:=HN.out;omega
   have q':=g';obtain⟨A',c',r',-⟩:=q';subst r';obtain⟨Q,hQ⟩:=jE (cn a);have HC:=jD (fun (W:World) (hW:Mm wr W)=>k'.out Z h' a _ W (g'.stays (ai Z) hW) n');rw[hQ]at HC;have HQ:=jD hQ;clear hQ O h' g';go_wp2_with fail;refine (HC.out _ ?_).mono ?_
   ·exact jB
   rintro e w' ⟨rfl,j'⟩;have h:=hI.out.1;rw[mE hg.out,HQ.out]at h
   by_cases z:Q=0
   case neg =>
    rw[Mp z]at h;have m':(Q==0)=false:=jQ z;subst h;clear z;go_wp2;go_ret;exact⟨rfl,ab G.out (ab hb (ab jB j'))⟩
   rw[Mo (by simp[z])]at h;have HH:=jD h;subst z;clear h;go_wp2_with fail
   go_roundw
   case rel=>exact⟨k+1,by omega,by go_num,jD ⟨HH.out,ab hb (ab jB j')⟩⟩
   case measure=>simp[intOf];omega
  ·exact uaO
theorem Ec (d:Nat):∀(x:Ex) (v:Value) (w:World),aK d w v x.args->aF x<=1048576 ->
  Mn 171 #[exV x v,.func (.func 172) #[] #[]] w (Mk (cn x)):=by
 induction d with
 | zero=>exact pT 0 (fun Z h=>by omega)
 | succ d ih=>exact pT (d+1) (fun Z h=>NU h▸ih)
def kQ (x:Ex):Int:=if 64<aF x then 5 else if 12<dA x then 12 else cn x
theorem sk (d:Nat) (x:Ex) (v:Value) (w:World) (hx:aK d w v x.args) (hN:aF x<=1048576) :
  Mn 117 #[exV x v] w (Mk (kQ x)):=by
 have a':=jD (fun (W:World) (hW:Mm w W)=>FC d x v W (hx.stays (ai d) hW) hN);have Z:=jD (fun (W:World) (hW:Mm w W)=>Ec d x v W (hx.stays (ai d) hW) hN);obtain⟨R,hR⟩:=jE (kQ x);obtain⟨p,hp⟩:=jE (aF x);obtain⟨q,hq⟩:=jE (dA x);obtain⟨z,hz⟩:=jE (cn x);have HR:Hid (R=if 64<p then 5 else if 12<q then 12 else z):=jD (by rw[<-hR,<-hp,<-hq,<-hz];rfl);rw[hR];rw[hp,hq]at a';rw[hz]at Z;obtain⟨op,l,vr,fl,kd,⟨k0,n0,t0⟩⟩:=x;obtain⟨A,c,rfl,-⟩:=hx;unfold exV at *;simp only[Ex.args,Ex.op,Ex.vr,Ex.fl,Ex.kd,Ex.val]at *;clear hR hp hq hz hN;go_enter func117,ntmps117;go_wp2_with fail;refine (a'.out _ (af _ _)).mono ?_;rintro e I ⟨rfl,J⟩;have h:=(bE J).1;have y0:I.cell? ⟨w.heap.size,0,none⟩=some (Mk op):=by rw[h];rfl
 have y1:I.cell? ⟨w.heap.size,1,none⟩=some (.slice A l.length c):=by rw[h];rfl
 have y2:I.cell? ⟨w.heap.size,2,none⟩=some (Mk vr):=by rw[h];rfl
 have y3:I.cell? ⟨w.heap.size,3,none⟩=some (Mk fl):=by rw[h];rfl
 have y4:I.cell? ⟨w.heap.size,4,none⟩=some (Mk kd):=by rw[h];rfl
 have y5:I.cell? ⟨w.heap.size,5,none⟩=some (Mk k0):=by rw[h];rfl
 have y6:I.cell? ⟨w.heap.size,6,none⟩=some (Mk n0):=by rw[h];rfl
 have y7:I.cell? ⟨w.heap.size,7,none⟩=some (.string t0):=by rw[h];rfl
 have G:=jD (ab (af w _) J);clear h J
 by_cases O:64<p
 ·obtain rfl:R=5:=by rw[HR.out,Mp O]
  have d':(64:Int)<(p:Int):=by omega
  clear O;exact fi G.out
 have d':¬(64:Int)<(p:Int):=by omega
 by_cases h2:12<q
 ·obtain rfl:R=12:=by rw[HR.out,Mo O,Mp h2]
  have c':(12:Int)<(q:Int):=by omega
  clear O h2;exact fi G.out
 have c':¬(12:Int)<(q:Int):=by omega
 obtain rfl:R=z:=by rw[HR.out,Mo O,Mo h2]
 clear O h2 HR;go_wp2_with fail;refine (Z.out _ G.out).mono ?_;rintro e w2 ⟨rfl,f'⟩;exact fi (ab G.out f')
theorem AP (d:Nat) (x:Ex) (v:Value) (w:World) (hx:aK d w v x.args) (hN:aF x<=1048576) :
  Mn 214 #[exV x v] w (Mk (kQ x)):=by
 have c':Hid (∀W:World,Mm w W->Mn 138 #[exV x v,Mk 64] W (Mk (cR 64 x))):=jD (fun W hW=>qt 64 dc d x v W (hx.stays (ai d) hW) hN);have d':=jD (fun (W:World) (hW:Mm w W)=>qy d x v W (hx.stays (ai d) hW) hN);have a':=jD (fun (W:World) (hW:Mm w W)=>Bl d x v W (hx.stays (ai d) hW) hN);obtain⟨R,hR⟩:=jE (kQ x);obtain⟨p,hp⟩:=jE (cR 64 x);obtain⟨q,hq⟩:=jE (dA x);obtain⟨z,hz⟩:=jE (cn x);have HR:Hid (R=if 64<p then 5 else if 12<q then 12 else z):=jD (by rw[<-hR,<-hp,<-hq,<-hz];unfold kQ;have:=rA 64 x;split<;>split<;>first|rfl|omega);rw[hR];rw[hp]at c';rw[hq]at d';rw[hz]at a';obtain⟨op,l,vr,fl,kd,⟨k0,n0,t0⟩⟩:=x;obtain⟨A,c,rfl,-⟩:=hx;unfold exV at *;simp only[Ex.args,Ex.op,Ex.vr,Ex.fl,Ex.kd,Ex.val]at *;clear hR hp hq hz hN;go_enter func214,ntmps214;go_wp2_with fail;refine (c'.out _ (af _ _)).mono ?_;rintro e I ⟨rfl,Z⟩;have h:=(bE Z).1;have y0:I.cell? ⟨w.heap.size,0,none⟩=some (Mk op):=by rw[h];rfl
 have y1:I.cell? ⟨w.heap.size,1,none⟩=some (.slice A l.length c):=by rw[h];rfl
 have y2:I.cell? ⟨w.heap.size,2,none⟩=some (Mk vr):=by rw[h];rfl
 have y3:I.cell? ⟨w.heap.size,3,none⟩=some (Mk fl):=by rw[h];rfl
 have y4:I.cell? ⟨w.heap.size,4,none⟩=some (Mk kd):=by rw[h];rfl
 have y5:I.cell? ⟨w.heap.size,5,none⟩=some (Mk k0):=by rw[h];rfl
 have y6:I.cell? ⟨w.heap.size,6,none⟩=some (Mk n0):=by rw[h];rfl
 have y7:I.cell? ⟨w.heap.size,7,none⟩=some (.string t0):=by rw[h];rfl
 have O:=jD (ab (af w _) Z);clear h Z
 by_cases h1:64<p
 ·obtain rfl:R=5:=by rw[HR.out,Mp h1]
  have g':(64:Int)<(p:Int):=by omega
  clear h1;exact fi O.out
 have g':¬(64:Int)<(p:Int):=by omega
 go_wp2_with fail;refine (d'.out _ O.out).mono ?_;rintro e w3 ⟨rfl,G⟩;replace y0:=aa G y0;replace y1:=aa G y1;replace y2:=aa G y2;replace y3:=aa G y3;replace y4:=aa G y4;replace y5:=aa G y5;replace y6:=aa G y6;replace y7:=aa G y7;have J:=jD (ab O.out G);clear G
 by_cases h2:12<q
 ·obtain rfl:R=12:=by rw[HR.out,Mo h1,Mp h2]
  have f':(12:Int)<(q:Int):=by omega
  clear h1 h2;exact fi J.out
 have f':¬(12:Int)<(q:Int):=by omega
 obtain rfl:R=z:=by rw[HR.out,Mo h1,Mo h2]
 clear h1 h2 HR;go_wp2_with fail;refine (a'.out _ J.out).mono ?_;rintro e w2 ⟨rfl,h'⟩;exact fi (ab J.out h')
mutual
def dK:Ex->Ex->Bool
 | .mk o l a b c v,.mk o' l' a' b' c' v'=>decide (o=o')&&decide (a=a')&&decide (b=b')&&decide (c=c')&&bY v v'&&de l l'
def de:List Ex->List Ex->Bool
 | [],[]=>true
 | x::r,y::s=>dK x y&&de r s
 | _,_=>false
end
def nK:Ex:=.mk 0 [] 0 0 0 ah
mutual
def ptN:Pt->Nat
 | .mk _ l _ _ _ _ _=>1+bI l
def bI:List Pt->Nat
 | []=>0
 | a::r=>ptN a+bI r
end
mutual
def ptD:Pt->Nat
 | .mk _ l _ _ _ _ _=>lj l+1
def lj:List Pt->Nat
 | []=>0
 | a::r=>max (ptD a) (lj r)
end
mutual
def aY:Pt->List Pt
 | .mk o l a b c d e=>.mk o l a b c d e::cE l
def cE:List Pt->List Pt
 | []=>[]
 | a::r=>aY a++cE r
end
theorem cX (x:Pt):ptN x=1+bI x.args:=by cases x;rw[ptN];rfl
theorem EM (x:Pt):ptD x=lj x.args+1:=by cases x;rw[ptD];rfl
theorem eC (x:Pt):aY x=x::cE x.args:=by cases x;rw[aY];rfl
mutual
theorem fS:∀x,(aY x).length=ptN x
 | .mk o l a b c d e=>by rw[aY,ptN,MG,tu l];omega
theorem tu:∀l,(cE l).length=bI l
 | []=>by rw[cE,bI];rfl
 | a::r=>by rw[cE,bI,Mw,fS a,tu r]
end
mutual
theorem jM:∀x,ptN x<=ptB x
 | .mk o l a b c d e=>by have:=Cz l;rw[ptN,ptB];omega
theorem Cz:∀l,bI l<=oM l
 | []=>by rw[bI,oM];omega
 | a::r=>by have:=jM a;have:=Cz r;rw[bI,oM];omega
end
def cD (op:Int):Bool:=decide (op=0\/op=5\/op=9)
def mx (op:Int):Bool:=decide (op=0\/op=5\/op=7\/op=9)
def fF (op:Int):Bool:=decide (op=6\/op=10)
def ft (op:Int):Bool:=decide (op=5\/op=9) || fF op
def gM (op:Int) (n:Nat):Bool:=if op=0 then decide (n=0) else if 1<=op/\op<=3 then decide (2<=n) else if op=8 then decide (n=2) else decide (n=1)
def dL (u:Bool) (n m:Int):Bool:=u&&(decide (n<0) || decide (m<n))
def ptE (x:Pt):Int :=
 if x.op<0\/10<x.op then 1 else if gM x.op x.args.length=false then 15
 else if dL (cD x.op) x.ty 15 || dL (cD x.op) x.vr 15 || dL (ft x.op) x.sc 63 || dL (fF x.op) x.sp 1099511627776 then 2
 else if mx x.op=true/\kQ x.cond≠0 then kQ x.cond
 else if (cD x.op=false/\(x.ty≠0\/x.vr≠0))\/(ft x.op=false/\x.sc≠0)\/(fF x.op=false/\x.sp≠0)\/(mx x.op=false/\dK x.cond nK=false) then 3 else 0
def dJ:List Int->Int
 | []=>0
 | a::r=>if a≠0 then a else dJ r
def eY (x:Pt):Int:=if 64<ptN x then 5 else if 12<ptD x then 12 else dJ ((aY x).map ptE)
def fg:Int->Int->List Pt->Bool
 | _,_,[]=>true
 | v,s,x::r=>(!cD x.op || decide (x.vr=v))&&(!ft x.op || decide (x.sc=s))&&fg (if cD x.op then v+1 else v) (if ft x.op then s+1 else s) r
def fq (x:Pt):Int:=if eY x≠0 then eY x else if (aY x).any (fun y=>decide (8<=y.op)) then 1 else if fg 0 0 (aY x) then 0 else 14
theorem eo {d:Nat} {w:World} {b p:Nat} {x:Pt} (h:kR d w b p x):∃z e v vc,d=z+1/\z=e+1/\aU z w v x.args/\aK e w vc x.cond.args/\w.cell? ⟨b,p,none⟩=some (Mk x.op)/\w.cell? ⟨b,p+1,none⟩=some v /\
  w.cell? ⟨b,p+2,none⟩=some (Mk x.ty)/\w.cell? ⟨b,p+3,none⟩=some (Mk x.vr)/\w.cell? ⟨b,p+4,none⟩=some (Mk x.sc)/\w.cell? ⟨b,p+5,none⟩=some (Mk x.sp) /\
  w.cell? ⟨b,p+6,none⟩=some (Mk x.cond.op)/\w.cell? ⟨b,p+7,none⟩=some vc/\w.cell? ⟨b,p+8,none⟩=some (Mk x.cond.vr)/\w.cell? ⟨b,p+9,none⟩=some (Mk x.cond.fl)/\w.cell? ⟨b,p+10,none⟩=some (Mk x.cond.kd) /\
  w.cell? ⟨b,p+11,none⟩=some (Mk x.cond.val.kind)/\w.cell? ⟨b,p+12,none⟩=some (Mk x.cond.val.num)/\w.cell? ⟨b,p+13,none⟩=some (.string x.cond.val.text):=by
 obtain⟨z,v,I,hv,h0,h1,O,h3,h4,h5,h6⟩:=Ji h;obtain⟨e,vc,he,G,k0,J,k2,k3,k4,k5,k6,Z⟩:=fk h6;exact⟨z,e,v,vc,I,he,hv,G,h0,h1,O,h3,h4,h5,k0,J,k2,k3,k4,k5,k6,Z⟩
mutual
def bX (h:Nat):Pt->Nat
 | .mk _ l _ _ _ _ _=>cG h 1 l
def cG (h:Nat) (n:Nat):List Pt->Nat
 | []=>n
 | a::r=>if n<=h then cG h (n+bX h a) r else n
end
theorem EK (h:Nat) (x:Pt):bX h x=cG h 1 x.args:=by cases x;rw[bX];rfl
mutual
theorem gu (h:Nat):∀x,bX h x<=ptN x
 | .mk o l a b c d e=>by
  have:=rx h 1 l;rw[bX,ptN];exact this
theorem rx (h n:Nat):∀l,cG h n l<=n+bI l
 | []=>by rw[cG];omega
 | a::r=>by
  rw[cG,bI]
  split
  ·have:=gu h a;have:=rx h (n+bX h a) r;omega
  ·omega
end
theorem qR (h:Nat):∀(l:List Pt) (n:Nat),n<=cG h n l
 | [],n=>by rw[cG];omega
 | a::r,n=>by
  rw[cG]
  split
  ·have:=qR h r (n+bX h a);omega
  ·omega
mutual
theorem qj (h:Nat):∀x,bX h x<=h->bX h x=ptN x
 | .mk o l a b c d e=>by
  have:=nR h 1 l;rw[bX,ptN];exact this
theorem nR (z n:Nat):∀l,cG z n l<=z->cG z n l=n+bI l
 | []=>by rw[cG,bI];omega
 | a::r=>by
  rw[cG,bI]
  split
  ·intro h;have G:=qR z r (n+bX z a);have:=qj z a om;have:=nR z (n+bX z a) r h;omega
  ·omega
end
theorem qm (z:Nat) (x:Pt):bX z x<=z↔ptN x<=z:=by
 constructor
 ·intro h;rw[<-qj z x h];exact h
 ·intro h;exact Mx (gu z x) h
mutual
theorem Gn:∀x,ptD x<=ptN x
 | .mk o l a b c d e=>by
  have:=pa l;rw[ptD,ptN];omega
theorem pa:∀l,lj l<=bI l
 | []=>by rw[lj];omega
 | a::r=>by
  have:=Gn a;have:=pa r;rw[lj,bI];omega
end
theorem io {l:List Pt} {k:Nat} {a:Pt} (h:l[k]?=some a):bI (l.drop k)=ptN a+bI (l.drop (k+1)):=by
 obtain⟨z,rfl⟩:=List.getElem?_eq_some_iff.1 h;rw[Nd z,bI]
theorem sQ {l:List Pt} {k:Nat} {a:Pt} (h:l[k]?=some a):lj (l.drop k)=max (ptD a) (lj (l.drop (k+1))):=by
 obtain⟨z,rfl⟩:=List.getElem?_eq_some_iff.1 h;rw[Nd z,lj]
theorem lL {z n:Nat} {l:List Pt} {k:Nat} {a:Pt} (h:l[k]?=some a):cG z n (l.drop k)=if n<=z then cG z (n+bX z a) (l.drop (k+1)) else n:=by
 obtain⟨G,rfl⟩:=List.getElem?_eq_some_iff.1 h;rw[Nd G,cG]
theorem oQ {l:List Pt} {k:Nat} {a:Pt} (h:l[k]?=some a):ptN a<=bI l:=by
 induction l generalizing k with
 | nil=>simp at h
 | cons b r z =>
  rw[bI]
  cases k with
  | zero=>simp at h;subst h;omega
  | succ k=>have:=z (k:=k) (jQ h);omega
theorem nV (L d:Nat) (hL:L<=1048576) (G:∀d',d=d'+1->∀(x:Pt) (v:Value) (Ac:Option Addr) (nc cc:Nat) (w:World),aU d' w v x.args->ptN x<=1048576 ->
   Mn 87 #[ptV x v (.slice Ac nc cc),Mk L] w (Mk (bX L x)))
  (x:Pt) (v:Value) (Ac:Option Addr) (nc cc:Nat) (w:World) (hx:aU d w v x.args) (hN:ptN x<=1048576) :
  Mn 87 #[ptV x v (.slice Ac nc cc),Mk L] w (Mk (bX L x)):=by
 have g':=jD G;obtain⟨op,l,ty,vr,sc,sp,⟨B',l2,H',F',D',⟨k0,n0,t0⟩⟩⟩:=x;rw[EK];rw[cX]at hN;obtain⟨A,c,rfl,h1,h2,c'⟩:=hx;simp only[Pt.args]at hN h1 h2 c' ⊢;have x':=ay h1 h2;have HL:=jD c';have HN:=jD hN;have G':=jD hL;obtain⟨R,hR⟩:=jE (cG L 1 l);have HR:=jD hR;rw[hR];unfold ptV;simp only[Pt.args,Pt.op,Pt.ty,Pt.vr,Pt.sc,Pt.sp,Pt.cond,Ex.op,Ex.vr,Ex.fl,Ex.kd,Ex.val];clear c' h1 h2 hR hN G hL;go_enter func87,ntmps87;go_wp2;refine bg fun w1 e1=>?_
 have y1:Ml w1 w.heap.size 1 (.slice A l.length c):=jG e1;have i':Mm w w1:=gb e1;clear e1;have a':=jD i';clear i'
 go_loopw [5,6] (fun n i wr=>∃k C:Nat,k<=l.length/\i=Mk k/\n=Mk C/\Hid (cG L C (l.drop k)=R/\C+bI (l.drop k)<=1048576/\Mm w1 wr)) (fun n i _=>l.length-(intOf i).toNat)
 case atStart=>exact⟨0,1,Mu _,rfl,rfl,jD ⟨HR.out,HN.out,Mr _ _⟩⟩
 case round =>
  obtain⟨k,C,hk,rfl,rfl,hI⟩:=hrel;have hb:=hI.out.2.2;have z1:=aa hb y1
  by_cases O:k<l.length
  ·have k':(k:Int)<(l.length:Int):=by omega
   by_cases hC:C<=L
   ·have t':(C:Int)<=(L:Int):=by omega
    obtain⟨b,o,rfl,Z⟩:=HL.out k l[k] (Mq O);have hg:=jD (Mq O);obtain⟨a,ha⟩:=jF (l[k]);rw[<-ha]at hg Z;clear ha;obtain⟨d',e',v',C',f',l',h',j',p0,p1,p2,p3,p4,p5,p6,p7,p8,p9,y',I',E',A'⟩:=eo (aB d _ _ _ _ _ (ab a'.out hb) Z);obtain⟨p',s',z,-⟩:=j';obtain⟨n',I⟩:∃n,n=a.cond.args.length:=⟨_,rfl⟩;rw[<-I]at z;subst z;have u':ptN a<=1048576:=by have:=io hg.out;have:=hI.out.2.1;omega
    obtain⟨Q,hQ⟩:=jE (bX L a);have HC:=jD (fun (W:World) (hW:Mm wr W)=>g'.out d' f' a v' p' n' s' W (h'.stays (aB d') hW) u');unfold ptV at HC;rw[hQ]at HC;have J':Q<=1048576:=by have:=gu L a;omega
    have HQ:=jD hQ;have hs:=hI.out.2.1;have z':IntKind.i64.wrap ((C:Int)+(Q:Int))=((C+Q:Nat):Int):=by
     have hq:=io hg.out;have r':=gu L a;have m':C+Q<=1048576:=by omega
     rw[<-Oe,bM om]
    clear hQ Z f' h' hs l' I;go_wp2_with fail;refine (HC.out _ (Mr _ _)).mono ?_;rintro e w' ⟨rfl,q'⟩;go_wp2_with fail
    go_roundw
    case rel =>
     refine⟨k+1,C+Q,by omega,by go_num,rfl,jD ⟨?_,?_,ab hb q'⟩⟩
     ·have h:=hI.out.1;rw[lL hg.out,Mp hC,HQ.out]at h;exact h
     ·have hq:=io hg.out;have r':=gu L a;have m':=HQ.out;have hs:=hI.out.2.1;omega
    case measure=>simp[intOf];omega
   ·have t':¬(C:Int)<=(L:Int):=by omega
    have J:C=R:=by
     have h:=hI.out.1;rw[lL (Mq O),Mo hC]at h;exact h
    subst J;exact fi (ab a'.out hb)
  ·have k':¬(k:Int)<(l.length:Int):=by omega
   have J:C=R:=by
    have h:=hI.out.1;rw[No om,cG]at h;exact h
   subst J;exact fi (ab a'.out hb)
theorem qL (L:Nat) (hL:L<=1048576) (d:Nat):∀(x:Pt) (v:Value) (Ac:Option Addr) (J G:Nat) (w:World),aU d w v x.args->ptN x<=1048576 ->
  Mn 87 #[ptV x v (.slice Ac J G),Mk L] w (Mk (bX L x)):=by
 induction d with
 | zero=>exact nV L 0 hL (fun I h=>by omega)
 | succ d z=>exact nV L (d+1) hL (fun I h=>NU h▸z)
theorem lT (d:Nat) (G:∀d',d=d'+1->∀(x:Pt) (v:Value) (Ac:Option Addr) (nc cc:Nat) (w:World),aU d' w v x.args->ptN x<=1048576 ->
   Mn 88 #[ptV x v (.slice Ac nc cc)] w (Mk (ptD x)))
  (x:Pt) (v:Value) (Ac:Option Addr) (nc cc:Nat) (w:World) (hx:aU d w v x.args) (hN:ptN x<=1048576) :
  Mn 88 #[ptV x v (.slice Ac nc cc)] w (Mk (ptD x)):=by
 have f':=jD G;obtain⟨op,l,ty,vr,sc,sp,⟨z',l2,E',D',B',⟨k0,n0,t0⟩⟩⟩:=x;rw[EM];rw[cX]at hN;obtain⟨A,c,rfl,h1,h2,O⟩:=hx;simp only[Pt.args]at hN h1 h2 O ⊢;have t':=ay h1 h2;have HL:=jD O;have HN:=jD hN;obtain⟨R,hR⟩:=jE (lj l);have r':R<1048576:=by have:=pa l;omega
 have HR:=jD hR;rw[hR];have u':IntKind.i64.wrap ((R:Int)+1)=(R:Int)+1:=bM (n:=R+1) om;unfold ptV;simp only[Pt.args,Pt.op,Pt.ty,Pt.vr,Pt.sc,Pt.sp,Pt.cond,Ex.op,Ex.vr,Ex.fl,Ex.kd,Ex.val];clear O h1 h2 hR hN G r';go_enter func88,ntmps88;go_wp2;refine bg fun w1 e1=>?_
 have y1:Ml w1 w.heap.size 1 (.slice A l.length c):=jG e1;have h':Mm w w1:=gb e1;clear e1;have c':=jD h';clear h'
 go_loopw [3,4] (fun n i wr=>∃k C:Nat,k<=l.length/\i=Mk k/\n=Mk C/\Hid (max C (lj (l.drop k))=R/\Mm w1 wr)) (fun n i _=>l.length-(intOf i).toNat)
 case atStart=>exact⟨0,0,Mu _,rfl,rfl,jD ⟨by rw[OD,HR.out];omega,Mr _ _⟩⟩
 case round =>
  obtain⟨k,C,hk,rfl,rfl,hI⟩:=hrel;have hb:=hI.out.2;have z1:=aa hb y1
  by_cases a':k<l.length
  ·have j':(k:Int)<(l.length:Int):=by omega
   obtain⟨b,o,rfl,J⟩:=HL.out k l[k] (Mq a');have hg:=jD (Mq a');obtain⟨a,ha⟩:=jF (l[k]);rw[<-ha]at hg J;clear ha;obtain⟨d',e',v',A',Z,k',g',i',p0,p1,p2,p3,p4,p5,p6,p7,p8,p9,x',F',C',y'⟩:=eo (aB d _ _ _ _ _ (ab c'.out hb) J);obtain⟨n',q',z,-⟩:=i';obtain⟨m',I⟩:∃n,n=a.cond.args.length:=⟨_,rfl⟩;rw[<-I]at z;subst z;have s':ptN a<=1048576:=by have:=oQ hg.out;have:=HN.out;omega
   obtain⟨Q,hQ⟩:=jE (ptD a);have HC:=jD (fun (W:World) (hW:Mm wr W)=>f'.out d' Z a v' n' m' q' W (g'.stays (aB d') hW) s');unfold ptV at HC;rw[hQ]at HC;have HQ:=jD hQ;clear hQ J Z g' k' I;go_wp2_with fail;refine (HC.out _ (Mr _ _)).mono ?_;rintro e w' ⟨rfl,p'⟩;go_wp2_with fail
   go_roundw
   case rel =>
    refine⟨k+1,max C Q,by omega,by go_num,?_,jD ⟨?_,ab hb p'⟩⟩
    ·exact congrArg (Value.int .i64) om
    ·have h:=hI.out.1;rw[sQ hg.out,HQ.out]at h;omega
   case measure=>simp[intOf];omega
  ·have j':¬(k:Int)<(l.length:Int):=by omega
   have l':C=R:=by
    have h:=hI.out.1;rw[No om,lj]at h;omega
   subst l';exact fi (ab c'.out hb)
theorem oa (d:Nat):∀(x:Pt) (v:Value) (Ac:Option Addr) (J G:Nat) (w:World),aU d w v x.args->ptN x<=1048576 ->
  Mn 88 #[ptV x v (.slice Ac J G)] w (Mk (ptD x)):=by
 induction d with
 | zero=>exact lT 0 (fun I h=>by omega)
 | succ d z=>exact lT (d+1) (fun I h=>NU h▸z)
theorem nY (d:Nat) (G:∀d',d=d'+1->∀(x:Pt) (v:Value) (Ac:Option Addr) (nc cc:Nat) (w:World),aU d' w v x.args->ptN x<=1048576 ->
   Mn 184 #[ptV x v (.slice Ac nc cc)] w (.tuple #[Mk (ptN x),Mk (ptD x)]))
  (x:Pt) (v:Value) (Ac:Option Addr) (nc cc:Nat) (w:World) (hx:aU d w v x.args) (hN:ptN x<=1048576) :
  Mn 184 #[ptV x v (.slice Ac nc cc)] w (.tuple #[Mk (ptN x),Mk (ptD x)]):=by
 have i':=jD G;obtain⟨op,l,ty,vr,sc,sp,⟨t',l2,B',z',y',⟨k0,n0,t0⟩⟩⟩:=x;rw[EM];obtain⟨M,hM⟩:=jE (ptN (.mk op l ty vr sc sp ⟨t',l2,B',z',y',⟨k0,n0,t0⟩⟩));have HM:Hid (1+bI l=M):=jD (by rw[<-hM,cX];rfl);rw[hM]at hN ⊢;clear hM;obtain⟨A,c,rfl,h1,h2,O⟩:=hx;simp only[Pt.args]at h1 h2 O ⊢;have E':=ay h1 h2;have HL:=jD O;have HN:=jD hN;obtain⟨R,hR⟩:=jE (lj l);have C':R<1048576:=by have:=pa l;have:=HM.out;omega
 have HR:=jD hR;rw[hR];have F':IntKind.i64.wrap ((R:Int)+1)=(R:Int)+1:=bM (n:=R+1) om;unfold ptV;simp only[Pt.op,Pt.ty,Pt.vr,Pt.sc,Pt.sp,Pt.cond,Ex.op,Ex.vr,Ex.fl,Ex.kd,Ex.val];clear O h1 h2 hR hN G C';go_enter func184,ntmps184;go_wp2;refine bg fun w1 e1=>?_
 have k':Mm w w1:=gb e1;clear e1;have g':=jD k';clear k'
 go_loopw [4,5,13] (fun n m i wr=>∃k C D:Nat,k<=l.length/\i=Mk k/\n=Mk C/\m=Mk D/\Hid (C+bI (l.drop k)=M/\max D (lj (l.drop k))=R/\Mm w1 wr)) (fun n m i _=>l.length-(intOf i).toNat)
 case atStart=>exact⟨0,1,0,Mu _,rfl,rfl,rfl,jD ⟨HM.out,by rw[OD,HR.out];omega,Mr _ _⟩⟩
 case round =>
  obtain⟨k,C,D,hk,rfl,rfl,rfl,hI⟩:=hrel;have hb:=hI.out.2.2
  by_cases f':k<l.length
  ·have m':(k:Int)<(l.length:Int):=by omega
   obtain⟨b,o,rfl,J⟩:=HL.out k l[k] (Mq f');have hg:=jD (Mq f');obtain⟨a,ha⟩:=jF (l[k]);rw[<-ha]at hg J;clear ha;obtain⟨d',e',v',O',a',n',Z,l',p0,p1,p2,p3,p4,p5,p6,p7,p8,p9,G',R',P',J'⟩:=eo (aB d _ _ _ _ _ (ab g'.out hb) J);obtain⟨r',x',z,-⟩:=l';obtain⟨q',I⟩:∃n,n=a.cond.args.length:=⟨_,rfl⟩;rw[<-I]at z;subst z;have j':ptN a<=1048576:=by have:=oQ hg.out;have:=HM.out;have:=HN.out;omega
   have u':=Z;obtain⟨A',c',D',-⟩:=u';subst D';obtain⟨P,hP⟩:=jE (ptN a);obtain⟨Q,hQ⟩:=jE (ptD a);have HC:=jD (fun (W:World) (hW:Mm wr W)=>i'.out d' a' a _ r' q' x' W (Z.stays (aB d') hW) j');unfold ptV at HC;rw[hQ,hP]at HC;have HQ:=jD hQ;have HP:=jD hP;have H':IntKind.i64.wrap ((C:Int)+(P:Int))=((C+P:Nat):Int):=by
    have hq:=io hg.out;have N':=hI.out.1;have I':=HN.out;rw[<-Oe,bM om]
   clear hQ hP J a' Z j' n' I;go_wp2_with fail;refine (HC.out _ ?_).mono ?_
   ·exact jB
   rintro e w' ⟨rfl,s'⟩;go_wp2_with fail
   go_roundw
   case rel =>
    refine⟨k+1,C+P,max D Q,by omega,by go_num,rfl,congrArg (Value.int .i64) om,jD ⟨?_,?_,ab hb (ab jB s')⟩⟩
    ·have h:=hI.out.1;rw[io hg.out,HP.out]at h;omega
    ·have h:=hI.out.2.1;rw[sQ hg.out,HQ.out]at h;omega
   case measure=>simp[intOf];omega
  ·have m':¬(k:Int)<(l.length:Int):=by omega
   have p':D=R/\C=M:=by
    have h:=hI.out.2.1;have h':=hI.out.1;rw[No om]at h h';rw[lj]at h;rw[bI]at h';omega
   obtain⟨rfl,rfl⟩:=p';go_wp2;exact Mv (v:=.tuple #[Mk C,Mk ((D:Int)+1)]) (by simp[results,results184,go_sem]) rfl ⟨rfl,ab g'.out hb⟩
theorem CR (d:Nat):∀(x:Pt) (v:Value) (Ac:Option Addr) (J G:Nat) (w:World),aU d w v x.args->ptN x<=1048576 ->
  Mn 184 #[ptV x v (.slice Ac J G)] w (.tuple #[Mk (ptN x),Mk (ptD x)]):=by
 induction d with
 | zero=>exact nY 0 (fun I h=>by omega)
 | succ d z=>exact nY (d+1) (fun I h=>NU h▸z)
theorem sy (x y:Ex):dK x y=(decide (x.op=y.op)&&decide (x.vr=y.vr)&&decide (x.fl=y.fl)&&decide (x.kd=y.kd)&&bY x.val y.val&&de x.args y.args):=by
 cases x;cases y;rw[dK];rfl
theorem jz:∀{l m:List Ex},l.length≠m.length->de l m=false
 | [],[],h=>absurd rfl h
 | [],_::_,_=>by simp[de]
 | _::_,[],_=>by simp[de]
 | a::l,b::m,h=>by rw[de,jz (l:=l) (m:=m) (jQ h),Ox]
theorem mG {l m:List Ex} {k:Nat} {a b:Ex} (h:l[k]?=some a) (z:m[k]?=some b):de (l.drop k) (m.drop k)=(dK a b&&de (l.drop (k+1)) (m.drop (k+1))):=by
 obtain⟨G,rfl⟩:=List.getElem?_eq_some_iff.1 h;obtain⟨I,rfl⟩:=List.getElem?_eq_some_iff.1 z;rw[Nd G,Nd I,de]
theorem ubh {p:Prop} (h:p:=by
  clear hG V' R';refine wpQuiet_nil ?_;rintro _ ⟨⟨w',F',U'⟩,rfl⟩
  clear U'
  cases Q
  ·obtain rfl:S=false:=by have:=H.out;rw[Oj]at this;exact this.symm
   go_wp2;go_ret;exact⟨rfl,ab m'.out (ab hb F')⟩
  ·go_wp2_with fail
   go_roundw
   case rel=>exact⟨k+1,by omega,by go_num,jD ⟨by have:=H.out;rwa [NW]at this,ab hb F'⟩⟩
   case measure=>simp[intOf];omega):p:=h
theorem ubi {p:Prop} (h:p:=by
  clear J HS HL I z;go_enter func240,ntmps240;go_wp2;go_ret;exact⟨rfl,jB⟩):p:=h
theorem ubk {p:Prop} (h:p:=by
  have S':¬(k:Int)<(n:Int):=by omega
  obtain rfl:S=true:=by
   have h:=hI.out.1;rw[No (by have:=HN.out;omega),No (by have:=N'.out;omega),de]at h;exact h.symm
  exact fi (ab m'.out hb)):p:=h
theorem rb (d:Nat) (n':∀d',d=d'+1->∀(e:Nat) (x y:Ex) (v u:Value) (w:World),aK d' w v x.args->aK e w u y.args ->
   Mn 240 #[exV x v,exV y u] w (.bool (dK x y)))
  (e:Nat) (x y:Ex) (v u:Value) (w:World) (hx:aK d w v x.args) (hy:aK e w u y.args) :
  Mn 240 #[exV x v,exV y u] w (.bool (dK x y)):=by
 have z:=jD n';rw[sy];obtain⟨op,l,vr,fl,kd,⟨k0,n0,t0⟩⟩:=x;obtain⟨C',l',E',H',J',⟨k1,n1,t1⟩⟩:=y;obtain⟨A,c,rfl,h1,h2,t'⟩:=hx;obtain⟨A',c',rfl,x',r',j'⟩:=hy;simp only[Ex.args,Ex.op,Ex.vr,Ex.fl,Ex.kd,Ex.val]at h1 h2 t' x' r' j' ⊢;have y':=ay h1 h2;have p':=ay x' r';have HL:=jD t';have I:=jD j';have J:Hid (∀W,(binOp .neq 27 (.agg #[Mk k0,Mk n0,.string t0]) (.agg #[Mk k1,Mk n1,.string t1])).run prog W=.ok (.bool (!bY ⟨k0,n0,t0⟩ ⟨k1,n1,t1⟩)) W):=jD (fun W=>cZ ⟨k0,n0,t0⟩ ⟨k1,n1,t1⟩ W);obtain⟨q,hq⟩:=jE (bY ⟨k0,n0,t0⟩ ⟨k1,n1,t1⟩);rw[hq]at J ⊢;obtain⟨S,hS⟩:=jE (de l l');rw[hS];have HS:=jD hS;clear t' j' hS hq h1 h2 x' r' n';unfold exV;simp only[Ex.op,Ex.vr,Ex.fl,Ex.kd,Ex.val]
 by_cases Z:op=C'
 case neg =>
  simp only[Z,N3,Oj,Ox];have gg:(op==C')=false:=jQ Z;exact ubi
 subst Z;simp only[N8,NW]
 by_cases i':vr=E'
 case neg =>
  simp only[i',N3,Oj,Ox];have gg:(vr==E')=false:=jQ i';exact ubi
 subst i';simp only[N8,NW]
 by_cases O:fl=H'
 case neg =>
  simp only[O,N3,Oj,Ox];have gg:(fl==H')=false:=jQ O;exact ubi
 subst O;simp only[N8,NW]
 by_cases g':kd=J'
 case neg =>
  simp only[g',N3,Oj,Ox];have gg:(kd==J')=false:=jQ g';exact ubi
 subst g';simp only[N8,NW]
 cases q
 case false =>
  simp only[Oj];have G':=J.out;clear HS HL I z J;go_enter func240,ntmps240;go_wp2;go_ret;exact⟨rfl,jB⟩
 simp only[NW];have G':=J.out;clear J
 by_cases hl:l.length=l'.length
 case neg =>
  obtain rfl:S=false:=by rw[<-HS.out];exact jz hl
  have Y':¬((l.length:Int)=(l'.length:Int)):=by omega
  clear HS HL I z hl;go_enter func240,ntmps240;go_wp2;go_ret;exact⟨rfl,jB⟩
 obtain⟨n,k'⟩:=jE l.length;have HN:=jD k';have N':Hid (l'.length=n):=jD (by rw[<-hl,k']);rw[<-hl,k'];rw[k']at y';clear k' hl p';go_enter func240,ntmps240;go_wp2_with fail;refine bg fun w1 e1=>?_
 have y1:Ml w1 w.heap.size 1 (.slice A n c):=jG e1;have y2:Ml w1 (w.heap.size+1) 1 (.slice A' n c'):=jG e1;have O':Mm w w1:=gb e1;clear e1;have m':=jD O';clear O' G'
 go_loopw [51] (fun i wr=>∃k:Nat,k<=n/\i=Mk k/\Hid (de (l.drop k) (l'.drop k)=S/\Mm w1 wr)) (fun i _=>n-(intOf i).toNat)
 case atStart=>exact⟨0,Mu _,rfl,jD ⟨HS.out,Mr _ _⟩⟩
 case round =>
  obtain⟨k,hk,rfl,hI⟩:=hrel;have hb:=hI.out.2;have z1:=aa hb y1;have z2:=aa hb y2
  by_cases X':k<n
  ·have S':(k:Int)<(n:Int):=by omega
   have s':k<l.length:=by have:=HN.out;omega
   have h':k<l'.length:=by have:=N'.out;omega
   obtain⟨b,o,rfl,q'⟩:=HL.out k l[k] (Mq s');obtain⟨b',o',rfl,f'⟩:=I.out k l'[k] (Mq h');have hg:=jD (Mq s');have B':=jD (Mq h');obtain⟨a,ha⟩:=jF (l[k]);obtain⟨G,P'⟩:=jF (l'[k]);rw[<-ha]at hg q';rw[<-P']at B' f';clear ha P' s' h';obtain⟨d',v',z',I',p0,p1,p2,p3,p4,p5,p6,p7⟩:=fk (ai d _ _ _ _ _ (ab m'.out hb) q');obtain⟨e',u',T',D',q0,q1,q2,q3,q4,q5,q6,q7⟩:=fk (ai e _ _ _ _ _ (ab m'.out hb) f');obtain⟨Q,hQ⟩:=jE (dK a G);have HC:=jD (fun (W:World) (hW:Mm wr W)=>z.out d' z' e' a G v' u' W (I'.stays (ai d') hW) (D'.stays (ai e') hW));rw[hQ]at HC;have J:=jD hQ;obtain⟨A2,c2,rfl,-⟩:=I';obtain⟨A3,c3,rfl,-⟩:=D';unfold exV at HC;have h:=hI.out.1;rw[mG hg.out B'.out,J.out]at h;have H:=jD h;clear hQ q' f' z' T' h;go_wp2_with fail
   refine dt (fun W=>W.cell? ⟨w.heap.size,1,none⟩=some (.slice (some ⟨b,o,none⟩) n c)/\W.cell? ⟨w.heap.size+1,1,none⟩=some (.slice (some ⟨b',o',none⟩) n c')/\W.cell? ⟨b,o+k*8,none⟩=some (Mk a.op)/\W.cell? ⟨b,o+k*8+1,none⟩=some (.slice A2 a.args.length c2)/\W.cell? ⟨b,o+k*8+2,none⟩=some (Mk a.vr)/\W.cell? ⟨b,o+k*8+3,none⟩=some (Mk a.fl)/\W.cell? ⟨b,o+k*8+4,none⟩=some (Mk a.kd)/\W.cell? ⟨b,o+k*8+5,none⟩=some (Mk a.val.kind)/\W.cell? ⟨b,o+k*8+6,none⟩=some (Mk a.val.num)/\W.cell? ⟨b,o+k*8+7,none⟩=some (.string a.val.text)/\W.cell? ⟨b',o'+k*8,none⟩=some (Mk G.op)/\W.cell? ⟨b',o'+k*8+1,none⟩=some (.slice A3 G.args.length c3)/\W.cell? ⟨b',o'+k*8+2,none⟩=some (Mk G.vr)/\W.cell? ⟨b',o'+k*8+3,none⟩=some (Mk G.fl)/\W.cell? ⟨b',o'+k*8+4,none⟩=some (Mk G.kd)/\W.cell? ⟨b',o'+k*8+5,none⟩=some (Mk G.val.kind)/\W.cell? ⟨b',o'+k*8+6,none⟩=some (Mk G.val.num)/\W.cell? ⟨b',o'+k*8+7,none⟩=some (.string G.val.text)) (by repeat (first|exact aX _ _ _|exact aW|refine bw ?_ ?_)) kr kr ?hF ?_;(case hF=>(first|exact⟨‹_›,‹_›⟩|(go_simp;done)|(simp[*];done)|(repeat' (first|(refine And.intro ?_ ?_)|(go_simp;done)|exact aa (bt (Mr _ _) _) (by assumption)|assumption))));intro R' V';have hG:Hid (Grows (fun W=>W.cell? ⟨w.heap.size,1,none⟩=some (.slice (some ⟨b,o,none⟩) n c)/\W.cell? ⟨w.heap.size+1,1,none⟩=some (.slice (some ⟨b',o',none⟩) n c')/\W.cell? ⟨b,o+k*8,none⟩=some (Mk a.op)/\W.cell? ⟨b,o+k*8+1,none⟩=some (.slice A2 a.args.length c2)/\W.cell? ⟨b,o+k*8+2,none⟩=some (Mk a.vr)/\W.cell? ⟨b,o+k*8+3,none⟩=some (Mk a.fl)/\W.cell? ⟨b,o+k*8+4,none⟩=some (Mk a.kd)/\W.cell? ⟨b,o+k*8+5,none⟩=some (Mk a.val.kind)/\W.cell? ⟨b,o+k*8+6,none⟩=some (Mk a.val.num)/\W.cell? ⟨b,o+k*8+7,none⟩=some (.string a.val.text)/\W.cell? ⟨b',o'+k*8,none⟩=some (Mk G.op)/\W.cell? ⟨b',o'+k*8+1,none⟩=some (.slice A3 G.args.length c3)/\W.cell? ⟨b',o'+k*8+2,none⟩=some (Mk G.vr)/\W.cell? ⟨b',o'+k*8+3,none⟩=some (Mk G.fl)/\W.cell? ⟨b',o'+k*8+4,none⟩=some (Mk G.kd)/\W.cell? ⟨b',o'+k*8+5,none⟩=some (Mk G.val.kind)/\W.cell? ⟨b',o'+k*8+6,none⟩=some (Mk G.val.num)/\W.cell? ⟨b',o'+k*8+7,none⟩=some (.string G.val.text))):=(by repeat (first|exact aX _ _ _|exact aW|refine bw ?_ ?_));(repeat (go_big_quiet_step ((go_at_call 240;exact nN hG (fun W hW=>HC.out W hW)))));exact ubh
  ·exact ubk
theorem D2 (d:Nat):∀(e:Nat) (x y:Ex) (v u:Value) (w:World),aK d w v x.args->aK e w u y.args ->
  Mn 240 #[exV x v,exV y u] w (.bool (dK x y)):=by
 induction d with
 | zero=>exact rb 0 (fun G h=>by omega)
 | succ d z=>exact rb (d+1) (fun G h=>NU h▸z)
theorem ubj {p:Prop} (h:p:=by
  clear J HS HL I z;go_enter func215,ntmps215;go_wp2;go_ret;exact⟨rfl,jB⟩):p:=h
theorem nT (d:Nat) (n':∀d',d=d'+1->∀(e:Nat) (x y:Ex) (v u:Value) (w:World),aK d' w v x.args->aK e w u y.args ->
   Mn 215 #[exV x v,exV y u] w (.bool (dK x y)))
  (e:Nat) (x y:Ex) (v u:Value) (w:World) (hx:aK d w v x.args) (hy:aK e w u y.args) :
  Mn 215 #[exV x v,exV y u] w (.bool (dK x y)):=by
 have z:=jD n';rw[sy];obtain⟨op,l,vr,fl,kd,⟨k0,n0,t0⟩⟩:=x;obtain⟨C',l',E',H',J',⟨k1,n1,t1⟩⟩:=y;obtain⟨A,c,rfl,h1,h2,t'⟩:=hx;obtain⟨A',c',rfl,x',r',j'⟩:=hy;simp only[Ex.args,Ex.op,Ex.vr,Ex.fl,Ex.kd,Ex.val]at h1 h2 t' x' r' j' ⊢;have y':=ay h1 h2;have p':=ay x' r';have HL:=jD t';have I:=jD j';have J:Hid (∀W,(binOp .neq 27 (.agg #[Mk k0,Mk n0,.string t0]) (.agg #[Mk k1,Mk n1,.string t1])).run prog W=.ok (.bool (!bY ⟨k0,n0,t0⟩ ⟨k1,n1,t1⟩)) W):=jD (fun W=>cZ ⟨k0,n0,t0⟩ ⟨k1,n1,t1⟩ W);obtain⟨q,hq⟩:=jE (bY ⟨k0,n0,t0⟩ ⟨k1,n1,t1⟩);rw[hq]at J ⊢;obtain⟨S,hS⟩:=jE (de l l');rw[hS];have HS:=jD hS;clear t' j' hS hq h1 h2 x' r' n';unfold exV;simp only[Ex.op,Ex.vr,Ex.fl,Ex.kd,Ex.val]
 by_cases Z:op=C'
 case neg =>
  simp only[Z,N3,Oj,Ox];have gg:(op==C')=false:=jQ Z;exact ubj
 subst Z;simp only[N8,NW]
 by_cases i':vr=E'
 case neg =>
  simp only[i',N3,Oj,Ox];have gg:(vr==E')=false:=jQ i';exact ubj
 subst i';simp only[N8,NW]
 by_cases O:fl=H'
 case neg =>
  simp only[O,N3,Oj,Ox];have gg:(fl==H')=false:=jQ O;exact ubj
 subst O;simp only[N8,NW]
 by_cases g':kd=J'
 case neg =>
  simp only[g',N3,Oj,Ox];have gg:(kd==J')=false:=jQ g';exact ubj
 subst g';simp only[N8,NW]
 cases q
 case false =>
  simp only[Oj];have G':=J.out;clear HS HL I z J;go_enter func215,ntmps215;go_wp2;go_ret;exact⟨rfl,jB⟩
 simp only[NW];have G':=J.out;clear J
 by_cases hl:l.length=l'.length
 case neg =>
  obtain rfl:S=false:=by rw[<-HS.out];exact jz hl
  have Y':¬((l.length:Int)=(l'.length:Int)):=by omega
  clear HS HL I z hl;go_enter func215,ntmps215;go_wp2;go_ret;exact⟨rfl,jB⟩
 obtain⟨n,k'⟩:=jE l.length;have HN:=jD k';have N':Hid (l'.length=n):=jD (by rw[<-hl,k']);rw[<-hl,k'];rw[k']at y';clear k' hl p';go_enter func215,ntmps215;go_wp2_with fail;refine bg fun w1 e1=>?_
 have y1:Ml w1 w.heap.size 1 (.slice A n c):=jG e1;have y2:Ml w1 (w.heap.size+1) 1 (.slice A' n c'):=jG e1;have O':Mm w w1:=gb e1;clear e1;have m':=jD O';clear O' G'
 go_loopw [5] (fun i wr=>∃k:Nat,k<=n/\i=Mk k/\Hid (de (l.drop k) (l'.drop k)=S/\Mm w1 wr)) (fun i _=>n-(intOf i).toNat)
 case atStart=>exact⟨0,Mu _,rfl,jD ⟨HS.out,Mr _ _⟩⟩
 case round =>
  obtain⟨k,hk,rfl,hI⟩:=hrel;have hb:=hI.out.2;have z1:=aa hb y1;have z2:=aa hb y2
  by_cases X':k<n
  ·have S':(k:Int)<(n:Int):=by omega
   have s':k<l.length:=by have:=HN.out;omega
   have h':k<l'.length:=by have:=N'.out;omega
   obtain⟨b,o,rfl,q'⟩:=HL.out k l[k] (Mq s');obtain⟨b',o',rfl,f'⟩:=I.out k l'[k] (Mq h');have hg:=jD (Mq s');have B':=jD (Mq h');obtain⟨a,ha⟩:=jF (l[k]);obtain⟨G,P'⟩:=jF (l'[k]);rw[<-ha]at hg q';rw[<-P']at B' f';clear ha P' s' h';obtain⟨d',v',z',I',p0,p1,p2,p3,p4,p5,p6,p7⟩:=fk (ai d _ _ _ _ _ (ab m'.out hb) q');obtain⟨e',u',T',D',q0,q1,q2,q3,q4,q5,q6,q7⟩:=fk (ai e _ _ _ _ _ (ab m'.out hb) f');obtain⟨Q,hQ⟩:=jE (dK a G);have HC:=jD (fun (W:World) (hW:Mm wr W)=>z.out d' z' e' a G v' u' W (I'.stays (ai d') hW) (D'.stays (ai e') hW));rw[hQ]at HC;have J:=jD hQ;obtain⟨A2,c2,rfl,-⟩:=I';obtain⟨A3,c3,rfl,-⟩:=D';unfold exV at HC;have h:=hI.out.1;rw[mG hg.out B'.out,J.out]at h;have H:=jD h;clear hQ q' f' z' T' h;go_wp2_with fail
   refine dt (fun W=>W.cell? ⟨w.heap.size,1,none⟩=some (.slice (some ⟨b,o,none⟩) n c)/\W.cell? ⟨w.heap.size+1,1,none⟩=some (.slice (some ⟨b',o',none⟩) n c')/\W.cell? ⟨b,o+k*8,none⟩=some (Mk a.op)/\W.cell? ⟨b,o+k*8+1,none⟩=some (.slice A2 a.args.length c2)/\W.cell? ⟨b,o+k*8+2,none⟩=some (Mk a.vr)/\W.cell? ⟨b,o+k*8+3,none⟩=some (Mk a.fl)/\W.cell? ⟨b,o+k*8+4,none⟩=some (Mk a.kd)/\W.cell? ⟨b,o+k*8+5,none⟩=some (Mk a.val.kind)/\W.cell? ⟨b,o+k*8+6,none⟩=some (Mk a.val.num)/\W.cell? ⟨b,o+k*8+7,none⟩=some (.string a.val.text)/\W.cell? ⟨b',o'+k*8,none⟩=some (Mk G.op)/\W.cell? ⟨b',o'+k*8+1,none⟩=some (.slice A3 G.args.length c3)/\W.cell? ⟨b',o'+k*8+2,none⟩=some (Mk G.vr)/\W.cell? ⟨b',o'+k*8+3,none⟩=some (Mk G.fl)/\W.cell? ⟨b',o'+k*8+4,none⟩=some (Mk G.kd)/\W.cell? ⟨b',o'+k*8+5,none⟩=some (Mk G.val.kind)/\W.cell? ⟨b',o'+k*8+6,none⟩=some (Mk G.val.num)/\W.cell? ⟨b',o'+k*8+7,none⟩=some (.string G.val.text)) (by repeat (first|exact aX _ _ _|exact aW|refine bw ?_ ?_)) kr kr ?hF ?_;(case hF=>(first|exact⟨‹_›,‹_›⟩|(go_simp;done)|(simp[*];done)|(repeat' (first|(refine And.intro ?_ ?_)|(go_simp;done)|exact aa (bt (Mr _ _) _) (by assumption)|assumption))));intro R' V';have hG:Hid (Grows (fun W=>W.cell? ⟨w.heap.size,1,none⟩=some (.slice (some ⟨b,o,none⟩) n c)/\W.cell? ⟨w.heap.size+1,1,none⟩=some (.slice (some ⟨b',o',none⟩) n c')/\W.cell? ⟨b,o+k*8,none⟩=some (Mk a.op)/\W.cell? ⟨b,o+k*8+1,none⟩=some (.slice A2 a.args.length c2)/\W.cell? ⟨b,o+k*8+2,none⟩=some (Mk a.vr)/\W.cell? ⟨b,o+k*8+3,none⟩=some (Mk a.fl)/\W.cell? ⟨b,o+k*8+4,none⟩=some (Mk a.kd)/\W.cell? ⟨b,o+k*8+5,none⟩=some (Mk a.val.kind)/\W.cell? ⟨b,o+k*8+6,none⟩=some (Mk a.val.num)/\W.cell? ⟨b,o+k*8+7,none⟩=some (.string a.val.text)/\W.cell? ⟨b',o'+k*8,none⟩=some (Mk G.op)/\W.cell? ⟨b',o'+k*8+1,none⟩=some (.slice A3 G.args.length c3)/\W.cell? ⟨b',o'+k*8+2,none⟩=some (Mk G.vr)/\W.cell? ⟨b',o'+k*8+3,none⟩=some (Mk G.fl)/\W.cell? ⟨b',o'+k*8+4,none⟩=some (Mk G.kd)/\W.cell? ⟨b',o'+k*8+5,none⟩=some (Mk G.val.kind)/\W.cell? ⟨b',o'+k*8+6,none⟩=some (Mk G.val.num)/\W.cell? ⟨b',o'+k*8+7,none⟩=some (.string G.val.text))):=(by repeat (first|exact aX _ _ _|exact aW|refine bw ?_ ?_));(repeat (go_big_quiet_step ((go_at_call 215;exact nN hG (fun W hW=>HC.out W hW)))));exact ubh
  ·exact ubk
theorem zR (d:Nat):∀(e:Nat) (x y:Ex) (v u:Value) (w:World),aK d w v x.args->aK e w u y.args ->
  Mn 215 #[exV x v,exV y u] w (.bool (dK x y)):=by
 induction d with
 | zero=>exact nT 0 (fun G h=>by omega)
 | succ d z=>exact nT (d+1) (fun G h=>NU h▸z)
end Go.Proofs.YtbjicljfjkdeeaaGreatDoor
