/- Part. -/
import Derived.Test.YtokconodddedhaaGreatDoorQ04
set_option maxRecDepth 100000
set_option maxHeartbeats 16000000
set_option linter.unusedVariables false
set_option linter.unusedSimpArgs false
namespace Go.Proofs.YtokconodddedhaaGreatDoor
open Go.Proofs.Tryz Go.RowKit
theorem wv (s q y t:Int) (A:Option Addr) (n c:Nat) (w:World):KZ 28 #[.agg #[KW s,KW q,KW y,KW t,.slice A n c]] w (.agg #[KW t,KW s,KW q]) :=
 (FP s q y t A n c w).mono fun _ _ ⟨h,z⟩=>⟨h,z.below⟩
def rg (s1 h s2 z:Int):Bool:=decide (s1=s2/\h=z)
theorem DI (s1 h O t1 s2 z J t2:Int) (A B:Option Addr) (n c m d:Nat) (w:World):KZ 93 #[.agg #[KW s1,KW h,KW O,KW t1,.slice A n c],.agg #[KW s2,KW z,KW J,KW t2,.slice B m d]] w (.bool (rg s1 h s2 z)):=by
 unfold rg
 by_cases D:s1=s2
 ·subst D
  by_cases F:h=z
  ·subst F;go_enter func93,ntmps93;go_wp2;go_ret;exact⟨by simp,jB⟩
  ·have G:(h==z)=false:=jQ F;go_enter func93,ntmps93;go_wp2;go_ret;exact⟨by simp[F],jB⟩
 ·have I:(s1==s2)=false:=jQ D;go_enter func93,ntmps93;go_wp2;go_ret;exact⟨by simp[D],jB⟩
theorem rZ {l:List Evt} {j:Nat} {y x:Evt} (hy:l[j]?=some y) (h:(l.take j).any (dA x)=false) (z:rg y.src y.sq x.src x.sq=false):(l.take (j+1)).any (dA x)=false:=by
 rw[aX hy,List.any_append,h,List.any_cons,List.any_nil];have:dA x y=false:=by
  unfold dA;unfold rg at z;rw[LG]at z ⊢;exact fun ⟨a,b⟩=>z ⟨a.symm,b.symm⟩
 rw[this];rfl
theorem uL {l:List Evt} {k j:Nat} {y x:Evt} (hy:l[j]?=some y) (z:j<k) (h:rg y.src y.sq x.src x.sq=true):(l.take k).any (dA x)=true:=by
 rw[NA];refine⟨y,?_,?_⟩
 ·rw[List.mem_iff_getElem?];exact⟨j,by rw[List.getElem?_take_of_lt z];exact hy⟩
 ·unfold dA;unfold rg at h;rw[Ly]at h ⊢;exact⟨h.1.symm,h.2.symm⟩
theorem xd (l:List Evt) (v:Value) (w:World) (hl:bm w v l) :
  KZ 45 #[v] w (KW (bC l)):=by
 unfold bC;obtain⟨A,c,rfl,h1,h2,l'⟩:=hl;have hn:=ax h1 h2;have HL:=jD l';clear l' h1 h2
 by_cases hm:4096<l.length
 ·rw[K7 hm];have D':(4096:Int)<(l.length:Int):=by omega
  go_enter func45,ntmps45;go_wp2;go_ret;exact⟨rfl,jB⟩
 rw[K6 hm];have D':¬(4096:Int)<(l.length:Int):=by omega
 clear hm;go_enter func45,ntmps45;go_wp2_with fail
 go_loopw [3] (fun i wr=>∃k:Nat,k<=l.length/\i=KW k/\Hid (cN (l.take k) (l.drop k)=cN [] l)/\KY w wr) (fun i _=>l.length-(intOf i).toNat)
 case atStart=>exact⟨0,Lb _,rfl,jD rfl,La _ _⟩
 case round =>
  obtain⟨k,hk,rfl,hi,hb⟩:=hrel
  by_cases j':k<l.length
  ·have t':(k:Int)<(l.length:Int):=by omega
   obtain⟨b,o,rfl,vv,u',c0,c1,c2,c3,c4⟩:=HL.out k l[k] (K9 j');replace c0:=aa hb c0;replace c1:=aa hb c1;replace c2:=aa hb c2;replace c3:=aa hb c3;replace c4:=aa hb c4;obtain⟨A1,cx,rfl,-⟩:=u';have h:=jD (K9 j');obtain⟨x,hx⟩:=jF (l[k]);rw[<-hx]at h c0 c1 c2 c3 c4;clear hx;have G:∀W,Calls prog 91 #[.agg #[KW x.src,KW x.sq,KW x.ty,KW x.tm,.slice A1 x.vals.length cx]] W fun e w'=>e=.returned (.bool (bV x))/\Gr W w':=fun W=>uE x A1 _ cx W _ rfl
   by_cases hp:bV x=false
   ·have HP:=jD hp;rw[hp]at G;have G:=jD G;clear hp;go_wp2_with (go_at_call 91;refine (G.out _).mono ?_;rintro e w3 ⟨rfl,x'⟩);go_ret;exact⟨cd (gQ h.out hi.out (Jp HP.out) dc),ab hb x'.below⟩
   rw[M9]at hp;rw[hp]at G;have G:=jD G;have HP:=jD hp;clear hp;go_wp2_with fail;refine (G.out _).mono ?_;rintro e w4 ⟨rfl,D⟩;replace D:=D.below;have I:=jD (ab hb D);replace c0:=aa D c0;replace c1:=aa D c1;replace c2:=aa D c2;replace c3:=aa D c3;replace c4:=aa D c4;clear D
   by_cases J:k=0
   ·have f':Hid (gY (l.take k) x=false):=jD (qj J);have k':(l.take k).any (dA x)=false:=by rw[J];rfl
    have s':=jD k';have d1:decide (0<k)=false:=by simp[J]
    have d2:decide ((0:Int)<(k:Int))=false:=by simp[J]
    clear k' J;go_wp2_with fail;refine bF (fun W=>W.cell? ⟨b,o+k*5,none⟩=some (KW x.src)/\W.cell? ⟨b,o+k*5+1,none⟩=some (KW x.sq)/\W.cell? ⟨b,o+k*5+2,none⟩=some (KW x.ty)/\W.cell? ⟨b,o+k*5+3,none⟩=some (KW x.tm)/\W.cell? ⟨b,o+k*5+4,none⟩=some (.slice A1 x.vals.length cx)) (by repeat (first|exact aG _ _ _|exact aH|refine aN ?_ ?_)) kr kr ?hF ?_;(case hF=>(first|exact⟨‹_›,‹_›⟩|(go_simp;done)|(simp[*];done)|(repeat' (first|(refine And.intro ?_ ?_)|(go_simp;done)|exact aa (aJ (La _ _) _) (by assumption)|assumption))));intro c' b';have hG:Hid (Grows (fun W=>W.cell? ⟨b,o+k*5,none⟩=some (KW x.src)/\W.cell? ⟨b,o+k*5+1,none⟩=some (KW x.sq)/\W.cell? ⟨b,o+k*5+2,none⟩=some (KW x.ty)/\W.cell? ⟨b,o+k*5+3,none⟩=some (KW x.tm)/\W.cell? ⟨b,o+k*5+4,none⟩=some (.slice A1 x.vals.length cx))):=(by repeat (first|exact aG _ _ _|exact aH|refine aN ?_ ?_));(repeat (go_big_quiet_step (fail)));clear hG b' c';refine wpQuiet_nil ?_;rintro wq ⟨⟨w',F,h'⟩,rfl⟩;go_wp2_with fail;refine aP fun wz ez=>?_
    obtain rfl:wq=wz:=ez.symm;clear ez
    go_loopw [4] (fun i wr=>i=KW 0/\wr=wq) (fun i _=>0)
    case atStart=>exact⟨rfl,rfl⟩
    case round =>
     obtain⟨rfl,rfl⟩:=hrel;go_wp2_with fail
     go_roundw
     case rel=>exact⟨k+1,by omega,by go_num,jD (uD h.out hi.out (AJ HP.out f'.out s'.out)),ab I.out F⟩
     case measure=>simp[intOf];omega
   ·have E':(0:Int)<=(k:Int)-1:=by omega
    have p':(k:Int)-1<(l.length:Int):=by omega
    have d1:decide (0<k)=true:=by simp;omega
    have d2:decide ((0:Int)<(k:Int))=true:=by simp;omega
    have HK:=jD J;clear J;obtain⟨_,_,d',vp,B',p0,p1,p2,p3,p4⟩:=HL.out (k-1) l[k-1] (K9 om);simp only[Nn,Addr.mk.injEq,LV]at d';obtain⟨rfl,rfl⟩:=d';obtain⟨A2,cp,rfl,-⟩:=B';have O:=jD (K9 (l:=l) (i:=k-1) om);obtain⟨p,hp⟩:=jF (l[k-1]);rw[<-hp]at p0 p1 p2 p3 p4 O;clear hp;obtain⟨r,hr⟩:=jE (bJ (bK p) (bK x));have HR:=jD hr;have z':Hid (∀W,KZ 92 #[.agg #[KW p.tm,KW p.src,KW p.sq],.agg #[KW x.tm,KW x.src,KW x.sq]] W (KW r)):=jD fun W=>(DB (bK p) (bK x) W).mono (fun e w' ⟨h1,h2⟩=>⟨h1.trans (by rw[hr]),h2.below⟩)
    clear hr;replace p0:=aa I.out p0;replace p1:=aa I.out p1;replace p2:=aa I.out p2;replace p3:=aa I.out p3;replace p4:=aa I.out p4;go_wp2_with fail
    refine bF (fun W=>W.cell? ⟨b,o+k*5,none⟩=some (KW x.src)/\W.cell? ⟨b,o+k*5+1,none⟩=some (KW x.sq)/\W.cell? ⟨b,o+k*5+2,none⟩=some (KW x.ty)/\W.cell? ⟨b,o+k*5+3,none⟩=some (KW x.tm)/\W.cell? ⟨b,o+k*5+4,none⟩=some (.slice A1 x.vals.length cx)/\W.cell? ⟨b,o+(k-1)*5,none⟩=some (KW p.src)/\W.cell? ⟨b,o+(k-1)*5+1,none⟩=some (KW p.sq)/\W.cell? ⟨b,o+(k-1)*5+2,none⟩=some (KW p.ty)/\W.cell? ⟨b,o+(k-1)*5+3,none⟩=some (KW p.tm)/\W.cell? ⟨b,o+(k-1)*5+4,none⟩=some (.slice A2 p.vals.length cp)) (by repeat (first|exact aG _ _ _|exact aH|refine aN ?_ ?_)) kr kr ?hF ?_;(case hF=>(first|exact⟨‹_›,‹_›⟩|(go_simp;done)|(simp[*];done)|(repeat' (first|(refine And.intro ?_ ?_)|(go_simp;done)|exact aa (aJ (La _ _) _) (by assumption)|assumption))));intro c' b';have hG:Hid (Grows (fun W=>W.cell? ⟨b,o+k*5,none⟩=some (KW x.src)/\W.cell? ⟨b,o+k*5+1,none⟩=some (KW x.sq)/\W.cell? ⟨b,o+k*5+2,none⟩=some (KW x.ty)/\W.cell? ⟨b,o+k*5+3,none⟩=some (KW x.tm)/\W.cell? ⟨b,o+k*5+4,none⟩=some (.slice A1 x.vals.length cx)/\W.cell? ⟨b,o+(k-1)*5,none⟩=some (KW p.src)/\W.cell? ⟨b,o+(k-1)*5+1,none⟩=some (KW p.sq)/\W.cell? ⟨b,o+(k-1)*5+2,none⟩=some (KW p.ty)/\W.cell? ⟨b,o+(k-1)*5+3,none⟩=some (KW p.tm)/\W.cell? ⟨b,o+(k-1)*5+4,none⟩=some (.slice A2 p.vals.length cp))):=(by repeat (first|exact aG _ _ _|exact aH|refine aN ?_ ?_));(repeat (go_big_quiet_step (first|(go_at_call 28;exact fj hG (wv _ _ _ _ _ _ _ _))|(go_at_call 92;exact fj hG (z'.out _)))));clear hG b' c';refine wpQuiet_nil ?_;rintro wq ⟨⟨w',F,h'⟩,rfl⟩
    by_cases e':0<=r
    ·have d3:decide (0<=r)=true:=jQ e';go_wp2;go_ret;exact⟨cd (gQ h.out hi.out (Fy HP.out hk HK.out O.out (by rw[HR.out];exact e')) dc),ab I.out F⟩
    ·have d3:decide (0<=r)=false:=jQ e';have f':Hid (gY (l.take k) x=false):=jD (vB hk HK.out O.out (by rw[HR.out];omega));have i':=jD (ab I.out F);obtain⟨z0,z1,z2,z3,z4,-⟩:=h';clear p0 p1 p2 p3 p4 c0 c1 c2 c3 c4 F;go_wp2_with fail;clear e' d1 d2 E' p';have hz:=jD (And.intro z0 (And.intro z1 (And.intro z2 (And.intro z3 z4))));clear z0 z1 z2 z3 z4;refine aP fun wz ez=>?_
     obtain rfl:wq=wz:=ez.symm;clear ez
     go_loopw [4] (fun i wr=>∃j:Nat,j<=k/\i=KW j/\Hid ((l.take j).any (dA x)=false)/\KY wq wr) (fun i _=>k-(intOf i).toNat)
     case atStart=>exact⟨0,Lb _,rfl,jD rfl,La _ _⟩
     case round =>
      obtain⟨j,hj,rfl,hJ,z⟩:=hrel
      by_cases C':j<k
      ·have y':(j:Int)<(k:Int):=by omega
       have F':(j:Int)<(l.length:Int):=by omega
       obtain⟨_,_,d',vj,A',j0,j1,j2,j3,j4⟩:=HL.out j l[j] (K9 om);simp only[Nn,Addr.mk.injEq,LV]at d';obtain⟨rfl,rfl⟩:=d';obtain⟨A3,cj,rfl,-⟩:=A';have Z:=jD (K9 (l:=l) (i:=j) om);obtain⟨y,hy⟩:=jF (l[j]);rw[<-hy]at j0 j1 j2 j3 j4 Z;clear hy;have a':=ab i'.out z;replace j0:=aa a' j0;replace j1:=aa a' j1;replace j2:=aa a' j2;replace j3:=aa a' j3;replace j4:=aa a' j4;obtain⟨z0,z1,z2,z3,z4⟩:=hz.out;replace z0:=aa z z0;replace z1:=aa z z1;replace z2:=aa z z2;replace z3:=aa z z3;replace z4:=aa z z4;obtain⟨tb,g'⟩:∃t,rg y.src y.sq x.src x.sq=t:=⟨_,rfl⟩;have n':=jD g';have r':Hid (∀W,KZ 93 #[.agg #[KW y.src,KW y.sq,KW y.ty,KW y.tm,.slice A3 y.vals.length cj],.agg #[KW x.src,KW x.sq,KW x.ty,KW x.tm,.slice A1 x.vals.length cx]] W (.bool tb)):=jD fun W=>by rw[<-g'];exact DI _ _ _ _ _ _ _ _ _ _ _ _ _ _ W
       clear g' a';go_wp2_with fail;refine bF (fun W=>W.cell? ⟨b,o+k*5,none⟩=some (KW x.src)/\W.cell? ⟨b,o+k*5+1,none⟩=some (KW x.sq)/\W.cell? ⟨b,o+k*5+2,none⟩=some (KW x.ty)/\W.cell? ⟨b,o+k*5+3,none⟩=some (KW x.tm)/\W.cell? ⟨b,o+k*5+4,none⟩=some (.slice A1 x.vals.length cx)/\W.cell? ⟨b,o+j*5,none⟩=some (KW y.src)/\W.cell? ⟨b,o+j*5+1,none⟩=some (KW y.sq)/\W.cell? ⟨b,o+j*5+2,none⟩=some (KW y.ty)/\W.cell? ⟨b,o+j*5+3,none⟩=some (KW y.tm)/\W.cell? ⟨b,o+j*5+4,none⟩=some (.slice A3 y.vals.length cj)) (by repeat (first|exact aG _ _ _|exact aH|refine aN ?_ ?_)) kr kr ?hF ?_;(case hF=>(first|exact⟨‹_›,‹_›⟩|(go_simp;done)|(simp[*];done)|(repeat' (first|(refine And.intro ?_ ?_)|(go_simp;done)|exact aa (aJ (La _ _) _) (by assumption)|assumption))));intro c' b';have hG:Hid (Grows (fun W=>W.cell? ⟨b,o+k*5,none⟩=some (KW x.src)/\W.cell? ⟨b,o+k*5+1,none⟩=some (KW x.sq)/\W.cell? ⟨b,o+k*5+2,none⟩=some (KW x.ty)/\W.cell? ⟨b,o+k*5+3,none⟩=some (KW x.tm)/\W.cell? ⟨b,o+k*5+4,none⟩=some (.slice A1 x.vals.length cx)/\W.cell? ⟨b,o+j*5,none⟩=some (KW y.src)/\W.cell? ⟨b,o+j*5+1,none⟩=some (KW y.sq)/\W.cell? ⟨b,o+j*5+2,none⟩=some (KW y.ty)/\W.cell? ⟨b,o+j*5+3,none⟩=some (KW y.tm)/\W.cell? ⟨b,o+j*5+4,none⟩=some (.slice A3 y.vals.length cj))):=(by repeat (first|exact aG _ _ _|exact aH|refine aN ?_ ?_));(repeat (go_big_quiet_step ((go_at_call 93;exact fj hG (r'.out _)))));clear hG b' c';refine wpQuiet_nil ?_;rintro wq ⟨⟨w',F,h'⟩,rfl⟩
       cases tb
       ·go_wp2_with fail
        go_roundw
        case rel=>exact⟨j+1,by omega,by go_num,jD (rZ Z.out hJ.out n'.out),ab z F⟩
        case measure=>simp[intOf];omega
       ·go_wp2;go_ret;exact⟨cd (gQ h.out hi.out (Ey HP.out f'.out (uL Z.out C' n'.out)) dc),ab i'.out (ab z F)⟩
      ·have y':¬(j:Int)<(k:Int):=by omega
       have m':j=k:=by omega
       have q':=jD m';clear m';go_wp2_with fail
       go_roundw
       case rel=>exact⟨k+1,by omega,by go_num,jD (uD h.out hi.out (AJ HP.out f'.out (by rw[<-q'.out];exact hJ.out))),ab i'.out z⟩
       case measure=>simp[intOf];omega
  ·have t':¬(k:Int)<(l.length:Int):=by omega
   go_wp2;go_ret;exact⟨cd (Br om hi.out),hb⟩
def vlV (x:Vl):Value:=.agg #[KW x.kind,KW x.num,.string x.text]
theorem Gf (a:Vl) (W:World):(binOp .neq 27 (vlV a) (vlV a)).run prog W=.ok (.bool false) W:=by
 have z:=underlying3;have F:=Tryz.isAgg3;have G:=Tryz.sizeOf3;have D:prog.underlying 9=some .string:=kr;have J:=Tryz.isAgg9;have I:=Tryz.sizeOf9;have h:prog.underlying 27=some (.struct (prog.fieldsOf 27)):=kr;have hp:prog.stoodInHeld 27=false:=kr;unfold vlV;rw[run_neq_struct,show (10000:Nat)=9999+1 from rfl,run_equalIn_agg W 9999 27 _ _ h hp];simp only[Program.fieldsOf,underlying27]
 go_simp
theorem CK (l:List Vl) (v1 v2:Value) (w:World) (h1:aV w v1 l) (h2:aV w v2 l) :
  KZ 121 #[v1,v2] w (.bool true):=by
 obtain⟨A1,c1,rfl,l1,m1,a1⟩:=h1;obtain⟨A2,c2,rfl,l2,m2,a2⟩:=h2;have hn:=ax l1 m1;have a':=jD a1;have J:=jD a2;clear a1 a2 l1 l2 m1 m2;go_enter func121,ntmps121;go_wp2
 go_loopw [5] (fun i wr=>∃k:Nat,k<=l.length/\i=KW k/\KY w wr) (fun i _=>l.length-(intOf i).toNat)
 case atStart=>exact⟨0,Lb _,rfl,La _ _⟩
 case round =>
  obtain⟨k,hk,rfl,h⟩:=hrel
  by_cases I:k<l.length
  ·obtain⟨F,G,rfl,p0,p1,p2⟩:=a'.out k l[k] (K9 I);obtain⟨z,D,rfl,Z,O,q2⟩:=J.out k l[k] (K9 I);replace p0:=aa h p0;replace p1:=aa h p1;replace p2:=aa h p2;replace Z:=aa h Z;replace O:=aa h O;replace q2:=aa h q2;have f':(k:Int)<(l.length:Int):=by omega
   obtain⟨x,hx⟩:=jF (l[k]);rw[<-hx]at p0 p1 p2 Z O q2;clear hx;have he:=fun W=>Gf x W
   unfold vlV at he;go_wp2_with fail;refine bF (fun W=>W.cell? ⟨F,G+k*3,none⟩=some (KW x.kind)/\W.cell? ⟨F,G+k*3+1,none⟩=some (KW x.num)/\W.cell? ⟨F,G+k*3+2,none⟩=some (.string x.text)/\W.cell? ⟨z,D+k*3,none⟩=some (KW x.kind)/\W.cell? ⟨z,D+k*3+1,none⟩=some (KW x.num)/\W.cell? ⟨z,D+k*3+2,none⟩=some (.string x.text)) (by repeat (first|exact aG _ _ _|exact aH|refine aN ?_ ?_)) kr kr ?hF ?_;(case hF=>(first|exact⟨‹_›,‹_›⟩|(go_simp;done)|(simp[*];done)|(repeat' (first|(refine And.intro ?_ ?_)|(go_simp;done)|exact aa (aJ (La _ _) _) (by assumption)|assumption))));intro b' e';have hG:Hid (Grows (fun W=>W.cell? ⟨F,G+k*3,none⟩=some (KW x.kind)/\W.cell? ⟨F,G+k*3+1,none⟩=some (KW x.num)/\W.cell? ⟨F,G+k*3+2,none⟩=some (.string x.text)/\W.cell? ⟨z,D+k*3,none⟩=some (KW x.kind)/\W.cell? ⟨z,D+k*3+1,none⟩=some (KW x.num)/\W.cell? ⟨z,D+k*3+2,none⟩=some (.string x.text))):=(by repeat (first|exact aG _ _ _|exact aH|refine aN ?_ ?_));(repeat (go_big_quiet_step (fail)));clear hG e' b';refine wpQuiet_nil ?_;rintro _ ⟨⟨w',d',c'⟩,rfl⟩;clear c' he;go_wp2
   go_roundw
   case rel=>exact⟨k+1,by omega,by go_num,ab h d'⟩
   case measure=>simp[intOf];omega
  ·go_wp2;go_ret;exact⟨rfl,h⟩
theorem Cq (x:Evt) (v1 v2:Value) (w:World) (Z:aV w v1 x.vals) (h2:aV w v2 x.vals) :
  KZ 68 #[cJ x v1,cJ x v2] w (.bool true):=by
 have F:=jD Z;have J:=jD h2;obtain⟨O,c1,rfl,-⟩:=Z;obtain⟨A2,c2,rfl,-⟩:=h2;unfold cJ;have he:∀W,(binOp .eql 78 (kZ (bK x)) (kZ (bK x))).run prog W=.ok (.bool true) W:=fun W=>by rw[BD];simp[kS]
 unfold kZ bK at he;go_enter func68,ntmps68;go_wp2_with fail
 refine bF (fun W=>W.cell? ⟨w.heap.size,0,none⟩=some (KW x.src)/\W.cell? ⟨w.heap.size,1,none⟩=some (KW x.sq)/\W.cell? ⟨w.heap.size,2,none⟩=some (KW x.ty)/\W.cell? ⟨w.heap.size,3,none⟩=some (KW x.tm)/\W.cell? ⟨w.heap.size,4,none⟩=some (.slice O x.vals.length c1)/\W.cell? ⟨w.heap.size+1,0,none⟩=some (KW x.src)/\W.cell? ⟨w.heap.size+1,1,none⟩=some (KW x.sq)/\W.cell? ⟨w.heap.size+1,2,none⟩=some (KW x.ty)/\W.cell? ⟨w.heap.size+1,3,none⟩=some (KW x.tm)/\W.cell? ⟨w.heap.size+1,4,none⟩=some (.slice A2 x.vals.length c2)) (by repeat (first|exact aG _ _ _|exact aH|refine aN ?_ ?_)) kr kr ?hF ?_;(case hF=>(first|exact⟨‹_›,‹_›⟩|(go_simp;done)|(simp[*];done)|(repeat' (first|(refine And.intro ?_ ?_)|(go_simp;done)|exact aa (aJ (La _ _) _) (by assumption)|assumption))));intro z I;have h:Hid (Grows (fun W=>W.cell? ⟨w.heap.size,0,none⟩=some (KW x.src)/\W.cell? ⟨w.heap.size,1,none⟩=some (KW x.sq)/\W.cell? ⟨w.heap.size,2,none⟩=some (KW x.ty)/\W.cell? ⟨w.heap.size,3,none⟩=some (KW x.tm)/\W.cell? ⟨w.heap.size,4,none⟩=some (.slice O x.vals.length c1)/\W.cell? ⟨w.heap.size+1,0,none⟩=some (KW x.src)/\W.cell? ⟨w.heap.size+1,1,none⟩=some (KW x.sq)/\W.cell? ⟨w.heap.size+1,2,none⟩=some (KW x.ty)/\W.cell? ⟨w.heap.size+1,3,none⟩=some (KW x.tm)/\W.cell? ⟨w.heap.size+1,4,none⟩=some (.slice A2 x.vals.length c2))):=(by repeat (first|exact aG _ _ _|exact aH|refine aN ?_ ?_));(repeat (go_big_quiet_step (first|(go_at_call 28;exact fj h (wv _ _ _ _ _ _ _ _))|(go_at_call 121;exact iH h (fun W hW=>CK x.vals _ _ W (F.out.stays aC (ab (ab (ag _ _) (ag _ _)) hW)) (J.out.stays aC (ab (ab (ag _ _) (ag _ _)) hW)))))));clear h I z;refine wpQuiet_nil ?_;rintro wq ⟨⟨w',G,D⟩,rfl⟩
 clear D;go_wp2;go_ret;exact⟨rfl,ab (ab (ag _ _) (ag _ _)) G⟩
theorem Cc (l:List Evt) (v1 v2:Value) (w:World) (h1:bm w v1 l) (h2:bm w v2 l) :
  KZ 34 #[v1,v2] w (.bool true):=by
 obtain⟨A1,c1,rfl,l1,m1,a1⟩:=h1;obtain⟨A2,c2,rfl,l2,m2,a2⟩:=h2;have hn:=ax l1 m1;have c':=jD a1;have b':=jD a2;clear a1 a2 l1 l2 m1 m2;go_enter func34,ntmps34;go_wp2
 go_loopw [5] (fun i wr=>∃k:Nat,k<=l.length/\i=KW k/\KY w wr) (fun i _=>l.length-(intOf i).toNat)
 case atStart=>exact⟨0,Lb _,rfl,La _ _⟩
 case round =>
  obtain⟨k,hk,rfl,h⟩:=hrel
  by_cases J:k<l.length
  ·obtain⟨F,G,rfl,u1,Z,p0,p1,p2,p3,p4⟩:=c'.out k l[k] (K9 J);obtain⟨z,D,rfl,u2,a',q0,q1,q2,q3,q4⟩:=b'.out k l[k] (K9 J);replace p0:=aa h p0;replace p1:=aa h p1;replace p2:=aa h p2;replace p3:=aa h p3;replace p4:=aa h p4;replace q0:=aa h q0;replace q1:=aa h q1;replace q2:=aa h q2;replace q3:=aa h q3;replace q4:=aa h q4;have I:=jD (Z.stays aC h);have O:=jD (a'.stays aC h);obtain⟨A3,c3,rfl,-⟩:=Z;obtain⟨A4,c4,rfl,-⟩:=a';have h':(k:Int)<(l.length:Int):=by omega
   obtain⟨x,hx⟩:=jF (l[k]);rw[<-hx]at p0 p1 p2 p3 p4 q0 q1 q2 q3 q4 I O;clear hx;go_wp2_with fail
   refine bF (fun W=>W.cell? ⟨F,G+k*5,none⟩=some (KW x.src)/\W.cell? ⟨F,G+k*5+1,none⟩=some (KW x.sq)/\W.cell? ⟨F,G+k*5+2,none⟩=some (KW x.ty)/\W.cell? ⟨F,G+k*5+3,none⟩=some (KW x.tm)/\W.cell? ⟨F,G+k*5+4,none⟩=some (.slice A3 x.vals.length c3)/\W.cell? ⟨z,D+k*5,none⟩=some (KW x.src)/\W.cell? ⟨z,D+k*5+1,none⟩=some (KW x.sq)/\W.cell? ⟨z,D+k*5+2,none⟩=some (KW x.ty)/\W.cell? ⟨z,D+k*5+3,none⟩=some (KW x.tm)/\W.cell? ⟨z,D+k*5+4,none⟩=some (.slice A4 x.vals.length c4)) (by repeat (first|exact aG _ _ _|exact aH|refine aN ?_ ?_)) kr kr ?hF ?_;(case hF=>(first|exact⟨‹_›,‹_›⟩|(go_simp;done)|(simp[*];done)|(repeat' (first|(refine And.intro ?_ ?_)|(go_simp;done)|exact aa (aJ (La _ _) _) (by assumption)|assumption))));intro d' g';have hG:Hid (Grows (fun W=>W.cell? ⟨F,G+k*5,none⟩=some (KW x.src)/\W.cell? ⟨F,G+k*5+1,none⟩=some (KW x.sq)/\W.cell? ⟨F,G+k*5+2,none⟩=some (KW x.ty)/\W.cell? ⟨F,G+k*5+3,none⟩=some (KW x.tm)/\W.cell? ⟨F,G+k*5+4,none⟩=some (.slice A3 x.vals.length c3)/\W.cell? ⟨z,D+k*5,none⟩=some (KW x.src)/\W.cell? ⟨z,D+k*5+1,none⟩=some (KW x.sq)/\W.cell? ⟨z,D+k*5+2,none⟩=some (KW x.ty)/\W.cell? ⟨z,D+k*5+3,none⟩=some (KW x.tm)/\W.cell? ⟨z,D+k*5+4,none⟩=some (.slice A4 x.vals.length c4))):=(by repeat (first|exact aG _ _ _|exact aH|refine aN ?_ ?_));(repeat (go_big_quiet_step ((go_at_call 68;exact iH hG (fun W hW=>Cq x _ _ W (I.out.stays aC hW) (O.out.stays aC hW))))));clear hG g' d';refine wpQuiet_nil ?_;rintro _ ⟨⟨w',f',e'⟩,rfl⟩;clear e';go_wp2
   go_roundw
   case rel=>exact⟨k+1,by omega,by go_num,ab h f'⟩
   case measure=>simp[intOf];omega
  ·go_wp2;go_ret;exact⟨rfl,h⟩
def eu (v:Vl):Int :=
 if v.kind<0\/2<v.kind then 1
 else if v.kind=2 then (if v.num≠0 then 3 else if 64<v.text.size then 13 else 0)
 else if 0<v.text.size then 3
 else if (v.kind=1/\(v.num<0\/1<v.num))\/v.num < -1099511627776\/1099511627776<v.num then 2 else 0
theorem yV {s:ByteArray} (h:s.size=0):s.toList=[]:=by
 rw[Na];exact L3 (jQ h)
theorem xW {s:ByteArray} (h:0<s.size):s.toList.isEmpty=false:=by
 rw[Na]
 cases hs:s.data.toList with
 | nil=>exfalso;have:s.data.toList.length=s.size:=rfl;rw[hs]at this;simp at this;omega
 | cons=>rfl
theorem bA (s:ByteArray):s.toList.isEmpty=decide (s.size=0):=by
 by_cases h:s.size=0
 ·rw[yV h];simp[h]
 ·rw[xW om];simp[h]
def kf (v:Vl):Int :=
 if v.kind=0/\(v.num < -1099511627776\/1099511627776<v.num) then 2
 else if v.kind=1/\v.num≠0/\v.num≠1 then 2
 else if 64<v.text.size then 13 else 0
theorem CP (v:Vl) (w:World):KZ 241 #[vlV v] w (KW (kf v)):=by
 obtain⟨k,n,s⟩:=v;obtain⟨R,z⟩:=jE (kf ⟨k,n,s⟩);have h:=jD z;rw[z];clear z;unfold vlV
 by_cases h0:k=0
 ·subst h0
  by_cases D:n < -1099511627776
  ·go_enter func241,ntmps241;go_wp2;go_ret;exact⟨cd (by rw[<-h.out];unfold kf;dsimp only;((try simp only[bA,LU,L9,LG,Ly,LO,L6,LZ,Mg,LP,Lp,LQ,L8,LT,Mb,Mh,Mi,Mj]at *);(repeat' split)<;>first|rfl|omega|(exfalso;simp_all;done)|(exfalso;simp_all;omega))),ag _ _⟩
  ·by_cases F:1099511627776<n
   ·go_enter func241,ntmps241;go_wp2;go_ret;exact⟨cd (by rw[<-h.out];unfold kf;dsimp only;((try simp only[bA,LU,L9,LG,Ly,LO,L6,LZ,Mg,LP,Lp,LQ,L8,LT,Mb,Mh,Mi,Mj]at *);(repeat' split)<;>first|rfl|omega|(exfalso;simp_all;done)|(exfalso;simp_all;omega))),ag _ _⟩
   ·go_enter func241,ntmps241;go_wp2
    all_goals
     go_ret;exact⟨cd (by rw[<-h.out];unfold kf;dsimp only;((try simp only[bA,LU,L9,LG,Ly,LO,L6,LZ,Mg,LP,Lp,LQ,L8,LT,Mb,Mh,Mi,Mj]at *);(repeat' split)<;>first|rfl|omega|(exfalso;simp_all;done)|(exfalso;simp_all;omega))),ag _ _⟩
 ·by_cases D:k=1
  ·subst D
   by_cases F:n=0
   ·subst F;go_enter func241,ntmps241;go_wp2
    all_goals
     go_ret;exact⟨cd (by rw[<-h.out];unfold kf;dsimp only;((try simp only[bA,LU,L9,LG,Ly,LO,L6,LZ,Mg,LP,Lp,LQ,L8,LT,Mb,Mh,Mi,Mj]at *);(repeat' split)<;>first|rfl|omega|(exfalso;simp_all;done)|(exfalso;simp_all;omega))),ag _ _⟩
   ·by_cases G:n=1
    ·subst G;go_enter func241,ntmps241;go_wp2
     all_goals
      go_ret;exact⟨cd (by rw[<-h.out];unfold kf;dsimp only;((try simp only[bA,LU,L9,LG,Ly,LO,L6,LZ,Mg,LP,Lp,LQ,L8,LT,Mb,Mh,Mi,Mj]at *);(repeat' split)<;>first|rfl|omega|(exfalso;simp_all;done)|(exfalso;simp_all;omega))),ag _ _⟩
    ·go_enter func241,ntmps241;go_wp2
     all_goals
      go_ret;exact⟨cd (by rw[<-h.out];unfold kf;dsimp only;((try simp only[bA,LU,L9,LG,Ly,LO,L6,LZ,Mg,LP,Lp,LQ,L8,LT,Mb,Mh,Mi,Mj]at *);(repeat' split)<;>first|rfl|omega|(exfalso;simp_all;done)|(exfalso;simp_all;omega))),ag _ _⟩
  ·go_enter func241,ntmps241;go_wp2
   all_goals
    go_ret;exact⟨cd (by rw[<-h.out];unfold kf;dsimp only;((try simp only[bA,LU,L9,LG,Ly,LO,L6,LZ,Mg,LP,Lp,LQ,L8,LT,Mb,Mh,Mi,Mj]at *);(repeat' split)<;>first|rfl|omega|(exfalso;simp_all;done)|(exfalso;simp_all;omega))),ag _ _⟩
theorem ja (v:Vl) (w:World):KZ 172 #[vlV v] w (KW (eu v)):=by
 have h:=jD (CP v);obtain⟨k,n,s⟩:=v;obtain⟨R,D⟩:=jE (eu ⟨k,n,s⟩);have z:=jD D;rw[D];obtain⟨Z,G⟩:=jE (kf ⟨k,n,s⟩);rw[G]at h;have F:=jD G;clear D G;unfold vlV at h ⊢;go_enter func172,ntmps172;go_wp2_with (go_at_call 241;refine (h.out _).mono ?_;rintro e w' ⟨rfl,I⟩)
 all_goals
  go_ret
  first
   | exact⟨cd (by rw[<-F.out,<-z.out];clear h z F;unfold kf eu;dsimp only;((try simp only[bA,LU,L9,LG,Ly,LO,L6,LZ,Mg,LP,Lp,LQ,L8,LT,Mb,Mh,Mi,Mj]at *);(repeat' split)<;>first|rfl|omega|(exfalso;simp_all;done)|(exfalso;simp_all;omega))),ab (ag _ _) I⟩
   | exact⟨cd (by rw[<-z.out];clear h z F;unfold eu;dsimp only;((try simp only[bA,LU,L9,LG,Ly,LO,L6,LZ,Mg,LP,Lp,LQ,L8,LT,Mb,Mh,Mi,Mj]at *);(repeat' split)<;>first|rfl|omega|(exfalso;simp_all;done)|(exfalso;simp_all;omega))),ag _ _⟩
theorem eR (v:Vl) (w:World):KZ 158 #[vlV v] w (KW (eu v)):=by
 obtain⟨k,n,s⟩:=v;obtain⟨R,z⟩:=jE (eu ⟨k,n,s⟩);have h:=jD z;rw[z];clear z;unfold vlV
 by_cases h0:k<0
 ·go_enter func158,ntmps158;go_wp2;go_ret;exact⟨cd (by rw[<-h.out];clear h;unfold eu;dsimp only;((try simp only[bA,LU,L9,LG,Ly,LO,L6,LZ,Mg,LP,Lp,LQ,L8,LT,Mb,Mh,Mi,Mj]at *);(repeat' split)<;>first|rfl|omega|(exfalso;simp_all;done)|(exfalso;simp_all;omega))),ag _ _⟩
 ·by_cases D:k=1
  ·subst D
   by_cases J:n<0
   ·go_enter func158,ntmps158;go_wp2
    all_goals
     go_ret;exact⟨cd (by rw[<-h.out];clear h;unfold eu;dsimp only;((try simp only[bA,LU,L9,LG,Ly,LO,L6,LZ,Mg,LP,Lp,LQ,L8,LT,Mb,Mh,Mi,Mj]at *);(repeat' split)<;>first|rfl|omega|(exfalso;simp_all;done)|(exfalso;simp_all;omega))),ag _ _⟩
   ·by_cases I:1<n
    ·go_enter func158,ntmps158;go_wp2
     all_goals
      go_ret;exact⟨cd (by rw[<-h.out];clear h;unfold eu;dsimp only;((try simp only[bA,LU,L9,LG,Ly,LO,L6,LZ,Mg,LP,Lp,LQ,L8,LT,Mb,Mh,Mi,Mj]at *);(repeat' split)<;>first|rfl|omega|(exfalso;simp_all;done)|(exfalso;simp_all;omega))),ag _ _⟩
    ·have F:¬n < -1099511627776:=by omega
     go_enter func158,ntmps158;go_wp2
     all_goals
      go_ret;exact⟨cd (by rw[<-h.out];clear h;unfold eu;dsimp only;((try simp only[bA,LU,L9,LG,Ly,LO,L6,LZ,Mg,LP,Lp,LQ,L8,LT,Mb,Mh,Mi,Mj]at *);(repeat' split)<;>first|rfl|omega|(exfalso;simp_all;done)|(exfalso;simp_all;omega))),ag _ _⟩
  ·have G:(k==1)=false:=jQ D
   by_cases F:n < -1099511627776
   ·go_enter func158,ntmps158;go_wp2
    all_goals
     go_ret;exact⟨cd (by rw[<-h.out];clear h;unfold eu;dsimp only;((try simp only[bA,LU,L9,LG,Ly,LO,L6,LZ,Mg,LP,Lp,LQ,L8,LT,Mb,Mh,Mi,Mj]at *);(repeat' split)<;>first|rfl|omega|(exfalso;simp_all;done)|(exfalso;simp_all;omega))),ag _ _⟩
   ·go_enter func158,ntmps158;go_wp2
    all_goals
     go_ret;exact⟨cd (by rw[<-h.out];clear h;unfold eu;dsimp only;((try simp only[bA,LU,L9,LG,Ly,LO,L6,LZ,Mg,LP,Lp,LQ,L8,LT,Mb,Mh,Mi,Mj]at *);(repeat' split)<;>first|rfl|omega|(exfalso;simp_all;done)|(exfalso;simp_all;omega))),ag _ _⟩
theorem jA {p:Prop} (h:p:=by ((try simp only[bA,LU,L9,LG,Ly,LO,L6,LZ,Mg,LP,Lp,LQ,L8,LT,Mb,Mh,Mi,Mj]at *);(repeat' split)<;>first|rfl|omega|(exfalso;simp_all;done)|(exfalso;simp_all;omega))):p:=h
def gL (k:Int) (v:Vl):Bool:=decide (v.kind=0\/k=0\/k=4\/k=5)
def yx (k:Int) (v:Vl):Int:=if eu v≠0 then eu v else if gL k v=true then 0 else 9
def KQ (k:Int):Bool:=decide (0<=k/\k<=5)
def au:Vl:=⟨0,0,⟨#[]⟩⟩
structure Ac where
 kind:Int
 count:Int
 val:Vl
theorem fL (k:Int) (v:Vl) (w:World):KZ 359 #[KW k,vlV v] w (.bool (gL k v)):=by
 obtain⟨R,I⟩:=jE (gL k v);have F:=jD I;rw[I];clear I;unfold vlV
 by_cases h0:v.kind=0
 ·have D:(v.kind==0)=true:=jQ h0;clear h0;go_enter func359,ntmps359;go_wp2;go_ret;exact⟨by (rw[<-F.out];unfold gL;have z:v.kind=0:=jQ D);simp[z],ag _ _⟩
 ·have D:(v.kind==0)=false:=jQ h0;have J:=jD h0;clear h0
  by_cases z:k=0
  ·subst z;go_enter func359,ntmps359;go_wp2;go_ret;exact⟨by rw[<-F.out];simp[gL],ag _ _⟩
  ·have a':(k==0)=false:=jQ z
   by_cases G:k=4
   ·subst G;go_enter func359,ntmps359;go_wp2;go_ret;exact⟨by rw[<-F.out];simp[gL],ag _ _⟩
   ·have O:(k==4)=false:=jQ G;have H1:=jD z;have Z:=jD G;clear z G;go_enter func359,ntmps359;go_wp2;go_ret;exact⟨by rw[<-F.out];simp[gL,J.out,H1.out,Z.out];by_cases h:k=5<;>simp[h],ag _ _⟩
def cC (a b:Vl):Bool:=a.kind==b.kind&&(a.num==b.num&&a.text.toList==b.text.toList)
theorem dg (a b:Vl) (W:World):(binOp .neq 27 (vlV a) (vlV b)).run prog W=.ok (.bool (!cC a b)) W:=by
 have G:=underlying3;have J:=Tryz.isAgg3;have O:=Tryz.sizeOf3;have I:prog.underlying 9=some .string:=kr;have a9:=Tryz.isAgg9;have Z:=Tryz.sizeOf9;have h:prog.underlying 27=some (.struct (prog.fieldsOf 27)):=kr;have hp:prog.stoodInHeld 27=false:=kr;unfold vlV;rw[run_neq_struct,show (10000:Nat)=9999+1 from rfl,run_equalIn_agg W 9999 27 _ _ h hp];simp only[Program.fieldsOf,underlying27]
 go_simp
 by_cases z:a.kind=b.kind<;>by_cases F:a.num=b.num<;>by_cases D:a.text.toList=b.text.toList<;>simp[cC,z,F,D]
def singV (k:Int) (v:Vl):Vl:=if k=0 then au else v
def combV (k:Int) (a b:Vl):Vl :=
 if k=1 then ⟨0,a.num+b.num,⟨#[]⟩⟩ else if k=2 then ⟨0,min a.num b.num,⟨#[]⟩⟩ else if k=3 then ⟨0,max a.num b.num,⟨#[]⟩⟩ else if k=4 then a else if k=5 then b else au
theorem I3 {P:Program} {t e:TypeId} {n:Nat} {cs:Array Value} {j:Nat} {v:Value} (W:World) (h:P.underlying t=some (.array n e)) (hs:∀w,(sizeOf e).run P w=.ok 1 w) (D:∀w,(isAgg e).run P w=.ok false w) (z:j<n) (F:cs[j]?=some v) :
  (Instr.index t (.agg cs) (KW (j:Int))).run P W=.ok v W:=by
 have G:(0:Int)<=(j:Int)/\(j:Int)<(n:Int):=by omega
 simp[Instr.index,asIntOf,Ny h,z,part,hs,D,F]
def mergA (a b:Ac):Ac:=if a.count=0 then b else if b.count=0 then a else ⟨a.kind,a.count+b.count,combV a.kind a.val b.val⟩
def stepA (k:Int) (a:Ac) (v:Vl):Ac:=mergA a ⟨k,1,singV k v⟩
def AccIn (W:World) (G:Nat):Prop:=∃v0 v1 v2 h v4,W.heap[G]?=some (.cells [v0,v1,v2,h,v4].toArray 344 (0,0))
theorem AccIn.mk {W:World} {G:Nat} {v0 v1 v2 z v4:Value} (h:W.heap[G]?=some (.cells [v0,v1,v2,z,v4].toArray 344 (0,0))):AccIn W G:=⟨_,_,_,_,_,h⟩
theorem AccIn.bel {W W':World} {G:Nat} (h:AccIn W G) (z:KY W W'):AccIn W' G:=by
 obtain⟨v0,v1,v2,D,v4,h⟩:=h;exact⟨_,_,_,_,_,(z.block G (aD h)).trans h⟩
end Go.Proofs.YtokconodddedhaaGreatDoor
