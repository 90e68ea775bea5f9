/- Part. -/
import Derived.Test.YtbjicljfjkdeeaaGreatDoorQ03
set_option maxRecDepth 100000
set_option maxHeartbeats 16000000
set_option linter.unusedVariables false
set_option linter.unusedSimpArgs false
namespace Go.Proofs.YtbjicljfjkdeeaaGreatDoor
open Go.Proofs.Tryz Go.RowKit
section
theorem mc {α:Type} {l:List α} {k:Nat} (hk:k<=l.length):(l.take k).getLast?=jk l k:=by
 cases k with
 | zero=>rfl
 | succ k =>
  have h:k<l.length:=by omega
  rw[bP (Mq h),List.getLast?_concat];exact (Mq h).symm
section
variable {l : List Evt} {k : Nat} {x : Evt} {E e : Int}
theorem gK (G:l[k]?=some x) (h:cC (l.take k) (l.drop k)=E) (he:evE (l.take k) x=e) (h0:e≠0):e=E:=by
 obtain⟨z,rfl⟩:=List.getElem?_eq_some_iff.1 G;rw[Nd z,cC,Mo (by rw[he];exact h0),he]at h;exact h
theorem uN (G:l[k]?=some x) (h:cC (l.take k) (l.drop k)=E) (he:evE (l.take k) x=0):cC (l.take (k+1)) (l.drop (k+1))=E:=by
 have z:=G;obtain⟨I,rfl⟩:=List.getElem?_eq_some_iff.1 G;rw[Nd I,cC,Mp he]at h;rw[bP z];exact h
theorem BB (hk:l.length<=k) (h:cC (l.take k) (l.drop k)=E):0=E:=by
 rw[Pn hk,cC]at h;exact h
theorem Ky {pre:List Evt} (h:bN x=false):evE pre x=2:=Mp h
theorem FP {p:Evt} (h:bN x=true) (hk:k<=l.length) (h0:k≠0) (hp:l[k-1]?=some p) (hr:0<=cJ (cF p) (cF x)):evE (l.take k) x=14:=by
 unfold evE;rw[Mo (by simp[h]),Mp];unfold gX;rw[mc hk,sh h0 hp]
 simpa using hr
theorem yd {p:Evt} (hk:k<=l.length) (h0:k≠0) (hp:l[k-1]?=some p) (hr:cJ (cF p) (cF x)<0):gX (l.take k) x=false:=by
 unfold gX;rw[mc hk,sh h0 hp]
 simpa using hr
theorem rp (h0:k=0):gX (l.take k) x=false:=by subst h0;rfl
theorem Ho {pre:List Evt} (h:bN x=true) (z:gX pre x=false) (G:pre.any (dv x)=true):evE pre x=7:=by
 unfold evE;rw[Mo (by simp[h]),Mo (by simp[z]),Mp G]
theorem Cy {pre:List Evt} (h:bN x=true) (z:gX pre x=false) (G:pre.any (dv x)=false):evE pre x=0:=by
 unfold evE;rw[Mo (by simp[h]),Mo (by simp[z]),Mo (by simp[G])]
end
theorem uam {p:Prop} (h:p:=by
  have d':=jD (s'.out.below O);have j':=jD (ab a'.out O);have q':wr.heap.size<wq.heap.size:=ME u' O.size;clear O y0 y1 y2 y3 y4
  by_cases J:(l.take k).any (dv x)=true
  ·have I:=jD J;clear J;go_wp2_with (first|(go_at_call 64;refine (mn _ _ _ _ _ _ _ _).mono ?_;rintro e w6 ⟨rfl,h⟩)|(at_lookup;refine dC _ rfl _ _ rfl w.heap.size k (l.take k) x rfl (d'.out.below h.below) rfl HP.out ?_;rw[I.out]));go_ret;exact⟨df (gK G.out hi.out.1 (Ho HP.out h'.out I.out) dc),ab j'.out h.below⟩
  ·rw[O6]at J;have I:=jD J;clear J;go_wp2_with (first|(go_at_call 64;refine (mn _ _ _ _ _ _ _ _).mono ?_;rintro e w6 ⟨rfl,h⟩)|(at_lookup;refine dC _ rfl _ _ rfl w.heap.size k (l.take k) x rfl (d'.out.below h.below) rfl HP.out ?_;rw[I.out];have z':=jD (d'.out.below h.below);have m':=jD (ab j'.out h.below);replace z0:=aa h.below z0;replace z1:=aa h.below z1;replace z2:=aa h.below z2;replace z3:=aa h.below z3;replace z4:=aa h.below z4;have H':=ME q' h.below.size;clear h)|(at_mapUpdate;refine ia _ rfl _ _ _ rfl w.heap.size k (l.take k) x rfl (z'.out.below h.below) rfl rfl HP.out (by unfold maxLen;omega) ?_;intro w7 y' k'))
   go_roundw
   case rel =>
    refine⟨k+1,by omega,by go_num,jD ⟨uN G.out hi.out.1 (Cy HP.out h'.out I.out),by rw[bP G.out];exact y'⟩,?_,?_⟩
    ·exact (ab m'.out h.below).trans (au k' (ab m'.out h.below).size (fun g hg=>by injection hg with hg;omega))
    ·have:=k'.size;have:=h.below.size;omega
   case measure=>simp[intOf];omega):p:=h
theorem ra (l:List Evt) (v:Value) (w:World) (hl:bh w v l) :
  Mn 37 #[v] w (Mk (bH l)):=by
 unfold bH;obtain⟨A,c,rfl,h1,h2,E'⟩:=hl;have hn:=ay h1 h2;have HL:=jD E';clear E' h1 h2
 by_cases hm:4096<l.length
 ·rw[Mp hm];have G':(4096:Int)<(l.length:Int):=by omega
  go_enter func37,ntmps37;go_wp2;go_ret;exact⟨rfl,jB⟩
 rw[Mo hm];have G':¬(4096:Int)<(l.length:Int):=by omega
 have N':=@run_makeMap prog;have HM:=jD hm;clear hm;go_enter func37,ntmps37;go_wp2_with fail
 go_loopw [12] (fun i wr=>∃k:Nat,k<=l.length/\i=Mk k/\Hid (cC (l.take k) (l.drop k)=cC [] l/\Seen wr w.heap.size k (l.take k))/\Mm w wr/\w.heap.size<wr.heap.size) (fun i _=>l.length-(intOf i).toNat)
 case atStart=>exact⟨0,Mu _,rfl,jD ⟨rfl,EB w⟩,jB,by simp⟩
 case round =>
  clear N';obtain⟨k,hk,rfl,hi,hb,R'⟩:=hrel
  by_cases A':k<l.length
  ·have F':(k:Int)<(l.length:Int):=by omega
   obtain⟨b,o,rfl,vv,P',c0,c1,c2,c3,c4⟩:=HL.out k l[k] (Mq A');replace c0:=aa hb c0;replace c1:=aa hb c1;replace c2:=aa hb c2;replace c3:=aa hb c3;replace c4:=aa hb c4;obtain⟨A1,cx,rfl,-⟩:=P';have D':b<wr.heap.size:=Ms wr ⟨b,_,none⟩ c0;have C':b≠wr.heap.size:=by omega
   have n':wr.heap.size≠b:=by omega
   have G:=jD (Mq A');obtain⟨x,hx⟩:=jF (l[k]);rw[<-hx]at G c0 c1 c2 c3 c4;clear hx;have Z:∀W,Calls prog 62 #[.agg #[Mk x.src,Mk x.sq,Mk x.ty,Mk x.tm,.slice A1 x.vals.length cx]] W fun e w'=>e=.returned (.bool (bN x))/\Gr W w':=fun W=>tZ x A1 _ cx W _ rfl
   by_cases hp:bN x=false
   ·have HP:=jD hp;rw[hp]at Z;have Z:=jD Z;clear hp;go_wp2_with (go_at_call 62;refine (Z.out _).mono ?_;rintro e w3 ⟨rfl,I'⟩);go_ret;exact⟨df (gK G.out hi.out.1 (Ky HP.out) dc),ab hb (ab (af _ _) I'.below)⟩
   rw[Bool.not_eq_false]at hp;rw[hp]at Z;have Z:=jD Z;have HP:=jD hp;clear hp
   by_cases g':k=0
   ·have h':Hid (gX (l.take k) x=false):=jD (rp g');have d1:decide (0<k)=false:=by simp[g']
    have d2:decide ((0:Int)<(k:Int))=false:=by simp[g']
    clear g';go_wp2_with fail;refine aI fun W9 e9=>?_
    have y0:Ml W9 wr.heap.size 0 (Mk x.src):=jG e9;have y1:Ml W9 wr.heap.size 1 (Mk x.sq):=jG e9;have y2:Ml W9 wr.heap.size 2 (Mk x.ty):=jG e9;have y3:Ml W9 wr.heap.size 3 (Mk x.tm):=jG e9;have y4:Ml W9 wr.heap.size 4 (.slice A1 x.vals.length cx):=jG e9;have i':Mm wr W9:=gb e9;have l':wr.heap.size<W9.heap.size:=by rw[e9];simp
    clear e9;refine (Z.out _).mono ?_;rintro e w4 ⟨rfl,z⟩;replace z:=z.below;have f':=ab i' z;have u':wr.heap.size<w4.heap.size:=ME l' z.size;replace y0:=aa z y0;replace y1:=aa z y1;replace y2:=aa z y2;replace y3:=aa z y3;replace y4:=aa z y4;have s':=jD (hi.out.2.below f');have a':=jD (ab hb f');clear i' l' z f' c0 c1 c2 c3 c4 C' n' D';go_wp2_with fail
    refine dt (fun W=>W.cell? ⟨wr.heap.size,0,none⟩=some (Mk x.src)/\W.cell? ⟨wr.heap.size,1,none⟩=some (Mk x.sq)/\W.cell? ⟨wr.heap.size,2,none⟩=some (Mk x.ty)/\W.cell? ⟨wr.heap.size,3,none⟩=some (Mk x.tm)/\W.cell? ⟨wr.heap.size,4,none⟩=some (.slice A1 x.vals.length cx)) (by repeat (first|exact aX _ _ _|exact aW|refine bw ?_ ?_)) kr kr ?hF ?_;(case hF=>(first|exact⟨‹_›,‹_›⟩|(go_simp;done)|(simp[*];done)|(repeat' (first|(refine And.intro ?_ ?_)|(go_simp;done)|exact aa (bt (Mr _ _) _) (by assumption)|assumption))));intro p' t';have hG:Hid (Grows (fun W=>W.cell? ⟨wr.heap.size,0,none⟩=some (Mk x.src)/\W.cell? ⟨wr.heap.size,1,none⟩=some (Mk x.sq)/\W.cell? ⟨wr.heap.size,2,none⟩=some (Mk x.ty)/\W.cell? ⟨wr.heap.size,3,none⟩=some (Mk x.tm)/\W.cell? ⟨wr.heap.size,4,none⟩=some (.slice A1 x.vals.length cx))):=(by repeat (first|exact aX _ _ _|exact aW|refine bw ?_ ?_));(repeat (go_big_quiet_step (fail)));clear hG t' p';refine wpQuiet_nil ?_;rintro wq ⟨⟨w',O,r'⟩,rfl⟩;obtain⟨z0,z1,z2,z3,z4⟩:=r';exact uam
   ·have T':(0:Int)<=(k:Int)-1:=by omega
    have S':(k:Int)-1<(l.length:Int):=by omega
    have d1:decide (0<k)=true:=by simp;omega
    have d2:decide ((0:Int)<(k:Int))=true:=by simp;omega
    have HK:=jD g';clear g';obtain⟨_,_,B',vp,J',p0,p1,p2,p3,p4⟩:=HL.out (k-1) l[k-1] (Mq om);simp only[Ol,Addr.mk.injEq,Ns]at B';obtain⟨rfl,rfl⟩:=B';obtain⟨A2,cp,rfl,-⟩:=J';have c':=jD (Mq (l:=l) (i:=k-1) om);obtain⟨p,hp⟩:=jF (l[k-1]);rw[<-hp]at p0 p1 p2 p3 p4 c';clear hp;obtain⟨r,hr⟩:=jE (cJ (cF p) (cF x));have HR:=jD hr;have O':Hid (∀W,Mn 63 #[.agg #[Mk p.src,Mk p.sq,Mk p.ty,Mk p.tm,.slice A2 p.vals.length cp],.agg #[Mk x.src,Mk x.sq,Mk x.ty,Mk x.tm,.slice A1 x.vals.length cx]] W (Mk r)):=jD fun W=>(Dj p x A2 A1 _ cp _ cx W).mono (fun e w' ⟨h1,h2⟩=>⟨h1.trans (by rw[hr]),h2.below⟩)
    clear hr;go_wp2_with fail;refine aI fun W9 e9=>?_
    have y0:Ml W9 wr.heap.size 0 (Mk x.src):=jG e9;have y1:Ml W9 wr.heap.size 1 (Mk x.sq):=jG e9;have y2:Ml W9 wr.heap.size 2 (Mk x.ty):=jG e9;have y3:Ml W9 wr.heap.size 3 (Mk x.tm):=jG e9;have y4:Ml W9 wr.heap.size 4 (.slice A1 x.vals.length cx):=jG e9;have i':Mm wr W9:=gb e9;have l':wr.heap.size<W9.heap.size:=by rw[e9];simp
    clear e9;refine (Z.out _).mono ?_;rintro e w4 ⟨rfl,z⟩;replace z:=z.below;have f':=ab i' z;have u':wr.heap.size<w4.heap.size:=ME l' z.size;replace y0:=aa z y0;replace y1:=aa z y1;replace y2:=aa z y2;replace y3:=aa z y3;replace y4:=aa z y4;have s':=jD (hi.out.2.below f');have a':=jD (ab hb f');clear i' l' z f' c0 c1 c2 c3 c4 C' n' D';replace p0:=aa a'.out p0;replace p1:=aa a'.out p1;replace p2:=aa a'.out p2;replace p3:=aa a'.out p3;replace p4:=aa a'.out p4;go_wp2_with fail
    refine dt (fun W=>W.cell? ⟨wr.heap.size,0,none⟩=some (Mk x.src)/\W.cell? ⟨wr.heap.size,1,none⟩=some (Mk x.sq)/\W.cell? ⟨wr.heap.size,2,none⟩=some (Mk x.ty)/\W.cell? ⟨wr.heap.size,3,none⟩=some (Mk x.tm)/\W.cell? ⟨wr.heap.size,4,none⟩=some (.slice A1 x.vals.length cx)/\W.cell? ⟨b,o+(k-1)*5,none⟩=some (Mk p.src)/\W.cell? ⟨b,o+(k-1)*5+1,none⟩=some (Mk p.sq)/\W.cell? ⟨b,o+(k-1)*5+2,none⟩=some (Mk p.ty)/\W.cell? ⟨b,o+(k-1)*5+3,none⟩=some (Mk p.tm)/\W.cell? ⟨b,o+(k-1)*5+4,none⟩=some (.slice A2 p.vals.length cp)) (by repeat (first|exact aX _ _ _|exact aW|refine bw ?_ ?_)) kr kr ?hF ?_;(case hF=>(first|exact⟨‹_›,‹_›⟩|(go_simp;done)|(simp[*];done)|(repeat' (first|(refine And.intro ?_ ?_)|(go_simp;done)|exact aa (bt (Mr _ _) _) (by assumption)|assumption))));intro p' t';have hG:Hid (Grows (fun W=>W.cell? ⟨wr.heap.size,0,none⟩=some (Mk x.src)/\W.cell? ⟨wr.heap.size,1,none⟩=some (Mk x.sq)/\W.cell? ⟨wr.heap.size,2,none⟩=some (Mk x.ty)/\W.cell? ⟨wr.heap.size,3,none⟩=some (Mk x.tm)/\W.cell? ⟨wr.heap.size,4,none⟩=some (.slice A1 x.vals.length cx)/\W.cell? ⟨b,o+(k-1)*5,none⟩=some (Mk p.src)/\W.cell? ⟨b,o+(k-1)*5+1,none⟩=some (Mk p.sq)/\W.cell? ⟨b,o+(k-1)*5+2,none⟩=some (Mk p.ty)/\W.cell? ⟨b,o+(k-1)*5+3,none⟩=some (Mk p.tm)/\W.cell? ⟨b,o+(k-1)*5+4,none⟩=some (.slice A2 p.vals.length cp))):=(by repeat (first|exact aX _ _ _|exact aW|refine bw ?_ ?_));(repeat (go_big_quiet_step ((go_at_call 63;exact kf hG (O'.out _)))));clear hG t' p';refine wpQuiet_nil ?_;rintro wq ⟨⟨w',O,r'⟩,rfl⟩
    by_cases x':0<=r
    ·have d3:decide (0<=r)=true:=jQ x';go_wp2;go_ret;exact⟨df (gK G.out hi.out.1 (FP HP.out hk HK.out c'.out (by rw[HR.out];exact x')) dc),ab a'.out O⟩
    ·have d3:decide (0<=r)=false:=jQ x';have h':Hid (gX (l.take k) x=false):=jD (yd hk HK.out c'.out (by rw[HR.out];omega));clear p0 p1 p2 p3 p4;obtain⟨z0,z1,z2,z3,z4,-⟩:=r';exact uam
  ·have F':¬(k:Int)<(l.length:Int):=by omega
   go_wp2;go_ret;exact⟨df (BB om hi.out.1),hb⟩
end
theorem Hq (s q y t:Int) (A:Option Addr) (n c:Nat) (w:World):Mn 17 #[.agg #[Mk s,Mk q,Mk y,Mk t,.slice A n c]] w (.agg #[Mk t,Mk s,Mk q]) :=
 (xW s q y t A n c w).mono fun _ _ ⟨z,h⟩=>⟨z,h.below⟩
def pJ (s1 z s2 h:Int):Bool:=decide (s1=s2/\z=h)
theorem Dz (s1 h J t1 s2 z y2 t2:Int) (A B:Option Addr) (n c m d:Nat) (w:World):Mn 142 #[.agg #[Mk s1,Mk h,Mk J,Mk t1,.slice A n c],.agg #[Mk s2,Mk z,Mk y2,Mk t2,.slice B m d]] w (.bool (pJ s1 h s2 z)):=by
 unfold pJ
 by_cases I:s1=s2
 ·subst I
  by_cases G:h=z
  ·subst G;go_enter func142,ntmps142;go_wp2;go_ret;exact⟨by simp,jB⟩
  ·have O:(h==z)=false:=jQ G;go_enter func142,ntmps142;go_wp2;go_ret;exact⟨by simp[G],jB⟩
 ·have Z:(s1==s2)=false:=jQ I;go_enter func142,ntmps142;go_wp2;go_ret;exact⟨by simp[I],jB⟩
theorem rE {l:List Evt} {j:Nat} {y x:Evt} (hy:l[j]?=some y) (h:(l.take j).any (dv x)=false) (z:pJ y.src y.sq x.src x.sq=false):(l.take (j+1)).any (dv x)=false:=by
 rw[bP hy,List.any_append,h,List.any_cons,List.any_nil];have:dv x y=false:=by
  unfold dv;unfold pJ at z;rw[Na]at z ⊢;exact fun ⟨a,b⟩=>z ⟨a.symm,b.symm⟩
 rw[this];rfl
theorem uM {l:List Evt} {k j:Nat} {y x:Evt} (hy:l[j]?=some y) (z:j<k) (h:pJ y.src y.sq x.src x.sq=true):(l.take k).any (dv x)=true:=by
 rw[O7];refine⟨y,?_,?_⟩
 ·rw[List.mem_iff_getElem?];exact⟨j,by rw[List.getElem?_take_of_lt z];exact hy⟩
 ·unfold dv;unfold pJ at h;rw[MK]at h ⊢;exact⟨h.1.symm,h.2.symm⟩
theorem xG (l:List Evt) (v:Value) (w:World) (hl:bh w v l) :
  Mn 96 #[v] w (Mk (bH l)):=by
 unfold bH;obtain⟨A,c,rfl,h1,h2,r'⟩:=hl;have hn:=ay h1 h2;have HL:=jD r';clear r' h1 h2
 by_cases hm:4096<l.length
 ·rw[Mp hm];have u':(4096:Int)<(l.length:Int):=by omega
  go_enter func96,ntmps96;go_wp2;go_ret;exact⟨rfl,jB⟩
 rw[Mo hm];have u':¬(4096:Int)<(l.length:Int):=by omega
 clear hm;go_enter func96,ntmps96;go_wp2_with fail
 go_loopw [3] (fun i wr=>∃k:Nat,k<=l.length/\i=Mk k/\Hid (cC (l.take k) (l.drop k)=cC [] l)/\Mm w wr) (fun i _=>l.length-(intOf i).toNat)
 case atStart=>exact⟨0,Mu _,rfl,jD rfl,Mr _ _⟩
 case round =>
  obtain⟨k,hk,rfl,hi,hb⟩:=hrel
  by_cases p':k<l.length
  ·have t':(k:Int)<(l.length:Int):=by omega
   obtain⟨b,o,rfl,vv,I',c0,c1,c2,c3,c4⟩:=HL.out k l[k] (Mq p');replace c0:=aa hb c0;replace c1:=aa hb c1;replace c2:=aa hb c2;replace c3:=aa hb c3;replace c4:=aa hb c4;obtain⟨A1,cx,rfl,-⟩:=I';have h:=jD (Mq p');obtain⟨x,hx⟩:=jF (l[k]);rw[<-hx]at h c0 c1 c2 c3 c4;clear hx;have I:∀W,Calls prog 141 #[.agg #[Mk x.src,Mk x.sq,Mk x.ty,Mk x.tm,.slice A1 x.vals.length cx]] W fun e w'=>e=.returned (.bool (bN x))/\Gr W w':=fun W=>uw x A1 _ cx W _ rfl
   by_cases hp:bN x=false
   ·have HP:=jD hp;rw[hp]at I;have I:=jD I;clear hp;go_wp2_with (go_at_call 141;refine (I.out _).mono ?_;rintro e w3 ⟨rfl,A'⟩);go_ret;exact⟨df (gK h.out hi.out (Ky HP.out) dc),ab hb A'.below⟩
   rw[Bool.not_eq_false]at hp;rw[hp]at I;have I:=jD I;have HP:=jD hp;clear hp;go_wp2_with fail;refine (I.out _).mono ?_;rintro e w4 ⟨rfl,z⟩;replace z:=z.below;have O:=jD (ab hb z);replace c0:=aa z c0;replace c1:=aa z c1;replace c2:=aa z c2;replace c3:=aa z c3;replace c4:=aa z c4;clear z
   by_cases a':k=0
   ·have i':Hid (gX (l.take k) x=false):=jD (rp a');have s':(l.take k).any (dv x)=false:=by rw[a'];rfl
    have D':=jD s';have d1:decide (0<k)=false:=by simp[a']
    have d2:decide ((0:Int)<(k:Int))=false:=by simp[a']
    clear s' a';go_wp2_with fail;refine dt (fun W=>W.cell? ⟨b,o+k*5,none⟩=some (Mk x.src)/\W.cell? ⟨b,o+k*5+1,none⟩=some (Mk x.sq)/\W.cell? ⟨b,o+k*5+2,none⟩=some (Mk x.ty)/\W.cell? ⟨b,o+k*5+3,none⟩=some (Mk x.tm)/\W.cell? ⟨b,o+k*5+4,none⟩=some (.slice A1 x.vals.length cx)) (by repeat (first|exact aX _ _ _|exact aW|refine bw ?_ ?_)) kr kr ?hF ?_;(case hF=>(first|exact⟨‹_›,‹_›⟩|(go_simp;done)|(simp[*];done)|(repeat' (first|(refine And.intro ?_ ?_)|(go_simp;done)|exact aa (bt (Mr _ _) _) (by assumption)|assumption))));intro f' h';have hG:Hid (Grows (fun W=>W.cell? ⟨b,o+k*5,none⟩=some (Mk x.src)/\W.cell? ⟨b,o+k*5+1,none⟩=some (Mk x.sq)/\W.cell? ⟨b,o+k*5+2,none⟩=some (Mk x.ty)/\W.cell? ⟨b,o+k*5+3,none⟩=some (Mk x.tm)/\W.cell? ⟨b,o+k*5+4,none⟩=some (.slice A1 x.vals.length cx))):=(by repeat (first|exact aX _ _ _|exact aW|refine bw ?_ ?_));(repeat (go_big_quiet_step (fail)));clear hG h' f';refine wpQuiet_nil ?_;rintro wq ⟨⟨w',J,l'⟩,rfl⟩;go_wp2_with fail;refine bg fun wz ez=>?_
    obtain rfl:wq=wz:=ez.symm;clear ez
    go_loopw [4] (fun i wr=>i=Mk 0/\wr=wq) (fun i _=>0)
    case atStart=>exact⟨rfl,rfl⟩
    case round =>
     obtain⟨rfl,rfl⟩:=hrel;go_wp2_with fail
     go_roundw
     case rel=>exact⟨k+1,by omega,by go_num,jD (uN h.out hi.out (Cy HP.out i'.out D'.out)),ab O.out J⟩
     case measure=>simp[intOf];omega
   ·have F':(0:Int)<=(k:Int)-1:=by omega
    have x':(k:Int)-1<(l.length:Int):=by omega
    have d1:decide (0<k)=true:=by simp;omega
    have d2:decide ((0:Int)<(k:Int))=true:=by simp;omega
    have HK:=jD a';clear a';obtain⟨_,_,g',vp,B',p0,p1,p2,p3,p4⟩:=HL.out (k-1) l[k-1] (Mq om);simp only[Ol,Addr.mk.injEq,Ns]at g';obtain⟨rfl,rfl⟩:=g';obtain⟨A2,cp,rfl,-⟩:=B';have Z:=jD (Mq (l:=l) (i:=k-1) om);obtain⟨p,hp⟩:=jF (l[k-1]);rw[<-hp]at p0 p1 p2 p3 p4 Z;clear hp;obtain⟨r,hr⟩:=jE (cJ (cF p) (cF x));have HR:=jD hr;have H':Hid (∀W,Mn 53 #[.agg #[Mk p.tm,Mk p.src,Mk p.sq],.agg #[Mk x.tm,Mk x.src,Mk x.sq]] W (Mk r)):=jD fun W=>(iq (cF p) (cF x) W).mono (fun e w' ⟨h1,h2⟩=>⟨h1.trans (by rw[hr]),h2.below⟩)
    clear hr;replace p0:=aa O.out p0;replace p1:=aa O.out p1;replace p2:=aa O.out p2;replace p3:=aa O.out p3;replace p4:=aa O.out p4;go_wp2_with fail
    refine dt (fun W=>W.cell? ⟨b,o+k*5,none⟩=some (Mk x.src)/\W.cell? ⟨b,o+k*5+1,none⟩=some (Mk x.sq)/\W.cell? ⟨b,o+k*5+2,none⟩=some (Mk x.ty)/\W.cell? ⟨b,o+k*5+3,none⟩=some (Mk x.tm)/\W.cell? ⟨b,o+k*5+4,none⟩=some (.slice A1 x.vals.length cx)/\W.cell? ⟨b,o+(k-1)*5,none⟩=some (Mk p.src)/\W.cell? ⟨b,o+(k-1)*5+1,none⟩=some (Mk p.sq)/\W.cell? ⟨b,o+(k-1)*5+2,none⟩=some (Mk p.ty)/\W.cell? ⟨b,o+(k-1)*5+3,none⟩=some (Mk p.tm)/\W.cell? ⟨b,o+(k-1)*5+4,none⟩=some (.slice A2 p.vals.length cp)) (by repeat (first|exact aX _ _ _|exact aW|refine bw ?_ ?_)) kr kr ?hF ?_;(case hF=>(first|exact⟨‹_›,‹_›⟩|(go_simp;done)|(simp[*];done)|(repeat' (first|(refine And.intro ?_ ?_)|(go_simp;done)|exact aa (bt (Mr _ _) _) (by assumption)|assumption))));intro f' h';have hG:Hid (Grows (fun W=>W.cell? ⟨b,o+k*5,none⟩=some (Mk x.src)/\W.cell? ⟨b,o+k*5+1,none⟩=some (Mk x.sq)/\W.cell? ⟨b,o+k*5+2,none⟩=some (Mk x.ty)/\W.cell? ⟨b,o+k*5+3,none⟩=some (Mk x.tm)/\W.cell? ⟨b,o+k*5+4,none⟩=some (.slice A1 x.vals.length cx)/\W.cell? ⟨b,o+(k-1)*5,none⟩=some (Mk p.src)/\W.cell? ⟨b,o+(k-1)*5+1,none⟩=some (Mk p.sq)/\W.cell? ⟨b,o+(k-1)*5+2,none⟩=some (Mk p.ty)/\W.cell? ⟨b,o+(k-1)*5+3,none⟩=some (Mk p.tm)/\W.cell? ⟨b,o+(k-1)*5+4,none⟩=some (.slice A2 p.vals.length cp))):=(by repeat (first|exact aX _ _ _|exact aW|refine bw ?_ ?_));(repeat (go_big_quiet_step (first|(go_at_call 17;exact kf hG (Hq _ _ _ _ _ _ _ _))|(go_at_call 53;exact kf hG (H'.out _)))));clear hG h' f';refine wpQuiet_nil ?_;rintro wq ⟨⟨w',J,l'⟩,rfl⟩
    by_cases j':0<=r
    ·have d3:decide (0<=r)=true:=jQ j';go_wp2;go_ret;exact⟨df (gK h.out hi.out (FP HP.out hk HK.out Z.out (by rw[HR.out];exact j')) dc),ab O.out J⟩
    ·have d3:decide (0<=r)=false:=jQ j';have i':Hid (gX (l.take k) x=false):=jD (yd hk HK.out Z.out (by rw[HR.out];omega));have m':=jD (ab O.out J);obtain⟨z0,z1,z2,z3,z4,-⟩:=l';clear p0 p1 p2 p3 p4 c0 c1 c2 c3 c4 J;go_wp2_with fail;clear j' d1 d2 F' x';have hz:=jD (And.intro z0 (And.intro z1 (And.intro z2 (And.intro z3 z4))));clear z0 z1 z2 z3 z4;refine bg fun wz ez=>?_
     obtain rfl:wq=wz:=ez.symm;clear ez
     go_loopw [4] (fun i wr=>∃j:Nat,j<=k/\i=Mk j/\Hid ((l.take j).any (dv x)=false)/\Mm wq wr) (fun i _=>k-(intOf i).toNat)
     case atStart=>exact⟨0,Mu _,rfl,jD rfl,Mr _ _⟩
     case round =>
      obtain⟨j,hj,rfl,hJ,G⟩:=hrel
      by_cases z':j<k
      ·have G':(j:Int)<(k:Int):=by omega
       have J':(j:Int)<(l.length:Int):=by omega
       obtain⟨_,_,g',vj,E',j0,j1,j2,j3,j4⟩:=HL.out j l[j] (Mq om);simp only[Ol,Addr.mk.injEq,Ns]at g';obtain⟨rfl,rfl⟩:=g';obtain⟨A3,cj,rfl,-⟩:=E';have c':=jD (Mq (l:=l) (i:=j) om);obtain⟨y,hy⟩:=jF (l[j]);rw[<-hy]at j0 j1 j2 j3 j4 c';clear hy;have d':=ab m'.out G;replace j0:=aa d' j0;replace j1:=aa d' j1;replace j2:=aa d' j2;replace j3:=aa d' j3;replace j4:=aa d' j4;obtain⟨z0,z1,z2,z3,z4⟩:=hz.out;replace z0:=aa G z0;replace z1:=aa G z1;replace z2:=aa G z2;replace z3:=aa G z3;replace z4:=aa G z4;obtain⟨tb,k'⟩:∃t,pJ y.src y.sq x.src x.sq=t:=⟨_,rfl⟩;have n':=jD k';have y':Hid (∀W,Mn 142 #[.agg #[Mk y.src,Mk y.sq,Mk y.ty,Mk y.tm,.slice A3 y.vals.length cj],.agg #[Mk x.src,Mk x.sq,Mk x.ty,Mk x.tm,.slice A1 x.vals.length cx]] W (.bool tb)):=jD fun W=>by rw[<-k'];exact Dz _ _ _ _ _ _ _ _ _ _ _ _ _ _ W
       clear k' d';go_wp2_with fail;refine dt (fun W=>W.cell? ⟨b,o+k*5,none⟩=some (Mk x.src)/\W.cell? ⟨b,o+k*5+1,none⟩=some (Mk x.sq)/\W.cell? ⟨b,o+k*5+2,none⟩=some (Mk x.ty)/\W.cell? ⟨b,o+k*5+3,none⟩=some (Mk x.tm)/\W.cell? ⟨b,o+k*5+4,none⟩=some (.slice A1 x.vals.length cx)/\W.cell? ⟨b,o+j*5,none⟩=some (Mk y.src)/\W.cell? ⟨b,o+j*5+1,none⟩=some (Mk y.sq)/\W.cell? ⟨b,o+j*5+2,none⟩=some (Mk y.ty)/\W.cell? ⟨b,o+j*5+3,none⟩=some (Mk y.tm)/\W.cell? ⟨b,o+j*5+4,none⟩=some (.slice A3 y.vals.length cj)) (by repeat (first|exact aX _ _ _|exact aW|refine bw ?_ ?_)) kr kr ?hF ?_;(case hF=>(first|exact⟨‹_›,‹_›⟩|(go_simp;done)|(simp[*];done)|(repeat' (first|(refine And.intro ?_ ?_)|(go_simp;done)|exact aa (bt (Mr _ _) _) (by assumption)|assumption))));intro f' h';have hG:Hid (Grows (fun W=>W.cell? ⟨b,o+k*5,none⟩=some (Mk x.src)/\W.cell? ⟨b,o+k*5+1,none⟩=some (Mk x.sq)/\W.cell? ⟨b,o+k*5+2,none⟩=some (Mk x.ty)/\W.cell? ⟨b,o+k*5+3,none⟩=some (Mk x.tm)/\W.cell? ⟨b,o+k*5+4,none⟩=some (.slice A1 x.vals.length cx)/\W.cell? ⟨b,o+j*5,none⟩=some (Mk y.src)/\W.cell? ⟨b,o+j*5+1,none⟩=some (Mk y.sq)/\W.cell? ⟨b,o+j*5+2,none⟩=some (Mk y.ty)/\W.cell? ⟨b,o+j*5+3,none⟩=some (Mk y.tm)/\W.cell? ⟨b,o+j*5+4,none⟩=some (.slice A3 y.vals.length cj))):=(by repeat (first|exact aX _ _ _|exact aW|refine bw ?_ ?_));(repeat (go_big_quiet_step ((go_at_call 142;exact kf hG (y'.out _)))));clear hG h' f';refine wpQuiet_nil ?_;rintro wq ⟨⟨w',J,l'⟩,rfl⟩
       cases tb
       ·go_wp2_with fail
        go_roundw
        case rel=>exact⟨j+1,by omega,by go_num,jD (rE c'.out hJ.out n'.out),ab G J⟩
        case measure=>simp[intOf];omega
       ·go_wp2;go_ret;exact⟨df (gK h.out hi.out (Ho HP.out i'.out (uM c'.out z' n'.out)) dc),ab m'.out (ab G J)⟩
      ·have G':¬(j:Int)<(k:Int):=by omega
       have q':j=k:=by omega
       have C':=jD q';clear q';go_wp2_with fail
       go_roundw
       case rel=>exact⟨k+1,by omega,by go_num,jD (uN h.out hi.out (Cy HP.out i'.out (by rw[<-C'.out];exact hJ.out))),ab m'.out G⟩
       case measure=>simp[intOf];omega
  ·have t':¬(k:Int)<(l.length:Int):=by omega
   go_wp2;go_ret;exact⟨df (BB om hi.out),hb⟩
def vlV (x:Vl):Value:=.agg #[Mk x.kind,Mk x.num,.string x.text]
def dN (v:Vl):Int :=
 if v.kind<0\/2<v.kind then 1
 else if v.kind=2 then (if v.num≠0 then 3 else if 64<v.text.size then 13 else 0)
 else if 0<v.text.size then 3
 else if (v.kind=1/\(v.num<0\/1<v.num))\/v.num < -1099511627776\/1099511627776<v.num then 2 else 0
theorem Aq {s:ByteArray} (h:s.size=0):s.toList=[]:=by
 rw[O8];exact M8 (jQ h)
theorem yu {s:ByteArray} (h:0<s.size):s.toList.isEmpty=false:=by
 rw[O8]
 cases hs:s.data.toList with
 | nil=>exfalso;have:s.data.toList.length=s.size:=rfl;rw[hs]at this;simp at this;omega
 | cons=>rfl
theorem bi (s:ByteArray):s.toList.isEmpty=decide (s.size=0):=by
 by_cases h:s.size=0
 ·rw[Aq h];simp[h]
 ·rw[yu om];simp[h]
def kg (v:Vl):Int :=
 if v.kind=0/\(v.num < -1099511627776\/1099511627776<v.num) then 2
 else if v.kind=1/\v.num≠0/\v.num≠1 then 2
 else if 64<v.text.size then 13 else 0
theorem uao {p:Prop} (h:p:=by
  go_ret;exact⟨df (by rw[<-h.out];unfold kg;dsimp only;((try simp only[bi,M4,NG,Na,MK,MO,ND,Nl,NL,ne_eq,My,MU,NM,Ng,Nk,NH,NN,NO]at *);(repeat' split)<;>first|rfl|omega|(exfalso;simp_all;done)|(exfalso;simp_all;omega))),af _ _⟩):p:=h
theorem DG (v:Vl) (w:World):Mn 167 #[vlV v] w (Mk (kg v)):=by
 obtain⟨k,n,s⟩:=v;obtain⟨R,z⟩:=jE (kg ⟨k,n,s⟩);have h:=jD z;rw[z];clear z;unfold vlV
 by_cases h0:k=0
 ·subst h0
  by_cases I:n < -1099511627776
  ·go_enter func167,ntmps167;go_wp2;exact uao
  ·by_cases G:1099511627776<n
   ·go_enter func167,ntmps167;go_wp2;exact uao
   ·go_enter func167,ntmps167;go_wp2
    all_goals
     exact uao
 ·by_cases I:k=1
  ·subst I
   by_cases G:n=0
   ·subst G;go_enter func167,ntmps167;go_wp2
    all_goals
     exact uao
   ·by_cases J:n=1
    ·subst J;go_enter func167,ntmps167;go_wp2
     all_goals
      exact uao
    ·go_enter func167,ntmps167;go_wp2
     all_goals
      exact uao
  ·go_enter func167,ntmps167;go_wp2
   all_goals
    exact uao
theorem gz (v:Vl) (w:World):Mn 112 #[vlV v] w (Mk (dN v)):=by
 have h:=jD (DG v);obtain⟨k,n,s⟩:=v;obtain⟨R,G⟩:=jE (dN ⟨k,n,s⟩);have z:=jD G;rw[G];obtain⟨Z,J⟩:=jE (kg ⟨k,n,s⟩);rw[J]at h;have I:=jD J;clear G J;unfold vlV at h ⊢;go_enter func112,ntmps112;go_wp2_with (go_at_call 167;refine (h.out _).mono ?_;rintro e w' ⟨rfl,O⟩)
 all_goals
  go_ret
  first
   | exact⟨df (by rw[<-I.out,<-z.out];clear h z I;unfold kg dN;dsimp only;((try simp only[bi,M4,NG,Na,MK,MO,ND,Nl,NL,ne_eq,My,MU,NM,Ng,Nk,NH,NN,NO]at *);(repeat' split)<;>first|rfl|omega|(exfalso;simp_all;done)|(exfalso;simp_all;omega))),ab (af _ _) O⟩
   | exact⟨df (by rw[<-z.out];clear h z I;unfold dN;dsimp only;((try simp only[bi,M4,NG,Na,MK,MO,ND,Nl,NL,ne_eq,My,MU,NM,Ng,Nk,NH,NN,NO]at *);(repeat' split)<;>first|rfl|omega|(exfalso;simp_all;done)|(exfalso;simp_all;omega))),af _ _⟩
theorem uap {p:Prop} (h:p:=by
  go_ret;exact⟨df (by rw[<-h.out];clear h;unfold dN;dsimp only;((try simp only[bi,M4,NG,Na,MK,MO,ND,Nl,NL,ne_eq,My,MU,NM,Ng,Nk,NH,NN,NO]at *);(repeat' split)<;>first|rfl|omega|(exfalso;simp_all;done)|(exfalso;simp_all;omega))),af _ _⟩):p:=h
theorem eQ (v:Vl) (w:World):Mn 295 #[vlV v] w (Mk (dN v)):=by
 obtain⟨k,n,s⟩:=v;obtain⟨R,z⟩:=jE (dN ⟨k,n,s⟩);have h:=jD z;rw[z];clear z;unfold vlV
 by_cases h0:k<0
 ·go_enter func295,ntmps295;go_wp2;exact uap
 ·by_cases G:k=1
  ·subst G
   by_cases O:n<0
   ·go_enter func295,ntmps295;go_wp2
    all_goals
     exact uap
   ·by_cases Z:1<n
    ·go_enter func295,ntmps295;go_wp2
     all_goals
      exact uap
    ·have I:¬n < -1099511627776:=by omega
     go_enter func295,ntmps295;go_wp2
     all_goals
      exact uap
  ·have J:(k==1)=false:=jQ G
   by_cases I:n < -1099511627776
   ·go_enter func295,ntmps295;go_wp2
    all_goals
     exact uap
   ·go_enter func295,ntmps295;go_wp2
    all_goals
     exact uap
theorem jA {p:Prop} (h:p:=by ((try simp only[bi,M4,NG,Na,MK,MO,ND,Nl,NL,ne_eq,My,MU,NM,Ng,Nk,NH,NN,NO]at *);(repeat' split)<;>first|rfl|omega|(exfalso;simp_all;done)|(exfalso;simp_all;omega))):p:=h
def eE (k:Int) (v:Vl):Bool:=decide (v.kind=0\/k=0\/k=4\/k=5)
def ed (k:Int) (v:Vl):Int:=if dN v≠0 then dN v else if eE k v=true then 0 else 9
def dg (k:Int):Bool:=decide (0<=k/\k<=5)
def ah:Vl:=⟨0,0,⟨#[]⟩⟩
structure Ac where
 kind:Int
 count:Int
 val:Vl
def gw (a:Ac):Value:=.agg #[Mk a.kind,Mk a.count,Mk a.val.kind,Mk a.val.num,.string a.val.text]
theorem iE (k:Int) (w:World):Calls prog 280 #[Mk k] w fun e w'=>e=.returned (.bool (dg k))/\w=w':=by
 obtain⟨R,h⟩:=jE (dg k);have z:=jD h;rw[h];clear h
 by_cases h0:0<=k
 ·go_enter func280,ntmps280;go_wp2;go_ret;exact⟨by rw[<-z.out];unfold dg;simp[h0],rfl⟩
 ·go_enter func280,ntmps280;go_wp2;go_ret;exact⟨by rw[<-z.out];unfold dg;simp;omega,rfl⟩
theorem fH (k:Int) (v:Vl) (w:World):Mn 296 #[Mk k,vlV v] w (.bool (eE k v)):=by
 obtain⟨R,O⟩:=jE (eE k v);have J:=jD O;rw[O];clear O;unfold vlV
 by_cases h0:v.kind=0
 ·have G:(v.kind==0)=true:=jQ h0;clear h0;go_enter func296,ntmps296;go_wp2;go_ret;exact⟨by (rw[<-J.out];unfold eE;have z:v.kind=0:=jQ G);simp[z],af _ _⟩
 ·have G:(v.kind==0)=false:=jQ h0;have H0:=jD h0;clear h0
  by_cases z:k=0
  ·subst z;go_enter func296,ntmps296;go_wp2;go_ret;exact⟨by rw[<-J.out];simp[eE],af _ _⟩
  ·have c':(k==0)=false:=jQ z
   by_cases I:k=4
   ·subst I;go_enter func296,ntmps296;go_wp2;go_ret;exact⟨by rw[<-J.out];simp[eE],af _ _⟩
   ·have a':(k==4)=false:=jQ I;have H1:=jD z;have Z:=jD I;clear z I;go_enter func296,ntmps296;go_wp2;go_ret;exact⟨by rw[<-J.out];simp[eE,H0.out,H1.out,Z.out];by_cases h:k=5<;>simp[h],af _ _⟩
theorem qo (k:Int) (v:Vl) (w:World) (hk:dg k=true):Mn 311 #[Mk k,vlV v] w (.bool (eE k v)):=by
 obtain⟨R,G⟩:=jE (eE k v);have J:=jD G;rw[G];have h:0<=k/\k<=5:=by simpa [dg] using hk
 clear G hk;unfold vlV
 by_cases h0:v.kind=0
 ·have I:(v.kind==0)=true:=jQ h0;have z:=jD h0;clear h0 h;go_enter func311,ntmps311;go_wp2;go_ret;exact⟨by rw[<-J.out];simp[eE,z.out],af _ _⟩
 ·have I:(v.kind==0)=false:=jQ h0;have z:=jD h0;clear h0;have O:k=0\/k=1\/k=2\/k=3\/k=4\/k=5:=by omega
  clear h;rcases O with rfl|rfl|rfl|rfl|rfl|rfl <;>
  ·go_enter func311,ntmps311;go_wp2;go_ret;exact⟨by rw[<-J.out];simp[eE,z.out],af _ _⟩
def bY (a b:Vl):Bool:=a.kind==b.kind&&(a.num==b.num&&a.text.toList==b.text.toList)
theorem cZ (a b:Vl) (W:World):(binOp .neq 27 (vlV a) (vlV b)).run prog W=.ok (.bool (!bY a b)) W:=by
 have O:=underlying3;have a3:=Tryz.isAgg3;have z3:=Tryz.sizeOf3;have J:prog.underlying 9=some .string:=kr;have a9:=Tryz.isAgg9;have z9:=Tryz.sizeOf9;have z:prog.underlying 27=some (.struct (prog.fieldsOf 27)):=kr;have hp:prog.stoodInHeld 27=false:=kr;unfold vlV;rw[run_neq_struct,show (10000:Nat)=9999+1 from rfl,run_equalIn_agg W 9999 27 _ _ z hp];simp only[Program.fieldsOf,underlying27]
 go_simp
 by_cases G:a.kind=b.kind<;>by_cases h:a.num=b.num<;>by_cases I:a.text.toList=b.text.toList<;>simp[bY,G,h,I]
theorem rY (k:Int) (v:Vl) (w:World) (hk:dg k=true):Mn 281 #[Mk k,vlV v] w (Mk (ed k v)):=by
 have HV:=jD (gz v);have HU:=jD (fun W=>qo k v W hk);clear hk;obtain⟨R,hR⟩:=jE (ed k v);have HR:=jD hR;rw[hR];unfold vlV at HV HU ⊢;obtain⟨z,hz⟩:=jE (dN v);obtain⟨b,hb⟩:=jE (eE k v);rw[hz]at HV;rw[hb]at HU;have HZ:=jD hz;have HB:=jD hb;clear hR hz hb
 by_cases I:z=0
 ·subst I
  cases b <;>
  ·go_enter func281,ntmps281;go_wp2_with fail;refine aI fun O J=>?_
   have y0:Ml O w.heap.size 0 (Mk v.kind):=jG J;have y1:Ml O w.heap.size 1 (Mk v.num):=jG J;have y2:Ml O w.heap.size 2 (.string v.text):=jG J;have G:Mm w O:=gb J;clear J;refine (HV.out O).mono ?_;rintro e w1 ⟨rfl,h⟩;replace y0:=aa h y0;replace y1:=aa h y1;replace y2:=aa h y2;have Z:=jD (ab G h);clear G h;go_wp2_with (go_at_call 311;refine (HU.out _).mono ?_;rintro e w2 ⟨rfl,a'⟩);go_ret;exact⟨df (by rw[<-HR.out];unfold ed;rw[HZ.out,HB.out];rfl),ab Z.out a'⟩
 ·have c':(z != 0)=true:=jQ I;have H0:=jD I;clear I;go_enter func281,ntmps281;go_wp2_with fail;refine aI fun O J=>?_
  have G:Mm w O:=gb J;clear J;refine (HV.out O).mono ?_;rintro e w1 ⟨rfl,h⟩;have Z:=jD (ab G h);clear G h;go_wp2;go_ret;exact⟨df (by rw[<-HR.out];unfold ed;rw[HZ.out,Mp H0.out]),Z.out⟩
def iC (k:Int) (v:Vl):Vl:=if k=0 then ah else v
def fJ (k:Int) (a b:Vl):Vl :=
 if k=1 then ⟨0,a.num+b.num,⟨#[]⟩⟩ else if k=2 then ⟨0,min a.num b.num,⟨#[]⟩⟩ else if k=3 then ⟨0,max a.num b.num,⟨#[]⟩⟩ else if k=4 then a else if k=5 then b else ah
theorem Bc (k:Int) (v:Vl) (w:World):Mn 285 #[Mk k,vlV v] w (vlV (iC k v)):=by
 unfold iC vlV
 by_cases h:k=0
 ·subst h;rw[Mp rfl];unfold ah;go_enter func285,ntmps285;go_wp2;exact Mv (v:=.agg #[Mk 0,Mk 0,.string ⟨#[]⟩]) (by simp[results,results285,go_sem]) rfl ⟨rfl,jB⟩
 ·rw[Mo h];have z:(k==0)=false:=jQ h;clear h;go_enter func285,ntmps285;go_wp2;exact Mv (v:=.agg #[Mk v.kind,Mk v.num,.string v.text]) (by simp[results,results285,go_sem]) rfl ⟨rfl,jB⟩
theorem BS {P:Program} {t e:TypeId} {n:Nat} {cs:Array Value} {j:Nat} {v:Value} (W:World) (h:P.underlying t=some (.array n e)) (hs:∀w,(sizeOf e).run P w=.ok 1 w) (G:∀w,(isAgg e).run P w=.ok false w) (I:j<n) (J:cs[j]?=some v) :
  (Instr.index t (.agg cs) (Mk (j:Int))).run P W=.ok v W:=by
 have z:(0:Int)<=(j:Int)/\(j:Int)<(n:Int):=by omega
 simp[Instr.index,asIntOf,M6 h,I,part,hs,G,J]
theorem xp (k:Int) (a b:Vl) (w:World) (hk:dg k=true) (ha:-2305843009213693952<=a.num/\a.num<=2305843009213693952) (J:-2305843009213693952<=b.num/\b.num<=2305843009213693952):Mn 312 #[Mk k,vlV a,vlV b] w (vlV (fJ k a b)):=by
 have G:0<=k/\k<=5:=by simpa [dg] using hk
 have hc:k=0\/k=1\/k=2\/k=3\/k=4\/k=5:=by omega
 obtain⟨I,O⟩:=ha;obtain⟨a',Z⟩:=J;have z:=jD (fun (j:Nat) (v:Value) (cs:Array Value) (hv:cs[j]?=some v) (hj:j<6) (W:World)=>BS W underlying350 Tryz.sizeOf349 Tryz.isAgg349 hj hv);clear G hk;unfold vlV;rcases hc with rfl|rfl|rfl|rfl|rfl|rfl
 ·have h:=fun W=>z.out 0 _ (#[.func (.func 329) #[] #[],.func (.func 330) #[] #[.pointer (some ⟨w.heap.size,0,none⟩),.pointer (some ⟨w.heap.size+1,0,none⟩)],.func (.func 331) #[] #[.pointer (some ⟨w.heap.size,0,none⟩),.pointer (some ⟨w.heap.size+1,0,none⟩)],.func (.func 332) #[] #[.pointer (some ⟨w.heap.size,0,none⟩),.pointer (some ⟨w.heap.size+1,0,none⟩)],.func (.func 333) #[] #[.pointer (some ⟨w.heap.size,0,none⟩)],.func (.func 334) #[] #[.pointer (some ⟨w.heap.size+1,0,none⟩)]]) rfl dc W
  simp only[O9,Pa,Pb,fJ]at h ⊢;go_enter func312,ntmps312;go_wp2;exact Mv (v:=.agg #[Mk 0,Mk 0,.string ⟨#[]⟩]) (by simp[results,results312,go_sem]) rfl ⟨rfl,jB⟩
 ·have h:=fun W=>z.out 1 _ (#[.func (.func 329) #[] #[],.func (.func 330) #[] #[.pointer (some ⟨w.heap.size,0,none⟩),.pointer (some ⟨w.heap.size+1,0,none⟩)],.func (.func 331) #[] #[.pointer (some ⟨w.heap.size,0,none⟩),.pointer (some ⟨w.heap.size+1,0,none⟩)],.func (.func 332) #[] #[.pointer (some ⟨w.heap.size,0,none⟩),.pointer (some ⟨w.heap.size+1,0,none⟩)],.func (.func 333) #[] #[.pointer (some ⟨w.heap.size,0,none⟩)],.func (.func 334) #[] #[.pointer (some ⟨w.heap.size+1,0,none⟩)]]) rfl dc W
  simp only[O9,Pa,Pb,fJ]at h ⊢;go_enter func312,ntmps312;go_wp2;exact Mv (v:=.agg #[Mk 0,Mk (a.num+b.num),.string ⟨#[]⟩]) (by simp[results,results312,go_sem]) rfl ⟨rfl,jB⟩
 ·have h:=fun W=>z.out 2 _ (#[.func (.func 329) #[] #[],.func (.func 330) #[] #[.pointer (some ⟨w.heap.size,0,none⟩),.pointer (some ⟨w.heap.size+1,0,none⟩)],.func (.func 331) #[] #[.pointer (some ⟨w.heap.size,0,none⟩),.pointer (some ⟨w.heap.size+1,0,none⟩)],.func (.func 332) #[] #[.pointer (some ⟨w.heap.size,0,none⟩),.pointer (some ⟨w.heap.size+1,0,none⟩)],.func (.func 333) #[] #[.pointer (some ⟨w.heap.size,0,none⟩)],.func (.func 334) #[] #[.pointer (some ⟨w.heap.size+1,0,none⟩)]]) rfl dc W
  simp only[O9,Pa,Pb,fJ]at h ⊢;go_enter func312,ntmps312;go_wp2;exact Mv (v:=.agg #[Mk 0,Mk (min a.num b.num),.string ⟨#[]⟩]) (by simp[results,results312,go_sem]) rfl ⟨rfl,jB⟩
 ·have h:=fun W=>z.out 3 _ (#[.func (.func 329) #[] #[],.func (.func 330) #[] #[.pointer (some ⟨w.heap.size,0,none⟩),.pointer (some ⟨w.heap.size+1,0,none⟩)],.func (.func 331) #[] #[.pointer (some ⟨w.heap.size,0,none⟩),.pointer (some ⟨w.heap.size+1,0,none⟩)],.func (.func 332) #[] #[.pointer (some ⟨w.heap.size,0,none⟩),.pointer (some ⟨w.heap.size+1,0,none⟩)],.func (.func 333) #[] #[.pointer (some ⟨w.heap.size,0,none⟩)],.func (.func 334) #[] #[.pointer (some ⟨w.heap.size+1,0,none⟩)]]) rfl dc W
  simp only[O9,Pa,Pb,fJ]at h ⊢;go_enter func312,ntmps312;go_wp2;exact Mv (v:=.agg #[Mk 0,Mk (max a.num b.num),.string ⟨#[]⟩]) (by simp[results,results312,go_sem]) rfl ⟨rfl,jB⟩
 ·have h:=fun W=>z.out 4 _ (#[.func (.func 329) #[] #[],.func (.func 330) #[] #[.pointer (some ⟨w.heap.size,0,none⟩),.pointer (some ⟨w.heap.size+1,0,none⟩)],.func (.func 331) #[] #[.pointer (some ⟨w.heap.size,0,none⟩),.pointer (some ⟨w.heap.size+1,0,none⟩)],.func (.func 332) #[] #[.pointer (some ⟨w.heap.size,0,none⟩),.pointer (some ⟨w.heap.size+1,0,none⟩)],.func (.func 333) #[] #[.pointer (some ⟨w.heap.size,0,none⟩)],.func (.func 334) #[] #[.pointer (some ⟨w.heap.size+1,0,none⟩)]]) rfl dc W
  simp only[O9,Pa,Pb,fJ]at h ⊢;go_enter func312,ntmps312;go_wp2;exact Mv (v:=.agg #[Mk a.kind,Mk a.num,.string a.text]) (by simp[results,results312,go_sem]) rfl ⟨rfl,jB⟩
 ·have h:=fun W=>z.out 5 _ (#[.func (.func 329) #[] #[],.func (.func 330) #[] #[.pointer (some ⟨w.heap.size,0,none⟩),.pointer (some ⟨w.heap.size+1,0,none⟩)],.func (.func 331) #[] #[.pointer (some ⟨w.heap.size,0,none⟩),.pointer (some ⟨w.heap.size+1,0,none⟩)],.func (.func 332) #[] #[.pointer (some ⟨w.heap.size,0,none⟩),.pointer (some ⟨w.heap.size+1,0,none⟩)],.func (.func 333) #[] #[.pointer (some ⟨w.heap.size,0,none⟩)],.func (.func 334) #[] #[.pointer (some ⟨w.heap.size+1,0,none⟩)]]) rfl dc W
  simp only[O9,Pa,Pb,fJ]at h ⊢;go_enter func312,ntmps312;go_wp2;exact Mv (v:=.agg #[Mk b.kind,Mk b.num,.string b.text]) (by simp[results,results312,go_sem]) rfl ⟨rfl,jB⟩
def tC (a b:Ac):Ac:=if a.count=0 then b else if b.count=0 then a else ⟨a.kind,a.count+b.count,fJ a.kind a.val b.val⟩
def oC (k:Int) (a:Ac) (v:Vl):Ac:=tC a ⟨k,1,iC k v⟩
structure rM (k:Int) (a:Ac) (i:Int):Prop where
 kind:a.kind=k
 count:a.count=i
 none_:i=0->a.val=ah
 k0:k=0->a.val=ah
 k1:i≠0->k=1->a.val.kind=0/\a.val.text=⟨#[]⟩/\-(i*1099511627776)<=a.val.num/\a.val.num<=i*1099511627776
 more:i≠0->k≠0->k≠1->dN a.val=0/\eE k a.val=true
theorem Gl {s:ByteArray} (h:s.size=0):s=⟨#[]⟩:=by
 apply ByteArray.ext;exact Array.size_eq_zero_iff.1 h
theorem iy {v:Vl} (h:dN v=0) (h0:v.kind=0):v.text=⟨#[]⟩/\-1099511627776<=v.num/\v.num<=1099511627776:=by
 unfold dN at h;rw[h0]at h;simp only[Int.lt_irrefl,false_or]at h
 (repeat' split at h)<;>first|omega|skip
 exact⟨Gl om,by omega,by omega⟩
theorem Cb {n:Int} (z:-1099511627776<=n) (h:n<=1099511627776):dN ⟨0,n,⟨#[]⟩⟩=0:=by
 unfold dN;have hs:ByteArray.size ⟨#[]⟩=0:=rfl;simp only[hs]
 (repeat' split)<;>omega
theorem Jz {k:Int} {v:Vl} (h:ed k v=0):dN v=0/\eE k v=true:=by
 unfold ed at h
 split at h
 ·next z=>exact absurd h z
 ·next z =>
  split at h
  ·next G=>exact⟨by omega,G⟩
  ·exact absurd h dc
theorem kI {k:Int} {v:Vl} (h:eE k v=true) (h0:k≠0) (z:k≠4) (G:k≠5):v.kind=0:=by
 unfold eE at h;have:=NB h;omega
theorem Gy (k:Int) {v:Vl} (h:v.kind=0):eE k v=true:=by
 unfold eE;exact Nm (.inl h)
theorem xh (k:Int):rM k ⟨k,0,ah⟩ 0:=⟨rfl,rfl,fun _=>rfl,fun _=>rfl,fun h=>absurd rfl h,fun h=>absurd rfl h⟩
theorem uas {p:Prop} (h:p:=by
  have z:=kI v2 dc dc dc;have I:=kI q.2 dc dc dc;obtain⟨J,q2,Z⟩:=iy v1 z;obtain⟨p1,p2,p3⟩:=iy q.1 I;exact⟨by simp only[fJ];exact Cb om om,Gy _ (by simp[fJ])⟩):p:=h
theorem BI {k i:Int} {a:Ac} {v:Vl} (hk:dg k=true) (h:rM k a i) (hi:0<=i) (hv:ed k v=0):rM k (oC k a v) (i+1):=by
 obtain⟨v1,v2⟩:=Jz hv;have a':0<=k/\k<=5:=by simpa [dg] using hk
 have c':=h.count;have G:=h.kind;unfold oC tC
 by_cases h0:i=0
 ·rw[Mp om];subst h0;refine⟨rfl,rfl,fun e=>absurd e dc,fun e=>by unfold iC;rw[Mp e],fun _ e=>?_,fun _ O e2=>?_⟩
  ·unfold iC;rw[Mo om];have z:=kI v2 om om om;obtain⟨J,q2,Z⟩:=iy v1 z;exact⟨z,J,by simp only;omega,by simp only;omega⟩
  ·unfold iC;rw[Mo O];exact⟨v1,v2⟩
 ·rw[Mo om,Mo jS];refine⟨G,by simp only;omega,fun e=>by omega,fun e=>?_,fun _ e=>?_,fun _ O e2=>?_⟩
  ·simp only[G,e,fJ];simp
  ·have q:=h.k1 h0 e;have z:=kI v2 om om om;obtain⟨J,q2,Z⟩:=iy v1 z;simp only[G,e,fJ,iC];simp only[M5,show ¬(1:Int)=0 by decide,NJ];exact⟨trivial,trivial,by omega,by omega⟩
  ·have q:=h.more h0 O e2;have hs:iC k v=v:=by unfold iC;rw[Mo O]
   simp only[G,hs];have hc:k=2\/k=3\/k=4\/k=5:=by omega
   rcases hc with rfl|rfl|rfl|rfl
   ·exact uas
   ·exact uas
   ·simpa [fJ] using q
   ·simpa [fJ] using And.intro v1 v2
theorem Hx {k i:Int} {a:Ac} (hk:dg k=true) (h:rM k a i) (I:0<=i/\i<=4096):-2305843009213693952<=a.val.num/\a.val.num<=2305843009213693952:=by
 by_cases h0:i=0
 ·rw[h.none_ h0];decide
 ·by_cases G:k=0
  ·rw[h.k0 G];decide
  ·by_cases z:k=1
   ·have:=h.k1 h0 z;omega
   ·have:=(h.more h0 G z).1;unfold dN at this
    (repeat' split at this)<;>omega
theorem L5 (a:Vl) (W:World):(binOp .eql 27 (vlV a) (vlV a)).run prog W=.ok (.bool true) W:=by
 have G:=underlying3;have a3:=Tryz.isAgg3;have z3:=Tryz.sizeOf3;have z:prog.underlying 9=some .string:=kr;have a9:=Tryz.isAgg9;have z9:=Tryz.sizeOf9;have h:prog.underlying 27=some (.struct (prog.fieldsOf 27)):=kr;have hp:prog.stoodInHeld 27=false:=kr;unfold vlV;rw[run_eql_struct,show (10000:Nat)=9999+1 from rfl,run_equalIn_agg W 9999 27 _ _ h hp];simp only[Program.fieldsOf,underlying27]
 go_simp
theorem yT {k i:Int} {a:Ac} (h:rM k a i) (z:a.val=ah):gw a=.agg #[Mk k,Mk i,Mk 0,Mk 0,.string ⟨#[]⟩]:=by
 unfold gw;rw[h.kind,h.count,z];rfl
theorem uau {p:Prop} (h:p:=by
  go_enter func313,ntmps313;go_wp2_with (go_at_call 280;refine (iE _ _).mono ?_;rw[HK.out];rintro e w' ⟨rfl,rfl⟩);go_ret;exact⟨rfl,af _ _⟩):p:=h
theorem DE (k i:Int) (a:Ac) (w:World) (hk:dg k=true) (h:rM k a i) (hi:0<=i/\i<=4096) :
  Mn 313 #[gw a] w (Mk 0):=by
 have HK:=jD hk;have hq:∀W,(binOp .eql 27 (.agg #[Mk 0,Mk 0,.string ⟨#[]⟩]) (.agg #[Mk 0,Mk 0,.string ⟨#[]⟩])).run prog W=.ok (.bool true) W:=fun W=>L5 ⟨0,0,⟨#[]⟩⟩ W
 obtain⟨Z,c'⟩:=hi
 by_cases h0:i=0
 ·rw[yT h (h.none_ h0)];subst h0;clear Z c' hk h;exact uau
 have l':(i==0)=false:=jQ h0;have hn:¬i<0:=by omega
 have hx:¬4096<i:=by omega
 by_cases I:k=0
 ·rw[yT h (h.k0 I)];subst I;clear Z c' hk h h0;exact uau
 have i':(k==0)=false:=jQ I
 by_cases G:k=1
 ·obtain⟨q0,q1,q2,q3⟩:=h.k1 h0 G;have ha:gw a=.agg #[Mk 1,Mk i,Mk 0,Mk a.val.num,.string ⟨#[]⟩]:=by
   unfold gw;rw[h.kind,h.count,q0,q1,G]
  rw[ha];obtain⟨n,f'⟩:=jE a.val.num;rw[f']at q2 q3 ⊢;subst G;have k':IntKind.i64.wrap (i*1099511627776)=i*1099511627776:=by simp[IntKind.wrap,IntKind.bits,IntKind.signed];omega
  have j':IntKind.i64.wrap (-(i*1099511627776))=-(i*1099511627776):=by simp[IntKind.wrap,IntKind.bits,IntKind.signed];omega
  clear hk h h0 I ha q0 q1;exact uau
 ·have h':(k==1)=false:=jQ G;obtain⟨q0,q1⟩:=h.more h0 I G;have HV:=jD (gz a.val);have HU:=jD (fun W=>qo k a.val W hk);rw[q0]at HV;rw[q1]at HU;have ha:gw a=.agg #[Mk k,Mk i,Mk a.val.kind,Mk a.val.num,.string a.val.text]:=by
   unfold gw;rw[h.kind,h.count]
  rw[ha];unfold vlV at HV HU;clear hk h h0 I G ha q0 q1;go_enter func313,ntmps313;go_wp2_with (go_at_call 280;refine (iE _ _).mono ?_;rw[HK.out];rintro e w' ⟨rfl,rfl⟩);refine aI fun O J=>?_
  have y0:Ml O w.heap.size 0 (Mk k):=jG J;have y1:Ml O w.heap.size 1 (Mk i):=jG J;have y2:Ml O w.heap.size 2 (Mk a.val.kind):=jG J;have y3:Ml O w.heap.size 3 (Mk a.val.num):=jG J;have y4:Ml O w.heap.size 4 (.string a.val.text):=jG J;have a':Mm w O:=gb J;clear J;refine (HV.out O).mono ?_;rintro e w1 ⟨rfl,z⟩;replace y0:=aa z y0;replace y1:=aa z y1;replace y2:=aa z y2;replace y3:=aa z y3;replace y4:=aa z y4;have d':=jD (ab a' z);clear a' z;go_wp2_with (go_at_call 311;refine (HU.out _).mono ?_;rintro e w2 ⟨rfl,g'⟩);go_ret;exact⟨rfl,ab d'.out g'⟩
end Go.Proofs.YtbjicljfjkdeeaaGreatDoor
