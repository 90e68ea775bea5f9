/- Part. -/
import Derived.Test.YtokconodddedhaaGreatDoorQ09
set_option maxRecDepth 100000
set_option maxHeartbeats 16000000
set_option linter.unusedVariables false
set_option linter.unusedSimpArgs false
namespace Go.Proofs.YtokconodddedhaaGreatDoor
open Go.Proofs.Tryz Go.RowKit
def xU (l:List Evt) (r:Bnd):Bool:=match l[mr l r]? with
 | some e=>kS (bK e) r
 | none=>false
theorem wy (l:List Evt) (r:Bnd) (v:Value) (w:World) (hl:bm w v l) (hlen:l.length<=4096) (ha:l.Pairwise fun a b=>bJ (bK a) (bK b)<0) :
  KZ 242 #[v,kZ r,.func (.func 243) #[] #[]] w (.tuple #[KW (mr l r),.bool (xU l r)]):=by
 obtain⟨A,c,rfl,h1,h2,h'⟩:=hl;have hn:=ax h1 h2;have HL:=jD h';clear h' h1 h2;have HA:=jD ha;clear ha;obtain⟨low,G⟩:=jE (mr l r);have t':low<=l.length:=by rw[<-G];exact KR l r
 have O:=jD G;obtain⟨t,ht⟩:=jE (xU l r);have HT:=jD ht;unfold kZ;rw[G,ht];clear G ht;go_enter func242,ntmps242;go_wp2_with fail;refine aP fun w0 e0=>?_
 have j':KY w w0:=gb e0;have x0:KX w0 w.heap.size 0 (KW r.t):=jG e0;have x1:KX w0 w.heap.size 1 (KW r.s):=jG e0;have x2:KX w0 w.heap.size 2 (KW r.n):=jG e0;have HX:=jD (And.intro x0 (And.intro x1 x2));have z:=jD j';clear e0 j' x0 x1 x2
 go_loopw [9,10] (fun i j wr=>∃a b:Nat,a<=low/\low<=b/\b<=l.length/\i=KW a/\j=KW b/\KY w0 wr) (fun i j _=>(intOf j).toNat-(intOf i).toNat)
 case atStart=>exact⟨0,l.length,Lb _,t',Ld _,rfl,rfl,La _ _⟩
 case round =>
  obtain⟨p,q,g',k',i',rfl,rfl,F⟩:=hrel;obtain⟨x0,x1,x2⟩:=HX.out;replace x0:=aa F x0;replace x1:=aa F x1;replace x2:=aa F x2
  by_cases q':p<q
  ·have c':(p:Int)<(q:Int):=by omega
   go_wp2_with fail;obtain⟨h,hh⟩:∃h:Nat,h=(p+q) / 2:=⟨_,rfl⟩;have x':(h:Int)<(l.length:Int):=by omega
   have y':p<=h:=by omega
   have u':h<q:=by omega
   rw[show ((p:Int)+(q:Int)) / 2=(h:Int) from by omega];clear hh;obtain⟨b,o,rfl,vv,d',c0,c1,c2,c3,c4⟩:=HL.out h l[h] (K9 om);replace c0:=aa (ab z.out F) c0;replace c1:=aa (ab z.out F) c1;replace c2:=aa (ab z.out F) c2;replace c3:=aa (ab z.out F) c3;replace c4:=aa (ab z.out F) c4;obtain⟨A1,cx,rfl,-⟩:=d';have D:=jD (K9 (l:=l) (i:=h) om);obtain⟨x,hx⟩:=jF (l[h]);rw[<-hx]at D c0 c1 c2 c3 c4;clear hx;obtain⟨d,hd⟩:=jE (bJ (bK x) r);have HD:=jD hd;have f':Hid (∀W,KZ 243 #[.agg #[KW x.src,KW x.sq,KW x.ty,KW x.tm,.slice A1 x.vals.length cx],.agg #[KW r.t,KW r.s,KW r.n]] W (KW d)):=jD fun W=>(sr x r A1 _ cx W).mono (fun e w' ⟨h1,h2⟩=>⟨h1.trans (by rw[hd]),h2.below⟩)
   clear hd;refine bF (fun W=>W.cell? ⟨b,o+h*5,none⟩=some (KW x.src)/\W.cell? ⟨b,o+h*5+1,none⟩=some (KW x.sq)/\W.cell? ⟨b,o+h*5+2,none⟩=some (KW x.ty)/\W.cell? ⟨b,o+h*5+3,none⟩=some (KW x.tm)/\W.cell? ⟨b,o+h*5+4,none⟩=some (.slice A1 x.vals.length cx)/\W.cell? ⟨w.heap.size,0,none⟩=some (KW r.t)/\W.cell? ⟨w.heap.size,1,none⟩=some (KW r.s)/\W.cell? ⟨w.heap.size,2,none⟩=some (KW r.n)) (by repeat (first|exact aG _ _ _|exact aH|refine aN ?_ ?_)) kr kr ?hF ?_;(case hF=>(first|exact⟨‹_›,‹_›⟩|(go_simp;done)|(simp[*];done)|(repeat' (first|(refine And.intro ?_ ?_)|(go_simp;done)|exact aa (aJ (La _ _) _) (by assumption)|assumption))));intro a' Z;have hG:Hid (Grows (fun W=>W.cell? ⟨b,o+h*5,none⟩=some (KW x.src)/\W.cell? ⟨b,o+h*5+1,none⟩=some (KW x.sq)/\W.cell? ⟨b,o+h*5+2,none⟩=some (KW x.ty)/\W.cell? ⟨b,o+h*5+3,none⟩=some (KW x.tm)/\W.cell? ⟨b,o+h*5+4,none⟩=some (.slice A1 x.vals.length cx)/\W.cell? ⟨w.heap.size,0,none⟩=some (KW r.t)/\W.cell? ⟨w.heap.size,1,none⟩=some (KW r.s)/\W.cell? ⟨w.heap.size,2,none⟩=some (KW r.n))):=(by repeat (first|exact aG _ _ _|exact aH|refine aN ?_ ?_));(repeat (go_big_quiet_step ((go_at_call 243;exact fj hG (f'.out _)))));clear hG Z a';refine wpQuiet_nil ?_;rintro wq ⟨⟨w',I,l'⟩,rfl⟩;have b':=Gn (r:=r) HA.out D.out;rw[HD.out,O.out]at b'
   by_cases m':d<0
   ·have J:h<low:=b'.1 m';clear b';go_wp2_with fail
    go_roundw
    case rel=>exact⟨h+1,q,by omega,k',i',by go_num,rfl,ab F I⟩
    case measure=>simp[intOf];omega
   ·have J:low<=h:=by
     rcases LY h low with h1|h1
     ·exact absurd (b'.2 h1) m'
     ·exact h1
    clear b';go_wp2_with fail
    go_roundw
    case rel=>exact⟨p,h,g',J,by omega,rfl,rfl,ab F I⟩
    case measure=>simp[intOf];omega
  ·have c':¬(p:Int)<(q:Int):=by omega
   have s':p=low:=by omega
   have r':p=q:=by omega
   clear g' k' q' i' c';subst r';subst s'
   by_cases J:p<l.length
   ·have p':(p:Int)<(l.length:Int):=by omega
    have n':decide ((p:Int)<(l.length:Int))=true:=jQ J;obtain⟨b,o,rfl,vv,d',c0,c1,c2,c3,c4⟩:=HL.out p l[p] (K9 om);replace c0:=aa (ab z.out F) c0;replace c1:=aa (ab z.out F) c1;replace c2:=aa (ab z.out F) c2;replace c3:=aa (ab z.out F) c3;replace c4:=aa (ab z.out F) c4;obtain⟨A1,cx,rfl,-⟩:=d';have D:=jD (K9 (l:=l) (i:=p) om);obtain⟨x,hx⟩:=jF (l[p]);rw[<-hx]at D c0 c1 c2 c3 c4;clear hx;obtain⟨d,hd⟩:=jE (bJ (bK x) r);have HD:=jD hd;have f':Hid (∀W,KZ 243 #[.agg #[KW x.src,KW x.sq,KW x.ty,KW x.tm,.slice A1 x.vals.length cx],.agg #[KW r.t,KW r.s,KW r.n]] W (KW d)):=jD fun W=>(sr x r A1 _ cx W).mono (fun e w' ⟨h1,h2⟩=>⟨h1.trans (by rw[hd]),h2.below⟩)
    clear hd;go_wp2_with fail;refine bF (fun W=>W.cell? ⟨b,o+p*5,none⟩=some (KW x.src)/\W.cell? ⟨b,o+p*5+1,none⟩=some (KW x.sq)/\W.cell? ⟨b,o+p*5+2,none⟩=some (KW x.ty)/\W.cell? ⟨b,o+p*5+3,none⟩=some (KW x.tm)/\W.cell? ⟨b,o+p*5+4,none⟩=some (.slice A1 x.vals.length cx)/\W.cell? ⟨w.heap.size,0,none⟩=some (KW r.t)/\W.cell? ⟨w.heap.size,1,none⟩=some (KW r.s)/\W.cell? ⟨w.heap.size,2,none⟩=some (KW r.n)) (by repeat (first|exact aG _ _ _|exact aH|refine aN ?_ ?_)) kr kr ?hF ?_;(case hF=>(first|exact⟨‹_›,‹_›⟩|(go_simp;done)|(simp[*];done)|(repeat' (first|(refine And.intro ?_ ?_)|(go_simp;done)|exact aa (aJ (La _ _) _) (by assumption)|assumption))));intro a' Z;have hG:Hid (Grows (fun W=>W.cell? ⟨b,o+p*5,none⟩=some (KW x.src)/\W.cell? ⟨b,o+p*5+1,none⟩=some (KW x.sq)/\W.cell? ⟨b,o+p*5+2,none⟩=some (KW x.ty)/\W.cell? ⟨b,o+p*5+3,none⟩=some (KW x.tm)/\W.cell? ⟨b,o+p*5+4,none⟩=some (.slice A1 x.vals.length cx)/\W.cell? ⟨w.heap.size,0,none⟩=some (KW r.t)/\W.cell? ⟨w.heap.size,1,none⟩=some (KW r.s)/\W.cell? ⟨w.heap.size,2,none⟩=some (KW r.n))):=(by repeat (first|exact aG _ _ _|exact aH|refine aN ?_ ?_));(repeat (go_big_quiet_step ((go_at_call 243;exact fj hG (f'.out _)))));clear hG Z a';refine wpQuiet_nil ?_;rintro wq ⟨⟨w',I,l'⟩,rfl⟩;go_wp2
    go_ret2
    have e':t=(d==0):=by
     rw[<-HT.out];unfold xU;rw[O.out,D.out];simp only[kB,HD.out];exact (Bool.beq_eq_decide_eq d 0).symm
    rw[e'];exact⟨rfl,ab z.out (ab F I)⟩
   ·have p':¬(p:Int)<(l.length:Int):=by omega
    have n':decide ((p:Int)<(l.length:Int))=false:=jQ J;go_wp2_with fail;refine bF (fun W=>W.cell? ⟨w.heap.size,0,none⟩=some (KW r.t)/\W.cell? ⟨w.heap.size,1,none⟩=some (KW r.s)) (by repeat (first|exact aG _ _ _|exact aH|refine aN ?_ ?_)) kr kr ?hF ?_;(case hF=>(first|exact⟨‹_›,‹_›⟩|(go_simp;done)|(simp[*];done)|(repeat' (first|(refine And.intro ?_ ?_)|(go_simp;done)|exact aa (aJ (La _ _) _) (by assumption)|assumption))));intro a' Z;have hG:Hid (Grows (fun W=>W.cell? ⟨w.heap.size,0,none⟩=some (KW r.t)/\W.cell? ⟨w.heap.size,1,none⟩=some (KW r.s))):=(by repeat (first|exact aG _ _ _|exact aH|refine aN ?_ ?_));(repeat (go_big_quiet_step (fail)));clear hG Z a';refine wpQuiet_nil ?_;rintro wq ⟨⟨w',I,l'⟩,rfl⟩;go_wp2
    go_ret2
    have e':t=false:=by
     rw[<-HT.out];unfold xU;rw[O.out,NM om]
    rw[e'];exact⟨rfl,ab z.out (ab F I)⟩
def Hj (w:World) (l:List Evt) (r:Bnd) (e:Ending) (W:World):Prop:=e=.returned (.tuple #[KW (mr l r),.bool (xU l r),KW 0])/\KY w W
theorem GZ (l:List Evt) (r:Bnd) (v:Value) (w:World) (hl:bm w v l) (h0:bC l=0) :
  Calls prog 175 #[v,kZ r] w (Hj w l r):=by
 obtain⟨F,hlen⟩:=gx h0;have O:=jD hl;have H0:=jD h0;have HA:=jD F.asc;clear h0 F;obtain⟨A,c,rfl,-⟩:=hl;unfold kZ;go_enter func175,ntmps175;go_wp2_with fail;refine aw fun G D=>?_
 have J:KX G w.heap.size 0 (KW r.t):=jG D;have y1:KX G w.heap.size 1 (KW r.s):=jG D;have Z:KX G w.heap.size 2 (KW r.n):=jG D;have z:KY w G:=gb D;clear D;refine (gA l _ _ (O.out.stays aK z)).mono ?_;rw[H0.out];rintro e w4 ⟨rfl,h⟩;replace J:=aa h J;replace y1:=aa h y1;replace Z:=aa h Z;have HB:=jD (ab z h);clear z h;go_wp2_with fail;refine (wy l r _ _ (O.out.stays aK HB.out) hlen HA.out).mono ?_;rintro e w5 ⟨rfl,I⟩;go_wp2
 go_ret3
 exact⟨rfl,ab HB.out I⟩
def J6 (w:World) (r:List (List Evt) × Int) (e:Ending) (W:World):Prop:=∃v,e=.returned (.tuple #[.agg #[v],KW r.2])/\gH W v r.1/\KY w W
theorem El (n:Nat):(madeCells #[Value.slice none 0 0] n).toList=List.replicate n (Value.slice none 0 0):=by
 rw[List.eq_replicate_iff];refine⟨by simp[madeCells],fun b h=>?_⟩;simp[madeCells]at h;obtain⟨_,_,rfl⟩:=h;simp[Nat.mod_one]
theorem yg {w':World} {B e g n:Nat} (h:w'.ownsRow B e 1 (.slice (some ⟨g,0,none⟩) n n) n (madeCells (Value.slice none 0 0).cells (n*1)).toList):w'.heap[g]?=some (.cells (List.replicate n (Value.slice none 0 0)).toArray e (0,0)):=by
 rcases h.2 with ⟨z,_⟩|⟨g',cap,cur,hv,_,hh,_,_,hs,ht⟩
 ·cases z
 ·simp only[Value.slice.injEq,Nn,Addr.mk.injEq,LV,true_and]at hv;obtain⟨rfl,rfl⟩:=hv;rw[hh];have D:cur.toList=List.replicate n (Value.slice none 0 0):=by
   rw[Mn (by simp[hs])]at ht;rw[ht,LL];exact El n
  rw[<-D]
theorem EN {es:List (List EV)} {j:Nat} {m:List EV} {x:Evt} {u:Value} (h:es[j]?=some m):(es.set j (m++[(x,u)])).map (fun l=>l.map (·.1))=(es.map fun l=>l.map (·.1)).set j (((es.map fun l=>l.map (·.1)).getD j [])++[x]):=by
 rw[List.map_set,ME,LI,h];simp
theorem Ca {l:List Evt} {N:Nat} {bs:List Bnd} {k j:Nat} {b:Bnd} {y:Evt} {u:Value} {es:List (List EV)} {m:List EV} (D:es.map (fun l=>l.map (·.1))=mO l N (bs.take k)) (h:bs[k]?=some b) (z:b.v=(j:Int)) (hy:rH l b=some y) (hm:es[j]?=some m) :
  (es.set j (m++[(y,u)])).map (fun l=>l.map (·.1))=mO l N (bs.take (k+1)):=by
 rw[EN hm,D,B7 h];unfold mg;rw[hy,z];simp
theorem Fi {l:List Evt} {N:Nat} {bs:List Bnd} {k j:Nat} {es:List (List EV)} {m:List EV} (z:es.map (fun l=>l.map (·.1))=mO l N (bs.take k)) (hm:es[j]?=some m):m.length<=k:=by
 have h:m.map (·.1)∈mO l N (bs.take k):=by
  rw[<-z];exact List.mem_map.2 ⟨m,Li hm,rfl⟩
 have D:=xm _ h;rw[Lm,Ml]at D;omega
theorem Ig (l:List Evt) (n:Int) (bs:List Bnd) (v vm:Value) (w:World) (hl:bm w v l) (hm:bQ w vm bs) (x':∀e∈l,e.vals.length<=1048576) :
  Calls prog 101 #[v,KW n,rY vm] w (J6 w (lQ l n bs)):=by
 have HL:=jD hl;have HM:=jD hm;have N1:=jD x';obtain⟨A,c,rfl,-⟩:=hl;obtain⟨C,d,rfl,-⟩:=hm;unfold rY;obtain⟨se,Y2⟩:=jE (bC l);have a':=jD Y2;obtain⟨R,hR⟩:=jE (lQ l n bs);have s':=jD hR;rw[hR];clear Y2 hR x';go_enter func101,ntmps101;go_wp2_with fail;refine aw fun W1 e1=>?_
 have x0:KX W1 w.heap.size 0 (.slice C bs.length d):=jG e1;have r0:W1.heap[w.heap.size+1]?=some (.cells [Value.slice none 0 0].toArray 62 (0,0)):=by rw[e1];exact ap _ _ _ jS
 have n':KY w W1:=gb e1;have S0:w.heap.size+1<W1.heap.size:=by rw[e1];simp
 clear e1;refine (gA l _ W1 (HL.out.stays aK n')).mono ?_;rw[a'.out];rintro e w2 ⟨rfl,A'⟩;replace x0:=aa A' x0;replace r0:=(A'.block (w.heap.size+1) S0).trans r0;have P1:w.heap.size+1<w2.heap.size:=Ll S0 A'.size;have u':=jD (ab n' A');clear n' A' S0
 by_cases h0:se=0
 case neg =>
  have O4:(se != 0)=true:=jQ h0;have HX:Hid (R=([],se)):=jD (by rw[<-s'.out];exact jJ (zw a'.out h0) h0);have rc:w2.cell? ⟨w.heap.size+1,0,none⟩=some (.slice none 0 0):=by rw[af r0];rfl
  have rf:=aq r0 0;have O:=M0 w2 ⟨w.heap.size+1,0,none⟩ (.slice none 0 0) (by rw[rc];rfl);clear h0;have HQ:=jD O;clear O;go_wp2_with fail;have O:=HQ.out;rw[HX.out];exact Lc (v:=.tuple #[.agg #[.slice none 0 0],KW se]) (by simp[results,results101,go_sem,O]) rfl ⟨_,rfl,Sl.nil _ _ _ _ _ (Lb _),aA u'.out om _⟩
 subst h0;obtain⟨N2,hlen⟩:=gx a'.out;have HA:=jD N2.asc;clear N2;have rc:w2.cell? ⟨w.heap.size+1,0,none⟩=some (.slice none 0 0):=by rw[af r0];rfl
 have rf:=aq r0 0
 by_cases q':inI n 16=false
 ·have HX:Hid (R=([],2)):=jD (by rw[<-s'.out];exact jJ (C1 a'.out q') dc);have O:=M0 w2 ⟨w.heap.size+1,0,none⟩ (.slice none 0 0) (by rw[rc];rfl);have HQ:=jD O;clear O;go_wp2_with (go_at_call 173;refine (el _ _ _).mono ?_;rintro e w' ⟨rfl,rfl⟩);have O:=HQ.out;rw[HX.out];exact Lc (v:=.tuple #[.agg #[.slice none 0 0],KW 2]) (by simp[results,results101,go_sem,O]) rfl ⟨_,rfl,Sl.nil _ _ _ _ _ (Lb _),aA u'.out om _⟩
 have U':=jD q';rw[M9]at q';obtain⟨N,hN,B5⟩:∃N:Nat,n=(N:Int)/\N<=16:=by
  unfold inI at q';simp only[Lp,Ly]at q';exact⟨n.toNat,by omega,by omega⟩
 subst hN;obtain⟨me,p'⟩:=eh (iV bs);go_wp2_with (first|(go_at_call 173;refine (el _ _ _).mono ?_;rintro e w' ⟨rfl,rfl⟩)|fail);refine (zD bs _ w2 (HM.out.stays cE u'.out)).mono ?_;rw[p'.out];rintro e w3 ⟨rfl,E'⟩;replace x0:=aa E' x0;have r3:=(E'.block (w.heap.size+1) P1).trans r0;have V3:w.heap.size+1<w3.heap.size:=Ll P1 E'.size;have Z0:=jD (ab u'.out E');clear E' rc rf r0 P1 q';have rc:w3.cell? ⟨w.heap.size+1,0,none⟩=some (.slice none 0 0):=by rw[af r3];rfl
 have rf:=aq r3 0
 by_cases h0:me=0
 case neg =>
  have O4:(me != 0)=true:=jQ h0;have HX:Hid (R=([],me)):=jD (by rw[<-s'.out];exact jJ (zU a'.out U'.out p'.out h0) h0);have O:=M0 w3 ⟨w.heap.size+1,0,none⟩ (.slice none 0 0) (by rw[rc];rfl);clear h0;have HQ:=jD O;clear O;go_wp2_with fail;have O:=HQ.out;rw[HX.out];exact Lc (v:=.tuple #[.agg #[.slice none 0 0],KW me]) (by simp[results,results101,go_sem,O]) rfl ⟨_,rfl,Sl.nil _ _ _ _ _ (Lb _),aA Z0.out om _⟩
 subst h0;obtain⟨-,T2,K0⟩:=JR p'.out;have A3:=jD K0;clear K0;obtain⟨i1,V0,K2,X',-⟩:=LD gw;have n':i1.bytes=24:=by have:=gw;rw[V0]at this;simp at this;exact this.2.2
 go_wp2_with (at_make;refine wpList_make_full _ rfl (.tmp 33) (.tmp 33) 60 rfl w3.heap.size 34 i1 (.slice none 0 0) 1 underlying60 V0 K2 X' .i64 .i64 (N:Int) (N:Int) N rfl rfl rfl rfl (by rw[n'];omega) (by unfold maxLen;omega) (Ld _) ?_;intro w5 I' H2;have y':KY w3 w5:=am H2 (Ld _) (fun _ h=>by cases h);have x5:=aa y' x0;have N3:w.heap.size<w5.heap.size:=(by have:=y'.size;omega);have R1:w.heap.size≠w5.heap.size:=om;have X1:w5.heap.size≠w.heap.size:=om);obtain⟨J,T0⟩:=jE (w.heap.size+1);obtain⟨G,hG⟩:=jE w3.heap.size;obtain⟨E,hE⟩:=jE w5.heap.size;have Y0:=yg I';refine aP fun w0 e0=>?_
 have T':KY w5 w0:=gb e0;have R2:w0.heap[E]?=some (.cells [Value.slice (some ⟨G,0,none⟩) N N].toArray 62 (0,0)):=by rw[e0,<-hE,<-hG];exact ap _ _ _ rfl
 have S3:E+1<=w0.heap.size:=by rw[e0,<-hE];simp
 have O5:G<E:=by rw[<-hG,<-hE];exact aD Y0
 have Y1:VarsW w.heap.size (E+1) G w0 (List.replicate N (.slice none 0 0)) (List.replicate N []):=qI ((T'.block G om).trans (hG▸Y0)) ⟨by omega,by omega⟩;have P2:w0.heap[J]?=some (.cells [Value.slice none 0 0].toArray 62 (0,0)):=(T'.block J om).trans ((y'.block J om).trans (T0▸r3));have A0:KY w w0:=ab Z0.out (ab y' T');have H6:w.heap.size<J/\J<G:=by omega
 have X4:=jD Y1;have Z2:=jD (And.intro R2 P2);have X2:=jD A0;rw[T0,hG,hE];clear e0 T' R2 Y1 P2 A0 Y0 I' H2 y' x5 N3 R1 X1 x0 r3 rc rf T0 hG hE V3 V0 K2 X' n' u' Z0
 go_loopw [39] (fun i wr=>∃(k:Nat) (vs:List Value) (es:List (List EV)),k<=bs.length/\i=KW k/\Hid (dB (fun _ b=>ml l N b) (gi bs k) (bs.drop k)=dB (fun _ b=>ml l N b) none bs/\VarsW w.heap.size (E+1) G wr vs es/\es.map (fun l=>l.map (·.1))=mO l N (bs.take k)/\wr.heap[E]?=some (.cells [Value.slice (some ⟨G,0,none⟩) N N].toArray 62 (0,0))/\wr.heap[J]?=some (.cells [Value.slice none 0 0].toArray 62 (0,0))/\KY w wr/\E+1<=wr.heap.size)) (fun i _=>bs.length-(intOf i).toNat)
 case atStart=>exact⟨0,_,_,Lb _,rfl,jD ⟨rfl,X4.out,by simp[mO],Z2.out.1,Z2.out.2,X2.out,S3⟩⟩
 case round =>
  obtain⟨k,vs,es,hk,rfl,hI⟩:=hrel;have i':=hI.out.2.2.2.2.2.1;have S5:=hI.out.2.2.2.2.2.2;have rc:wr.cell? ⟨J,0,none⟩=some (.slice none 0 0):=by rw[af hI.out.2.2.2.2.1];rfl
  have rf:=aq hI.out.2.2.2.2.1 0;have ec:wr.cell? ⟨E,0,none⟩=some (.slice (some ⟨G,0,none⟩) N N):=by rw[af hI.out.2.2.2.1];rfl
  by_cases R0:k<bs.length
  ·have W3:(k:Int)<(bs.length:Int):=by omega
   obtain⟨_,_,N',-,-,z'⟩:=HM.out;injection N' with N' _ U4;clear U4;obtain⟨b,o,hC,c0,c1,c2,c3⟩:=z' k bs[k] (K9 R0);rw[<-N']at hC;clear N' z';subst hC;replace c0:=aa i' c0;replace c1:=aa i' c1;replace c2:=aa i' c2;replace c3:=aa i' c3;have h':=jD (K9 R0);have O0:=Ib (A3.out bs[k] (Nd R0));obtain⟨x,hx⟩:=jF (bs[k]);rw[<-hx]at h' c0 c1 c2 c3 O0;clear hx;obtain⟨j,hj⟩:∃j:Nat,x.v=(j:Int):=⟨x.v.toNat,by omega⟩;have HJ:=jD hj;rw[hj]at c0 O0;clear hj;have T2:b<wr.heap.size:=K8 wr ⟨b,_,none⟩ c0;have U0:b≠wr.heap.size:=by omega
   have t':wr.heap.size≠b:=by omega
   have U3:J≠wr.heap.size:=by omega
   have T1:wr.heap.size≠J:=by omega
   by_cases hv:(N:Int)<=(j:Int)
   ·have HE:Hid (R=([],10)):=jD (by
     rw[<-s'.out];exact jJ ((jt a'.out U'.out p'.out).trans (et h'.out hI.out.1 (GM (by rw[HJ.out];exact hv)) dc).symm) dc)
    have Q3:J<wr.heap.size:=by omega
    have P6:∀ob,(wr.alloc ob).cell? ⟨J,0,none⟩=some (.slice none 0 0):=fun ob=>aa (ag wr ob) rc
    have N6:∀ob,(wr.alloc ob).frozen? ⟨J,0,none⟩=false:=fun ob=>(Nw (a:=⟨J,0,none⟩) (Mq wr ob J Q3)).trans rf
    go_wp2_with fail;have O:=aa (ag (wr.setCell ⟨J,0,none⟩ (.slice none 0 0)) (.cells #[.int .i64 (j:Int),.int .i64 x.t,.int .i64 x.s,.int .i64 x.n] 80)) (M0 wr ⟨J,0,none⟩ (.slice none 0 0) (by rw[rc];rfl));rw[HE.out];exact Lc (v:=.tuple #[.agg #[.slice none 0 0],KW 10]) (by simp[results,results101,go_sem,O]) rfl ⟨_,rfl,Sl.nil _ _ _ _ _ (Lb _),aJ (aA i' om _) _⟩
   ·have U5:j<N:=by omega
    have R5:¬(N:Int)<=(j:Int):=hv;go_wp2_with fail;refine aw fun W6 e6=>?_
    obtain⟨T,hT⟩:=jE wr.heap.size;have t0:KX W6 T 0 (KW (j:Int)):=by rw[e6,<-hT];show _=_;go_simp
    have E1:KY wr W6:=gb e6;have R4:T<W6.heap.size:=by rw[e6,<-hT];simp
    have X5:E<T:=by omega
    rw[hT];clear e6 c0 c1 c2 c3 T2 U0 t' U3 T1;refine (GZ l x _ W6 (HL.out.stays aK (ab i' E1)) a'.out).mono ?_;rintro e w7 ⟨rfl,M'⟩;replace t0:=aa M' t0;have Z:=ab E1 M';have T5:T<w7.heap.size:=Ll R4 M'.size;replace rc:=aa Z rc;replace rf:w7.frozen? ⟨J,0,none⟩=false:=(Nw (a:=⟨J,0,none⟩) (Z.block J om)).trans rf;have E2:=hI.out.2.1.grow Z;have P3:Hid (∀(q:Nat) (u:Value) (m:List EV),vs[q]?=some u->es[q]?=some m->∀h,u.ownBlock=some h->h<T):=jD fun q u m h1 h2 h hh=>by have:=(ah (hI.out.2.1.row q u m h1 h2) hh).2;omega
    replace ec:=aa Z ec;obtain⟨low,C'⟩:=jE (mr l x);have H0:=jD C';have e':=jD (ab i' Z);have Z':=jD (And.intro ((Z.block E om).trans hI.out.2.2.2.1) ((Z.block J om).trans hI.out.2.2.2.2.1));have K3:=jD E2;have Z5:E+1<=w7.heap.size:=by omega
    obtain⟨ht,M1⟩:=jE (xU l x);have S1:=jD M1;rw[C',M1];clear E1 M' E2 C' M1 hT
    cases ht
    ·have S':Hid (rH l x=none):=jD (F8 HA.out fun e he=>by
      have h1:=S1.out;unfold xU at h1;rw[he]at h1;exact h1)
     have HE:Hid (R=([],6)):=jD (by
      rw[<-s'.out];exact jJ ((jt a'.out U'.out p'.out).trans (et h'.out hI.out.1 (Hb (by rw[HJ.out];omega) S'.out) dc).symm) dc)
     have O:=M0 w7 ⟨J,0,none⟩ (.slice none 0 0) (by rw[rc];rfl);have HQ:=jD O;clear O;go_wp2_with fail;have O:=HQ.out;rw[HE.out];exact Lc (v:=.tuple #[.agg #[.slice none 0 0],KW 6]) (by simp[results,results101,go_sem,O]) rfl ⟨_,rfl,Sl.nil _ _ _ _ _ (Lb _),aA e'.out om _⟩
    ·obtain⟨y,hy,S2⟩:∃y,l[low]?=some y/\kS (bK y) x=true:=by
      have h1:=S1.out;unfold xU at h1;rw[H0.out]at h1
      cases hy:l[low]? with
      | none=>rw[hy]at h1;cases h1
      | some y=>rw[hy]at h1;exact⟨y,rfl,h1⟩
     have S':Hid (rH l x=some y):=jD (FY HA.out (by rw[H0.out];exact hy) S2);have A6:low<l.length:=(List.getElem?_eq_some_iff.1 hy).1;have H5:(low:Int)<(l.length:Int):=by omega
     obtain⟨_,cc,V',-,-,z'⟩:=HL.out;injection V' with V' _ Y3;obtain⟨b2,o2,Q1,vy,V2,d0,d1,d2,d3,d4⟩:=z' low y hy;rw[<-V']at Q1;clear V' z' Y3;subst Q1;have R3:=jD V2;obtain⟨A2,cy,rfl,-⟩:=V2;replace d0:=aa e'.out d0;replace d1:=aa e'.out d1;replace d2:=aa e'.out d2;replace d3:=aa e'.out d3;replace d4:=aa e'.out d4;have X3:=N1.out y (Li hy);clear S2 hy;have V1:b2<w7.heap.size:=K8 w7 ⟨b2,_,none⟩ d0;have U0:b2≠w7.heap.size:=by omega
     have t':w7.heap.size≠b2:=by omega
     go_wp2_with fail;refine aw fun W8 e8=>?_
     obtain⟨X,hX⟩:=jE w7.heap.size;have O':W8.heap[X]?=some (.cells [Value.int .i64 y.src,.int .i64 y.sq,.int .i64 y.ty,.int .i64 y.tm,.slice A2 y.vals.length cy].toArray 68 (0,0)):=by rw[e8,<-hX];exact ap _ _ _ rfl
     have Y':KY w7 W8:=gb e8;rw[hX];clear e8 d0 d1 d2 d3 d4 U0 t' V1;refine (qa y.vals _ W8 (R3.out.stays aC (ab e'.out Y')) X3).mono ?_;rintro e w9 ⟨v9,rfl,f',X0⟩;obtain⟨A9,c9,P4⟩:=IM f'.1;subst P4;have B':=(X0.block X (aD O')).trans O';have H4:w9.cell? ⟨X,4,none⟩=some (.slice A2 y.vals.length cy):=by rw[af B'];rfl
     have zf:=aq B' 4;have N0:=ab Y' X0;have F:=fx B' 4 (.slice A9 y.vals.length c9);have z:KY w7 (w9.setCell ⟨X,4,none⟩ (.slice A9 y.vals.length c9)):=aA N0 om _;have N4:=aD B';have L':Hid (rC W8.heap.size (w9.setCell ⟨X,4,none⟩ (.slice A9 y.vals.length c9)) (.slice A9 y.vals.length c9) y.vals):=jD ⟨fg f'.1 fun _ g _ hg=>LB w9 ⟨X,4,none⟩ _ g (by have:=(f'.2 g hg).1;have:=aD O';simp only;omega),fun g hg=>by have:=f'.2 g hg;simpa using this⟩;have P0:=jD F;have H':=jD z;have Q5:w7.heap.size<=W8.heap.size:=Y'.size;clear f' F z O' Y' X0 B';go_wp2_with fail;refine aP fun I W2=>?_
     have F:=P0.out;have z:=H'.out;have d':=L'.out;rw[<-W2]at F z d';have O1:=jD d';have V4:X<I.heap.size:=aD F;clear W2 L' P0 H' d' H4 zf N0 N4;simp only[Lk,Lj]at F;have z0:I.cell? ⟨X,0,none⟩=some (KW y.src):=by rw[af F];rfl
     have z1:I.cell? ⟨X,1,none⟩=some (KW y.sq):=by rw[af F];rfl
     have z2:I.cell? ⟨X,2,none⟩=some (KW y.ty):=by rw[af F];rfl
     have z3:I.cell? ⟨X,3,none⟩=some (KW y.tm):=by rw[af F];rfl
     have z4:I.cell? ⟨X,4,none⟩=some (.slice A9 y.vals.length c9):=by rw[af F];rfl
     replace ec:=aa z ec;replace t0:=aa z t0;have k':=K3.out.grow z;have P':es.length=N:=by have:=congrArg List.length hI.out.2.2.1;rw[Lm,xS]at this;exact this
     obtain⟨m,hm⟩:∃m,es[j]?=some m:=⟨_,K9 om⟩;obtain⟨u,hu⟩:∃u,vs[j]?=some u:=⟨_,K9 (by rw[k'.len];omega)⟩;have D':=k'.row j u m hu hm;have J':=K3.out.row j u m hu hm;obtain⟨Av,cv,S4⟩:=ay D';subst S4;have gc:I.cell? ⟨G,j,none⟩=some (.slice Av m.length cv):=by rw[af k'.blk];exact hu
     have gf:=aq k'.blk j;have Y5:=Fi hI.out.2.2.1 hm;have g':=jD D';have O3:=jD k';have Q0:=jD (And.intro hu hm);have O2:Hid (∀h,(Value.slice Av m.length cv).ownBlock=some h->T≠h/\X≠h):=jD fun h hh=>by
      have h1:=ah J' hh;have h2:=k'.row j _ m hu hm;refine⟨fun e=>?_,by omega⟩;have h3:=P3.out j _ m hu hm h hh;omega
     obtain⟨j0,Y4,W4,X',A4⟩:=LD ju;have Z4:=aD k'.blk;have P5:T<I.heap.size:=by have:=z.size;omega
     have W5:E+1<=I.heap.size:=by have:=z.size;omega
     clear D' J' k' hu hm F;refine wp_region_noPanic ?_;refine di (fun W=>W.cell? ⟨E,0,none⟩=some (.slice (some ⟨G,0,none⟩) N N)/\W.cell? ⟨T,0,none⟩=some (KW (j:Int))/\W.cell? ⟨G,j,none⟩=some (.slice Av m.length cv)/\W.cell? ⟨X,0,none⟩=some (KW y.src)/\W.cell? ⟨X,1,none⟩=some (KW y.sq)/\W.cell? ⟨X,2,none⟩=some (KW y.ty)/\W.cell? ⟨X,3,none⟩=some (KW y.tm)/\W.cell? ⟨X,4,none⟩=some (.slice A9 y.vals.length c9)) 13 kr (⟨ec,t0,gc,z0,z1,z2,z3,z4⟩) (fun F'=>?_)
     focus (refine cg (i:=0) (v:=?_) rfl kr kr kr kr (fun _ _ _ h=>h) (Or.inl ⟨by rfl,?_⟩) (by assumption) ?_;rotate_left 1;focus (intro wS hSw;(try dsimp only at hSw);go_simp<;>with_reducible rfl);try simp only[Act.put,Lw,Lj,Lk])
     focus (refine cg (i:=1) (v:=?_) rfl kr kr kr kr (fun _ _ _ h=>h) (Or.inl ⟨by rfl,?_⟩) (by assumption) ?_;rotate_left 1;focus (intro wS hSw;(try dsimp only at hSw);go_simp<;>with_reducible rfl);try simp only[Act.put,Lw,Lj,Lk])
     focus (refine cg (i:=2) (v:=?_) rfl kr kr kr kr (fun _ _ _ h=>h) (Or.inl ⟨by rfl,?_⟩) (by assumption) ?_;rotate_left 1;focus (intro wS hSw;(try dsimp only at hSw);go_simp<;>with_reducible rfl);try simp only[Act.put,Lw,Lj,Lk])
     focus (refine cg (i:=3) (v:=?_) rfl kr kr kr kr (fun _ _ _ h=>h) (Or.inl ⟨by rfl,?_⟩) (by assumption) ?_;rotate_left 1;focus (intro wS hSw;(try dsimp only at hSw);go_simp<;>with_reducible rfl);try simp only[Act.put,Lw,Lj,Lk])
     focus (refine cg (i:=4) (v:=?_) rfl kr kr kr kr (fun _ _ _ h=>h) (Or.inl ⟨by rfl,?_⟩) (by assumption) ?_;rotate_left 1;focus (intro wS hSw;(try dsimp only at hSw);go_simp<;>with_reducible rfl);try simp only[Act.put,Lw,Lj,Lk])
     focus (refine cg (i:=5) (v:=?_) rfl kr kr kr kr (fun _ _ _ h=>h) (Or.inl ⟨by rfl,?_⟩) (by assumption) ?_;rotate_left 1;focus (intro wS hSw;(try dsimp only at hSw);go_simp<;>with_reducible rfl);try simp only[Act.put,Lw,Lj,Lk])
     focus (refine cg (i:=6) (v:=?_) rfl kr kr kr kr (fun _ _ _ h=>h) (Or.inl ⟨by rfl,?_⟩) (by assumption) ?_;rotate_left 1;focus (intro wS hSw;(try dsimp only at hSw);go_simp<;>with_reducible rfl);try simp only[Act.put,Lw,Lj,Lk])
     focus (refine cg (i:=7) (v:=?_) rfl kr kr kr kr (fun _ _ _ h=>h) (Or.inl ⟨by rfl,?_⟩) (by assumption) ?_;rotate_left 1;focus (intro wS hSw;(try dsimp only at hSw);go_simp<;>with_reducible rfl);try simp only[Act.put,Lw,Lj,Lk])
     focus (refine cg (i:=8) (v:=?_) rfl kr kr kr kr (fun _ _ _ h=>h) (Or.inl ⟨by rfl,?_⟩) (by assumption) ?_;rotate_left 1;focus (intro wS hSw;(try dsimp only at hSw);go_simp<;>with_reducible rfl);try simp only[Act.put,Lw,Lj,Lk])
     focus (refine cg (i:=9) (v:=?_) rfl kr kr kr kr (fun _ _ _ h=>h) (Or.inl ⟨by rfl,?_⟩) (by assumption) ?_;rotate_left 1;focus (intro wS hSw;(try dsimp only at hSw);go_simp<;>with_reducible rfl);try simp only[Act.put,Lw,Lj,Lk])
     focus (refine cg (i:=10) (v:=?_) rfl kr kr kr kr (fun _ _ _ h=>h) (Or.inl ⟨by rfl,?_⟩) (by assumption) ?_;rotate_left 1;focus (intro wS hSw;(try dsimp only at hSw);go_simp<;>with_reducible rfl);try simp only[Act.put,Lw,Lj,Lk])
     refine ft (rs:=[11]) kr jS kr ?_;refine AllReadyP.cons rfl (fun K hK=>?_) ?_
     go_simp
     refine hK.out _ _ (⟨aa (ag _ _) ec,aa (ag _ _) t0,aa (ag _ _) gc,aa (ag _ _) z0,aa (ag _ _) z1,aa (ag _ _) z2,aa (ag _ _) z3,aa (ag _ _) z4⟩) (fun F'=>?_);clear hK K
     try simp only[Act.put,Lw,Lj,Lk]
     refine ft (rs:=[12]) kr jS kr ?_;refine AllReadyP.cons rfl (fun K hK=>?_) ?_
     focus (refine GU _ jR (.tmp 76) (.tmp 78) 34 jR (E+1) 68 j0 _ 5 56 underlying34 Y4 W4 X' A4 rfl dc (.slice Av m.length cv) m.length (cn m) jR (aj g'.out jB) (some ⟨I.heap.size,0,none⟩) 1 1 [KW y.src,KW y.sq,KW y.ty,KW y.tm,.slice A9 y.vals.length c9] jR (Src.stays (Bc I [KW y.src,KW y.sq,KW y.ty,KW y.tm,.slice A9 y.vals.length c9] 68 1 5 rfl (by simp[Value.oneCell'])) jB) (by unfold maxLen;omega) om (by simp;omega) ?_;intro V5 b' c' j' l';obtain⟨N5,O6,Z1⟩:=ay c';subst Z1;have D:∀q,q<I.heap.size->(∀h,(Value.slice Av m.length cv).ownBlock=some h->q≠h)->b'.heap[q]?=I.heap[q]?:=(fun q hq Z3=>(j'.block q (by simp;omega) (fun e=>Z3 q e.symm rfl)).trans (Mq I _ q hq));have K1:∀h,(Value.slice Av m.length cv).ownBlock=some h->E≠h:=(fun h hh=>by have:=(ah g'.out hh).1;omega);have R':∀h,(Value.slice Av m.length cv).ownBlock=some h->G≠h:=(fun h hh=>by have:=(ah g'.out hh).1;omega);have U2:∀h,(Value.slice Av m.length cv).ownBlock=some h->T≠h:=(fun h hh=>(O2.out h hh).1);have r':∀h,(Value.slice Av m.length cv).ownBlock=some h->X≠h:=(fun h hh=>(O2.out h hh).2);have K5:b'.frozen? ⟨G,j,none⟩=false:=(Nw (a:=⟨G,j,none⟩) (D G om R')).trans gf;have A5:b'.cell? ⟨G,j,none⟩=some (.slice Av m.length cv):=(Ln (a:=⟨G,j,none⟩) (D G om R')).trans gc)
     refine hK.out _ _ (⟨(Ln (a:=⟨E,0,none⟩) (D E om K1)).trans ec,(Ln (a:=⟨T,0,none⟩) (D T om U2)).trans t0,(Ln (a:=⟨G,j,none⟩) (D G om R')).trans gc,(Ln (a:=⟨X,0,none⟩) (D X om r')).trans z0,(Ln (a:=⟨X,1,none⟩) (D X om r')).trans z1,(Ln (a:=⟨X,2,none⟩) (D X om r')).trans z2,(Ln (a:=⟨X,3,none⟩) (D X om r')).trans z3,(Ln (a:=⟨X,4,none⟩) (D X om r')).trans z4⟩) (fun F'=>?_);clear hK K
     try simp only[Act.put,Lw,Lj,Lk]
     focus (refine ri (v:=?_) rfl kr kr (Or.inl ⟨by rfl,?_⟩) ?_ kr;rotate_left 1;focus (intro wS _;go_simp<;>with_reducible rfl);try simp only[Act.put,Lw,Lj,Lk])
     refine qA (i:=14) rfl kr kr (fun K hK=>?_)
     go_simp
     refine hK.out _ _ (NoPanic.normal ?_);clear hK K;rotate_left 1;exact AllReadyP.nil;exact AllReadyP.nil;have U1:KY w b':=Below.trans (ab (ab e'.out z) (by exact jB)) (am (B:=w.heap.size) j' (by have:=e'.out.size;have:=z.size;simp only[L4,MO];omega) (fun h hh=>by have:=(ah g'.out hh).1;omega));have B2:=VarsW.app (x:=y) (u:=.slice A9 y.vals.length c9) (O3.out.grow (by exact jB)) Q0.out.1 Q0.out.2 (by simp;omega) c' j' l' (O1.out.1.stays aC (by exact jB)) (fun _ h hh=>⟨.inr (by have:=(O1.out.2 h hh).1;omega),fun v hv e=>by
      obtain⟨q,hq⟩:=List.mem_iff_getElem?.1 hv;have T4:q<es.length:=by rw[<-O3.out.len];exact mD hq
      have h1:=P3.out q v es[q] hq (K9 T4) h e;have h2:=(O1.out.2 h hh).1;omega⟩)
     have G':Hid (b'.heap[E]?=some (.cells [Value.slice (some ⟨G,0,none⟩) N N].toArray 62 (0,0))/\b'.heap[J]?=some (.cells [Value.slice none 0 0].toArray 62 (0,0))):=jD ⟨(D E om K1).trans ((z.block E om).trans Z'.out.1),(D J om (fun h hh=>by have:=(ah g'.out hh).1;omega)).trans ((z.block J om).trans Z'.out.2)⟩;have H3:E+1<=b'.heap.size:=by have:=j'.size;simp at this;omega
     have T3:=jD U1;have K4:=jD B2;clear U1 B2 c' j' l' D K1 R' U2 r';go_wp2_with fail
     go_roundw
     case rel =>
      exact⟨k+1,_,_,by omega,by go_num,jD ⟨lY h'.out hI.out.1 (IW (by rw[HJ.out];omega) S'.out),K4.out,Ca hI.out.2.2.1 h'.out HJ.out S'.out Q0.out.2,(LB b' ⟨G,j,none⟩ _ E (by simp only;omega)).trans G'.out.1,(LB b' ⟨G,j,none⟩ _ J (by simp only;omega)).trans G'.out.2,aA T3.out om _,jQ H3⟩⟩
     case measure=>simp[intOf];omega
  ·have W3:¬(k:Int)<(bs.length:Int):=by omega
   have Q2:k=bs.length:=by omega
   have m':=hI.out;rw[Q2,LX]at m';have P':es.length=N:=by have:=congrArg List.length m'.2.2.1;rw[Lm,xS]at this;exact this
   have HE:Hid (R=(es.map (fun l=>l.map (·.1)),0)):=jD (by
    rw[<-s'.out,Ji ((jt a'.out U'.out p'.out).trans (mS (Ld _) m'.1).symm),m'.2.2.1];rfl)
   have A1:=(m'.2.1.set (R:=J) ⟨by omega,by omega⟩ om 0 (.slice (some ⟨G,0,none⟩) N N)).is (by rw[P'];unfold maxLen;omega);rw[P']at A1;have O:=M0 wr ⟨J,0,none⟩ (.slice (some ⟨G,0,none⟩) N N) (by rw[rc];rfl);have Q4:=jD A1;have HQ:=jD O;clear hI m' Q2 P' A1 O;go_wp2_with fail;have O:=HQ.out;rw[HE.out];exact Lc (v:=.tuple #[.agg #[.slice (some ⟨G,0,none⟩) N N],KW 0]) (by simp[results,results101,go_sem,O]) rfl ⟨_,rfl,Q4.out,aA i' om _⟩
end Go.Proofs.YtokconodddedhaaGreatDoor
