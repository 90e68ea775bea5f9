/- Part. -/
import Derived.Test.YtokconodddedhaaGreatDoorQ15
import Derived.Test.YtokconodddedhaaGreatDoorQ14
set_option maxRecDepth 100000
set_option maxHeartbeats 16000000
set_option linter.unusedVariables false
set_option linter.unusedSimpArgs false
namespace Go.Proofs.YtokconodddedhaaGreatDoor
open Go.Proofs.Tryz Go.RowKit
theorem jX (l:List Evt) (s:Bs) (i v:Nat):(eo l s i)[v]?=if v<16 then some ((s.filter fun x=>decide (x.2<i/\x.1=(v:Int))).filterMap fun x=>l[x.2]?) else none:=by
 unfold eo;rw[LI]
 by_cases h:v<16
 ·rw[List.getElem?_range h,K7 h];rfl
 ·rw[NM (jQ h),K6 h];rfl
theorem qX (l:List Evt) (s:Bs) (i:Nat):(eo l s i).length=16:=by unfold eo;simp
theorem FZ (l:List Evt) (i:Nat):eo l [] i=List.replicate 16 []:=by unfold eo;rfl
theorem Gu {l:List Evt} {t:Bs} {x:Int × Nat} {i:Nat} (h:¬x.2<i):eo l (t++[x]) i=eo l t i:=by
 unfold eo;refine List.map_congr_left fun v _=>?_
 rw[MN];simp[h]
theorem IV {l:List Evt} {t:Bs} {x:Int × Nat} {i j:Nat} {y:Evt} {m:List Evt} (h:x.2<i) (F:x.1=(j:Int)) (z:j<16) (hy:l[x.2]?=some y) (hm:(eo l t i)[j]?=some m):eo l (t++[x]) i=(eo l t i).set j (m++[y]):=by
 apply List.ext_getElem?;intro v;rw[List.getElem?_set,qX];rw[jX,K7 z]at hm;injection hm with hm
 by_cases e:j=v
 ·subst e;rw[K7 rfl,K7 z,jX,K7 z,MN,List.filterMap_append,hm];simp[h,F,hy]
 ·rw[K6 e,jX,jX]
  by_cases D:v<16
  ·rw[K7 D,K7 D,MN,List.filterMap_append];have:¬x.1=(v:Int):=by omega
   simp[this]
  ·rw[K6 D,K6 D]
theorem vI {l:List Evt} {t:Bs} {i j:Nat} {m:List Evt} (h:(eo l t i)[j]?=some m):m.length<=t.length:=by
 rw[jX]at h
 split at h
 ·injection h with h;subst h;exact Lf (List.length_filterMap_le ..) (MH ..)
 ·cases h
theorem eY {w W:World} {row:Option Nat} {b o:Nat} {v:Value} (D:w.grownBy W row) (z:row≠some b) (h:w.cell? ⟨b,o,none⟩=some v):W.cell? ⟨b,o,none⟩=some v :=
 (Ln (a:=⟨b,o,none⟩) (D.block b (K8 w ⟨b,o,none⟩ h) (fun e=>z e.symm))).trans h
def IF (w:World) (es:List (List Evt)) (e:Ending) (W:World):Prop:=∃v,e=.returned (.agg #[v])/\gH W v es/\KY w W
theorem D9 (l:List Evt) (s:Bs) (i:Nat) (C:Nat) (vl u:Value) (w:World) (S':w.cell? ⟨C,0,none⟩=some vl) (hl:bm w vl l) (hs:jw w u s) (R':∀x∈s,(0<=x.1/\x.1<16)/\x.2<l.length) (Z1:s.length<=1048576) :
  Calls prog 346 #[.pointer (some ⟨C,0,none⟩),u,KW (i:Int)] w (IF w (eo l s i)):=by
 obtain⟨Al,cl,rfl,l1,l2,s'⟩:=hl;have V1:=ax l1 l2;have L':∀(q:Nat) (y:Evt),l[q]?=some y->∃be J ve,Al=some ⟨be,J,none⟩/\be<w.heap.size/\aV w ve y.vals/\w.cell? ⟨be,J+q*5,none⟩=some (KW y.src)/\w.cell? ⟨be,J+q*5+1,none⟩=some (KW y.sq)/\w.cell? ⟨be,J+q*5+2,none⟩=some (KW y.ty)/\w.cell? ⟨be,J+q*5+3,none⟩=some (KW y.tm)/\w.cell? ⟨be,J+q*5+4,none⟩=some ve:=fun q y hy=>by
  obtain⟨be,J,rfl,ve,h',d0,d1,d2,d3,d4⟩:=s' q y hy;exact⟨be,J,ve,rfl,K8 w ⟨be,_,none⟩ d0,h',d0,d1,d2,d3,d4⟩
 clear l1 l2 s';obtain⟨As,cs,rfl,s1,s2,t'⟩:=hs;have U1:=ax s1 s2;have HS:=jD t';have X0:=jD R';have E1:=jD L';clear s1 s2 t' R' L';obtain⟨i1,z',N',O0,-⟩:=LD gw;have U':i1.bytes=24:=by have:=gw;rw[z']at this;simp at this;exact this.2.2
 obtain⟨i0,hi,S1,N0,O'⟩:=LD ju;go_enter func346,ntmps346;go_wp2_with (at_make;refine wpList_make_full _ rfl (.const (KW 16)) (.const (KW 16)) 60 rfl (w.heap.size+1) 34 i1 (.slice none 0 0) 1 underlying60 z' N' O0 .i64 .i64 (16:Int) (16:Int) 16 rfl rfl rfl rfl (by rw[U'];omega) (by unfold maxLen;omega) jS ?_;intro w5 c' M');have f':Below (w.alloc (.cells #[Value.slice none 0 0] 62)).heap.size (w.alloc (.cells #[Value.slice none 0 0] 62)) w5:=am M' (Ld _) (fun _ h=>by cases h);simp only[L4]at c';obtain⟨E,hE⟩:=jE w5.heap.size;obtain⟨G,hG⟩:=jE (w.heap.size+1);obtain⟨Rb,j'⟩:=jE w.heap.size;have C':=yg c';refine aP fun w0 e0=>?_
 have k':KY w5 w0:=gb e0;have Z':w0.heap[E]?=some (.cells [Value.slice (some ⟨G,0,none⟩) 16 16].toArray 62 (0,0)):=by rw[e0,<-hE,<-hG];exact ap _ _ _ rfl
 have Y0:E+1<=w0.heap.size:=by rw[e0,<-hE];simp
 have Y1:G<E:=by rw[<-hG,<-hE];exact aD C'
 have J':w5.heap[Rb]?=some (.cells [Value.slice none 0 0].toArray 62 (0,0)):=(f'.block Rb (by rw[<-j'];simp)).trans (by rw[<-j'];exact Mp w _);have I':VarsW w.heap.size (E+1) G w0 (List.replicate 16 (.slice none 0 0)) (List.replicate 16 []):=qI ((k'.block G om).trans (hG▸C')) ⟨by omega,by omega⟩;have V':w0.heap[Rb]?=some (.cells [Value.slice none 0 0].toArray 62 (0,0)):=(k'.block Rb om).trans J';have p':KY w w0:=ab (ab (ag w _) f') k';have R0:=jD I';have K0:=jD (And.intro Z' V');have H0:=jD p';obtain⟨A,hA⟩:=jF w.heap.size;have O:=jD hA;have X1:A<=Rb/\Rb<G:=by omega
 rw[hG,hE,j'];rw[<-hA]at R0;clear e0 k' Z' I' V' p' C' c' M' f' J' z' N' O0 U' hA j' hG hE
 go_loopw [14] (fun t wr=>∃(k:Nat) (vs:List Value) (es:List (List EV)),k<=s.length/\t=KW k/\Hid (VarsW A (E+1) G wr vs es/\es.map (fun l=>l.map (·.1))=eo l (s.take k) i/\wr.heap[E]?=some (.cells [Value.slice (some ⟨G,0,none⟩) 16 16].toArray 62 (0,0))/\wr.heap[Rb]?=some (.cells [Value.slice none 0 0].toArray 62 (0,0))/\KY w wr/\E+1<=wr.heap.size)) (fun t _=>s.length-(intOf t).toNat)
 case atStart=>exact⟨0,_,_,Lb _,rfl,jD ⟨R0.out,by simp[FZ],K0.out.1,K0.out.2,H0.out,Y0⟩⟩
 case round =>
  obtain⟨k,vs,es,hk,rfl,I⟩:=hrel;have F:=I.out.2.2.2.2.1;have B2:=I.out.2.2.2.2.2;have rc:wr.cell? ⟨Rb,0,none⟩=some (.slice none 0 0):=by rw[af I.out.2.2.2.1];rfl
  have rf:=aq I.out.2.2.2.1 0;have ec:wr.cell? ⟨E,0,none⟩=some (.slice (some ⟨G,0,none⟩) 16 16):=by rw[af I.out.2.2.1];rfl
  by_cases x':k<s.length
  ·have A1:(k:Int)<(s.length:Int):=by omega
   obtain⟨x,hx⟩:∃x,s[k]?=some x:=⟨_,K9 x'⟩;obtain⟨b,o,rfl,c0,c1⟩:=HS.out k x hx;replace c0:=aa F c0;replace c1:=aa F c1;have u':=X0.out x (Li hx);obtain⟨j,hj⟩:∃j:Nat,x.1=(j:Int):=⟨x.1.toNat,by omega⟩;rw[hj]at c0;have T':j<16:=by omega
   have HX:=jD (And.intro hx hj);have hq:=u'.2;have Q2:b<wr.heap.size:=K8 wr ⟨b,_,none⟩ c0;have U2:b<A:=by have h:=HS.out k x hx;obtain⟨b',o',D',h0,-⟩:=h;injection D' with D';injection D' with e1 e2;subst e1;rw[O.out];exact K8 w ⟨b,_,none⟩ h0
   clear hx u' hj
   by_cases m':x.2<i
   ·have r':(x.2:Int)<(i:Int):=by omega
    have G':=jD m';obtain⟨y,hy⟩:∃y,l[x.2]?=some y:=⟨_,K9 hq⟩;obtain⟨be,J,ve,O1,T1,h',d0,d1,d2,d3,d4⟩:=E1.out x.2 y hy;subst O1;replace d0:=aa F d0;replace d1:=aa F d1;replace d2:=aa F d2;replace d3:=aa F d3;replace d4:=aa F d4;rw[<-O.out]at T1;obtain⟨Av,cv,rfl,-⟩:=id h';have Y':=jD h';have HY:=jD hy;have i':es.length=16:=by have:=congrArg List.length I.out.2.1;rw[Lm,qX]at this;exact this
    obtain⟨m,hm⟩:∃m,es[j]?=some m:=⟨_,K9 om⟩;obtain⟨u,hu⟩:∃u,vs[j]?=some u:=⟨_,K9 (by rw[I.out.1.len];omega)⟩;have y':(eo l (s.take k) i)[j]?=some (m.map (·.1)):=by rw[<-I.out.2.1,LI,hm];rfl
    have N2:m.length<=1048576:=by have:=vI y';rw[Lm,Ml]at this;omega
    have S0:=jD y';have d':=jD (And.intro hm hu);have gc:wr.cell? ⟨G,j,none⟩=some u:=by rw[af I.out.1.blk];exact hu
    have K2:(j:Int)<16:=by omega
    have K1:(x.2:Int)<(l.length:Int):=by omega
    obtain⟨q,B'⟩:=jF x.2;obtain⟨nv,A'⟩:∃n,n=y.vals.length:=⟨_,rfl⟩;have Q0:=jD A';have HQ:=jD B';rw[<-B']at c1 d0 d1 d2 d3 d4 r' K1;rw[<-A']at d4;clear hy h' y' hm hu i' m' hq B' A';have Q1:b≠wr.heap.size:=by omega
    have P0:wr.heap.size≠b:=by omega
    go_wp2_with fail;refine aP fun Z e3=>?_
    obtain⟨X,hX⟩:=jE wr.heap.size;have D:KY wr Z:=gb e3;have x0:KX Z X 0 (KW (j:Int)):=by rw[e3,<-hX];show _=_;go_simp
    have x1:KX Z X 1 (KW (q:Int)):=by rw[e3,<-hX];show _=_;go_simp
    have U0:=aa (ab F D) S';have W1:C<A:=by rw[O.out];exact K8 w ⟨C,_,none⟩ S'
    replace ec:=aa D ec;replace gc:=aa D gc;replace d0:=aa D d0;replace d1:=aa D d1;replace d2:=aa D d2;replace d3:=aa D d3;replace d4:=aa D d4;have O2:X<Z.heap.size:=K8 Z ⟨X,_,none⟩ x0;have H2:E<X:=by omega
    have T2:X<=Z.heap.size:=by rw[<-hX];exact D.size
    have E':=jD (I.out.1.grow D);have g':=E'.out.row j u m d'.out.2 d'.out.1;have z:Hid (∀g,g<E+1\/X<=g->u.ownBlock≠some g):=jD fun g hg e=>by have:=ah (I.out.1.row j u m d'.out.2 d'.out.1) e;omega
    have gf:Z.frozen? ⟨G,j,none⟩=false:=aq E'.out.blk j;have q':=jD g';obtain⟨Au,cu,rfl⟩:=ay g';have E2:G<Z.heap.size:=by omega
    have T0:E<Z.heap.size:=by omega
    have H':∀W,Z.grownBy W (Value.slice Au m.length cu).ownBlock->(fun W:World=>Z.grownBy W (Value.slice Au m.length cu).ownBlock/\KX W E 0 (.slice (some ⟨G,0,none⟩) 16 16)/\KX W G j (.slice Au m.length cu)/\KX W be (J+q*5) (KW y.src)/\KX W be (J+q*5+1) (KW y.sq)/\KX W be (J+q*5+2) (KW y.ty)/\KX W be (J+q*5+3) (KW y.tm)/\KX W be (J+q*5+4) (.slice Av nv cv)/\KX W X 0 (KW (j:Int))/\KX W X 1 (KW (q:Int))/\KX W C 0 (.slice (some ⟨be,J,none⟩) l.length cl)) W:=fun W hg=>⟨hg,eY hg (z.out _ om) ec,eY hg (z.out _ om) gc,eY hg (z.out _ om) d0,eY hg (z.out _ om) d1,eY hg (z.out _ om) d2,eY hg (z.out _ om) d3,eY hg (z.out _ om) d4,eY hg (z.out _ om) x0,eY hg (z.out _ om) x1,eY hg (z.out _ om) U0⟩
    clear e3 g'
    (try rw[hX])
    refine wp_region_noPanic ?_;refine di ((fun W:World=>Z.grownBy W (Value.slice Au m.length cu).ownBlock/\W.cell? ⟨E,0,none⟩=some (.slice (some ⟨G,0,none⟩) 16 16)/\W.cell? ⟨G,j,none⟩=some (.slice Au m.length cu)/\W.cell? ⟨be,J+q*5,none⟩=some (KW y.src)/\W.cell? ⟨be,J+q*5+1,none⟩=some (KW y.sq)/\W.cell? ⟨be,J+q*5+2,none⟩=some (KW y.ty)/\W.cell? ⟨be,J+q*5+3,none⟩=some (KW y.tm)/\W.cell? ⟨be,J+q*5+4,none⟩=some (.slice Av nv cv)/\W.cell? ⟨X,0,none⟩=some (KW (j:Int))/\W.cell? ⟨X,1,none⟩=some (KW (q:Int))/\W.cell? ⟨C,0,none⟩=some (.slice (some ⟨be,J,none⟩) l.length cl))) 20 kr (H' _ (bx (La _ _).drew _)) (fun a'=>?_);refine tkP [0,1,2,3,4,5,6,7,8,9,10,11,12,13,14,15,16,17] ?_;refine nxP 18 (fun K hK=>?_)
    go_simp
    refine hK.out _ _ (H' _ (bx jB _)) (fun a'=>?_);clear hK K;refine nxP 19 (fun K hK=>?_)
    focus ((try (change Oper.wp _ _ _ _ _ _));refine ed _ (.tmp 31) (.tmp 40) 34 rfl (E+1) 68 i0 _ 5 56 underlying34 hi S1 N0 O' rfl dc (.slice Au m.length cu) m.length (cn m) jR (aj q'.out jB) (some ⟨Z.heap.size,0,none⟩) 1 1 [KW y.src,KW y.sq,KW y.ty,KW y.tm,.slice Av nv cv] jR (bE _ [KW y.src,KW y.sq,KW y.ty,KW y.tm,.slice Av nv cv] _ 1 5 _ jS rfl (by intro u hu;simp only[Lv,LM,LN]at hu;rcases hu with rfl|rfl|rfl|rfl|rfl<;>rfl)) (by unfold maxLen;omega) om (by simp;omega) ?_;intro v7 w7 e' l' F';obtain⟨A7,c7,Z0⟩:=ay e';subst Z0;have P2:w7.cell? ⟨G,j,none⟩=some (.slice Au m.length cu):=eY (gI (bx (show KY Z _ by exact jB) _) l') (z.out _ om) gc;have R2:w7.frozen? ⟨G,j,none⟩=false:=(Nw (a:=⟨G,j,none⟩) ((gI (bx (show KY Z _ by exact jB) _) l').block G om (fun e=>z.out G om e.symm))).trans gf)
    refine hK.out _ _ (H' _ (gI (bx (show KY Z _ by exact jB) _) l')) (fun a'=>?_);clear hK K
    focus (refine oJ (fuel:=1) (L:=(true::true::true::true::true::true::true::true::true::true::true::true::true::true::true::true::true::true::true::true::true::false::[]).toArray) (v:=?_) rfl rfl kr kr kr kr kr ?_ ?_;rotate_left 1;(focus (intro wS;go_simp<;>with_reducible rfl));simp only[Lj,Lk])
    refine ol (i:=21) (fuel:=0) (L:=(true::true::true::true::true::true::true::true::true::true::true::true::true::true::true::true::true::true::true::true::true::true::[]).toArray) rfl kr kr kr kr (fun K hK=>?_)
    go_simp
    refine hK.out _ _ (NoPanic.normal ?_);clear hK K;rotate_left 1;have n':=a'.1;go_wp2_with fail
    go_roundw
    case rel =>
     have P':Below w.heap.size Z w7:=(am n' (by have:=O.out;omega) (fun g e=>by have:=(ah q'.out e).1;have:=O.out;omega));have V0:KY w w7:=(ab F D).trans P';have M1:KY w Z:=ab F D;have R1:=(n'.block E T0 (fun e=>z.out E om e.symm)).trans ((D.block E om).trans I.out.2.2.1);have P1:=(n'.block Rb om (fun e=>z.out Rb om e.symm)).trans ((D.block Rb om).trans I.out.2.2.2.1);have S2:=n'.size;refine⟨k+1,_,_,by omega,by go_num,jD ⟨(E'.out.grow jB).app (x:=y) (u:=.slice Av nv cv) d'.out.2 d'.out.1 (by simp;omega) e' l' F' ?_ ?_,?_,?_,?_,aA V0 (by have:=O.out;omega) _,by simp;omega⟩⟩
     ·rw[Q0.out];exact Y'.out.stays aC (ab M1 (by exact jB))
     ·intro A0 h hh;have x':=GF (Y'.out) A0 (by rw[<-Q0.out];exact hh);refine⟨.inl (by rw[O.out];exact x'),fun v hv e=>?_⟩;obtain⟨t,ht,rfl⟩:=MK hv;have N1:t<es.length:=by rw[<-I.out.1.len];exact ht
      have:=(ah (I.out.1.row t vs[t] es[t] (K9 ht) (K9 N1)) e).1;have:=O.out;omega
     ·rw[bZ HX.out.1,IV G'.out HX.out.2 T' HY.out S0.out,<-I.out.2.1,List.map_set,LH];rfl
     ·exact (LB _ _ _ E (by simp;omega)).trans R1
     ·exact (LB _ _ _ Rb (by simp;omega)).trans P1
    case measure=>simp[intOf];omega
   ·have r':¬(x.2:Int)<(i:Int):=by omega
    have G':=jD m';clear m';have Q1:b≠wr.heap.size:=by omega
    have P0:wr.heap.size≠b:=by omega
    go_wp2_with fail
    go_roundw
    case rel =>
     refine⟨k+1,vs,es,by omega,by go_num,jD ⟨I.out.1.grow jB,?_,(show _ from (Mq wr _ E om).trans I.out.2.2.1),(Mq wr _ Rb om).trans I.out.2.2.2.1,aJ F _,by simp;omega⟩⟩;rw[bZ HX.out.1,Gu G'.out];exact I.out.2.1
    case measure=>simp[intOf];omega
  ·have A1:¬(k:Int)<(s.length:Int):=by omega
   have he:es.map (fun l=>l.map (·.1))=eo l s i:=by have h:=I.out.2.1;rwa [Mn om]at h
   have i':es.length=16:=by have:=congrArg List.length he;rw[Lm,qX]at this;exact this
   have HE:=jD he;have X':=jD i';clear he i';go_wp2_with fail;have A2:Rb<wr.heap.size:=aD I.out.2.2.2.1;have rr:=M0 wr ⟨Rb,0,none⟩ (.slice (some ⟨G,0,none⟩) 16 16) (by rw[rc];rfl);refine Lc (v:=.agg #[.slice (some ⟨G,0,none⟩) 16 16]) (by simp[results,results346,go_sem,rr]) rfl ⟨_,rfl,?_,aA F (by have:=O.out;omega) _⟩;have h:=(I.out.1.set (R:=Rb) ⟨by omega,by omega⟩ om 0 (.slice (some ⟨G,0,none⟩) 16 16)).is (by rw[X'.out];unfold maxLen;omega);rw[X'.out,HE.out]at h;exact h
theorem IC {α:Type} {R:World->Nat->Nat->α->Prop} {sz:Nat} {w:World} {A:Option Addr} {n c:Nat} {x:α} {l:List α} (h:Sl R sz w (.slice A n c) (x::l)):Sl R sz w (.slice (if c=1 then A else A.map (·.add (1*sz))) (n-1) (c-1)) l:=by
 obtain⟨O,Z,e,z,h2,F⟩:=h;injection e with D J G;subst D J G;refine⟨_,_,rfl,by simp at z ⊢;omega,by omega,fun k y hk=>?_⟩;have I:=(List.getElem?_eq_some_iff.1 hk).1;obtain⟨b,o,rfl,hy⟩:=F (k+1) y (jQ hk);rw[K6 (by simp at z;omega)];refine⟨b,o+sz,by simp[fZ],?_⟩;have:o+(k+1)*sz=o+sz+k*sz:=by rw[Nat.add_mul];omega
 rwa [this]at hy
section
theorem SetIn.keepQ {Q Q':Nat->Prop} {w W:World} {v:Value} {s:Bs} (h:SetIn Q w v s) (hk:∀b,Q b->b<w.heap.size->W.heap[b]?=w.heap[b]?/\Q' b):SetIn Q' W v s:=by
 obtain⟨b,o,c,rfl,G,J,F,I,z⟩:=h;have O:b<w.heap.size:=by
  cases s with
  | nil=>exact absurd rfl F
  | cons x r=>exact K8 w ⟨b,_,none⟩ (z 0 x rfl).1
 obtain⟨e,hq⟩:=hk b I O;exact⟨b,o,c,rfl,G,J,F,hq,fun k x D=>⟨(Ln (a:=⟨b,_,none⟩) e).trans (z k x D).1,(Ln (a:=⟨b,_,none⟩) e).trans (z k x D).2⟩⟩
def StAt (w:World) (b p:Nat) (s:Bs):Prop:=∃u,SetIn (fun _=>True) w u s/\w.cell? ⟨b,p,none⟩=some u
abbrev IsSts (w:World) (v:Value) (L:List Bs):Prop:=Sl StAt 1 w v L
def RowV (base:Nat) (w:World) (v:Value) (L:List Bs) (vs:List Value):Prop :=
 w.ownsRow base 161 1 v L.length vs/\∀(k:Nat) (s:Bs),L[k]?=some s->∃u,vs[k]?=some u/\SetIn (fun b=>v.ownBlock≠some b/\base<=b) w u s
def RowB (base:Nat) (w:World) (v:Value) (L:List Bs):Prop:=∃vs:List Value,RowV base w v L vs
section
variable {base : Nat} {w w' : World} {v : Value} {L : List Bs}
theorem RowB.nil (base:Nat) (w:World):RowB base w (.slice none 0 0) []:=⟨[],⟨rfl,.inl ⟨rfl,rfl⟩⟩,fun k s h=>by simp at h⟩
theorem RowB.below (h:RowB base w v L) (z:KY w w'):RowB base w' v L:=by
 obtain⟨vs,D,F⟩:=h;exact⟨vs,aj D z,fun k s hk=>by obtain⟨u,hu,hs⟩:=F k s hk;exact⟨u,hu,hs.stays z⟩⟩
theorem RowB.more {z:Nat} (h:RowB base w v L) (G:z<=base):RowB z w v L:=by
 obtain⟨vs,D,F⟩:=h;exact⟨vs,mE D G,fun k s hk=>by obtain⟨u,hu,hs⟩:=F k s hk;exact⟨u,hu,hs.mono fun b h=>⟨h.1,by omega⟩⟩⟩
theorem RowB.form (h:RowB base w v L):∃A c,v=.slice A L.length c:=by
 obtain⟨vs,z,_⟩:=h;exact ay z
theorem RowB.n63 (h:RowB base w v L):(L.length:Int)<=9223372036854775807:=by
 obtain⟨vs,z,_⟩:=h;rcases z.2 with ⟨_,h0⟩|⟨g,cap,cur,hv,hg,hh,hnc,hcm,_⟩
 ·omega
 ·exact ax hnc hcm
theorem RowB.lt (h:RowB base w v L) {g:Nat} (z:v.ownBlock=some g):base<=g/\g<w.heap.size:=by
 obtain⟨vs,D,_⟩:=h;exact ah D z
theorem RowB.is (h:RowB base w v L):IsSts w v L:=by
 by_cases hp:L.length=0
 ·obtain⟨A,c,rfl⟩:=h.form;obtain⟨vs,F,_⟩:=h;have hL:L=[]:=L3 hp;subst hL;rcases F.2 with ⟨I,_⟩|⟨g,cap,cur,I,Z,O,D,z,_⟩
  ·injection I with J e2 G;subst J G;exact Sl.nil _ _ _ _ _ (Lb _)
  ·injection I with J e2 G;subst G;exact Sl.nil _ _ _ _ _ z
 ·obtain⟨vs,F,h2⟩:=h;obtain⟨g,cap,spare,rfl,Z,O,D,z⟩:=lH F om;refine⟨_,cap,rfl,D,z,fun k s hk=>⟨g,0,rfl,?_⟩⟩;obtain⟨u,hu,hs⟩:=h2 k s hk;refine⟨u,hs.mono (fun _ _=>trivial),?_⟩;rw[Lu,LL,af O,LR (List.getElem?_eq_some_iff.1 hu).1];exact hu
theorem RowV.app {vs:List Value} (h:RowV base w v L vs) {v' u:Value} {s:Bs} (D:w'.ownsRow base 161 1 v' (L.length+1) (vs++[u])) (hg:w.grownBy w' v.ownBlock) (F:v'.ownBlock=v.ownBlock\/v'.ownBlock=some w.heap.size)
  (hs:SetIn (fun b=>v.ownBlock≠some b/\base<=b) w u s):RowB base w' v' (L++[s]):=by
 obtain⟨h1,h2⟩:=h;have z:∀b,(v.ownBlock≠some b/\base<=b)->b<w.heap.size->w'.heap[b]?=w.heap[b]?/\v'.ownBlock≠some b/\base<=b:=fun b Z hl=>by
  refine⟨hg.block b hl (fun e=>Z.1 e.symm),fun e=>?_,Z.2⟩;rcases F with O|O
  ·rw[O]at e;exact Z.1 e
  ·rw[O]at e;injection e with e;omega
 refine⟨vs++[u],by rw[Le];exact D,fun k t hk=>?_⟩;have hlen:vs.length=L.length:=by have:=h1.1;simpa using this
 rcases LY k L.length with J|hge
 ·rw[LR J]at hk;obtain⟨x,hx,G⟩:=h2 k t hk;exact⟨x,by rw[LR om];exact hx,G.keepQ z⟩
 ·rw[Mf hge]at hk;have I:k=L.length:=by
   have:=(List.getElem?_eq_some_iff.1 hk).1;simp at this;omega
  subst I;simp at hk;subst hk;exact⟨u,by rw[<-hlen];simp,hs.keepQ z⟩
theorem RowV.below {vs:List Value} (h:RowV base w v L vs) (z:KY w w'):RowV base w' v L vs :=
 ⟨aj h.1 z,fun k s hk=>by obtain⟨u,hu,hs⟩:=h.2 k s hk;exact⟨u,hu,hs.stays z⟩⟩
end
end
end Go.Proofs.YtokconodddedhaaGreatDoor
