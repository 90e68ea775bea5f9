/- Part. -/
import Derived.Test.YtbjicljfjkdeeaaGreatDoorQ27
import Derived.Test.YtbjicljfjkdeeaaGreatDoorQ28
set_option maxRecDepth 100000
set_option maxHeartbeats 16000000
set_option linter.unusedVariables false
set_option linter.unusedSimpArgs false
namespace Go.Proofs.YtbjicljfjkdeeaaGreatDoor
open Go.Proofs.Tryz Go.RowKit
theorem eR (l:List Evt):∀h,fx l h=h.map (bj l)
 | []=>by rw[fx];rfl
 | a::r=>by rw[fx,MF,eR l r]
theorem pq (l:List Evt) (x:Pt):bj l x=if x.op=0 then fun b i=>aP (eL l x.ty x.vr x.cond b i) else if x.op=1 then lU (fx l x.args) else if x.op=2 then pA (fx l x.args) else if x.op=3 then G6 (fx l x.args)
  else if x.op=4 then fP (hdF (fx l x.args)) (l.length+1) else fun b i=>aP ((hdF (fx l x.args) b i).filter (ik l x.op x.ty x.vr x.sp x.cond b)):=by
 cases x;rw[bj];rfl
def gi (x:Pt) (h:List Pt):Pt:=.mk x.op h x.ty x.vr x.sc x.sp x.cond
theorem rg (x:Pt) (h:List Pt):(gi x h).op=x.op:=rfl
theorem eI (x:Pt) (h:List Pt):(gi x h).args=h:=rfl
def jj (S:List Bs) (rest:Bs->Nat->List Bs) (b:Bs):List Bs:=S.flatMap fun s=>(rest (aA b s) (bW s+1)).map (aA s)
def fO (l:List Evt) (x:Pt) (b:Bs) (i:Nat):List Bs :=
 if x.op=0 then eL l x.ty x.vr x.cond b i
 else if x.op=1 then
  match x.args with
  | []=>[]
  | [a]=>bj l a b i
  | a::r=>jj (bj l a b i) (bj l (gi x r)) b
 else if x.op=2 then x.args.flatMap fun a=>bj l a b i
 else if x.op=3 then fh (x.args.map fun a=>bj l a b i) []
 else match x.args with
  | []=>[]
  | a::_=>if x.op=4 then bj l a b i++jj (bj l a b i) (bj l x) b else (bj l a b i).filter (ik l x.op x.ty x.vr x.sp x.cond b)
theorem EY (l:List Evt) {x:Pt} (h:okA x=true):OkF l.length (bj l x):=fun b i s hs=>qG l x b i s ((rC l x h b i s).1 hs)
theorem FZ {x:Pt} (h:okA x=true):∀a∈x.args,okA a=true:=by
 obtain⟨o,z,ty,vr,J,sp,c⟩:=x;rw[okA,My]at h;have:∀z:List Pt,vg z=true->∀a∈z,okA a=true:=fun z=>by
  induction z with
  | nil=>intro _ a G;simp at G
  | cons y r I =>
   intro h a G;rw[vg,My]at h;rcases List.mem_cons.1 G with rfl|G
   ·exact h.1
   ·exact I h.2 a G
 exact this z h.2
theorem ll (l:List Evt) (x:Pt) (b:Bs) (i:Nat):(bj l x b i).Nodup:=by
 rw[pq]
 by_cases h0:x.op=0
 ·rw[Mp h0];exact bU _
 rw[Mo h0]
 by_cases G:x.op=1
 ·rw[Mp G]
  cases fx l x.args with
  | nil=>rw[lU];exact Pe
  | cons f r =>
   rw[lU]
   split
   ·exact bU _
   ·exact bU _
 rw[Mo G]
 by_cases h:x.op=2
 ·rw[Mp h];exact bU _
 rw[Mo h]
 by_cases I:x.op=3
 ·rw[Mp I];exact bU _
 rw[Mo I]
 by_cases z:x.op=4
 ·rw[Mp z,fP];exact bU _
 rw[Mo z];exact bU _
theorem pZ (l:List Evt) {x:Pt} (h:okA x=true) (b:Bs) (i:Nat):bj l x b i=aP (fO l x b i):=by
 have G:=FZ h;rw[pq];unfold fO
 by_cases h0:x.op=0
 ·rw[Mp h0,Mp h0]
 rw[Mo h0,Mo h0]
 by_cases I:x.op=1
 ·rw[Mp I,Mp I,eR]
  match har:x.args with
  | []=>rw[Om,lU];rfl
  | [a]=>rw[MF,Om,lU];rfl
  | a::c::r =>
   rw[MF,lU];have e:bj l (gi x (c::r))=lU ((c::r).map (bj l)):=by
    rw[pq,rg,Mo h0,Mp I,eI,eR]
   rw[Mo jS];show aP ((bj l a b i).flatMap fun s=>(lU ((c::r).map (bj l)) (aA b s) (bW s+1)).map (aA s))=aP (jj (bj l a b i) (bj l (gi x (c::r))) b);rw[e];rfl
 rw[Mo I,Mo I]
 by_cases J:x.op=2
 ·rw[Mp J,Mp J,eR];unfold pA;rw[List.flatMap_map]
 rw[Mo J,Mo J]
 by_cases Z:x.op=3
 ·rw[Mp Z,Mp Z,eR];unfold G6;rw[Oa];rfl
 rw[Mo Z,Mo Z]
 by_cases O:x.op=4
 ·rw[Mp O,eR]
  match har:x.args with
  | [] =>
   have:∀k,fP (hdF (([]:List Pt).map (bj l))) k b i=[]:=fun k=>by
    cases k with
    | zero=>rw[fP]
    | succ k=>rw[fP];rfl
   rw[this];rfl
  | a::r =>
   have hf:hdF ((a::r).map (bj l))=bj l a:=rfl;have a':OkF l.length (bj l a):=EY l (G a (by rw[har];exact Mz ..));have hx:bj l x=fP (bj l a) (l.length+1):=by
    rw[pq,Mo h0,Mo I,Mo J,Mo Z,Mp O,eR,har,hf]
   show fP (hdF ((a::r).map (bj l))) (l.length+1) b i=aP (if x.op=4 then bj l a b i++jj (bj l a b i) (bj l x) b else (bj l a b i).filter (ik l x.op x.ty x.vr x.sp x.cond b));rw[Mp O,hf,fP,hx];unfold jj;refine congrArg (fun z=>aP (bj l a b i++z)) ?_;refine km fun s hs=>?_
   have c':=(a' b i s hs).last;rw[qu a' l.length (l.length+1) _ _ om om]
 rw[Mo O,eR]
 match har:x.args with
 | []=>rfl
 | a::r =>
  show aP ((bj l a b i).filter _)=aP (if x.op=4 then _ else _);rw[Mo O]
theorem Fl (n:Nat):(madeCells #[Value.slice none 0 0] n).toList=List.replicate n (Value.slice none 0 0):=by
 rw[List.eq_replicate_iff];refine⟨by simp[madeCells],fun b h=>?_⟩;simp[madeCells]at h;obtain⟨_,_,rfl⟩:=h;simp[Nat.mod_one]
theorem EZ {w':World} {B e g n:Nat} (h:w'.ownsRow B e 1 (.slice (some ⟨g,0,none⟩) n n) n (madeCells (Value.slice none 0 0).cells (n*1)).toList):w'.heap[g]?=some (.cells (List.replicate n (Value.slice none 0 0)).toArray e (0,0)):=by
 rcases h.2 with ⟨G,_⟩|⟨g',cap,cur,hv,_,hh,_,_,hs,ht⟩
 ·cases G
 ·simp only[Value.slice.injEq,Ol,Addr.mk.injEq,Ns,true_and]at hv;obtain⟨rfl,rfl⟩:=hv;rw[hh];have z:cur.toList=List.replicate n (Value.slice none 0 0):=by
   rw[Of (by simp[hs])]at ht;rw[ht,NF];exact Fl n
  rw[<-z]
theorem jy (l:List Evt) (s:Bs) (i v:Nat):(cY l s i)[v]?=if v<16 then some ((s.filter fun x=>decide (x.2<i/\x.1=(v:Int))).filterMap fun x=>l[x.2]?) else none:=by
 unfold cY;rw[MA]
 by_cases h:v<16
 ·rw[PB h,Mp h];rfl
 ·rw[NZ (jQ h),Mo h];rfl
theorem qA (l:List Evt) (s:Bs) (i:Nat):(cY l s i).length=16:=by unfold cY;simp
theorem GJ (l:List Evt) (i:Nat):cY l [] i=List.replicate 16 []:=by unfold cY;rfl
theorem G8 {l:List Evt} {t:Bs} {x:Int × Nat} {i:Nat} (h:¬x.2<i):cY l (t++[x]) i=cY l t i:=by
 unfold cY;refine Pz fun v _=>?_
 rw[Oy];simp[h]
theorem Jm {l:List Evt} {t:Bs} {x:Int × Nat} {i j:Nat} {y:Evt} {m:List Evt} (h:x.2<i) (I:x.1=(j:Int)) (z:j<16) (hy:l[x.2]?=some y) (hm:(cY l t i)[j]?=some m):cY l (t++[x]) i=(cY l t i).set j (m++[y]):=by
 apply OZ;intro v;rw[OR,qA];rw[jy,Mp z]at hm;injection hm with hm
 by_cases e:j=v
 ·subst e;rw[Mp rfl,Mp z,jy,Mp z,Oy,List.filterMap_append,hm];simp[h,I,hy]
 ·rw[Mo e,jy,jy]
  by_cases G:v<16
  ·rw[Mp G,Mp G,Oy,List.filterMap_append];have:¬x.1=(v:Int):=by omega
   simp[this]
  ·rw[Mo G,Mo G]
theorem xa {l:List Evt} {t:Bs} {i j:Nat} {m:List Evt} (h:(cY l t i)[j]?=some m):m.length<=t.length:=by
 rw[jy]at h
 split at h
 ·injection h with h;subst h;exact Mx (List.length_filterMap_le ..) (Ow ..)
 ·cases h
theorem eU {w W:World} {row:Option Nat} {b o:Nat} {v:Value} (G:w.grownBy W row) (z:row≠some b) (h:w.cell? ⟨b,o,none⟩=some v):W.cell? ⟨b,o,none⟩=some v :=
 (ML (a:=⟨b,o,none⟩) (G.block b (Ms w ⟨b,o,none⟩ h) (fun e=>z e.symm))).trans h
def IM (w:World) (es:List (List Evt)) (e:Ending) (W:World):Prop:=∃v,e=.returned (.agg #[v])/\fW W v es/\Mm w W
theorem wN (l:List Evt) (s:Bs) (i:Nat) (C:Nat) (vl u:Value) (w:World) (T':w.cell? ⟨C,0,none⟩=some vl) (hl:bh w vl l) (hs:fo w u s) (S':∀x∈s,(0<=x.1/\x.1<16)/\x.2<l.length) (Q2:s.length<=1048576) :
  Calls prog 247 #[.pointer (some ⟨C,0,none⟩),u,Mk (i:Int)] w (IM w (cY l s i)):=by
 obtain⟨Al,cl,rfl,l1,l2,r'⟩:=hl;have G2:=ay l1 l2;have V0:∀(q:Nat) (y:Evt),l[q]?=some y->∃be Z ve,Al=some ⟨be,Z,none⟩/\be<w.heap.size/\aV w ve y.vals/\w.cell? ⟨be,Z+q*5,none⟩=some (Mk y.src)/\w.cell? ⟨be,Z+q*5+1,none⟩=some (Mk y.sq)/\w.cell? ⟨be,Z+q*5+2,none⟩=some (Mk y.ty)/\w.cell? ⟨be,Z+q*5+3,none⟩=some (Mk y.tm)/\w.cell? ⟨be,Z+q*5+4,none⟩=some ve:=fun q y hy=>by
  obtain⟨be,Z,rfl,ve,g',d0,d1,d2,d3,d4⟩:=r' q y hy;exact⟨be,Z,ve,rfl,Ms w ⟨be,_,none⟩ d0,g',d0,d1,d2,d3,d4⟩
 clear l1 l2 r';obtain⟨As,cs,rfl,s1,s2,u'⟩:=hs;have E2:=ay s1 s2;have HS:=jD u';have T1:=jD S';have Z1:=jD V0;clear s1 s2 u' S' V0;obtain⟨i1,C',X0,N',-⟩:=Np kM;have Z0:i1.bytes=24:=by have:=kM;rw[C']at this;simp at this;exact this.2.2
 obtain⟨i0,hi,Q1,Q0,R'⟩:=Np qJ;go_enter func247,ntmps247;go_wp2_with (at_make;refine wpList_make_full _ rfl (.const (Mk 16)) (.const (Mk 16)) 81 rfl (w.heap.size+1) 34 i1 (.slice none 0 0) 1 underlying81 C' X0 N' .i64 .i64 (16:Int) (16:Int) 16 rfl rfl rfl rfl (by rw[Z0];omega) (by unfold maxLen;omega) jS ?_;intro w5 c' A1);have i':Below (w.alloc (.cells #[Value.slice none 0 0] 138)).heap.size (w.alloc (.cells #[Value.slice none 0 0] 138)) w5:=au A1 (Mt _) (fun _ h=>by cases h);simp only[Oo]at c';obtain⟨E,hE⟩:=jE w5.heap.size;obtain⟨G,hG⟩:=jE (w.heap.size+1);obtain⟨Rb,q'⟩:=jE w.heap.size;have D':=EZ c';refine bg fun w0 e0=>?_
 have m':Mm w5 w0:=gb e0;have U':w0.heap[E]?=some (.cells [Value.slice (some ⟨G,0,none⟩) 16 16].toArray 138 (0,0)):=by rw[e0,<-hE,<-hG];exact ax _ _ _ rfl
 have R1:E+1<=w0.heap.size:=by rw[e0,<-hE];simp
 have K2:G<E:=by rw[<-hG,<-hE];exact bC D'
 have R0:w5.heap[Rb]?=some (.cells [Value.slice none 0 0].toArray 138 (0,0)):=(i'.block Rb (by rw[<-q'];simp)).trans (by rw[<-q'];exact Nr w _);have Y':VarsW w.heap.size (E+1) G w0 (List.replicate 16 (.slice none 0 0)) (List.replicate 16 []):=zO ((m'.block G om).trans (hG▸D')) ⟨by omega,by omega⟩;have Y0:w0.heap[Rb]?=some (.cells [Value.slice none 0 0].toArray 138 (0,0)):=(m'.block Rb om).trans R0;have s':Mm w w0:=ab (ab (af w _) i') m';have P0:=jD Y';have H0:=jD (And.intro U' Y0);have V':=jD s';obtain⟨A,hA⟩:=jF w.heap.size;have a':=jD hA;have T2:A<=Rb/\Rb<G:=by omega
 rw[hG,hE,q'];rw[<-hA]at P0;clear e0 m' U' Y' Y0 s' D' c' A1 i' R0 C' X0 N' Z0 hA q' hG hE
 go_loopw [14] (fun t wr=>∃(k:Nat) (vs:List Value) (es:List (List EV)),k<=s.length/\t=Mk k/\Hid (VarsW A (E+1) G wr vs es/\es.map (fun l=>l.map (·.1))=cY l (s.take k) i/\wr.heap[E]?=some (.cells [Value.slice (some ⟨G,0,none⟩) 16 16].toArray 138 (0,0))/\wr.heap[Rb]?=some (.cells [Value.slice none 0 0].toArray 138 (0,0))/\Mm w wr/\E+1<=wr.heap.size)) (fun t _=>s.length-(intOf t).toNat)
 case atStart=>exact⟨0,_,_,Mu _,rfl,jD ⟨P0.out,by simp[GJ],H0.out.1,H0.out.2,V'.out,R1⟩⟩
 case round =>
  obtain⟨k,vs,es,hk,rfl,O⟩:=hrel;have J:=O.out.2.2.2.2.1;have A3:=O.out.2.2.2.2.2;have rc:wr.cell? ⟨Rb,0,none⟩=some (.slice none 0 0):=by rw[ae O.out.2.2.2.1];rfl
  have rf:=aw O.out.2.2.2.1 0;have ec:wr.cell? ⟨E,0,none⟩=some (.slice (some ⟨G,0,none⟩) 16 16):=by rw[ae O.out.2.2.1];rfl
  by_cases E':k<s.length
  ·have F1:(k:Int)<(s.length:Int):=by omega
   obtain⟨x,hx⟩:∃x,s[k]?=some x:=⟨_,Mq E'⟩;obtain⟨b,o,rfl,c0,c1⟩:=HS.out k x hx;replace c0:=aa J c0;replace c1:=aa J c1;have x':=T1.out x (MI hx);obtain⟨j,hj⟩:∃j:Nat,x.1=(j:Int):=⟨x.1.toNat,by omega⟩;rw[hj]at c0;have K0:j<16:=by omega
   have HX:=jD (And.intro hx hj);have hq:=x'.2;have U2:b<wr.heap.size:=Ms wr ⟨b,_,none⟩ c0;have P2:b<A:=by have h:=HS.out k x hx;obtain⟨b',o',F',h0,-⟩:=h;injection F' with F';injection F' with e1 e2;subst e1;rw[a'.out];exact Ms w ⟨b,_,none⟩ h0
   clear hx x' hj
   by_cases l':x.2<i
   ·have y':(x.2:Int)<(i:Int):=by omega
    have G':=jD l';obtain⟨y,hy⟩:∃y,l[x.2]?=some y:=⟨_,Mq hq⟩;obtain⟨be,Z,ve,E1,B2,g',d0,d1,d2,d3,d4⟩:=Z1.out x.2 y hy;subst E1;replace d0:=aa J d0;replace d1:=aa J d1;replace d2:=aa J d2;replace d3:=aa J d3;replace d4:=aa J d4;rw[<-a'.out]at B2;obtain⟨Av,cv,rfl,-⟩:=id g';have P':=jD g';have HY:=jD hy;have p':es.length=16:=by have:=congrArg List.length O.out.2.1;rw[MB,qA]at this;exact this
    obtain⟨m,hm⟩:∃m,es[j]?=some m:=⟨_,Mq om⟩;obtain⟨u,hu⟩:∃u,vs[j]?=some u:=⟨_,Mq (by rw[O.out.1.len];omega)⟩;have J':(cY l (s.take k) i)[j]?=some (m.map (·.1)):=by rw[<-O.out.2.1,MA,hm];rfl
    have R2:m.length<=1048576:=by have:=xa J';rw[MB,Nx]at this;omega
    have V1:=jD J';have f':=jD (And.intro hm hu);have gc:wr.cell? ⟨G,j,none⟩=some u:=by rw[ae O.out.1.blk];exact hu
    have H2:(j:Int)<16:=by omega
    have Y1:(x.2:Int)<(l.length:Int):=by omega
    obtain⟨q,B'⟩:=jF x.2;obtain⟨nv,z'⟩:∃n,n=y.vals.length:=⟨_,rfl⟩;have S0:=jD z';have HQ:=jD B';rw[<-B']at c1 d0 d1 d2 d3 d4 y' Y1;rw[<-z']at d4;clear hy g' J' hm hu p' l' hq B' z';have K1:b≠wr.heap.size:=by omega
    have Z':wr.heap.size≠b:=by omega
    go_wp2_with fail;refine bg fun w3 e3=>?_
    obtain⟨X,hX⟩:=jE wr.heap.size;have z:Mm wr w3:=gb e3;have x0:Ml w3 X 0 (Mk (j:Int)):=by rw[e3,<-hX];show _=_;go_simp
    have x1:Ml w3 X 1 (Mk (q:Int)):=by rw[e3,<-hX];show _=_;go_simp
    have P1:=aa (ab J z) T';have S2:C<A:=by rw[a'.out];exact Ms w ⟨C,_,none⟩ T'
    replace ec:=aa z ec;replace gc:=aa z gc;replace d0:=aa z d0;replace d1:=aa z d1;replace d2:=aa z d2;replace d3:=aa z d3;replace d4:=aa z d4;have B3:X<w3.heap.size:=Ms w3 ⟨X,_,none⟩ x0;have Y2:E<X:=by omega
    have K3:X<=w3.heap.size:=by rw[<-hX];exact z.size
    have A':=jD (O.out.1.grow z);have j':=A'.out.row j u m f'.out.2 f'.out.1;have I:Hid (∀g,g<E+1\/X<=g->u.ownBlock≠some g):=jD fun g hg e=>by have:=ag (O.out.1.row j u m f'.out.2 f'.out.1) e;omega
    have gf:w3.frozen? ⟨G,j,none⟩=false:=aw A'.out.blk j;have t':=jD j';obtain⟨Au,cu,rfl⟩:=aH j';have X2:G<w3.heap.size:=by omega
    have G1:E<w3.heap.size:=by omega
    have H':∀W,w3.grownBy W (Value.slice Au m.length cu).ownBlock->(fun W:World=>w3.grownBy W (Value.slice Au m.length cu).ownBlock/\Ml W E 0 (.slice (some ⟨G,0,none⟩) 16 16)/\Ml W G j (.slice Au m.length cu)/\Ml W be (Z+q*5) (Mk y.src)/\Ml W be (Z+q*5+1) (Mk y.sq)/\Ml W be (Z+q*5+2) (Mk y.ty)/\Ml W be (Z+q*5+3) (Mk y.tm)/\Ml W be (Z+q*5+4) (.slice Av nv cv)/\Ml W X 0 (Mk (j:Int))/\Ml W X 1 (Mk (q:Int))/\Ml W C 0 (.slice (some ⟨be,Z,none⟩) l.length cl)) W:=fun W hg=>⟨hg,eU hg (I.out _ om) ec,eU hg (I.out _ om) gc,eU hg (I.out _ om) d0,eU hg (I.out _ om) d1,eU hg (I.out _ om) d2,eU hg (I.out _ om) d3,eU hg (I.out _ om) d4,eU hg (I.out _ om) x0,eU hg (I.out _ om) x1,eU hg (I.out _ om) P1⟩
    clear e3 j'
    (try rw[hX])
    refine wp_region_noPanic ?_;refine oh ((fun W:World=>w3.grownBy W (Value.slice Au m.length cu).ownBlock/\W.cell? ⟨E,0,none⟩=some (.slice (some ⟨G,0,none⟩) 16 16)/\W.cell? ⟨G,j,none⟩=some (.slice Au m.length cu)/\W.cell? ⟨be,Z+q*5,none⟩=some (Mk y.src)/\W.cell? ⟨be,Z+q*5+1,none⟩=some (Mk y.sq)/\W.cell? ⟨be,Z+q*5+2,none⟩=some (Mk y.ty)/\W.cell? ⟨be,Z+q*5+3,none⟩=some (Mk y.tm)/\W.cell? ⟨be,Z+q*5+4,none⟩=some (.slice Av nv cv)/\W.cell? ⟨X,0,none⟩=some (Mk (j:Int))/\W.cell? ⟨X,1,none⟩=some (Mk (q:Int))/\W.cell? ⟨C,0,none⟩=some (.slice (some ⟨be,Z,none⟩) l.length cl))) 20 kr (H' _ (aC (Mr _ _).drew _)) (fun d'=>?_);refine tkP [0,1,2,3,4,5,6,7,8,9,10,11,12,13,14,15,16,17] ?_;refine nxP 18 (fun K hK=>?_)
    go_simp
    refine hK.out _ _ (H' _ (aC jB _)) (fun d'=>?_);clear hK K;refine nxP 19 (fun K hK=>?_)
    focus ((try (change Oper.wp _ _ _ _ _ _));refine eG _ (.tmp 31) (.tmp 40) 34 rfl (E+1) 60 i0 _ 5 56 underlying34 hi Q1 Q0 R' rfl dc (.slice Au m.length cu) m.length (ci m) jR (ao t'.out jB) (some ⟨w3.heap.size,0,none⟩) 1 1 [Mk y.src,Mk y.sq,Mk y.ty,Mk y.tm,.slice Av nv cv] jR (cB _ [Mk y.src,Mk y.sq,Mk y.ty,Mk y.tm,.slice Av nv cv] _ 1 5 _ jS rfl (by intro u hu;simp only[MN,Nh,Ni]at hu;rcases hu with rfl|rfl|rfl|rfl|rfl<;>rfl)) (by unfold maxLen;omega) om (by simp;omega) ?_;intro v7 w7 h' n' I';obtain⟨A7,c7,X1⟩:=aH h';subst X1;have V2:w7.cell? ⟨G,j,none⟩=some (.slice Au m.length cu):=eU (cV (aC (show Mm w3 _ by exact jB) _) n') (I.out _ om) gc;have H3:w7.frozen? ⟨G,j,none⟩=false:=(World.frozen?_of_block (a:=⟨G,j,none⟩) ((cV (aC (show Mm w3 _ by exact jB) _) n').block G om (fun e=>I.out G om e.symm))).trans gf)
    refine hK.out _ _ (H' _ (cV (aC (show Mm w3 _ by exact jB) _) n')) (fun d'=>?_);clear hK K
    focus (refine nU (fuel:=1) (L:=(true::true::true::true::true::true::true::true::true::true::true::true::true::true::true::true::true::true::true::true::true::false::[]).toArray) (v:=?_) rfl rfl kr kr kr kr kr ?_ ?_;rotate_left 1;(focus (intro wS;go_simp<;>with_reducible rfl));simp only[MZ,MY])
    refine oE (i:=21) (fuel:=0) (L:=(true::true::true::true::true::true::true::true::true::true::true::true::true::true::true::true::true::true::true::true::true::true::[]).toArray) rfl kr kr kr kr (fun K hK=>?_)
    go_simp
    refine hK.out _ _ (NoPanic.normal ?_);clear hK K;rotate_left 1;have k':=d'.1;go_wp2_with fail
    go_roundw
    case rel =>
     have X':Below w.heap.size w3 w7:=(au k' (by have:=a'.out;omega) (fun g e=>by have:=(ag t'.out e).1;have:=a'.out;omega));have S1:Mm w w7:=(ab J z).trans X';have U1:Mm w w3:=ab J z;have M1:=(k'.block E G1 (fun e=>I.out E om e.symm)).trans ((z.block E om).trans O.out.2.2.1);have A2:=(k'.block Rb om (fun e=>I.out Rb om e.symm)).trans ((z.block Rb om).trans O.out.2.2.2.1);have Z2:=k'.size;refine⟨k+1,_,_,by omega,by go_num,jD ⟨(A'.out.grow jB).app (x:=y) (u:=.slice Av nv cv) f'.out.2 f'.out.1 (by simp;omega) h' n' I' ?_ ?_,?_,?_,?_,aq S1 (by have:=a'.out;omega) _,by simp;omega⟩⟩
     ·rw[S0.out];exact P'.out.stays aD (ab U1 (by exact jB))
     ·intro O' h hh;have E':=Is (P'.out) O' (by rw[<-S0.out];exact hh);refine⟨.inl (by rw[a'.out];exact E'),fun v hv e=>?_⟩;obtain⟨t,ht,rfl⟩:=N9 hv;have W1:t<es.length:=by rw[<-O.out.1.len];exact ht
      have:=(ag (O.out.1.row t vs[t] es[t] (Mq ht) (Mq W1)) e).1;have:=a'.out;omega
     ·rw[bK HX.out.1,Jm G'.out HX.out.2 K0 HY.out V1.out,<-O.out.2.1,List.map_set,NY];rfl
     ·exact (Nj _ _ _ E (by simp;omega)).trans M1
     ·exact (Nj _ _ _ Rb (by simp;omega)).trans A2
    case measure=>simp[intOf];omega
   ·have y':¬(x.2:Int)<(i:Int):=by omega
    have G':=jD l';clear l';have K1:b≠wr.heap.size:=by omega
    have Z':wr.heap.size≠b:=by omega
    go_wp2_with fail
    go_roundw
    case rel =>
     refine⟨k+1,vs,es,by omega,by go_num,jD ⟨O.out.1.grow jB,?_,(show _ from (Nz wr _ E om).trans O.out.2.2.1),(Nz wr _ Rb om).trans O.out.2.2.2.1,bt J _,by simp;omega⟩⟩;rw[bK HX.out.1,G8 G'.out];exact O.out.2.1
    case measure=>simp[intOf];omega
  ·have F1:¬(k:Int)<(s.length:Int):=by omega
   have he:es.map (fun l=>l.map (·.1))=cY l s i:=by have h:=O.out.2.1;rwa [Of om]at h
   have p':es.length=16:=by have:=congrArg List.length he;rw[MB,qA]at this;exact this
   have HE:=jD he;have U0:=jD p';clear he p';go_wp2_with fail;have W2:Rb<wr.heap.size:=bC O.out.2.2.2.1;have rr:=World.cell?_setCell_same' wr ⟨Rb,0,none⟩ (.slice (some ⟨G,0,none⟩) 16 16) (by rw[rc];rfl);refine Mv (v:=.agg #[.slice (some ⟨G,0,none⟩) 16 16]) (by simp[results,results247,go_sem,rr]) rfl ⟨_,rfl,?_,aq J (by have:=a'.out;omega) _⟩;have h:=(O.out.1.set (R:=Rb) ⟨by omega,by omega⟩ om 0 (.slice (some ⟨G,0,none⟩) 16 16)).is (by rw[U0.out];unfold maxLen;omega);rw[U0.out,HE.out]at h;exact h
theorem IH {α:Type} {R:World->Nat->Nat->α->Prop} {sz:Nat} {w:World} {A:Option Addr} {n c:Nat} {x:α} {l:List α} (h:Sl R sz w (.slice A n c) (x::l)):Sl R sz w (.slice (if c=1 then A else A.map (·.add (1*sz))) (n-1) (c-1)) l:=by
 obtain⟨A',c',e,z,h2,J⟩:=h;injection e with O I Z;subst O I Z;refine⟨_,_,rfl,by simp at z ⊢;omega,by omega,fun k y hk=>?_⟩;have G:=(List.getElem?_eq_some_iff.1 hk).1;obtain⟨b,o,rfl,hy⟩:=J (k+1) y (jQ hk);rw[Mo (by simp at z;omega)];refine⟨b,o+sz,by simp[cN],?_⟩;have:o+(k+1)*sz=o+sz+k*sz:=by rw[Ou];omega
 rwa [this]at hy
theorem C6 (a:Bs):aA a []=a:=by cases a<;>rw[aA]
theorem Bj (a:Bs):aA [] a=a:=by rw[aA]
theorem EX {x y:Int × Nat} {a b:Bs} (h:x.2<y.2):aA (x::a) (y::b)=x::aA a (y::b):=by rw[aA,Mp h]
theorem FE {x y:Int × Nat} {a b:Bs} (h:¬x.2<y.2):aA (x::a) (y::b)=y::aA (x::a) b:=by rw[aA,Mo h]
theorem lq (a b:Bs):(aA a b).length=a.length+b.length:=by
 match a,b with
 | [],b=>rw[Bj];simp
 | x::a,[]=>rw[C6];simp
 | x::a,y::b =>
  by_cases h:x.2<y.2
  ·rw[EX h,MG,lq a (y::b)];simp;omega
  ·rw[FE h,MG,lq (x::a) b];simp;omega
termination_by a.length+b.length
section
theorem SetIn.keepQ {Q Q':Nat->Prop} {w W:World} {v:Value} {s:Bs} (h:SetIn Q w v s) (hk:∀b,Q b->b<w.heap.size->W.heap[b]?=w.heap[b]?/\Q' b):SetIn Q' W v s:=by
 obtain⟨b,o,c,rfl,h1,J,G,Z,z⟩:=h;have O:b<w.heap.size:=by
  cases s with
  | nil=>exact absurd rfl G
  | cons x r=>exact Ms w ⟨b,_,none⟩ (z 0 x rfl).1
 obtain⟨e,hq⟩:=hk b Z O;exact⟨b,o,c,rfl,h1,J,G,hq,fun k x I=>⟨(ML (a:=⟨b,_,none⟩) e).trans (z k x I).1,(ML (a:=⟨b,_,none⟩) e).trans (z k x I).2⟩⟩
section
variable {base : Nat} {w w' : World} {v : Value} {L : List Bs}
end
end
theorem EvCells.stays {W W':World} {G:Nat} (h:EvCells W G) (z:Mm W W'):EvCells W' G:=fun j e he=>by
 obtain⟨h0,O,I,Z,J⟩:=h j e he;exact⟨aa z h0,aa z O,aa z I,aa z Z,aa z J⟩
theorem rZ (d:Nat) (vs:List (List Evt)) (v:Value) (own:Int) (ev:Evt) (u:Value) (h':∀k,(du vs k).length<=1048576)
  (x:Ex) (vx:Value) (w:World) (hv:fW w v vs) (hu:aV w u ev.vals) (hx:aK d w vx x.args) (hN:aF x<=1048576) :
  Mn 246 #[exV x vx,.agg #[v],Mk own,cP ev u] w (.bool (cT vs own ev x)):=by
 have HE:=jD (fun (W:World) (hW:Mm w W)=>Dr d vs v own ev u h' x vx W (hv.stays dT hW) (hu.stays aD hW) (hx.stays (ai d) hW) hN);have HF:Hid (∀W,Mn 177 #[.bool true] W (.agg #[Mk 1,Mk 1,.string ⟨#[]⟩])):=jD (fun W=>gH true W);obtain⟨A,c,rfl,-⟩:=hv;obtain⟨Au,cu,rfl,-⟩:=hu;obtain⟨Ax,cx,rfl,-⟩:=hx;obtain⟨r,hr⟩:=jE (ti vs own ev x);obtain⟨R,hR⟩:=jF (cT vs own ev x);have z:Hid (R=(decide (r.2=0)&&bY r.1 (cL true))):=jD (by rw[hR,<-hr];rfl);rw[hr]at HE;rw[<-hR];clear hR hr;obtain⟨⟨G,I,J⟩,re⟩:=r;have HQ:Hid (∀W,(binOp .eql 27 (.agg #[Mk G,Mk I,.string J]) (.agg #[Mk 1,Mk 1,.string ⟨#[]⟩])).run prog W=.ok (.bool (bY ⟨G,I,J⟩ (cL true))) W):=jD (fun W=>vK ⟨G,I,J⟩ (cL true) W);obtain⟨q,hq⟩:=jE (bY ⟨G,I,J⟩ (cL true));simp only at z HE;rw[hq]at HQ z;clear hq;unfold exV cP vlV at *;simp only at *;obtain⟨nx,O⟩:∃n,n=x.args.length:=⟨_,rfl⟩;obtain⟨nu,c'⟩:∃n,n=ev.vals.length:=⟨_,rfl⟩;rw[<-O,<-c']at HE ⊢;clear O c';go_enter func246,ntmps246;go_wp2_with fail;refine (HE.out _ jB).mono ?_;rintro e h ⟨rfl,a'⟩;have Z:Hid (Mm w h):=jD (ab jB a');clear a';have hQ:=HQ.out
 by_cases h0:re=0
 ·subst h0;obtain rfl:R=q:=by rw[z.out];simp
  clear z;go_wp2_with fail;refine dt (fun W=>W.cell? ⟨h.heap.size,0,none⟩=some (Mk G)/\W.cell? ⟨h.heap.size,1,none⟩=some (Mk I)/\W.cell? ⟨h.heap.size,2,none⟩=some (.string J)) (by repeat (first|exact aX _ _ _|exact aW|refine bw ?_ ?_)) kr kr ?hF ?_;(case hF=>(first|exact⟨‹_›,‹_›⟩|(go_simp;done)|(simp[*];done)|(repeat' (first|(refine And.intro ?_ ?_)|(go_simp;done)|exact aa (bt (Mr _ _) _) (by assumption)|assumption))));intro d' g';have hG:Hid (Grows (fun W=>W.cell? ⟨h.heap.size,0,none⟩=some (Mk G)/\W.cell? ⟨h.heap.size,1,none⟩=some (Mk I)/\W.cell? ⟨h.heap.size,2,none⟩=some (.string J))):=(by repeat (first|exact aX _ _ _|exact aW|refine bw ?_ ?_));(repeat (go_big_quiet_step ((go_at_call 177;exact nN hG (fun W _=>HF.out W)))));clear hG g' d';refine wpQuiet_nil ?_;rintro wq ⟨⟨w',i',f'⟩,rfl⟩;clear f';go_wp2;go_ret;exact⟨rfl,ab (bt Z.out _) i'⟩
 ·have j':(re==0)=false:=jQ h0;obtain rfl:R=false:=by rw[z.out];simp[h0]
  clear z h0;go_wp2_with fail
  go_big_region
  go_wp2;go_ret;exact⟨rfl,ab Z.out jB⟩
theorem pX {l:List Evt} {s:Bs} {i:Nat} (h:s.length<=1048576) (k:Int):(du (cY l s i) k).length<=1048576:=by
 unfold du
 split
 ·simp
 ·next hk =>
  have z:k.toNat<(cY l s i).length:=by omega
  rw[PE,Mq z,NS];have:=xa (Mq z);omega
theorem sH (l:List Evt) (b:Bs) (i:Nat) (ev:Evt) (own:Int) (d:Nat) (x:Ex) (C:Nat) (vl u vx:Value) (w:World) (I:w.cell? ⟨C,0,none⟩=some vl) (hl:bh w vl l) (hb:fo w u b) (k':∀x∈b,(0<=x.1/\x.1<16)/\x.2<l.length) (g':b.length<=1048576)
  (h':l[i]?=some ev) (hx:aK d w vx x.args) (hN:aF x<=1048576) :
  Mn 199 #[.pointer (some ⟨C,0,none⟩),exV x vx,u,Mk own,Mk (i:Int)] w (.bool (cT (cY l b i) own ev x)):=by
 have l':=jD (fun (W:World) (h:Mm w W)=>wN l b i C vl u W (aa h I) (hl.stays aG h) (hb.stays aL h) k' g');have t':=jD (fun k=>pX (l:=l) (i:=i) g' k);obtain⟨Al,cl,rfl,l1,l2,a'⟩:=id hl;obtain⟨be,oe,rfl,ve,d',d0,d1,d2,d3,d4⟩:=a' i ev h';have s':=(List.getElem?_eq_some_iff.1 h').1;obtain⟨Av,cv,rfl,-⟩:=id d';obtain⟨Ax,cx,rfl,-⟩:=id hx;obtain⟨Ab,cb,rfl,-⟩:=id hb;have j':=ay l1 l2;have Z:=jD (fun (v:Value) (W:World) (hv:fW W v (cY l b i)) (h:Mm w W)=>rZ d (cY l b i) v own ev _ t'.out x _ W hv (d'.stays aD h) (hx.stays (ai d) h) hN);have z':=Ms w ⟨C,_,none⟩ I;have C':=Ms w ⟨be,_,none⟩ d0;obtain⟨R,hR⟩:=jF (cT (cY l b i) own ev x);rw[<-hR]at Z ⊢;obtain⟨nl,r'⟩:∃n,n=l.length:=⟨_,rfl⟩;obtain⟨nv,i'⟩:∃n,n=ev.vals.length:=⟨_,rfl⟩;obtain⟨nx,m'⟩:∃n,n=x.args.length:=⟨_,rfl⟩;obtain⟨nb,q'⟩:∃n,n=b.length:=⟨_,rfl⟩;rw[<-r']at I s' j';rw[<-i']at d4 Z;rw[<-m']at Z ⊢;rw[<-q']at l' ⊢;have E':(i:Int)<(nl:Int):=by omega
 clear hR r' i' m' q' hl hb k' g' h' hx hN d' a' l1 l2 s';unfold exV cP at *;go_enter func199,ntmps199;go_wp2_with fail;refine bg fun O e2=>?_
 obtain⟨B,hB⟩:=jF w.heap.size;have z:Mm w O:=gb e2;obtain⟨q0,q1,q2,q3,q4,q5,q6,q7⟩:=c8 e2 hB;have q8:=aa z I;have q9:=aa z d0;have D':=aa z d1;have B':=aa z d2;have u':=aa z d3;have x':=aa z d4;have F':=Ms O ⟨B,_,none⟩ q0;have H':=Ms O ⟨C,_,none⟩ q8;have G':=Ms O ⟨be,_,none⟩ q9;have f':=jD z;rw[<-hB];clear e2 I d0 d1 d2 d3 d4 z' C' z hB;refine rgn (fun W:World=>Mm O W/\Ml W B 0 (Mk x.op)/\Ml W B 1 (.slice Ax nx cx)/\Ml W B 2 (Mk x.vr)/\Ml W B 3 (Mk x.fl)/\Ml W B 4 (Mk x.kd)/\Ml W B 5 (Mk x.val.kind)/\Ml W B 6 (Mk x.val.num)/\Ml W B 7 (.string x.val.text)/\Ml W C 0 (.slice (some ⟨be,oe,none⟩) nl cl)/\Ml W be (oe+i*5) (Mk ev.src)/\Ml W be (oe+i*5+1) (Mk ev.sq)/\Ml W be (oe+i*5+2) (Mk ev.ty)/\Ml W be (oe+i*5+3) (Mk ev.tm)/\Ml W be (oe+i*5+4) (.slice Av nv cv)) (Below O.heap.size O) (fun W h=>⟨h,aa h q0,aa h q1,aa h q2,aa h q3,aa h q4,aa h q5,aa h q6,aa h q7,aa h q8,aa h q9,aa h D',aa h B',aa h u',aa h x'⟩) ((Mr _ _).drew) (fun p' J=>?_);refine tkH [0,1,2,3,5,6,7,8,9,10,11,12] ?_;refine nxH 4 (fun K hK=>?_)
 focus (go_simp;refine (l'.out _ (ab f'.out (show Mm O _ by exact jB))).mono ?_;rintro e w5 ⟨v5,rfl,n',A'⟩;obtain⟨A5,c5,rfl,-⟩:=id n';have G:Mm O w5:=ab (show Mm O _ by exact jB) A')
 refine hK.out _ _ (p' _ G) (fun J=>?_);clear hK K;refine nxH 13 (fun K hK=>?_)
 focus (go_simp;refine (Z.out _ w5 n' (ab f'.out G)).mono ?_;rintro e w6 ⟨rfl,y'⟩;have c':Mm O w6:=ab G y')
 refine hK.out _ _ (p' _ c') (fun J=>?_);clear hK K;refine tkH [14] ?_;refine dn ?_
 (try go_wp2_with fail)
 go_ret;exact⟨rfl,ab f'.out c'⟩
end Go.Proofs.YtbjicljfjkdeeaaGreatDoor
