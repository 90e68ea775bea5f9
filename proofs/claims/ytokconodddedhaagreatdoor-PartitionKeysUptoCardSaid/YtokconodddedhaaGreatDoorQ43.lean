/- Part. -/
import Derived.Test.YtokconodddedhaaGreatDoorQ41
set_option maxRecDepth 100000
set_option maxHeartbeats 16000000
set_option linter.unusedVariables false
set_option linter.unusedSimpArgs false
namespace Go.Proofs.YtokconodddedhaaGreatDoor
open Go.Proofs.Tryz Go.RowKit
def rT:Evt:=⟨0,0,0,0,[]⟩
def mU (vs:List (List Evt)):List Ex->List Vl × Int
 | []=>([],0)
 | a::r=>if (iy vs (-1) rT a).2≠0 then ([],(iy vs (-1) rT a).2) else ((iy vs (-1) rT a).1::(mU vs r).1,(mU vs r).2)
theorem Dm {vs:List (List Evt)} {l:List Ex} {k:Nat} {a:Ex} (h:l[k]?=some a) :
  mU vs (l.drop k)=if (iy vs (-1) rT a).2≠0 then ([],(iy vs (-1) rT a).2) else ((iy vs (-1) rT a).1::(mU vs (l.drop (k+1))).1,(mU vs (l.drop (k+1))).2):=by
 obtain⟨z,rfl⟩:=List.getElem?_eq_some_iff.1 h;rw[Lr z,mU]
def He (r:List Vl × Int):List Vl × Int:=if r.2≠0 then ([],r.2) else (r.1,0)
def rL (l:List Evt) (z:Nat) (h:List Ex) (bs:List Bnd):List Vl × Int :=
 if 16<z\/256<h.length then ([],5) else if (lQ l z bs).2≠0 then ([],(lQ l z bs).2) else He (mU (lQ l z bs).1 h)
theorem yc {l:List Evt} {n:Int} {bs:List Bnd} (z:bs.length<=1048576) (k:Int):(eG (lQ l n bs).1 k).length<=1048576:=by
 unfold eG
 split
 ·simp
 ·next h =>
  have hk:k.toNat<(lQ l n bs).1.length:=by omega
  rw[ME,K9 hk,M4];have hm:=Nd hk;generalize (lQ l n bs).1[k.toNat]'hk=x at hm ⊢;unfold lQ at hm
  split at hm
  ·have:=xm _ hm;omega
  ·simp at hm
def Kt (w:World) (r:List Vl × Int) (e:Ending) (W:World):Prop:=∃v,e=.returned (.tuple #[v,KW r.2])/\aV W v r.1/\(∀g,v.ownBlock=some g->w.heap.size<=g/\g<W.heap.size)/\KY w W
theorem BF (W:World) (B:Nat):∀g,(Value.slice none 0 0).ownBlock=some g->B<=g/\g<W.heap.size:=fun g h=>by simp[Value.ownBlock]at h
theorem Iy (w:World):aV w (.slice none 0 0) rT.vals:=Sl.nil _ _ _ _ _ (Lb _)
theorem IH (l:List Evt) (vars:List Nv) (z:List Ex) (bs:List Bnd) (d:Nat) (v vb:Value) (c0 c1 c2 c3 c4 c5 c6 c7 c8 c9 t' L' P' D' F' H' N' C':Value) (w:World) (hl:bm w v l) (Z:bQ w vb bs) (Q0:tg w c1 vars) (hr:aF d w C' z)
  (J:∀e∈l,e.vals.length<=1048576) (J':bs.length<=1048576) (hN:∀x∈z,sh x) :
  Calls prog 51 #[v,.agg #[c0,c1,c2,c3,c4,c5,c6,c7,c8,c9,t',L',P',D',F',H',N',C'],rY vb] w (Kt w (rL l vars.length z bs)):=by
 have u':=jD (fun W (hW:KY w W)=>Ig l (vars.length:Int) bs v vb W (hl.stays aK hW) (Z.stays cE hW) J);have O':=jD (fun k=>yc (l:=l) (n:=(vars.length:Int)) J' k);have V0:=jD hN;obtain⟨S,hS⟩:∃r,rL l vars.length z bs=r:=⟨_,rfl⟩;obtain⟨⟨vs,ee⟩,hE⟩:∃r,lQ l (vars.length:Int) bs=r:=⟨_,rfl⟩;have HS:Hid ((if 16<vars.length\/256<z.length then ([],5) else if ee≠0 then ([],ee) else He (mU vs z))=S):=jD (by rw[<-hS];unfold rL;rw[hE]);rw[hS];rw[hE]at u' O';clear hS hE hN J J';obtain⟨Av,cv,rfl,y',f',-⟩:=Q0;obtain⟨Ax,cx,rfl,h1,h2,E'⟩:=hr;obtain⟨Ab,cb,rfl,-⟩:=Z;obtain⟨Al,cl,rfl,-⟩:=hl;have X0:=ax h1 h2;have Y0:=ax y' f';have HL:=jD E';clear h1 h2 E' y' f';unfold rY at *;obtain⟨i0,hi,R0,Z',K0⟩:=LD mA
 by_cases g1:16<vars.length
 ·have I':(16:Int)<(vars.length:Int):=by omega
  obtain rfl:(([],5):List Vl × Int)=S:=by have h:=HS.out;rw[K7 (.inl g1)]at h;exact h
  clear g1;go_enter func51,ntmps51;go_wp2;exact Lc (v:=.tuple #[.slice none 0 0,KW 5]) (by simp[results,results51,go_sem]) rfl ⟨_,rfl,Sl.nil _ _ _ _ _ (Lb _),BF _ _,jB⟩
 by_cases g2:256<z.length
 ·have I':¬(16:Int)<(vars.length:Int):=by omega
  have Y':(256:Int)<(z.length:Int):=by omega
  obtain rfl:(([],5):List Vl × Int)=S:=by have h:=HS.out;rw[K7 (.inr g2)]at h;exact h
  clear g1 g2;go_enter func51,ntmps51;go_wp2;exact Lc (v:=.tuple #[.slice none 0 0,KW 5]) (by simp[results,results51,go_sem]) rfl ⟨_,rfl,Sl.nil _ _ _ _ _ (Lb _),BF _ _,jB⟩
 have I':¬(16:Int)<(vars.length:Int):=by omega
 have Y':¬(256:Int)<(z.length:Int):=by omega
 have F:(if ee≠0 then ([],ee) else He (mU vs z))=S:=by have h:=HS.out;rw[K6 om]at h;exact h
 have S':z.length<=256:=by omega
 clear g1 g2 HS;go_enter func51,ntmps51;go_wp2_with fail;refine aw fun W9 e9=>?_
 have hX:W9.heap[w.heap.size]?=some (.cells [c0,.slice Av vars.length cv,c2,c3,c4,c5,c6,c7,c8,c9,t',L',P',D',F',H',N',.slice Ax z.length cx].toArray 33 (0,0)):=by
  rw[e9];repeat (first|exact ap _ _ _ jS|apply aE)
 have n':KY w W9:=gb e9;clear e9;refine (u'.out _ n').mono ?_;rintro e w3 ⟨ve,rfl,M',e'⟩;have N0:=jD M';obtain⟨Ae,ce,rfl,-⟩:=M';have HX:=jD (ao e' hX);have z':=jD (ab n' e');obtain⟨X,p'⟩:=jF w.heap.size;have E1:X<w3.heap.size:=aD (ao e' (p'▸hX));rw[<-p']at HX ⊢;clear hX n' e' p'
 by_cases O:ee=0
 case neg =>
  rw[K7 O]at F;subst F;have T':(ee != 0)=true:=jQ O;clear O;go_wp2;exact Lc (v:=.tuple #[.slice none 0 0,KW ee]) (by simp[results,results51,go_sem]) rfl ⟨_,rfl,Sl.nil _ _ _ _ _ (Lb _),BF _ _,aJ z'.out _⟩
 subst O;rw[K6 jS]at F;obtain⟨FR,h'⟩:∃r,mU vs z=r:=⟨_,rfl⟩;rw[h']at F;have HS:=jD F;have P0:=jD h';have x':KX w3 X 17 (.slice Ax z.length cx):=af HX.out 17;clear F h';go_wp2_with fail;refine aP fun w1 e1=>?_
 have q':KX w1 w3.heap.size 0 (.slice Ae vs.length ce):=jG e1;have m':KY w3 w1:=gb e1;clear e1 x';have G':=jD q';have S0:=jD m';have a':=jD (ab z'.out m');have R':w3.heap.size<w1.heap.size:=K8 w1 ⟨w3.heap.size,0,none⟩ q';obtain⟨Y,hY⟩:=jF w3.heap.size;rw[<-hY]at G' R' ⊢;clear q' m' hY
 go_loopw [10,40] (fun av i wr=>∃(k:Nat) (pre:List Vl),k<=z.length/\pre.length=k/\i=KW k/\Hid (wr.ownsRow w1.heap.size 27 3 av k (bb pre))/\Hid ((pre++(mU vs (z.drop k)).1,(mU vs (z.drop k)).2)=FR/\KY w1 wr)) (fun _ i _=>z.length-(intOf i).toNat)
 case atStart=>exact⟨0,[],Lb _,rfl,rfl,jD ⟨rfl,.inl ⟨rfl,rfl⟩⟩,jD ⟨by rw[L1,P0.out];rfl,La _ _⟩⟩
 case round =>
  obtain⟨k,pre,hk,B',rfl,D,hI⟩:=hrel;have Z:=hI.out.2;obtain⟨Ar,cr,rfl⟩:=ay D.out;have A1:=Z.size
  by_cases j':k<z.length
  ·have A0:(k:Int)<(z.length:Int):=by omega
   obtain⟨b,o,rfl,l'⟩:=HL.out k z[k] (K9 j');have hg:=jD (K9 j');have I:z[k]∈z:=Nd j';obtain⟨a,ha⟩:=jF (z[k]);rw[<-ha]at hg l' I;clear ha;have s':=V0.out a I;obtain⟨d',v',X',i',p0,p1,p2,p3,p4,p5,p6,p7⟩:=cL (ai d _ _ _ _ _ (ab a'.out Z) l');have f':=i';obtain⟨A',c',H0,-⟩:=f';subst H0;obtain⟨⟨G,fe⟩,hQ⟩:∃r,iy vs (-1) rT a=r:=⟨_,rfl⟩;have HC:=jD (fun (W:World) (hW:KY wr W)=>tG d' vs _ (-1) rT (.slice none 0 0) O'.out a _ W (N0.out.stays eT (ab S0.out (ab Z hW))) (Iy W) (i'.stays (ai d') hW) s');rw[hQ]at HC;unfold exV cJ vlV rT at HC;simp only at HC;have HQ:=jD hQ;have e0:=aa Z G'.out;have K1:Y<wr.heap.size:=by omega
   clear hQ l' X' i' I s';go_wp2_with fail;refine (HC.out _ ?_).mono ?_
   ·exact jB
   rintro e w2 ⟨rfl,r'⟩;have g':Hid (KY wr w2):=jD (ab (by exact jB) r');have U':=jD (ab Z g'.out);clear r' e0 p0 p1 p2 p3 p4 p5 p6 p7;have h:=hI.out.1;rw[Dm hg.out,HQ.out]at h
   by_cases O:fe=0
   case neg =>
    rw[K7 O]at h;obtain rfl:(([],fe):List Vl × Int)=S:=by
     have h2:=HS.out;rw[<-h,He,K7 O]at h2;exact h2
    have T':(fe != 0)=true:=jQ O;clear h O;go_wp2;exact Lc (v:=.tuple #[.slice none 0 0,KW fe]) (by simp[results,results51,go_sem]) rfl ⟨_,rfl,Sl.nil _ _ _ _ _ (Lb _),BF _ _,aJ (ab a'.out U'.out) _⟩
   subst O;rw[K6 jS]at h;have HH:=jD h;clear h;have Z0:k<1048576:=by omega
   have b':=jD (aJ (aJ g'.out (.cells #[.int .i64 G.kind,.int .i64 G.num,.string G.text] 27 (0,0))) (.cells #[.int .i64 G.kind,.int .i64 G.num,.string G.text] 27 (0,0)));go_wp2_with (at_builtin;refine aR _ rfl (.tmp 54) (.tmp 56) 56 rfl w1.heap.size 27 i0 _ 3 32 underlying56 hi R0 Z' K0 rfl dc (.slice Ar k cr) k (bb pre) rfl (aj D.out b'.out) (some ⟨w2.heap.size+1,0,none⟩) 1 1 [KW G.kind,KW G.num,.string G.text] rfl (bE _ [KW G.kind,KW G.num,.string G.text] _ 1 3 _ jS rfl (by intro u hu;simp only[Lv,LM,LN]at hu;rcases hu with rfl|rfl|rfl<;>rfl)) (by unfold maxLen;omega) om (by have:=b'.out.size;omega) ?_;intro v8 w8 k' O0 U0);have T0:KY w1 w8:=(ab Z b'.out).trans (am O0 (by have:=b'.out.size;omega) (fun g h=>(ah D.out h).1));refine⟨⟨k+1,pre++[G],by omega,by simp[B'],by go_num,jD ?_,jD ⟨?_,T0⟩⟩,by simp[intOf];omega⟩
   ·rw[go];exact k'
   ·have h:=HH.out;rw[L7];exact h
  ·have A0:¬(k:Int)<(z.length:Int):=by omega
   have V':=jD (mi (l:=pre) (by rw[B'];exact D.out));obtain rfl:((pre,0):List Vl × Int)=S:=by
    have h:=hI.out.1;have h2:=HS.out;rw[Lq om,mU,Mz]at h;rw[<-h]at h2;exact h2
   go_wp2;exact Lc (v:=.tuple #[.slice Ar k cr,KW 0]) (by simp[results,results51,go_sem]) rfl ⟨_,rfl,V'.out,fun g hg=>⟨by have:=(ah D.out hg).1;have:=a'.out.size;omega,(ah D.out hg).2⟩,ab a'.out Z⟩
structure Rsl where
 i:Int
 bs:List Bnd
 vs:List Vl
abbrev RV:=Rsl × Value × Value
def iQ (e:RV):List Value:=[KW e.1.i,e.2.1,e.2.2]
def dN (l:List RV):List Value:=l.flatMap iQ
theorem rR (l:List RV) (e:RV):dN (l++[e])=dN l++[KW e.1.i,e.2.1,e.2.2]:=by unfold dN;rw[MP];rfl
structure RW (B:Nat) (W:World) (av:Value) (rs:List RV):Prop where
 row:W.ownsRow B 58 3 av rs.length (dN rs)
 mat:∀e∈rs,bQ W e.2.1 e.1.bs/\∀g,e.2.1.ownBlock=some g->B<=g/\g<W.heap.size/\some g≠av.ownBlock
 val:∀e∈rs,aV W e.2.2 e.1.vs/\∀g,e.2.2.ownBlock=some g->B<=g/\g<W.heap.size/\some g≠av.ownBlock
theorem RW.nil (B:Nat) (w:World):RW B w (.slice none 0 0) []:=⟨⟨by simp[dN],.inl ⟨rfl,rfl⟩⟩,by simp,by simp⟩
theorem RW.grow {B:Nat} {wr F:World} {G:Value} {rs:List RV} (h:RW B wr G rs) (z:KY wr F):RW B F G rs :=
 ⟨aj h.row z,fun e he=>⟨(h.mat e he).1.stays cE z,fun g D=>by have:=(h.mat e he).2 g D;exact⟨this.1,Ll this.2.1 z.size,this.2.2⟩⟩,
  fun e he=>⟨(h.val e he).1.stays aC z,fun g D=>by have:=(h.val e he).2 g D;exact⟨this.1,Ll this.2.1 z.size,this.2.2⟩⟩⟩
theorem RW.box {B C:Nat} {W:World} {D:Value} {rs:List RV} (h:RW B W D rs) (F:C<B) (u:Value):RW B (W.setCell ⟨C,0,none⟩ u) D rs:=by
 refine⟨aT h.row fun g z=>LB W ⟨C,0,none⟩ u g (by have:=(ah h.row z).1;simp only;omega),fun e he=>⟨iY (h.mat e he).1 fun g z=>LB W ⟨C,0,none⟩ u g (by have:=((h.mat e he).2 g z).1;simp only;omega),fun g z=>?_⟩,fun e he=>⟨fg (h.val e he).1 fun _ g _ z=>LB W ⟨C,0,none⟩ u g (by have:=((h.val e he).2 g z).1;simp only;omega),fun g z=>?_⟩⟩
 ·have:=(h.mat e he).2 g z;exact⟨this.1,jQ this.2.1,this.2.2⟩
 ·have:=(h.val e he).2 g z;exact⟨this.1,jQ this.2.1,this.2.2⟩
theorem RW.app {B:Nat} {D O:World} {F G:Value} {rs:List RV} {i:Int} {bs:List Bnd} {vs:List Vl} {Z uv:Value} (h:RW B D F rs) (hm:bQ D Z bs) (b':∀g,Z.ownBlock=some g->B<=g/\g<D.heap.size/\some g≠F.ownBlock)
  (hv:aV D uv vs) (a':∀g,uv.ownBlock=some g->B<=g/\g<D.heap.size/\some g≠F.ownBlock)
  (I:O.ownsRow B 58 3 G (rs.length+1) (dN rs++[KW i,Z,uv])) (hg:D.grownBy O F.ownBlock) (J:G.ownBlock=F.ownBlock\/G.ownBlock=some D.heap.size) :
  RW B O G (rs++[(⟨i,bs,vs⟩,Z,uv)]):=by
 have c':=hg.size;have key:∀u:Value,(∀g,u.ownBlock=some g->B<=g/\g<D.heap.size/\some g≠F.ownBlock)->∀g,u.ownBlock=some g->B<=g/\g<O.heap.size/\some g≠G.ownBlock:=fun u hu g z=>by
  have h1:=hu g z;refine⟨h1.1,by omega,?_⟩;rcases J with hl|hl
  ·rw[hl];exact h1.2.2
  ·rw[hl];simp;omega
 refine⟨by rw[Le,rR];exact I,fun e he=>?_,fun e he=>?_⟩
 ·have h0:bQ D e.2.1 e.1.bs/\∀g,e.2.1.ownBlock=some g->B<=g/\g<D.heap.size/\some g≠F.ownBlock:=by
   rcases List.mem_append.1 he with he|he
   ·exact h.mat e he
   ·simp at he;subst he;exact⟨hm,b'⟩
  exact⟨iY h0.1 fun g z=>hg.block g (h0.2 g z).2.1 (h0.2 g z).2.2,key _ h0.2⟩
 ·have h0:aV D e.2.2 e.1.vs/\∀g,e.2.2.ownBlock=some g->B<=g/\g<D.heap.size/\some g≠F.ownBlock:=by
   rcases List.mem_append.1 he with he|he
   ·exact h.val e he
   ·simp at he;subst he;exact⟨hv,a'⟩
  exact⟨fg h0.1 fun _ g _ z=>hg.block g (h0.2 g z).2.1 (h0.2 g z).2.2,key _ h0.2⟩
theorem zH {bs:List Nat} {W G W':World} {row:Option Nat} (h:KeepX bs W G) (z:G.grownBy W' row) (hr:∀g,row=some g->g∈bs\/W.heap.size<=g):KeepX bs W W' :=
 ⟨z.os.trans h.os,z.tape.trans h.tape,z.output.trans h.output,Lf h.size z.size,fun k hk D=>(z.block k (Ll hk h.size) (fun e=>by rcases hr k e.symm with F|F;exact D F;omega)).trans (h.block k hk D)⟩
theorem KeepX.bnds {bs:List Nat} {W W':World} (h:KeepX bs W W') {v:Value} {l:List Bnd} (F:bQ W v l) (D:∀g,v.ownBlock=some g->g<W.heap.size/\g∉bs):bQ W' v l :=
 iY F fun g z=>h.block g (D g z).1 (D g z).2
def fV (l:List Evt) (z:Nat) (h:List Ex):List (List Bnd)->List (List Bnd × List Vl) × Int
 | []=>([],0)
 | m::r=>if (rL l z h m).2≠0 then ([],(rL l z h m).2) else ((m,(rL l z h m).1)::(fV l z h r).1,(fV l z h r).2)
theorem zg {l:List Evt} {D:Nat} {z:List Ex} {M:List (List Bnd)} {k:Nat} {m:List Bnd} (h:M[k]?=some m) :
  fV l D z (M.drop k)=if (rL l D z m).2≠0 then ([],(rL l D z m).2) else ((m,(rL l D z m).1)::(fV l D z (M.drop (k+1))).1,(fV l D z (M.drop (k+1))).2):=by
 obtain⟨F,rfl⟩:=List.getElem?_eq_some_iff.1 h;rw[Lr F,fV]
def kV (l:List Evt) (n:Nat) (q:Qry):Int :=
 if (dP q l).2≠0 then (dP q l).2 else if 4096<n+(dP q l).1.length then 17 else (fV l q.vars.length q.rets (dP q l).1).2
def jk (l:List Evt) (i:Int) (q:Qry):List Rsl:=(fV l q.vars.length q.rets (dP q l).1).1.map (fun x=>⟨i,x.1,x.2⟩)
def Ho (w:World) (B C:Nat) (gs:List Nat) (h new:List Rsl) (z:Int) (e:Ending) (W:World):Prop :=
 e=.returned (KW z)/\KeepX (C::gs) w W/\(z=0->∃D rs,BoxX W C D/\RW B W D rs/\rs.map (·.1)=h++new/\∀g,D.ownBlock=some g->g∈gs\/w.heap.size<=g)
theorem E4:(prog.info? 58).map (fun i=>(i.zero,i.size,i.bytes))=some (some (.agg #[KW 0,.slice none 0 0,.slice none 0 0]),3,56):=kr
theorem G0 (d:Nat) (q:Qry) (l:List Evt) (i:Int) (vv vk va vc vr vl av:Value) (E C B:Nat) (gs:List Nat) (rs:List RV) (w0 w:World) (hA:PartAsk d w0 q l vv vk va vc vr vl) (hS:SmallN l.length q.pat)
  (hF:(aZ q l).2=0->(ei q.pat (dw q.key l)).length<=4096) (hM:(dP q l).1.length<=4096) (B':∀m∈(dP q l).1,m.length<=1048576) (hN:∀x∈q.rets,sh x)
  (N1:KY w0 w) (hE:w.cell? ⟨E,0,none⟩=some vl) (hC:BoxX w C av) (hR:RW B w av rs) (hlen:rs.length<=4096) (H5:E<C) (V3:C<B) (Z4:w0.heap.size<=C) (B5:B<=w.heap.size)
  (X0:∀g,av.ownBlock=some g->g∈gs) (Q1:∀g∈gs,B<=g/\g<w.heap.size) :
  Calls prog 50 #[KW i,dO q vv vk va vc vr,.pointer (some ⟨E,0,none⟩),.pointer (some ⟨C,0,none⟩)] w (Ho w B C gs (rs.map (·.1)) (jk l i q) (kV l rs.length q)):=by
 have C':=jD (fun (W:World) (hW:KY w0 W)=>lT d q l vv vk va vc vr vl W (hA.stays hW) hS hF);have Q2:=jD (fun (W:World) (m:List Bnd) (u c0 c2 c3 c4 c5 c6 c7 c8 c9 B2 Q3 X3 U2 V2 Z2 T3:Value) (hW:KY w0 W) (hu:bQ W u m) (hm:m.length<=1048576)=>IH l q.vars q.rets m d vl u c0 vv c2 c3 c4 c5 c6 c7 c8 c9 B2 Q3 X3 U2 V2 Z2 T3 vr W (hA.evs.stays aK hW) hu (hA.qry.vars.stays jd hW) (hA.qry.rets.stays (ai d) hW) hA.vals hm hN);obtain⟨⟨M,pe⟩,hP⟩:∃R,dP q l=R:=⟨_,rfl⟩;obtain⟨z,hz⟩:=jE (kV l rs.length q);obtain⟨FR,x'⟩:∃R,fV l q.vars.length q.rets M=R:=⟨_,rfl⟩;have c':=hz;unfold kV at c';rw[hP]at c' C' hM B';simp only at c' hM B';rw[x']at c';have K1:Hid (jk l i q=FR.1.map (fun x=>⟨i,x.1,x.2⟩)):=jD (by unfold jk;rw[hP,x']);rw[hz];have HZ:=jD c';have S3:=jD x';have N3:=jD B';obtain⟨Av,cv,Ak,ck,Aa,ca,Ac,cc,Ar,cr,Al,cl,rfl,rfl,rfl,rfl,rfl,rfl⟩:=hA.form;have I':=jD hR;have N':=jD hC;obtain⟨A0,a0,rfl⟩:=ay hR.row;obtain⟨n0,O'⟩:∃n,n=rs.length:=⟨_,rfl⟩;have K2:=jD O';have q9:=hC.cell;have l9:=hC.lt;have j':=jD (And.intro X0 Q1);have F':=jD N1;rw[<-O']at hlen HZ q9;clear hA hP hz c' x' B' hN hS hF hR hC X0 Q1 N1 O';unfold dO at C' ⊢;obtain⟨i0,hi,U3,T2,c'⟩:=LD E4;have A2:=K8 w ⟨E,_,none⟩ hE;go_enter func50,ntmps50;go_wp2_with (refine Md rfl 33 (.tmp 5) rfl w.heap.size rfl 33 _ (0,0) _ (ap _ _ _ rfl) underlying33 rfl bM ?_);refine aw fun w1 e1=>?_
 obtain⟨P,hP⟩:∃q,q=w.heap.size:=⟨_,rfl⟩;have d':KY w w1:=gb e1;have H0:w1.heap[P]?=some (.cells [.string q.nm,.slice Av q.vars.length cv,.slice Ak q.key.length ck,.int .i64 q.pat.op,.slice Aa q.pat.args.length ca,.int .i64 q.pat.ty,.int .i64 q.pat.vr,.int .i64 q.pat.sc,.int .i64 q.pat.sp,.int .i64 q.pat.cond.op,.slice Ac q.pat.cond.args.length cc,.int .i64 q.pat.cond.vr,.int .i64 q.pat.cond.fl,.int .i64 q.pat.cond.kd,.int .i64 q.pat.cond.val.kind,.int .i64 q.pat.cond.val.num,.string q.pat.cond.val.text,.slice Ar q.rets.length cr].toArray 33 (0,0)):=by rw[e1];exact ap _ _ _ hP
 have HP:=jD hP;rw[<-hP];clear e1 hP;refine (C'.out _ (ab F'.out d')).mono ?_;rintro e w2 ⟨vm,ms,rfl,⟨z',p'⟩,b'⟩;have S1:=ao b' H0;have O:=ab d' b';have J:=jD O;have Y3:=jD b';have N2:=jD z';have V4:=jD p';have O2:=jD S1;have Z':=jD (N'.out.keep O);have R0:=jD (I'.out.grow O);have e2:=aa O hE;have c2:=aa O q9;have N4:=K8 w2 ⟨E,_,none⟩ e2;have H4:=K8 w2 ⟨C,_,none⟩ c2;have T1:P<w1.heap.size:=aD H0;have A1:=jD (And.intro T1 (And.intro d'.size b'.size));obtain⟨⟨Am,cm,rfl,m1,m2,W1⟩,M1⟩:=id p';have E2:=jD W1;have S2:=jD M1;simp only at z';have E1:ms.length=M.length:=by rw[<-z',Lm]
 obtain⟨nm,T0⟩:∃n,n=ms.length:=⟨_,rfl⟩;have W3:=jD T0;rw[<-T0]at E1 ⊢;have K4:nm<=4096:=by omega
 have U0:Hid ((if pe≠0 then pe else if 4096<n0+nm then 17 else FR.2)=z):=jD (by rw[E1];exact HZ.out);clear d' b' O H0 S1 hE q9 l9 A2 T1 z' p' W1 M1 T0 m1 m2 HZ C' N' I'
 by_cases h0:pe=0
 case neg =>
  have Y4:(pe != 0)=true:=jQ h0;obtain rfl:pe=z:=by have h:=U0.out;rw[K7 h0]at h;exact h
  have X2:=jD h0;clear h0;go_wp2;go_ret;exact⟨rfl,bw J.out,fun h=>absurd h X2.out⟩
 subst h0;have P':Hid ((if 4096<n0+nm then 17 else FR.2)=z):=jD (by have h:=U0.out;rw[K6 jS]at h;exact h);have T4:IntKind.i64.wrap ((n0:Int)+(nm:Int))=(n0:Int)+(nm:Int):=IntWalk.i64_in _ om;clear U0
 by_cases h4:4096<n0+nm
 ·have A3:(4096:Int)<(n0:Int)+(nm:Int):=by omega
  obtain rfl:17=z:=by have h:=P'.out;rw[K7 h4]at h;exact h
  clear h4;go_wp2;go_ret;exact⟨rfl,bw J.out,fun h=>absurd h dc⟩
 have A3:¬(4096:Int)<(n0:Int)+(nm:Int):=by omega
 have V1:Hid (FR.2=z):=jD (by have h:=P'.out;rw[K6 h4]at h;exact h);have Z3:n0+nm<=4096:=by omega
 clear P' h4;go_wp2_with fail
 go_loopw [30] (fun j wr=>∃(k:Nat) (a':Value) (Z:List RV) (done:List (List Bnd × List Vl)),k<=nm/\j=KW k/\Hid (BoxX wr C a'/\RW B wr a' Z/\Z.length=n0+k)/\Hid (KeepX (C::gs) w2 wr/\∀g,a'.ownBlock=some g->g∈gs\/w2.heap.size<=g) /\
  Hid (Z.map (·.1)=rs.map (·.1)++done.map (fun x=>⟨i,x.1,x.2⟩)/\(done++(fV l q.vars.length q.rets (M.drop k)).1,(fV l q.vars.length q.rets (M.drop k)).2)=FR)) (fun j _=>nm-(intOf j).toNat)
 case atStart=>exact⟨0,_,rs,[],Lb _,rfl,jD ⟨Z'.out,R0.out,by rw[<-K2.out];rfl⟩,jD ⟨KeepX.refl _ _,fun g G=>.inl (j'.out.1 g G)⟩,jD ⟨by simp,by rw[L1,S3.out];rfl⟩⟩
 case round =>
  obtain⟨k,a',Z,done,hk,rfl,f',D,A'⟩:=hrel
  by_cases P4:k<nm
  ·have W2:(k:Int)<(nm:Int):=by omega
   have V0:k<ms.length:=by have:=W3.out;omega
   obtain⟨⟨m,um⟩,O1⟩:∃e,e=ms[k]:=⟨_,rfl⟩;have g':ms[k]?=some (m,um):=by rw[O1];exact K9 V0
   have H':=Li g';obtain⟨b,o,rfl,d',b',O0⟩:=E2.out k _ g';have h':=S2.out _ H';simp only at O0 h';have R':M[k]?=some m:=by rw[<-N2.out,LI,g'];rfl
   have J':=N3.out m (Li R');have A5:C<w.heap.size:=by omega
   have O4:=A1.out;have F:∀g,w1.heap.size<=g->g∉C::gs:=fun g G q'=>by
    rcases List.mem_cons.1 q' with e|e
    ·omega
    ·have:=(j'.out.2 g e).2;omega
   have S4:=jD F;have Z1:P∉C::gs:=fun q'=>by
    have:=HP.out;rcases List.mem_cons.1 q' with e|e
    ·omega
    ·have:=(j'.out.2 P e).2;omega
   have Y1:E∉C::gs:=fun q'=>by
    rcases List.mem_cons.1 q' with e|e
    ·omega
    ·have:=(j'.out.2 E e).1;omega
   have c0:KX wr b (o+k) um:=D.out.1.cell O0 (F b d');have er:=D.out.1.cell e2 Y1;have Z0:=jD (D.out.1.heap O2.out Z1);have D':=jD (D.out.1.bnds h'.1 fun g G=>⟨(h'.2 g G).2,F g (h'.2 g G).1⟩);have U1:=jD h'.2;have i':=f'.out.1;have q9:=i'.cell;have f9:=i'.frozen;have l9:=i'.lt;have P3:=K8 wr ⟨b,_,none⟩ c0;have Y0:=K8 wr ⟨E,_,none⟩ er;have R2:P<wr.heap.size:=aD Z0.out;have E':KY w0 wr:=F'.out.trans ((J.out.mono F'.out.size).trans (D.out.1.below (by have:=F'.out.size;have:=J.out.size;omega) (fun g G=>by rcases List.mem_cons.1 G with e|e;omega;have:=(j'.out.2 g e).1;omega)));have U4:=jD E';obtain⟨Y',Q0,rfl⟩:=ay f'.out.2.1.row;obtain⟨nr,S'⟩:∃n,n=Z.length:=⟨_,rfl⟩;have k':=f'.out.2.1;have S0:=f'.out.2.2;have r':=D.out.2;rw[<-S']at q9 k' S0 i' r';have G':=jD k';have U':=jD S';have H3:=jD i';have s':=jD r';have A4:nr<4096:=by omega
   have Y2:=jD S0;have X4:(nr:Int)<=9223372036854775807:=by omega
   obtain⟨⟨fv,fe⟩,hQ⟩:∃r,rL l q.vars.length q.rets m=r:=⟨_,rfl⟩;have t':=jD (fun (W:World) (hW:KY wr W)=>Q2.out W m um (.string q.nm) (.slice Ak q.key.length ck) (KW q.pat.op) (.slice Aa q.pat.args.length ca) (KW q.pat.ty) (KW q.pat.vr) (KW q.pat.sc) (KW q.pat.sp) (KW q.pat.cond.op) (.slice Ac q.pat.cond.args.length cc) (KW q.pat.cond.vr) (KW q.pat.cond.fl) (KW q.pat.cond.kd) (KW q.pat.cond.val.kind) (KW q.pat.cond.val.num) (.string q.pat.cond.val.text) (E'.trans (hW.mono E'.size)) (D'.out.stays cE hW) J');rw[hQ]at t';have hD:=A'.out.2;rw[zg R',hQ]at hD;have HD:=jD hD;have K5:=jD (And.intro d' b');obtain⟨Au,cu,rfl,-⟩:=id D'.out;obtain⟨nu,P1⟩:∃n,n=m.length:=⟨_,rfl⟩;rw[<-P1]at c0 t' D' U1;unfold rY at t';clear O1 g' H' O0 h' R' J' hQ hD E' i' d' b' F Z1 Y1 V0 P1 S' k' r' f' S0;go_wp2_with (refine Md rfl 33 (.tmp 5) rfl P rfl 33 _ (0,0) _ (aE Z0.out) underlying33 rfl bM ?_);refine aw fun w4 e4=>?_
   obtain⟨X,hX⟩:∃q,q=wr.heap.size:=⟨_,rfl⟩;have x0:KX w4 X 0 (.slice Au nu cu):=by rw[e4,hX];show _=_;go_simp
   have y':KY wr w4:=gb e4;rw[<-hX];clear e4 hX;refine (t'.out _ y').mono ?_;rintro e w5 ⟨uv,rfl,X',P0,V'⟩;have x0:=aa V' x0;have n':=ab y' V';have l':=H3.out.keep n';have q5:=l'.cell;have f5:=l'.frozen;have l5:=l'.lt;have W4:=K8 w5 ⟨X,_,none⟩ x0;have P2:=jD l';have I:=jD n';have T':=jD (And.intro X' (fun g G=>(⟨Lf y'.size (P0 g G).1,(P0 g G).2⟩:wr.heap.size<=g/\g<w5.heap.size)));obtain⟨Aw,cw,rfl,-⟩:=id X';obtain⟨nw,N0⟩:∃n,n=fv.length:=⟨_,rfl⟩;rw[<-N0]at T'
   try rw[<-N0]
   clear y' V' n' X' P0 l' q9 f9 l9 c0 er P3 Y0 R2 t' N0
   by_cases hz:fe=0
   case neg =>
    have Q4:(fe != 0)=true:=jQ hz;obtain rfl:fe=z:=by have h:=HD.out;rw[K7 hz]at h;rw[<-V1.out,<-h]
    have K3:=jD hz;clear hz;go_wp2;go_ret;exact⟨rfl,(bw J.out).trans (D.out.1.trans (bw I.out)),fun h=>absurd h K3.out⟩
   subst hz;have H2:Hid ((done++(m,fv)::(fV l q.vars.length q.rets (M.drop (k+1))).1,(fV l q.vars.length q.rets (M.drop (k+1))).2)=FR):=jD (by have h:=HD.out;rw[K6 jS]at h;exact h);have L':=jD (G'.out.grow I.out);have M':Hid (w5.ownsRow B 58 3 (.slice Y' nr Q0) nr (dN Z)):=jD (by have h:=L'.out.row;rw[<-U'.out]at h;exact h);have R4:B<=w5.heap.size:=by have:=D.out.1.size;have:=I.out.size;have:=J.out.size;omega
   clear HD;go_wp2_with (at_builtin;refine aR _ rfl (.tmp 44) (.tmp 49) 50 rfl B 58 i0 _ 3 56 underlying50 hi U3 T2 c' rfl dc (.slice Y' nr Q0) nr (dN Z) rfl (aj M'.out (ag _ _)) (some ⟨w5.heap.size,0,none⟩) 1 1 [KW i,.slice Au nu cu,.slice Aw nw cw] rfl (bE _ [KW i,.slice Au nu cu,.slice Aw nw cw] _ 1 3 _ jS rfl (by simp[Value.oneCell'])) (by unfold maxLen;omega) om (by simp;omega) ?_;intro v8 w8 e' K0 u';obtain⟨A8,c8,rfl⟩:=ay e';have m':BoxX w8 C (.slice Y' nr Q0):=(let ⟨t,h⟩:=P2.out.keep (ag w5 _);⟨t,(K0.block C (by simp;omega) (fun e=>by have:=(ah M'.out e.symm).1;omega)).trans h⟩);have q8:=m'.cell;have f8:=m'.frozen;have l8:=m'.lt;have R3:=jD m';have O3:=jD e';have R1:=jD K0;have X1:=jD u';clear m' e' K0 u' q5 f5 l5);refine⟨⟨k+1,.slice A8 (nr+1) c8,Z++[(⟨i,m,fv⟩,.slice Au nu cu,.slice Aw nw cw)],done++[(m,fv)],by omega,by go_num,jD ⟨R3.out.set _,RW.box (RW.app (L'.out.grow (ag _ _)) ?_ ?_ ?_ ?_ (by rw[<-U'.out];exact O3.out) R1.out X1.out) V3 _,by have:=U'.out;have:=Y2.out;simp;omega⟩,jD ⟨(zH ((D.out.1.trans (bw I.out)).trans (bw (ag w5 _))) R1.out (fun g G=>(s'.out g G).imp (Lh _) id)).trans (eZ _ jS _),?_⟩,jD ⟨by rw[LH,A'.out.1,LH,L7];rfl,by rw[L7];exact H2.out⟩⟩,by simp[intOf];omega⟩
   ·exact D'.out.stays cE (ab I.out (ag _ _))
   ·intro g G;have h1:=U1.out g G;have h2:=A1.out;have h3:=D.out.1.size;have h4:=I.out.size;have h5:=J.out.size;refine⟨by omega,by simp;omega,fun e=>?_⟩;rcases s'.out g e.symm with h|h
    ·have:=(j'.out.2 g h).2;have:=HP.out;have:=h2.2.1;omega
    ·omega
   ·exact T'.out.1.stays aC (ag _ _)
   ·intro g G;have h1:=T'.out.2 g G;have h3:=D.out.1.size;have h5:=J.out.size;refine⟨by omega,by simp;omega,fun e=>?_⟩;have:=(ah G'.out.row e.symm).2;omega
   ·intro g G;rcases X1.out with h|h
    ·exact s'.out g (h▸G)
    ·right
     rw[h]at G;injection G with G;have h3:=D.out.1.size;have h4:=I.out.size;simp at G;omega
  ·have W2:¬(k:Int)<(nm:Int):=by omega
   have hD:=A'.out.2;rw[Lq om,fV,Mz]at hD;obtain rfl:0=z:=by rw[<-V1.out,<-hD]
   have HD:=jD hD;clear hD;go_wp2;go_ret;exact⟨rfl,(bw J.out).trans D.out.1,fun _=>⟨_,Z,f'.out.1,f'.out.2.1,by rw[A'.out.1,K1.out,<-HD.out],fun g G=>by rcases D.out.2 g G with h|h;exact .inl h;right;have:=J.out.size;omega⟩⟩
end Go.Proofs.YtokconodddedhaaGreatDoor
