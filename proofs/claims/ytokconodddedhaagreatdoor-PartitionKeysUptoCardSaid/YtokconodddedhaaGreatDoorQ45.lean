/- Part. -/
import Derived.Test.YtokconodddedhaaGreatDoorQ43
import Derived.Test.YtokconodddedhaaGreatDoorQ42
set_option maxRecDepth 100000
set_option maxHeartbeats 16000000
set_option linter.unusedVariables false
set_option linter.unusedSimpArgs false
namespace Go.Proofs.YtokconodddedhaaGreatDoor
open Go.Proofs.Tryz Go.RowKit
def tB (e:Evt):Int:=if e.src<0\/8<=e.src then 32 else if e.sq<0\/1099511627776<e.sq\/e.tm<0\/1099511627776<e.tm then 2 else 0
def fvE:List Fld->List Vl->Int
 | f::fs,v::vs=>if eu v≠0 then eu v else if v.kind≠f.kind then 9 else fvE fs vs
 | _,_=>0
theorem D6 {fs:List Fld} {vs:List Vl} {k:Nat} {f:Fld} {v:Vl} (hf:fs[k]?=some f) (z:vs[k]?=some v) :
  fvE (fs.drop k) (vs.drop k)=if eu v≠0 then eu v else if v.kind≠f.kind then 9 else fvE (fs.drop (k+1)) (vs.drop (k+1)):=by
 obtain⟨h,rfl⟩:=List.getElem?_eq_some_iff.1 hf;obtain⟨D,rfl⟩:=List.getElem?_eq_some_iff.1 z;rw[Lr h,Lr D,fvE]
def pQ (ts:List Sch) (e:Evt):Int :=
 if tB e≠0 then tB e else if e.ty<0\/(ts.length:Int)<=e.ty then 6
 else if e.vals.length≠(fieldsOf ts e.ty).length then 15 else fvE (fieldsOf ts e.ty) e.vals
def yh (ts:List Sch) (e:Evt):Int:=if fU ts≠0 then fU ts else pQ ts e
theorem GW (x:Evt) (A:Option Addr) (n c:Nat) (w:World):KZ 171 #[cJ x (.slice A n c)] w (KW (tB x)):=by
 obtain⟨s,q,t,m,vl⟩:=x;obtain⟨R,h⟩:=jE (tB ⟨s,q,t,m,vl⟩);have z:=jD h;rw[h];clear h;unfold cJ;go_enter func171,ntmps171;go_wp2
 all_goals
  go_ret;exact⟨cd (by rw[<-z.out];clear z;unfold tB;dsimp only;exact jA),ag _ _⟩
theorem yo (ts:List Sch) (x:Evt) (vt v:Value) (w:World) (hT:iZ w vt ts) (hv:aV w v x.vals) :
  KZ 100 #[vt,cJ x v] w (KW (pQ ts x)):=by
 have c':=jD (GW x);obtain⟨R,hR⟩:=jE (pQ ts x);have D:=hR;unfold pQ at D;rw[hR];obtain⟨ne,z'⟩:∃q,tB x=q:=⟨_,rfl⟩;rw[z']at c' D;obtain⟨At,ct,rfl,t1,t2,u'⟩:=id hT;obtain⟨Av,cv,rfl,v1,v2,G'⟩:=id hv;have U':=ax t1 t2;have R':=ax v1 v2;have J':=jD u';have L':=jD G';obtain⟨nt,I⟩:∃n,n=ts.length:=⟨_,rfl⟩;obtain⟨G,Z⟩:∃n,n=x.vals.length:=⟨_,rfl⟩;rw[<-I]at D U' ⊢;rw[<-Z]at D R' ⊢;have t':=jD I;have H':=jD Z;have HR:=jD D;unfold cJ at c' ⊢;clear hT hv hR D z' u' G' t1 t2 v1 v2 I Z;go_enter func100,ntmps100;go_wp2_with fail;refine aw fun w1 e1=>?_
 obtain⟨P,hP⟩:∃q,q=w.heap.size:=⟨_,rfl⟩;have x':KY w w1:=gb e1;have p2:KX w1 P 2 (KW x.ty):=by rw[e1,hP];show _=_;go_simp
 have p4:KX w1 P 4 (.slice Av G cv):=by rw[e1,hP];show _=_;go_simp
 rw[<-hP];clear e1 hP;refine (c'.out _ _ _ _).mono ?_;rintro e w2 ⟨rfl,b'⟩;have z:=jD (ab x' b');replace p2:=aa b' p2;replace p4:=aa b' p4;have O0:=K8 w2 ⟨P,_,none⟩ p2;clear x' b' c'
 by_cases h0:ne=0
 case neg =>
  have T0:(ne != 0)=true:=jQ h0;obtain rfl:ne=R:=by have h:=HR.out;rw[K7 h0]at h;exact h
  clear h0;exact fi z.out
 subst h0;have i':Hid ((if x.ty<0\/(nt:Int)<=x.ty then 6 else if G≠(fieldsOf ts x.ty).length then 15 else fvE (fieldsOf ts x.ty) x.vals)=R):=jD (by have h:=HR.out;rw[K6 jS]at h;exact h);clear HR
 by_cases hr:x.ty<0\/(nt:Int)<=x.ty
 ·obtain rfl:6=R:=by have h:=i'.out;rw[K7 hr]at h;exact h
  by_cases q':x.ty<0
  ·clear hr;exact fi z.out
  ·have y':(nt:Int)<=x.ty:=by omega
   have A0:0<=x.ty:=by omega
   clear hr;exact fi z.out
 have A':Hid ((if G≠(fieldsOf ts x.ty).length then 15 else fvE (fieldsOf ts x.ty) x.vals)=R):=jD (by have h:=i'.out;rw[K6 hr]at h;exact h);clear i';have q':¬x.ty<0:=by omega
 have y':¬(nt:Int)<=x.ty:=by omega
 obtain⟨i,hi⟩:∃i:Nat,x.ty=(i:Int):=⟨x.ty.toNat,by omega⟩;have m':i<ts.length:=by have:=t'.out;omega
 obtain⟨bt,ot,rfl,vf,D',s0,s1⟩:=J'.out i ts[i] (K9 m');have k':fieldsOf ts x.ty=ts[i].fields:=by unfold fieldsOf;rw[hi,MQ,ME,K9 m'];rfl
 obtain⟨fs,E'⟩:∃q,q=ts[i].fields:=⟨_,rfl⟩;rw[<-E']at k' D';have s':Hid ((if G≠fs.length then 15 else fvE fs x.vals)=R):=jD (by have h:=A'.out;rw[k']at h;exact h);obtain⟨Af,cf,rfl,f1,f2,F'⟩:=D';have X':=ax f1 f2;have T':=jD F';replace s1:=aa z.out s1;have Q0:=K8 w2 ⟨bt,_,none⟩ s1;obtain⟨nf,O⟩:∃n,n=fs.length:=⟨_,rfl⟩;have B':=jD O;rw[<-O]at s1 X';have P0:i<nt:=by have:=t'.out;omega
 have H0:¬(i:Int)<0:=by omega
 have Z':¬(nt:Int)<=(i:Int):=by omega
 have Y':(i:Int)<(nt:Int):=by omega
 have j':Hid ((if G≠nf then 15 else fvE fs x.vals)=R):=jD (by have h:=s'.out;rw[<-B'.out]at h;exact h);rw[hi]at p2;clear A' s' s0 k' E' F' f1 f2 m' hr q' y' hi O
 by_cases hl:G=nf
 case neg =>
  have R0:((G:Int) != (nf:Int))=true:=by simp;omega
  obtain rfl:15=R:=by have h:=j'.out;rw[K7 hl]at h;exact h
  exact fi z.out
 subst hl;have V':Hid (fvE fs x.vals=R):=jD (by have h:=j'.out;rw[K6 jS]at h;exact h);clear j';go_wp2_with fail
 go_loopw [40] (fun i wr=>∃k:Nat,k<=G/\i=KW k/\Hid (fvE (fs.drop k) (x.vals.drop k)=R/\KY w2 wr)) (fun i _=>G-(intOf i).toNat)
 case atStart=>exact⟨0,Lb _,rfl,jD ⟨V'.out,La _ _⟩⟩
 case round =>
  obtain⟨k,hk,rfl,hI⟩:=hrel;have hb:=ab z.out hI.out.2
  by_cases K0:k<G
  ·have N':(k:Int)<(G:Int):=by omega
   have e':k<x.vals.length:=by have:=H'.out;omega
   have d':k<fs.length:=by have:=B'.out;omega
   obtain⟨bv,ov,rfl,c0,c1,c2⟩:=L'.out k x.vals[k] (K9 e');obtain⟨bf,of,rfl,d0,d1⟩:=T'.out k fs[k] (K9 d');have hD:=hI.out.1;rw[D6 (K9 d') (K9 e')]at hD;obtain⟨y,hy⟩:∃q,q=x.vals[k]:=⟨_,rfl⟩;obtain⟨f,hf⟩:∃q,q=fs[k]:=⟨_,rfl⟩;rw[<-hy]at hD c0 c1 c2;rw[<-hf]at hD d0 d1;replace c0:=aa hb c0;replace c1:=aa hb c1;replace c2:=aa hb c2;replace d1:=aa hb d1;have I':=K8 wr ⟨bv,_,none⟩ c0;have O':=K8 wr ⟨bf,_,none⟩ d1;have h':=jD (ja y);obtain⟨ve,C'⟩:∃q,eu y=q:=⟨_,rfl⟩;rw[C']at hD h';unfold vlV at h';have n':=jD hD;have S':=jD hI.out.2;clear hy hf C' hD d0 e' d' hI hb;go_wp2_with fail;refine aw fun w4 e4=>?_
   obtain⟨X,hX⟩:∃q,q=wr.heap.size:=⟨_,rfl⟩;have x0:KX w4 X 0 (KW y.kind):=by rw[e4,hX];show _=_;go_simp
   have r':KY wr w4:=gb e4;rw[<-hX];clear e4 hX;refine (h'.out _).mono ?_;rintro e w6 ⟨rfl,l'⟩;have x0:=aa l' x0;have J:=ab r' l';have f':=jD (ab S'.out J);have d1:=aa J d1;have S0:=K8 w6 ⟨X,_,none⟩ x0;have O':=K8 w6 ⟨bf,_,none⟩ d1;clear r' l' J c0 c1 c2 I'
   by_cases hz:ve=0
   case neg =>
    have N0:(ve != 0)=true:=jQ hz;obtain rfl:ve=R:=by have h:=n'.out;rw[K7 hz]at h;exact h
    clear hz;exact fi (ab z.out f'.out)
   subst hz;have g':Hid ((if y.kind≠f.kind then 9 else fvE (fs.drop (k+1)) (x.vals.drop (k+1)))=R):=jD (by have h:=n'.out;rw[K6 jS]at h;exact h);clear n';go_wp2_with fail;refine rgn (fun WW:World=>KY w6 WW/\KX WW X 0 (KW y.kind)/\KX WW bf (of+k*2+1) (KW f.kind)) (Below w6.heap.size w6) (fun WW hW=>⟨hW,aa hW x0,aa hW d1⟩) ((La _ _).drew) (fun U0 a'=>?_);refine tkH [0,1,2,3,4,5,6,7] ?_;refine wpAnyH_done kr (NoPanic.normal ?_) _;rotate_left 1
   all_goals
    by_cases F:y.kind=f.kind
    ·have p':(y.kind != f.kind)=false:=jQ F;have M':Hid (fvE (fs.drop (k+1)) (x.vals.drop (k+1))=R):=jD (by have h:=g'.out;rw[K6 (jQ F)]at h;exact h);clear g' F;go_wp2_with fail;refine⟨⟨k+1,by omega,by go_num,jD ⟨M'.out,ab f'.out a'.1⟩⟩,by simp[intOf];omega⟩
    ·have p':(y.kind != f.kind)=true:=jQ F;obtain rfl:9=R:=by have h:=g'.out;rw[K7 F]at h;exact h
     clear F;go_wp2;go_ret;exact⟨rfl,ab z.out (ab f'.out a'.1)⟩
  ·have N':¬(k:Int)<(G:Int):=by omega
   obtain rfl:0=R:=by
    have h:=hI.out.1;rw[Lq (l:=x.vals) (by have:=H'.out;omega)]at h
    cases P':fs.drop k<;>rw[P']at h<;>exact h
   exact fi hb
theorem xI (ts:List Sch) (x:Evt) (vt v:Value) (w:World) (hT:iZ w vt ts) (I:∀s∈ts,fM s) (hv:aV w v x.vals) :
  KZ 49 #[vt,cJ x v] w (KW (yh ts x)):=by
 have G:=jD (fun (W:World) (hW:KY w W)=>kg ts vt W (hT.stays bU hW) I);have F:=jD (fun (W:World) (hW:KY w W)=>yo ts x vt v W (hT.stays bU hW) (hv.stays aC hW));obtain⟨R,hR⟩:=jE (yh ts x);have D:=hR;unfold yh at D;rw[hR];obtain⟨ae,f'⟩:∃q,fU ts=q:=⟨_,rfl⟩;obtain⟨ve,c'⟩:∃q,pQ ts x=q:=⟨_,rfl⟩;rw[f']at G D;rw[c']at F D;have HR:=jD D;obtain⟨At,ct,rfl,-⟩:=id hT;obtain⟨Av,cv,rfl,-⟩:=id hv;obtain⟨nt,e'⟩:∃n,n=ts.length:=⟨_,rfl⟩;obtain⟨nv,d'⟩:∃n,n=x.vals.length:=⟨_,rfl⟩;rw[<-e']at G F ⊢;rw[<-d']at F ⊢;unfold cJ at F ⊢;clear hT hv hR D f' c' e' d' I;go_enter func49,ntmps49;go_wp2_with fail;refine aw fun w1 J=>?_
 obtain⟨P,O⟩:∃q,q=w.heap.size:=⟨_,rfl⟩;have a':KY w w1:=gb J;have p0:KX w1 P 0 (KW x.src):=by rw[J,O];show _=_;go_simp
 have p1:KX w1 P 1 (KW x.sq):=by rw[J,O];show _=_;go_simp
 have p2:KX w1 P 2 (KW x.ty):=by rw[J,O];show _=_;go_simp
 have p3:KX w1 P 3 (KW x.tm):=by rw[J,O];show _=_;go_simp
 have p4:KX w1 P 4 (.slice Av nv cv):=by rw[J,O];show _=_;go_simp
 rw[<-O];clear J O;refine (G.out _ a').mono ?_;rintro e w2 ⟨rfl,z⟩;have Z:=jD (ab a' z);replace p0:=aa z p0;replace p1:=aa z p1;replace p2:=aa z p2;replace p3:=aa z p3;replace p4:=aa z p4;have j':=K8 w2 ⟨P,_,none⟩ p2;clear a' z G
 by_cases h0:ae=0
 case neg =>
  have i':(ae != 0)=true:=jQ h0;obtain rfl:ae=R:=by have h:=HR.out;rw[K7 h0]at h;exact h
  clear h0;exact fi Z.out
 subst h0;have g':Hid (ve=R):=jD (by have h:=HR.out;rw[K6 jS]at h;exact h);clear HR;go_wp2_with fail;refine (F.out _ Z.out).mono ?_;rintro e w3 ⟨rfl,b'⟩;have h':=jD (ab Z.out b');clear b';go_wp2;go_ret;exact⟨by rw[<-g'.out];rfl,h'.out⟩
def Jr (w:World) (b p:Nat) (x:Rsl):Prop:=∃h z,bQ w h x.bs/\aV w z x.vs/\w.cell? ⟨b,p,none⟩=some (KW x.i)/\w.cell? ⟨b,p+1,none⟩=some h/\w.cell? ⟨b,p+2,none⟩=some z
theorem jx:gG Jr:=fun _ _ _ _ _ hb ⟨h,z,D,J,F,G,I⟩=>⟨h,z,D.stays cE hb,J.stays aC hb,aa hb F,aa hb G,aa hb I⟩
abbrev Gj (w:World) (v:Value) (l:List Rsl):Prop:=Sl Jr 3 w v l
theorem ij:∀{l:List RV} {k:Nat} {x:RV},l[k]?=some x->∀r,r<3->(dN l)[k*3+r]?=(iQ x)[r]?
 | [],k,x,h,_,_=>by simp at h
 | y::l,0,x,h,r,hr=>by
  simp at h;subst h;unfold dN;rw[Mk,My,Lu,LR (by simpa [iQ] using hr)]
 | y::l,k+1,x,h,r,hr=>by
  have z:=ij (l:=l) (k:=k) (x:=x) (jQ h) r hr;unfold dN at z ⊢;rw[Mk,Mf (by simp[iQ];omega),<-z];congr 1;simp[iQ];omega
theorem RW.is {B:Nat} {W:World} {F:Value} {rs:List RV} (h:RW B W F rs):Gj W F (rs.map (·.1)):=by
 have I:∀u∈dN rs,u.oneCell'=true:=fun u hu=>by
  obtain⟨e,he,hu⟩:=List.mem_flatMap.1 hu;obtain⟨A,c,hm,-⟩:=(h.mat e he).1;obtain⟨A',c',Z,-⟩:=(h.val e he).1;simp only[iQ,Lv,LM,LN]at hu;rcases hu with rfl|rfl|rfl
  ·rfl
  ·rw[hm];rfl
  ·rw[Z];rfl
 obtain⟨A,c,rfl,h2,G,h4⟩:=cU h.row I;refine⟨A,c,by rw[Lm],by rw[Lm];exact h2,G,fun k x hk=>?_⟩;rw[LI]at hk;obtain⟨e,he,rfl⟩:=Option.map_eq_some_iff.1 hk;have J:=(List.getElem?_eq_some_iff.1 he).1;have z:=Li he;obtain⟨b,o,O,D⟩:=h4.2.2 om;refine⟨b,o,O,e.2.1,e.2.2,(h.mat e z).1,(h.val e z).1,D _ _ ?_,?_,?_⟩
 ·have:=ij he 0 dc;simpa [iQ] using this
 ·have:=ij he 1 dc;rw[LJ];exact D _ _ (by simpa [iQ] using this)
 ·have:=ij he 2 dc;rw[LJ];exact D _ _ (by simpa [iQ] using this)
def tU (ts:List Sch):List Evt->Int
 | []=>0
 | e::r=>if yh ts e≠0 then yh ts e else tU ts r
theorem Cg {ts:List Sch} {l:List Evt} {k:Nat} {e:Evt} (h:l[k]?=some e):tU ts (l.drop k)=if yh ts e≠0 then yh ts e else tU ts (l.drop (k+1)):=by
 obtain⟨z,rfl⟩:=List.getElem?_eq_some_iff.1 h;rw[Lr z,tU]
def dG (l:List Evt) (k n:Nat):List Qry->List Rsl × Int
 | []=>([],0)
 | q::r=>if kV l n q≠0 then ([],kV l n q) else (jk l k q++(dG l (k+1) (n+(jk l k q).length) r).1,(dG l (k+1) (n+(jk l k q).length) r).2)
theorem uq {l:List Evt} {k n:Nat} {L:List Qry} {q:Qry} (h:L[k]?=some q) :
  dG l k n (L.drop k)=if kV l n q≠0 then ([],kV l n q) else (jk l k q++(dG l (k+1) (n+(jk l k q).length) (L.drop (k+1))).1,(dG l (k+1) (n+(jk l k q).length) (L.drop (k+1))).2):=by
 obtain⟨z,rfl⟩:=List.getElem?_eq_some_iff.1 h;rw[Lr z,dG]
def Ja (ts:List Sch) (qs:List Qry) (l:List Evt):List Rsl × Int :=
 if (sR ts qs).2≠0 then ([],(sR ts qs).2) else if bC l≠0 then ([],bC l) else if tU ts l≠0 then ([],tU ts l)
 else if (dG l 0 0 qs).2≠0 then ([],(dG l 0 0 qs).2) else ((dG l 0 0 qs).1,0)
structure Gp (w:World) (ts:List Sch) (qs:List Qry) (l:List Evt) (d:Nat) (vt vq vl:Value):Prop where
 prog:ProgAsk w ts qs d vt vq
 evs:bm w vl l
 wf:∀e∈l,∀x∈e.vals,gV x
 vals:∀e∈l,e.vals.length<=1048576
 few:∀q∈qs,ptB q.pat<=1048576/\SmallN l.length q.pat/\((aZ q l).2=0->(ei q.pat (dw q.key l)).length<=4096)/\(dP q l).1.length<=4096/\(∀m∈(dP q l).1,m.length<=1048576)/\∀x∈q.rets,sh x
def Ka (w:World) (r:List Rsl × Int) (e:Ending) (W:World):Prop:=∃v,e=.returned (.tuple #[v,KW r.2])/\Gj W v r.1/\KY w W
theorem DR {l:List Evt} {q:Qry} {n:Nat} (k:Int) (h:kV l n q=0) (J:n<=4096):n+(jk l k q).length<=4096:=by
 have key:∀(F:Nat) (z:List Ex) (M:List (List Bnd)),(fV l F z M).1.length<=M.length:=fun F z M=>by
  induction M with
  | nil=>simp[fV]
  | cons m r I =>
   rw[fV]
   split
   ·simp
   ·simp;exact I
 unfold kV at h;unfold jk;rw[Lm];have O:=key q.vars.length q.rets (dP q l).1
 by_cases D:(dP q l).2≠0
 ·rw[K7 D]at h;exact absurd h D
 ·rw[K6 D]at h
  by_cases G:4096<n+(dP q l).1.length
  ·rw[K7 G]at h;exact absurd h dc
  ·omega
theorem Cp {C:Nat} {gs:List Nat} {a b c:World} (h:KeepX [C] a b) (k:KeepX (C::gs) b c) (z:∀g∈gs,a.heap.size<=g):KeepX [C] a c :=
 ⟨k.os.trans h.os,k.tape.trans h.tape,k.output.trans h.output,Lf h.size k.size,fun j F D=>(k.block j (Ll F h.size) (fun e=>by
  rcases List.mem_cons.1 e with e|e
  ·exact D (by simp[e])
  ·have:=z j e;omega)).trans (h.block j F D)⟩
theorem ya (d:Nat) (ts:List Sch) (qs:List Qry) (l:List Evt) (vt vq vl:Value) (w:World) (hA:Gp w ts qs l d vt vq vl) :
  Calls prog 14 #[.agg #[vt,vq],vl] w (Ka w (Ja ts qs l)):=by
 have D:=jD hA;have m':=jD (fun (W:World) (hW:KY w W)=>DV d ts qs vt vq W (hA.prog.stays hW));have y':=jD (fun (W:World) (hW:KY w W)=>gA l vl W (hA.evs.stays aK hW));have Y0:=jD (fun (W:World) (x:Evt) (u:Value) (hW:KY w W) (hu:aV W u x.vals)=>xI ts x vt u W (hA.prog.typ.stays bU hW) hA.prog.fit hu);obtain⟨R,hR⟩:=jE (Ja ts qs l);have O:=hR;unfold Ja at O;rw[hR];obtain⟨⟨pk,pe⟩,M1⟩:∃q,sR ts qs=q:=⟨_,rfl⟩;obtain⟨se,E1⟩:∃q,bC l=q:=⟨_,rfl⟩;obtain⟨ve,Y'⟩:∃q,tU ts l=q:=⟨_,rfl⟩;obtain⟨FR,H'⟩:∃q,dG l 0 0 qs=q:=⟨_,rfl⟩;rw[M1]at m' O;rw[E1]at y' O;rw[Y',H']at O;simp only at O;have HR:=jD O;have R2:=jD Y';have V2:=jD H';obtain⟨At,ct,rfl,-⟩:=id hA.prog.typ;obtain⟨Aq,cq,rfl,q1,q2,R0⟩:=id hA.prog.qry;obtain⟨Al,cl,rfl,l1,l2,R1⟩:=id hA.evs;have K2:=ax q1 q2;have S2:=ax l1 l2;have H3:=jD R0;have Q2:=jD R1;obtain⟨nt,U'⟩:∃n,n=ts.length:=⟨_,rfl⟩;obtain⟨nq,e'⟩:∃n,n=qs.length:=⟨_,rfl⟩;obtain⟨nl,d'⟩:∃n,n=l.length:=⟨_,rfl⟩;rw[<-U']at D m' Y0;rw[<-e']at D m' K2;have W1:=D.out;rw[<-d']at D y' S2;rw[<-U',<-e',<-d'];have S1:=jD e';have U0:=jD d';clear hA W1 hR O M1 E1 Y' H' R0 R1 q1 q2 l1 l2 U' e' d';go_enter func14,ntmps14;go_wp2_with fail;refine aw fun w1 e1=>?_
 obtain⟨E,R'⟩:∃q,q=w.heap.size+1:=⟨_,rfl⟩;obtain⟨P,hP⟩:∃q,q=w.heap.size:=⟨_,rfl⟩;have S':KY w w1:=gb e1;have p0:KX w1 P 0 (.slice At nt ct):=by rw[e1,hP];show _=_;go_simp
 have p1:KX w1 P 1 (.slice Aq nq cq):=by rw[e1,hP];show _=_;go_simp
 have e0:KX w1 E 0 (.slice Al nl cl):=by rw[e1,R'];show _=_;go_simp
 have O3:Hid (w.heap.size=P/\E=P+1):=jD ⟨by omega,by omega⟩;rw[<-R',<-hP];clear e1 R' hP;refine (m'.out _ S').mono ?_;rintro e w2 ⟨rfl,j'⟩;have M':=jD (ab S' j');replace p0:=aa j' p0;replace p1:=aa j' p1;replace e0:=aa j' e0;have x':=K8 w2 ⟨P,_,none⟩ p0;have f':=K8 w2 ⟨E,_,none⟩ e0;clear S' j' m'
 by_cases h0:pe=0
 case neg =>
  have X2:(pe != 0)=true:=jQ h0;obtain rfl:([],pe)=R:=by have h:=HR.out;rw[K7 h0]at h;exact h
  clear h0;go_wp2;exact Lc (v:=.tuple #[.slice none 0 0,KW pe]) (by simp[results,results14,go_sem]) rfl ⟨_,rfl,Sl.nil _ _ _ _ _ (Lb _),M'.out⟩
 subst h0;have N':Hid ((if se≠0 then ([],se) else if ve≠0 then ([],ve) else if FR.2≠0 then ([],FR.2) else (FR.1,0))=R):=jD (by have h:=HR.out;rw[K6 jS]at h;exact h);clear HR;go_wp2_with fail;refine (y'.out _ M'.out).mono ?_;rintro e w3 ⟨rfl,q'⟩;have V':=jD (ab M'.out q');replace p0:=aa q' p0;replace p1:=aa q' p1;replace e0:=aa q' e0;have x':=K8 w3 ⟨P,_,none⟩ p0;have f':=K8 w3 ⟨E,_,none⟩ e0;clear q' y'
 by_cases h0:se=0
 case neg =>
  have X2:(se != 0)=true:=jQ h0;obtain rfl:([],se)=R:=by have h:=N'.out;rw[K7 h0]at h;exact h
  clear h0;go_wp2;exact Lc (v:=.tuple #[.slice none 0 0,KW se]) (by simp[results,results14,go_sem]) rfl ⟨_,rfl,Sl.nil _ _ _ _ _ (Lb _),V'.out⟩
 subst h0;have X':Hid ((if ve≠0 then ([],ve) else if FR.2≠0 then ([],FR.2) else (FR.1,0))=R):=jD (by have h:=N'.out;rw[K6 jS]at h;exact h);clear N';have Y2:=jD p0;have P2:=jD p1;have N2:=jD e0;go_wp2_with fail
 go_loopw [32] (fun i wr=>∃k:Nat,k<=nl/\i=KW k/\Hid (tU ts (l.drop k)=ve/\KY w3 wr)) (fun i _=>nl-(intOf i).toNat)
 case atStart=>exact⟨0,Lb _,rfl,jD ⟨R2.out,La _ _⟩⟩
 case round =>
  obtain⟨k,hk,rfl,hI⟩:=hrel;have hb:=ab V'.out hI.out.2;replace p0:=aa hI.out.2 p0;replace p1:=aa hI.out.2 p1;replace e0:=aa hI.out.2 e0;have x':=K8 wr ⟨P,_,none⟩ p0;have f':=K8 wr ⟨E,_,none⟩ e0
  by_cases Y1:k<nl
  ·have O2:(k:Int)<(nl:Int):=by omega
   have I':k<l.length:=by have:=U0.out;omega
   obtain⟨b,o,rfl,uv,z',c0,c1,c2,c3,c4⟩:=Q2.out k l[k] (K9 I');have hD:=hI.out.1;rw[Cg (K9 I')]at hD;obtain⟨x,hx⟩:∃q,q=l[k]:=⟨_,rfl⟩;rw[<-hx]at hD z' c0 c1 c2 c3;replace c0:=aa hb c0;replace c1:=aa hb c1;replace c2:=aa hb c2;replace c3:=aa hb c3;replace c4:=aa hb c4;have T':=K8 wr ⟨b,_,none⟩ c0;have P0:=jD (z'.stays aC hb);have H2:=jD hb;have k':=jD (fun (W:World) (hW:KY wr W)=>Y0.out W x uv (ab H2.out hW) (P0.out.stays aC hW));obtain⟨ce,g'⟩:∃q,yh ts x=q:=⟨_,rfl⟩;rw[g']at hD k';obtain⟨Au,cu,rfl,-⟩:=id z';obtain⟨nu,Z0⟩:∃n,n=x.vals.length:=⟨_,rfl⟩;rw[<-Z0]at k' c4;unfold cJ at k';have b':=jD hD;have n':=jD hI.out.2;clear hx g' hD I' hI hb z' Z0 P0;go_wp2_with fail;refine aw fun w4 e4=>?_
   have J':KY wr w4:=gb e4;clear e4;refine (k'.out _ J').mono ?_;rintro e w6 ⟨rfl,h'⟩;have F':=ab J' h';have l':=jD (ab n'.out F');clear J' h' F' c0 c1 c2 c3 c4 T' p0 p1 e0 x' f' k'
   by_cases hz:ce=0
   case neg =>
    have A2:(ce != 0)=true:=jQ hz;have i':ve=ce:=by have h:=b'.out;rw[K7 hz]at h;exact h.symm
    obtain rfl:([],ce)=R:=by have h:=X'.out;rw[i',K7 hz]at h;exact h
    clear hz i';go_wp2;exact Lc (v:=.tuple #[.slice none 0 0,KW ce]) (by simp[results,results14,go_sem]) rfl ⟨_,rfl,Sl.nil _ _ _ _ _ (Lb _),ab V'.out l'.out⟩
   subst hz;have X1:Hid (tU ts (l.drop (k+1))=ve):=jD (by have h:=b'.out;rw[K6 jS]at h;exact h);clear b';go_wp2_with fail;exact⟨⟨k+1,by omega,by go_num,jD ⟨X1.out,l'.out⟩⟩,by simp[intOf];omega⟩
  ·have O2:¬(k:Int)<(nl:Int):=by omega
   obtain rfl:0=ve:=by
    have h:=hI.out.1;rw[Lq (by have:=U0.out;omega)]at h;exact h
   have Q0:Hid ((if FR.2≠0 then ([],FR.2) else (FR.1,0))=R):=jD (by have h:=X'.out;rw[K6 jS]at h;exact h);have n':=jD hb;clear X' hI hb;go_wp2_with fail;refine aP fun w5 e5=>?_
   obtain⟨C,hC⟩:∃q,q=wr.heap.size:=⟨_,rfl⟩;have E2:Hid (BoxX w5 C (.slice none 0 0)):=jD (by rw[e5];exact⟨_,ap _ _ _ hC⟩);have P':KY wr w5:=gb e5;have P1:w5.heap.size=C+1:=by rw[e5,hC];simp
   rw[<-hC];have u':=jD (ab n'.out P');have U1:=jD (aa P' e0);have V1:Hid (w5.heap.size=C+1/\E<C/\w.heap.size<=C):=jD ⟨P1,by omega,by have:=n'.out.size;omega⟩;clear e5 hC P' P1 p0 p1 e0 x' f' Y2 P2 N2 n'
   go_loopw [48] (fun i wr=>∃(k:Nat) (a':Value) (F:List RV),k<=nq/\i=KW k/\Hid (BoxX wr C a'/\RW w5.heap.size wr a' F/\F.length<=4096)/\Hid (KeepX [C] w5 wr)/\Hid ((F.map (·.1)++(dG l k F.length (qs.drop k)).1,(dG l k F.length (qs.drop k)).2)=FR)) (fun i _=>nq-(intOf i).toNat)
   case atStart=>exact⟨0,_,[],Lb _,rfl,jD ⟨E2.out,RW.nil _ _,by simp⟩,jD (KeepX.refl _ _),jD (by rw[L1];exact V2.out)⟩
   case round =>
    obtain⟨j,a',F,hj,rfl,I,B',L'⟩:=hrel;have K3:=V1.out;have h':KY w wr:=u'.out.trans (B'.out.below u'.out.size (fun g J=>by simp at J;omega));have l':=jD h';have er:=B'.out.cell U1.out (by simp;omega);have s':=I.out.1;have q6:=s'.cell;have T2:=s'.lt;have f':=K8 wr ⟨E,_,none⟩ er
    by_cases Y1:j<nq
    ·have Z2:(j:Int)<(nq:Int):=by omega
     have O':j<qs.length:=by have:=S1.out;omega
     obtain⟨b,o,rfl,vv,vk,va,vc,vr,Z',G⟩:=H3.out j qs[j] (K9 O');have J:=jD (K9 O');obtain⟨q,hq⟩:∃f,f=qs[j]:=⟨_,rfl⟩;rw[<-hq]at J Z' G;obtain⟨K0,S0,V0,N1,T1,T0⟩:=D.out.few q (Li J.out);have O0:PartAsk d w q l vv vk va vc vr (.slice Al nl cl):=⟨D.out.prog.shp,G,D.out.evs,K0,D.out.wf,D.out.vals⟩;have C':∀g∈a'.ownBlock.toList,w5.heap.size<=g/\g<wr.heap.size:=fun g J=>ah I.out.2.1.row (jQ J)
     have Z1:=jD C';have D':=jD (fun (W:World) (hW:KY wr W)=>G0 d q l (j:Int) vv vk va vc vr _ a' E C w5.heap.size a'.ownBlock.toList F w W O0 S0 V0 N1 T1 T0 (ab l'.out hW) (aa hW er) (s'.keep hW) (I.out.2.1.grow hW) I.out.2.2 om om om (Lf B'.out.size hW.size) (fun g J=>jQ J) (fun g J=>⟨(C' g J).1,Ll (C' g J).2 hW.size⟩));have r':Cells wr b (o+j*18) (ef q vv vk va vc vr):=fun i u hi=>aa h' (Z' i u hi)
     obtain⟨Av,cv,rfl,-⟩:=id G.vars;obtain⟨Ak,ck,rfl,-⟩:=id G.key;obtain⟨Aa,ca,rfl,-⟩:=id G.args;obtain⟨Ac,cc,rfl,-⟩:=id G.cond;obtain⟨Ar,cr,rfl,-⟩:=id G.rets;have y0:=r' 0 _ rfl;rw[Mc]at y0;have H0:Hid (wr.rangeAt b (o+j*18) [.string q.nm,.slice Av q.vars.length cv,.slice Ak q.key.length ck,KW q.pat.op,.slice Aa q.pat.args.length ca,KW q.pat.ty,KW q.pat.vr,KW q.pat.sc,KW q.pat.sp,KW q.pat.cond.op,.slice Ac q.pat.cond.args.length cc,KW q.pat.cond.vr,KW q.pat.cond.fl,KW q.pat.cond.kd,KW q.pat.cond.val.kind,KW q.pat.cond.val.num,.string q.pat.cond.val.text,.slice Ar q.rets.length cr]):=jD r';have T':=K8 wr ⟨b,_,none⟩ y0;have hD:=L'.out;rw[uq J.out]at hD;obtain⟨ce,g'⟩:∃z,kV l F.length q=z:=⟨_,rfl⟩;rw[g']at hD D';have U2:=jD g';have b':=jD hD;unfold dO at D';clear hq g' hD Z' r' G O' L' K0 S0 V0 N1 T1 T0 O0 C' s' h';go_wp2_with (first|(refine wpList_load_mid rfl 33 (.tmp 51) rfl b (o+j*18) rfl [.string q.nm,.slice Av q.vars.length cv,.slice Ak q.key.length ck,KW q.pat.op,.slice Aa q.pat.args.length ca,KW q.pat.ty,KW q.pat.vr,KW q.pat.sc,KW q.pat.sp,KW q.pat.cond.op,.slice Ac q.pat.cond.args.length cc,KW q.pat.cond.vr,KW q.pat.cond.fl,KW q.pat.cond.kd,KW q.pat.cond.val.kind,KW q.pat.cond.val.num,.string q.pat.cond.val.text,.slice Ar q.rets.length cr] _ H0.out underlying33 rfl bM ?_)|(refine Md rfl 33 (.tmp 15) rfl wr.heap.size rfl 33 _ (0,0) _ (ap _ _ _ rfl) underlying33 rfl bM ?_));refine aw fun w7 e7=>?_
     have t':KY wr w7:=gb e7;clear e7;have N3:=jD t';refine (D'.out _ t').mono ?_;rintro e w8 ⟨rfl,O1,Q1⟩;have A1:Hid (KeepX [C] w5 w8):=jD (Cp (B'.out.trans (bw t')) O1 (fun g J=>(Z1.out g J).1));have A3:Hid (KY w w8):=jD (u'.out.trans (A1.out.below u'.out.size (fun g J=>by simp at J;omega)));have K1:=jD Q1;clear t' O1 Q1 D' y0 T' H0 er q6 T2 f'
     by_cases hz:ce=0
     case neg =>
      have A2:(ce != 0)=true:=jQ hz;have i':FR.2=ce:=by have h:=b'.out;rw[K7 hz]at h;rw[<-h]
      obtain rfl:([],ce)=R:=by have h:=Q0.out;rw[i',K7 hz]at h;exact h
      clear hz i';go_wp2;exact Lc (v:=.tuple #[.slice none 0 0,KW ce]) (by simp[results,results14,go_sem]) rfl ⟨_,rfl,Sl.nil _ _ _ _ _ (Lb _),A3.out⟩
     subst hz;obtain⟨a8,Z,G',E',p',-⟩:=K1.out rfl;have A0:Z.length=F.length+(jk l j q).length:=by have:=congrArg List.length p';simpa using this
     have W2:Hid (BoxX w8 C a8/\RW w5.heap.size w8 a8 Z/\Z.length<=4096):=jD ⟨G',E',by rw[A0];exact DR _ U2.out I.out.2.2⟩;have B2:Hid ((Z.map (·.1)++(dG l (j+1) Z.length (qs.drop (j+1))).1,(dG l (j+1) Z.length (qs.drop (j+1))).2)=FR):=jD (by have h:=b'.out;rw[K6 jS]at h;rw[p',A0,L7];exact h);clear b' G' E' p' A0 K1;go_wp2_with fail;exact⟨⟨j+1,a8,Z,by omega,by go_num,W2,A1,B2⟩,by simp[intOf];omega⟩
    ·have Z2:¬(j:Int)<(nq:Int):=by omega
     have h:=L'.out;rw[Lq (by have:=S1.out;omega),dG,Mz]at h;obtain rfl:(F.map (·.1),0)=R:=by have h2:=Q0.out;rw[<-h]at h2;exact h2
     obtain⟨A',c',rfl⟩:=ay I.out.2.1.row;obtain⟨nr,N0⟩:∃n,n=F.length:=⟨_,rfl⟩;have X0:=jD I.out.2.1.is;rw[<-N0]at q6 X0;clear h N0 s' I;go_wp2;exact Lc (v:=.tuple #[.slice A' nr c',KW 0]) (by simp[results,results14,go_sem]) rfl ⟨_,rfl,X0.out,l'.out⟩
end Go.Proofs.YtokconodddedhaaGreatDoor
