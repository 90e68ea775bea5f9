/- Part. -/
import Derived.OwnWalkIn
import Derived.LoopNIn
import Derived.Test.YtokconodddedhaaGreatDoorQ20
import Derived.Test.YtokconodddedhaaGreatDoorQ17
import Derived.Test.YtokconodddedhaaGreatDoorQ19
set_option maxRecDepth 100000
set_option maxHeartbeats 16000000
set_option linter.unusedVariables false
set_option linter.unusedSimpArgs false
namespace Go.Proofs.YtokconodddedhaaGreatDoor
open Go.Proofs.Tryz Go.RowKit
theorem eU (l:List Evt):∀h,fH l h=h.map (bN l)
 | []=>by rw[fH];rfl
 | a::r=>by rw[fH,LF,eU l r]
theorem pl (l:List Evt) (x:Pt):bN l x=if x.op=0 then fun b i=>bd (eJ l x.ty x.vr x.cond b i) else if x.op=1 then lI (fH l x.args) else if x.op=2 then rq (fH l x.args) else if x.op=3 then EU (fH l x.args)
  else if x.op=4 then fX (hdF (fH l x.args)) (l.length+1) else fun b i=>bd ((hdF (fH l x.args) b i).filter (qx l x.op x.ty x.vr x.sp x.cond b)):=by
 cases x;rw[bN];rfl
def gj (x:Pt) (h:List Pt):Pt:=.mk x.op h x.ty x.vr x.sc x.sp x.cond
theorem ro (x:Pt) (h:List Pt):(gj x h).op=x.op:=rfl
theorem eK (x:Pt) (h:List Pt):(gj x h).args=h:=rfl
def jV (S:List Bs) (rest:Bs->Nat->List Bs) (b:Bs):List Bs:=S.flatMap fun s=>(rest (bg b s) (dp s+1)).map (bg s)
def mt (l:List Evt) (x:Pt) (b:Bs) (i:Nat):List Bs :=
 if x.op=0 then eJ l x.ty x.vr x.cond b i
 else if x.op=1 then
  match x.args with
  | []=>[]
  | [a]=>bN l a b i
  | a::r=>jV (bN l a b i) (bN l (gj x r)) b
 else if x.op=2 then x.args.flatMap fun a=>bN l a b i
 else if x.op=3 then lR (x.args.map fun a=>bN l a b i) []
 else match x.args with
  | []=>[]
  | a::_=>if x.op=4 then bN l a b i++jV (bN l a b i) (bN l x) b else (bN l a b i).filter (qx l x.op x.ty x.vr x.sp x.cond b)
theorem Er (l:List Evt) {x:Pt} (h:okA x=true):OkF l.length (bN l x):=fun b i s hs=>rE l x b i s ((qQ l x h b i s).1 hs)
theorem Ez {x:Pt} (h:okA x=true):∀a∈x.args,okA a=true:=by
 obtain⟨o,z,ty,vr,G,sp,c⟩:=x;rw[okA,Lp]at h;have:∀z:List Pt,uV z=true->∀a∈z,okA a=true:=fun z=>by
  induction z with
  | nil=>intro _ a D;simp at D
  | cons y r F =>
   intro h a D;rw[uV,Lp]at h;rcases List.mem_cons.1 D with rfl|D
   ·exact h.1
   ·exact F h.2 a D
 exact this z h.2
theorem lz (l:List Evt) (x:Pt) (b:Bs) (i:Nat):(bN l x b i).Nodup:=by
 rw[pl]
 by_cases h0:x.op=0
 ·rw[K7 h0];exact cI _
 rw[K6 h0]
 by_cases h:x.op=1
 ·rw[K7 h]
  cases fH l x.args with
  | nil=>rw[lI];exact Nt
  | cons f r =>
   rw[lI]
   split
   ·exact cI _
   ·exact cI _
 rw[K6 h]
 by_cases F:x.op=2
 ·rw[K7 F];exact cI _
 rw[K6 F]
 by_cases z:x.op=3
 ·rw[K7 z];exact cI _
 rw[K6 z]
 by_cases D:x.op=4
 ·rw[K7 D,fX];exact cI _
 rw[K6 D];exact cI _
theorem ql (l:List Evt) {x:Pt} (h:okA x=true) (b:Bs) (i:Nat):bN l x b i=bd (mt l x b i):=by
 have D:=Ez h;rw[pl];unfold mt
 by_cases h0:x.op=0
 ·rw[K7 h0,K7 h0]
 rw[K6 h0,K6 h0]
 by_cases F:x.op=1
 ·rw[K7 F,K7 F,eU]
  match har:x.args with
  | []=>rw[MD,lI];rfl
  | [a]=>rw[LF,MD,lI];rfl
  | a::c::r =>
   rw[LF,lI];have e:bN l (gj x (c::r))=lI ((c::r).map (bN l)):=by
    rw[pl,ro,K6 h0,K7 F,eK,eU]
   rw[K6 jS];show bd ((bN l a b i).flatMap fun s=>(lI ((c::r).map (bN l)) (bg b s) (dp s+1)).map (bg s))=bd (jV (bN l a b i) (bN l (gj x (c::r))) b);rw[e];rfl
 rw[K6 F,K6 F]
 by_cases O:x.op=2
 ·rw[K7 O,K7 O,eU];unfold rq;rw[List.flatMap_map]
 rw[K6 O,K6 O]
 by_cases G:x.op=3
 ·rw[K7 G,K7 G,eU];unfold EU;rw[Nl];rfl
 rw[K6 G,K6 G]
 by_cases J:x.op=4
 ·rw[K7 J,eU]
  match har:x.args with
  | [] =>
   have:∀k,fX (hdF (([]:List Pt).map (bN l))) k b i=[]:=fun k=>by
    cases k with
    | zero=>rw[fX]
    | succ k=>rw[fX];rfl
   rw[this];rfl
  | a::r =>
   have hf:hdF ((a::r).map (bN l))=bN l a:=rfl;have I:OkF l.length (bN l a):=Er l (D a (by rw[har];exact Lg ..));have Z:bN l x=fX (bN l a) (l.length+1):=by
    rw[pl,K6 h0,K6 F,K6 O,K6 G,K7 J,eU,har,hf]
   show fX (hdF ((a::r).map (bN l))) (l.length+1) b i=bd (if x.op=4 then bN l a b i++jV (bN l a b i) (bN l x) b else (bN l a b i).filter (qx l x.op x.ty x.vr x.sp x.cond b));rw[K7 J,hf,fX,Z];unfold jV;refine congrArg (fun z=>bd (bN l a b i++z)) ?_;refine jm fun s hs=>?_
   have a':=(I b i s hs).last;rw[qJ I l.length (l.length+1) _ _ om om]
 rw[K6 J,eU]
 match har:x.args with
 | []=>rfl
 | a::r =>
  show bd ((bN l a b i).filter _)=bd (if x.op=4 then _ else _);rw[K6 J]
section
open Go.RowKit Go.Lib
attribute [local go_sem] Oper.semAt_some
def Left (w:World) (B4 h:Nat) (c:Code) (pre:List (ByteArray × Int)) (W:World):Prop :=
 c=.ret/\∃p tx e,pre=p++[(tx,e)]/\(∀x∈p,x.2=0)/\e≠0/\Boxed W B4 9 (.string JO)/\Boxed W h 38 (KW e)/\KY w W
theorem Left.own {w:World} {B4 D B:Nat} {c:Code} {pre:List (ByteArray × Int)} {X Y:World} {row:Option Nat} (h4:B4<B) (h5:D<B) (hw:w.heap.size<=B) (h:Left w B4 D c pre X) (F:X.grownBy Y row)
  (hr:∀r,row=some r->B<=r/\∃o:Obj,X.heap[r]?=some o/\o.isCells=false):Left w B4 D c pre Y:=by
 obtain⟨I,p,tx,e,O,h2,J,Z,b5,G⟩:=h;refine⟨I,p,tx,e,O,h2,J,Z.kept F (fun z=>?_),b5.kept F (fun z=>?_),G.grown F G.size (fun k z=>?_)⟩
 ·have:=(hr B4 z.symm).1;omega
 ·have:=(hr D z.symm).1;omega
 ·have:=(hr k z).1;omega
end
theorem EvCells.stays {W W':World} {G:Nat} (h:EvCells W G) (z:KY W W'):EvCells W' G:=fun j e he=>by
 obtain⟨h0,D,J,F,I⟩:=h j e he;exact⟨aa z h0,aa z D,aa z J,aa z F,aa z I⟩
theorem Dz (d:Nat) (vs:List (List Evt)) (v:Value) (own:Int) (ev:Evt) (u:Value) (a':∀k,(eG vs k).length<=1048576)
  (x:Ex) (Z:Value) (w:World) (hv:gH w v vs) (hu:aV w u ev.vals) (hx:aF d w Z x.args) (hN:sh x) :
  KZ 345 #[exV x Z,.agg #[v],KW own,cJ ev u] w (.bool (eN vs own ev x)):=by
 have O:=jD (fun (W:World) (hW:KY w W)=>tG d vs v own ev u a' x Z W (hv.stays eT hW) (hu.stays aC hW) (hx.stays (ai d) hW) hN);have HF:Hid (∀W,KZ 110 #[.bool true] W (.agg #[KW 1,KW 1,.string ⟨#[]⟩])):=jD (fun W=>Em true W);obtain⟨A,c,rfl,-⟩:=hv;obtain⟨Au,cu,rfl,-⟩:=hu;obtain⟨Ax,cx,rfl,-⟩:=hx;obtain⟨r,hr⟩:=jE (iy vs own ev x);obtain⟨R,hR⟩:=jF (eN vs own ev x);have z:Hid (R=(decide (r.2=0)&&cC r.1 (eE true))):=jD (by rw[hR,<-hr];rfl);rw[hr]at O;rw[<-hR];clear hR hr;obtain⟨⟨vk,D,vt⟩,re⟩:=r;have HQ:Hid (∀W,(binOp .eql 27 (.agg #[KW vk,KW D,.string vt]) (.agg #[KW 1,KW 1,.string ⟨#[]⟩])).run prog W=.ok (.bool (cC ⟨vk,D,vt⟩ (eE true))) W):=jD (fun W=>vu ⟨vk,D,vt⟩ (eE true) W);obtain⟨q,hq⟩:=jE (cC ⟨vk,D,vt⟩ (eE true));simp only at z O;rw[hq]at HQ z;clear hq;unfold exV cJ vlV at *;simp only at *;obtain⟨nx,I⟩:∃n,n=x.args.length:=⟨_,rfl⟩;obtain⟨nu,F⟩:∃n,n=ev.vals.length:=⟨_,rfl⟩;rw[<-I,<-F]at O ⊢;clear I F;go_enter func345,ntmps345;go_wp2_with fail;refine (O.out _ jB).mono ?_;rintro e h ⟨rfl,J⟩;have G:Hid (KY w h):=jD (ab jB J);clear J;have hQ:=HQ.out
 by_cases h0:re=0
 ·subst h0;obtain rfl:R=q:=by rw[z.out];simp
  clear z;go_wp2_with fail;refine bF (fun W=>W.cell? ⟨h.heap.size,0,none⟩=some (KW vk)/\W.cell? ⟨h.heap.size,1,none⟩=some (KW D)/\W.cell? ⟨h.heap.size,2,none⟩=some (.string vt)) (by repeat (first|exact aG _ _ _|exact aH|refine aN ?_ ?_)) kr kr ?hF ?_;(case hF=>(first|exact⟨‹_›,‹_›⟩|(go_simp;done)|(simp[*];done)|(repeat' (first|(refine And.intro ?_ ?_)|(go_simp;done)|exact aa (aJ (La _ _) _) (by assumption)|assumption))));intro b' e';have hG:Hid (Grows (fun W=>W.cell? ⟨h.heap.size,0,none⟩=some (KW vk)/\W.cell? ⟨h.heap.size,1,none⟩=some (KW D)/\W.cell? ⟨h.heap.size,2,none⟩=some (.string vt))):=(by repeat (first|exact aG _ _ _|exact aH|refine aN ?_ ?_));(repeat (go_big_quiet_step ((go_at_call 110;exact iH hG (fun W _=>HF.out W)))));clear hG e' b';refine wpQuiet_nil ?_;rintro wq ⟨⟨w',d',c'⟩,rfl⟩;clear c';go_wp2;go_ret;exact⟨rfl,ab (aJ G.out _) d'⟩
 ·have f':(re==0)=false:=jQ h0;obtain rfl:R=false:=by rw[z.out];simp[h0]
  clear z h0;go_wp2_with fail
  go_big_region
  go_wp2;go_ret;exact⟨rfl,ab G.out jB⟩
theorem zW {l:List Evt} {s:Bs} {i:Nat} (h:s.length<=1048576) (k:Int):(eG (eo l s i) k).length<=1048576:=by
 unfold eG
 split
 ·simp
 ·next hk =>
  have z:k.toNat<(eo l s i).length:=by omega
  rw[ME,K9 z,M4];have:=vI (K9 z);omega
theorem Cr (l:List Evt) (b:Bs) (i:Nat) (ev:Evt) (own:Int) (d:Nat) (x:Ex) (C:Nat) (vl u vx:Value) (w:World) (G:w.cell? ⟨C,0,none⟩=some vl) (hl:bm w vl l) (hb:jw w u b) (k':∀x∈b,(0<=x.1/\x.1<16)/\x.2<l.length) (e':b.length<=1048576)
  (d':l[i]?=some ev) (hx:aF d w vx x.args) (hN:sh x) :
  KZ 307 #[.pointer (some ⟨C,0,none⟩),exV x vx,u,KW own,KW (i:Int)] w (.bool (eN (eo l b i) own ev x)):=by
 have h':=jD (fun (W:World) (h:KY w W)=>D9 l b i C vl u W (aa h G) (hl.stays aK h) (hb.stays cV h) k' e');have B':=jD (fun k=>zW (l:=l) (i:=i) e' k);obtain⟨Al,cl,rfl,l1,l2,a'⟩:=id hl;obtain⟨be,oe,rfl,ve,f',d0,d1,d2,d3,d4⟩:=a' i ev d';have n':=(List.getElem?_eq_some_iff.1 d').1;obtain⟨Av,cv,rfl,-⟩:=id f';obtain⟨Ax,cx,rfl,-⟩:=id hx;obtain⟨Ab,cb,rfl,-⟩:=id hb;have g':=ax l1 l2;have Z:=jD (fun (v:Value) (W:World) (hv:gH W v (eo l b i)) (h:KY w W)=>Dz d (eo l b i) v own ev _ B'.out x _ W hv (f'.stays aC h) (hx.stays (ai d) h) hN);have r':=K8 w ⟨C,_,none⟩ G;have A':=K8 w ⟨be,_,none⟩ d0;obtain⟨R,hR⟩:=jF (eN (eo l b i) own ev x);rw[<-hR]at Z ⊢;obtain⟨nl,l'⟩:∃n,n=l.length:=⟨_,rfl⟩;obtain⟨nv,m'⟩:∃n,n=ev.vals.length:=⟨_,rfl⟩;obtain⟨nx,p'⟩:∃n,n=x.args.length:=⟨_,rfl⟩;obtain⟨nb,j'⟩:∃n,n=b.length:=⟨_,rfl⟩;rw[<-l']at G n' g';rw[<-m']at d4 Z;rw[<-p']at Z ⊢;rw[<-j']at h' ⊢;have C':(i:Int)<(nl:Int):=by omega
 clear hR l' m' p' j' hl hb k' e' d' hx hN f' a' l1 l2 n';unfold exV cJ at *;go_enter func307,ntmps307;go_wp2_with fail;refine aP fun z O=>?_
 obtain⟨B,J⟩:=jF w.heap.size;have D:KY w z:=gb O;have q0:KX z B 0 (KW x.op):=by rw[O,J];show _=_;go_simp
 have q1:KX z B 1 (.slice Ax nx cx):=by rw[O,J];show _=_;go_simp
 have q2:KX z B 2 (KW x.vr):=by rw[O,J];show _=_;go_simp
 have q3:KX z B 3 (KW x.fl):=by rw[O,J];show _=_;go_simp
 have q4:KX z B 4 (KW x.kd):=by rw[O,J];show _=_;go_simp
 have q5:KX z B 5 (KW x.val.kind):=by rw[O,J];show _=_;go_simp
 have q6:KX z B 6 (KW x.val.num):=by rw[O,J];show _=_;go_simp
 have q7:KX z B 7 (.string x.val.text):=by rw[O,J];show _=_;go_simp
 have q8:=aa D G;have q9:=aa D d0;have y':=aa D d1;have x':=aa D d2;have u':=aa D d3;have s':=aa D d4;have D':=K8 z ⟨B,_,none⟩ q0;have E':=K8 z ⟨C,_,none⟩ q8;have F':=K8 z ⟨be,_,none⟩ q9;have c':=jD D;rw[<-J];clear O G d0 d1 d2 d3 d4 r' A' D J;refine rgn (fun W:World=>KY z W/\KX W B 0 (KW x.op)/\KX W B 1 (.slice Ax nx cx)/\KX W B 2 (KW x.vr)/\KX W B 3 (KW x.fl)/\KX W B 4 (KW x.kd)/\KX W B 5 (KW x.val.kind)/\KX W B 6 (KW x.val.num)/\KX W B 7 (.string x.val.text)/\KX W C 0 (.slice (some ⟨be,oe,none⟩) nl cl)/\KX W be (oe+i*5) (KW ev.src)/\KX W be (oe+i*5+1) (KW ev.sq)/\KX W be (oe+i*5+2) (KW ev.ty)/\KX W be (oe+i*5+3) (KW ev.tm)/\KX W be (oe+i*5+4) (.slice Av nv cv)) (Below z.heap.size z) (fun W h=>⟨h,aa h q0,aa h q1,aa h q2,aa h q3,aa h q4,aa h q5,aa h q6,aa h q7,aa h q8,aa h q9,aa h y',aa h x',aa h u',aa h s'⟩) ((La _ _).drew) (fun q' I=>?_);refine tkH [0,1,2,3,5,6,7,8,9,10,11,12] ?_;refine nxH 4 (fun K hK=>?_)
 focus (go_simp;refine (h'.out _ (ab c'.out (show KY z _ by exact jB))).mono ?_;rintro e w5 ⟨v5,rfl,i',t'⟩;obtain⟨A5,c5,rfl,-⟩:=id i';have F:KY z w5:=ab (show KY z _ by exact jB) t')
 refine hK.out _ _ (q' _ F) (fun I=>?_);clear hK K;refine nxH 13 (fun K hK=>?_)
 focus (go_simp;refine (Z.out _ w5 i' (ab c'.out F)).mono ?_;rintro e w6 ⟨rfl,z'⟩;have b':KY z w6:=ab F z')
 refine hK.out _ _ (q' _ b') (fun I=>?_);clear hK K;refine tkH [14] ?_;refine wpAnyH_done kr (NoPanic.normal ?_) _;rotate_left 1
 (try go_wp2_with fail)
 go_ret;exact⟨rfl,ab c'.out b'⟩
def dU (l:List Evt) (ty vr:Int) (c:Ex) (b:Bs) (i k:Nat):List Bs :=
 ((List.range k).filter fun k=>decide (i<=k)&&(l[k]?.map fun e=>decide (e.ty=ty)&&eN (eo l b k) vr e c).getD false).map fun k=>[(vr,k)]
theorem rp (l:List Evt) (ty vr:Int) (c:Ex) (b:Bs) (i:Nat):dU l ty vr c b i l.length=eJ l ty vr c b i:=rfl
theorem uX (l:List Evt) (ty vr:Int) (c:Ex) (b:Bs) (i:Nat):dU l ty vr c b i i=[]:=by
 unfold dU;rw[List.filter_eq_nil_iff.2]
 ·rfl
 ·intro k hk;rw[List.mem_range]at hk;rw[MC om];simp
theorem oU {l:List Evt} {ty vr:Int} {c:Ex} {b:Bs} {i k:Nat} {y:Evt} (h:i<=k) (hy:l[k]?=some y) :
  dU l ty vr c b i (k+1)=if y.ty=ty/\eN (eo l b k) vr y c=true then dU l ty vr c b i k++[[(vr,k)]] else dU l ty vr c b i k:=by
 unfold dU;rw[List.range_succ,MN,LH,List.filter_cons,List.filter_nil,Nc h,hy]
 by_cases z:y.ty=ty
 ·by_cases D:eN (eo l b k) vr y c=true
  ·simp[z,D]
  ·simp[z,D]
 ·simp[z]
def SubRet (w:World) (L:List Bs) (e:Ending) (W:World):Prop:=∃v,e=.returned v/\RowB w.heap.size W v L/\KY w W
structure BOk (i:Nat) (b:Bs):Prop where
 asc:CT b
 ok:∀x∈b,(0<=x.1/\x.1<16)/\x.2<i
theorem AY:∀(b:Bs) (i:Nat),CT b->(∀x∈b,x.2<i)->b.length<=i:=fun b i h D=>by
 have z:(b.map (·.2)).Nodup:=by
  rw[List.nodup_iff_pairwise_ne,NE];exact h.imp fun h=>Ns h
 have F:=pw (m:=List.range i) z fun x hm=>by
  obtain⟨y,hy,rfl⟩:=List.mem_map.1 hm;exact List.mem_range.2 (D y hy)
 simpa using F
theorem BOk.len {i:Nat} {b:Bs} (h:BOk i b):b.length<=i:=AY b i h.asc fun x z=>(h.ok x z).2
section
theorem zz (L:List Bs) (s:Bs):bd (L++[s])=eA (bd L) s:=by unfold bd;rw[Nq];rfl
theorem zQ (l:List Evt) (ty vr:Int) (c:Ex) (b:Bs) (i:Nat):(eJ l ty vr c b i).Nodup:=by
 unfold eJ;refine mX (List.Nodup.sublist (List.filter_sublist ..) List.nodup_range) fun x _ y _ h=>?_
 injection h with h;injection h
def nV (f:Fnd):Prop:=∀b i,(f b i).Nodup
theorem pL:∀(ps:List (List Bs)) (out:List Bs),out.Nodup->(ps.foldl kj out).Nodup
 | [],_,h=>h
 | p::ps,out,_=>pL ps _ (cI _)
theorem Gx (l:List Evt) (x:Pt):(∀a∈x.args,nV (iU l a))->nV (iU l x):=by
 obtain⟨o,z,ty,vr,G,sp,c⟩:=x;intro h;have hL:∀f∈cY l z,nV f:=by
  have:∀z:List Pt,(∀a∈z,nV (iU l a))->∀f∈cY l z,nV f:=fun z=>by
   induction z with
   | nil=>intro _ f hf;rw[cY]at hf;simp at hf
   | cons a r D =>
    intro h f hf;rw[cY,Lv]at hf;rcases hf with rfl|hf
    ·exact h a (Lg ..)
    ·exact D (fun y hy=>h y (Lh _ hy)) f hf
  exact this z h
 have F:nV (hdF (cY l z)):=by
  cases e:cY l z with
  | nil=>intro b i;exact Nt
  | cons f r=>exact hL f (by rw[e];exact Lg ..)
 intro b i;rw[iU]
 split
 ·exact zQ ..
 split
 ·cases e:cY l z with
  | nil=>rw[jI];exact Nt
  | cons f r =>
   rw[jI]
   split
   ·exact hL f (by rw[e];exact Lg ..) b i
   ·exact cI _
 split
 ·exact cI _
 split
 ·cases e:cY l z with
  | nil=>rw[nJ];exact Nt
  | cons f r=>rw[nJ];exact pL _ _ (hL f (by rw[e];exact Lg ..) b i)
 split
 ·rw[jg];exact cI _
 ·exact List.Nodup.sublist (List.filter_sublist ..) (F b i)
structure GoodP (V:List Int) (x:Pt):Prop where
 vars:∀v∈evV x,v∈V
 all:∀y∈aO x,(y.op=0\/y.op=2\/y.args≠[])/\aM y.cond<=1048576
theorem yl {a:Pt}:∀{l:List Pt},a∈l->∀v∈evV a,v∈ga l
 | y::r,h,v,hv=>by
  rw[ga,L0];rcases List.mem_cons.1 h with rfl|h
  ·exact .inl hv
  ·exact .inr (yl h v hv)
theorem nA {a:Pt}:∀{l:List Pt},a∈l->∀y∈aO a,y∈bG l
 | z::r,h,y,hy=>by
  rw[bG,L0];rcases List.mem_cons.1 h with rfl|h
  ·exact .inl hy
  ·exact .inr (nA h y hy)
theorem qW {a:Pt}:∀{l:List Pt},a∈l->ptN a<=aU l
 | z::r,h=>by
  rw[aU];rcases List.mem_cons.1 h with rfl|h
  ·omega
  ·have:=qW h;omega
theorem GoodP.arg {V:List Int} {x a:Pt} (h:GoodP V x) (z:a∈x.args):GoodP V a:=by
 obtain⟨o,G,ty,vr,F,sp,c⟩:=x;refine⟨fun v D=>h.vars v ?_,fun y hy=>h.all y ?_⟩
 ·rw[evV];exact Nf _ (yl z v D)
 ·rw[da];exact Lh _ (nA z y hy)
theorem GoodP.self {V:List Int} {x:Pt} (h:GoodP V x):(x.op=0\/x.op=2\/x.args≠[])/\aM x.cond<=1048576:=h.all x (by rw[da];exact Lg ..)
structure jY (V:List Int) (n:Nat):Prop where
 var:∀v∈V,0<=v/\v<16
 few:(V.length+1)^n<=1048576
 len:n<=4096
structure FndOk (V:List Int) (n:Nat) (f:Fnd):Prop where
 ok:OkF n f
 var:VarF V f
 once:nV f
structure SetV (V:List Int) (i n:Nat) (s:Bs):Prop where
 ok:SetOk i n s
 var:∀x∈s,x.1∈V
theorem FndOk.set {V:List Int} {n i:Nat} {f:Fnd} {b s:Bs} (h:FndOk V n f) (hs:s∈f b i):SetV V i n s:=⟨h.ok b i s hs,h.var b i s hs⟩
theorem CW (l:List Evt):∀(n:Nat) (x:Pt),ptN x<=n->nV (iU l x):=by
 intro n
 induction n with
 | zero=>intro x h;have:=dm x;omega
 | succ n D =>
  intro x h;refine Gx l x fun a z=>D a ?_
  have F:=dm x;have G:=qW z;omega
theorem EG {V:List Int} {x:Pt} (l:List Evt) (h:GoodP V x):FndOk V l.length (iU l x):=⟨rE l x,(uk l x).mono h.vars,CW l _ x (Ld _)⟩
section
variable {V : List Int} {i n : Nat} {b s : Bs}
theorem SetV.n63 (h:SetV V i n s):s.length<=n:=AY s n h.ok.2.1 fun x z=>(h.ok.2.2 x z).2
theorem SetV.merge (h:SetV V i n s) (F:BOk i b) (G:jY V n):BOk (dp s+1) (bg b s):=by
 have I:=h.ok.last;refine⟨eH b s F.asc h.ok.2.1 fun x z y hy=>?_,fun x z=>?_⟩
 ·have D:=(F.ok x z).2;have J:=(h.ok.2.2 y hy).1;omega
 ·rcases (cP ..).1 z with z|z
  ·have D:=F.ok x z;exact⟨D.1,by have:=D.2;omega⟩
  ·exact⟨G.var _ (h.var x z),by have:=I.2.2 x z;omega⟩
theorem SetV.behind {t:Bs} (h:SetV V i n s) (D:SetV V (dp s+1) n t):SetV V i n (bg s t) :=
 ⟨h.ok.behind D.ok,fun x z=>by rcases (cP ..).1 z with z|z;exact h.var x z;exact D.var x z⟩
end
theorem DE {α β:Type} {F:α->List β} {l:List α} {k:Nat} {a:α} (h:l[k]?=some a):(l.take (k+1)).flatMap F=(l.take k).flatMap F++F a:=by
 rw[bZ h,MP];simp
theorem yd {α β:Type} {F:α->β} {l:List α} {k:Nat} {a:α} (h:l[k]?=some a):(l.take (k+1)).map F=(l.take k).map F++[F a]:=by
 rw[bZ h,LH];rfl
section
variable {base n1 : Nat} {w w' : World} {v : Value} {L : List Bs}
theorem RowB.keep {r:Option Nat} (h:RowB base w v L) (I:w.grownBy w' r) (hr:∀g,r=some g->g<base):RowB base w' v L:=by
 obtain⟨vs,G,J⟩:=h;have hk:∀b,base<=b->b<w.heap.size->w'.heap[b]?=w.heap[b]?:=fun b F D=>I.block b D (fun e=>by have:=hr b e.symm;omega)
 refine⟨vs,?_,fun k s hs=>?_⟩
 ·refine⟨G.1,?_⟩;rcases G.2 with h0|⟨g,cap,cur,hv,hgb,hh,hrest⟩
  ·exact .inl h0
  ·exact .inr ⟨g,cap,cur,hv,hgb,by rw[hk g hgb (aD hh)];exact hh,hrest⟩
 ·obtain⟨u,hu,z⟩:=J k s hs;exact⟨u,hu,z.keepQ fun b F D=>⟨hk b F.2 D,F⟩⟩
end
end
section
theorem tZ (x:Pt):evV x=(if x.op=0 then [x.vr] else [])++ga x.args:=by cases x;rw[evV];rfl
theorem pR (x:Pt):kW x=(decide (x.op=4) || jO x.args):=by cases x;rw[kW];rfl
theorem Bp {a:Pt}:∀{l:List Pt},a∈l->(evV a).length<=(ga l).length
 | y::r,h=>by
  rw[ga,Le];rcases List.mem_cons.1 h with rfl|h
  ·omega
  ·have:=Bp h;omega
theorem pJ {a:Pt}:∀{l:List Pt},a∈l->jO l=false->kW a=false
 | y::r,h,hi=>by
  rw[jO,LT]at hi;rcases List.mem_cons.1 h with rfl|h
  ·exact hi.1
  ·exact pJ h hi.2
def CapP (n:Nat) (x:Pt):Prop:=((evV x).length+1)^n<=4096\/(kW x=false/\2<=n/\fN n (evV x).length<=4096)
theorem CapP.of {n:Nat} {x y:Pt} (h:CapP n x) (he:(evV y).length<=(evV x).length) (z:kW x=false->kW y=false):CapP n y:=by
 rcases h with h|⟨h1,h2,h3⟩
 ·exact .inl (Lf (NL om n) h)
 ·refine .inr ⟨z h1,h2,Lf ?_ h3⟩;obtain⟨k,hk⟩:=Nat.exists_eq_add_of_le he;rw[hk];exact ki h2 _ _
structure GoodQ (V:List Int) (n:Nat) (x:Pt):Prop where
 good:GoodP V x
 ops:∀y∈aO x,(0<=y.op/\y.op<=1)/\pg y.cond=true
 cap:CapP n x
theorem GoodQ.arg {V:List Int} {n:Nat} {x a:Pt} (h:GoodQ V n x) (z:a∈x.args):GoodQ V n a:=by
 refine⟨h.good.arg z,fun y hy=>h.ops y ?_,h.cap.of ?_ fun D=>?_⟩
 ·rw[da];exact Lh _ (nA z y hy)
 ·have:=Bp z;rw[tZ x,Le];omega
 ·rw[pR,LT]at D;exact pJ z D.2
theorem GoodQ.op {V:List Int} {n:Nat} {x:Pt} (h:GoodQ V n x):0<=x.op/\x.op<=1:=(h.ops x (by rw[da];exact Lg ..)).1
theorem GoodQ.fin {V:List Int} {n:Nat} {x:Pt} (h:GoodQ V n x):pg x.cond=true:=(h.ops x (by rw[da];exact Lg ..)).2
theorem GoodQ.rest {V:List Int} {n:Nat} {x a c:Pt} {r:List Pt} (h:GoodQ V n x) (G:x.op=1) (z:x.args=a::c::r):GoodQ V n (gj x (c::r)):=by
 have hp:∀y∈bG (c::r),y∈aO x:=fun y hy=>by rw[da,z,bG];exact Lh _ (Nf _ hy)
 have ev:evV (gj x (c::r))=ga (c::r):=by rw[tZ,ro,eK,K6 om];rfl
 have ex:evV x=evV a++ga (c::r):=by rw[tZ,z,K6 om];rfl
 refine⟨⟨fun v F=>h.good.vars v ?_,fun y hy=>?_⟩,fun y hy=>?_,h.cap.of ?_ fun D=>?_⟩
 ·rw[ex];rw[ev]at F;exact Nf _ F
 ·rw[da,eK]at hy;rcases List.mem_cons.1 hy with rfl|hy
  ·exact⟨.inr (.inr (by rw[eK];simp)),h.good.self.2⟩
  ·exact h.good.all y (hp y hy)
 ·rw[da,eK]at hy;rcases List.mem_cons.1 hy with rfl|hy
  ·exact⟨h.op,h.fin⟩
  ·exact h.ops y (hp y hy)
 ·rw[ev,ex,Le];omega
 ·rw[pR,z,jO,LT,LT]at D;rw[pR,eK,ro,D.1,D.2.2];rfl
mutual
theorem BC:∀x:Pt,(∀y∈aO x,y.op=0\/y.op=2\/y.args≠[])->okA x=true
 | .mk o ar ty vr sc sp c,h=>by
  rw[okA,Lp];refine⟨?_,wV ar fun y hy=>h y (by rw[aO];exact Lh _ hy)⟩;have z:=h (.mk o ar ty vr sc sp c) (by rw[aO];exact Lg ..);have F:(o=0\/o=2\/ar≠[]):=z
  by_cases D:o=3
  ·have:ar≠[]:=by rcases F with h|h|h;omega;omega;exact h
   cases ar with
   | nil=>exact absurd rfl this
   | cons a r=>simp
  ·simp[D]
theorem wV:∀l:List Pt,(∀y∈bG l,y.op=0\/y.op=2\/y.args≠[])->uV l=true
 | [],_=>by rw[uV]
 | a::r,h=>by
  rw[uV,Lp];exact⟨BC a fun y hy=>h y (by rw[bG];exact List.mem_append_left _ hy),wV r fun y hy=>h y (by rw[bG];exact Nf _ hy)⟩
end
theorem GoodQ.okA {V:List Int} {n:Nat} {x:Pt} (h:GoodQ V n x):okA x=true:=BC x fun y hy=>(h.good.all y hy).1
section
variable {V : List Int} {l : List Evt} {x : Pt} {b s : Bs} {i : Nat}
theorem rI (h:GoodQ V l.length x):s∈bN l x b i↔s∈iU l x b i:=qQ l x h.okA b i s
theorem ir (h:GoodQ V l.length x) (hs:s∈bN l x b i):SetV V i l.length s:=(EG l h.good).set ((rI h).1 hs)
theorem H9 (h:GoodQ V l.length x) (hs:s∈mt l x b i):SetV V i l.length s:=ir (b:=b) h (by rw[ql l h.okA,bI];exact hs)
theorem wK (h:GoodQ V l.length x) (b:Bs) (i:Nat):(bN l x b i).length<=4096:=by
 rcases h.cap with z|⟨z,h2,h3⟩
 ·exact Lf (Jf l x b i (lz l x b i) fun s hs=>(rI h).1 hs) z
 ·exact Lf (pw (lz l x b i) fun s hs=>(rI h).1 hs) (Lf (BG l h2 x z b i) h3)
end
theorem yK (l:List Bs) (s:Bs):l.length<=(eA l s).length:=by
 unfold eA
 split
 ·exact Ld _
 ·rw[Le];omega
theorem CZ (L:List Bs) (k:Nat):(bd (L.take k)).length<=(bd L).length:=by
 have h:∀(l o:List Bs),o.length<=(l.foldl eA o).length:=fun l=>by
  induction l with
  | nil=>intro o;exact Ld _
  | cons a l z=>intro o;exact Lf (yK o a) (z _)
 have e:bd L=(L.drop k).foldl eA (bd (L.take k)):=by
  show L.foldl eA []=(L.drop k).foldl eA ((L.take k).foldl eA []);rw[<-Nq,M8]
 rw[e];exact h _ _
def jl {α β:Type} (F:α->List β) (S:List α) (k j:Nat):Nat:=((S.take k).flatMap F).length+j
theorem KJ {α β:Type} (F:α->List β) (S:List α):jl F S 0 0=0:=by simp[jl]
theorem CC {α β:Type} {F:α->List β} {S:List α} {k:Nat} {s:α} (h:S[k]?=some s):jl F S (k+1) 0=jl F S k (F s).length:=by
 unfold jl;rw[DE h,Le,Mc]
theorem Fh {α β:Type} (F:α->List β) (S:List α):jl F S S.length 0=(S.flatMap F).length:=by unfold jl;rw[LX,Mc]
theorem IS {α β:Type} {F:α->List β} {S:List α} {k j:Nat} {s:α} {y:β} (h:S[k]?=some s) (hy:(F s)[j]?=some y):(S.flatMap F)[jl F S k j]?=some y:=by
 have e:S.flatMap F=(S.take k).flatMap F++(F s++(S.drop (k+1)).flatMap F):=by
  have z:S=S.take k++s::S.drop (k+1):=by
   obtain⟨hk,rfl⟩:=List.getElem?_eq_some_iff.1 h;rw[List.getElem_cons_drop,M8]
  conv=>lhs;rw[z]
  rw[MP,Mk]
 unfold jl;rw[e,Mf om,Nat.add_sub_cancel_left,LR (List.getElem?_eq_some_iff.1 hy).1];exact hy
end
section
open Go.RowKit Go.Lib
def kp (w:World) (L:List Bs) (e:Ending) (W:World):Prop:=∃v,e=.returned v/\SetsIn (fun b=>w.heap.size<=b) W v L/\KY w W
def xF (l:List Evt) (x:Pt) (b:Bs) (i:Nat):Prop:=∀(d e C:Nat) (v vc vl u:Value) (w:World),w.cell? ⟨C,0,none⟩=some vl->w.cell? ⟨C,1,none⟩=some (.bool false)->bm w vl l->aW d w v x.args->aF e w vc x.cond.args->jw w u b ->
 Calls prog 117 #[.pointer (some ⟨C,0,none⟩),ptV x v vc,u,KW (i:Int)] w (kp w (bN l x b i))
def ls (l:List Evt) (x:Pt):Prop:=∀b i,BOk i b->i<=l.length->xF l x b i
structure ScnAt (l:List Evt) (w:World) (C:Nat) (vl:Value):Prop where
 ev:w.cell? ⟨C,0,none⟩=some vl
 fu:w.cell? ⟨C,1,none⟩=some (.bool false)
 is:bm w vl l
theorem ScnAt.stays {l:List Evt} {w W:World} {C:Nat} {vl:Value} (h:ScnAt l w C vl) (z:KY w W):ScnAt l W C vl:=⟨aa z h.ev,aa z h.fu,h.is.stays aK z⟩
def Own (n1:Nat) (B:Option Nat) (W:World) (b:Nat):Prop:=n1<=b/\¬iE W B b
section
variable {n0 n1 : Nat} {B : Option Nat} {X Y : World}
theorem cH {b o:Nat} {v:Value} (hk:bj n0 n1 B X Y) (h:Own n1 B X b) (c:X.cell? ⟨b,o,none⟩=some v):Y.cell? ⟨b,o,none⟩=some v/\Own n1 B Y b :=
 ⟨(gD hk h.1 h.2 c).1,h.1,(gD hk h.1 h.2 c).2⟩
theorem kH (D:n1<=X.heap.size) (hs:fE X B) (h:KY X Y) (z:∀b,B=some b->b<n1) {k:Nat} (hk:X.heap.size<=k):Own n1 B Y k :=
 ⟨by omega,sW hs h (fun b e=>by have:=z b e;omega) hk⟩
structure Caps (n1:Nat) (B:Option Nat) (W:World) (bc bp bo bf C:Nat) (x:Pt) (v vc u:Value) (i:Nat):Prop where
 c:W.cell? ⟨bc,0,none⟩=some (.pointer (some ⟨C,0,none⟩))/\Own n1 B W bc
 p:Cells W bp 0 (aQ x v vc)/\Own n1 B W bp
 o:W.cell? ⟨bo,0,none⟩=some u/\Own n1 B W bo
 f:W.cell? ⟨bf,0,none⟩=some (KW (i:Int))/\Own n1 B W bf
variable {bc bp bo bf C : Nat} {x : Pt} {v vc u : Value} {i : Nat}
theorem Caps.keep (h:Caps n1 B X bc bp bo bf C x v vc u i) (hk:bj n0 n1 B X Y):Caps n1 B Y bc bp bo bf C x v vc u i :=
 ⟨cH hk h.c.2 h.c.1,⟨fun j w z=>(cH hk h.p.2 (h.p.1 j w z)).1,(cH hk h.p.2 (h.p.1 0 _ rfl)).2⟩,cH hk h.o.2 h.o.1,cH hk h.f.2 h.f.1⟩
end
theorem kw (w:World) (cs:List Value) (t:TypeId):Cells (w.alloc (.cells cs.toArray t)) w.heap.size 0 cs:=fun j u z=>by
 have h:(w.alloc (.cells cs.toArray t)).heap[w.heap.size]?=some (.cells cs.toArray t):=Mp w _;rw[Lu];simp only[World.cell?,h];exact (NF ..).trans z
theorem kh (w:World) (u:Value) (t:TypeId):(w.alloc (.cells #[u] t)).cell? ⟨w.heap.size,0,none⟩=some u:=kw w [u] t 0 u rfl
theorem dE {w W:World} {b o:Nat} {cs:List Value} (h:Cells w b o cs) (D:KY w W):Cells W b o cs:=fun j u z=>aa D (h j u z)
theorem CS {n1:Nat} {B:Option Nat} {w:World} (C:Nat) (x:Pt) (v vc u:Value) (i:Nat) (tc tp to tf:TypeId) (hn:n1<=w.heap.size) (hs:fE w B) (hB:∀b,B=some b->b<n1) :
  Caps n1 B ((((w.alloc (.cells #[.pointer (some ⟨C,0,none⟩)] tc)).alloc (.cells (aQ x v vc).toArray tp)).alloc (.cells #[u] to)).alloc (.cells #[.int .i64 (i:Int)] tf)) w.heap.size (w.heap.size+1) (w.heap.size+2) (w.heap.size+3) C x v vc u i:=by
 obtain⟨D,F⟩:=jF (w.alloc (.cells #[.pointer (some ⟨C,0,none⟩)] tc));obtain⟨h,Z⟩:=jF (D.alloc (.cells (aQ x v vc).toArray tp));obtain⟨z,I⟩:=jF (h.alloc (.cells #[u] to));obtain⟨O,e4⟩:=jF (z.alloc (.cells #[.int .i64 (i:Int)] tf));rw[<-F,<-Z,<-I,<-e4];have s1:D.heap.size=w.heap.size+1:=by rw[F];simp
 have s2:h.heap.size=w.heap.size+2:=by rw[Z];simp[s1]
 have s3:z.heap.size=w.heap.size+3:=by rw[I];simp[s2]
 have b1:KY w D:=by rw[F];exact ag w _
 have b2:KY D h:=by rw[Z];exact ag D _
 have b3:KY h z:=by rw[I];exact ag h _
 have G:KY z O:=by rw[e4];exact ag z _
 have hb:KY w O:=ab (ab (ab b1 b2) b3) G;have c1:D.cell? ⟨w.heap.size,0,none⟩=some (.pointer (some ⟨C,0,none⟩)):=by rw[F];exact kh w _ _
 have c2:Cells h (w.heap.size+1) 0 (aQ x v vc):=by rw[<-s1,Z];exact kw D _ _
 have c3:z.cell? ⟨w.heap.size+2,0,none⟩=some u:=by rw[<-s2,I];exact kh h _ _
 have c4:O.cell? ⟨w.heap.size+3,0,none⟩=some (KW (i:Int)):=by rw[<-s3,e4];exact kh z _ _
 have J:∀k,w.heap.size<=k->Own n1 B O k:=fun k hk=>kH hn hs hb hB hk
 exact⟨⟨aa (ab (ab b2 b3) G) c1,J _ (Ld _)⟩,⟨dE c2 (ab b3 G),J _ om⟩,⟨aa G c3,J _ om⟩,⟨c4,J _ om⟩⟩
def FG (L:List Bs) (W0 w:World) (e:Ending) (W:World):Prop:=∃gf lb,e=.returned (.func (.func gf) #[] lb)/\(∀args w,(callFunc gf args).run prog w=.ok (.enter gf args) w)/\KY w W /\
 ∀n1 B,W0.heap.size<=n1->n1<=w.heap.size->fE w B->(∀k,B=some k->k<n1)->SeqC gf lb L (InS n1 B) (bj W0.heap.size n1 B) W
def FinderK (g:Nat) (l:List Evt) (x:Pt) (b:Bs) (i:Nat):Prop:=∀(d e C:Nat) (v vc vl u:Value) (W0 w:World),ScnAt l W0 C vl->aW d W0 v x.args->aF e W0 vc x.cond.args->jw W0 u b->KY W0 w ->
 Calls prog g #[.pointer (some ⟨C,0,none⟩),ptV x v vc,u,KW (i:Int)] w (FG (mt l x b i) W0 w)
structure SeqHyp (l:List Evt) (x:Pt) (b:Bs) (i d e C:Nat) (v vc vl u:Value) (W0 w:World) (n1:Nat) (B:Option Nat) (bc bp bo bf:Nat):Prop where
 scn:ScnAt l W0 C vl
 pts:aW d W0 v x.args
 exs:aF e W0 vc x.cond.args
 bs:jw W0 u b
 bel:KY W0 w
 lo:W0.heap.size<=n1
 hi:n1<=w.heap.size
 safe:fE w B
 box:∀k,B=some k->k<n1
 caps:Caps n1 B w bc bp bo bf C x v vc u i
section
variable {l : List Evt} {x : Pt} {b : Bs} {i d e C : Nat} {v vc vl u : Value} {W0 w W : World} {n1 : Nat} {B : Option Nat} {bc bp bo bf : Nat}
theorem SeqHyp.next (h:SeqHyp l x b i d e C v vc vl u W0 w n1 B bc bp bo bf) (hk:bj W0.heap.size n1 B w W):SeqHyp l x b i d e C v vc vl u W0 W n1 B bc bp bo bf :=
 ⟨h.scn,h.pts,h.exs,h.bs,h.bel.trans hk.below,h.lo,by have:=hk.below.size;have:=h.hi;omega,hk.safe h.safe,h.box,h.caps.keep hk⟩
theorem SeqHyp.grow (h:SeqHyp l x b i d e C v vc vl u W0 w n1 B bc bp bo bf) (z:KY w W):bj W0.heap.size n1 B w W :=
 cM z (by have:=h.lo;have:=h.hi;omega) (fun k hk=>by have:=h.box k hk;have:=h.hi;omega)
theorem SeqHyp.new (h:SeqHyp l x b i d e C v vc vl u W0 w n1 B bc bp bo bf) (z:KY w W) {k:Nat} (hk:w.heap.size<=k):n1<=k/\¬iE W B k :=
 kH h.hi h.safe z h.box hk
theorem SeqHyp.inS (h:SeqHyp l x b i d e C v vc vl u W0 w n1 B bc bp bo bf) (z:KY w W) {n:Nat} (F:w.heap.size<=n) {s:Bs} {t:Value} (D:SetIn (fun k=>n<=k) W t s):InS n1 B s #[t] W :=
 ⟨t,rfl,D.mono fun k hk=>h.new z om⟩
theorem SeqHyp.evs (h:SeqHyp l x b i d e C v vc vl u W0 w n1 B bc bp bo bf):bm w vl l:=h.scn.is.stays aK h.bel
end
theorem oM {l:List Evt} {x:Pt} {b:Bs} {i d e C:Nat} {v vc vl u:Value} {W0 w:World} (F:ScnAt l W0 C vl) (hx:aW d W0 v x.args) (D:aF e W0 vc x.cond.args) (hu:jw W0 u b) (Z:KY W0 w)
  {n1:Nat} {B:Option Nat} (h1:W0.heap.size<=n1) (h2:n1<=w.heap.size) (O:fE w B) (I:∀k,B=some k->k<n1) (J G to z:TypeId) :
  SeqHyp l x b i d e C v vc vl u W0 ((((w.alloc (.cells #[.pointer (some ⟨C,0,none⟩)] J)).alloc (.cells (aQ x v vc).toArray G)).alloc (.cells #[u] to)).alloc (.cells #[.int .i64 (i:Int)] z)) n1 B w.heap.size (w.heap.size+1) (w.heap.size+2) (w.heap.size+3):=by
 have h:KY w ((((w.alloc (.cells #[.pointer (some ⟨C,0,none⟩)] J)).alloc (.cells (aQ x v vc).toArray G)).alloc (.cells #[u] to)).alloc (.cells #[.int .i64 (i:Int)] z)) :=
  ab (ab (ab (ag w _) (ag _ _)) (ag _ _)) (ag _ _)
 exact⟨F,hx,D,hu,ab Z h,h1,Lf h2 h.size,(cM (n0:=W0.heap.size) (n1:=n1) h Z.size (fun k hk=>by have:=I k hk;omega)).safe O,I,CS C x v vc u i J G to z h2 O I⟩
section
variable {n0 n1 : Nat} {B : Option Nat} {X Y : World} {v : Value} {L : List Bs}
theorem SetIn.keepO (hk:bj n0 n1 B X Y) {s:Bs} (h:SetIn (Own n1 B X) X v s):SetIn (Own n1 B Y) Y v s:=by
 obtain⟨b,o,c,rfl,I,J,G,F,D⟩:=h;refine⟨b,o,c,rfl,I,J,G,?_,fun k x z=>⟨(cH hk F (D k x z).1).1,(cH hk F (D k x z).2).1⟩⟩
 cases s with
 | nil=>exact absurd rfl G
 | cons x r=>exact (cH hk F (D 0 x rfl).1).2
theorem SetsIn.keepO (hk:bj n0 n1 B X Y) (h:SetsIn (Own n1 B X) X v L):SetsIn (Own n1 B Y) Y v L:=by
 obtain⟨A,c,rfl,F,I,G⟩:=h;refine⟨A,c,rfl,F,I,fun k s z=>?_⟩;obtain⟨b,o,u,e,hq,D,hs⟩:=G k s z;exact⟨b,o,u,e,(cH hk hq D).2,(cH hk hq D).1,hs.keepO hk⟩
theorem SetsIn.form {Q:Nat->Prop} (h:SetsIn Q X v L):∃A c,v=.slice A L.length c/\(L.length:Int)<=9223372036854775807:=by
 obtain⟨A,c,rfl,z,D,-⟩:=h;exact⟨A,c,rfl,ax z D⟩
theorem SetsIn.at {Q:Nat->Prop} {A:Option Addr} {n c:Nat} (h:SetsIn Q X (.slice A n c) L) {k:Nat} {s:Bs} (hk:L[k]?=some s):∃b o u,A=some ⟨b,o,none⟩/\X.cell? ⟨b,o+k,none⟩=some u/\SetIn Q X u s:=by
 obtain⟨F,I,e,G,J,D⟩:=h
 cases e
 obtain⟨b,o,u,e,hq,z,hs⟩:=D k s hk;exact⟨b,o,u,e,z,hs⟩
theorem SetIn.form {Q:Nat->Prop} {s:Bs} (h:SetIn Q X v s):∃A c,v=.slice A s.length c:=by
 obtain⟨b,o,c,rfl,-⟩:=h;exact⟨_,_,rfl⟩
end
theorem SeqHyp.sets {l:List Evt} {x:Pt} {b:Bs} {i d e C:Nat} {v vc vl u:Value} {W0 w:World} {n1:Nat} {B:Option Nat} {bc bp bo bf:Nat} (h:SeqHyp l x b i d e C v vc vl u W0 w n1 B bc bp bo bf)
  {D z:World} {t:Value} {L:List Bs} (F:KY w D) (hs:SetsIn (fun q=>D.heap.size<=q) z t L) (G:KY D z):SetsIn (Own n1 B z) z t L :=
 hs.mono fun q hq=>h.new (ab F G) (by have:=F.size;omega)
theorem Dv {l:List Evt} {d C:Nat} {vl:Value} {W0:World} (I:ScnAt l W0 C vl) {A:Option Addr} {n c:Nat} {ar:List Pt} (hx:aW d W0 (.slice A n c) ar) {k:Nat} {a:Pt} (ha:ar[k]?=some a) (j:Nat) (t:Bs) (ut:Value) (hS:xF l a t j) :
   ∃Z cv Ac nc cc D z,A=some ⟨D,z,none⟩/\(∀wr,KY W0 wr->wr.cell? ⟨D,z+k*14,none⟩=some (KW a.op)/\wr.cell? ⟨D,z+k*14+1,none⟩=some (.slice Z a.args.length cv) /\
   wr.cell? ⟨D,z+k*14+2,none⟩=some (KW a.ty)/\wr.cell? ⟨D,z+k*14+3,none⟩=some (KW a.vr)/\wr.cell? ⟨D,z+k*14+4,none⟩=some (KW a.sc)/\wr.cell? ⟨D,z+k*14+5,none⟩=some (KW a.sp) /\
   wr.cell? ⟨D,z+k*14+6,none⟩=some (KW a.cond.op)/\wr.cell? ⟨D,z+k*14+7,none⟩=some (.slice Ac nc cc)/\wr.cell? ⟨D,z+k*14+8,none⟩=some (KW a.cond.vr)/\wr.cell? ⟨D,z+k*14+9,none⟩=some (KW a.cond.fl)/\wr.cell? ⟨D,z+k*14+10,none⟩=some (KW a.cond.kd) /\
   wr.cell? ⟨D,z+k*14+11,none⟩=some (KW a.cond.val.kind)/\wr.cell? ⟨D,z+k*14+12,none⟩=some (KW a.cond.val.num)/\wr.cell? ⟨D,z+k*14+13,none⟩=some (.string a.cond.val.text)) /\
   (∃d' J,aW d' W0 (.slice Z a.args.length cv) a.args/\aF J W0 (.slice Ac nc cc) a.cond.args) /\
   ∀O,KY W0 O->jw O ut t->Calls prog 117 #[.pointer (some ⟨C,0,none⟩),ptV a (.slice Z a.args.length cv) (.slice Ac nc cc),ut,KW (j:Int)] O (kp O (bN l a t j)):=by
 obtain⟨A',c',J,h1,h2,j'⟩:=hx
 cases J
 obtain⟨D,z,rfl,i'⟩:=j' k a ha;obtain⟨d',J,v',n',m',l',b',F,p0,p1,p2,p3,p4,p5,p6,p7,p8,p9,g',k',f',h'⟩:=cW i';have a':=b';have G:=F;obtain⟨Z,cv,rfl,-⟩:=b';obtain⟨Ae,ce,rfl,-⟩:=F;refine⟨Z,cv,Ae,_,ce,D,z,rfl,fun wr h=>⟨aa h p0,aa h p1,aa h p2,aa h p3,aa h p4,aa h p5,aa h p6,aa h p7,aa h p8,aa h p9,aa h g',aa h k',aa h f',aa h h'⟩,⟨d',J,a',G⟩,fun O h hu=>?_⟩;exact hS d' J C _ _ vl ut O (aa h I.ev) (aa h I.fu) (I.is.stays aK h) (a'.stays (aB d') h) (G.stays (ai J) h) hu
end
section
open Go.RowKit Go.Lib
theorem yD {n0 n1:Nat} {B:Option Nat} {w:World} {L:List Bs} {v:Value} {bv:Nat} (F:n0<=w.heap.size) (e':n1<=w.heap.size) (hB:∀k,B=some k->k<n1) (hv:w.cell? ⟨bv,0,none⟩=some v) (ho:Own n1 B w bv) (hs:SetsIn (Own n1 B w) w v L) :
  SeqC 347 #[.pointer (some ⟨bv,0,none⟩)] L (InS n1 B) (bj n0 n1 B) w:=by
 intro ly J Jx W hW hJ c' hY b';have HY:=jD hY;have hK:bj n0 n1 B w W:=cM hW F (fun k hk=>by have:=hB k hk;omega);replace hv:=(cH hK ho hv).1;replace hs:=SetsIn.keepO hK hs;have HS:Hid (J 0 W/\SetsIn (Own n1 B W) W v L):=jD ⟨b',hs⟩;obtain⟨A,c,rfl,D⟩:=hs.form;have g':=K8 W ⟨bv,_,none⟩ hv;obtain⟨n,F⟩:=jF L.length;have HN:=jD F;rw[<-F]at HS D hv;clear hW hJ c' hY b' hK ho hs F e' hB;show Calls prog 347 #[.func (.yield ly) #[] #[],.pointer (some ⟨bv,0,none⟩)] W _;go_enter func347,ntmps347;refine (wpIn_wide (n:=5)).1 ?_;gi_wp2
 gi_loopw [7] (fun t wr=>∃j:Nat,j<=n/\t=KW j/\Hid (J j wr/\SetsIn (Own n1 B wr) wr (.slice A n c) L)) (fun t _=>n-(RowKit.intOf t).toNat)
 case atStart=>exact⟨0,Lb _,rfl,HS⟩
 case round =>
  obtain⟨j,hj,rfl,hI⟩:=hrel
  by_cases a':j<n
  ·have d':(j:Int)<(n:Int):=by omega
   obtain⟨s,h⟩:∃s,L[j]?=some s:=⟨_,K9 (by have:=HN.out;omega)⟩;obtain⟨sb,so,us,rfl,Z,z⟩:=hI.out.2.at h;obtain⟨Au,cu,rfl⟩:=z.form;have f':=K8 wr ⟨sb,_,none⟩ Z;have I:Hid (YieldAt Fence.wide (5-1) prog ly #[.slice Au s.length cu] wr fun e W'=>(e=.returned (.bool true)/\J (j+1) W'/\SetsIn (Own n1 B W') W' (.slice (some ⟨sb,so,none⟩) n c) L)\/(e=.returned (.bool false)/\Jx (j+1) W')):=by
    refine jD (ep (HY.out _ j s _ wr h hI.out.1 ⟨_,rfl,z⟩) ?_);rintro e W' (⟨rfl,g1,g2⟩|⟨rfl,g1⟩)
    ·exact .inl ⟨rfl,g1,SetsIn.keepO g2 hI.out.2⟩
    ·exact .inr ⟨rfl,g1⟩
   obtain⟨ns,G⟩:∃n,n=s.length:=⟨_,rfl⟩;rw[<-G]at I Z;clear h z G;gi_wp2;refine gy I.out (fun W7 O=>?_) (fun W7 O=>?_)
   ·have H7:=jD O;clear O;gi_wp2
    go_roundw
    case rel=>exact⟨j+1,by omega,by go_num,H7⟩
    case measure=>exact AT a'
   ·have H7:=jD O;clear O;gi_wp2;refine Lc (v:=.tuple #[]) (Mv rfl _ _ _) rfl ?_;exact⟨⟨_,rfl⟩,.inr ⟨j,by rw[<-HN.out];exact a',H7.out⟩⟩
  ·have d':¬(j:Int)<(n:Int):=by omega
   obtain rfl:j=n:=by omega
   have HE:Hid (J L.length wr):=jD (by rw[<-HN.out];exact hI.out.1);gi_wp2;refine ML (Mv rfl _ _ _) rfl ?_;exact⟨⟨_,rfl⟩,.inl HE.out⟩
def Kx (w:World) (v:Value) (e:Ending) (W:World):Prop:=e=.returned (.func (.func 347) #[] #[.pointer (some ⟨w.heap.size,0,none⟩)])/\W=w.alloc (.cells #[v] 183)
theorem yA (A:Option Addr) (n c:Nat) (w:World):Calls prog 308 #[.slice A n c] w (Kx w (.slice A n c)):=by
 go_enter func308,ntmps308;go_wp2;go_ret;exact⟨rfl,rfl⟩
end
end Go.Proofs.YtokconodddedhaaGreatDoor
