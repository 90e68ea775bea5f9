/- Part. -/
import Derived.Test.YtokconodddedhaaGreatDoorQ39
set_option maxRecDepth 100000
set_option maxHeartbeats 16000000
set_option linter.unusedVariables false
set_option linter.unusedSimpArgs false
namespace Go.Proofs.YtokconodddedhaaGreatDoor
open Go.Proofs.Tryz Go.RowKit
section
section
theorem MW.is {B:Nat} {wr:World} {D:Value} {ms:List (List Bnd × Value)} (h:MW B wr D ms):qk wr D (ms.map (·.1)):=by
 have G:∀u∈ms.map (·.2),u.oneCell'=true:=fun u hu=>by
  obtain⟨e,he,rfl⟩:=List.mem_map.1 hu;exact fK (h.bnds e he).1
 obtain⟨A,c,rfl,Z,F,O⟩:=cU h.row G;refine⟨A,c,by rw[Lm],by rw[Lm];exact Z,F,fun k x hk=>?_⟩;rw[LI]at hk;obtain⟨e,he,rfl⟩:=Option.map_eq_some_iff.1 hk;have I:=(List.getElem?_eq_some_iff.1 he).1;obtain⟨b,o,J,z⟩:=O.2.2 om;exact⟨b,o,J,e.2,(h.bnds e (Li he)).1,by rw[LL];exact z k _ (by rw[LI,he];rfl)⟩
end
section
end
section
open Go.RowKit Go.Shelf
def PutIn (w:World) (v:Value) (l:List (List Bnd)):Prop:=(v=.slice none 0 0/\l=[])\/∃b o c,v=.slice (some ⟨b,o,none⟩) l.length c/\qk w v l
theorem PutIn.is {w:World} {v:Value} {l:List (List Bnd)} (h:PutIn w v l):qk w v l:=by
 rcases h with ⟨rfl,rfl⟩|⟨b,o,c,_,h⟩
 ·exact Sl.nil _ _ _ _ _ (Lb _)
 ·exact h
theorem PutIn.stays {w w':World} {v:Value} {l:List (List Bnd)} (h:PutIn w v l) (z:KY w w'):PutIn w' v l:=by
 rcases h with h|⟨b,o,c,h1,h2⟩
 ·exact .inl h
 ·exact .inr ⟨b,o,c,h1,h2.stays xh z⟩
end
section
open Go.RowKit Go.Shelf
end
end
section
open Go.RowKit Go.Lib
attribute [local go_sem] Oper.semAt_some
theorem Is {W W':World} (z:∀(b p:Nat) (v:Value),W.cell? ⟨b,p,none⟩=some v->W'.cell? ⟨b,p,none⟩=some v) {v:Value} {l:List Bnd} (h:bQ W v l):bQ W' v l:=by
 obtain⟨A,c,rfl,I,h2,F⟩:=h;refine⟨A,c,rfl,I,h2,fun k x D=>?_⟩;obtain⟨b,o,e,J,O,Z,G⟩:=F k x D;exact⟨b,o,e,z _ _ _ J,z _ _ _ O,z _ _ _ Z,z _ _ _ G⟩
theorem sa {w w':World} {base:Nat} {e:TypeId} {sz n:Nat} {v:Value} {xs:List Value} (h:w.ownsRow base e sz v n xs) {row:Option Nat} (G:w.grownBy w' row) (hr:∀r,row=some r->∃o:Obj,w.heap[r]?=some o/\o.isCells=false):w'.ownsRow base e sz v n xs:=by
 refine aT h fun g z=>G.block g (ah h z).2 fun I=>?_
 obtain⟨o,D,F⟩:=hr g I.symm;rcases h.2 with ⟨rfl,_⟩|⟨g',cap,cur,rfl,_,hh,_⟩
 ·simp[Value.ownBlock]at z
 ·have:g'=g:=by simpa [Value.ownBlock] using z
  subst this;rw[hh]at D
  cases D
  cases F
theorem MW.kept {B:Nat} {W W':World} {F:Value} {ms:List MV} (h:MW B W F ms) {row:Option Nat} (D:W.grownBy W' row) (hr:∀r,row=some r->∃o:Obj,W.heap[r]?=some o/\o.isCells=false):MW B W' F ms :=
 ⟨sa h.row D hr,fun e he=>⟨Is (fun _ _ _ G=>cell_kept G D hr) (h.bnds e he).1,fun g z=>⟨((h.bnds e he).2 g z).1,Ll ((h.bnds e he).2 g z).2.1 D.size,((h.bnds e he).2 g z).2.2⟩⟩⟩
theorem MW.box {B C:Nat} {W:World} {D:Value} {ms:List MV} (h:MW B W D ms) (F:C<B) (u:Value):MW B (W.setCell ⟨C,0,none⟩ u) D ms:=by
 refine⟨aT h.row fun g z=>LB W ⟨C,0,none⟩ u g (by have:=(ah h.row z).1;simp only;omega),fun e he=>⟨iY (h.bnds e he).1 fun g z=>LB W ⟨C,0,none⟩ u g (by have:=((h.bnds e he).2 g z).1;simp only;omega),fun g z=>?_⟩⟩;have:=(h.bnds e he).2 g z;exact⟨this.1,jQ this.2.1,this.2.2⟩
theorem MW.apps {B N:Nat} {F w7:World} {G Z v2:Value} {ms D:List MV} (h:MW B F G ms) (hn:MatsNew N F v2 D) (c':B<=N) (a':∀g,G.ownBlock=some g->g<N)
  (I:w7.ownsRow B 55 1 Z (ms.length+D.length) (ms.map (·.2)++D.map (·.2))) (hg:F.grownBy w7 G.ownBlock) (J:Z.ownBlock=G.ownBlock\/Z.ownBlock=some F.heap.size) :
  MW B w7 Z (ms++D):=by
 have b':=hg.size;refine⟨by rw[Le,LH];exact I,fun e he=>?_⟩;have h0:bQ F e.2 e.1/\∀g,e.2.ownBlock=some g->B<=g/\g<F.heap.size/\some g≠G.ownBlock:=by
  rcases List.mem_append.1 he with he|he
  ·exact h.bnds e he
  ·refine⟨(hn.2 e he).1,fun g z=>?_⟩;have O:=(hn.2 e he).2 g z;exact⟨by omega,O.2,fun e2=>by have:=a' g e2.symm;omega⟩
 refine⟨iY h0.1 fun g z=>hg.block g (h0.2 g z).2.1 (h0.2 g z).2.2,fun g z=>?_⟩;have O:=h0.2 g z;refine⟨O.1,by omega,?_⟩;rcases J with hl|hl
 ·rw[hl];exact O.2.2
 ·rw[hl];simp;omega
theorem MatsNew.src {N:Nat} {w:World} {A:Option Addr} {n c:Nat} {ms:List MV} (h:MatsNew N w (.slice A n c) ms):Src w A n 1 (ms.map (·.2)):=by
 obtain⟨⟨A',c',e,h1,h2,J⟩,h4⟩:=h;injection e with F G e3;subst F G e3;refine⟨by simp,fun u hu=>?_,fun D=>?_⟩
 ·obtain⟨e,he,rfl⟩:=List.mem_map.1 hu;obtain⟨Ae,ce,hv,-⟩:=(h4 e he).1;rw[hv];rfl
 ·obtain⟨b,o,O,-,-,-⟩:=J 0 ms[0] (K9 D);refine⟨b,o,O,fun j u I=>?_⟩;rw[LI]at I;obtain⟨e,he,rfl⟩:=Option.map_eq_some_iff.1 I;obtain⟨b',o',z,-,-,Z⟩:=J j e he;rw[O]at z;injection z with z;injection z with F G;subst F G;exact Z
def dP (q:Qry) (l:List Evt):List (List Bnd) × Int:=if (aZ q l).2≠0 then ([],(aZ q l).2) else (iK (ei q.pat (aZ q l).1.2),0)
def PmRet (w:World) (r:List (List Bnd) × Int) (e:Ending) (W:World):Prop:=∃v,e=.returned (.tuple #[v,KW r.2])/\qk W v r.1/\KY w W
def PmNew (w:World) (r:List (List Bnd) × Int) (e:Ending) (W:World):Prop:=∃v ms,e=.returned (.tuple #[v,KW r.2])/\(ms.map (·.1)=r.1/\MatsNew w.heap.size W v ms)/\KY w W
theorem MatsNew.nil (B:Nat) (W:World):MatsNew B W (.slice none 0 0) []:=⟨⟨none,0,rfl,Ld _,Lb _,fun k e h=>by simp at h⟩,fun e h=>by simp at h⟩
theorem MW.new {B N:Nat} {W:World} {G:Value} {ms:List MV} (h:MW B W G ms) (D:N<=B):MatsNew N W G ms:=by
 have J:∀u∈ms.map (·.2),u.oneCell'=true:=fun u hu=>by
  obtain⟨e,he,rfl⟩:=List.mem_map.1 hu;obtain⟨A,c,O,-⟩:=(h.bnds e he).1;rw[O];rfl
 obtain⟨A,c,rfl,h2,I,Z⟩:=cU h.row J;refine⟨⟨A,c,rfl,h2,I,fun k e he=>?_⟩,fun e he=>⟨(h.bnds e he).1,fun g F=>⟨Lf D ((h.bnds e he).2 g F).1,((h.bnds e he).2 g F).2.1⟩⟩⟩;obtain⟨b,o,rfl,z⟩:=Z.2.2 (by have:=(List.getElem?_eq_some_iff.1 he).1;omega);exact⟨b,o,rfl,Lf D (ah h.row rfl).1,(ah h.row rfl).2,z k _ (by rw[LI,he];rfl)⟩
def Jq (w z h:World) (D:Nat) (p:Pt) (L:List (Vl × List Evt)) (k:Nat) (W:World):Prop :=
 (∃u ms,Boxed W D 37 u/\MW h.heap.size W u ms/\ms.map (·.1)=(L.take k).flatMap (fun s=>fT s.2 p))/\KY z W/\KY w W/\h.heap.size<=W.heap.size
theorem DP {w z G:World} {O B:Nat} {p:Pt} {L:List (Vl × List Evt)} (hw:w.heap.size<=B) (h:z.heap.size<=B):OwnFrom B (Jq w z G O p L) :=
 fun _ _ _ _ ⟨⟨u,ms,J,h2,I⟩,F,D,Z⟩ hg hr=>⟨⟨u,ms,bP J hg (fun r e=>(hr r e).2),h2.kept hg (fun r e=>(hr r e).2),I⟩,gn F F.size hg (fun r e=>Lf h (hr r e).1),gn D D.size hg (fun r e=>Lf hw (hr r e).1),Lf Z hg.size⟩
def AxM (T:Array Value) (x:Vl × List Evt) (a:Array Value) (h:Act) (_:World):Prop :=
 ∃u,a=#[vlV x.1,u]/\h={ tmps:=((T.setIfInBounds 27 (vlV x.1)).setIfInBounds 28 u).setIfInBounds 11 u,defers:=[] }
theorem IN (T:Array Value) (B:Nat) (x:Vl × List Evt) (a:Array Value) (z:Act):OwnFrom B (fun (_:Unit) W=>AxM T x a z W):=fun _ _ _ _ h _ _=>h
theorem rU {B:Nat} {w w':World} {base:Nat} {e:TypeId} {sz n:Nat} {v:Value} {xs:List Value} (h:w.ownsRow base e sz v n xs) (z:w.grownBy w' v.ownBlock):KeepsFrom B w w':=by
 refine⟨z.size,fun k o _ hk F=>(z.block k (Array.getElem?_eq_some_iff.1 hk).1 fun D=>?_).trans hk⟩;rcases h.2 with ⟨rfl,_⟩|⟨g',cap,cur,rfl,_,hh,_⟩
 ·simp[Value.ownBlock]at D
 ·have:k=g':=by simpa [Value.ownBlock] using D
  subst this;rw[hh]at hk
  cases hk
  cases F
theorem Dx {key:List Int} {l:List Evt} (h:(dI key l).2=0):bC l=0/\(dI key l).1=(cT key l,dw key l):=by
 unfold dI at h ⊢
 split at h
 ·next h0=>exact absurd h h0
 ·next h0 =>
  rw[K6 h0];refine⟨?_,rfl⟩
  by_cases hs:bC l=0
  ·exact hs
  ·exact absurd (lm rfl hs▸hs) h0
theorem C8 {q:Qry} {l:List Evt} (h:(aZ q l).2=0):cK q.pat=0/\bC l=0/\(aZ q l).1=(cT q.key l,dw q.key l):=by
 unfold aZ at h ⊢
 split at h
 ·next h0=>exact absurd h h0
 ·next h0 =>
  rw[K6 h0];obtain⟨z,D⟩:=Dx h;exact⟨jQ h0,z,D⟩
theorem Ff {key:List Int} {l s:List Evt} (h:s∈dw key l):s.length<=l.length:=by
 obtain⟨v,_,rfl⟩:=List.mem_map.1 h;exact MH _ _
theorem Iw {α β:Type} {a:List α} {b:List β} (h:b.length=a.length):(a.zip b).map (·.2)=b:=by
 rw[List.map_snd_zip om]
theorem pG {p:Pt} {ks:List Vl} {ps:List (List Evt)} (h:ps.length=ks.length):(ks.zip ps).flatMap (fun s=>fT s.2 p)=ei p ps:=by
 unfold ei
 conv=>rhs;rw[<-Iw h]
 rw[List.flatMap_map]
theorem sC {p:Pt} {L:List (Vl × List Evt)} {k:Nat} {y:Vl × List Evt} (h:L[k]?=some y):(L.take (k+1)).flatMap (fun s=>fT s.2 p)=(L.take k).flatMap (fun s=>fT s.2 p)++fT y.2 p:=by
 rw[bZ h,MP];simp
theorem Hv {p:Pt} {L:List (Vl × List Evt)} (k:Nat):((L.take k).flatMap (fun s=>fT s.2 p)).length<=(L.flatMap (fun s=>fT s.2 p)).length:=by
 conv=>rhs;rw[<-M8 k L,MP,Le]
 omega
theorem uJ {M:List (List Bnd)} (D:M.Nodup) {es es':List MV} (he:es.map (·.1)=M) (hp:es'.Perm es) (z:(es'.map (·.1)).Pairwise (fun a b=>¬bsC b a<0)):es'.map (·.1)=iK M:=by
 have h:(es'.map (·.1)).Perm M:=he▸hp.map _;refine Fk jc (oV z (h.nodup_iff.2 D)) (fS M).1 fun k=>?_
 rw[h.mem_iff,(fS M).2 k]
theorem lT (d:Nat) (q:Qry) (l:List Evt) (vv vk va vc vr vl:Value) (w:World) (hA:PartAsk d w q l vv vk va vc vr vl) (hS:SmallN l.length q.pat)
  (hF:(aZ q l).2=0->(ei q.pat (dw q.key l)).length<=4096) :
  Calls prog 9 #[dO q vv vk va vc vr,vl] w (PmNew w (dP q l)):=by
 have M':=jD (fun (W:World) (hW:KY w W)=>lg d q l vv vk va vc vr vl W (hA.stays hW));have W2:=jD (fun (W:World) (s:List Evt) (u:Value) (hW:KY w W) (hs:s.length<=l.length) (hu:bm W u s)=>mV s q.pat d va vc u W (hA.shp.stays hW) (hA.qry.args.stays (aB d) hW) (hA.qry.cond.stays (ai d) hW) hu hA.few (hS.less hs));have D':=jD (jP q l);have H0:Hid ((aZ q l).2=0->cK q.pat=0/\(∀s∈(aZ q l).1.2,s.length<=l.length/\bC s=0)/\(ei q.pat (aZ q l).1.2).length<=4096/\(ei q.pat (aZ q l).1.2).Nodup):=jD fun h=>by
  obtain⟨h1,h2,h3⟩:=C8 h;rw[h3];exact⟨h1,fun s hs=>⟨Ff hs,FB h2 s hs⟩,hF h,oQ _ _ (zT (lC h2))⟩
 obtain⟨S,O0⟩:=jE (dP q l);obtain⟨⟨⟨ks,ps⟩,se⟩,hR⟩:∃R,aZ q l=R:=⟨_,rfl⟩;have HS:Hid (S=if se≠0 then ([],se) else (iK (ei q.pat ps),0)):=jD (by rw[<-O0,dP,hR]);rw[O0];rw[hR]at M' D' H0;obtain⟨Av,cv,Ak,ck,Aa,ca,Ac,cc,Ar,cr,Al,cl,rfl,rfl,rfl,rfl,rfl,rfl⟩:=hA.form;clear hA hR O0 hS hF;unfold dO at M' ⊢;unfold ptV at W2;refine (Ng (n:=5)).1 ?_;refine callsIn_of_wp_marks func9 rfl trivial ?_ rfl;simp only[ntmps9,MM,Lt,MG,Nat.reduceAdd,Nat.reduceSub,Nh,Ni,Nj,Nk,MJ,Mr]
 have Z0:∀o1 o2:Obj,(((w.alloc (.cells #[.string q.nm,.slice Av q.vars.length cv,.slice Ak q.key.length ck,.int .i64 q.pat.op,.slice Aa q.pat.args.length ca,.int .i64 q.pat.ty,.int .i64 q.pat.vr,.int .i64 q.pat.sc,.int .i64 q.pat.sp,.int .i64 q.pat.cond.op,.slice Ac q.pat.cond.args.length cc,.int .i64 q.pat.cond.vr,.int .i64 q.pat.cond.fl,.int .i64 q.pat.cond.kd,.int .i64 q.pat.cond.val.kind,.int .i64 q.pat.cond.val.num,.string q.pat.cond.val.text,.slice Ar q.rets.length cr] 33 (0,0))).alloc o1).alloc o2).heap[w.heap.size]?=some (.cells #[.string q.nm,.slice Av q.vars.length cv,.slice Ak q.key.length ck,.int .i64 q.pat.op,.slice Aa q.pat.args.length ca,.int .i64 q.pat.ty,.int .i64 q.pat.vr,.int .i64 q.pat.sc,.int .i64 q.pat.sp,.int .i64 q.pat.cond.op,.slice Ac q.pat.cond.args.length cc,.int .i64 q.pat.cond.vr,.int .i64 q.pat.cond.fl,.int .i64 q.pat.cond.kd,.int .i64 q.pat.cond.val.kind,.int .i64 q.pat.cond.val.num,.string q.pat.cond.val.text,.slice Ar q.rets.length cr] 33 (0,0)):=fun o1 o2=>aE (aE (ap _ _ _ rfl))
 refine wpIn_wide.2 ?_;go_wp2_with (refine Md rfl 33 (.tmp 2) rfl w.heap.size rfl 33 _ (0,0) _ (Z0 _ _) underlying33 rfl bM ?_);refine aw fun w1 e1=>?_
 have Q0:KY w w1:=gb e1;obtain⟨b5,d'⟩:∃b,b=w.heap.size+1+1:=⟨_,rfl⟩;obtain⟨b4,A0⟩:∃b,b=w.heap.size+1:=⟨_,rfl⟩;obtain⟨b2,E'⟩:∃b,b=w.heap.size:=⟨_,rfl⟩;have z:w1.heap[b2]?=some (.cells #[.string q.nm,.slice Av q.vars.length cv,.slice Ak q.key.length ck,.int .i64 q.pat.op,.slice Aa q.pat.args.length ca,.int .i64 q.pat.ty,.int .i64 q.pat.vr,.int .i64 q.pat.sc,.int .i64 q.pat.sp,.int .i64 q.pat.cond.op,.slice Ac q.pat.cond.args.length cc,.int .i64 q.pat.cond.vr,.int .i64 q.pat.cond.fl,.int .i64 q.pat.cond.kd,.int .i64 q.pat.cond.val.kind,.int .i64 q.pat.cond.val.num,.string q.pat.cond.val.text,.slice Ar q.rets.length cr] 33 (0,0)):=by rw[e1,E'];exact Z0 _ _
 have I:Boxed w1 b4 37 (.slice none 0 0):=by rw[e1,A0];exact aE (ap _ _ _ jS)
 have G:Boxed w1 b5 38 (KW 0):=by rw[e1,d'];exact ap _ _ _ jS
 have H':Hid (w.heap.size<=b2/\b2<b4/\b4<b5/\b5<w1.heap.size):=jD ⟨by omega,by omega,by omega,G.lt⟩;rw[<-d',<-A0,<-E'];clear e1 d' A0 E' Z0;refine (M'.out _ Q0).mono ?_;rintro e w2 ⟨kv,pv,rfl,V',K0,t'⟩;have Q4:=jD V';have W3:=jD K0;obtain⟨A1,c1,rfl,-⟩:=id V';obtain⟨A2,c2,rfl,-⟩:=id K0;have T1:=jD (ao t' z);have I:Boxed w2 b4 37 (.slice none 0 0):=(t'.block _ I.lt).trans I;have G:Boxed w2 b5 38 (KW 0):=(t'.block _ G.lt).trans G;have N0:=jD (ab Q0 t');clear V' K0 Q0 t' M' z;have q4:=I.cell;have f4:=I.frozen;have q5:=G.cell;have f5:=G.frozen;have l4:=I.lt;have l5:=G.lt;have T':w.heap.size<=b4:=by have:=H'.out;omega
 have S':w.heap.size<=b5:=by have:=H'.out;omega
 have T0:b4≠b5:=by have:=H'.out;omega
 have M1:b5≠b4:=by have:=H'.out;omega
 by_cases h0:se=0
 case neg =>
  have V5:(se != 0)=true:=jQ h0;obtain rfl:S=([],se):=by have h:=HS.out;rw[K7 h0]at h;exact h
  clear h0 HS;go_wp2_with fail;refine⟨.tuple #[.slice none 0 0,KW se],?_,_,[],rfl,⟨rfl,MatsNew.nil _ _⟩,aA (aA N0.out T' _) S' _⟩;have r4:=(bT (I.set (.slice none 0 0)) T0 (KW se)).cell;have r5:=(Boxed.set (KW se) (bT G M1 (.slice none 0 0))).cell;simp[results,Tryz.f9,go_sem,r4,r5]
 subst h0;obtain⟨H2,O2,E2,X1⟩:=H0.out rfl;obtain rfl:S=(iK (ei q.pat ps),0):=by have h:=HS.out;rw[K6 jS]at h;exact h
 have S4:=jD H2;have P2:=jD O2;have V1:Hid (((ks.zip ps).flatMap (fun s=>fT s.2 q.pat)).length<=4096):=jD (by rw[pG D'.out];exact E2);have T3:=jD X1;clear HS H0 H2 O2 E2 X1;go_wp2_with fail;refine aw fun b' L'=>?_
 obtain⟨b9,V0⟩:∃b,b=w2.heap.size:=⟨_,rfl⟩;have R':KY w2 b':=gb L';have S0:Boxed b' b9 37 (.slice none 0 0):=by rw[L',V0];exact ap _ _ _ rfl
 have U1:b'.heap.size=w2.heap.size+1:=by rw[L'];simp
 rw[<-V0];clear L';refine (oh _ _ _ ⟨_,_,_,rfl⟩ ⟨_,_,_,rfl⟩).mono ?_;rintro e w3 ⟨rfl,e3⟩;have K1:KY b' w3:=gb e3;have k3:KX w3 b'.heap.size 0 (.slice A1 ks.length c1):=jG e3;have p3:KX w3 (b'.heap.size+1) 0 (.slice A2 ps.length c2):=jG e3;have R3:w3.heap.size=b'.heap.size+2:=by rw[e3];simp
 have k':=ab R' K1;have O':=jD (oK ks ps _ _ b'.heap.size (b'.heap.size+1) w2 w3 D'.out Q4.out W3.out k' k3 p3);have R4:Hid (Boxed w3 b9 37 (.slice none 0 0)):=jD ((K1.block _ S0.lt).trans S0);have q':=jD I;have p':=jD G;have j':=jD (ab N0.out k');have F':=jD k';clear e3 k3 p3 K1 I G S0 q4 f4 q5 f5 R' k';obtain⟨pb,R0⟩:∃b,b=b'.heap.size+1:=⟨_,rfl⟩;obtain⟨kb,U'⟩:∃b,b=b'.heap.size:=⟨_,rfl⟩;have F:Hid (w3.heap.size=b9+3/\kb=b9+1/\pb=b9+2/\b9=w2.heap.size):=jD om;rw[<-R0,<-U']at O';rw[<-R0,<-U'];clear U' R0 V0 U1 R3;go_wp2_with fail;refine (wpIn_wide (n:=5)).1 ?_;refine iC fun a0 e0=>?_
 refine nO (n:=5) (gf:=77) (lb:=#[.pointer (some ⟨kb,0,none⟩),.pointer (some ⟨pb,0,none⟩)]) (by rw[e0];rfl) (enters_of func77 kr rfl) O'.out
  Bj (JJ F'.out.size (by have:=F.out;omega) (by have:=F.out;omega)) (La _ _) (fun x v=>xO w2 _ x v) (fun x v W h=>sK h)
  (Jq w w2 w3 b9 q.pat (ks.zip ps)) (fun _ _ _=>False) (DP j'.out.size F'.out.size) (fun c _ _ _ _ h _ _=>h) ⟨⟨_,[],R4.out,MW.nil _ _,by simp⟩,F'.out,j'.out,Ld _⟩
  (AxM a0.tmps) (fun x v a'=>IN _ _ x v a') ?assign ?body ?done ?stop
 case assign =>
  intro m l9 k y v W K hl hy hi X0 hK;obtain⟨u,rfl,hu⟩:=X0;obtain⟨Au,cu,rfl,-⟩:=id hu;obtain⟨y1,y2⟩:=y;have Y0:=hK;rw[e0]at Y0;have HI:=jD hi;have HU:=jD hu;have HK:=jD Y0;clear hi hu Y0 hK hy hl;rw[e0];unfold vlV;gi_wp2;exact HK.out _ _ (bH (La _ _)) (wQ _ _ _ _) HI.out ⟨_,rfl,HU.out⟩ ⟨_,rfl,rfl⟩
 case body =>
  rintro m l9 k ⟨y1,y2⟩ v a' W hl-hy hi X0 ⟨u,rfl,rfl⟩;obtain⟨u',K2,hu⟩:=X0;obtain rfl:u=u':=jQ K2;obtain⟨Au,cu,rfl,-⟩:=id hu;obtain⟨⟨uo,ms,xo,i',e'⟩,Z,n',B'⟩:=hi;have z:W.heap[b2]?=_:=(Z.block b2 (aD T1.out)).trans T1.out;have x':y2∈ps:=by
   have h:=Li hy;exact (List.of_mem_zip h).2
  have A3:=jD (W2.out W y2 _ n' (P2.out y2 x').1 (hu.stays aK Z));have V3:=jD (P2.out y2 x').2;have HY:=jD hy;have HB:=jD (And.intro Z (And.intro n' B'));have s':=jD i';have y':=jD e';have p3:=af z 3;have p4:=af z 4;have p5:=af z 5;have p6:=af z 6;have p7:=af z 7;have p8:=af z 8;have p9:=af z 9;have V4:=af z 10;have O4:=af z 11;have X3:=af z 12;have K4:=af z 13;have Q3:=af z 14;have K3:=af z 15;have Y4:=af z 16;simp only[LE,LC]at p3 p4 p5 p6 p7 p8 p9 V4 O4 X3 K4 Q3 K3 Y4;have T5:=aD z;have Q1:=jD xo;obtain⟨Ao,co,rfl⟩:=ay i'.row;clear K2 hu i' e' Z n' B' z x' hy xo;rw[e0];simp only[Lw,Lj,Lk];gi_wp2;refine⟨trivial,fun h=>by simp[Fence.wide]at h,CallsIn.inRound _ (callsIn_wide.2 ?_)⟩;refine A3.out.mono ?_;intro e W5 h5;obtain⟨d',h5⟩:=h5;rcases h5 with ⟨h5,-⟩|⟨-,h5,-⟩|⟨-,-,v5,ms5,rfl,hn5,hm5⟩
  ·exact absurd S4.out h5
  ·exact absurd V3.out h5
  obtain⟨A5,c5,rfl⟩:∃A5 c5,v5=.slice A5 ms5.length c5:=by obtain⟨⟨A5,c5,e,-⟩,-⟩:=hn5;exact⟨A5,c5,e⟩
  have m':=s'.out.grow d';have A4:ms.length+ms5.length<=4096:=by
   have h1:=congrArg List.length y'.out;have h2:=congrArg List.length hm5;rw[Lm]at h1 h2;have h3:=Hv (p:=q.pat) (L:=ks.zip ps) (k+1);rw[sC HY.out,Le]at h3;dsimp only at h3;have:=V1.out;omega
  have x5:Boxed W5 b9 37 (.slice Ao ms.length co):=(d'.block _ Q1.out.lt).trans Q1.out;have U3:Hid ((ms++ms5).map (·.1)=((ks.zip ps).take (k+1)).flatMap (fun s=>fT s.2 q.pat)):=jD (by rw[LH,y'.out,hm5,sC HY.out]);have O1:=jD d';have Q5:=d'.size;have U5:=jD hn5;have K5:=jD m';obtain⟨n,hn⟩:=jF ms.length;obtain⟨n5,h'⟩:∃n,n=ms5.length:=⟨_,rfl⟩;obtain⟨N,hN⟩:=jF (n+n5);have l':Hid (W5.ownsRow w3.heap.size 55 1 (.slice Ao n co) n (ms.map (·.2))):=jD (by rw[hn];exact m'.row);have N1:Hid (Src W5 A5 n5 1 (ms5.map (·.2))):=jD (by rw[h'];exact hn5.src);have N3:Hid (∀(w8:World) (v8:Value),w8.ownsRow w3.heap.size 55 1 v8 N (ms.map (·.2)++ms5.map (·.2))->W5.grownBy w8 (Value.slice Ao n co).ownBlock->(v8.ownBlock=(Value.slice Ao n co).ownBlock\/v8.ownBlock=some W5.heap.size)->MW w3.heap.size w8 v8 (ms++ms5)):=jD fun w8 v8 h1 h2 h3=>m'.apps (N:=W.heap.size) hn5 HB.out.2.2 (fun g hg=>(ah s'.out.row hg).2) (by rw[<-hn,<-h',<-hN];exact h1) (by rw[<-hn];exact h2) (by rw[<-hn];exact h3)
  rw[<-hn,<-h']at A4;rw[<-hn]at x5;rw[<-h'];clear hn5 hm5 m' d' hn h';have P5:=x5.cell;have N5:=x5.frozen;have Y5:=x5.lt;have g':=jD x5;have Z5:N<=4096:=by omega
  have hle:¬(4096:Int)<(N:Int):=by omega
  have HN:=jD hN;obtain⟨j0,H5,B5,U4,H4⟩:=LD vZ;clear x5 hN;gi_wp2_with (gi_at_builtin;refine mK _ rfl (.tmp 39) (.tmp 40) 37 rfl w3.heap.size 55 j0 _ 1 24 underlying37 H5 B5 U4 H4 rfl dc (.slice Ao n co) n (ms.map (·.2)) rfl l'.out A5 n5 c5 (ms5.map (·.2)) rfl N1.out (by unfold maxLen;omega) om (by have:=HB.out.2.2;omega) ?_;intro v8 w8 J J' G';rw[<-HN.out]at J;have Y1:=jD (N3.out w8 v8 J J' G');have X':=jD J';have x8:Boxed w8 b9 37 (.slice Ao n co):=g'.out.kept J' (fun e=>by have:=(ah l'.out e.symm).1;have:=F.out;omega);have c8:=x8.cell;have f8:=x8.frozen;have l8:=x8.lt;have Z2:=jD x8;obtain⟨A8,S3,rfl⟩:=ay J;have c9:=(x8.set (.slice A8 N S3)).cell;clear x8 J J' G');have J:∀g,(Value.slice Ao n co).ownBlock=some g->w3.heap.size<=g:=fun g e=>(ah l'.out e).1
  have O3:=HB.out.2.2;have N2:Below w3.heap.size W5 w8:=am X'.out om J;have f':Below w3.heap.size W w8:=(O1.out.mono O3).trans N2;refine⟨(bH O1.out).trans ((rU l'.out X'.out).trans ((KeepsOthers.setCell _ _ _).from _)),⟨Below.setCell (f'.mono (by have:=F.out;omega)) (p:=⟨b9,0,none⟩) (by have:=F.out;simp only;omega) _,?_,?_⟩,⟨_,_,Z2.out.set _,Y1.out.box (by have:=F.out;omega) _,U3.out⟩,?_,?_,?_⟩
  ·exact (LB _ ⟨b9,0,none⟩ _ kb (by have:=F.out;simp only;omega)).trans (f'.block kb (by have:=F.out;omega))
  ·exact (LB _ ⟨b9,0,none⟩ _ pb (by have:=F.out;simp only;omega)).trans (f'.block pb (by have:=F.out;omega))
  ·exact Below.setCell (HB.out.1.trans (f'.mono (by have:=F.out;omega))) (p:=⟨b9,0,none⟩) (by have:=F.out;simp only;omega) _
  ·exact Below.setCell (HB.out.2.1.trans (f'.mono j'.out.size)) (p:=⟨b9,0,none⟩) (by have:=F.out;have:=N0.out.size;simp only;omega) _
  ·have:=X'.out.size;simp;omega
 case done =>
  rintro D W hD ⟨⟨uo,ms,xo,i',e'⟩,Z,n',B'⟩ hK;rw[LX]at e';have HK:=jD hK;rw[pG D'.out]at e';have y':=jD e';have s':=jD i';have Z':=jD n';have hlen:ms.length<=4096:=by
   have h1:=congrArg List.length e';have h2:=V1.out;rw[pG D'.out]at h2;rw[Lm]at h1;omega
  have I:Boxed W b4 37 (.slice none 0 0):=(Z.block _ q'.out.lt).trans q'.out;have G:Boxed W b5 38 (KW 0):=(Z.block _ p'.out.lt).trans p'.out;have B2:D≠b4/\D≠b5/\D≠b9:=by have:=F.out;have:=q'.out.lt;have:=p'.out.lt;omega
  have O5:=jD B2;have C':=i'.row;have N4:b4<w3.heap.size:=by have:=q'.out.lt;have:=F.out;omega
  have H3:b5<w3.heap.size:=by have:=p'.out.lt;have:=F.out;omega
  have R5:b4≠b9:=by have:=q'.out.lt;have:=F.out;omega
  have X5:b5≠b9:=by have:=p'.out.lt;have:=F.out;omega
  clear e' i' n' Z B' hK B2;rcases AG C' with ⟨hv,h0⟩|⟨g,cap,spare,hv,W1,hh,U2,Q2,T2,z⟩
  ·have S2:ms=[]:=L3 h0;subst hv;have S1:iK (ei q.pat ps)=[]:=by rw[<-y'.out,S2];rfl
   have Y2:=jD S1;have q9:=xo.cell;have l9:=xo.lt;clear h0 S2 S1 C';rw[e0];go_wp2_with fail;refine (mF _).mono ?_;rintro e w6 ⟨rfl,r'⟩;have Y':=jD (ab Z'.out r');have x4:Boxed w6 b4 37 (.slice none 0 0):=(r'.block _ I.lt).trans I;have x5:Boxed w6 b5 38 (KW 0):=(r'.block _ G.lt).trans G;have x9:Boxed w6 b9 37 (.slice none 0 0):=(r'.block _ xo.lt).trans xo;have A':w6.heap[D]?=some (.deferred (some [])):=ao r' HK.out;have U0:=jD A';have c4:=x4.cell;have f4:=x4.frozen;have c5:=x5.cell;have f5:=x5.frozen;have c9:=x9.cell;have T4:=x4.lt;have P3:=x5.lt;have W4:=x9.lt;have z':=jD x4;have g':=jD x5;clear r' A' xo I G x9 x4 x5 q9 l9;go_wp2_with fail;have c':=((KeepsOthers.setCell w6 ⟨b4,0,none⟩ (.slice none 0 0)).trans (KeepsOthers.setCell _ ⟨b5,0,none⟩ (KW 0))).same D _ U0.out rfl;refine⟨by simp,.inl ⟨_,_,rfl,run_takeDeferred c',?_⟩⟩;have w4:=bT (z'.out.set (.slice none 0 0)) T0 (KW 0);have w5:=Boxed.set (KW 0) (bT g'.out M1 (.slice none 0 0));have r4:=(w4.kept (grownBy_putObj' _ D (.deferred none)) (by intro h;cases h;have h2:(World.setCell _ _ _).heap[b4]?=_:=w4;rw[c']at h2;cases h2)).cell;have r5:=(w5.kept (grownBy_putObj' _ D (.deferred none)) (by intro h;cases h;have h2:(World.setCell _ _ _).heap[b5]?=_:=w5;rw[c']at h2;cases h2)).cell
   refine⟨.tuple #[(.slice none 0 0),KW 0],?_,_,[],rfl,⟨by show _=iK _;rw[Y2.out];rfl,MatsNew.nil _ _⟩,(aA (aA Y'.out T' _) S' _).trans (belowK_b (w:=w) (Ld _) _ D _ _ (by have:=j'.out.size;omega) c' rfl rfl)⟩;simp[results,Tryz.f9,go_sem,r4,r5]
  ·subst hv;have N':∀e∈ms,MOk W g e:=fun e he=>⟨(s'.out.bnds e he).1,fun e1=>((s'.out.bnds e he).2 g e1).2.2 rfl⟩
   have P4:=jD (mB ms g cap spare W hh om N');have S5:=aD hh;have Z4:=jD hh;have I':=jD (And.intro W1 (And.intro U2 Q2));have X4:=jD (And.intro T2 z);have Z1:=jD I;have R2:=jD G;have R1:=jD xo;have q9:=xo.cell;have l9:=xo.lt;clear C' hh W1 T2 z N' U2 Q2 I G xo;rw[e0];go_wp2_with fail;refine P4.out.mono ?_;rintro e w6 ⟨rfl,es',X2,hp,P0,P1,hls,O⟩;have V2:es'.length=ms.length:=hp.length_eq;have Y3:=I'.out.1;have Y':Hid (KY w w6):=jD (Z'.out.trans (am O Z'.out.size (fun k e=>by injection e with e;have:=I'.out.1;have:=j'.out.size;omega)));have P':Hid (MW w3.heap.size w6 (.slice (some ⟨g,0,none⟩) es'.length cap) es'):=jD (by
    have B':=O.size;refine⟨⟨by simp,.inr ⟨g,cap,_,rfl,Y3,P1,by rw[V2];exact I'.out.2.1,I'.out.2.2,?_,?_⟩⟩,fun e he=>?_⟩
    ·have h1:=hls;have h2:=X4.out.1;rw[h2]at h1
     simpa using h1
    ·rw[LL];simp
    ·have h1:=s'.out.bnds e (hp.mem_iff.1 he);refine⟨qZ h1.1 fun b hb hv=>O.block b hb (fun e1=>(h1.2 b hv).2.2 (by simpa [Value.ownBlock] using e1)),fun g1 E1=>⟨(h1.2 g1 E1).1,by have:=(h1.2 g1 E1).2.1;omega,(h1.2 g1 E1).2.2⟩⟩)
   have Z3:Hid (es'.map (·.1)=iK (ei q.pat ps)):=jD (uJ T3.out y'.out hp (by first|exact P0|exact P0.imp fun {a b} h=>by omega));have x4:Boxed w6 b4 37 (.slice none 0 0):=Z1.out.kept O (fun e=>by injection e with e;have:=q'.out.lt;have:=F.out;omega);have x5:Boxed w6 b5 38 (KW 0):=R2.out.kept O (fun e=>by injection e with e;have:=p'.out.lt;have:=F.out;omega);have x9:Boxed w6 b9 37 (.slice (some ⟨g,0,none⟩) ms.length cap):=R1.out.kept O (fun e=>by injection e with e;have:=F.out;omega);have A':w6.heap[D]?=some (.deferred (some [])):=(O.block D (Array.getElem?_eq_some_iff.1 HK.out).1 (fun e=>by injection e with e;subst e;have h:=Z4.out;rw[HK.out]at h;cases h)).trans HK.out;have U0:=jD A';rw[V2]at P';have c4:=x4.cell;have f4:=x4.frozen;have c5:=x5.cell;have f5:=x5.frozen;have c9:=x9.cell;have T4:=x4.lt;have P3:=x5.lt;have W4:=x9.lt;have z':=jD x4;have g':=jD x5;clear hp P0 P1 hls O A' x9 x4 x5 q9 l9;go_wp2_with fail;have c':=((KeepsOthers.setCell w6 ⟨b4,0,none⟩ (.slice (some ⟨g,0,none⟩) ms.length cap)).trans (KeepsOthers.setCell _ ⟨b5,0,none⟩ (KW 0))).same D _ U0.out rfl;refine⟨by simp,.inl ⟨_,_,rfl,run_takeDeferred c',?_⟩⟩;have w4:=bT (z'.out.set (.slice (some ⟨g,0,none⟩) ms.length cap)) T0 (KW 0);have w5:=Boxed.set (KW 0) (bT g'.out M1 (.slice (some ⟨g,0,none⟩) ms.length cap))
   have r4:=(w4.kept (grownBy_putObj' _ D (.deferred none)) (by intro h;cases h;have h2:(World.setCell _ _ _).heap[b4]?=_:=w4;rw[c']at h2;cases h2)).cell;have r5:=(w5.kept (grownBy_putObj' _ D (.deferred none)) (by intro h;cases h;have h2:(World.setCell _ _ _).heap[b5]?=_:=w5;rw[c']at h2;cases h2)).cell;refine⟨.tuple #[(.slice (some ⟨g,0,none⟩) ms.length cap),KW 0],?_,_,es',rfl,⟨Z3.out,(((P'.out.box N4 _).box H3 _).kept (grownBy_putObj' _ D (.deferred none)) (fun r e=>by injection e with e;subst e;exact⟨_,c',rfl⟩)).new (by have:=j'.out.size;omega)⟩,(aA (aA Y'.out T' _) S' _).trans (belowK_b (w:=w) (Ld _) _ D _ _ (by have:=j'.out.size;omega) c' rfl rfl)⟩;simp[results,Tryz.f9,go_sem,r4,r5]
 case stop=>rintro D c k W hD hk h;exact h.elim
theorem mL (d:Nat) (q:Qry) (l:List Evt) (vv vk va vc vr vl:Value) (w:World) (D:PartAsk d w q l vv vk va vc vr vl) (F:SmallN l.length q.pat)
  (hF:(aZ q l).2=0->(ei q.pat (dw q.key l)).length<=4096) :
  Calls prog 9 #[dO q vv vk va vc vr,vl] w (PmRet w (dP q l)) :=
 (lT d q l vv vk va vc vr vl w D F hF).mono fun _ _ ⟨u,ms,z,⟨I,G⟩,h⟩=>⟨u,z,I▸G.is,h⟩
end
theorem Fj (w:World) (base:Nat) (e:TypeId) (sz:Nat) (xs:List Value) (h:base<=w.heap.size) (z:xs.length=sz):(w.alloc (.cells xs.toArray e)).ownsRow base e sz (.slice (some ⟨w.heap.size,0,none⟩) 1 1) 1 xs :=
 ⟨by simp[z],.inr ⟨w.heap.size,1,xs.toArray,rfl,h,Mp w _,Ld _,by decide,by simp[z],by rw[Nat.one_mul,<-z];exact LX⟩⟩
def NdsRet (W0 w:World) (D:Nat) (l:List Pt) (e:Ending) (W:World):Prop :=
 ∃v xs,e=.returned v/\W.ownsRow w.heap.size 31 14 v l.length xs/\Means (kN D) 14 W0 xs l/\KY w W
theorem NdsRet.is {W0 w:World} {D:Nat} {l:List Pt} {e:Ending} {W:World} (h:NdsRet W0 w D l e W) (F:KY W0 w):∃v,e=.returned v/\aW D W v l/\KY w W:=by
 obtain⟨v,xs,rfl,G,I,z⟩:=h;exact⟨v,rfl,dC I (ab F z) G,z⟩
theorem Gz {D E:Nat} (h:D<=E) {w:World} {xs:List Value} {l:List Pt} (hm:Means (kN D) 14 w xs l):Means (kN E) 14 w xs l :=
 ⟨hm.1,hm.2.1,fun W b o F z k x hk=>AP h (hm.2.2 W b o F z k x hk)⟩
theorem zi {l:List Pt} {k:Nat} {a:Pt} (h:l[k]?=some a):bG (l.take (k+1))=bG (l.take k)++aO a:=by
 induction l generalizing k with
 | nil=>simp at h
 | cons b r z =>
  cases k with
  | zero=>simp at h;subst h;simp[bG]
  | succ k=>rw[Mx,Mx,bG,bG,z (jQ h),L7]
def Fw (W0:World) (d:Nat):Prop:=∀(x:Pt) (v vc:Value) (w:World),aW d W0 v x.args->aF d W0 vc x.cond.args->ptN x<=1048576->KY W0 w ->
 Calls prog 65 #[ptV x v vc] w (NdsRet W0 w (d+3) (aO x))
theorem qw (W0:World) (d:Nat) (a':∀d',d=d'+1->Fw W0 d'):Fw W0 d:=by
 intro x v vc w hx t' hN hW;have HX:=jD (yT (jn (show d<=d+1+1 by omega) hx) (eI (show d<=d+1 by omega) t'));obtain⟨A,c,rfl,h1,h2,y'⟩:=hx;obtain⟨Ac,cc,rfl,-⟩:=t';obtain⟨i0,hi,P',G',J'⟩:=LD GE;have hlen:=ax h1 h2;have HC:Hid (∀(k:Nat) a,x.args[k]?=some a->∃Av cv Ac nc cc b o,A=some ⟨b,o,none⟩/\b<W0.heap.size/\(∀wr,KY W0 wr->wr.cell? ⟨b,o+k*14,none⟩=some (KW a.op)/\wr.cell? ⟨b,o+k*14+1,none⟩=some (.slice Av a.args.length cv) /\
    wr.cell? ⟨b,o+k*14+2,none⟩=some (KW a.ty)/\wr.cell? ⟨b,o+k*14+3,none⟩=some (KW a.vr)/\wr.cell? ⟨b,o+k*14+4,none⟩=some (KW a.sc)/\wr.cell? ⟨b,o+k*14+5,none⟩=some (KW a.sp) /\
    wr.cell? ⟨b,o+k*14+6,none⟩=some (KW a.cond.op)/\wr.cell? ⟨b,o+k*14+7,none⟩=some (.slice Ac nc cc)/\wr.cell? ⟨b,o+k*14+8,none⟩=some (KW a.cond.vr)/\wr.cell? ⟨b,o+k*14+9,none⟩=some (KW a.cond.fl)/\wr.cell? ⟨b,o+k*14+10,none⟩=some (KW a.cond.kd) /\
    wr.cell? ⟨b,o+k*14+11,none⟩=some (KW a.cond.val.kind)/\wr.cell? ⟨b,o+k*14+12,none⟩=some (KW a.cond.val.num)/\wr.cell? ⟨b,o+k*14+13,none⟩=some (.string a.cond.val.text)) /\
   ∀w9,KY W0 w9->Calls prog 65 #[ptV a (.slice Av a.args.length cv) (.slice Ac nc cc)] w9 (NdsRet W0 w9 (d+3) (aO a))):=by
  refine jD fun k a ha=>?_
  obtain⟨b,o,rfl,I'⟩:=y' k a ha;obtain⟨d',e',v',V',F',K0,r',O,p0,p1,p2,p3,p4,p5,p6,p7,p8,p9,l',j',h',i'⟩:=cW I';have R':=r';have q':=O;obtain⟨Av,cv,rfl,-⟩:=r';obtain⟨Ae,ce,rfl,-⟩:=O;have U':ptN a<=1048576:=by have:=pn ha;have:=dm x;omega
  refine⟨Av,cv,Ae,_,ce,b,o,rfl,K8 W0 ⟨b,_,none⟩ p0,fun wr z=>⟨aa z p0,aa z p1,aa z p2,aa z p3,aa z p4,aa z p5,aa z p6,aa z p7,aa z p8,aa z p9,aa z l',aa z j',aa z h',aa z i'⟩,fun w9 h9=>(a' d' F' a _ _ w9 R' (eI om q') U' h9).mono ?_⟩;rintro e W ⟨v,xs,rfl,g1,g2,g3⟩;exact⟨v,xs,rfl,g1,Gz om g2,g3⟩
 have HW:=jD hW;have HN:=jD hN;obtain⟨m,hm⟩:=jF x.args.length;obtain⟨nc,m'⟩:=jF x.cond.args.length;have HM:Hid (m=x.args.length):=jD hm;rw[<-hm]at hlen ⊢;rw[<-hm,<-m']at HX;rw[<-m'];clear y' a' hW hN h1 h2 hm m';unfold ptV;go_enter func65,ntmps65;go_wp2;refine aP fun w2 e2=>?_
 have y1:KX w2 w.heap.size 1 (.slice A m c):=jG e2;have b':w2.ownsRow (w.heap.size+1) 31 14 (.slice (some ⟨w.heap.size+1,0,none⟩) 1 1) 1 (aQ x (.slice A m c) (.slice Ac nc cc)):=by
  rw[e2];have h:=Fj (w.alloc (.cells (aQ x (.slice A m c) (.slice Ac nc cc)).toArray 31)) (w.heap.size+1) 31 14 (aQ x (.slice A m c) (.slice Ac nc cc)) jS rfl;rw[L4]at h;exact h
 have p':w2.heap.size=w.heap.size+2:=by rw[e2];simp
 have E':Hid (KY w w2):=jD (gb e2);clear e2;have L':=jD b';have A':=jD p';clear b' p'
 go_loopw [3,4] (fun o i wr=>∃(k n:Nat) (xs:List Value),k<=m/\i=KW k/\Hid (wr.ownsRow (w.heap.size+1) 31 14 o n xs)/\Hid (n=1+aU (x.args.take k)/\Means (kN (d+3)) 14 W0 xs (x::bG (x.args.take k))/\Below (w.heap.size+1) w2 wr)) (fun _ i _=>m-(intOf i).toNat)
 case atStart=>exact⟨0,1,_,Lb _,rfl,L',jD ⟨by simp[aU],by simpa [bG] using HX.out,La _ _⟩⟩
 case round =>
  obtain⟨k,n,xs,hk,rfl,F,hI⟩:=hrel;have z:=hI.out.2.2;have z1:KX wr w.heap.size 1 (.slice A m c):=(z.cell (p:=⟨w.heap.size,1,none⟩) (Nat.lt_succ_self _)).trans y1;have J:KY w wr:=E'.out.trans (z.mono om);obtain⟨Ar,cr,rfl⟩:=ay F.out
  by_cases X':k<m
  ·have H':(k:Int)<(m:Int):=by omega
   obtain⟨a,ha⟩:∃a,x.args[k]?=some a:=⟨_,K9 (by have:=HM.out;omega)⟩;obtain⟨Av,cv,O0,A0,Q0,b,o,rfl,M',Z,D⟩:=HC.out k a ha;unfold ptV at D;have D':=jD D;have g':=ab HW.out J;obtain⟨p0,p1,p2,p3,p4,p5,p6,p7,p8,p9,l',j',h',i'⟩:=Z wr g';have C':=jD g';have HA:=jD ha;have Y':=jD J;have s':=z.size;clear Z D g' M' ha J z;go_wp2_with fail;refine (D'.out wr C'.out).mono ?_;rintro e w4 ⟨v4,ys,rfl,k',n',c'⟩;obtain⟨A4,c4,rfl,-,-,I⟩:=cU k' n'.2.1;obtain⟨p,hp⟩:=jF ((aO a).length);rw[<-hp]at I k' ⊢;have u':=c'.size;have G:Hid (n+p=1+aU (x.args.take (k+1))/\n+p<=1048576/\w.heap.size+1<=w4.heap.size/\w.heap.size+1<=wr.heap.size/\w.heap.size+1<=w2.heap.size):=jD (by
    have H0:=fI HA.out;have hle:=dJ x.args (k+1);have N0:=dm x;have R0:=HN.out;have Z':=hI.out.1;have P0:(aO a).length=ptN a:=dh a;have p':=A'.out;omega)
   clear hp u' s';have N':=jD I;have z':=jD n';have x':=jD c';clear I n' k' c' p0 p1 p2 p3 p4 p5 p6 p7 p8 p9 l' j' h' i';go_wp2_with (at_builtin;refine aR _ rfl (.tmp 14) (.tmp 20) 24 rfl (w.heap.size+1) 31 i0 _ 14 152 underlying24 hi P' G' J' rfl dc (.slice Ar n cr) n xs rfl (aj F.out x'.out) A4 p c4 ys rfl N'.out (by have:=G.out;unfold maxLen;omega) (by have:=G.out;omega) (by have:=G.out;omega) ?_;intro v8 w8 f' O' T');have S':Below (w.heap.size+1) w2 w8:=(hI.out.2.2.trans (x'.out.mono (by have:=G.out;omega))).trans (am O' (by have:=G.out;omega) (fun g h=>(ah F.out h).1));refine⟨⟨k+1,n+p,xs++ys,by omega,by go_num,jD f',jD ⟨G.out.1,?_,S'⟩⟩,by simp[intOf];omega⟩;rw[zi HA.out,<-Mr];exact hI.out.2.1.app z'.out
  ·have H':¬(k:Int)<(m:Int):=by omega
   have B':k=m:=by omega
   have HF:Hid (NdsRet W0 w (d+3) (aO x) (.returned (.slice Ar n cr)) wr):=jD (by
    have h1:=hI.out;rw[B',HM.out,LX]at h1;refine⟨_,xs,rfl,?_,?_,J⟩
    ·rw[dh,dm,<-h1.1];exact mE F.out om
    ·rw[da];exact h1.2.1)
   go_wp2;go_ret;exact HF.out
theorem nN (W0:World) (d:Nat):Fw W0 d:=by
 induction d with
 | zero=>exact qw W0 0 (fun z h=>by omega)
 | succ d D=>exact qw W0 (d+1) (fun z h=>Ma h▸D)
end Go.Proofs.YtokconodddedhaaGreatDoor
