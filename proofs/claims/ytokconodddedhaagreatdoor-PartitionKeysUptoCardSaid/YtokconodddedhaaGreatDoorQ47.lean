/- Part. -/
import Derived.Test.YtokconodddedhaaGreatDoorQ45
import Derived.Test.YtokconodddedhaaGreatDoorQ46
set_option maxRecDepth 100000
set_option maxHeartbeats 16000000
set_option linter.unusedVariables false
set_option linter.unusedSimpArgs false
namespace Go.Proofs.YtokconodddedhaaGreatDoor
open Go.Proofs.Tryz Go.RowKit
def ex0:Ex:=.mk 0 [] 0 0 0 ⟨0,0,⟨#[]⟩⟩
def GC:Ex:=.mk 0 [] 0 0 0 (eE true)
def li (v:Int):Pt:=.mk 0 [] 0 v 0 0 GC
def qK (v:Int):Ex:=.mk 1 [] v 1 0 ⟨0,0,⟨#[]⟩⟩
def Q20 (key:List Int):Qry:=⟨⟨#[113]⟩,[⟨⟨#[97]⟩,0⟩,⟨⟨#[98]⟩,0⟩],key,.mk 1 [li 0,li 1] 0 0 0 0 ex0,[.mk 6 [qK 1,qK 0] 0 0 0 ⟨0,0,⟨#[]⟩⟩]⟩
theorem BV (v:Int) (X:Nat) (w:World) (h:w.cell? ⟨X,0,none⟩=some (KW 0)) (F:w.cell? ⟨X,1,none⟩=some (.slice none 0 0)) (G:w.cell? ⟨X,2,none⟩=some (KW 0)) (O:w.cell? ⟨X,3,none⟩=some (KW 0)) (J:w.cell? ⟨X,4,none⟩=some (KW 0)) (z:w.cell? ⟨X,5,none⟩=some (KW 1)) (D:w.cell? ⟨X,6,none⟩=some (KW 1)) (I:w.cell? ⟨X,7,none⟩=some (.string ⟨#[]⟩)) :
  KZ 73 #[KW v,.pointer (some ⟨X,0,none⟩)] w (ptV (li v) (.slice none 0 0) (.slice none 0 0)):=by
 have Z:=K8 w ⟨X,_,none⟩ h;go_enter func73,ntmps73;go_wp2
 go_returns
 exact⟨rfl,jB⟩
theorem Et (v:Int) (w:World):KZ 74 #[KW v] w (exV (qK v) (.slice none 0 0)):=by
 go_enter func74,ntmps74;go_wp2
 go_returns
 exact⟨rfl,jB⟩
theorem uG {P:Program} {fn:Func} {tmps:Array Value} {i:Nat} {ty:TypeId} {g:Nat} {v:Value} {w:World} (hr:fn.results=#[.cell i ty]) (z:tmps.getD i undef=.pointer (some ⟨g,0,none⟩))
  (D:(loadVar ty ⟨g,0,none⟩).run P w=.ok v w):(results fn tmps).run P w=.ok v w:=by
 have h:tmps[i]?.getD undef=.pointer (some ⟨g,0,none⟩):=jQ z;unfold results;rw[hr];simp[Sem.run_bind,h,asAddr,D,Result.andThen]
theorem zm (w:World) (g:Nat) (ds:Array Value):Below g w (w.setRow g ds):=by
 refine⟨rfl,rfl,rfl,by simp[World.setRow],fun b h=>?_⟩;exact MU w g b ds om
theorem Fl {w:World} {A:Nat} {t:TypeId} (h:w.heap[A]?=some (.cells #[.int .i64 0,.slice none 0 0,.int .i64 0,.int .i64 0,.int .i64 0,.int .i64 0,.int .i64 0,.slice none 0 0,.int .i64 0,.int .i64 0,.int .i64 0,.int .i64 1,.int .i64 1,.string ⟨#[]⟩,.int .i64 0,.slice none 0 0,.int .i64 0,.int .i64 1,.int .i64 0,.int .i64 0,.int .i64 0,.slice none 0 0,.int .i64 0,.int .i64 0,.int .i64 0,.int .i64 1,.int .i64 1,.string ⟨#[]⟩] t (0,0))):aW 2 w (.slice (some ⟨A,0,none⟩) 2 2) [li 0,li 1]:=by
 refine⟨_,2,rfl,by decide,by unfold maxLen;decide,fun k x hk=>?_⟩
 match k,hk with
 | 0,hk =>
  simp at hk;subst hk;exact⟨A,0,rfl,.slice none 0 0,Sl.nil _ _ _ _ _ (Lb _),af h 0,af h 1,af h 2,af h 3,af h 4,af h 5,.slice none 0 0,Sl.nil _ _ _ _ _ (Lb _),af h 6,af h 7,af h 8,af h 9,af h 10,af h 11,af h 12,af h 13⟩
 | 1,hk =>
  simp at hk;subst hk;exact⟨A,0,rfl,.slice none 0 0,Sl.nil _ _ _ _ _ (Lb _),af h 14,af h 15,af h 16,af h 17,af h 18,af h 19,.slice none 0 0,Sl.nil _ _ _ _ _ (Lb _),af h 20,af h 21,af h 22,af h 23,af h 24,af h 25,af h 26,af h 27⟩
 | k+2,hk=>simp at hk
theorem CO {w:World} {A:Nat} {t:TypeId} (h:w.heap[A]?=some (.cells #[.int .i64 1,.slice none 0 0,.int .i64 1,.int .i64 1,.int .i64 0,.int .i64 0,.int .i64 0,.string ⟨#[]⟩,.int .i64 1,.slice none 0 0,.int .i64 0,.int .i64 1,.int .i64 0,.int .i64 0,.int .i64 0,.string ⟨#[]⟩] t (0,0))):aF 1 w (.slice (some ⟨A,0,none⟩) 2 2) [qK 1,qK 0]:=by
 refine⟨_,2,rfl,by decide,by unfold maxLen;decide,fun k x hk=>?_⟩
 match k,hk with
 | 0,hk =>
  simp at hk;subst hk;exact⟨A,0,rfl,.slice none 0 0,Sl.nil _ _ _ _ _ (Lb _),af h 0,af h 1,af h 2,af h 3,af h 4,af h 5,af h 6,af h 7⟩
 | 1,hk =>
  simp at hk;subst hk;exact⟨A,0,rfl,.slice none 0 0,Sl.nil _ _ _ _ _ (Lb _),af h 8,af h 9,af h 10,af h 11,af h 12,af h 13,af h 14,af h 15⟩
 | k+2,hk=>simp at hk
theorem C7 {w:World} {D F:Nat} {t G:TypeId} (h:w.heap[D]?=some (.cells #[.int .i64 1,.slice none 0 0,.int .i64 1,.int .i64 1,.int .i64 0,.int .i64 0,.int .i64 0,.string ⟨#[]⟩,.int .i64 1,.slice none 0 0,.int .i64 0,.int .i64 1,.int .i64 0,.int .i64 0,.int .i64 0,.string ⟨#[]⟩] t (0,0))) (z:w.heap[F]?=some (.cells #[.int .i64 6,.slice (some ⟨D,0,none⟩) 2 2,.int .i64 0,.int .i64 0,.int .i64 0,.int .i64 0,.int .i64 0,.string ⟨#[]⟩] G (0,0))):aF 2 w (.slice (some ⟨F,0,none⟩) 1 1) (Q20 []).rets:=by
 refine⟨_,1,rfl,by decide,by unfold maxLen;decide,fun k x hk=>?_⟩
 match k,hk with
 | 0,hk =>
  simp[Q20]at hk;subst hk;exact⟨F,0,rfl,_,CO h,af z 0,af z 1,af z 2,af z 3,af z 4,af z 5,af z 6,af z 7⟩
 | k+1,hk=>simp[Q20]at hk
theorem EO {w:World} {A:Nat} {t:TypeId} (h:w.heap[A]?=some (.cells #[.string ⟨#[97]⟩,.int .i64 0,.string ⟨#[98]⟩,.int .i64 0] t (0,0))):tg w (.slice (some ⟨A,0,none⟩) 2 2) (Q20 []).vars:=by
 refine⟨_,2,rfl,by decide,by unfold maxLen;decide,fun k x hk=>?_⟩
 match k,hk with
 | 0,hk=>simp[Q20]at hk;subst hk;exact⟨A,0,rfl,af h 0,af h 1⟩
 | 1,hk=>simp[Q20]at hk;subst hk;exact⟨A,0,rfl,af h 2,af h 3⟩
 | k+2,hk=>simp[Q20]at hk
theorem xy {w:World} {A:Nat} {t:TypeId} {x:Int} (h:w.heap[A]?=some (.cells #[.int .i64 x] t (0,0))):bD w (.slice (some ⟨A,0,none⟩) 1 1) [x]:=by
 refine⟨_,1,rfl,Ld _,by unfold maxLen;decide,fun k y hk=>?_⟩
 match k,hk with
 | 0,hk=>simp at hk;subst hk;exact⟨A,0,rfl,af h 0⟩
 | k+1,hk=>simp at hk
def JP (w:World) (q:Qry) (e:Ending) (W:World):Prop:=∃vv vk va vc vr,e=.returned (dO q vv vk va vc vr)/\QryIs 2 W q vv vk va vc vr/\(∀u,u=vv\/u=vk\/u=va\/u=vc\/u=vr->∀g,u.ownBlock=some g->w.heap.size<=g/\g<W.heap.size)/\KY w W
theorem nT (w:World):Calls prog 36 #[] w (JP w (Q20 [0])):=by
 have d':=jD BV;have e':=jD Et;have u':=jD (Dp true);unfold ptV at d';unfold exV at e';unfold vlV eE at u';go_enter func36,ntmps36;go_wp2_with fail;refine aw fun w1 e1=>?_
 obtain⟨G,hT⟩:∃q,q=w.heap.size:=⟨_,rfl⟩;have j':w1.heap[G]?=some (.cells #[.string ⟨#[]⟩,.slice none 0 0,.slice none 0 0,.int .i64 0,.slice none 0 0,.int .i64 0,.int .i64 0,.int .i64 0,.int .i64 0,.int .i64 0,.slice none 0 0,.int .i64 0,.int .i64 0,.int .i64 0,.int .i64 0,.int .i64 0,.string ⟨#[]⟩,.slice none 0 0] 33 (0,0)):=by rw[e1];exact ap _ _ _ hT
 have p':KY w w1:=gb e1;have E':Hid (w.heap.size=G/\G<w1.heap.size):=jD ⟨hT.symm,aD j'⟩;rw[<-hT];clear e1 hT;refine (u'.out w1).mono ?_;rintro e w2 ⟨rfl,c'⟩;have g':=ao c' j';have a':=ab p' c';clear p' c' j';have V':=jD g';have F':=jD a';have L':=aD g';clear g' a';go_wp2_with fail;refine aw fun I J=>?_
 obtain⟨K,hK⟩:∃q,q=w2.heap.size+1+1:=⟨_,rfl⟩;obtain⟨N,hN⟩:∃q,q=w2.heap.size+1:=⟨_,rfl⟩;obtain⟨X,Z⟩:∃q,q=w2.heap.size:=⟨_,rfl⟩;have x0:KX I X 0 (KW 0):=by rw[J,Z];show _=_;go_simp
 have x1:KX I X 1 (.slice none 0 0):=by rw[J,Z];show _=_;go_simp
 have x2:KX I X 2 (KW 0):=by rw[J,Z];show _=_;go_simp
 have x3:KX I X 3 (KW 0):=by rw[J,Z];show _=_;go_simp
 have x4:KX I X 4 (KW 0):=by rw[J,Z];show _=_;go_simp
 have x5:KX I X 5 (KW 1):=by rw[J,Z];show _=_;go_simp
 have x6:KX I X 6 (KW 1):=by rw[J,Z];show _=_;go_simp
 have x7:KX I X 7 (.string ⟨#[]⟩):=by rw[J,Z];show _=_;go_simp
 have m':I.heap[N]?=some (.cells #[.string ⟨#[97]⟩,.int .i64 0,.string ⟨#[98]⟩,.int .i64 0] 146 (0,0)):=by rw[J];exact aE (ap _ _ _ (by simp[hN]))
 have f':I.heap[K]?=some (.cells #[.int .i64 0] 3 (0,0)):=by rw[J];exact ap _ _ _ (by simp[hK])
 have h':KY w2 I:=gb J;rw[<-hK,<-hN,<-Z];have H':Hid (X<N/\N<K/\K<I.heap.size/\G<X):=jD ⟨by omega,by omega,aD f',by omega⟩;clear J hK hN Z;have G':=jD (ao h' V'.out);have M':=jD (ab F'.out h');clear h' L';refine (d'.out 0 X I x0 x1 x2 x3 x4 x5 x6 x7).mono ?_;rintro e w4 ⟨rfl,h⟩;have T':=jD (ab M'.out h);have Y':=jD (ao h G'.out);have B':=ao h m';have z':=ao h f';replace x0:=aa h x0;replace x1:=aa h x1;replace x2:=aa h x2;replace x3:=aa h x3;replace x4:=aa h x4;replace x5:=aa h x5;replace x6:=aa h x6;replace x7:=aa h x7;clear h m' f';unfold li GC eE;go_wp2_with fail;refine (d'.out 1 X w4 x0 x1 x2 x3 x4 x5 x6 x7).mono ?_;rintro e w5 ⟨rfl,O⟩;have D':=jD (ab T'.out O);have C':=jD (ao O Y'.out);have J':=jD (ao O B');have R':=jD (ao O z');clear O B' z' x0 x1 x2 x3 x4 x5 x6 x7;unfold li GC eE;go_wp2_with fail;refine aw fun w6 e6=>?_
 obtain⟨A,hA⟩:∃q,q=w5.heap.size:=⟨_,rfl⟩;have A':w6.heap[A]?=some (.cells #[.int .i64 0,.slice none 0 0,.int .i64 0,.int .i64 0,.int .i64 0,.int .i64 0,.int .i64 0,.slice none 0 0,.int .i64 0,.int .i64 0,.int .i64 0,.int .i64 1,.int .i64 1,.string ⟨#[]⟩,.int .i64 0,.slice none 0 0,.int .i64 0,.int .i64 1,.int .i64 0,.int .i64 0,.int .i64 0,.slice none 0 0,.int .i64 0,.int .i64 0,.int .i64 0,.int .i64 1,.int .i64 1,.string ⟨#[]⟩] 31 (0,0)):=by rw[e6];exact ap _ _ _ hA
 have y':KY w5 w6:=gb e6;rw[<-hA];have I':=jD hA;clear e6 hA;refine (e'.out 1 w6).mono ?_;rintro e w7 ⟨rfl,b'⟩;unfold qK;go_wp2_with fail;refine (e'.out 0 w7).mono ?_;rintro e w8 ⟨rfl,i'⟩;have z:=ab y' (ab b' i');have s':=jD (ao (ab b' i') A');have X':=jD (ab D'.out z);have k':=jD (ao z C'.out);have l':=jD (ao z J'.out);have t':=jD (ao z R'.out);have U':Hid (G<w8.heap.size/\w.heap.size<=G/\G<N/\G<K/\G<A/\N<w8.heap.size/\K<w8.heap.size/\A<w8.heap.size):=jD (by
  have h1:=H'.out;have h2:=E'.out;have h3:=aD k'.out;have h4:=aD l'.out;have h5:=aD t'.out;have h6:=aD s'.out;have h7:=aD C'.out;have h8:=I'.out;exact⟨h3,by omega,by omega,by omega,by omega,h4,h5,h6⟩)
 clear y' b' i' z A';unfold qK;go_wp2_with (refine wpList_store_row rfl 33 (.tmp 0) (.tmp 24) rfl G _ rfl rfl 33 _ (aE (aE k'.out)) bM rfl (by simp[Value.oneCell']) ?_);refine tR (Q:=bodyPost _ _ _) fun W eW=>?_
 have hL:=U'.out;obtain⟨F,hF⟩:∃q,q=w8.heap.size+1:=⟨_,rfl⟩;obtain⟨D,hD⟩:∃q,q=w8.heap.size:=⟨_,rfl⟩;have O':W.heap[G]?=some (.cells #[.string ⟨#[113]⟩,.slice (some ⟨N,0,none⟩) 2 2,.slice (some ⟨K,0,none⟩) 1 1,.int .i64 1,.slice (some ⟨A,0,none⟩) 2 2,.int .i64 0,.int .i64 0,.int .i64 0,.int .i64 0,.int .i64 0,.slice none 0 0,.int .i64 0,.int .i64 0,.int .i64 0,.int .i64 0,.int .i64 0,.string ⟨#[]⟩,.slice (some ⟨F,0,none⟩) 1 1] 33 (0,0)):=by rw[eW,hF];exact setRow_heap _ _ _ _ _ _ (aE (aE k'.out))
 have P':W.heap[D]?=some (.cells #[.int .i64 1,.slice none 0 0,.int .i64 1,.int .i64 1,.int .i64 0,.int .i64 0,.int .i64 0,.string ⟨#[]⟩,.int .i64 1,.slice none 0 0,.int .i64 0,.int .i64 1,.int .i64 0,.int .i64 0,.int .i64 0,.string ⟨#[]⟩] 29 (0,0)):=by rw[eW,MU _ _ _ _ om];exact aE (ap _ _ _ hD)
 have x':W.heap[F]?=some (.cells #[.int .i64 6,.slice (some ⟨D,0,none⟩) 2 2,.int .i64 0,.int .i64 0,.int .i64 0,.int .i64 0,.int .i64 0,.string ⟨#[]⟩] 29 (0,0)):=by rw[eW,MU _ _ _ _ om,hD];exact ap _ _ _ (by simp[hF])
 have q':W.heap[N]?=some (.cells #[.string ⟨#[97]⟩,.int .i64 0,.string ⟨#[98]⟩,.int .i64 0] 146 (0,0)):=by rw[eW,MU _ _ _ _ om];exact aE (aE l'.out)
 have r':W.heap[K]?=some (.cells #[.int .i64 0] 3 (0,0)):=by rw[eW,MU _ _ _ _ om];exact aE (aE t'.out)
 have n':=(show W.heap[A]?=some (.cells #[.int .i64 0,.slice none 0 0,.int .i64 0,.int .i64 0,.int .i64 0,.int .i64 0,.int .i64 0,.slice none 0 0,.int .i64 0,.int .i64 0,.int .i64 0,.int .i64 1,.int .i64 1,.string ⟨#[]⟩,.int .i64 0,.slice none 0 0,.int .i64 0,.int .i64 1,.int .i64 0,.int .i64 0,.int .i64 0,.slice none 0 0,.int .i64 0,.int .i64 0,.int .i64 0,.int .i64 1,.int .i64 1,.string ⟨#[]⟩] 31 (0,0)) by rw[eW,MU _ _ _ _ om];exact aE (aE s'.out));have S':KY w W:=by rw[eW];exact (aJ (aJ X'.out _) _).trans ((zm _ G _).mono hL.2.1)
 have N':=run_loadVar_row (P:=prog) W G 33 33 _ (0,0) _ O' underlying33 rfl bM;have Z':=aD x';clear eW;refine Lc (v:=dO (Q20 [0]) (.slice (some ⟨N,0,none⟩) 2 2) (.slice (some ⟨K,0,none⟩) 1 1) (.slice (some ⟨A,0,none⟩) 2 2) (.slice none 0 0) (.slice (some ⟨F,0,none⟩) 1 1)) (uG results36 rfl N') rfl ⟨_,_,_,_,_,rfl,⟨EO q',xy r',Fl n',Sl.nil _ _ _ _ _ (Lb _),C7 P' x'⟩,?_,S'⟩;have h1:=aD q';have h2:=aD r';have h3:=aD n';rintro u (rfl|rfl|rfl|rfl|rfl) g hg
 all_goals first|(simp[Value.ownBlock]at hg;done)|(simp[Value.ownBlock]at hg;subst hg;exact⟨by omega,by omega⟩)
abbrev EvU:=Evt × Value
def cO (e:EvU):List Value:=[KW e.1.src,KW e.1.sq,KW e.1.ty,KW e.1.tm,e.2]
def cX (l:List EvU):List Value:=l.flatMap cO
theorem rO (l:List EvU) (e:EvU):cX (l++[e])=cX l++cO e:=by unfold cX;rw[MP];simp
theorem eQ:∀{l:List EvU} {k:Nat} {x:EvU},l[k]?=some x->∀r,r<5->(cX l)[k*5+r]?=(cO x)[r]?
 | [],k,x,h,_,_=>by simp at h
 | y::l,0,x,h,r,hr=>by
  simp at h;subst h;unfold cX;rw[Mk,My,Lu,LR (by simpa [cO] using hr)]
 | y::l,k+1,x,h,r,hr=>by
  have z:=eQ (l:=l) (k:=k) (x:=x) (jQ h) r hr;unfold cX at z ⊢;rw[Mk,Mf (by simp[cO];omega),<-z];congr 1;simp[cO];omega
structure EvW (B:Nat) (W:World) (av:Value) (es:List EvU):Prop where
 row:W.ownsRow B 68 5 av es.length (cX es)
 val:∀e∈es,aV W e.2 e.1.vals/\∀g,e.2.ownBlock=some g->B<=g/\g<W.heap.size/\some g≠av.ownBlock
theorem EvW.nil (B:Nat) (w:World):EvW B w (.slice none 0 0) []:=⟨⟨by simp[cX],.inl ⟨rfl,rfl⟩⟩,by simp⟩
theorem EvW.grow {B:Nat} {wr D:World} {F:Value} {es:List EvU} (h:EvW B wr F es) (z:KY wr D):EvW B D F es :=
 ⟨aj h.row z,fun e he=>⟨(h.val e he).1.stays aC z,fun g G=>by have:=(h.val e he).2 g G;exact⟨this.1,Ll this.2.1 z.size,this.2.2⟩⟩⟩
theorem EvW.app {B:Nat} {D Z:World} {F J:Value} {es:List EvU} {x:Evt} {O:Value} (h:EvW B D F es)
  (hv:aV D O x.vals) (a':∀g,O.ownBlock=some g->B<=g/\g<D.heap.size/\some g≠F.ownBlock)
  (G:Z.ownsRow B 68 5 J (es.length+1) (cX es++cO (x,O))) (hg:D.grownBy Z F.ownBlock) (I:J.ownBlock=F.ownBlock\/J.ownBlock=some D.heap.size) :
  EvW B Z J (es++[(x,O)]):=by
 have b':=hg.size;refine⟨by rw[Le,rO];exact G,fun e he=>?_⟩;have h0:aV D e.2 e.1.vals/\∀g,e.2.ownBlock=some g->B<=g/\g<D.heap.size/\some g≠F.ownBlock:=by
  rcases List.mem_append.1 he with he|he
  ·exact h.val e he
  ·simp at he;subst he;exact⟨hv,a'⟩
 refine⟨fg h0.1 fun _ g _ z=>hg.block g (h0.2 g z).2.1 (h0.2 g z).2.2,fun g z=>?_⟩;have h1:=h0.2 g z;refine⟨h1.1,by omega,?_⟩;rcases I with hl|hl
 ·rw[hl];exact h1.2.2
 ·rw[hl];simp;omega
theorem EvW.is {B:Nat} {W:World} {F:Value} {es:List EvU} (h:EvW B W F es):bm W F (es.map (·.1)):=by
 have I:∀u∈cX es,u.oneCell'=true:=fun u hu=>by
  obtain⟨e,he,hu⟩:=List.mem_flatMap.1 hu;obtain⟨A',c',O,-⟩:=(h.val e he).1;simp only[cO,Lv,LM,LN]at hu;rcases hu with rfl|rfl|rfl|rfl|rfl
  all_goals first|rfl|(rw[O];rfl)
 obtain⟨A,c,rfl,h2,G,Z⟩:=cU h.row I;refine⟨A,c,by rw[Lm],by rw[Lm];exact h2,G,fun k x hk=>?_⟩;rw[LI]at hk;obtain⟨e,he,rfl⟩:=Option.map_eq_some_iff.1 hk;have D:=Li he;obtain⟨b,o,J,z⟩:=Z.2.2 (by have:=(List.getElem?_eq_some_iff.1 he).1;omega);refine⟨b,o,J,e.2,(h.val e D).1,z _ _ ?_,?_,?_,?_,?_⟩
 ·have:=eQ he 0 dc;simpa [cO] using this
 ·have:=eQ he 1 dc;rw[LJ];exact z _ _ (by simpa [cO] using this)
 ·have:=eQ he 2 dc;rw[LJ];exact z _ _ (by simpa [cO] using this)
 ·have:=eQ he 3 dc;rw[LJ];exact z _ _ (by simpa [cO] using this)
 ·have:=eQ he 4 dc;rw[LJ];exact z _ _ (by simpa [cO] using this)
def iB (i:Int):Evt:=⟨0,i,0,i+1,[⟨0,i%2+1,⟨#[]⟩⟩,⟨0,i+5,⟨#[]⟩⟩]⟩
def eB:List Evt:=[iB 0,iB 1,iB 2,iB 3]
def vW:List Sch:=[⟨⟨#[116]⟩,[⟨⟨#[107]⟩,0⟩,⟨⟨#[120]⟩,0⟩]⟩]
theorem mq {w:World} {A:Nat} {t:TypeId} {x y:Int} (h:w.heap[A]?=some (.cells #[.int .i64 0,.int .i64 x,.string ⟨#[]⟩,.int .i64 0,.int .i64 y,.string ⟨#[]⟩] t (0,0))):aV w (.slice (some ⟨A,0,none⟩) 2 2) [⟨0,x,⟨#[]⟩⟩,⟨0,y,⟨#[]⟩⟩]:=by
 refine⟨_,2,rfl,Ld _,by unfold maxLen;decide,fun k z hk=>?_⟩
 match k,hk with
 | 0,hk=>simp at hk;subst hk;exact⟨A,0,rfl,af h 0,af h 1,af h 2⟩
 | 1,hk=>simp at hk;subst hk;exact⟨A,0,rfl,af h 3,af h 4,af h 5⟩
 | k+2,hk=>simp at hk
theorem B0 {w:World} {A F:Nat} {t G:TypeId} (h:w.heap[A]?=some (.cells #[.string ⟨#[116]⟩,.slice (some ⟨F,0,none⟩) 2 2] t (0,0))) (D:w.heap[F]?=some (.cells #[.string ⟨#[107]⟩,.int .i64 0,.string ⟨#[120]⟩,.int .i64 0] G (0,0))):iZ w (.slice (some ⟨A,0,none⟩) 1 1) vW:=by
 refine⟨_,1,rfl,Ld _,by unfold maxLen;decide,fun k z hk=>?_⟩
 match k,hk with
 | 0,hk =>
  simp[vW]at hk;subst hk;refine⟨A,0,rfl,_,⟨_,2,rfl,Ld _,by unfold maxLen;decide,fun k z hk=>?_⟩,af h 0,af h 1⟩
  match k,hk with
  | 0,hk=>simp at hk;subst hk;exact⟨F,0,rfl,af D 0,af D 1⟩
  | 1,hk=>simp at hk;subst hk;exact⟨F,0,rfl,af D 2,af D 3⟩
  | k+2,hk=>simp at hk
 | k+1,hk=>simp[vW]at hk
theorem fit20:∀s∈vW,fM s:=by
 intro s hs;simp[vW]at hs;subst hs;unfold fM
 decide +kernel
theorem JL:∀e∈eB,∀x∈e.vals,gV x:=by
 unfold gV
 decide +kernel
theorem ra (key:List Int) (h:key=[0]\/key=[]\/key=[-1]):ptB (Q20 key).pat<=1048576/\SmallN eB.length (Q20 key).pat/\((aZ (Q20 key) eB).2=0->(ei (Q20 key).pat (dw (Q20 key).key eB)).length<=4096) /\
  (dP (Q20 key) eB).1.length<=4096/\(∀m∈(dP (Q20 key) eB).1,m.length<=1048576)/\∀x∈(Q20 key).rets,sh x:=by
 unfold SmallN;rcases h with rfl|rfl|rfl
 all_goals exact⟨by decide +kernel,by decide +kernel,fun _=>by decide +kernel,by decide +kernel,by decide +kernel,by decide +kernel⟩
def R20:List Rsl:=[⟨0,[⟨0,1,0,0⟩,⟨1,3,0,2⟩],[⟨0,2,⟨#[]⟩⟩]⟩,⟨0,[⟨0,2,0,1⟩,⟨1,4,0,3⟩],[⟨0,2,⟨#[]⟩⟩]⟩]
theorem prg20:Ja vW [Q20 [0]] eB=(R20,0):=kr
theorem J1 {k:Nat} {x:Rsl} (h:R20[k]?=some x):∃i D z,x=⟨i,[D,z],[⟨0,2,⟨#[]⟩⟩]⟩/\D.t=(k:Int)+1/\z.t=(k:Int)+3:=by
 match k,h with
 | 0,h=>simp[R20]at h;subst h;exact⟨_,_,_,rfl,rfl,rfl⟩
 | 1,h=>simp[R20]at h;subst h;exact⟨_,_,_,rfl,rfl,rfl⟩
 | k+2,h=>simp[R20]at h
theorem I1:(dP (Q20 []) eB).1.length=6/\(dP (Q20 []) eB).2=0:=by decide +kernel
theorem Hs:(dP (Q20 [-1]) eB).1.length=0/\(dP (Q20 [-1]) eB).2=0:=by decide +kernel
theorem wg (w:World) (hS:Shp w) (hT:Tbl w) (hL:Lx w):KZ 8 #[] w (.bool true):=by
 have a':=jD (And.intro hS (And.intro hT hL));obtain⟨i0,hi,L',F',G'⟩:=LD ju;clear hS hT hL;go_enter func8,ntmps8;go_wp2_with fail
 go_loopw [1,15] (fun av i wr=>∃(k:Nat) (es:List EvU),k<=4/\i=KW k/\Hid (EvW w.heap.size wr av es/\es.map (·.1)=eB.take k/\es.length=k)/\Hid (KY w wr)) (fun _ i _=>4-(intOf i).toNat)
 case atStart=>exact⟨0,[],Lb _,rfl,jD ⟨EvW.nil _ _,rfl,rfl⟩,jD (La _ _)⟩
 case round =>
  obtain⟨k,es,hk,rfl,he,hb⟩:=hrel;obtain⟨Ar,cr,rfl⟩:=ay he.out.1.row;have M':=he.out.2.2;have D:Hid (wr.ownsRow w.heap.size 68 5 (.slice Ar es.length cr) es.length (cX es)):=jD he.out.1.row;rw[M']at D ⊢;have hE:=he.out.1;rw[M']at hE;have HE:=jD hE;have e':=jD M';clear M' hE;rcases LY k 4 with U'|hge
  ·obtain rfl|rfl|rfl|rfl:k=0\/k=1\/k=2\/k=3:=by omega
   ·go_wp2_with (at_builtin;refine aR _ rfl (.tmp 18) (.tmp 31) 34 rfl w.heap.size 68 i0 _ 5 56 underlying34 hi L' F' G' rfl dc (.slice Ar 0 cr) 0 (cX es) rfl (aj D.out (aJ (ag _ _) _)) (some ⟨wr.heap.size+1,0,none⟩) 1 1 (cO (iB 0,.slice (some ⟨wr.heap.size,0,none⟩) 2 2)) rfl (bE _ (cO (iB 0,.slice (some ⟨wr.heap.size,0,none⟩) 2 2)) _ 1 5 _ jS rfl (by simp[cO,iB,Value.oneCell'])) (by unfold maxLen;omega) om (by have:=hb.out.size;simp;omega) ?_;intro v8 w8 F Z I);have A0:=hb.out.size;refine⟨⟨0+1,es++[(iB 0,.slice (some ⟨wr.heap.size,0,none⟩) 2 2)],by omega,rfl,jD ⟨EvW.app (HE.out.grow (aJ (ag _ _) _)) (mq (aE (ap _ _ _ rfl))) (fun g hg=>?_) (by rw[e'.out];exact F) Z I,by rw[LH,he.out.2.1];rfl,by simp[he.out.2.2]⟩,jD ((aJ (aJ hb.out _) _).trans (am Z (by simp;omega) (fun g h=>(ah D.out h).1)))⟩,by simp[intOf]⟩;simp[Value.ownBlock]at hg;subst hg;exact⟨by omega,by simp;omega,fun e=>by have:=(ah D.out e.symm).2;omega⟩
   ·go_wp2_with (at_builtin;refine aR _ rfl (.tmp 18) (.tmp 31) 34 rfl w.heap.size 68 i0 _ 5 56 underlying34 hi L' F' G' rfl dc (.slice Ar 1 cr) 1 (cX es) rfl (aj D.out (aJ (ag _ _) _)) (some ⟨wr.heap.size+1,0,none⟩) 1 1 (cO (iB 1,.slice (some ⟨wr.heap.size,0,none⟩) 2 2)) rfl (bE _ (cO (iB 1,.slice (some ⟨wr.heap.size,0,none⟩) 2 2)) _ 1 5 _ jS rfl (by simp[cO,iB,Value.oneCell'])) (by unfold maxLen;omega) om (by have:=hb.out.size;simp;omega) ?_;intro v8 w8 F Z I);have A0:=hb.out.size;refine⟨⟨1+1,es++[(iB 1,.slice (some ⟨wr.heap.size,0,none⟩) 2 2)],by omega,rfl,jD ⟨EvW.app (HE.out.grow (aJ (ag _ _) _)) (mq (aE (ap _ _ _ rfl))) (fun g hg=>?_) (by rw[e'.out];exact F) Z I,by rw[LH,he.out.2.1];rfl,by simp[he.out.2.2]⟩,jD ((aJ (aJ hb.out _) _).trans (am Z (by simp;omega) (fun g h=>(ah D.out h).1)))⟩,by simp[intOf]⟩;simp[Value.ownBlock]at hg;subst hg;exact⟨by omega,by simp;omega,fun e=>by have:=(ah D.out e.symm).2;omega⟩
   ·go_wp2_with (at_builtin;refine aR _ rfl (.tmp 18) (.tmp 31) 34 rfl w.heap.size 68 i0 _ 5 56 underlying34 hi L' F' G' rfl dc (.slice Ar 2 cr) 2 (cX es) rfl (aj D.out (aJ (ag _ _) _)) (some ⟨wr.heap.size+1,0,none⟩) 1 1 (cO (iB 2,.slice (some ⟨wr.heap.size,0,none⟩) 2 2)) rfl (bE _ (cO (iB 2,.slice (some ⟨wr.heap.size,0,none⟩) 2 2)) _ 1 5 _ jS rfl (by simp[cO,iB,Value.oneCell'])) (by unfold maxLen;omega) om (by have:=hb.out.size;simp;omega) ?_;intro v8 w8 F Z I);have A0:=hb.out.size;refine⟨⟨2+1,es++[(iB 2,.slice (some ⟨wr.heap.size,0,none⟩) 2 2)],by omega,rfl,jD ⟨EvW.app (HE.out.grow (aJ (ag _ _) _)) (mq (aE (ap _ _ _ rfl))) (fun g hg=>?_) (by rw[e'.out];exact F) Z I,by rw[LH,he.out.2.1];rfl,by simp[he.out.2.2]⟩,jD ((aJ (aJ hb.out _) _).trans (am Z (by simp;omega) (fun g h=>(ah D.out h).1)))⟩,by simp[intOf]⟩;simp[Value.ownBlock]at hg;subst hg;exact⟨by omega,by simp;omega,fun e=>by have:=(ah D.out e.symm).2;omega⟩
   ·go_wp2_with (at_builtin;refine aR _ rfl (.tmp 18) (.tmp 31) 34 rfl w.heap.size 68 i0 _ 5 56 underlying34 hi L' F' G' rfl dc (.slice Ar 3 cr) 3 (cX es) rfl (aj D.out (aJ (ag _ _) _)) (some ⟨wr.heap.size+1,0,none⟩) 1 1 (cO (iB 3,.slice (some ⟨wr.heap.size,0,none⟩) 2 2)) rfl (bE _ (cO (iB 3,.slice (some ⟨wr.heap.size,0,none⟩) 2 2)) _ 1 5 _ jS rfl (by simp[cO,iB,Value.oneCell'])) (by unfold maxLen;omega) om (by have:=hb.out.size;simp;omega) ?_;intro v8 w8 F Z I);have A0:=hb.out.size;refine⟨⟨3+1,es++[(iB 3,.slice (some ⟨wr.heap.size,0,none⟩) 2 2)],by omega,rfl,jD ⟨EvW.app (HE.out.grow (aJ (ag _ _) _)) (mq (aE (ap _ _ _ rfl))) (fun g hg=>?_) (by rw[e'.out];exact F) Z I,by rw[LH,he.out.2.1];rfl,by simp[he.out.2.2]⟩,jD ((aJ (aJ hb.out _) _).trans (am Z (by simp;omega) (fun g h=>(ah D.out h).1)))⟩,by simp[intOf]⟩;simp[Value.ownBlock]at hg;subst hg;exact⟨by omega,by simp;omega,fun e=>by have:=(ah D.out e.symm).2;omega⟩
  ·obtain rfl:k=4:=by omega
   have T1:=jD (show bm wr (.slice Ar 4 cr) eB by have h:=he.out.1.is;rw[he.out.2.1,e'.out]at h;exact h);clear he D e';go_wp2_with fail;refine aw fun w1 e1=>?_
   obtain⟨H,hH⟩:∃q,q=wr.heap.size+1:=⟨_,rfl⟩;obtain⟨G,hG⟩:∃q,q=wr.heap.size:=⟨_,rfl⟩;have O2:w1.heap[G]?=some (.cells #[.string ⟨#[107]⟩,.int .i64 0,.string ⟨#[120]⟩,.int .i64 0] 96 (0,0)):=by rw[e1];exact aE (ap _ _ _ hG)
   have X0:w1.heap[H]?=some (.cells #[.string ⟨#[116]⟩,.slice (some ⟨G,0,none⟩) 2 2] 99 (0,0)):=by rw[e1,hG];exact ap _ _ _ (by simp[hH])
   have V1:KY wr w1:=gb e1;have Y1:=jD (B0 X0 O2);rw[<-hH];clear e1 hH hG O2 X0;refine (nT w1).mono ?_;rintro e w2 ⟨vv,vk,va,vc,vr,rfl,hq,ho,T'⟩;have HQ:=jD hq;have D':=ab V1 T';have U2:=jD (ab hb.out D');have R':=jD (T1.out.stays aK D');have N':=jD (Y1.out.stays bU T');obtain⟨Av,cv,rfl,-⟩:=id hq.vars;obtain⟨Ak,ck,rfl,-⟩:=id hq.key;obtain⟨Aa,ca,rfl,-⟩:=id hq.args;obtain⟨Ac,cc,rfl,-⟩:=id hq.cond;obtain⟨Ax,cx,rfl,-⟩:=id hq.rets;unfold dO;clear hq ho V1 T' D' Y1 T1;go_wp2_with fail;refine aw fun w3 e3=>?_
   obtain⟨J,hJ⟩:∃q,q=w2.heap.size:=⟨_,rfl⟩;have S0:w3.heap[J]?=some (.cells (ef (Q20 [0]) (.slice Av (Q20 [0]).vars.length cv) (.slice Ak (Q20 [0]).key.length ck) (.slice Aa (Q20 [0]).pat.args.length ca) (.slice Ac (Q20 [0]).pat.cond.args.length cc) (.slice Ax (Q20 [0]).rets.length cx)).toArray 33 (0,0)):=by rw[e3];exact aE (ap _ _ _ hJ)
   have f':KY w2 w3:=gb e3;rw[<-hJ];clear e3 hJ;have N2:Hid (EF 2 w3 (.slice (some ⟨J,0,none⟩) 1 1) [Q20 [0]]):=jD ⟨_,1,rfl,Ld _,by unfold maxLen;decide,fun k z hk=>by
    match k,hk with
    | 0,hk =>
     simp at hk;subst hk;exact⟨J,0,rfl,_,_,_,_,_,fun j u hj=>by simpa using (af S0 j).trans hj,HQ.out.stays f'⟩
    | k+1,hk=>simp at hk⟩
   have J':=jD (ab U2.out f');have Z1:Hid (Gp w3 vW [Q20 [0]] eB 2 (.slice (some ⟨H,0,none⟩) 1 1) (.slice (some ⟨J,0,none⟩) 1 1) (.slice Ar 4 cr)):=jD ⟨⟨a'.out.1.stays J'.out,a'.out.2.1.stays J'.out,a'.out.2.2.stays J'.out,N'.out.stays bU f',fit20,N2.out,by decide +kernel⟩,R'.out.stays aK f',JL,by decide +kernel,fun q hq=>by simp at hq;subst hq;exact ra _ (.inl rfl)⟩;have Q0:=ya 2 vW [Q20 [0]] eB _ _ _ w3 Z1.out;rw[prg20]at Q0;refine Q0.mono ?_;rintro e w4 ⟨vR,rfl,hR,V'⟩;have HR:=jD hR;obtain⟨AR,cR,R3,-⟩:=id hR;obtain rfl:vR=.slice AR 2 cR:=R3;have V3:=jD (ab J'.out V');have V0:=jD (R'.out.stays aK (ab f' V'));clear hR f' V' S0 Q0 Z1 N2 N' HQ;go_wp2_with fail;refine (nT w4).mono ?_;rintro e w5 ⟨H4,Q4,P4,R4,Z3,rfl,b',P3,P1⟩;obtain⟨j',l',rfl,-⟩:=id b'.vars;obtain⟨K0,N0,rfl,-⟩:=id b'.key;obtain⟨q',y',rfl,-⟩:=id b'.args;obtain⟨A',g',rfl,-⟩:=id b'.cond;obtain⟨u',m',rfl,-⟩:=id b'.rets;unfold dO;have S3:=jD b';have R2:=jD P1;clear b' P3 P1;go_wp2_with fail;refine (nT w5).mono ?_;rintro e w6 ⟨Y4,O4,K4,A4,N4,rfl,c',N3,H0⟩;obtain⟨z',x',rfl,-⟩:=id c'.vars;obtain⟨Z',P0,rfl,-⟩:=id c'.key;obtain⟨i',p',rfl,-⟩:=id c'.args;obtain⟨t',B',rfl,-⟩:=id c'.cond;obtain⟨k',h',rfl,-⟩:=id c'.rets;unfold dO;have H':=jD c';have d':=jD (S3.out.stays H0);have r':=jD (ab R2.out H0);clear c' N3 H0
   go_wp2_with (first|(refine wpList_store_row rfl 33 (.tmp 6) (.tmp 48) rfl w6.heap.size (ef (Q20 [0]) (.slice j' (Q20 [0]).vars.length l') (.slice K0 (Q20 [0]).key.length N0) (.slice q' (Q20 [0]).pat.args.length y') (.slice A' (Q20 [0]).pat.cond.args.length g') (.slice u' (Q20 [0]).rets.length m')).toArray rfl rfl 33 _ (aE (ap _ _ _ rfl)) bM rfl (by simp[ef,aQ,Value.oneCell']) ?_)|(refine wpList_store_row rfl 33 (.tmp 7) (.tmp 49) rfl (w6.heap.size+1) (ef (Q20 [0]) (.slice z' (Q20 [0]).vars.length x') (.slice Z' (Q20 [0]).key.length P0) (.slice i' (Q20 [0]).pat.args.length p') (.slice t' (Q20 [0]).pat.cond.args.length B') (.slice k' (Q20 [0]).rets.length h')).toArray rfl rfl 33 _ ((MU _ _ _ _ om).trans (ap _ _ _ jS)) bM rfl (by simp[ef,aQ,Value.oneCell']) ?_;refine Kj.out ?_));refine⟨tV fun w7 e7=>?_⟩;obtain⟨X,hX⟩:∃q,q=w6.heap.size:=⟨_,rfl⟩;obtain⟨Y,hY⟩:∃q,q=w6.heap.size+1:=⟨_,rfl⟩;have h6:w7.heap[X]?=some (.cells (ef (Q20 [0]) (.slice j' (Q20 [0]).vars.length l') (.slice K0 (Q20 [0]).key.length N0) (.slice q' (Q20 [0]).pat.args.length y') (.slice A' (Q20 [0]).pat.cond.args.length g') (.slice u' (Q20 [0]).rets.length m')).toArray 33 (0,0)):=by rw[e7,MU _ _ _ _ om,hX];exact setRow_heap _ _ _ _ _ _ (aE (ap _ _ _ rfl))
   have h7:w7.heap[Y]?=some (.cells (ef (Q20 [0]) (.slice z' (Q20 [0]).vars.length x') (.slice Z' (Q20 [0]).key.length P0) (.slice i' (Q20 [0]).pat.args.length p') (.slice t' (Q20 [0]).pat.cond.args.length B') (.slice k' (Q20 [0]).rets.length h')).toArray 33 (0,0)):=by rw[e7,hY];exact setRow_heap _ _ _ _ _ _ ((MU _ _ _ _ om).trans (ap _ _ _ jS))
   have U0:KY w6 w7:=by rw[e7];exact ((aJ (ag _ _) _).trans ((zm _ _ _).mono (Ld _))).trans ((zm _ _ _).mono om)
   have R0:=jD (And.intro hX hY);rw[<-hY,<-hX];have O3:KX w7 X 2 (.slice K0 (Q20 [0]).key.length N0):=af h6 2;have H3:KX w7 Y 2 (.slice Z' (Q20 [0]).key.length P0):=af h7 2;have f62:=aq h6 2;have f72:=aq h7 2;have l6:=aD h6;have l7:=aD h7;have H2:X≠Y:=by omega
   have Z0:Y≠X:=by omega
   have H6:=jD h6;have H7:=jD h7;have A2:=jD U0;clear e7 hX hY h6 h7 U0;go_wp2_with (refine tz 33 (.tmp 6) rfl ?_);refine⟨tV fun w8 e8=>?_⟩;obtain⟨K,hK⟩:∃q,q=w7.heap.size:=⟨_,rfl⟩;rw[<-hK]at e8;have h6:w8.heap[X]?=some (.cells (ef (Q20 []) (.slice j' (Q20 [0]).vars.length l') (.slice none 0 0) (.slice q' (Q20 [0]).pat.args.length y') (.slice A' (Q20 [0]).pat.cond.args.length g') (.slice u' (Q20 [0]).rets.length m')).toArray 33 (0,0)):=by rw[e8];exact aE ((LB _ _ _ _ H2).trans (fx H6.out 2 _))
   have h7:w8.heap[Y]?=some (.cells (ef (Q20 [-1]) (.slice z' (Q20 [0]).vars.length x') (.slice (some ⟨K,0,none⟩) 1 1) (.slice i' (Q20 [0]).pat.args.length p') (.slice t' (Q20 [0]).pat.cond.args.length B') (.slice k' (Q20 [0]).rets.length h')).toArray 33 (0,0)):=by rw[e8];exact aE (fx ((LB _ _ _ _ Z0).trans H7.out) 2 _)
   have E2:w8.heap[K]?=some (.cells #[.int .i64 (-1)] 3 (0,0)):=by rw[e8];exact ap _ _ _ (by simp[hK])
   have O:KY w6 w8:=by rw[e8];exact aJ (aA (aA A2.out (by have:=R0.out;omega) _) (by have:=R0.out;omega) _) _
   have H6:=jD h6;have H7:=jD h7;have O0:=jD (ab V3.out (ab r'.out O));have P':=jD (V0.out.stays aK (ab r'.out O));have X1:Hid (PartAsk 2 w8 (Q20 []) eB (.slice j' (Q20 [0]).vars.length l') (.slice none 0 0) (.slice q' (Q20 [0]).pat.args.length y') (.slice A' (Q20 [0]).pat.cond.args.length g') (.slice u' (Q20 [0]).rets.length m') (.slice Ar 4 cr)):=jD ⟨a'.out.1.stays O0.out,⟨(d'.out.stays O).vars,Sl.nil _ _ _ _ _ (Lb _),(d'.out.stays O).args,(d'.out.stays O).cond,(d'.out.stays O).rets⟩,P'.out,(ra [] (.inr (.inl rfl))).1,JL,by decide +kernel⟩;have E':Hid (PartAsk 2 w8 (Q20 [-1]) eB (.slice z' (Q20 [0]).vars.length x') (.slice (some ⟨K,0,none⟩) 1 1) (.slice i' (Q20 [0]).pat.args.length p') (.slice t' (Q20 [0]).pat.cond.args.length B') (.slice k' (Q20 [0]).rets.length h') (.slice Ar 4 cr)):=jD ⟨a'.out.1.stays O0.out,⟨(H'.out.stays O).vars,xy E2,(H'.out.stays O).args,(H'.out.stays O).cond,(H'.out.stays O).rets⟩,P'.out,(ra [-1] (.inr (.inr rfl))).1,JL,by decide +kernel⟩;have A1:=jD (HR.out.stays jx (ab r'.out O));clear e8 hK h6 h7 E2 O R0 A2 O3 H3 f62 f72 l6 l7 H2 Z0
   go_wp2_with (refine Md rfl 33 (.tmp 6) rfl X rfl 33 (ef (Q20 []) (.slice j' (Q20 [0]).vars.length l') (.slice none 0 0) (.slice q' (Q20 [0]).pat.args.length y') (.slice A' (Q20 [0]).pat.cond.args.length g') (.slice u' (Q20 [0]).rets.length m')).toArray (0,0) _ H6.out underlying33 rfl bM ?_);have Y':=mL 2 (Q20 []) eB _ _ _ _ _ _ w8 X1.out (ra [] (.inr (.inl rfl))).2.1 (ra [] (.inr (.inl rfl))).2.2.1;obtain⟨⟨M1,f1⟩,S1⟩:∃r,dP (Q20 []) eB=r:=⟨_,rfl⟩;have W1:=I1;rw[S1]at Y' W1;obtain⟨R1,rfl⟩:M1.length=6/\f1=0:=W1;refine Y'.mono ?_;rintro e w9 ⟨v9,rfl,⟨A9,c9,rfl,-⟩,I'⟩;rw[R1];have Y2:=jD I';have E':=jD (E'.out.stays I');have H7:=jD (ao I' H7.out);clear Y' S1 R1 I' H6 X1;go_wp2_with (refine Md rfl 33 (.tmp 7) rfl Y rfl 33 (ef (Q20 [-1]) (.slice z' (Q20 [0]).vars.length x') (.slice (some ⟨K,0,none⟩) 1 1) (.slice i' (Q20 [0]).pat.args.length p') (.slice t' (Q20 [0]).pat.cond.args.length B') (.slice k' (Q20 [0]).rets.length h')).toArray (0,0) _ H7.out underlying33 rfl bM ?_);have X':=mL 2 (Q20 [-1]) eB _ _ _ _ _ _ w9 E'.out (ra [-1] (.inr (.inr rfl))).2.1 (ra [-1] (.inr (.inr rfl))).2.2.1;obtain⟨⟨M2,f2⟩,Y0⟩:∃r,dP (Q20 [-1]) eB=r:=⟨_,rfl⟩;have E1:=Hs;rw[Y0]at X' E1;obtain⟨O1,rfl⟩:M2.length=0/\f2=0:=E1;refine X'.mono ?_;rintro e wA ⟨vA,rfl,⟨AA,cA,rfl,-⟩,K2⟩;rw[O1];have C':=ab Y2.out K2
   have T2:=jD (ab O0.out C');have K3:=jD (A1.out.stays jx C');clear X' Y0 O1 K2 C' H7 E' A1 HR;have V4:∀W,(binOp .neq 27 (.agg #[KW 0,KW 2,.string ⟨#[]⟩]) (.agg #[KW 0,KW 2,.string ⟨#[]⟩])).run prog W=.ok (.bool false) W:=fun W=>by
    have h:=dg ⟨0,2,⟨#[]⟩⟩ ⟨0,2,⟨#[]⟩⟩ W;rw[show cC (⟨0,2,⟨#[]⟩⟩:Vl) ⟨0,2,⟨#[]⟩⟩=true from ew.2 rfl]at h;exact h
   go_wp2_with fail
   go_loopw [88] (fun i wr=>∃k:Nat,k<=2/\i=KW k/\Hid (KY wA wr)) (fun i _=>2-(intOf i).toNat)
   case atStart=>exact⟨0,Lb _,rfl,jD (La _ _)⟩
   case round =>
    obtain⟨k,hk,rfl,hI⟩:=hrel;have hb:=hI.out;have T3:=jD (K3.out.stays jx hb)
    by_cases U':k<2
    ·have W2:(k:Int)<2:=by omega
     obtain⟨x,hx⟩:∃x,R20[k]?=some x:=⟨R20[k]'(U'),K9 U'⟩;obtain⟨X4,S4,hv,-,-,Q1⟩:=T3.out;obtain⟨U1,b0,b1,rfl,T0,B2⟩:=J1 hx;obtain⟨bR,oR,S2,um,uv,P2,Z2,r0,r1,r2⟩:=Q1 k _ hx;injection hv with V2 W3 A3;subst V2;subst A3;clear W3;subst S2;obtain⟨Au,cu,hu,-,-,s'⟩:=P2;obtain⟨bu,ou,U3,u0,u1,u2,u3⟩:=s' 0 b0 rfl;obtain⟨U4,W4,n',t0,t1,t2,t3⟩:=s' 1 b1 rfl;subst U3;injection n' with n';injection n' with K1 N1;subst K1;subst N1;obtain rfl:um=.slice (some ⟨bu,ou,none⟩) 2 cu:=hu;obtain⟨T4,S',X2,-,-,O'⟩:=Z2;obtain⟨bv,ov,Q3,s0,s1,s2⟩:=O' 0 _ rfl;subst Q3;obtain rfl:uv=.slice (some ⟨bv,ov,none⟩) 1 S':=X2;rw[T0]at u1;rw[B2]at t1;clear Q1 s' O' hx U' T0 B2 u0 u2 u3 t0 t2 t3;have Y3:=K8 wr ⟨bu,_,none⟩ u1;have X3:=K8 wr ⟨bv,_,none⟩ s0;rw[My,Mc]at u1 s0 s1 s2;rw[Nat.one_mul]at t1;have Q2:Hid (wr.rangeAt bR (oR+k*3) [KW U1,.slice (some ⟨bu,ou,none⟩) 2 cu,.slice (some ⟨bv,ov,none⟩) 1 S']):=jD (fun j u hj=>by
      match j,hj with
      | 0,hj=>simp at hj;subst hj;exact r0
      | 1,hj=>simp at hj;subst hj;exact r1
      | 2,hj=>simp at hj;subst hj;exact r2
      | j+3,hj=>simp at hj)
     go_wp2_with (refine wpList_load_mid rfl 58 (.tmp 91) rfl bR (oR+k*3) rfl [KW U1,.slice (some ⟨bu,ou,none⟩) 2 cu,.slice (some ⟨bv,ov,none⟩) 1 S'] _ Q2.out underlying58 rfl kr ?_);exact⟨⟨k+1,by omega,by go_num,jD (aJ hb _)⟩,by simp[intOf];omega⟩
    ·have W2:¬(k:Int)<2:=by omega
     exact fi (ab T2.out hb)
end Go.Proofs.YtokconodddedhaaGreatDoor
