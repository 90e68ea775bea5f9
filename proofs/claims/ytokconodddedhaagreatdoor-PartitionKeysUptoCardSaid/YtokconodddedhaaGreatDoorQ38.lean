/- Part. -/
import Derived.Test.YtokconodddedhaaGreatDoorQ36
import Derived.Test.YtokconodddedhaaGreatDoorQ33
set_option maxRecDepth 100000
set_option maxHeartbeats 16000000
set_option linter.unusedVariables false
set_option linter.unusedSimpArgs false
namespace Go.Proofs.YtokconodddedhaaGreatDoor
open Go.Proofs.Tryz Go.RowKit
theorem oE {P:Program} {w w':World} {o:Oper} {a:Act} {K:Act->World->Prop} {Q:Exit->Act->World->Prop} {M:TypeId} {z kv v:Value} (m x:Operand) (D:o.op=.mapEntry M m x) (hm:a.eval m=z) (F:a.eval x=kv)
  (hr:(Instr.mapEntry M z kv).run P w=.ok v w') (h:K (a.put o.dst v) w'):Oper.wp P o a w K Q:=by
 unfold Oper.wp;simp[execOp,D,hm,F,hr,Result.andThen];exact h
theorem kQ {P:Program} {w w':World} {o:Oper} {a:Act} {K:Act->World->Prop} {Q:Exit->Act->World->Prop} {M:TypeId} {z D v:Value} (m s x:Operand) (G:o.op=.entryStore M m s x) (hm:a.eval m=z) (hs:a.eval s=D) (F:a.eval x=v)
  (hr:(Instr.entryStore M z D v).run P w=.ok () w') (h:K (a.put o.dst undef) w'):Oper.wp P o a w K Q:=by
 unfold Oper.wp;simp[execOp,G,hm,hs,F,hr,Result.andThen];exact h
theorem PartsW.hasKept {A mb n:Nat} {kv:Value} {w w':World} {S:Vl->Option Value} {E:Vl->List EV} (h:PartsW A mb kv w S E n) (D:w.grownBy w' (some mb)) (v:Vl):w'.ownsRow A 68 5 ((S v).getD (.slice none 0 0)) (E v).length (cn (E v)):=by
 cases z:S v with
 | none=>rw[h.no v z];exact⟨rfl,.inl ⟨rfl,rfl⟩⟩
 | some u=>exact h.keptRow D z
theorem PartsW.notMap {A mb n:Nat} {kv:Value} {w:World} {S:Vl->Option Value} {E:Vl->List EV} (h:PartsW A mb kv w S E n) (v:Vl):((S v).getD (.slice none 0 0)).ownBlock≠some mb:=by
 cases z:S v with
 | none=>simp[Value.ownBlock]
 | some u=>exact fun e=>((h.row v u z).2.2 mb e).1 rfl
theorem PartsW.low {A mb n:Nat} {kv:Value} {w:World} {S:Vl->Option Value} {E:Vl->List EV} (h:PartsW A mb kv w S E n) (v:Vl) {g:Nat} (z:((S v).getD (.slice none 0 0)).ownBlock=some g):A<=g/\g<w.heap.size:=ah (h.has v) z
theorem PartsW.keyRow {A mb n m sz:Nat} {t:TypeId} {kv:Value} {w Z J O:World} {S:Vl->Option Value} {E:Vl->List EV} {cs:List Value} (h:PartsW A mb kv w S E n) (x:Vl) (D:w.grownBy Z (some mb)) (z:Z.grownBy J ((S x).getD (.slice none 0 0)).ownBlock) (F:J.grownBy O (some mb)) (hr:w.ownsRow A t sz kv m cs):O.ownsRow A t sz kv m cs:=by
 have b':=D.size;have a':=z.size;refine aT hr fun g G=>?_
 have hl:=(ah hr G).2;have hm:g≠mb:=fun e=>h.key (by rw[G,e])
 refine (F.block g om (fun e=>hm (LK e))).trans ((z.block g om (fun e=>?_)).trans (D.block g hl (fun e=>hm (LK e))))
 cases I:S x with
 | none=>rw[I]at e;simp[Value.ownBlock]at e
 | some u=>rw[I]at e;exact ((h.row x u I).2.2 g e.symm).2 G
theorem srcG {w w':World} {row:Option Nat} {b o n sz:Nat} {cs:List Value} (h:Src w (some ⟨b,o,none⟩) n sz cs) (O:w.grownBy w' row) (D:row≠some b):Src w' (some ⟨b,o,none⟩) n sz cs:=by
 refine⟨h.1,h.2.1,fun J=>?_⟩;obtain⟨Z,o',z,F⟩:=h.2.2 J;exact⟨Z,o',z,fun j u G=>by
  injection z with z;injection z with I e2;subst I e2;exact aI O (F j u G) D⟩
theorem sZ {key:List Int} {l:List Evt} (h:bC l=0):nF key l=dB (fun _ e=>(cF key e).2.2) none l:=by
 unfold nF;rw[K6 (by rw[h];simp)]
theorem lm {key:List Int} {l:List Evt} {e:Int} (h:bC l=e) (h0:e≠0):nF key l=e:=by
 unfold nF;rw[K7 (by rw[h];exact h0),h]
theorem uK (w:World):Calls prog 126 #[.slice none 0 0,.func (.func 127) #[] #[]] w fun e W=>e=.returned (.tuple #[])/\W=w:=by
 have h:=AnyF.slices_SortFunc_none Tryz.sortVal none 0 (.func (.func 127) #[] #[]) w
 change Calls prog 126 _ _ _ at h
 exact h
def SrtV (w:World) (kv:Value) (ks:List Vl) (e:Ending) (W:World):Prop:=e=.returned (.tuple #[])/\∃es:List Vl,es.Perm ks/\es.Pairwise (fun a b=>¬vlC b a<0)/\aV W kv es/\w.grownBy W kv.ownBlock
theorem vw (ks:List Vl) (kv:Value) (B:Nat) (w:World) (hr:w.ownsRow B 27 3 kv ks.length (bb ks)) (F:ks.length<=1048576) :
  Calls prog 126 #[kv,.func (.func 127) #[] #[]] w (SrtV w kv ks):=by
 have Z:=mi hr;rcases hr.2 with ⟨rfl,h0⟩|⟨g,cap,cur,rfl,hg,hh,hnc,hcm,_⟩
 ·refine (uK w).mono ?_;rintro e W ⟨rfl,rfl⟩;obtain rfl:ks=[]:=L3 h0;exact⟨rfl,[],.refl _,.nil,Z,⟨rfl,rfl,rfl,Ld _,fun _ _ _=>rfl⟩⟩
 ·have I:∀(k:Nat) (x:Vl),ks[k]?=some x->lU w g (0+k*3) x:=fun k x D=>by
   obtain⟨A,c,h,-,-,h3⟩:=Z;obtain⟨b,o,O,hp⟩:=h3 k x D;rw[O]at h;injection h with h;injection h with h;injection h with e1 e2;subst e1 e2;exact hp
  refine (tT ks g cap cur.toList w (jQ hh) I F).mono ?_;rintro e W ⟨rfl,es,hp,J,z,G⟩;exact⟨rfl,es,hp,J,⟨some ⟨g,0,none⟩,cap,by rw[hp.length_eq],by rw[hp.length_eq];exact hnc,hcm,fun k x D=>⟨g,0,rfl,z k x D⟩⟩,G⟩
theorem PartsW.isD {A mb n:Nat} {kv:Value} {w:World} {S:Vl->Option Value} {E:Vl->List EV} (h:PartsW A mb kv w S E n) (v:Vl):bm w ((S v).getD (.slice none 0 0)) ((E v).map (·.1)):=by
 cases z:S v with
 | none=>rw[h.no v z];exact Sl.nil _ _ _ _ _ (Lb _)
 | some u=>exact h.is z
theorem yN {A mb n:Nat} {kv:Value} {w:World} {S:Vl->Option Value} {E:Vl->List EV} (h:PartsW A mb kv w S E n) (ks:List Vl) :
  Means nY 1 w (ks.map fun v=>(S v).getD (.slice none 0 0)) (ks.map fun v=>(E v).map (·.1)):=by
 refine⟨by simp,fun u hu=>?_,fun W b o F z k y hk=>?_⟩
 ·obtain⟨v,_,rfl⟩:=List.mem_map.1 hu;obtain⟨G,I,e⟩:=h.len v;rw[e];rfl
 ·rw[LI]at hk;obtain⟨v,D,rfl⟩:=Option.map_eq_some_iff.1 hk;exact⟨_,(h.grow F).isD v,by have:=z k ((S v).getD (.slice none 0 0)) (by rw[LI,D];rfl);rw[LL];exact this⟩
theorem uR:prog.underlying 193=some (.map 27 34):=kr
theorem Dj (l:List Evt) (key:List Int) (v vk:Value) (w:World) (hl:bm w v l) (hk:bD w vk key) (Y3:∀e∈l,∀x∈e.vals,gV x) (O1:∀e∈l,e.vals.length<=1048576) :
  Calls prog 76 #[v,vk] w (mG w (dI key l)):=by
 have HL:=jD hl;have HK:=jD hk;have X4:=jD Y3;have N2:=jD O1;have U4:=jD (gA l v w hl);obtain⟨A,c,rfl,l1,l2,U0⟩:=hl;obtain⟨Ak,ck,rfl,-⟩:=hk;have V6:=ax l1 l2;have N7:=@run_makeMap prog;obtain⟨se,K2⟩:=jE (bC l);have A2:=jD K2;obtain⟨R,hR⟩:=jE (dI key l);have O4:=jD hR;rw[hR];rw[K2]at U4;have A5:=jD U0;clear K2 hR Y3 O1 U0 l1 l2;go_enter func76,ntmps76;go_wp2_with fail;refine U4.out.mono ?_;rintro e w2 ⟨rfl,U3⟩;have R2:=jD U3;clear U3
 by_cases h0:se=0
 case neg =>
  have W3:(se != 0)=true:=jQ h0;have HX:Hid (R=(([],[]),se)):=jD (by rw[<-O4.out,dI,lm A2.out h0,K7 h0]);clear h0;go_wp2_with fail;rw[HX.out];exact Lc (v:=.tuple #[.slice none 0 0,.slice none 0 0,KW se]) (by simp[results,results76,go_sem]) rfl ⟨_,_,rfl,Sl.nil _ _ _ _ _ (Lb _),Sl.nil _ _ _ _ _ (Lb _),R2.out⟩
 subst h0;obtain⟨H6,hlen⟩:=gx A2.out;have S4:Hid (∀E,dB (fun _ e=>(cF key e).2.2) none l=E->R=if E≠0 then (([],[]),E) else ((cT key l,dw key l),0)):=jD fun E hE=>by rw[<-O4.out,dI,sZ A2.out,hE]
 clear H6;have hi:=LD mA;have hj:=LD ju;have hq:=LD gw;obtain⟨i0,hi,W5,B5,T5⟩:=hi;obtain⟨j0,hj,P4,X3,W4⟩:=hj;obtain⟨q0,hq,Z4,O6,N5⟩:=hq;obtain⟨ES,T3⟩:=eh (dB (fun _ e=>(cF key e).2.2) none l);go_wp2_with fail;refine aP fun w3 e3=>?_
 obtain⟨B,hB⟩:=jE w2.heap.size;have N6:Hid (PartsW B B (.slice none 0 0) w3 (fun _=>none) (fun _=>[]) 0):=jD (by rw[e3,<-hB];exact wd w2.heap.size w2);have V5:Hid (KY w w3):=jD (by rw[e3];exact aJ R2.out _);have X6:B<w3.heap.size:=by rw[e3,<-hB];simp
 have T1:Hid (w.heap.size<=B):=jD (by rw[<-hB];exact R2.out.size);rw[hB];clear e3 hB;obtain⟨WB,H7⟩:∃q,q=w.heap.size:=⟨_,rfl⟩
 go_loopw [9,26] (fun av i wr=>∃(k n:Nat) (ks:List Vl) (SS:Vl->Option Value) (EE:Vl->List EV),k<=l.length/\i=KW k/\Hid (n<=k/\ks.length<=k)/\Hid (wr.ownsRow B 27 3 av ks.length (bb ks))/\Hid (PartsW B B av wr SS EE n)/\Hid (KeysP key (l.take k) ks EE/\dB (fun _ e=>(cF key e).2.2) (gi l k) (l.drop k)=ES/\KY w wr/\w3.heap.size<=wr.heap.size)) (fun _ i _=>l.length-(intOf i).toNat)
 case atStart=>exact⟨0,0,[],_,_,Lb _,rfl,jD ⟨Ld _,Ld _⟩,jD ⟨rfl,.inl ⟨rfl,rfl⟩⟩,N6,jD ⟨DC key,T3.out,V5.out,Ld _⟩⟩
 case round =>
  obtain⟨k,n,ks,SS,EE,hk,rfl,j',l',hP,hI⟩:=hrel;have hb:=hI.out.2.2.1;obtain⟨Ar,cr,rfl⟩:=ay l'.out;obtain⟨i',Y0⟩:∃q,q=ks.length:=⟨_,rfl⟩;have D':=jD Y0;rw[<-Y0]at l' hP j' ⊢;have U6:=j'.out;clear Y0;have R5:=hI.out.2.2.2
  by_cases O3:k<l.length
  ·have S5:(k:Int)<(l.length:Int):=by omega
   obtain⟨b,o,rfl,ve,R1,d0,d1,d2,d3,d4⟩:=A5.out k l[k] (K9 O3);have hg:=jD (K9 O3);have N1:l[k]∈l:=Nd O3;obtain⟨x,hx⟩:∃a,a=l[k]:=⟨_,rfl⟩;rw[<-hx]at hg R1 d0 d1 d2 d3 N1;clear hx;have HM:=jD N1;have A3:=jD R1;obtain⟨Av,cv,rfl,-⟩:=R1;have H5:b<w.heap.size:=K8 w ⟨b,_,none⟩ d0;replace d0:=aa hb d0;replace d1:=aa hb d1;replace d2:=aa hb d2;replace d3:=aa hb d3;replace d4:=aa hb d4;have T6:b<wr.heap.size:=Ll H5 hb.size;obtain⟨⟨D,ok,er⟩,hQ⟩:∃r,cF key x=r:=⟨_,rfl⟩;have HC:=jD (fun (W:World) (hW:KY wr W)=>Cl key x _ _ W (HK.out.stays aL (ab hb hW)) (A3.out.stays aC (ab hb hW)));rw[hQ]at HC;unfold cJ at HC;have HQ:=jD hQ;clear hQ N1;go_wp2_with fail;refine (HC.out _ ?_).mono ?_
   ·exact jB
   unfold pP vlV;rintro e w4 ⟨rfl,Q2⟩;have h':Hid (KY wr w4):=jD (ab (by exact jB) Q2);have T4:Hid (KY w w4):=jD (ab hb h'.out);have H3:Hid (w4.heap[wr.heap.size]?=some (.cells [.int .i64 x.src,.int .i64 x.sq,.int .i64 x.ty,.int .i64 x.tm,.slice Av x.vals.length cv].toArray 68 (0,0))):=jD (ao Q2 (ap _ _ _ rfl));clear Q2 d0 d1 d2 d3 d4
   by_cases hz:er=0
   case neg =>
    have HX:Hid (R=(([],[]),er)):=jD (by
     have h5:=et hg.out hI.out.2.1 (by rw[HQ.out]) hz;rw[S4.out _ T3.out,<-h5,K7 hz])
    have Y6:(er != 0)=true:=jQ hz;clear hz;go_wp2_with fail;rw[HX.out];exact Lc (v:=.tuple #[.slice none 0 0,.slice none 0 0,KW er]) (by simp[results,results76,go_sem]) rfl ⟨_,_,rfl,Sl.nil _ _ _ _ _ (Lb _),Sl.nil _ _ _ _ _ (Lb _),aJ T4.out _⟩
   subst hz;have O2:=jD (lY hg.out hI.out.2.1 (by rw[HQ.out]));have H2:=jD (aX hg.out);have Y2:Hid (gV D):=jD (by have h:=Bq (key:=key) (X4.out x HM.out);rw[HQ.out]at h;exact h);have H4:=jD (N2.out x HM.out)
   cases ok with
   | false =>
    have F':=jD (ab h'.out (ag w4 (.cells #[.int .i64 D.kind,.int .i64 D.num,.string D.text] 27 (0,0))));go_wp2_with fail;refine⟨⟨k+1,n,ks,SS,EE,by omega,by go_num,jD (by have:=j'.out;have:=D'.out;omega),jD (by rw[<-D'.out];exact aj l'.out F'.out),jD (hP.out.grow F'.out),jD ⟨by rw[H2.out];exact hI.out.1.skip (by rw[HQ.out]),O2.out,ab hb F'.out,Lf R5 F'.out.size⟩⟩,by simp[intOf];omega⟩
   | true =>
    obtain⟨lk,N0⟩:=BM w4 Y2.out;have N4:=jD N0;have P3:=ab h'.out (ag w4 (.cells #[.int .i64 D.kind,.int .i64 D.num,.string D.text] 27 (0,0)));have F':=jD P3;have V1:=hP.out.grow P3;obtain⟨Ax,cx,T0⟩:=V1.len D;have S3:=V1.map.look AE uR pC N0;rw[T0]at S3;unfold vlV at S3;have G:=jD T0;obtain⟨ne,K3⟩:∃q,q=(EE D).length:=⟨_,rfl⟩;rw[<-K3]at S3 G;have I':=jD K3;have Q0:=jD V1;clear N0 P3 V1 T0 K3;have O7:=jD (rfl:w.heap.size=w.heap.size)
    by_cases h0:ne=0
    ·have W3:((ne:Int)==0)=true:=jQ h0;have HZ:=jD h0;clear h0;go_wp2_with (at_builtin;refine aR _ rfl (.tmp 47) (.tmp 49) 56 rfl B 27 i0 _ 3 32 underlying56 hi W5 B5 T5 rfl dc (.slice Ar i' cr) i' (bb ks) rfl (aj l'.out (ab F'.out (ag _ _))) (some ⟨w4.heap.size+1,0,none⟩) 1 1 [KW D.kind,KW D.num,.string D.text] rfl (bE _ [KW D.kind,KW D.num,.string D.text] _ 1 3 _ jS rfl (by intro u hu;simp only[Lv,LM,LN]at hu;rcases hu with rfl|rfl|rfl<;>rfl)) (by unfold maxLen;have:=j'.out;omega) (by have:=j'.out;omega) (by simp;have:=h'.out.size;omega) ?_;intro v8 w8 k' C' H0);obtain⟨A8,c8,rfl⟩:=ay k';refine aP fun wq eq=>?_
     rw[<-eq]at k' C';have Z2:∀g,(Value.slice Ar i' cr).ownBlock=some g->B<=g/\g<wr.heap.size:=fun g O=>ah l'.out O
     have U5:=C'.size;simp only[L4]at U5;have Z:wq.heap[wr.heap.size]?=_:=(C'.block _ (by simp;have:=aD H3.out;omega) (fun e=>by have:=(Z2 _ e.symm).2;omega)).trans (aE (aE H3.out));have g':wq.heap[w4.heap.size]?=some (.cells [.int .i64 D.kind,.int .i64 D.num,.string D.text].toArray 27 (0,0)):=(C'.block _ (by simp;omega) (fun e=>by have:=(Z2 _ e.symm).2;have:=h'.out.size;omega)).trans (aE (ap _ _ _ rfl));have S1:=jD ((Q0.out.grow (ag _ _)).keyApp C' H0);have X0:=jD k';have M1:Hid (KY w wq):=jD ((ab hb (ab F'.out (ag _ _))).trans (am C' (by have:=hb.size;have:=h'.out.size;simp;omega) (fun g e=>by have:=(Z2 g e).1;have:=T1.out;omega)));have Y5:w3.heap.size<=wq.heap.size:=by have:=h'.out.size;omega
     obtain⟨Y,V'⟩:∃q,q=w4.heap.size:=⟨_,rfl⟩;obtain⟨X,N'⟩:∃q,q=wr.heap.size:=⟨_,rfl⟩;rw[<-V']at g';rw[<-N']at Z;have G':X<wq.heap.size:=aD Z;have H':Y<wq.heap.size:=aD g';have T':Hid (∀g,(Value.slice Ax ne cx).ownBlock=some g->g<X/\g<Y/\g≠B):=jD fun g O=>by
      have h1:=hP.out.low D (g:=g) (by rw[G.out];exact O);have h2:=hP.out.notMap D;rw[G.out]at h2;have:=h'.out.size;exact⟨by omega,by omega,fun e=>h2 (by rw[O,e])⟩
     have Q1:Hid (ne<=k):=jD (by
      have h:=congrArg List.length (hI.out.1.evs D);rw[Lm,<-I'.out]at h;have h2:=MH (gO key D) (l.take k);rw[Ml]at h2;omega)
     have p':Hid (X≠B/\Y≠B):=jD (by have:=h'.out.size;omega);have W2:Hid (ks++[D]=if (EE D).length=0 then ks++[D] else ks):=jD (by rw[<-I'.out,K7 HZ.out]);rw[<-V',<-N'];clear eq V' N' C' k' H0;have ex0:=af Z 0;have X':=af Z 1;have P':=af Z 2;have Y':=af Z 3;have S':=af Z 4;have R':=af g' 0;have O':=af g' 1;have Z':=af g' 2;simp only[LE,LC]at ex0 X' P' Y' S' R' O' Z';have c':∀W,W.heap[X]?=wq.heap[X]?->W.heap[Y]?=wq.heap[Y]?->(fun W:World=>KX W X 0 (KW x.src)/\KX W X 1 (KW x.sq)/\KX W X 2 (KW x.ty)/\KX W X 3 (KW x.tm)/\KX W X 4 (.slice Av x.vals.length cv)/\KX W Y 0 (KW D.kind)/\KX W Y 1 (KW D.num)/\KX W Y 2 (.string D.text)) W:=fun W h1 h2=>⟨(Ln (a:=⟨X,0,none⟩) h1).trans ex0,(Ln (a:=⟨X,1,none⟩) h1).trans X',(Ln (a:=⟨X,2,none⟩) h1).trans P',(Ln (a:=⟨X,3,none⟩) h1).trans Y',(Ln (a:=⟨X,4,none⟩) h1).trans S',(Ln (a:=⟨Y,0,none⟩) h2).trans R',(Ln (a:=⟨Y,1,none⟩) h2).trans O',(Ln (a:=⟨Y,2,none⟩) h2).trans Z'⟩
     clear Z g' ex0 X' P' Y' S' R' O' Z';refine wp_region_noPanic ?_;refine wp_region_held_drew (S:=(fun W:World=>KX W X 0 (KW x.src)/\KX W X 1 (KW x.sq)/\KX W X 2 (KW x.ty)/\KX W X 3 (KW x.tm)/\KX W X 4 (.slice Av x.vals.length cv)/\KX W Y 0 (KW D.kind)/\KX W Y 1 (KW D.num)/\KX W Y 2 (.string D.text))) kr (c' _ rfl rfl) (fun F=>?_);refine tkH [0,1,2] ?_;refine nxH 3 (fun K hK=>?_)
     focus (go_simp;refine (qL x (.slice Av x.vals.length cv) _ ?_ H4.out).mono ?_;(focus (exact A3.out.stays aC (ab M1.out jB)));intro e wc S2;obtain⟨uc,rfl,A0,A1⟩:=S2;have e':KY wq wc:=ab (La _ _).drew A1;obtain⟨Ac,cc,rfl,-⟩:=id A0.1;have S0:Hid (rC wq.heap.size wc (.slice Ac x.vals.length cc) x.vals):=jD A0;have Z0:=jD e';clear A0 A1;unfold cJ)
     refine hK.out _ _ (c' _ (e'.block X G') (e'.block Y H')) (fun F=>?_);clear hK K;refine nxH 4 (fun K hK=>?_)
     go_simp
     refine hK.out _ _ (c' _ ((ab e' (ag wc _)).block X G') ((ab e' (ag wc _)).block Y H')) (fun F=>?_);clear hK K;refine nxH 5 (fun K hK=>?_)
     focus (have I:=ab e' (ag wc (.cells [.int .i64 x.src,.int .i64 x.sq,.int .i64 x.ty,.int .i64 x.tm,.slice Ac x.vals.length cc].toArray 68 (0,0)));have y':=S1.out.grow I;obtain⟨w5,st,E',J,K1,m'⟩:=y'.map.entry qP uR pC AV N4.out (by have:=j'.out;unfold maxLen;omega);rw[G.out]at E';unfold vlV at E';have d':=y'.hasKept J D;rw[G.out,<-I'.out]at d';have A':=(J.block X (Ll G' I.size) (fun e=>p'.out.1 (LK e))).trans (I.block X G');have n':=(J.block Y (Ll H' I.size) (fun e=>p'.out.2 (LK e))).trans (I.block Y H');have V2:=Lf I.size J.size;refine oE (.tmp 51) (.tmp 52) rfl jR jR E' ?_)
     refine hK.out _ _ (c' _ A' n') (fun F=>?_);clear hK K;refine tkH [6,8] ?_;refine nxH 7 (fun K hK=>?_)
     focus ((try (change Oper.wp _ _ _ _ _ _));refine ed _ (.tmp 53) (.tmp 56) 34 rfl B 68 j0 _ 5 56 underlying34 hj P4 X3 W4 rfl dc (.slice Ax ne cx) ne (cn (EE D)) jR d' (some ⟨wc.heap.size,0,none⟩) 1 1 [KW x.src,KW x.sq,KW x.ty,KW x.tm,.slice Ac x.vals.length cc] jR (srcG (bE _ [KW x.src,KW x.sq,KW x.ty,KW x.tm,.slice Ac x.vals.length cc] _ 1 5 _ jS rfl (by intro u hu;simp only[Lv,LM,LN]at hu;rcases hu with rfl|rfl|rfl|rfl|rfl<;>rfl)) J (fun e=>by have h1:=LK e;have h2:=Z0.out.size;omega)) (by unfold maxLen;have:=Q1.out;omega) (by have:=Q1.out;omega) om ?_;intro v7 w7 a' b' x';obtain⟨A7,c7,rfl⟩:=ay a';have t':=(b'.block X om (fun e=>by have:=(T'.out X e.symm).1;omega)).trans A';have z':=(b'.block Y om (fun e=>by have:=(T'.out Y e.symm).2.1;omega)).trans n';have T2:=Lf V2 b'.size)
     refine hK.out _ _ (c' _ t' z') (fun F=>?_);clear hK K;refine nxH 9 (fun K hK=>?_)
     focus (obtain⟨w9,P1,f',q'⟩:=m' w7 (.slice A7 (ne+1) c7) (b'.block B K1 (fun e=>(T'.out B e.symm).2.2 rfl));have M':=(f'.block X om (fun e=>p'.out.1 (LK e))).trans t';have L':=(f'.block Y om (fun e=>p'.out.2 (LK e))).trans z';refine kQ (.tmp 51) (.tmp 59) (.tmp 58) rfl jR jR jR P1 ?_)
     refine hK.out _ _ (c' _ M' L') (fun F=>?_);clear hK K;refine wpAnyH_done kr (NoPanic.normal ?_) _;rotate_left 1;have s':w5.grownBy w7 ((SS D).getD (.slice none 0 0)).ownBlock:=by rw[G.out];exact b'
     have r':w7.ownsRow B 68 5 (.slice A7 (ne+1) c7) ((EE D).length+1) (cn (EE D)++[KW x.src,KW x.sq,KW x.ty,KW x.tm,.slice Ac x.vals.length cc]):=by rw[<-I'.out];exact a'
     have B':(Value.slice A7 (ne+1) c7).ownBlock=((SS D).getD (.slice none 0 0)).ownBlock\/(Value.slice A7 (ne+1) c7).ownBlock=some w5.heap.size:=by rw[G.out];exact x'
     have Y4:B<=wq.heap.size:=by omega
     have J':∀g,(Value.slice A8 (i'+1) c8).ownBlock=some g->g<wq.heap.size:=fun g O=>(ah X0.out O).2
     have P0:=y'.push (x:=D) (y:=x) (u:=.slice Ac x.vals.length cc) (by have:=I.size;omega) (fun g O=>Ll (J' g O) I.size) J s' f' r' B' q' (S0.out.1.stays aC (ag wc _)) (fun g O=>by
      obtain⟨n1,n2⟩:=S0.out.2 g O;refine⟨by simp;omega,by have:=p'.out;omega,fun e=>by have:=J' g e;omega,fun v' z hz e=>?_⟩;have:=(ah (S1.out.row v' z hz).2.1 e).2;omega)
     have R3:=jD P0;have B2:=jD (y'.keyRow D J s' f' (aj X0.out I));have X2:Hid (KY w w9):=jD (by
      have hA:=T1.out;have q0:=(ab M1.out I);have q1:=q0.size;exact ((q0.trans (am J om (fun g e=>by injection e with e;omega))).trans (am b' om (fun g e=>by have:=hP.out.low D (g:=g) (by rw[G.out];exact e);omega))).trans (am f' om (fun g e=>by injection e with e;omega)))
     have A6:=Lf T2 f'.size;have V0:=jD (hI.out.1.push (y:=x) (x:=D) (by rw[HQ.out]) (by rw[HQ.out]) (.slice Ac x.vals.length cc));rw[<-W2.out,<-H2.out]at V0;clear s' r' B' P0 y' J b' f' a' x' q' m' E' P1 d' e' I A' n' t' z' M' L' c' F;go_wp2_with fail;refine⟨⟨k+1,n+1,(ks++[D]),_,_,by omega,by go_num,jD ⟨by have:=j'.out;omega,by rw[Le,<-D'.out];have:=j'.out;simp;omega⟩,jD (by rw[Le,<-D'.out,go];exact B2.out),R3,jD ⟨V0.out,O2.out,X2.out,by omega⟩⟩,by simp[intOf];omega⟩
    ·have W3:((ne:Int)==0)=false:=jQ h0;have HZ:=jD h0;clear h0;go_wp2_with fail;refine aP fun wq eq=>?_
     have E1:KY w4 wq:=gb eq;have Z:=ao E1 H3.out;have g':wq.heap[w4.heap.size]?=some (.cells [.int .i64 D.kind,.int .i64 D.num,.string D.text].toArray 27 (0,0)):=by rw[eq];exact ap _ _ _ rfl
     have S1:=jD (Q0.out.grow (show Below _ _ wq by rw[eq];exact La _ _));have X0:=jD (aj l'.out (ab h'.out E1));have M1:Hid (KY w wq):=jD (ab T4.out E1);have Y5:w3.heap.size<=wq.heap.size:=by have:=h'.out.size;have:=E1.size;omega
     obtain⟨Y,V'⟩:∃q,q=w4.heap.size:=⟨_,rfl⟩;obtain⟨X,N'⟩:∃q,q=wr.heap.size:=⟨_,rfl⟩;rw[<-V']at g';rw[<-N']at Z;have G':X<wq.heap.size:=aD Z;have H':Y<wq.heap.size:=aD g';have T':Hid (∀g,(Value.slice Ax ne cx).ownBlock=some g->g<X/\g<Y/\g≠B):=jD fun g O=>by
      have h1:=hP.out.low D (g:=g) (by rw[G.out];exact O);have h2:=hP.out.notMap D;rw[G.out]at h2;have:=h'.out.size;exact⟨by omega,by omega,fun e=>h2 (by rw[O,e])⟩
     have Q1:Hid (ne<=k):=jD (by
      have h:=congrArg List.length (hI.out.1.evs D);rw[Lm,<-I'.out]at h;have h2:=MH (gO key D) (l.take k);rw[Ml]at h2;omega)
     have p':Hid (X≠B/\Y≠B):=jD (by have:=h'.out.size;omega);have W2:Hid (ks=if (EE D).length=0 then ks++[D] else ks):=jD (by rw[<-I'.out,K6 HZ.out]);rw[<-V',<-N'];clear eq E1 V' N';have ex0:=af Z 0;have X':=af Z 1;have P':=af Z 2;have Y':=af Z 3;have S':=af Z 4;have R':=af g' 0;have O':=af g' 1;have Z':=af g' 2;simp only[LE,LC]at ex0 X' P' Y' S' R' O' Z';have c':∀W,W.heap[X]?=wq.heap[X]?->W.heap[Y]?=wq.heap[Y]?->(fun W:World=>KX W X 0 (KW x.src)/\KX W X 1 (KW x.sq)/\KX W X 2 (KW x.ty)/\KX W X 3 (KW x.tm)/\KX W X 4 (.slice Av x.vals.length cv)/\KX W Y 0 (KW D.kind)/\KX W Y 1 (KW D.num)/\KX W Y 2 (.string D.text)) W:=fun W h1 h2=>⟨(Ln (a:=⟨X,0,none⟩) h1).trans ex0,(Ln (a:=⟨X,1,none⟩) h1).trans X',(Ln (a:=⟨X,2,none⟩) h1).trans P',(Ln (a:=⟨X,3,none⟩) h1).trans Y',(Ln (a:=⟨X,4,none⟩) h1).trans S',(Ln (a:=⟨Y,0,none⟩) h2).trans R',(Ln (a:=⟨Y,1,none⟩) h2).trans O',(Ln (a:=⟨Y,2,none⟩) h2).trans Z'⟩
     clear Z g' ex0 X' P' Y' S' R' O' Z';refine wp_region_noPanic ?_;refine wp_region_held_drew (S:=(fun W:World=>KX W X 0 (KW x.src)/\KX W X 1 (KW x.sq)/\KX W X 2 (KW x.ty)/\KX W X 3 (KW x.tm)/\KX W X 4 (.slice Av x.vals.length cv)/\KX W Y 0 (KW D.kind)/\KX W Y 1 (KW D.num)/\KX W Y 2 (.string D.text))) kr (c' _ rfl rfl) (fun F=>?_);refine tkH [0,1,2] ?_;refine nxH 3 (fun K hK=>?_)
     focus (go_simp;refine (qL x (.slice Av x.vals.length cv) _ ?_ H4.out).mono ?_;(focus (exact A3.out.stays aC (ab M1.out jB)));intro e wc S2;obtain⟨uc,rfl,A0,A1⟩:=S2;have e':KY wq wc:=ab (La _ _).drew A1;obtain⟨Ac,cc,rfl,-⟩:=id A0.1;have S0:Hid (rC wq.heap.size wc (.slice Ac x.vals.length cc) x.vals):=jD A0;have Z0:=jD e';clear A0 A1;unfold cJ)
     refine hK.out _ _ (c' _ (e'.block X G') (e'.block Y H')) (fun F=>?_);clear hK K;refine nxH 4 (fun K hK=>?_)
     go_simp
     refine hK.out _ _ (c' _ ((ab e' (ag wc _)).block X G') ((ab e' (ag wc _)).block Y H')) (fun F=>?_);clear hK K;refine nxH 5 (fun K hK=>?_)
     focus (have I:=ab e' (ag wc (.cells [.int .i64 x.src,.int .i64 x.sq,.int .i64 x.ty,.int .i64 x.tm,.slice Ac x.vals.length cc].toArray 68 (0,0)));have y':=S1.out.grow I;obtain⟨w5,st,E',J,K1,m'⟩:=y'.map.entry qP uR pC AV N4.out (by have:=j'.out;unfold maxLen;omega);rw[G.out]at E';unfold vlV at E';have d':=y'.hasKept J D;rw[G.out,<-I'.out]at d';have A':=(J.block X (Ll G' I.size) (fun e=>p'.out.1 (LK e))).trans (I.block X G');have n':=(J.block Y (Ll H' I.size) (fun e=>p'.out.2 (LK e))).trans (I.block Y H');have V2:=Lf I.size J.size;refine oE (.tmp 51) (.tmp 52) rfl jR jR E' ?_)
     refine hK.out _ _ (c' _ A' n') (fun F=>?_);clear hK K;refine tkH [6,8] ?_;refine nxH 7 (fun K hK=>?_)
     focus ((try (change Oper.wp _ _ _ _ _ _));refine ed _ (.tmp 53) (.tmp 56) 34 rfl B 68 j0 _ 5 56 underlying34 hj P4 X3 W4 rfl dc (.slice Ax ne cx) ne (cn (EE D)) jR d' (some ⟨wc.heap.size,0,none⟩) 1 1 [KW x.src,KW x.sq,KW x.ty,KW x.tm,.slice Ac x.vals.length cc] jR (srcG (bE _ [KW x.src,KW x.sq,KW x.ty,KW x.tm,.slice Ac x.vals.length cc] _ 1 5 _ jS rfl (by intro u hu;simp only[Lv,LM,LN]at hu;rcases hu with rfl|rfl|rfl|rfl|rfl<;>rfl)) J (fun e=>by have h1:=LK e;have h2:=Z0.out.size;omega)) (by unfold maxLen;have:=Q1.out;omega) (by have:=Q1.out;omega) om ?_;intro v7 w7 a' b' x';obtain⟨A7,c7,rfl⟩:=ay a';have t':=(b'.block X om (fun e=>by have:=(T'.out X e.symm).1;omega)).trans A';have z':=(b'.block Y om (fun e=>by have:=(T'.out Y e.symm).2.1;omega)).trans n';have T2:=Lf V2 b'.size)
     refine hK.out _ _ (c' _ t' z') (fun F=>?_);clear hK K;refine nxH 9 (fun K hK=>?_)
     focus (obtain⟨w9,P1,f',q'⟩:=m' w7 (.slice A7 (ne+1) c7) (b'.block B K1 (fun e=>(T'.out B e.symm).2.2 rfl));have M':=(f'.block X om (fun e=>p'.out.1 (LK e))).trans t';have L':=(f'.block Y om (fun e=>p'.out.2 (LK e))).trans z';refine kQ (.tmp 51) (.tmp 59) (.tmp 58) rfl jR jR jR P1 ?_)
     refine hK.out _ _ (c' _ M' L') (fun F=>?_);clear hK K;refine wpAnyH_done kr (NoPanic.normal ?_) _;rotate_left 1;have s':w5.grownBy w7 ((SS D).getD (.slice none 0 0)).ownBlock:=by rw[G.out];exact b'
     have r':w7.ownsRow B 68 5 (.slice A7 (ne+1) c7) ((EE D).length+1) (cn (EE D)++[KW x.src,KW x.sq,KW x.ty,KW x.tm,.slice Ac x.vals.length cc]):=by rw[<-I'.out];exact a'
     have B':(Value.slice A7 (ne+1) c7).ownBlock=((SS D).getD (.slice none 0 0)).ownBlock\/(Value.slice A7 (ne+1) c7).ownBlock=some w5.heap.size:=by rw[G.out];exact x'
     have Y4:B<=wq.heap.size:=by omega
     have J':∀g,(Value.slice Ar i' cr).ownBlock=some g->g<wq.heap.size:=fun g O=>(ah X0.out O).2
     have P0:=y'.push (x:=D) (y:=x) (u:=.slice Ac x.vals.length cc) (by have:=I.size;omega) (fun g O=>Ll (J' g O) I.size) J s' f' r' B' q' (S0.out.1.stays aC (ag wc _)) (fun g O=>by
      obtain⟨n1,n2⟩:=S0.out.2 g O;refine⟨by simp;omega,by have:=p'.out;omega,fun e=>by have:=J' g e;omega,fun v' z hz e=>?_⟩;have:=(ah (S1.out.row v' z hz).2.1 e).2;omega)
     have R3:=jD P0;have B2:=jD (y'.keyRow D J s' f' (aj X0.out I));have X2:Hid (KY w w9):=jD (by
      have hA:=T1.out;have q0:=(ab M1.out I);have q1:=q0.size;exact ((q0.trans (am J om (fun g e=>by injection e with e;omega))).trans (am b' om (fun g e=>by have:=hP.out.low D (g:=g) (by rw[G.out];exact e);omega))).trans (am f' om (fun g e=>by injection e with e;omega)))
     have A6:=Lf T2 f'.size;have V0:=jD (hI.out.1.push (y:=x) (x:=D) (by rw[HQ.out]) (by rw[HQ.out]) (.slice Ac x.vals.length cc));rw[<-W2.out,<-H2.out]at V0;clear s' r' B' P0 y' J b' f' a' x' q' m' E' P1 d' e' I A' n' t' z' M' L' c' F;go_wp2_with fail;refine⟨⟨k+1,n+1,ks,_,_,by omega,by go_num,jD ⟨by have:=j'.out;omega,by have:=j'.out;have:=D'.out;omega⟩,jD (by rw[<-D'.out];exact B2.out),R3,jD ⟨V0.out,O2.out,X2.out,by omega⟩⟩,by simp[intOf];omega⟩
  ·have S5:¬(k:Int)<(l.length:Int):=by omega
   obtain rfl:k=l.length:=by omega
   have X1:=mS (Ld _) hI.out.2.1;have HR:=jD (S4.out _ T3.out);rw[<-X1,K6 jS]at HR;have hK:=hI.out.1;rw[LX]at hK;have K5:=jD hK;have R4:=jD (vw ks (.slice Ar i' cr) B wr (by rw[<-D'.out];exact l'.out) (by rw[<-D'.out];have:=j'.out;omega));have P6:=jD (fun (A4:List Vl) (hp:A4.Perm ks) (hs:A4.Pairwise (fun a b=>¬vlC b a<0))=>hK.sorted hp hs);have S6:Hid (n<=4096):=jD (by have:=j'.out;omega);clear X1 hK;go_wp2_with fail;refine R4.out.mono ?_;rintro e w5 ⟨rfl,es,hp,Z1,P2,E2⟩;have V3:es=cT key l:=P6.out es hp (by first|exact Z1|exact Z1.imp fun h=>Int.not_lt.1 h);have Q0:=jD (hP.out.keyApp E2 (.inl rfl));have Z3:es.length=i':=by rw[D'.out];exact hp.length_eq
   have F':Hid (KY w w5):=jD (hb.trans (am E2 hb.size (fun g e=>by have:=(ah l'.out e).1;have:=T1.out;omega)));have N3:=jD V3;have O0:=jD Z3;have Q4:=jD P2;obtain⟨Ae,ce,R1,e1,e2,U0⟩:=id P2;injection R1 with q1 q2 q3;subst q1 q3;have Z5:=jD U0;clear hp Z1 P2 E2 V3 Z3 U0 e1 e2 q2;have Y2:Hid (∀v∈es,gV v):=jD (fun v hv=>by
    rw[N3.out]at hv;obtain⟨e,he,h1,rfl⟩:=((pm key l).2 v).1 hv;exact Bq (X4.out e he))
   go_wp2_with fail;obtain⟨wa,rfl⟩:∃wa:World,wa=wr:=⟨_,rfl⟩
   go_loopw [15,65] (fun av i wx=>∃k:Nat,k<=i'/\i=KW k/\Hid (wx.ownsRow w5.heap.size 34 1 av k ((es.take k).map fun v=>(SS v).getD (.slice none 0 0)))/\Hid (KY w5 wx)) (fun _ i _=>i'-(intOf i).toNat)
   case atStart=>exact⟨0,Lb _,rfl,jD ⟨rfl,.inl ⟨rfl,rfl⟩⟩,jD (La _ _)⟩
   case round =>
    obtain⟨j,hj,rfl,K0,u'⟩:=hrel;obtain⟨Ao,co,rfl⟩:=ay K0.out
    by_cases P7:j<i'
    ·have R6:(j:Int)<(i':Int):=by omega
     have R0:es[j]?=some (es[j]'(by have:=O0.out;omega)):=K9 (by have:=O0.out;omega);obtain⟨y,hy⟩:∃y,y=es[j]'(by have:=O0.out;omega):=⟨_,rfl⟩;rw[<-hy]at R0;obtain⟨bk,ok,rfl,y0,y1,y2⟩:=Z5.out j y R0;have V4:=Y2.out y (Li R0);have O5:bk<w5.heap.size:=K8 w5 ⟨bk,_,none⟩ y0;have W6:bk<wr.heap.size:=Ll O5 u'.out.size;replace y0:=aa u'.out y0;replace y1:=aa u'.out y1;replace y2:=aa u'.out y2;have HG:=jD R0;obtain⟨lk,N0⟩:=BM wr V4;have Q3:=Q0.out.grow (ab u'.out (ag wr (.cells #[.int .i64 y.kind,.int .i64 y.num,.string y.text] 27 (0,0))));have U2:=Q3.map.look AE uR pC N0;obtain⟨Ay,cy,U1⟩:=Q3.len y;rw[U1]at U2;obtain⟨ny,K4⟩:∃q,q=(EE y).length:=⟨_,rfl⟩;rw[<-K4]at U2 U1;unfold vlV at U2;have Q5:=jD U1;have Z6:j<=4096:=by have:=O0.out;have:=S6.out;omega
     clear hy R0 V4 N0 Q3 U1 K4;go_wp2_with (at_builtin;refine aR _ rfl (.tmp 69) (.tmp 73) 60 rfl w5.heap.size 34 q0 _ 1 24 underlying60 hq Z4 O6 N5 rfl dc (.slice Ao j co) j _ rfl (aj K0.out (ab (ag wr _) (ag _ _))) (some ⟨wr.heap.size+1,0,none⟩) 1 1 [.slice Ay ny cy] rfl (bE _ [.slice Ay ny cy] _ 1 1 _ jS rfl (by intro u hu;simp only[Lv,LM,LN]at hu;rcases hu with rfl;rfl)) (by unfold maxLen;omega) om (by simp;have:=u'.out.size;omega) ?_;intro v8 w8 k' C' H0);have P5:KY w5 w8:=(ab u'.out (ab (ag wr _) (ag _ _))).trans (am C' (by simp;have:=u'.out.size;omega) (fun g h=>(ah K0.out h).1));refine⟨⟨j+1,by omega,by go_num,jD ?_,jD P5⟩,by simp[intOf];omega⟩;rw[aX HG.out,LH];simp only[LF,MD,Q5.out];exact k'
    ·have R6:¬(j:Int)<(i':Int):=by omega
     have W1:es.take j=es:=Mn (by have:=O0.out;omega);have U':=K0.out;rw[W1]at U';have Y1:Sl nY 1 wr (.slice Ao j co) (es.map fun v=>(EE v).map (·.1)):=dC (yN (Q0.out.grow u'.out) es) (La _ _) (by rw[Lm];have:es.length=j:=by { have:=O0.out;omega };rw[this];exact U');have heq:(es.map fun v=>(EE v).map (·.1))=dw key l:=by
      unfold dw;rw[<-N3.out];exact List.map_congr_left fun v _=>K5.out.evs v
     rw[heq]at Y1;have X5:=jD Y1;have Q6:=jD (Q4.out.stays aC u'.out);clear Y1 heq U' W1;go_wp2_with fail;rw[HR.out];exact Lc (v:=.tuple #[.slice Ar i' cr,.slice Ao j co,KW 0]) (by simp[results,results76,go_sem]) rfl ⟨_,_,rfl,by rw[<-N3.out];exact Q6.out,X5.out,ab F'.out u'.out⟩
end Go.Proofs.YtokconodddedhaaGreatDoor
