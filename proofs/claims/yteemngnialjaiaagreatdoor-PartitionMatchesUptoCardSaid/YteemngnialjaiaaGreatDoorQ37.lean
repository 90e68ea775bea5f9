/- Part. -/
import Derived.Test.YteemngnialjaiaaGreatDoorQ33
import Derived.Carry
set_option maxRecDepth 100000
set_option maxHeartbeats 16000000
set_option linter.unusedVariables false
set_option linter.unusedSimpArgs false
namespace Go.Proofs.YteemngnialjaiaaGreatDoor
open Go.Proofs.Tryz Go.RowKit
variable {P:Program}{w w':World}{o:Oper}{a:Act}{K:Act->World->Prop}{Q:Exit->Act->World->Prop}{M t:TypeId}{I v:Value}{A mb g:Nat}{S:Vl->Option Value}{E:Vl->List EV}{cs:List Value}{row:Option Nat}{key:List Int}{l:List Evt}{e:Int}{p:Prop}
theorem oQ{kv:Value}(m x:Operand)(J:o.op=.mapEntry M m x)(hm:a.eval m=I)(Z:a.eval x=kv)(hr:(Instr.mapEntry M I kv).run P w=.ok v w')(h:K (a.put o.dst v) w'):Oper.wp P o a w K Q:=by
 unfold Oper.wp;simp[execOp,J,hm,Z,hr,Result.andThen];exact h
theorem lC{J:Value}(m s x:Operand)(Z:o.op=.entryStore M m s x)(hm:a.eval m=J)(hs:a.eval s=I)(hx:a.eval x=v)(hr:(Instr.entryStore M J I v).run P w=.ok () w')(h:K (a.put o.dst undef) w'):Oper.wp P o a w K Q:=by
 unfold Oper.wp;simp[execOp,Z,hm,hs,hx,hr,Result.andThen];exact h
theorem PartsW.hasKept{n:Nat}{kv:Value}(h:PartsW A mb kv w S E n)(J:w.grownBy w' (some mb))(v:Vl):w'.ownsRow A 71 5 ((S v).getD (.slice none 0 0)) (E v).length (du (E v)):=by
 cases I:S v with
 | none=>rw[h.no v I];exact⟨rfl,.inl ⟨rfl,rfl⟩⟩
 | some u=>exact h.keptRow J I
theorem PartsW.notMap{n:Nat}{kv:Value}(h:PartsW A mb kv w S E n)(v:Vl):((S v).getD (.slice none 0 0)).ownBlock≠some mb:=by
 cases I:S v with
 | none=>simp[Value.ownBlock]
 | some u=>exact fun e=>((h.row v u I).2.2 mb e).1 rfl
theorem PartsW.low{n:Nat}{kv:Value}(h:PartsW A mb kv w S E n)(v:Vl)(I:((S v).getD (.slice none 0 0)).ownBlock=some g):A<=g/\g<w.heap.size:=ao (h.has v) I
theorem PartsW.keyRow{n m sz:Nat}{kv:Value}{w1 w2 w3:World}(h:PartsW A mb kv w S E n)(x:Vl)(I:w.grownBy w1 (some mb))(J:w1.grownBy w2 ((S x).getD (.slice none 0 0)).ownBlock)(a':w2.grownBy w3 (some mb))(hr:w.ownsRow A t sz kv m cs):w3.ownsRow A t sz kv m cs:=by
 have c':=I.size;have d':=J.size;refine aY hr fun g Z=>?_
 have hl:=(ao hr Z).2;have hm:g≠mb:=fun e=>h.key (by rw[Z,e])
 refine (a'.block g om (fun e=>hm (Pn e))).trans ((J.block g om (fun e=>?_)).trans (I.block g hl (fun e=>hm (Pn e))))
 cases hS:S x with
 | none=>rw[hS]at e;simp[Value.ownBlock]at e
 | some u=>rw[hS]at e;exact ((h.row x u hS).2.2 g e.symm).2 Z
theorem srcG{b o n sz:Nat}(h:Src w (some ⟨b,o,none⟩) n sz cs)(Z:w.grownBy w' row)(J:row≠some b):Src w' (some ⟨b,o,none⟩) n sz cs:=by
 refine⟨h.1,h.2.1,fun hn=>?_⟩;obtain⟨b',o',I,hc⟩:=h.2.2 hn;exact⟨b',o',I,fun j u hj=>by
  injection I with I;injection I with e1 e2;subst e1 e2;exact ag Z (hc j u hj) J⟩
theorem EK(h:bN l=0):gu key l=eu (fun _ e=>(bW key e).2.2) none l:=by
 unfold gu;rw[OF (by rw[h];simp)]
theorem qR(h:bN l=e)(h0:e≠0):gu key l=e:=by
 unfold gu;rw[OG (by rw[h];exact h0),h]
theorem vZ(w:World):Calls prog 105 #[.slice none 0 0,.func (.func 106) #[] #[]] w fun e W=>e=.returned (.tuple #[])/\W=w:=by
 have h:=AnyF.slices_SortFunc_none Tryz.sortVal none 0 (.func (.func 106) #[] #[]) w
 change Calls prog 105 _ _ _ at h
 exact h
def SrtV(w:World)(kv:Value)(ks:List Vl)(e:Ending)(W:World):Prop:=e=.returned (.tuple #[])/\∃es:List Vl,es.Perm ks/\es.Pairwise (fun a b=>¬vlC b a<0)/\bh W kv es/\w.grownBy W kv.ownBlock
theorem vM(ks:List Vl)(kv:Value)(B:Nat)(w:World)(hr:w.ownsRow B 27 3 kv ks.length (bS ks))(a':ks.length<=1048576) :
  Calls prog 105 #[kv,.func (.func 106) #[] #[]] w (SrtV w kv ks):=by
 have hv:=kG hr;rcases hr.2 with ⟨rfl,h0⟩|⟨g,cap,cur,rfl,hg,hh,hnc,hcm,_⟩
 ·refine (vZ w).mono ?_;rintro e W ⟨rfl,rfl⟩;obtain rfl:ks=[]:=Po h0;exact⟨rfl,[],.refl _,.nil,hv,⟨rfl,rfl,rfl,OI _,fun _ _ _=>rfl⟩⟩
 ·have Z:∀(k:Nat)(x:Vl),ks[k]?=some x->mC w g (0+k*3) x:=fun k x hx=>by
   obtain⟨A,c,h,-,-,h3⟩:=hv;obtain⟨b,o,J,hp⟩:=h3 k x hx;rw[J]at h;injection h with h;injection h with h;injection h with e1 e2;subst e1 e2;exact hp
  refine (vf ks g cap cur.toList w (jQ hh) Z a').mono ?_;rintro e W ⟨rfl,es,hp,d',I,c'⟩;exact⟨rfl,es,hp,d',⟨some ⟨g,0,none⟩,cap,by rw[hp.length_eq],by rw[hp.length_eq];exact hnc,hcm,fun k x hx=>⟨g,0,rfl,I k x hx⟩⟩,c'⟩
theorem PartsW.isD{n:Nat}{kv:Value}(h:PartsW A mb kv w S E n)(v:Vl):cH w ((S v).getD (.slice none 0 0)) ((E v).map (·.1)):=by
 cases I:S v with
 | none=>rw[h.no v I];exact Sl.nil _ _ _ _ _ (OO _)
 | some u=>exact h.is I
theorem AO{n:Nat}{kv:Value}(h:PartsW A mb kv w S E n)(ks:List Vl) :
  Means sB 1 w (ks.map fun v=>(S v).getD (.slice none 0 0)) (ks.map fun v=>(E v).map (·.1)):=by
 refine⟨by simp,fun u hu=>?_,fun W b o I Z k y hk=>?_⟩
 ·obtain⟨v,_,rfl⟩:=List.mem_map.1 hu;obtain⟨A',c',e⟩:=h.len v;rw[e];rfl
 ·rw[OQ]at hk;obtain⟨v,J,rfl⟩:=Option.map_eq_some_iff.1 hk;exact⟨_,(h.grow I).isD v,by have:=Z k ((S v).getD (.slice none 0 0)) (by rw[OQ,J];rfl);rw[P7];exact this⟩
theorem uX:prog.underlying 169=some (.map 27 34):=kr
theorem ubg(h:p:=by
  have h1:=hP.out.low I (g:=g) (by rw[Z.out];exact c');have h2:=hP.out.notMap I;rw[Z.out]at h2;have:=p'.out.size;exact⟨by omega,by omega,fun e=>h2 (by rw[c',e])⟩):p:=h
theorem E3(l:List Evt)(key:List Int)(v vk:Value)(w:World)(hl:cH w v l)(hk:iJ w vk key)(T7:∀e∈l,∀x∈e.vals,jM x)(W2:∀e∈l,e.vals.length<=1048576) :
  Calls prog 53 #[v,vk] w (yZ w (fZ key l)):=by
 have HL:=jD hl;have HK:=jD hk;have U7:=jD T7;have W4:=jD W2;have T6:=jD (rB l v w hl);obtain⟨A,c,rfl,l1,l2,Y2⟩:=hl;obtain⟨Ak,ck,rfl,-⟩:=hk;have na:=aP l1 l2;have Xa:=@run_makeMap prog;obtain⟨se,A5⟩:=jE (bN l);have A4:=jD A5;obtain⟨R,hR⟩:=jE (fZ key l);have H7:=jD hR;rw[hR];rw[A5]at T6;have S9:=jD Y2;clear A5 hR T7 W2 Y2 l1 l2;go_enter func53,ntmps53;go_wp2_with fail;refine T6.out.mono ?_;rintro e w2 ⟨rfl,U6⟩;have V4:=jD U6;clear U6
 by_cases h0:se=0
 case neg =>
  have X6:(se != 0)=true:=jQ h0;have HX:Hid (R=(([],[]),se)):=jD (by rw[<-H7.out,fZ,qR A4.out h0,OG h0]);clear h0;go_wp2_with fail;rw[HX.out];exact OJ (v:=.tuple #[.slice none 0 0,.slice none 0 0,OB se]) (by simp[results,results53,go_sem]) rfl ⟨_,_,rfl,Sl.nil _ _ _ _ _ (OO _),Sl.nil _ _ _ _ _ (OO _),V4.out⟩
 subst h0;obtain⟨Y7,hlen⟩:=nU A4.out;have W5:Hid (∀E,eu (fun _ e=>(bW key e).2.2) none l=E->R=if E≠0 then (([],[]),E) else ((dO key l,eJ key l),0)):=jD fun E hE=>by rw[<-H7.out,fZ,EK A4.out,hE]
 clear Y7;have hi:=Ql kQ;have hj:=Ql If;have hq:=Ql E0;obtain⟨i0,hi,Z9,Y8,U9⟩:=hi;obtain⟨j0,hj,V7,S7,B6⟩:=hj;obtain⟨q0,hq,Y9,V8,W9⟩:=hq;obtain⟨ES,Z4⟩:=eh (eu (fun _ e=>(bW key e).2.2) none l);go_wp2_with fail;refine bV fun w3 e3=>?_
 obtain⟨B,hB⟩:=jE w2.heap.size;have S8:Hid (PartsW B B (.slice none 0 0) w3 (fun _=>none) (fun _=>[]) 0):=jD (by rw[e3,<-hB];exact xy w2.heap.size w2);have ha:Hid (OD w w3):=jD (by rw[e3];exact bA V4.out _);have Ua:B<w3.heap.size:=by rw[e3,<-hB];simp
 have A3:Hid (w.heap.size<=B):=jD (by rw[<-hB];exact V4.out.size);rw[hB];clear e3 hB;obtain⟨WB,Ta⟩:∃q,q=w.heap.size:=⟨_,rfl⟩
 go_loopw [9,26] (fun av i wr=>∃(k n:Nat)(ks:List Vl)(SS:Vl->Option Value)(EE:Vl->List EV),k<=l.length/\i=OB k/\Hid (n<=k/\ks.length<=k)/\Hid (wr.ownsRow B 27 3 av ks.length (bS ks))/\Hid (PartsW B B av wr SS EE n)/\Hid (KeysP key (l.take k) ks EE/\eu (fun _ e=>(bW key e).2.2) (jw l k) (l.drop k)=ES/\OD w wr/\w3.heap.size<=wr.heap.size)) (fun _ i _=>l.length-(intOf i).toNat)
 case atStart=>exact⟨0,0,[],_,_,OO _,rfl,jD ⟨OI _,OI _⟩,jD ⟨rfl,.inl ⟨rfl,rfl⟩⟩,S8,jD ⟨D4 key,Z4.out,ha.out,OI _⟩⟩
 case round =>
  obtain⟨k,n,ks,SS,EE,hk,rfl,r',s',hP,hI⟩:=hrel;have hb:=hI.out.2.2.1;obtain⟨Ar,cr,rfl⟩:=bw s'.out;obtain⟨q',G2⟩:∃q,q=ks.length:=⟨_,rfl⟩;have N':=jD G2;rw[<-G2]at s' hP r' ⊢;have va:=r'.out;clear G2;have X7:=hI.out.2.2.2
  by_cases T4:k<l.length
  ·have H9:(k:Int)<(l.length:Int):=by omega
   obtain⟨b,o,rfl,ve,V2,d0,d1,d2,d3,d4⟩:=S9.out k l[k] (OH T4);have hg:=jD (OH T4);have U1:l[k]∈l:=OX T4;obtain⟨x,hx⟩:∃a,a=l[k]:=⟨_,rfl⟩;rw[<-hx]at hg V2 d0 d1 d2 d3 U1;clear hx;have HM:=jD U1;have X3:=jD V2;obtain⟨Av,cv,rfl,-⟩:=V2;have U8:b<w.heap.size:=OV w ⟨b,_,none⟩ d0;replace d0:=aa hb d0;replace d1:=aa hb d1;replace d2:=aa hb d2;replace d3:=aa hb d3;replace d4:=aa hb d4;have xa:b<wr.heap.size:=OT U8 hb.size;obtain⟨⟨I,ok,er⟩,hQ⟩:∃r,bW key x=r:=⟨_,rfl⟩;have HC:=jD (fun(W:World)(hW:OD wr W)=>EY key x _ _ W (HK.out.stays ic (ae hb hW)) (X3.out.stays aG (ae hb hW)));rw[hQ]at HC;unfold cM at HC;have HQ:=jD hQ;clear hQ U1;go_wp2_with fail;refine (HC.out _ ?_).mono ?_
   ·exact jB
   unfold Bi vlV;rintro e w4 ⟨rfl,B5⟩;have p':Hid (OD wr w4):=jD (ae (by exact jB) B5);have W7:Hid (OD w w4):=jD (ae hb p'.out);have T3:Hid (w4.heap[wr.heap.size]?=some (.cells [.int .i64 x.src,.int .i64 x.sq,.int .i64 x.ty,.int .i64 x.tm,.slice Av x.vals.length cv].toArray 71 (0,0))):=jD (aw B5 (ax _ _ _ rfl));clear B5 d0 d1 d2 d3 d4
   by_cases hz:er=0
   case neg =>
    have HX:Hid (R=(([],[]),er)):=jD (by
     have h5:=nN hg.out hI.out.2.1 (by rw[HQ.out]) hz;rw[W5.out _ Z4.out,<-h5,OG hz])
    have ya:(er != 0)=true:=jQ hz;clear hz;go_wp2_with fail;rw[HX.out];exact OJ (v:=.tuple #[.slice none 0 0,.slice none 0 0,OB er]) (by simp[results,results53,go_sem]) rfl ⟨_,_,rfl,Sl.nil _ _ _ _ _ (OO _),Sl.nil _ _ _ _ _ (OO _),bA W7.out _⟩
   subst hz;have H5:=jD (uZ hg.out hI.out.2.1 (by rw[HQ.out]));have P4:=jD (dz hg.out);have W3:Hid (jM I):=jD (by have h:=Dk (key:=key) (U7.out x HM.out);rw[HQ.out]at h;exact h);have Z5:=jD (W4.out x HM.out)
   cases ok with
   | false =>
    have R':=jD (ae p'.out (ay w4 (.cells #[.int .i64 I.kind,.int .i64 I.num,.string I.text] 27 (0,0))));go_wp2_with fail;refine⟨⟨k+1,n,ks,SS,EE,by omega,by go_num,jD (by have:=r'.out;have:=N'.out;omega),jD (by rw[<-N'.out];exact aF s'.out R'.out),jD (hP.out.grow R'.out),jD ⟨by rw[P4.out];exact hI.out.1.skip (by rw[HQ.out]),H5.out,ae hb R'.out,OP X7 R'.out.size⟩⟩,by simp[intOf];omega⟩
   | true =>
    obtain⟨lk,G1⟩:=CE w4 W3.out;have H6:=jD G1;have X4:=ae p'.out (ay w4 (.cells #[.int .i64 I.kind,.int .i64 I.num,.string I.text] 27 (0,0)));have R':=jD X4;have B3:=hP.out.grow X4;obtain⟨Ax,cx,U2⟩:=B3.len I;have U5:=B3.map.look Db uX oZ G1;rw[U2]at U5;unfold vlV at U5;have Z:=jD U2;obtain⟨ne,B4⟩:∃q,q=(EE I).length:=⟨_,rfl⟩;rw[<-B4]at U5 Z;have T':=jD B4;have X2:=jD B3;clear G1 X4 B3 U2 B4;have Aa:=jD (rfl:w.heap.size=w.heap.size)
    by_cases h0:ne=0
    ·have X6:((ne:Int)==0)=true:=jQ h0;have HZ:=jD h0;clear h0;go_wp2_with (at_builtin;refine fb _ rfl (.tmp 47) (.tmp 49) 59 rfl B 27 i0 _ 3 32 underlying59 hi Z9 Y8 U9 rfl dc (.slice Ar q' cr) q' (bS ks) rfl (aF s'.out (ae R'.out (ay _ _))) (some ⟨w4.heap.size+1,0,none⟩) 1 1 [OB I.kind,OB I.num,.string I.text] rfl (gk _ [OB I.kind,OB I.num,.string I.text] _ 1 3 _ jS rfl (by intro u hu;simp only[O7,Pw,Px]at hu;rcases hu with rfl|rfl|rfl<;>rfl)) (by unfold maxLen;have:=r'.out;omega) (by have:=r'.out;omega) (by simp;have:=p'.out.size;omega) ?_;intro v8 w8 n' Q' H0);obtain⟨A8,c8,rfl⟩:=bw n';refine bV fun wq eq=>?_
     rw[<-eq]at n' Q';have S5:∀g,(Value.slice Ar q' cr).ownBlock=some g->B<=g/\g<wr.heap.size:=fun g c'=>ao s'.out c'
     have T9:=Q'.size;simp only[World.size_alloc]at T9;have f':wq.heap[wr.heap.size]?=_:=(Q'.block _ (by simp;have:=aX T3.out;omega) (fun e=>by have:=(S5 _ e.symm).2;omega)).trans (aI (aI T3.out));have m':wq.heap[w4.heap.size]?=some (.cells [.int .i64 I.kind,.int .i64 I.num,.string I.text].toArray 27 (0,0)):=(Q'.block _ (by simp;omega) (fun e=>by have:=(S5 _ e.symm).2;have:=p'.out.size;omega)).trans (aI (ax _ _ _ rfl));have T1:=jD ((X2.out.grow (ay _ _)).keyApp Q' H0);have Y1:=jD n';have K2:Hid (OD w wq):=jD ((ae hb (ae R'.out (ay _ _))).trans (aB Q' (by have:=hb.size;have:=p'.out.size;simp;omega) (fun g e=>by have:=(S5 g e).1;have:=A3.out;omega)));have B8:w3.heap.size<=wq.heap.size:=by have:=p'.out.size;omega
     obtain⟨Y,Z'⟩:∃q,q=w4.heap.size:=⟨_,rfl⟩;obtain⟨X,Y0⟩:∃q,q=wr.heap.size:=⟨_,rfl⟩;rw[<-Z']at m';rw[<-Y0]at f';have I':X<wq.heap.size:=aX f';have P':Y<wq.heap.size:=aX m';have X0:Hid (∀g,(Value.slice Ax ne cx).ownBlock=some g->g<X/\g<Y/\g≠B):=jD fun g c'=>by
      exact ubg
     have S2:Hid (ne<=k):=jD (by
      have h:=congrArg List.length (hI.out.1.evs I);rw[OL,<-T'.out]at h;have h2:=QF (dH key I) (l.take k);rw[PB]at h2;omega)
     have H':Hid (X≠B/\Y≠B):=jD (by have:=p'.out.size;omega);have M3:Hid (ks++[I]=if (EE I).length=0 then ks++[I] else ks):=jD (by rw[<-T'.out,OG HZ.out]);rw[<-Z',<-Y0];clear eq Z' Y0 Q' n' H0;have A1:=ab f' 0;have C0:=ab f' 1;have U0:=ab f' 2;have S0:=ab f' 3;have C1:=ab f' 4;have V0:=ab m' 0;have E1:=ab m' 1;have Z0:=ab m' 2;simp only[Q5,QC]at A1 C0 U0 S0 C1 V0 E1 Z0;have h':∀W,W.heap[X]?=wq.heap[X]?->W.heap[Y]?=wq.heap[Y]?->(fun W:World=>OC W X 0 (OB x.src)/\OC W X 1 (OB x.sq)/\OC W X 2 (OB x.ty)/\OC W X 3 (OB x.tm)/\OC W X 4 (.slice Av x.vals.length cv)/\OC W Y 0 (OB I.kind)/\OC W Y 1 (OB I.num)/\OC W Y 2 (.string I.text)) W:=fun W h1 h2=>⟨(Pf (a:=⟨X,0,none⟩) h1).trans A1,(Pf (a:=⟨X,1,none⟩) h1).trans C0,(Pf (a:=⟨X,2,none⟩) h1).trans U0,(Pf (a:=⟨X,3,none⟩) h1).trans S0,(Pf (a:=⟨X,4,none⟩) h1).trans C1,(Pf (a:=⟨Y,0,none⟩) h2).trans V0,(Pf (a:=⟨Y,1,none⟩) h2).trans E1,(Pf (a:=⟨Y,2,none⟩) h2).trans Z0⟩
     clear f' m' A1 C0 U0 S0 C1 V0 E1 Z0;refine PM ?_;refine PQ (S:=(fun W:World=>OC W X 0 (OB x.src)/\OC W X 1 (OB x.sq)/\OC W X 2 (OB x.ty)/\OC W X 3 (OB x.tm)/\OC W X 4 (.slice Av x.vals.length cv)/\OC W Y 0 (OB I.kind)/\OC W Y 1 (OB I.num)/\OC W Y 2 (.string I.text))) kr (h' _ rfl rfl) (fun J=>?_);refine tkH [0,1,2] ?_;refine nxH 3 (fun K hK=>?_)
     focus (go_simp;refine (rt x (.slice Av x.vals.length cv) _ ?_ Z5.out).mono ?_;(focus (exact X3.out.stays aG (ae K2.out jB)));intro e wc V3;obtain⟨uc,rfl,Y',M1⟩:=V3;have k':OD wq wc:=ae (OK _ _).drew M1;obtain⟨Ac,cc,rfl,-⟩:=id Y'.1;have A2:Hid (tW wq.heap.size wc (.slice Ac x.vals.length cc) x.vals):=jD Y';have T2:=jD k';clear Y' M1;unfold cM)
     refine hK.out _ _ (h' _ (k'.block X I') (k'.block Y P')) (fun J=>?_);clear hK K;refine nxH 4 (fun K hK=>?_)
     go_simp
     refine hK.out _ _ (h' _ ((ae k' (ay wc _)).block X I') ((ae k' (ay wc _)).block Y P')) (fun J=>?_);clear hK K;refine nxH 5 (fun K hK=>?_)
     focus (have a':=ae k' (ay wc (.cells [.int .i64 x.src,.int .i64 x.sq,.int .i64 x.ty,.int .i64 x.tm,.slice Ac x.vals.length cc].toArray 71 (0,0)));have B':=T1.out.grow a';obtain⟨w5,st,J',d',W1,t'⟩:=B'.map.entry rz uX oZ Cj H6.out (by have:=r'.out;unfold maxLen;omega);rw[Z.out]at J';unfold vlV at J';have g':=B'.hasKept d' I;rw[Z.out,<-T'.out]at g';have y':=(d'.block X (OT I' a'.size) (fun e=>H'.out.1 (Pn e))).trans (a'.block X I');have u':=(d'.block Y (OT P' a'.size) (fun e=>H'.out.2 (Pn e))).trans (a'.block Y P');have U4:=OP a'.size d'.size;refine oQ (.tmp 51) (.tmp 52) rfl jR jR J' ?_)
     refine hK.out _ _ (h' _ y' u') (fun J=>?_);clear hK K;refine tkH [6,8] ?_;refine nxH 7 (fun K hK=>?_)
     focus ((try (change Oper.wp _ _ _ _ _ _));refine cU _ (.tmp 53) (.tmp 56) 34 rfl B 71 j0 _ 5 56 underlying34 hj V7 S7 B6 rfl dc (.slice Ax ne cx) ne (du (EE I)) jR g' (some ⟨wc.heap.size,0,none⟩) 1 1 [OB x.src,OB x.sq,OB x.ty,OB x.tm,.slice Ac x.vals.length cc] jR (srcG (gk _ [OB x.src,OB x.sq,OB x.ty,OB x.tm,.slice Ac x.vals.length cc] _ 1 5 _ jS rfl (by intro u hu;simp only[O7,Pw,Px]at hu;rcases hu with rfl|rfl|rfl|rfl|rfl<;>rfl)) d' (fun e=>by have h1:=Pn e;have h2:=T2.out.size;omega)) (by unfold maxLen;have:=S2.out;omega) (by have:=S2.out;omega) om ?_;intro v7 w7 i' l' x';obtain⟨A7,c7,rfl⟩:=bw i';have z':=(l'.block X om (fun e=>by have:=(X0.out X e.symm).1;omega)).trans y';have A':=(l'.block Y om (fun e=>by have:=(X0.out Y e.symm).2.1;omega)).trans u';have Y4:=OP U4 l'.size)
     refine hK.out _ _ (h' _ z' A') (fun J=>?_);clear hK K;refine nxH 9 (fun K hK=>?_)
     focus (obtain⟨w9,Z1,j',E'⟩:=t' w7 (.slice A7 (ne+1) c7) (l'.block B W1 (fun e=>(X0.out B e.symm).2.2 rfl));have U':=(j'.block X om (fun e=>H'.out.1 (Pn e))).trans z';have V':=(j'.block Y om (fun e=>H'.out.2 (Pn e))).trans A';refine lC (.tmp 51) (.tmp 59) (.tmp 58) rfl jR jR jR Z1 ?_)
     refine hK.out _ _ (h' _ U' V') (fun J=>?_);clear hK K;refine dn ?_;have F':w5.grownBy w7 ((SS I).getD (.slice none 0 0)).ownBlock:=by rw[Z.out];exact l'
     have C':w7.ownsRow B 71 5 (.slice A7 (ne+1) c7) ((EE I).length+1) (du (EE I)++[OB x.src,OB x.sq,OB x.ty,OB x.tm,.slice Ac x.vals.length cc]):=by rw[<-T'.out];exact i'
     have G':(Value.slice A7 (ne+1) c7).ownBlock=((SS I).getD (.slice none 0 0)).ownBlock\/(Value.slice A7 (ne+1) c7).ownBlock=some w5.heap.size:=by rw[Z.out];exact x'
     have ea:B<=wq.heap.size:=by omega
     have S':∀g,(Value.slice A8 (q'+1) c8).ownBlock=some g->g<wq.heap.size:=fun g c'=>(ao Y1.out c').2
     have V1:=B'.push (x:=I) (y:=x) (u:=.slice Ac x.vals.length cc) (by have:=a'.size;omega) (fun g c'=>OT (S' g c') a'.size) d' F' j' C' G' E' (A2.out.1.stays aG (ay wc _)) (fun g c'=>by
      obtain⟨n1,n2⟩:=A2.out.2 g c';refine⟨by simp;omega,by have:=H'.out;omega,fun e=>by have:=S' g e;omega,fun v' z hz e=>?_⟩;have:=(ao (T1.out.row v' z hz).2.1 e).2;omega)
     have Y3:=jD V1;have K4:=jD (B'.keyRow I d' F' j' (aF Y1.out a'));have Z3:Hid (OD w w9):=jD (by
      have hA:=A3.out;have q0:=(ae K2.out a');have q1:=q0.size;exact ((q0.trans (aB d' om (fun g e=>by injection e with e;omega))).trans (aB l' om (fun g e=>by have:=hP.out.low I (g:=g) (by rw[Z.out];exact e);omega))).trans (aB j' om (fun g e=>by injection e with e;omega)))
     have la:=OP Y4 j'.size;have O2:=jD (hI.out.1.push (y:=x) (x:=I) (by rw[HQ.out]) (by rw[HQ.out]) (.slice Ac x.vals.length cc));rw[<-M3.out,<-P4.out]at O2;clear F' C' G' V1 B' d' l' j' i' x' E' t' J' Z1 g' k' a' y' u' z' A' U' V' h' J;go_wp2_with fail;refine⟨⟨k+1,n+1,(ks++[I]),_,_,by omega,by go_num,jD ⟨by have:=r'.out;omega,by rw[OM,<-N'.out];have:=r'.out;simp;omega⟩,jD (by rw[OM,<-N'.out,gD];exact K4.out),Y3,jD ⟨O2.out,H5.out,Z3.out,by omega⟩⟩,by simp[intOf];omega⟩
    ·have X6:((ne:Int)==0)=false:=jQ h0;have HZ:=jD h0;clear h0;go_wp2_with fail;refine bV fun wq eq=>?_
     have H2:OD w4 wq:=gb eq;have f':=aw H2 T3.out;have m':wq.heap[w4.heap.size]?=some (.cells [.int .i64 I.kind,.int .i64 I.num,.string I.text].toArray 27 (0,0)):=by rw[eq];exact ax _ _ _ rfl
     have T1:=jD (X2.out.grow (show Below _ _ wq by rw[eq];exact OK _ _));have Y1:=jD (aF s'.out (ae p'.out H2));have K2:Hid (OD w wq):=jD (ae W7.out H2);have B8:w3.heap.size<=wq.heap.size:=by have:=p'.out.size;have:=H2.size;omega
     obtain⟨Y,Z'⟩:∃q,q=w4.heap.size:=⟨_,rfl⟩;obtain⟨X,Y0⟩:∃q,q=wr.heap.size:=⟨_,rfl⟩;rw[<-Z']at m';rw[<-Y0]at f';have I':X<wq.heap.size:=aX f';have P':Y<wq.heap.size:=aX m';have X0:Hid (∀g,(Value.slice Ax ne cx).ownBlock=some g->g<X/\g<Y/\g≠B):=jD fun g c'=>by
      exact ubg
     have S2:Hid (ne<=k):=jD (by
      have h:=congrArg List.length (hI.out.1.evs I);rw[OL,<-T'.out]at h;have h2:=QF (dH key I) (l.take k);rw[PB]at h2;omega)
     have H':Hid (X≠B/\Y≠B):=jD (by have:=p'.out.size;omega);have M3:Hid (ks=if (EE I).length=0 then ks++[I] else ks):=jD (by rw[<-T'.out,OF HZ.out]);rw[<-Z',<-Y0];clear eq H2 Z' Y0;have A1:=ab f' 0;have C0:=ab f' 1;have U0:=ab f' 2;have S0:=ab f' 3;have C1:=ab f' 4;have V0:=ab m' 0;have E1:=ab m' 1;have Z0:=ab m' 2;simp only[Q5,QC]at A1 C0 U0 S0 C1 V0 E1 Z0;have h':∀W,W.heap[X]?=wq.heap[X]?->W.heap[Y]?=wq.heap[Y]?->(fun W:World=>OC W X 0 (OB x.src)/\OC W X 1 (OB x.sq)/\OC W X 2 (OB x.ty)/\OC W X 3 (OB x.tm)/\OC W X 4 (.slice Av x.vals.length cv)/\OC W Y 0 (OB I.kind)/\OC W Y 1 (OB I.num)/\OC W Y 2 (.string I.text)) W:=fun W h1 h2=>⟨(Pf (a:=⟨X,0,none⟩) h1).trans A1,(Pf (a:=⟨X,1,none⟩) h1).trans C0,(Pf (a:=⟨X,2,none⟩) h1).trans U0,(Pf (a:=⟨X,3,none⟩) h1).trans S0,(Pf (a:=⟨X,4,none⟩) h1).trans C1,(Pf (a:=⟨Y,0,none⟩) h2).trans V0,(Pf (a:=⟨Y,1,none⟩) h2).trans E1,(Pf (a:=⟨Y,2,none⟩) h2).trans Z0⟩
     clear f' m' A1 C0 U0 S0 C1 V0 E1 Z0;refine PM ?_;refine PQ (S:=(fun W:World=>OC W X 0 (OB x.src)/\OC W X 1 (OB x.sq)/\OC W X 2 (OB x.ty)/\OC W X 3 (OB x.tm)/\OC W X 4 (.slice Av x.vals.length cv)/\OC W Y 0 (OB I.kind)/\OC W Y 1 (OB I.num)/\OC W Y 2 (.string I.text))) kr (h' _ rfl rfl) (fun J=>?_);refine tkH [0,1,2] ?_;refine nxH 3 (fun K hK=>?_)
     focus (go_simp;refine (rt x (.slice Av x.vals.length cv) _ ?_ Z5.out).mono ?_;(focus (exact X3.out.stays aG (ae K2.out jB)));intro e wc V3;obtain⟨uc,rfl,Y',M1⟩:=V3;have k':OD wq wc:=ae (OK _ _).drew M1;obtain⟨Ac,cc,rfl,-⟩:=id Y'.1;have A2:Hid (tW wq.heap.size wc (.slice Ac x.vals.length cc) x.vals):=jD Y';have T2:=jD k';clear Y' M1;unfold cM)
     refine hK.out _ _ (h' _ (k'.block X I') (k'.block Y P')) (fun J=>?_);clear hK K;refine nxH 4 (fun K hK=>?_)
     go_simp
     refine hK.out _ _ (h' _ ((ae k' (ay wc _)).block X I') ((ae k' (ay wc _)).block Y P')) (fun J=>?_);clear hK K;refine nxH 5 (fun K hK=>?_)
     focus (have a':=ae k' (ay wc (.cells [.int .i64 x.src,.int .i64 x.sq,.int .i64 x.ty,.int .i64 x.tm,.slice Ac x.vals.length cc].toArray 71 (0,0)));have B':=T1.out.grow a';obtain⟨w5,st,J',d',W1,t'⟩:=B'.map.entry rz uX oZ Cj H6.out (by have:=r'.out;unfold maxLen;omega);rw[Z.out]at J';unfold vlV at J';have g':=B'.hasKept d' I;rw[Z.out,<-T'.out]at g';have y':=(d'.block X (OT I' a'.size) (fun e=>H'.out.1 (Pn e))).trans (a'.block X I');have u':=(d'.block Y (OT P' a'.size) (fun e=>H'.out.2 (Pn e))).trans (a'.block Y P');have U4:=OP a'.size d'.size;refine oQ (.tmp 51) (.tmp 52) rfl jR jR J' ?_)
     refine hK.out _ _ (h' _ y' u') (fun J=>?_);clear hK K;refine tkH [6,8] ?_;refine nxH 7 (fun K hK=>?_)
     focus ((try (change Oper.wp _ _ _ _ _ _));refine cU _ (.tmp 53) (.tmp 56) 34 rfl B 71 j0 _ 5 56 underlying34 hj V7 S7 B6 rfl dc (.slice Ax ne cx) ne (du (EE I)) jR g' (some ⟨wc.heap.size,0,none⟩) 1 1 [OB x.src,OB x.sq,OB x.ty,OB x.tm,.slice Ac x.vals.length cc] jR (srcG (gk _ [OB x.src,OB x.sq,OB x.ty,OB x.tm,.slice Ac x.vals.length cc] _ 1 5 _ jS rfl (by intro u hu;simp only[O7,Pw,Px]at hu;rcases hu with rfl|rfl|rfl|rfl|rfl<;>rfl)) d' (fun e=>by have h1:=Pn e;have h2:=T2.out.size;omega)) (by unfold maxLen;have:=S2.out;omega) (by have:=S2.out;omega) om ?_;intro v7 w7 i' l' x';obtain⟨A7,c7,rfl⟩:=bw i';have z':=(l'.block X om (fun e=>by have:=(X0.out X e.symm).1;omega)).trans y';have A':=(l'.block Y om (fun e=>by have:=(X0.out Y e.symm).2.1;omega)).trans u';have Y4:=OP U4 l'.size)
     refine hK.out _ _ (h' _ z' A') (fun J=>?_);clear hK K;refine nxH 9 (fun K hK=>?_)
     focus (obtain⟨w9,Z1,j',E'⟩:=t' w7 (.slice A7 (ne+1) c7) (l'.block B W1 (fun e=>(X0.out B e.symm).2.2 rfl));have U':=(j'.block X om (fun e=>H'.out.1 (Pn e))).trans z';have V':=(j'.block Y om (fun e=>H'.out.2 (Pn e))).trans A';refine lC (.tmp 51) (.tmp 59) (.tmp 58) rfl jR jR jR Z1 ?_)
     refine hK.out _ _ (h' _ U' V') (fun J=>?_);clear hK K;refine dn ?_;have F':w5.grownBy w7 ((SS I).getD (.slice none 0 0)).ownBlock:=by rw[Z.out];exact l'
     have C':w7.ownsRow B 71 5 (.slice A7 (ne+1) c7) ((EE I).length+1) (du (EE I)++[OB x.src,OB x.sq,OB x.ty,OB x.tm,.slice Ac x.vals.length cc]):=by rw[<-T'.out];exact i'
     have G':(Value.slice A7 (ne+1) c7).ownBlock=((SS I).getD (.slice none 0 0)).ownBlock\/(Value.slice A7 (ne+1) c7).ownBlock=some w5.heap.size:=by rw[Z.out];exact x'
     have ea:B<=wq.heap.size:=by omega
     have S':∀g,(Value.slice Ar q' cr).ownBlock=some g->g<wq.heap.size:=fun g c'=>(ao Y1.out c').2
     have V1:=B'.push (x:=I) (y:=x) (u:=.slice Ac x.vals.length cc) (by have:=a'.size;omega) (fun g c'=>OT (S' g c') a'.size) d' F' j' C' G' E' (A2.out.1.stays aG (ay wc _)) (fun g c'=>by
      obtain⟨n1,n2⟩:=A2.out.2 g c';refine⟨by simp;omega,by have:=H'.out;omega,fun e=>by have:=S' g e;omega,fun v' z hz e=>?_⟩;have:=(ao (T1.out.row v' z hz).2.1 e).2;omega)
     have Y3:=jD V1;have K4:=jD (B'.keyRow I d' F' j' (aF Y1.out a'));have Z3:Hid (OD w w9):=jD (by
      have hA:=A3.out;have q0:=(ae K2.out a');have q1:=q0.size;exact ((q0.trans (aB d' om (fun g e=>by injection e with e;omega))).trans (aB l' om (fun g e=>by have:=hP.out.low I (g:=g) (by rw[Z.out];exact e);omega))).trans (aB j' om (fun g e=>by injection e with e;omega)))
     have la:=OP Y4 j'.size;have O2:=jD (hI.out.1.push (y:=x) (x:=I) (by rw[HQ.out]) (by rw[HQ.out]) (.slice Ac x.vals.length cc));rw[<-M3.out,<-P4.out]at O2;clear F' C' G' V1 B' d' l' j' i' x' E' t' J' Z1 g' k' a' y' u' z' A' U' V' h' J;go_wp2_with fail;refine⟨⟨k+1,n+1,ks,_,_,by omega,by go_num,jD ⟨by have:=r'.out;omega,by have:=r'.out;have:=N'.out;omega⟩,jD (by rw[<-N'.out];exact K4.out),Y3,jD ⟨O2.out,H5.out,Z3.out,by omega⟩⟩,by simp[intOf];omega⟩
  ·have H9:¬(k:Int)<(l.length:Int):=by omega
   obtain rfl:k=l.length:=by omega
   have H3:=GG (OI _) hI.out.2.1;have HR:=jD (W5.out _ Z4.out);rw[<-H3,OF jS]at HR;have hK:=hI.out.1;rw[Pp]at hK;have X8:=jD hK;have V6:=jD (vM ks (.slice Ar q' cr) B wr (by rw[<-N'.out];exact s'.out) (by rw[<-N'.out];have:=r'.out;omega));have W8:=jD (fun(Y6:List Vl)(hp:Y6.Perm ks)(hs:Y6.Pairwise (fun a b=>¬vlC b a<0))=>hK.sorted hp hs);have T8:Hid (n<=4096):=jD (by have:=r'.out;omega);clear H3 hK;go_wp2_with fail;refine V6.out.mono ?_;rintro e w5 ⟨rfl,es,hp,U3,S3,V5⟩;have Z6:es=dO key l:=W8.out es hp (by first|exact U3|exact U3.imp fun h=>Int.not_lt.1 h);have X2:=jD (hP.out.keyApp V5 (.inl rfl));have W6:es.length=q':=by rw[N'.out];exact hp.length_eq
   have R':Hid (OD w w5):=jD (hb.trans (aB V5 hb.size (fun g e=>by have:=(ao s'.out e).1;have:=A3.out;omega)));have T5:=jD Z6;have K1:=jD W6;have S6:=jD S3;obtain⟨Ae,ce,V2,e1,e2,Y2⟩:=id S3;injection V2 with q1 q2 q3;subst q1 q3;have Z7:=jD Y2;clear hp U3 S3 V5 Z6 W6 Y2 e1 e2 q2;have W3:Hid (∀v∈es,jM v):=jD (fun v hv=>by
    rw[T5.out]at hv;obtain⟨e,he,h1,rfl⟩:=((kT key l).2 v).1 hv;exact Dk (U7.out e he))
   go_wp2_with fail;obtain⟨wa,rfl⟩:∃wa:World,wa=wr:=⟨_,rfl⟩
   go_loopw [15,65] (fun av i wx=>∃k:Nat,k<=q'/\i=OB k/\Hid (wx.ownsRow w5.heap.size 34 1 av k ((es.take k).map fun v=>(SS v).getD (.slice none 0 0)))/\Hid (OD w5 wx)) (fun _ i _=>q'-(intOf i).toNat)
   case atStart=>exact⟨0,OO _,rfl,jD ⟨rfl,.inl ⟨rfl,rfl⟩⟩,jD (OK _ _)⟩
   case round =>
    obtain⟨j,hj,rfl,F1,D'⟩:=hrel;obtain⟨Ao,co,rfl⟩:=bw F1.out
    by_cases Wa:j<q'
    ·have V9:(j:Int)<(q':Int):=by omega
     have C2:es[j]?=some (es[j]'(by have:=K1.out;omega)):=OH (by have:=K1.out;omega);obtain⟨y,hy⟩:∃y,y=es[j]'(by have:=K1.out;omega):=⟨_,rfl⟩;rw[<-hy]at C2;obtain⟨bk,ok,rfl,y0,y1,y2⟩:=Z7.out j y C2;have Y5:=W3.out y (Pb C2);have Z8:bk<w5.heap.size:=OV w5 ⟨bk,_,none⟩ y0;have ta:bk<wr.heap.size:=OT Z8 D'.out.size;replace y0:=aa D'.out y0;replace y1:=aa D'.out y1;replace y2:=aa D'.out y2;have HG:=jD C2;obtain⟨lk,G1⟩:=CE wr Y5;have Q3:=X2.out.grow (ae D'.out (ay wr (.cells #[.int .i64 y.kind,.int .i64 y.num,.string y.text] 27 (0,0))));have S4:=Q3.map.look Db uX oZ G1;obtain⟨Ay,cy,Z2⟩:=Q3.len y;rw[Z2]at S4;obtain⟨ny,X5⟩:∃q,q=(EE y).length:=⟨_,rfl⟩;rw[<-X5]at S4 Z2;unfold vlV at S4;have ca:=jD Z2;have Va:j<=4096:=by have:=K1.out;have:=T8.out;omega
     clear hy C2 Y5 G1 Q3 Z2 X5;go_wp2_with (at_builtin;refine fb _ rfl (.tmp 69) (.tmp 73) 63 rfl w5.heap.size 34 q0 _ 1 24 underlying63 hq Y9 V8 W9 rfl dc (.slice Ao j co) j _ rfl (aF F1.out (ae (ay wr _) (ay _ _))) (some ⟨wr.heap.size+1,0,none⟩) 1 1 [.slice Ay ny cy] rfl (gk _ [.slice Ay ny cy] _ 1 1 _ jS rfl (by intro u hu;simp only[O7,Pw,Px]at hu;rcases hu with rfl;rfl)) (by unfold maxLen;omega) om (by simp;have:=D'.out.size;omega) ?_;intro v8 w8 n' Q' H0);have X9:OD w5 w8:=(ae D'.out (ae (ay wr _) (ay _ _))).trans (aB Q' (by simp;have:=D'.out.size;omega) (fun g h=>(ao F1.out h).1));refine⟨⟨j+1,by omega,by go_num,jD ?_,jD X9⟩,by simp[intOf];omega⟩;rw[dz HG.out,Pq];simp only[OU,P6,ca.out];exact n'
    ·have V9:¬(j:Int)<(q':Int):=by omega
     have K3:es.take j=es:=QK (by have:=K1.out;omega);have K0:=F1.out;rw[K3]at K0;have K5:Sl sB 1 wr (.slice Ao j co) (es.map fun v=>(EE v).map (·.1)):=fj (AO (X2.out.grow D'.out) es) (OK _ _) (by rw[OL];have:es.length=j:=by { have:=K1.out;omega };rw[this];exact K0);have heq:(es.map fun v=>(EE v).map (·.1))=eJ key l:=by
      unfold eJ;rw[<-T5.out];exact QY fun v _=>X8.out.evs v
     rw[heq]at K5;have ka:=jD K5;have da:=jD (S6.out.stays aG D'.out);clear K5 heq K0 K3;go_wp2_with fail;rw[HR.out];exact OJ (v:=.tuple #[.slice Ar q' cr,.slice Ao j co,OB 0]) (by simp[results,results53,go_sem]) rfl ⟨_,_,rfl,by rw[<-T5.out];exact da.out,ka.out,ae R'.out D'.out⟩
end Go.Proofs.YteemngnialjaiaaGreatDoor
