/- Part. -/
import Derived.Test.YtbjicljfjkdeeaaGreatDoorQ41
set_option maxRecDepth 100000
set_option maxHeartbeats 16000000
set_option linter.unusedVariables false
set_option linter.unusedSimpArgs false
namespace Go.Proofs.YtbjicljfjkdeeaaGreatDoor
open Go.Proofs.Tryz Go.RowKit
section
open Go.RowKit Go.Lib
attribute [local go_sem] Oper.semAt_some
theorem JJ {W W':World} (z:∀(b p:Nat) (v:Value),W.cell? ⟨b,p,none⟩=some v->W'.cell? ⟨b,p,none⟩=some v) {v:Value} {l:List Bnd} (h:bD W v l):bD W' v l:=by
 obtain⟨A,c,rfl,I,G,h3⟩:=h;refine⟨A,c,rfl,I,G,fun k x hx=>?_⟩;obtain⟨b,o,e,J,O,Z,c3⟩:=h3 k x hx;exact⟨b,o,e,z _ _ _ J,z _ _ _ O,z _ _ _ Z,z _ _ _ c3⟩
theorem rG {w w':World} {base:Nat} {e:TypeId} {sz n:Nat} {v:Value} {xs:List Value} (h:w.ownsRow base e sz v n xs) {row:Option Nat} (I:w.grownBy w' row) (hr:∀r,row=some r->∃o:Obj,w.heap[r]?=some o/\o.isCells=false):w'.ownsRow base e sz v n xs:=by
 refine aT h fun g z=>I.block g (ag h z).2 fun J=>?_
 obtain⟨o,G,O⟩:=hr g J.symm;rcases h.2 with ⟨rfl,_⟩|⟨g',cap,cur,rfl,_,hh,_⟩
 ·simp[Value.ownBlock]at z
 ·have:g'=g:=by simpa [Value.ownBlock] using z
  subst this;rw[hh]at G
  cases G
  cases O
theorem MW.kept {B:Nat} {W W':World} {I:Value} {ms:List MV} (h:MW B W I ms) {row:Option Nat} (G:W.grownBy W' row) (hr:∀r,row=some r->∃o:Obj,W.heap[r]?=some o/\o.isCells=false):MW B W' I ms :=
 ⟨rG h.row G hr,fun e he=>⟨JJ (fun _ _ _ J=>cell_kept J G hr) (h.bnds e he).1,fun g z=>⟨((h.bnds e he).2 g z).1,ME ((h.bnds e he).2 g z).2.1 G.size,((h.bnds e he).2 g z).2.2⟩⟩⟩
theorem MW.box {B C:Nat} {W:World} {G:Value} {ms:List MV} (h:MW B W G ms) (I:C<B) (u:Value):MW B (W.setCell ⟨C,0,none⟩ u) G ms:=by
 refine⟨aT h.row fun g z=>Nj W ⟨C,0,none⟩ u g (by have:=(ag h.row z).1;simp only;omega),fun e he=>⟨oY (h.bnds e he).1 fun g z=>Nj W ⟨C,0,none⟩ u g (by have:=((h.bnds e he).2 g z).1;simp only;omega),fun g z=>?_⟩⟩;have:=(h.bnds e he).2 g z;exact⟨this.1,jQ this.2.1,this.2.2⟩
theorem MW.apps {B N:Nat} {I w7:World} {Z v7 v2:Value} {ms G:List MV} (h:MW B I Z ms) (hn:MatsNew N I v2 G) (d':B<=N) (a':∀g,Z.ownBlock=some g->g<N)
  (J:w7.ownsRow B 49 1 v7 (ms.length+G.length) (ms.map (·.2)++G.map (·.2))) (hg:I.grownBy w7 Z.ownBlock) (O:v7.ownBlock=Z.ownBlock\/v7.ownBlock=some I.heap.size) :
  MW B w7 v7 (ms++G):=by
 have c':=hg.size;refine⟨by rw[Mw,NY];exact J,fun e he=>?_⟩;have h0:bD I e.2 e.1/\∀g,e.2.ownBlock=some g->B<=g/\g<I.heap.size/\some g≠Z.ownBlock:=by
  rcases List.mem_append.1 he with he|he
  ·exact h.bnds e he
  ·refine⟨(hn.2 e he).1,fun g z=>?_⟩;have h1:=(hn.2 e he).2 g z;exact⟨by omega,h1.2,fun e2=>by have:=a' g e2.symm;omega⟩
 refine⟨oY h0.1 fun g z=>hg.block g (h0.2 g z).2.1 (h0.2 g z).2.2,fun g z=>?_⟩;have h1:=h0.2 g z;refine⟨h1.1,by omega,?_⟩;rcases O with hl|hl
 ·rw[hl];exact h1.2.2
 ·rw[hl];simp;omega
theorem MatsNew.src {N:Nat} {w:World} {A:Option Addr} {n c:Nat} {ms:List MV} (h:MatsNew N w (.slice A n c) ms):Src w A n 1 (ms.map (·.2)):=by
 obtain⟨⟨A',c',e,h1,h2,Z⟩,h4⟩:=h;injection e with J I e3;subst J I e3;refine⟨by simp,fun u hu=>?_,fun G=>?_⟩
 ·obtain⟨e,he,rfl⟩:=List.mem_map.1 hu;obtain⟨Ae,ce,hv,-⟩:=(h4 e he).1;rw[hv];rfl
 ·obtain⟨b,o,O,-,-,-⟩:=Z 0 ms[0] (Mq G);refine⟨b,o,O,fun j u hj=>?_⟩;rw[MA]at hj;obtain⟨e,he,rfl⟩:=Option.map_eq_some_iff.1 hj;obtain⟨b',o',z,-,-,hc⟩:=Z j e he;rw[O]at z;injection z with z;injection z with J I;subst J I;exact hc
def tL (q:Qry) (l:List Evt):List (List Bnd) × Int:=if (aN q l).2≠0 then ([],(aN q l).2) else (fa (bG q.pat (aN q l).1.2),0)
def PmRet (w:World) (r:List (List Bnd) × Int) (e:Ending) (W:World):Prop:=∃v,e=.returned (.tuple #[v,Mk r.2])/\il W v r.1/\Mm w W
def PmNew (w:World) (r:List (List Bnd) × Int) (e:Ending) (W:World):Prop:=∃v ms,e=.returned (.tuple #[v,Mk r.2])/\(ms.map (·.1)=r.1/\MatsNew w.heap.size W v ms)/\Mm w W
theorem MatsNew.nil (B:Nat) (W:World):MatsNew B W (.slice none 0 0) []:=⟨⟨none,0,rfl,Mt _,Mu _,fun k e h=>by simp at h⟩,fun e h=>by simp at h⟩
theorem MW.new {B N:Nat} {W:World} {I:Value} {ms:List MV} (h:MW B W I ms) (J:N<=B):MatsNew N W I ms:=by
 have h1:∀u∈ms.map (·.2),u.oneCell'=true:=fun u hu=>by
  obtain⟨e,he,rfl⟩:=List.mem_map.1 hu;obtain⟨A,c,hv,-⟩:=(h.bnds e he).1;rw[hv];rfl
 obtain⟨A,c,rfl,O,h3,Z⟩:=dQ h.row h1;refine⟨⟨A,c,rfl,O,h3,fun k e he=>?_⟩,fun e he=>⟨(h.bnds e he).1,fun g G=>⟨Mx J ((h.bnds e he).2 g G).1,((h.bnds e he).2 g G).2.1⟩⟩⟩;obtain⟨b,o,rfl,z⟩:=Z.2.2 (by have:=(List.getElem?_eq_some_iff.1 he).1;omega);exact⟨b,o,rfl,Mx J (ag h.row rfl).1,(ag h.row rfl).2,z k _ (by rw[MA,he];rfl)⟩
def Km (w z h:World) (G:Nat) (p:Pt) (L:List (Vl × List Evt)) (k:Nat) (W:World):Prop :=
 (∃u ms,Boxed W G 37 u/\MW h.heap.size W u ms/\ms.map (·.1)=(L.take k).flatMap (fun s=>cI s.2 p))/\Mm z W/\Mm w W/\h.heap.size<=W.heap.size
theorem D8 {w I O:World} {b9 B:Nat} {p:Pt} {L:List (Vl × List Evt)} (hw:w.heap.size<=B) (h:I.heap.size<=B):OwnFrom B (Km w I O b9 p L) :=
 fun _ _ _ _ ⟨⟨u,ms,Z,J,h3⟩,z,G,h6⟩ hg hr=>⟨⟨u,ms,bS Z hg (fun r e=>(hr r e).2),J.kept hg (fun r e=>(hr r e).2),h3⟩,gS z z.size hg (fun r e=>Mx h (hr r e).1),gS G G.size hg (fun r e=>Mx hw (hr r e).1),Mx h6 hg.size⟩
def AxM (T:Array Value) (x:Vl × List Evt) (a:Array Value) (h:Act) (_:World):Prop :=
 ∃u,a=#[vlV x.1,u]/\h={ tmps:=((T.setIfInBounds 27 (vlV x.1)).setIfInBounds 28 u).setIfInBounds 11 u,defers:=[] }
theorem Jc (T:Array Value) (B:Nat) (x:Vl × List Evt) (a:Array Value) (z:Act):OwnFrom B (fun (_:Unit) W=>AxM T x a z W):=fun _ _ _ _ h _ _=>h
theorem rP {B:Nat} {w w':World} {base:Nat} {e:TypeId} {sz n:Nat} {v:Value} {xs:List Value} (h:w.ownsRow base e sz v n xs) (z:w.grownBy w' v.ownBlock):KeepsFrom B w w':=by
 refine⟨z.size,fun k o _ hk I=>(z.block k (Array.getElem?_eq_some_iff.1 hk).1 fun G=>?_).trans hk⟩;rcases h.2 with ⟨rfl,_⟩|⟨g',cap,cur,rfl,_,hh,_⟩
 ·simp[Value.ownBlock]at G
 ·have:k=g':=by simpa [Value.ownBlock] using G
  subst this;rw[hh]at hk
  cases hk
  cases I
theorem C5 {key:List Int} {l:List Evt} (h:(dz key l).2=0):bH l=0/\(dz key l).1=(cA key l,bV key l):=by
 unfold dz at h ⊢
 split at h
 ·next h0=>exact absurd h h0
 ·next h0 =>
  rw[Mo h0];refine⟨?_,rfl⟩
  by_cases hs:bH l=0
  ·exact hs
  ·exact absurd (lG rfl hs▸hs) h0
theorem tR {q:Qry} {l:List Evt} (h:(aN q l).2=0):fq q.pat=0/\bH l=0/\(aN q l).1=(cA q.key l,bV q.key l):=by
 unfold aN at h ⊢
 split at h
 ·next h0=>exact absurd h h0
 ·next h0 =>
  rw[Mo h0];obtain⟨G,z⟩:=C5 h;exact⟨jQ h0,G,z⟩
theorem Fc {key:List Int} {l s:List Evt} (h:s∈bV key l):s.length<=l.length:=by
 obtain⟨v,_,rfl⟩:=List.mem_map.1 h;exact Ow _ _
theorem JL {α β:Type} {a:List α} {b:List β} (h:b.length=a.length):(a.zip b).map (·.2)=b:=by
 rw[List.map_snd_zip om]
theorem qI {p:Pt} {ks:List Vl} {ps:List (List Evt)} (h:ps.length=ks.length):(ks.zip ps).flatMap (fun s=>cI s.2 p)=bG p ps:=by
 unfold bG
 conv=>rhs;rw[<-JL h]
 rw[List.flatMap_map]
theorem sL {p:Pt} {L:List (Vl × List Evt)} {k:Nat} {y:Vl × List Evt} (h:L[k]?=some y):(L.take (k+1)).flatMap (fun s=>cI s.2 p)=(L.take k).flatMap (fun s=>cI s.2 p)++cI y.2 p:=by
 rw[bK h,OK];simp
theorem JH {p:Pt} {L:List (Vl × List Evt)} (k:Nat):((L.take k).flatMap (fun s=>cI s.2 p)).length<=(L.flatMap (fun s=>cI s.2 p)).length:=by
 conv=>rhs;rw[<-OB k L,OK,Mw]
 omega
theorem ud {M:List (List Bnd)} (G:M.Nodup) {es es':List MV} (he:es.map (·.1)=M) (hp:es'.Perm es) (z:(es'.map (·.1)).Pairwise (fun a b=>¬bsC b a<0)):es'.map (·.1)=fa M:=by
 have h:(es'.map (·.1)).Perm M:=he▸hp.map _;refine Hi gF (og z (h.nodup_iff.2 G)) (cK M).1 fun k=>?_
 rw[h.mem_iff,(cK M).2 k]
theorem vh (d:Nat) (q:Qry) (l:List Evt) (vv vk va vc vr vl:Value) (w:World) (hA:PartAsk d w q l vv vk va vc vr vl) (hS:SmallN l.length q.pat)
  (hF:(aN q l).2=0->(bG q.pat (bV q.key l)).length<=4096) :
  Calls prog 6 #[gN q vv vk va vc vr,vl] w (PmNew w (tL q l)):=by
 have N':=jD (fun (W:World) (hW:Mm w W)=>lh d q l vv vk va vc vr vl W (hA.stays hW));have Q3:=jD (fun (W:World) (s:List Evt) (u:Value) (hW:Mm w W) (hs:s.length<=l.length) (hu:bh W u s)=>ir s q.pat d va vc u W (hA.shp.stays hW) (hA.qry.args.stays (aB d) hW) (hA.qry.cond.stays (ai d) hW) hu hA.few (hS.less hs));have H':=jD (ol q l);have E1:Hid ((aN q l).2=0->fq q.pat=0/\(∀s∈(aN q l).1.2,s.length<=l.length/\bH s=0)/\(bG q.pat (aN q l).1.2).length<=4096/\(bG q.pat (aN q l).1.2).Nodup):=jD fun h=>by
  obtain⟨h1,h2,h3⟩:=tR h;rw[h3];exact⟨h1,fun s hs=>⟨Fc hs,xd h2 s hs⟩,hF h,jT _ _ (qM (iS h2))⟩
 obtain⟨S,Q1⟩:=jE (tL q l);obtain⟨⟨⟨ks,ps⟩,se⟩,hR⟩:∃R,aN q l=R:=⟨_,rfl⟩;have HS:Hid (S=if se≠0 then ([],se) else (fa (bG q.pat ps),0)):=jD (by rw[<-Q1,tL,hR]);rw[Q1];rw[hR]at N' H' E1;obtain⟨Av,cv,Ak,ck,Aa,ca,Ac,cc,Ar,cr,Al,cl,rfl,rfl,rfl,rfl,rfl,rfl⟩:=hA.form;clear hA hR Q1 hS hF;unfold gN at N' ⊢;unfold ptV at Q3;refine (OQ (n:=5)).1 ?_;refine callsIn_of_wp_marks func6 rfl trivial ?_ rfl;simp only[ntmps6,N5,MG,Og,Nat.reduceAdd,Nat.reduceSub,O1,O2,O3,O4,OP,Oi]
 have S0:∀o1 o2:Obj,(((w.alloc (.cells #[.string q.nm,.slice Av q.vars.length cv,.slice Ak q.key.length ck,.int .i64 q.pat.op,.slice Aa q.pat.args.length ca,.int .i64 q.pat.ty,.int .i64 q.pat.vr,.int .i64 q.pat.sc,.int .i64 q.pat.sp,.int .i64 q.pat.cond.op,.slice Ac q.pat.cond.args.length cc,.int .i64 q.pat.cond.vr,.int .i64 q.pat.cond.fl,.int .i64 q.pat.cond.kd,.int .i64 q.pat.cond.val.kind,.int .i64 q.pat.cond.val.num,.string q.pat.cond.val.text,.slice Ar q.rets.length cr] 33 (0,0))).alloc o1).alloc o2).heap[w.heap.size]?=some (.cells #[.string q.nm,.slice Av q.vars.length cv,.slice Ak q.key.length ck,.int .i64 q.pat.op,.slice Aa q.pat.args.length ca,.int .i64 q.pat.ty,.int .i64 q.pat.vr,.int .i64 q.pat.sc,.int .i64 q.pat.sp,.int .i64 q.pat.cond.op,.slice Ac q.pat.cond.args.length cc,.int .i64 q.pat.cond.vr,.int .i64 q.pat.cond.fl,.int .i64 q.pat.cond.kd,.int .i64 q.pat.cond.val.kind,.int .i64 q.pat.cond.val.num,.string q.pat.cond.val.text,.slice Ar q.rets.length cr] 33 (0,0)):=fun o1 o2=>bB (bB (ax _ _ _ rfl))
 refine wpIn_wide.2 ?_;go_wp2_with (refine Od rfl 33 (.tmp 2) rfl w.heap.size rfl 33 _ (0,0) _ (S0 _ _) underlying33 rfl ko ?_);refine aI fun w1 e1=>?_
 have V1:Mm w w1:=gb e1;obtain⟨b5,g'⟩:∃b,b=w.heap.size+1+1:=⟨_,rfl⟩;obtain⟨b4,U1⟩:∃b,b=w.heap.size+1:=⟨_,rfl⟩;obtain⟨b2,C'⟩:∃b,b=w.heap.size:=⟨_,rfl⟩;have z:w1.heap[b2]?=some (.cells #[.string q.nm,.slice Av q.vars.length cv,.slice Ak q.key.length ck,.int .i64 q.pat.op,.slice Aa q.pat.args.length ca,.int .i64 q.pat.ty,.int .i64 q.pat.vr,.int .i64 q.pat.sc,.int .i64 q.pat.sp,.int .i64 q.pat.cond.op,.slice Ac q.pat.cond.args.length cc,.int .i64 q.pat.cond.vr,.int .i64 q.pat.cond.fl,.int .i64 q.pat.cond.kd,.int .i64 q.pat.cond.val.kind,.int .i64 q.pat.cond.val.num,.string q.pat.cond.val.text,.slice Ar q.rets.length cr] 33 (0,0)):=by rw[e1,C'];exact S0 _ _
 have J:Boxed w1 b4 37 (.slice none 0 0):=by rw[e1,U1];exact bB (ax _ _ _ jS)
 have I:Boxed w1 b5 38 (Mk 0):=by rw[e1,g'];exact ax _ _ _ jS
 have R':Hid (w.heap.size<=b2/\b2<b4/\b4<b5/\b5<w1.heap.size):=jD ⟨by omega,by omega,by omega,I.lt⟩;rw[<-g',<-U1,<-C'];clear e1 g' U1 C' S0;refine (N'.out _ V1).mono ?_;rintro e w2 ⟨kv,pv,rfl,V0,T1,E'⟩;have Q4:=jD V0;have H5:=jD T1;obtain⟨A1,c1,rfl,-⟩:=id V0;obtain⟨A2,c2,rfl,-⟩:=id T1;have K3:=jD (am E' z);have J:Boxed w2 b4 37 (.slice none 0 0):=(E'.block _ J.lt).trans J;have I:Boxed w2 b5 38 (Mk 0):=(E'.block _ I.lt).trans I;have X0:=jD (ab V1 E');clear V0 T1 V1 E' N' z;have q4:=J.cell;have f4:=J.frozen;have q5:=I.cell;have f5:=I.frozen;have l4:=J.lt;have l5:=I.lt;have Z':w.heap.size<=b4:=by have:=R'.out;omega
 have Y0:w.heap.size<=b5:=by have:=R'.out;omega
 have F1:b4≠b5:=by have:=R'.out;omega
 have Q0:b5≠b4:=by have:=R'.out;omega
 by_cases h0:se=0
 case neg =>
  have X6:(se != 0)=true:=jQ h0;obtain rfl:S=([],se):=by have h:=HS.out;rw[Mp h0]at h;exact h
  clear h0 HS;go_wp2_with fail;refine⟨.tuple #[.slice none 0 0,Mk se],?_,_,[],rfl,⟨rfl,MatsNew.nil _ _⟩,aq (aq X0.out Z' _) Y0 _⟩;have r4:=(bJ (J.set (.slice none 0 0)) F1 (Mk se)).cell;have r5:=(Boxed.set (Mk se) (bJ I Q0 (.slice none 0 0))).cell;simp[results,Tryz.f6,go_sem,r4,r5]
 subst h0;obtain⟨Y1,P3,Z1,W2⟩:=E1.out rfl;obtain rfl:S=(fa (bG q.pat ps),0):=by have h:=HS.out;rw[Mo jS]at h;exact h
 have Y3:=jD Y1;have Q2:=jD P3;have T2:Hid (((ks.zip ps).flatMap (fun s=>cI s.2 q.pat)).length<=4096):=jD (by rw[qI H'.out];exact Z1);have T4:=jD W2;clear HS E1 Y1 P3 Z1 W2;go_wp2_with fail;refine aI fun d' P'=>?_
 obtain⟨b9,R0⟩:∃b,b=w2.heap.size:=⟨_,rfl⟩;have X':Mm w2 d':=gb P';have G1:Boxed d' b9 37 (.slice none 0 0):=by rw[P',R0];exact ax _ _ _ rfl
 have G2:d'.heap.size=w2.heap.size+1:=by rw[P'];simp
 rw[<-R0];clear P';refine (nP _ _ _ ⟨_,_,_,rfl⟩ ⟨_,_,_,rfl⟩).mono ?_;rintro e w3 ⟨rfl,e3⟩;have Z0:Mm d' w3:=gb e3;have k3:Ml w3 d'.heap.size 0 (.slice A1 ks.length c1):=jG e3;have p3:Ml w3 (d'.heap.size+1) 0 (.slice A2 ps.length c2):=jG e3;have T3:w3.heap.size=d'.heap.size+2:=by rw[e3];simp
 have n':=ab X' Z0;have T':=jD (nQ ks ps _ _ d'.heap.size (d'.heap.size+1) w2 w3 H'.out Q4.out H5.out n' k3 p3);have B5:Hid (Boxed w3 b9 37 (.slice none 0 0)):=jD ((Z0.block _ G1.lt).trans G1);have y':=jD J;have s':=jD I;have m':=jD (ab X0.out n');have B':=jD n';clear e3 k3 p3 Z0 J I G1 q4 f4 q5 f5 X' n';obtain⟨pb,Y'⟩:∃b,b=d'.heap.size+1:=⟨_,rfl⟩;obtain⟨kb,H0⟩:∃b,b=d'.heap.size:=⟨_,rfl⟩;have G:Hid (w3.heap.size=b9+3/\kb=b9+1/\pb=b9+2/\b9=w2.heap.size):=jD om;rw[<-Y',<-H0]at T';rw[<-Y',<-H0];clear H0 Y' R0 G2 T3;go_wp2_with fail;refine (Ok (n:=5)).1 ?_;refine jU fun a0 e0=>?_
 refine pU (n:=5) (gf:=43) (lb:=#[.pointer (some ⟨kb,0,none⟩),.pointer (some ⟨pb,0,none⟩)]) (by rw[e0];rfl) (enters_of func43 kr rfl) T'.out
  CD (Ki B'.out.size (by have:=G.out;omega) (by have:=G.out;omega)) (Mr _ _) (fun x v=>wK w2 _ x v) (fun x v W h=>sV h)
  (Km w w2 w3 b9 q.pat (ks.zip ps)) (fun _ _ _=>False) (D8 m'.out.size B'.out.size) (fun c _ _ _ _ h _ _=>h) ⟨⟨_,[],B5.out,MW.nil _ _,by simp⟩,B'.out,m'.out,Mt _⟩
  (AxM a0.tmps) (fun x v a'=>Jc _ _ x v a') ?assign ?body ?done ?stop
 case assign =>
  intro m l9 k y v W K hl hy hi R1 hK;obtain⟨u,rfl,hu⟩:=R1;obtain⟨Au,cu,rfl,-⟩:=id hu;obtain⟨y1,y2⟩:=y;have P1:=hK;rw[e0]at P1;have HI:=jD hi;have HU:=jD hu;have HK:=jD P1;clear hi hu P1 hK hy hl;rw[e0];unfold vlV;gi_wp2;exact HK.out _ _ (bF (Mr _ _)) (wF _ _ _ _) HI.out ⟨_,rfl,HU.out⟩ ⟨_,rfl,rfl⟩
 case body =>
  rintro m l9 k ⟨y1,y2⟩ v a' W hl-hy hi R1 ⟨u,rfl,rfl⟩;obtain⟨u',X1,hu⟩:=R1;obtain rfl:u=u':=jQ X1;obtain⟨Au,cu,rfl,-⟩:=id hu;obtain⟨⟨uo,ms,xo,l',j'⟩,c',t',A'⟩:=hi;have z:W.heap[b2]?=_:=(c'.block b2 (bC K3.out)).trans K3.out;have G':y2∈ps:=by
   have h:=MI hy;exact (List.of_mem_zip h).2
  have R4:=jD (Q3.out W y2 _ t' (Q2.out y2 G').1 (hu.stays aG c'));have X5:=jD (Q2.out y2 G').2;have HY:=jD hy;have HB:=jD (And.intro c' (And.intro t' A'));have r':=jD l';have J':=jD j';have p3:=ae z 3;have p4:=ae z 4;have p5:=ae z 5;have p6:=ae z 6;have p7:=ae z 7;have p8:=ae z 8;have p9:=ae z 9;have V3:=ae z 10;have R5:=ae z 11;have K5:=ae z 12;have A4:=ae z 13;have H4:=ae z 14;have S3:=ae z 15;have W4:=ae z 16;simp only[OS,OA]at p3 p4 p5 p6 p7 p8 p9 V3 R5 K5 A4 H4 S3 W4;have T6:=bC z;have B2:=jD xo;obtain⟨Ao,co,rfl⟩:=aH l'.row;clear X1 hu l' j' c' t' A' z G' hy xo;rw[e0];simp only[NA,MZ,MY];gi_wp2;refine⟨trivial,fun h=>by simp[Fence.wide]at h,CallsIn.inRound _ (callsIn_wide.2 ?_)⟩;refine R4.out.mono ?_;intro e W5 h5;obtain⟨g',h5⟩:=h5;rcases h5 with ⟨h5,-⟩|⟨-,h5,-⟩|⟨-,-,v5,ms5,rfl,hn5,hm5⟩
  ·exact absurd Y3.out h5
  ·exact absurd X5.out h5
  obtain⟨A5,c5,rfl⟩:∃A5 c5,v5=.slice A5 ms5.length c5:=by obtain⟨⟨A5,c5,e,-⟩,-⟩:=hn5;exact⟨A5,c5,e⟩
  have p':=r'.out.grow g';have U5:ms.length+ms5.length<=4096:=by
   have h1:=congrArg List.length J'.out;have h2:=congrArg List.length hm5;rw[MB]at h1 h2;have h3:=JH (p:=q.pat) (L:=ks.zip ps) (k+1);rw[sL HY.out,Mw]at h3;dsimp only at h3;have:=T2.out;omega
  have x5:Boxed W5 b9 37 (.slice Ao ms.length co):=(g'.block _ B2.out.lt).trans B2.out;have Z5:Hid ((ms++ms5).map (·.1)=((ks.zip ps).take (k+1)).flatMap (fun s=>cI s.2 q.pat)):=jD (by rw[NY,J'.out,hm5,sL HY.out]);have M3:=jD g';have R6:=g'.size;have P6:=jD hn5;have B6:=jD p';obtain⟨n,hn⟩:=jF ms.length;obtain⟨n5,i'⟩:∃n,n=ms5.length:=⟨_,rfl⟩;obtain⟨N,hN⟩:=jF (n+n5);have q':Hid (W5.ownsRow w3.heap.size 49 1 (.slice Ao n co) n (ms.map (·.2))):=jD (by rw[hn];exact p'.row);have B3:Hid (Src W5 A5 n5 1 (ms5.map (·.2))):=jD (by rw[i'];exact hn5.src);have Q5:Hid (∀(w8:World) (v8:Value),w8.ownsRow w3.heap.size 49 1 v8 N (ms.map (·.2)++ms5.map (·.2))->W5.grownBy w8 (Value.slice Ao n co).ownBlock->(v8.ownBlock=(Value.slice Ao n co).ownBlock\/v8.ownBlock=some W5.heap.size)->MW w3.heap.size w8 v8 (ms++ms5)):=jD fun w8 v8 h1 h2 h3=>p'.apps (N:=W.heap.size) hn5 HB.out.2.2 (fun g hg=>(ag r'.out.row hg).2) (by rw[<-hn,<-i',<-hN];exact h1) (by rw[<-hn];exact h2) (by rw[<-hn];exact h3)
  rw[<-hn,<-i']at U5;rw[<-hn]at x5;rw[<-i'];clear hn5 hm5 p' g' hn i';have Q6:=x5.cell;have Y6:=x5.frozen;have U6:=x5.lt;have k':=jD x5;have H6:N<=4096:=by omega
  have hle:¬(4096:Int)<(N:Int):=by omega
  have HN:=jD hN;obtain⟨j0,X3,Z4,U3,K4⟩:=Np yr;clear x5 hN;gi_wp2_with (gi_at_builtin;refine iU _ rfl (.tmp 39) (.tmp 40) 37 rfl w3.heap.size 49 j0 _ 1 24 underlying37 X3 Z4 U3 K4 rfl dc (.slice Ao n co) n (ms.map (·.2)) rfl q'.out A5 n5 c5 (ms5.map (·.2)) rfl B3.out (by unfold maxLen;omega) om (by have:=HB.out.2.2;omega) ?_;intro v8 w8 O S' F';rw[<-HN.out]at O;have A3:=jD (Q5.out w8 v8 O S' F');have P0:=jD S';have x8:Boxed w8 b9 37 (.slice Ao n co):=k'.out.kept S' (fun e=>by have:=(ag q'.out e.symm).1;have:=G.out;omega);have c8:=x8.cell;have f8:=x8.frozen;have l8:=x8.lt;have S4:=jD x8;obtain⟨A8,S5,rfl⟩:=aH O;have c9:=(x8.set (.slice A8 N S5)).cell;clear x8 O S' F');have O:∀g,(Value.slice Ao n co).ownBlock=some g->w3.heap.size<=g:=fun g e=>(ag q'.out e).1
  have Z3:=HB.out.2.2;have W1:Below w3.heap.size W5 w8:=au P0.out om O;have h':Below w3.heap.size W w8:=(M3.out.mono Z3).trans W1;refine⟨(bF M3.out).trans ((rP q'.out P0.out).trans ((KeepsOthers.setCell _ _ _).from _)),⟨Below.setCell (h'.mono (by have:=G.out;omega)) (p:=⟨b9,0,none⟩) (by have:=G.out;simp only;omega) _,?_,?_⟩,⟨_,_,S4.out.set _,A3.out.box (by have:=G.out;omega) _,Z5.out⟩,?_,?_,?_⟩
  ·exact (Nj _ ⟨b9,0,none⟩ _ kb (by have:=G.out;simp only;omega)).trans (h'.block kb (by have:=G.out;omega))
  ·exact (Nj _ ⟨b9,0,none⟩ _ pb (by have:=G.out;simp only;omega)).trans (h'.block pb (by have:=G.out;omega))
  ·exact Below.setCell (HB.out.1.trans (h'.mono (by have:=G.out;omega))) (p:=⟨b9,0,none⟩) (by have:=G.out;simp only;omega) _
  ·exact Below.setCell (HB.out.2.1.trans (h'.mono m'.out.size)) (p:=⟨b9,0,none⟩) (by have:=G.out;have:=X0.out.size;simp only;omega) _
  ·have:=P0.out.size;simp;omega
 case done =>
  rintro D W hD ⟨⟨uo,ms,xo,l',j'⟩,c',t',A'⟩ hK;rw[Nq]at j';have HK:=jD hK;rw[qI H'.out]at j';have J':=jD j';have r':=jD l';have S1:=jD t';have hlen:ms.length<=4096:=by
   have h1:=congrArg List.length j';have h2:=T2.out;rw[qI H'.out]at h2;rw[MB]at h1;omega
  have J:Boxed W b4 37 (.slice none 0 0):=(c'.block _ y'.out.lt).trans y'.out;have I:Boxed W b5 38 (Mk 0):=(c'.block _ s'.out.lt).trans s'.out;have H3:D≠b4/\D≠b5/\D≠b9:=by have:=G.out;have:=y'.out.lt;have:=s'.out.lt;omega
  have S6:=jD H3;have I':=l'.row;have A6:b4<w3.heap.size:=by have:=y'.out.lt;have:=G.out;omega
  have Y4:b5<w3.heap.size:=by have:=s'.out.lt;have:=G.out;omega
  have W6:b4≠b9:=by have:=y'.out.lt;have:=G.out;omega
  have V6:b5≠b9:=by have:=s'.out.lt;have:=G.out;omega
  clear j' l' t' c' A' hK H3;rcases Cd I' with ⟨hv,h0⟩|⟨g,cap,spare,hv,X2,hh,Y2,R2,S2,z⟩
  ·have K2:ms=[]:=M8 h0;subst hv;have H2:fa (bG q.pat ps)=[]:=by rw[<-J'.out,K2];rfl
   have W3:=jD H2;have q9:=xo.cell;have l9:=xo.lt;clear h0 K2 H2 I';rw[e0];go_wp2_with fail;refine (mt _).mono ?_;rintro e w6 ⟨rfl,x'⟩;have K0:=jD (ab S1.out x');have x4:Boxed w6 b4 37 (.slice none 0 0):=(x'.block _ J.lt).trans J;have x5:Boxed w6 b5 38 (Mk 0):=(x'.block _ I.lt).trans I;have x9:Boxed w6 b9 37 (.slice none 0 0):=(x'.block _ xo.lt).trans xo;have D':w6.heap[D]?=some (.deferred (some [])):=am x' HK.out;have M1:=jD D';have c4:=x4.cell;have f4:=x4.frozen;have c5:=x5.cell;have f5:=x5.frozen;have c9:=x9.cell;have X4:=x4.lt;have V5:=x5.lt;have V4:=x9.lt;have z':=jD x4;have k':=jD x5;clear x' D' xo J I x9 x4 x5 q9 l9;go_wp2_with fail;have f':=((KeepsOthers.setCell w6 ⟨b4,0,none⟩ (.slice none 0 0)).trans (KeepsOthers.setCell _ ⟨b5,0,none⟩ (Mk 0))).same D _ M1.out rfl;refine⟨by simp,.inl ⟨_,_,rfl,run_takeDeferred f',?_⟩⟩;have w4:=bJ (z'.out.set (.slice none 0 0)) F1 (Mk 0);have w5:=Boxed.set (Mk 0) (bJ k'.out Q0 (.slice none 0 0));have r4:=(w4.kept (grownBy_putObj' _ D (.deferred none)) (by intro h;cases h;have h2:(World.setCell _ _ _).heap[b4]?=_:=w4;rw[f']at h2;cases h2)).cell;have r5:=(w5.kept (grownBy_putObj' _ D (.deferred none)) (by intro h;cases h;have h2:(World.setCell _ _ _).heap[b5]?=_:=w5;rw[f']at h2;cases h2)).cell
   refine⟨.tuple #[(.slice none 0 0),Mk 0],?_,_,[],rfl,⟨by show _=fa _;rw[W3.out];rfl,MatsNew.nil _ _⟩,(aq (aq K0.out Z' _) Y0 _).trans (belowK_b (w:=w) (Mt _) _ D _ _ (by have:=m'.out.size;omega) f' rfl rfl)⟩;simp[results,Tryz.f6,go_sem,r4,r5]
  ·subst hv;have V':∀e∈ms,MOk W g e:=fun e he=>⟨(r'.out.bnds e he).1,fun e1=>((r'.out.bnds e he).2 g e1).2.2 rfl⟩
   have Y5:=jD (mF ms g cap spare W hh om V');have Z6:=bC hh;have T5:=jD hh;have O':=jD (And.intro X2 (And.intro Y2 R2));have U4:=jD (And.intro S2 z);have P2:=jD J;have Z2:=jD I;have E2:=jD xo;have q9:=xo.cell;have l9:=xo.lt;clear I' hh X2 S2 z V' Y2 R2 J I xo;rw[e0];go_wp2_with fail;refine Y5.out.mono ?_;rintro e w6 ⟨rfl,es',R3,hp,K1,V2,hls,Z⟩;have U2:es'.length=ms.length:=hp.length_eq;have P4:=O'.out.1;have K0:Hid (Mm w w6):=jD (S1.out.trans (au Z S1.out.size (fun k e=>by injection e with e;have:=O'.out.1;have:=m'.out.size;omega)));have U':Hid (MW w3.heap.size w6 (.slice (some ⟨g,0,none⟩) es'.length cap) es'):=jD (by
    have A':=Z.size;refine⟨⟨by simp,.inr ⟨g,cap,_,rfl,P4,V2,by rw[U2];exact O'.out.2.1,O'.out.2.2,?_,?_⟩⟩,fun e he=>?_⟩
    ·have h1:=hls;have h2:=U4.out.1;rw[h2]at h1
     simpa using h1
    ·rw[NF];simp
    ·have h1:=r'.out.bnds e (hp.mem_iff.1 he);refine⟨ro h1.1 fun b hb hv=>Z.block b hb (fun e1=>(h1.2 b hv).2.2 (by simpa [Value.ownBlock] using e1)),fun g1 U0=>⟨(h1.2 g1 U0).1,by have:=(h1.2 g1 U0).2.1;omega,(h1.2 g1 U0).2.2⟩⟩)
   have P5:Hid (es'.map (·.1)=fa (bG q.pat ps)):=jD (ud T4.out J'.out hp (by first|exact K1|exact K1.imp fun {a b} h=>by omega));have x4:Boxed w6 b4 37 (.slice none 0 0):=P2.out.kept Z (fun e=>by injection e with e;have:=y'.out.lt;have:=G.out;omega);have x5:Boxed w6 b5 38 (Mk 0):=Z2.out.kept Z (fun e=>by injection e with e;have:=s'.out.lt;have:=G.out;omega);have x9:Boxed w6 b9 37 (.slice (some ⟨g,0,none⟩) ms.length cap):=E2.out.kept Z (fun e=>by injection e with e;have:=G.out;omega);have D':w6.heap[D]?=some (.deferred (some [])):=(Z.block D (Array.getElem?_eq_some_iff.1 HK.out).1 (fun e=>by injection e with e;subst e;have h:=T5.out;rw[HK.out]at h;cases h)).trans HK.out;have M1:=jD D';rw[U2]at U';have c4:=x4.cell;have f4:=x4.frozen;have c5:=x5.cell;have f5:=x5.frozen;have c9:=x9.cell;have X4:=x4.lt;have V5:=x5.lt;have V4:=x9.lt;have z':=jD x4;have k':=jD x5;clear hp K1 V2 hls Z D' x9 x4 x5 q9 l9;go_wp2_with fail;have f':=((KeepsOthers.setCell w6 ⟨b4,0,none⟩ (.slice (some ⟨g,0,none⟩) ms.length cap)).trans (KeepsOthers.setCell _ ⟨b5,0,none⟩ (Mk 0))).same D _ M1.out rfl;refine⟨by simp,.inl ⟨_,_,rfl,run_takeDeferred f',?_⟩⟩;have w4:=bJ (z'.out.set (.slice (some ⟨g,0,none⟩) ms.length cap)) F1 (Mk 0);have w5:=Boxed.set (Mk 0) (bJ k'.out Q0 (.slice (some ⟨g,0,none⟩) ms.length cap))
   have r4:=(w4.kept (grownBy_putObj' _ D (.deferred none)) (by intro h;cases h;have h2:(World.setCell _ _ _).heap[b4]?=_:=w4;rw[f']at h2;cases h2)).cell;have r5:=(w5.kept (grownBy_putObj' _ D (.deferred none)) (by intro h;cases h;have h2:(World.setCell _ _ _).heap[b5]?=_:=w5;rw[f']at h2;cases h2)).cell;refine⟨.tuple #[(.slice (some ⟨g,0,none⟩) ms.length cap),Mk 0],?_,_,es',rfl,⟨P5.out,(((U'.out.box A6 _).box Y4 _).kept (grownBy_putObj' _ D (.deferred none)) (fun r e=>by injection e with e;subst e;exact⟨_,f',rfl⟩)).new (by have:=m'.out.size;omega)⟩,(aq (aq K0.out Z' _) Y0 _).trans (belowK_b (w:=w) (Mt _) _ D _ _ (by have:=m'.out.size;omega) f' rfl rfl)⟩;simp[results,Tryz.f6,go_sem,r4,r5]
 case stop=>rintro D c k W hD hk h;exact h.elim
theorem vW (d:Nat) (q:Qry) (l:List Evt) (G h z vc vr vl:Value) (w:World) (Z:PartAsk d w q l G h z vc vr vl) (hS:SmallN l.length q.pat)
  (hF:(aN q l).2=0->(bG q.pat (bV q.key l)).length<=4096) :
  Calls prog 6 #[gN q G h z vc vr,vl] w (PmRet w (tL q l)) :=
 (vh d q l G h z vc vr vl w Z hS hF).mono fun _ _ ⟨u,ms,O,⟨I,J⟩,h3⟩=>⟨u,O,I▸J.is,h3⟩
end
end Go.Proofs.YtbjicljfjkdeeaaGreatDoor
