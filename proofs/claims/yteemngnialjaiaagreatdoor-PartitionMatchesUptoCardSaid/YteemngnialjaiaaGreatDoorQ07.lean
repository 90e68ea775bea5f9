/- Part. -/
import Derived.Test.YteemngnialjaiaaGreatDoorQ05
import Derived.Deep.Cut
set_option maxRecDepth 100000
set_option maxHeartbeats 16000000
set_option linter.unusedVariables false
set_option linter.unusedSimpArgs false
namespace Go.Proofs.YteemngnialjaiaaGreatDoor
open Go.Proofs.Tryz Go.RowKit
variable {W w:World}{g b j:Nat}{o:Obj}{k:Int}{l:List Vl}{x:Vl}
theorem Kt(k i:Int)(a:Ac)(v:Vl)(p:Nat)(w:World)(hp:w.cell? ⟨p,0,none⟩=some (OB k))(hk:cA k=true)(h:lR k a i)(hi:0<=i/\i<=4096)(hv:cC k v=0) :
  OE 294 #[ei a,vlV v,.pointer (some ⟨p,0,none⟩)] w (ei (jv k a v)):=by
 have m':lR k ⟨k,1,fP k v⟩ 1:=by
  have:=um hk (qh k) dc hv;unfold jv oL at this
  rwa [OG rfl]at this
 have l':=vP hk m' dc;have h':=jD (fun W=>BS a ⟨k,1,fP k v⟩ W (by rw[h.kind];exact hk) (by rw[h.count];omega) (by simp only;decide) (vP hk h hi) l');have i':=jD (BI k v);obtain⟨M,hM⟩:=jE (jv k a v);have p':oL a ⟨k,1,fP k v⟩=M:=hM;rw[p']at h';rw[hM];obtain⟨sv,k'⟩:=jE (fP k v);rw[k']at h' i';have q':p<w.heap.size:=OV w ⟨p,_,none⟩ hp;unfold vlV at i' ⊢;unfold ei at h' ⊢;clear hM p' k' l' m' hv h hk hi;go_enter func294,ntmps294;go_wp2_with fail;refine bV fun w1 e1=>?_
 have x0:OC w1 w.heap.size 0 (OB a.kind):=jG e1;have x1:OC w1 w.heap.size 1 (OB a.count):=jG e1;have x2:OC w1 w.heap.size 2 (OB a.val.kind):=jG e1;have x3:OC w1 w.heap.size 3 (OB a.val.num):=jG e1;have x4:OC w1 w.heap.size 4 (.string a.val.text):=jG e1;have y0:OC w1 (w.heap.size+1) 0 (OB v.kind):=jG e1;have y1:OC w1 (w.heap.size+1) 1 (OB v.num):=jG e1;have y2:OC w1 (w.heap.size+1) 2 (.string v.text):=jG e1;have hr:w1.heap[w.heap.size+2]?=some (.cells [.int .i64 0,.int .i64 0,.int .i64 0,.int .i64 0,.string ⟨#[]⟩].toArray 335 (0,0)):=by rw[e1];exact ax _ _ _ jS
 have j':OD w w1:=gb e1;have p0:=aa j' hp;obtain⟨G,hG⟩:=jF (w.heap.size+2);have g':w.heap.size<=G:=by omega
 have d':w.heap.size≠G:=by omega
 have a':w.heap.size+1≠G:=by omega
 have f':p≠G:=by omega
 clear e1;rw[show w.heap.size+1+1=w.heap.size+2 from rfl];rw[<-hG]at hr ⊢;have r':=jD j';have t':=jD hr;clear j' hr hG q';refine PM ?_;refine PQ (S:=fun W=>OD w W/\OC W w.heap.size 0 (OB a.kind)/\OC W w.heap.size 1 (OB a.count)/\OC W w.heap.size 2 (OB a.val.kind)/\OC W w.heap.size 3 (OB a.val.num)/\OC W w.heap.size 4 (.string a.val.text)/\OC W (w.heap.size+1) 0 (OB v.kind)/\OC W (w.heap.size+1) 1 (OB v.num)/\OC W (w.heap.size+1) 2 (.string v.text)/\OC W p 0 (OB k)/\AccIn W G) kr (⟨r'.out.drew,x0,x1,x2,x3,x4,y0,y1,y2,p0,AccIn.mk t'.out⟩) (fun I=>?_);generalize w1.drew=wD at I ⊢;refine tkH [0,1,2,3] ?_;refine nxH 4 (fun K hK=>?_)
 focus (go_simp;go_at_call 296;refine (i'.out _).mono ?_;rintro e w5 ⟨rfl,Z⟩)
 refine hK.out _ _ (⟨ae I.1 Z,aa Z I.2.1,aa Z I.2.2.1,aa Z I.2.2.2.1,aa Z I.2.2.2.2.1,aa Z I.2.2.2.2.2.1,aa Z I.2.2.2.2.2.2.1,aa Z I.2.2.2.2.2.2.2.1,aa Z I.2.2.2.2.2.2.2.2.1,aa Z I.2.2.2.2.2.2.2.2.2.1,(I.2.2.2.2.2.2.2.2.2.2).bel Z⟩) (fun I=>?_);clear hK K;refine tkH [5] ?_;refine nxH 6 (fun K hK=>?_)
 focus (go_simp;go_at_call 295;refine (h'.out _).mono ?_;rintro e w6 ⟨rfl,J⟩)
 refine hK.out _ _ (⟨ae I.1 J,aa J I.2.1,aa J I.2.2.1,aa J I.2.2.2.1,aa J I.2.2.2.2.1,aa J I.2.2.2.2.2.1,aa J I.2.2.2.2.2.2.1,aa J I.2.2.2.2.2.2.2.1,aa J I.2.2.2.2.2.2.2.2.1,aa J I.2.2.2.2.2.2.2.2.2.1,(I.2.2.2.2.2.2.2.2.2.2).bel J⟩) (fun I=>?_);clear hK K;refine nxH 7 (fun K hK=>?_);obtain⟨v0,v1,v2,v3,v4,rr⟩:=I.2.2.2.2.2.2.2.2.2.2;have z0:w6.cell? ⟨G,0,none⟩=some v0:=by rw[ab rr];rfl
 have z1:w6.cell? ⟨G,1,none⟩=some v1:=by rw[ab rr];rfl
 have z2:w6.cell? ⟨G,2,none⟩=some v2:=by rw[ab rr];rfl
 have z3:w6.cell? ⟨G,3,none⟩=some v3:=by rw[ab rr];rfl
 have z4:w6.cell? ⟨G,4,none⟩=some v4:=by rw[ab rr];rfl
 have f0:=af rr 0;have f1:=af rr 1;have f2:=af rr 2;have f3:=af rr 3;have f4:=af rr 4;have HQ:=jD (cV rr (OB M.kind) (OB M.count) (OB M.val.kind) (OB M.val.num) (.string M.val.text));have n':=jD (aj (aj (aj (aj (aj I.1 (i:=0) g' (OB M.kind)) (i:=1) g' (OB M.count)) (i:=2) g' (OB M.val.kind)) (i:=3) g' (OB M.val.num)) (i:=4) g' (.string M.val.text));have c':=jD (fun(bk:Nat)(q:Nat)(u:Value)(s':bk≠G)(h:w6.cell? ⟨bk,q,none⟩=some u)=>tJ s' (OB M.kind) (OB M.count) (OB M.val.kind) (OB M.val.num) (.string M.val.text) h);clear rr
 go_simp
 refine hK.out _ _ (⟨n'.out,c'.out _ _ _ (by first|exact d'|exact a'|exact f') I.2.1,c'.out _ _ _ (by first|exact d'|exact a'|exact f') I.2.2.1,c'.out _ _ _ (by first|exact d'|exact a'|exact f') I.2.2.2.1,c'.out _ _ _ (by first|exact d'|exact a'|exact f') I.2.2.2.2.1,c'.out _ _ _ (by first|exact d'|exact a'|exact f') I.2.2.2.2.2.1,c'.out _ _ _ (by first|exact d'|exact a'|exact f') I.2.2.2.2.2.2.1,c'.out _ _ _ (by first|exact d'|exact a'|exact f') I.2.2.2.2.2.2.2.1,c'.out _ _ _ (by first|exact d'|exact a'|exact f') I.2.2.2.2.2.2.2.2.1,c'.out _ _ _ (by first|exact d'|exact a'|exact f') I.2.2.2.2.2.2.2.2.2.1,AccIn.mk HQ.out⟩) (fun I=>?_);clear hK K;refine dn ?_;go_wp2_with fail;have q0:=ab HQ.out 0;have q1:=ab HQ.out 1;have q2:=ab HQ.out 2;have q3:=ab HQ.out 3;have q4:=ab HQ.out 4;exact OJ (v:=.agg #[OB M.kind,OB M.count,OB M.val.kind,OB M.val.num,.string M.val.text]) (by simp[results,results294,go_sem,q0,q1,q2,q3,q4]) rfl ⟨rfl,n'.out⟩
def mL(a:Ac):List Value:=[OB a.kind,OB a.count,OB a.val.kind,OB a.val.num,.string a.val.text]
theorem dN{i:Nat}(I:b≠g)(v:Value)(h:W.heap[b]?=some o):(W.setCell ⟨g,i,none⟩ v).heap[b]?=some o :=
 ((DI W g i v).block b (Array.getElem?_eq_some_iff.1 h).1 (fun e=>I (Pn e))).trans h
theorem AL(I:b≠g)(a0 J a2 a3 a4:Value)(h:w.heap[b]?=some o):(((((w.setCell ⟨g,0,none⟩ a0).setCell ⟨g,1,none⟩ J).setCell ⟨g,2,none⟩ a2).setCell ⟨g,3,none⟩ a3).setCell ⟨g,4,none⟩ a4).heap[b]?=some o :=
 dN I _ (dN I _ (dN I _ (dN I _ (dN I _ h))))
def fI(k:Int)(l:List Vl):Ac:=l.foldl (jv k) ⟨k,0,au⟩
theorem lW(h:l[j]?=some x):fI k (l.take (j+1))=jv k (fI k (l.take j)) x:=by
 unfold fI;rw[dz h,Qm];rfl
theorem kI{k:Int}{l:List Vl}(hk:cA k=true)(h:∀x∈l,cC k x=0):∀j:Nat,j<=l.length->lR k (fI k (l.take j)) (j:Int)
 | 0,_=>qh k
 | j+1,hj=>by
  have I:=kI hk h j om;rw[lW (OH (by omega:j<l.length))];exact um hk I om (h _ (OX _))
theorem zO(k:Int)(l:List Vl)(v:Value)(p:Nat)(w:World)(hl:bh w v l)(hp:w.cell? ⟨p,0,none⟩=some (OB k))(hk:cA k=true)(hv:∀x∈l,cC k x=0)(hn:l.length<=4096) :
  OE 293 #[.agg #[OB k,OB 0,OB 0,OB 0,.string ⟨#[]⟩],v,.func (.func 294) #[] #[.pointer (some ⟨p,0,none⟩)]] w (ei (fI k l)):=by
 obtain⟨A,c,rfl,h1,h2,t'⟩:=hl;have N':=aP h1 h2;have HL:=jD t';have D':=jD (kI (l:=l) hk hv);have HV:=jD hv;have HK:=jD hk;have HP:=jD hp;obtain⟨RA,m'⟩:=jE (fI k l);have J':=jD m';rw[m'];clear t' h1 h2 hv hk hp m';go_enter func293,ntmps293;go_wp2_with fail;obtain⟨Z,j'⟩:=jF w.heap.size;obtain⟨B6,n'⟩:=jF (w.heap.size+1);refine bV fun w1 e1=>?_
 have I:w1.heap[Z]?=some (.cells [.int .i64 k,.int .i64 0,.int .i64 0,.int .i64 0,.string ⟨#[]⟩].toArray 335 (0,0)):=by rw[e1,j'];exact (Qe _ _ _ jS).trans (ax _ _ _ rfl)
 have q':w1.heap[B6]?=some (.cells [.int .i64 0,.int .i64 0,.int .i64 0,.int .i64 0,.string ⟨#[]⟩].toArray 335 (0,0)):=by rw[e1,n'];exact ax _ _ _ jS
 have x':OD w w1:=gb e1;rw[<-n',<-j'];have f':w.heap.size<=Z:=by omega
 have c':w.heap.size<=B6:=by omega
 have z':Z≠B6:=by omega
 clear e1 j' n';have F':=jD I;have A':=jD q';have G':=jD x';clear I q' x'
 go_loopw [11] (fun i wr=>∃j:Nat,j<=l.length/\i=OB j/\Hid (wr.heap[Z]?=some (.cells (mL (fI k (l.take j))).toArray 335 (0,0))/\wr.heap[B6]?=some (.cells [.int .i64 0,.int .i64 0,.int .i64 0,.int .i64 0,.string ⟨#[]⟩].toArray 335 (0,0))/\OD w wr)) (fun i _=>l.length-(intOf i).toNat)
 case atStart=>exact⟨0,OO _,rfl,jD ⟨F'.out,A'.out,G'.out⟩⟩
 case round =>
  obtain⟨j,hj,rfl,hI⟩:=hrel;obtain⟨h,a'⟩:=jE (fI k (l.take j));have I:=hI.out.1;rw[a']at I;have x0:wr.cell? ⟨Z,0,none⟩=some (OB h.kind):=by rw[ab I];rfl
  have x1:wr.cell? ⟨Z,1,none⟩=some (OB h.count):=by rw[ab I];rfl
  have x2:wr.cell? ⟨Z,2,none⟩=some (OB h.val.kind):=by rw[ab I];rfl
  have x3:wr.cell? ⟨Z,3,none⟩=some (OB h.val.num):=by rw[ab I];rfl
  have x4:wr.cell? ⟨Z,4,none⟩=some (.string h.val.text):=by rw[ab I];rfl
  have C':Z<wr.heap.size:=aX I;have s':=jD I;clear I
  by_cases k':j<l.length
  ·have H':(j:Int)<(l.length:Int):=by omega
   obtain⟨b,o,rfl,c0,c1,c2⟩:=HL.out j l[j] (OH k');have h':=jD (OH k');have d':=HV.out l[j] (OX k');obtain⟨y,hy⟩:=jF (l[j]);rw[<-hy]at c0 c1 c2 h' d';replace c0:=aa hI.out.2.2 c0;replace c1:=aa hI.out.2.2 c1;replace c2:=aa hI.out.2.2 c2;have P':b<wr.heap.size:=OV wr ⟨b,_,none⟩ c0;have n1:b≠wr.heap.size:=by omega
   have n2:wr.heap.size≠b:=by omega
   have n3:Z≠wr.heap.size:=by omega
   have n4:wr.heap.size≠Z:=by omega
   have i':=D'.out j hj;rw[a']at i';obtain⟨NX,p'⟩:=jE (jv k h y);have E':Hid (fI k (l.take (j+1))=NX):=jD (by rw[lW h'.out,a',p']);have y':Hid (∀W,OD wr W->OE 294 #[.agg #[OB h.kind,OB h.count,OB h.val.kind,OB h.val.num,.string h.val.text],.agg #[OB y.kind,OB y.num,.string y.text],.pointer (some ⟨p,0,none⟩)] W (ei NX)):=jD (fun W hW=>by
    rw[<-p'];exact Kt k j h y p W (aa (ae hI.out.2.2 hW) HP.out) HK.out i' om d')
   unfold ei at y';clear hy d' i' p' a';go_wp2_with fail;refine aJ fun W9 e9=>?_
   have l':OD wr W9:=gb e9;clear e9;refine (y'.out W9 l').mono ?_;rintro e w5 ⟨rfl,u'⟩;have g':=ae l' u';have J:=(g'.block Z C').trans s'.out;have z0:w5.cell? ⟨Z,0,none⟩=some (OB h.kind):=by rw[ab J];rfl
   have z1:w5.cell? ⟨Z,1,none⟩=some (OB h.count):=by rw[ab J];rfl
   have z2:w5.cell? ⟨Z,2,none⟩=some (OB h.val.kind):=by rw[ab J];rfl
   have z3:w5.cell? ⟨Z,3,none⟩=some (OB h.val.num):=by rw[ab J];rfl
   have z4:w5.cell? ⟨Z,4,none⟩=some (.string h.val.text):=by rw[ab J];rfl
   have f0:=af J 0;have f1:=af J 1;have f2:=af J 2;have f3:=af J 3;have f4:=af J 4;have I':=jD J;have r':=jD g';clear J l' u' g' x0 x1 x2 x3 x4 c0 c1 c2 n1 n2 n3 n4;go_wp2_with fail
   go_roundw
   case rel =>
    refine⟨j+1,by omega,by go_num,jD ⟨?_,?_,?_⟩⟩
    ·rw[E'.out];exact cV I'.out _ _ _ _ _
    ·exact AL (fun e=>z' e.symm) _ _ _ _ _ (((r'.out.block B6 (aX hI.out.2.1))).trans hI.out.2.1)
    ·exact aj (aj (aj (aj (aj (ae hI.out.2.2 r'.out) f' _) f' _) f' _) f' _) f' _
   case measure=>simp[intOf];omega
  ·have H':¬(j:Int)<(l.length:Int):=by omega
   have B':h=RA:=by rw[<-J'.out,<-a',QK om]
   subst B';have J:=hI.out.2.1;have z0:wr.cell? ⟨B6,0,none⟩=some (OB 0):=by rw[ab J];rfl
   have z1:wr.cell? ⟨B6,1,none⟩=some (OB 0):=by rw[ab J];rfl
   have z2:wr.cell? ⟨B6,2,none⟩=some (OB 0):=by rw[ab J];rfl
   have z3:wr.cell? ⟨B6,3,none⟩=some (OB 0):=by rw[ab J];rfl
   have z4:wr.cell? ⟨B6,4,none⟩=some (.string ⟨#[]⟩):=by rw[ab J];rfl
   have f0:=af J 0;have f1:=af J 1;have f2:=af J 2;have f3:=af J 3;have f4:=af J 4;have HQ:=jD (cV J (OB h.kind) (OB h.count) (OB h.val.kind) (OB h.val.num) (.string h.val.text));clear J a';go_wp2_with fail;have q0:=ab HQ.out 0;have q1:=ab HQ.out 1;have q2:=ab HQ.out 2;have q3:=ab HQ.out 3;have q4:=ab HQ.out 4;exact OJ (v:=.agg #[OB h.kind,OB h.count,OB h.val.kind,OB h.val.num,.string h.val.text]) (by simp[results,results293,go_sem,q0,q1,q2,q3,q4]) rfl ⟨rfl,aj (aj (aj (aj (aj hI.out.2.2 c' _) c' _) c' _) c' _) c' _⟩
def gw(k:Int)(l:List Vl):Int:=eu (fun _ v=>cC k v) none l
def ofR(k:Int)(l:List Vl)(o:Vl):Vl × Int :=
 if cA k=false then (au,1) else if 4096<l.length then (au,5) else if gw k l≠0 then (au,gw k l) else qB k l.length (fI k l) o
theorem qg{α:Type}{g:α->Int}:∀(l:List α)(p:Option α),eu (fun _ b=>g b) p l=0->∀b∈l,g b=0
 | [],_,_,b,Z=>by simp at Z
 | x::l,p,h,b,Z=>by
  simp only[eu]at h
  split at h
  ·next e =>
   rcases List.mem_cons.1 Z with rfl|Z
   ·exact e
   ·exact qg l _ h b Z
  ·next e=>exact absurd h e
theorem Kr(k:Int)(l:List Vl)(o:Vl)(v:Value)(w:World)(hl:bh w v l) :
  OE 234 #[OB k,v,vlV o] w (.tuple #[vlV (ofR k l o).1,OB (ofR k l o).2]):=by
 have E':=jD hl;obtain⟨A,c,rfl,h1,h2,z'⟩:=hl;have H':=aP h1 h2;have HL:=jD z';obtain⟨⟨RV,re⟩,hR⟩:∃r,ofR k l o=r:=⟨_,rfl⟩;have HR:=jD hR;rw[hR];unfold vlV;clear z' h1 h2 hR;obtain⟨kb,c'⟩:=eh (cA k);go_enter func234,ntmps234;go_wp2_with fail;refine aJ fun W9 e9=>?_
 have x0:OC W9 w.heap.size 0 (OB k):=jG e9;have y0:OC W9 (w.heap.size+1) 0 (OB o.kind):=jG e9;have y1:OC W9 (w.heap.size+1) 1 (OB o.num):=jG e9;have y2:OC W9 (w.heap.size+1) 2 (.string o.text):=jG e9;have hr:W9.heap[w.heap.size+2]?=some (.cells [.int .i64 0,.int .i64 0,.string ⟨#[]⟩].toArray 27 (0,0)):=by rw[e9];exact ax _ _ _ jS
 have A':OD w W9:=gb e9;clear e9;refine (iY k W9).mono ?_;rw[c'.out];rintro e w1 ⟨rfl,rfl⟩;obtain⟨B6,D'⟩:=jF (w.heap.size+2);rw[show w.heap.size+1+1=w.heap.size+2 from rfl];rw[<-D']at hr ⊢;have J:w.heap.size<=B6:=by omega
 have h':=jD hr;have g':=jD A';clear hr A' D'
 cases kb with
 | false =>
  obtain⟨e1,e2⟩:(⟨0,0,⟨#[]⟩⟩:Vl)=RV/\1=re:=by have h:=HR.out;unfold ofR at h;rw[OG c'.out]at h;injection h with h1 h2;exact⟨h1,h2⟩
  subst e1 e2;have I:=h'.out;have z0:W9.cell? ⟨B6,0,none⟩=some (OB 0):=by rw[ab I];rfl
  have z1:W9.cell? ⟨B6,1,none⟩=some (OB 0):=by rw[ab I];rfl
  have z2:W9.cell? ⟨B6,2,none⟩=some (.string ⟨#[]⟩):=by rw[ab I];rfl
  have f0:=af I 0;have f1:=af I 1;have f2:=af I 2;have HQ:=jD (bF I (OB 0) (OB 0) (.string ⟨#[]⟩));have f':=jD (aj (aj (aj (g'.out) (i:=0) J (OB 0)) (i:=1) J (OB 0)) (i:=2) J (.string ⟨#[]⟩));clear I;go_wp2_with fail;have r0:=ab HQ.out 0;have r1:=ab HQ.out 1;have r2:=ab HQ.out 2;exact OJ (v:=.tuple #[.agg #[OB 0,OB 0,.string ⟨#[]⟩],OB 1]) (by simp[results,results234,go_sem,r0,r1,r2]) rfl ⟨rfl,f'.out⟩
 | true =>
 by_cases hlen:4096<l.length
 ·have t':(4096:Int)<(l.length:Int):=by omega
  obtain⟨e1,e2⟩:(⟨0,0,⟨#[]⟩⟩:Vl)=RV/\5=re:=by have h:=HR.out;unfold ofR at h;rw[OF (by rw[c'.out];simp),OG hlen]at h;injection h with h1 h2;exact⟨h1,h2⟩
  subst e1 e2;have I:=h'.out;have z0:W9.cell? ⟨B6,0,none⟩=some (OB 0):=by rw[ab I];rfl
  have z1:W9.cell? ⟨B6,1,none⟩=some (OB 0):=by rw[ab I];rfl
  have z2:W9.cell? ⟨B6,2,none⟩=some (.string ⟨#[]⟩):=by rw[ab I];rfl
  have f0:=af I 0;have f1:=af I 1;have f2:=af I 2;have HQ:=jD (bF I (OB 0) (OB 0) (.string ⟨#[]⟩));have f':=jD (aj (aj (aj (g'.out) (i:=0) J (OB 0)) (i:=1) J (OB 0)) (i:=2) J (.string ⟨#[]⟩));clear I;go_wp2_with fail;have r0:=ab HQ.out 0;have r1:=ab HQ.out 1;have r2:=ab HQ.out 2;exact OJ (v:=.tuple #[.agg #[OB 0,OB 0,.string ⟨#[]⟩],OB 5]) (by simp[results,results234,go_sem,r0,r1,r2]) rfl ⟨rfl,f'.out⟩
 have t':¬(4096:Int)<(l.length:Int):=by omega
 have B':Hid ((if gw k l≠0 then (au,gw k l) else qB k l.length (fI k l) o)=(RV,re)):=jD (by have h:=HR.out;unfold ofR at h;rwa [OF (by rw[c'.out];simp),OF hlen]at h);have p':=jD hlen;have X0:=jD x0;have Y0:=jD y0;have Y1:=jD y1;have Y2:=jD y2;clear hlen x0 y0 y1 y2;go_wp2_with fail
 go_loopw [24] (fun i wr=>∃j:Nat,j<=l.length/\i=OB j/\Hid (eu (fun _ v=>cC k v) (jw l j) (l.drop j)=gw k l/\OD W9 wr)) (fun i _=>l.length-(intOf i).toNat)
 case atStart=>exact⟨0,OO _,rfl,jD ⟨rfl,OK _ _⟩⟩
 case round =>
  obtain⟨j,hj,rfl,hI⟩:=hrel;have Z:=hI.out.2
  by_cases y':j<l.length
  ·have G':(j:Int)<(l.length:Int):=by omega
   obtain⟨b,o',rfl,c0,c1,c2⟩:=HL.out j l[j] (OH y');have k':=jD (OH y');obtain⟨y,hy⟩:=jF (l[j]);rw[<-hy]at c0 c1 c2 k';have d':=ae g'.out Z;replace c0:=aa d' c0;replace c1:=aa d' c1;replace c2:=aa d' c2;have x0:=aa Z X0.out;have I':b<wr.heap.size:=OV wr ⟨b,_,none⟩ c0;have J':w.heap.size<wr.heap.size:=OV wr ⟨w.heap.size,_,none⟩ x0;have n1:b≠wr.heap.size:=by omega
   have n2:wr.heap.size≠b:=by omega
   have n3:w.heap.size≠wr.heap.size:=by omega
   have n4:wr.heap.size≠w.heap.size:=by omega
   obtain⟨ey,s'⟩:=jE (cC k y);have C':=jD s';have q':=jD (fun W=>sA k y W c'.out);rw[s']at q';unfold vlV at q';clear hy s' d';go_wp2_with fail;refine aJ fun W8 e8=>?_
   have j':OD wr W8:=gb e8;clear e8;refine (q'.out W8).mono ?_;rintro e w5 ⟨rfl,a'⟩;have H5:=jD (ae Z (ae j' a'));clear j' a' x0 c0 c1 c2 n1 n2 n3 n4 Z
   by_cases hz:ey=0
   ·subst hz;go_wp2_with fail
    go_roundw
    case rel=>exact⟨j+1,by omega,by go_num,jD ⟨uZ k'.out hI.out.1 C'.out,H5.out⟩⟩
    case measure=>simp[intOf];omega
   ·have N':(ey != 0)=true:=jQ hz;have hf:gw k l=ey:=(nN k'.out hI.out.1 C'.out hz).symm;obtain⟨e1,e2⟩:(⟨0,0,⟨#[]⟩⟩:Vl)=RV/\ey=re:=by have h:=B'.out;rw[hf,OG hz]at h;injection h with h1 h2;exact⟨h1,h2⟩
    subst e1 e2;clear hz hf;have I:=(H5.out.block B6 (aX h'.out)).trans h'.out;have z0:w5.cell? ⟨B6,0,none⟩=some (OB 0):=by rw[ab I];rfl
    have z1:w5.cell? ⟨B6,1,none⟩=some (OB 0):=by rw[ab I];rfl
    have z2:w5.cell? ⟨B6,2,none⟩=some (.string ⟨#[]⟩):=by rw[ab I];rfl
    have f0:=af I 0;have f1:=af I 1;have f2:=af I 2;have HQ:=jD (bF I (OB 0) (OB 0) (.string ⟨#[]⟩));have f':=jD (aj (aj (aj (ae g'.out H5.out) (i:=0) J (OB 0)) (i:=1) J (OB 0)) (i:=2) J (.string ⟨#[]⟩));clear I;go_wp2_with fail;have r0:=ab HQ.out 0;have r1:=ab HQ.out 1;have r2:=ab HQ.out 2;exact OJ (v:=.tuple #[.agg #[OB 0,OB 0,.string ⟨#[]⟩],OB ey]) (by simp[results,results234,go_sem,r0,r1,r2]) rfl ⟨rfl,f'.out⟩
  ·have G':¬(j:Int)<(l.length:Int):=by omega
   have hf:gw k l=0:=by
    have h:=hI.out.1;rw[QL om]at h
    simpa [eu] using h.symm
   have i':qB k l.length (fI k l) o=(RV,re):=by have h:=B'.out;rwa [hf,OF jS]at h
   have l':=qg l none hf;have n':=kI c'.out l' l.length (OI _);rw[Pp]at n';have d':=ae g'.out Z;have x0:=aa Z X0.out;have y0:=aa Z Y0.out;have y1:=aa Z Y1.out;have y2:=aa Z Y2.out;have r':=jD (zO k l _ w.heap.size wr (E'.out.stays aG d') x0 c'.out l' (by have:=p'.out;omega));obtain⟨FA,x'⟩:=jE (fI k l);rw[x']at r' i' n';have m':=jD (fun W=>AB k l.length FA o W c'.out n' (by have:=p'.out;omega));rw[i']at m';unfold ei at r' m';unfold vlV at m';clear hf i' l' n' x';go_wp2_with fail;refine r'.out.mono ?_;rintro e w5 ⟨rfl,a'⟩;replace y0:=aa a' y0;replace y1:=aa a' y1;replace y2:=aa a' y2;have F':w.heap.size+1<w5.heap.size:=OV w5 ⟨w.heap.size+1,_,none⟩ y0;have n1:w.heap.size+1≠w5.heap.size:=by omega
   have n2:w5.heap.size≠w.heap.size+1:=by omega
   have H5:=jD (ae Z a');clear Z a' d' x0;go_wp2_with fail;refine aJ fun W8 e8=>?_
   have j':OD w5 W8:=gb e8;clear e8;refine (m'.out W8).mono ?_;rintro e w6 ⟨rfl,u'⟩;have H6:=jD (ae H5.out (ae j' u'));clear j' u' y0 y1 y2 n1 n2 F';have I:=(H6.out.block B6 (aX h'.out)).trans h'.out;have z0:w6.cell? ⟨B6,0,none⟩=some (OB 0):=by rw[ab I];rfl
   have z1:w6.cell? ⟨B6,1,none⟩=some (OB 0):=by rw[ab I];rfl
   have z2:w6.cell? ⟨B6,2,none⟩=some (.string ⟨#[]⟩):=by rw[ab I];rfl
   have f0:=af I 0;have f1:=af I 1;have f2:=af I 2;have HQ:=jD (bF I (OB RV.kind) (OB RV.num) (.string RV.text));have f':=jD (aj (aj (aj (ae g'.out H6.out) (i:=0) J (OB RV.kind)) (i:=1) J (OB RV.num)) (i:=2) J (.string RV.text));clear I;go_wp2_with fail;have r0:=ab HQ.out 0;have r1:=ab HQ.out 1;have r2:=ab HQ.out 2;exact OJ (v:=.tuple #[.agg #[OB RV.kind,OB RV.num,.string RV.text],OB re]) (by simp[results,results234,go_sem,r0,r1,r2]) rfl ⟨rfl,f'.out⟩
def Ol:Ac:=⟨0,0,au⟩
def mc(k:Int)(a:Ac)(v:Vl):Ac × Int:=if cC k v≠0 then (Ol,cC k v) else (jv k a v,0)
theorem Fw(k i:Int)(a:Ac)(v:Vl)(w:World)(hk:cA k=true)(h:lR k a i)(hi:0<=i/\i<4096) :
  OE 329 #[ei a,vlV v] w (.tuple #[ei (mc k a v).1,OB (mc k a v).2]):=by
 have ha:ei a=.agg #[OB k,OB i,OB a.val.kind,OB a.val.num,.string a.val.text]:=by
  unfold ei;rw[h.kind,h.count]
 have J':=jD (fun W=>rC k i a W hk h om);have y':=jD (fun W=>rb k v W);obtain⟨er,D'⟩:=jE (cC k v);have B':=jD D';have C':=jD h;have HK:=jD hk;have HI:=jD hi;rw[D']at y';obtain⟨⟨RA,re⟩,hR⟩:∃r,mc k a v=r:=⟨_,rfl⟩;have HR:=jD hR;rw[hR];rw[ha]at J' ⊢;obtain⟨Z',V'⟩:=hi;have M1:(i==4096)=false:=by (have:¬i=4096:=by omega);simpa using this
 unfold vlV at y' ⊢;unfold ei;clear D' hk h ha hR Z' V';go_enter func329,ntmps329;go_wp2_with fail;refine aJ fun W9 e9=>?_
 have x0:OC W9 w.heap.size 0 (OB k):=jG e9;have x1:OC W9 w.heap.size 1 (OB i):=jG e9;have x2:OC W9 w.heap.size 2 (OB a.val.kind):=jG e9;have x3:OC W9 w.heap.size 3 (OB a.val.num):=jG e9;have x4:OC W9 w.heap.size 4 (.string a.val.text):=jG e9;have y0:OC W9 (w.heap.size+1) 0 (OB v.kind):=jG e9;have y1:OC W9 (w.heap.size+1) 1 (OB v.num):=jG e9;have y2:OC W9 (w.heap.size+1) 2 (.string v.text):=jG e9;have hr:W9.heap[w.heap.size+2]?=some (.cells [.int .i64 0,.int .i64 0,.int .i64 0,.int .i64 0,.string ⟨#[]⟩].toArray 335 (0,0)):=by rw[e9];exact ax _ _ _ jS
 have N':OD w W9:=gb e9;clear e9;refine (J'.out W9).mono ?_;rintro e w1 ⟨rfl,h'⟩;replace x0:=aa h' x0;replace x1:=aa h' x1;replace x2:=aa h' x2;replace x3:=aa h' x3;replace x4:=aa h' x4;replace y0:=aa h' y0;replace y1:=aa h' y1;replace y2:=aa h' y2;have z':=(h'.block _ (aX hr)).trans hr;obtain⟨B4,P'⟩:=jF (w.heap.size+2);rw[show w.heap.size+1+1=w.heap.size+2 from rfl];rw[<-P']at z' ⊢;have Z:w.heap.size<=B4:=by omega
 have E1:w.heap.size≠B4:=by omega
 have C1:w.heap.size+1≠B4:=by omega
 have R':=jD (ae N' h');have A':=jD z';clear N' h' hr z' P';go_wp2_with fail;refine (y'.out _).mono ?_;rintro e w2 ⟨rfl,g'⟩;replace x0:=aa g' x0;replace x1:=aa g' x1;replace x2:=aa g' x2;replace x3:=aa g' x3;replace x4:=aa g' x4;replace y0:=aa g' y0;replace y1:=aa g' y1;replace y2:=aa g' y2;have u':=jD ((g'.block _ (aX A'.out)).trans A'.out);have s':=jD (ae R'.out g');clear g' A' R'
 by_cases h0:er=0
 case neg =>
  obtain⟨e1,e2⟩:(⟨0,0,⟨0,0,⟨#[]⟩⟩⟩:Ac)=RA/\er=re:=by have h:=HR.out;unfold mc at h;rw[B'.out,OG h0]at h;injection h with h1 h2;exact⟨h1,h2⟩
  subst e1 e2;have K1:(er != 0)=true:=jQ h0;clear h0;have rr:=u'.out;have z0:w2.cell? ⟨B4,0,none⟩=some (OB 0):=by rw[ab rr];rfl
  have z1:w2.cell? ⟨B4,1,none⟩=some (OB 0):=by rw[ab rr];rfl
  have z2:w2.cell? ⟨B4,2,none⟩=some (OB 0):=by rw[ab rr];rfl
  have z3:w2.cell? ⟨B4,3,none⟩=some (OB 0):=by rw[ab rr];rfl
  have z4:w2.cell? ⟨B4,4,none⟩=some (.string ⟨#[]⟩):=by rw[ab rr];rfl
  have f0:=af rr 0;have f1:=af rr 1;have f2:=af rr 2;have f3:=af rr 3;have f4:=af rr 4;have HQ:=jD (cV rr (OB 0) (OB 0) (OB 0) (OB 0) (.string ⟨#[]⟩));have j':=jD (aj (aj (aj (aj (aj (s'.out) (i:=0) Z (OB 0)) (i:=1) Z (OB 0)) (i:=2) Z (OB 0)) (i:=3) Z (OB 0)) (i:=4) Z (.string ⟨#[]⟩));clear rr;go_wp2_with fail;have q0:=ab HQ.out 0;have q1:=ab HQ.out 1;have q2:=ab HQ.out 2;have q3:=ab HQ.out 3;have q4:=ab HQ.out 4;exact OJ (v:=.tuple #[.agg #[OB 0,OB 0,OB 0,OB 0,.string ⟨#[]⟩],OB er]) (by simp[results,results329,go_sem,q0,q1,q2,q3,q4]) rfl ⟨rfl,j'.out⟩
 subst h0;obtain⟨e1,e2⟩:jv k a v=RA/\0=re:=by have h:=HR.out;unfold mc at h;rw[B'.out,OF jS]at h;injection h with h1 h2;exact⟨h1,h2⟩
 have hs:RA=if i=0 then ⟨k,1,fP k v⟩ else ⟨k,i+1,dR k a.val (fP k v)⟩:=by
  rw[<-e1];unfold jv oL;rw[C'.out.kind,C'.out.count]
  by_cases f':i=0
  ·rw[OG f',OG f']
  ·rw[OF f',OF f',OF jS]
 clear e1;subst e2;have x':B4<w2.heap.size:=aX u'.out;have S0:w.heap.size<w2.heap.size:=OV w2 ⟨w.heap.size,_,none⟩ x0;have C0:w.heap.size+1<w2.heap.size:=OV w2 ⟨w.heap.size+1,_,none⟩ y0;have m0:w.heap.size≠w2.heap.size:=by omega
 have U':w2.heap.size≠w.heap.size:=by omega
 have m1:w.heap.size+1≠w2.heap.size:=by omega
 have U0:w2.heap.size≠w.heap.size+1:=fun e=>m1 e.symm
 have m4:B4≠w2.heap.size:=by omega
 have H0:w2.heap.size≠B4:=by omega
 have K0:w.heap.size<=w2.heap.size:=s'.out.size;have T':i+1<=9223372036854775807/\-9223372036854775808<=i+1:=by have:=HI.out;omega
 obtain⟨X0,Z0⟩:=T';obtain⟨B8,G'⟩:=jF w2.heap.size;have i':w.heap.size<=B8:=by omega
 have k':B4≠B8:=by omega
 have F1:w.heap.size≠B8:=by omega
 have G1:w.heap.size+1≠B8:=by omega
 go_upto_region 10 with fail
 refine bV fun w3 e3=>?_
 have m':w3.heap[B8]?=some (.cells [.int .i64 k,.int .i64 (i+1),.int .i64 v.kind,.int .i64 v.num,.string v.text].toArray 335 (0,0)):=by rw[e3,G'];exact ax _ _ _ rfl
 have a':OD w2 w3:=gb e3;have p':=(a'.block B4 x').trans u'.out;replace x0:=aa a' x0;replace x1:=aa a' x1;replace x2:=aa a' x2;replace x3:=aa a' x3;replace x4:=aa a' x4;replace y0:=aa a' y0;replace y1:=aa a' y1;replace y2:=aa a' y2;have E':=jD (ae s'.out a');have d':=jD m';have r':=jD p';rw[<-G'];clear e3 a' m' p' G' S0 C0 m0 U' m1 U0 m4 H0 x' K0 u' s'
 by_cases l':k=0
 ·subst l';have Y':RA=⟨0,i+1,⟨0,0,⟨#[]⟩⟩⟩:=by
   rw[hs]
   by_cases f':i=0
   ·rw[OG f',f'];rfl
   ·rw[OF f'];rfl
  subst Y';clear hs;have u0:w3.cell? ⟨B8,0,none⟩=some (OB 0):=by rw[ab d'.out];rfl
  have u1:w3.cell? ⟨B8,1,none⟩=some (OB (i+1)):=by rw[ab d'.out];rfl
  have u2:w3.cell? ⟨B8,2,none⟩=some (OB v.kind):=by rw[ab d'.out];rfl
  have u3:w3.cell? ⟨B8,3,none⟩=some (OB v.num):=by rw[ab d'.out];rfl
  have u4:w3.cell? ⟨B8,4,none⟩=some (.string v.text):=by rw[ab d'.out];rfl
  have g0:=af d'.out 0;have g1:=af d'.out 1;have g2:=af d'.out 2;have g3:=af d'.out 3;have g4:=af d'.out 4;clear x1 x2 x3 x4 y0 y1 y2
  go_upto_region 14 with fail
  refine bV fun w4 e4=>?_
  have J:Hid (w4.heap[B8]?=some (.cells [.int .i64 0,.int .i64 (i+1),.int .i64 0,.int .i64 0,.string ⟨#[]⟩].toArray 335 (0,0))):=jD (by rw[e4];exact dV (dV (dV d'.out 2 (OB 0)) 3 (OB 0)) 4 (.string ⟨#[]⟩));have I:=jD (dN (i:=4) k' (.string ⟨#[]⟩) (dN (i:=3) k' (OB 0) (dN (i:=2) k' (OB 0) r'.out)));have n':=jD (aj (aj (aj E'.out (i:=2) i' (OB 0)) (i:=3) i' (OB 0)) (i:=4) i' (.string ⟨#[]⟩));rw[<-e4]at I n';clear e4 u0 u1 u2 u3 u4 g0 g1 g2 g3 g4;have u0:w4.cell? ⟨B8,0,none⟩=some (OB 0):=by rw[ab J.out];rfl
  have u1:w4.cell? ⟨B8,1,none⟩=some (OB (i+1)):=by rw[ab J.out];rfl
  have u2:w4.cell? ⟨B8,2,none⟩=some (OB 0):=by rw[ab J.out];rfl
  have u3:w4.cell? ⟨B8,3,none⟩=some (OB 0):=by rw[ab J.out];rfl
  have u4:w4.cell? ⟨B8,4,none⟩=some (.string ⟨#[]⟩):=by rw[ab J.out];rfl
  have g0:=af J.out 0;have g1:=af J.out 1;have g2:=af J.out 2;have g3:=af J.out 3;have g4:=af J.out 4;have z0:w4.cell? ⟨B4,0,none⟩=some (OB 0):=by rw[ab I.out];rfl
  have z1:w4.cell? ⟨B4,1,none⟩=some (OB 0):=by rw[ab I.out];rfl
  have z2:w4.cell? ⟨B4,2,none⟩=some (OB 0):=by rw[ab I.out];rfl
  have z3:w4.cell? ⟨B4,3,none⟩=some (OB 0):=by rw[ab I.out];rfl
  have z4:w4.cell? ⟨B4,4,none⟩=some (.string ⟨#[]⟩):=by rw[ab I.out];rfl
  have f0:=af I.out 0;have f1:=af I.out 1;have f2:=af I.out 2;have f3:=af I.out 3;have f4:=af I.out 4;have HQ:=jD (cV I.out (OB 0) (OB (i+1)) (OB 0) (OB 0) (.string ⟨#[]⟩));have j':=jD (aj (aj (aj (aj (aj (n'.out) (i:=0) Z (OB 0)) (i:=1) Z (OB (i+1))) (i:=2) Z (OB 0)) (i:=3) Z (OB 0)) (i:=4) Z (.string ⟨#[]⟩));clear x0;go_wp2_with fail;have q0:=ab HQ.out 0;have q1:=ab HQ.out 1;have q2:=ab HQ.out 2;have q3:=ab HQ.out 3;have q4:=ab HQ.out 4;exact OJ (v:=.tuple #[.agg #[OB 0,OB (i+1),OB 0,OB 0,.string ⟨#[]⟩],OB 0]) (by simp[results,results329,go_sem,q0,q1,q2,q3,q4]) rfl ⟨rfl,j'.out⟩
 have A1:(k==0)=false:=jQ l';have q':fP k v=v:=by unfold fP;rw[OF l']
 rw[q']at hs
 by_cases f':i=0
 ·subst f';rw[OG rfl]at hs;subst hs;clear l' q';have J:=d';have I:=r';clear x2 x3 x4 y0 y1 y2
  go_upto_region 14 with fail
  have u0:w3.cell? ⟨B8,0,none⟩=some (OB k):=by rw[ab J.out];rfl
  have u1:w3.cell? ⟨B8,1,none⟩=some (OB 1):=by rw[ab J.out];rfl
  have u2:w3.cell? ⟨B8,2,none⟩=some (OB v.kind):=by rw[ab J.out];rfl
  have u3:w3.cell? ⟨B8,3,none⟩=some (OB v.num):=by rw[ab J.out];rfl
  have u4:w3.cell? ⟨B8,4,none⟩=some (.string v.text):=by rw[ab J.out];rfl
  have g0:=af J.out 0;have g1:=af J.out 1;have g2:=af J.out 2;have g3:=af J.out 3;have g4:=af J.out 4;have z0:w3.cell? ⟨B4,0,none⟩=some (OB 0):=by rw[ab I.out];rfl
  have z1:w3.cell? ⟨B4,1,none⟩=some (OB 0):=by rw[ab I.out];rfl
  have z2:w3.cell? ⟨B4,2,none⟩=some (OB 0):=by rw[ab I.out];rfl
  have z3:w3.cell? ⟨B4,3,none⟩=some (OB 0):=by rw[ab I.out];rfl
  have z4:w3.cell? ⟨B4,4,none⟩=some (.string ⟨#[]⟩):=by rw[ab I.out];rfl
  have f0:=af I.out 0;have f1:=af I.out 1;have f2:=af I.out 2;have f3:=af I.out 3;have f4:=af I.out 4;have HQ:=jD (cV I.out (OB k) (OB 1) (OB v.kind) (OB v.num) (.string v.text));have j':=jD (aj (aj (aj (aj (aj (E'.out) (i:=0) Z (OB k)) (i:=1) Z (OB 1)) (i:=2) Z (OB v.kind)) (i:=3) Z (OB v.num)) (i:=4) Z (.string v.text));clear x0 x1;go_wp2_with fail;have q0:=ab HQ.out 0;have q1:=ab HQ.out 1;have q2:=ab HQ.out 2;have q3:=ab HQ.out 3;have q4:=ab HQ.out 4;exact OJ (v:=.tuple #[.agg #[OB k,OB 1,OB v.kind,OB v.num,.string v.text],OB 0]) (by simp[results,results329,go_sem,q0,q1,q2,q3,q4]) rfl ⟨rfl,j'.out⟩
 rw[OF f']at hs;have Y0:(0:Int)<i:=by have:=HI.out;omega
 have Q':lR k ⟨k,1,fP k v⟩ 1:=by
  have:=um HK.out (qh k) dc B'.out;unfold jv oL at this
  rwa [OG rfl]at this
 have H':=vP HK.out Q' dc;rw[q']at H';have I':=vP HK.out C'.out (by have:=HI.out;omega);have F':=jD (fun W=>uz k a.val v W I' H');obtain⟨C,hC⟩:=jE (dR k a.val v);rw[hC]at hs F';subst hs;unfold vlV at F';clear l' q' f' Q' H' I' hC;go_wp2_with fail;refine (F'.out _).mono ?_;rintro e w5 ⟨rfl,t'⟩;have m':=(t'.block _ (aX d'.out)).trans d'.out;have p':=(t'.block _ (aX r'.out)).trans r'.out;have V0:=jD (ae E'.out t');clear x0 x1 x2 x3 x4 y0 y1 y2 t';have c':=jD m';have S':=jD p';clear m' p';have u0:w5.cell? ⟨B8,0,none⟩=some (OB k):=by rw[ab c'.out];rfl
 have u1:w5.cell? ⟨B8,1,none⟩=some (OB (i+1)):=by rw[ab c'.out];rfl
 have u2:w5.cell? ⟨B8,2,none⟩=some (OB v.kind):=by rw[ab c'.out];rfl
 have u3:w5.cell? ⟨B8,3,none⟩=some (OB v.num):=by rw[ab c'.out];rfl
 have u4:w5.cell? ⟨B8,4,none⟩=some (.string v.text):=by rw[ab c'.out];rfl
 have g0:=af c'.out 0;have g1:=af c'.out 1;have g2:=af c'.out 2;have g3:=af c'.out 3;have g4:=af c'.out 4
 go_upto_region 14 with fail
 refine bV fun w4 e4=>?_
 have J:Hid (w4.heap[B8]?=some (.cells [.int .i64 k,.int .i64 (i+1),.int .i64 C.kind,.int .i64 C.num,.string C.text].toArray 335 (0,0))):=jD (by rw[e4];exact dV (dV (dV c'.out 2 (OB C.kind)) 3 (OB C.num)) 4 (.string C.text));have I:=jD (dN (i:=4) k' (.string C.text) (dN (i:=3) k' (OB C.num) (dN (i:=2) k' (OB C.kind) S'.out)));have n':=jD (aj (aj (aj V0.out (i:=2) i' (OB C.kind)) (i:=3) i' (OB C.num)) (i:=4) i' (.string C.text));rw[<-e4]at I n';clear e4 u0 u1 u2 u3 u4 g0 g1 g2 g3 g4;have u0:w4.cell? ⟨B8,0,none⟩=some (OB k):=by rw[ab J.out];rfl
 have u1:w4.cell? ⟨B8,1,none⟩=some (OB (i+1)):=by rw[ab J.out];rfl
 have u2:w4.cell? ⟨B8,2,none⟩=some (OB C.kind):=by rw[ab J.out];rfl
 have u3:w4.cell? ⟨B8,3,none⟩=some (OB C.num):=by rw[ab J.out];rfl
 have u4:w4.cell? ⟨B8,4,none⟩=some (.string C.text):=by rw[ab J.out];rfl
 have g0:=af J.out 0;have g1:=af J.out 1;have g2:=af J.out 2;have g3:=af J.out 3;have g4:=af J.out 4;have z0:w4.cell? ⟨B4,0,none⟩=some (OB 0):=by rw[ab I.out];rfl
 have z1:w4.cell? ⟨B4,1,none⟩=some (OB 0):=by rw[ab I.out];rfl
 have z2:w4.cell? ⟨B4,2,none⟩=some (OB 0):=by rw[ab I.out];rfl
 have z3:w4.cell? ⟨B4,3,none⟩=some (OB 0):=by rw[ab I.out];rfl
 have z4:w4.cell? ⟨B4,4,none⟩=some (.string ⟨#[]⟩):=by rw[ab I.out];rfl
 have f0:=af I.out 0;have f1:=af I.out 1;have f2:=af I.out 2;have f3:=af I.out 3;have f4:=af I.out 4;have HQ:=jD (cV I.out (OB k) (OB (i+1)) (OB C.kind) (OB C.num) (.string C.text));have j':=jD (aj (aj (aj (aj (aj (n'.out) (i:=0) Z (OB k)) (i:=1) Z (OB (i+1))) (i:=2) Z (OB C.kind)) (i:=3) Z (OB C.num)) (i:=4) Z (.string C.text));go_wp2_with fail;have q0:=ab HQ.out 0;have q1:=ab HQ.out 1;have q2:=ab HQ.out 2;have q3:=ab HQ.out 3;have q4:=ab HQ.out 4;exact OJ (v:=.tuple #[.agg #[OB k,OB (i+1),OB C.kind,OB C.num,.string C.text],OB 0]) (by simp[results,results329,go_sem,q0,q1,q2,q3,q4]) rfl ⟨rfl,j'.out⟩
end Go.Proofs.YteemngnialjaiaaGreatDoor
