/- Part. -/
import Derived.Test.YtbjicljfjkdeeaaGreatDoorQ12
set_option maxRecDepth 100000
set_option maxHeartbeats 16000000
set_option linter.unusedVariables false
set_option linter.unusedSimpArgs false
namespace Go.Proofs.YtbjicljfjkdeeaaGreatDoor
open Go.Proofs.Tryz Go.RowKit
def AccIn (W:World) (G:Nat):Prop:=∃v0 v1 v2 v3 v4,W.heap[G]?=some (.cells [v0,v1,v2,v3,v4].toArray 317 (0,0))
theorem AccIn.mk {W:World} {G:Nat} {v0 v1 v2 v3 v4:Value} (h:W.heap[G]?=some (.cells [v0,v1,v2,v3,v4].toArray 317 (0,0))):AccIn W G:=⟨_,_,_,_,_,h⟩
theorem AccIn.bel {W W':World} {G:Nat} (h:AccIn W G) (z:Mm W W'):AccIn W' G:=by
 obtain⟨v0,v1,v2,v3,v4,h⟩:=h;exact⟨_,_,_,_,_,(z.block G (bC h)).trans h⟩
theorem tI {w:World} {g b p:Nat} {u:Value} (z:b≠g) (a0 G a2 a3 a4:Value) (h:w.cell? ⟨b,p,none⟩=some u):(((((w.setCell ⟨g,0,none⟩ a0).setCell ⟨g,1,none⟩ G).setCell ⟨g,2,none⟩ a2).setCell ⟨g,3,none⟩ a3).setCell ⟨g,4,none⟩ a4).cell? ⟨b,p,none⟩=some u:=by
 go_simp
theorem iR {w:World} {g:Nat} {t:TypeId} {J Z I G O:Value} (h:w.heap[g]?=some (.cells [J,Z,I,G,O].toArray t (0,0))) (a0 z a2 a3 a4:Value) :
  (((((w.setCell ⟨g,0,none⟩ a0).setCell ⟨g,1,none⟩ z).setCell ⟨g,2,none⟩ a2).setCell ⟨g,3,none⟩ a3).setCell ⟨g,4,none⟩ a4).heap[g]?=some (.cells [a0,z,a2,a3,a4].toArray t (0,0)) :=
 gm (gm (gm (gm (gm h 0 a0) 1 z) 2 a2) 3 a3) 4 a4
theorem Bk (a b:Ac) (w:World) (hk:dg a.kind=true) (g':0<=a.count/\a.count<=100000) (k':0<=b.count/\b.count<=100000)
  (ha:-2305843009213693952<=a.val.num/\a.val.num<=2305843009213693952) (hb:-2305843009213693952<=b.val.num/\b.val.num<=2305843009213693952) :
  Mn 284 #[gw a,gw b] w (gw (tC a b)):=by
 have c':=jD (fun W=>xp a.kind a.val b.val W hk ha hb);unfold tC
 by_cases h0:a.count=0
 ·rw[Mp h0];have j':(a.count==0)=true:=jQ h0;clear h0;unfold gw;go_enter func284,ntmps284;go_wp2;exact Mv (v:=.agg #[Mk b.kind,Mk b.count,Mk b.val.kind,Mk b.val.num,.string b.val.text]) (by simp[results,results284,go_sem]) rfl ⟨rfl,jB⟩
 rw[Mo h0];have j':(a.count==0)=false:=jQ h0;clear h0
 by_cases h1:b.count=0
 ·rw[Mp h1];have m':(b.count==0)=true:=jQ h1;clear h1;unfold gw;go_enter func284,ntmps284;go_wp2;exact Mv (v:=.agg #[Mk a.kind,Mk a.count,Mk a.val.kind,Mk a.val.num,.string a.val.text]) (by simp[results,results284,go_sem]) rfl ⟨rfl,jB⟩
 rw[Mo h1];have m':(b.count==0)=false:=jQ h1;obtain⟨p',q'⟩:=g';obtain⟨s',r'⟩:=k';have hw:IntKind.i64.wrap (a.count+b.count)=a.count+b.count:=by simp[IntKind.wrap,IntKind.bits,IntKind.signed];omega
 obtain⟨C,hC⟩:=jE (fJ a.kind a.val b.val);rw[hC]at c' ⊢;unfold vlV at c';clear h1 hC hk ha hb;unfold gw;go_enter func284,ntmps284;go_wp2_with fail;refine bg fun w1 e1=>?_
 have x0:Ml w1 w.heap.size 0 (Mk a.kind):=jG e1;have x1:Ml w1 w.heap.size 1 (Mk a.count):=jG e1;have x2:Ml w1 w.heap.size 2 (Mk a.val.kind):=jG e1;have x3:Ml w1 w.heap.size 3 (Mk a.val.num):=jG e1;have x4:Ml w1 w.heap.size 4 (.string a.val.text):=jG e1;have y0:Ml w1 (w.heap.size+1) 0 (Mk b.kind):=jG e1;have y1:Ml w1 (w.heap.size+1) 1 (Mk b.count):=jG e1;have y2:Ml w1 (w.heap.size+1) 2 (Mk b.val.kind):=jG e1;have y3:Ml w1 (w.heap.size+1) 3 (Mk b.val.num):=jG e1;have y4:Ml w1 (w.heap.size+1) 4 (.string b.val.text):=jG e1;have hr:w1.heap[w.heap.size+2]?=some (.cells [.int .i64 0,.int .i64 0,.int .i64 0,.int .i64 0,.string ⟨#[]⟩].toArray 317 (0,0)):=by rw[e1];exact ax _ _ _ jS
 have f':Mm w w1:=gb e1;obtain⟨G,hG⟩:=jF (w.heap.size+2);have a':w.heap.size<=G:=by omega
 have i':G<w1.heap.size:=by rw[e1,hG];simp
 have Z:w.heap.size≠G:=by omega
 have J:w.heap.size+1≠G:=by omega
 clear e1;rw[show w.heap.size+1+1=w.heap.size+2 from rfl];rw[<-hG]at hr ⊢;have h':=jD f';have n':=jD hr;clear f' hr hG i';refine wp_region_noPanic ?_;refine wp_region_held_drew (S:=fun W=>Mm w W/\Ml W w.heap.size 0 (Mk a.kind)/\Ml W w.heap.size 1 (Mk a.count)/\Ml W w.heap.size 2 (Mk a.val.kind)/\Ml W w.heap.size 3 (Mk a.val.num)/\Ml W w.heap.size 4 (.string a.val.text)/\Ml W (w.heap.size+1) 0 (Mk b.kind)/\Ml W (w.heap.size+1) 1 (Mk b.count)/\Ml W (w.heap.size+1) 2 (Mk b.val.kind)/\Ml W (w.heap.size+1) 3 (Mk b.val.num)/\Ml W (w.heap.size+1) 4 (.string b.val.text)/\AccIn W G) kr (⟨h'.out.drew,x0,x1,x2,x3,x4,y0,y1,y2,y3,y4,AccIn.mk n'.out⟩) (fun z=>?_);generalize w1.drew=wD at z ⊢;refine tkH [0,1,2,3,4,5,6,7,8,9,10,11,12] ?_;refine nxH 13 (fun K hK=>?_)
 focus (go_simp;go_at_call 312;refine (c'.out _).mono ?_;rintro e w5 ⟨rfl,I⟩)
 refine hK.out _ _ (⟨ab z.1 I,aa I z.2.1,aa I z.2.2.1,aa I z.2.2.2.1,aa I z.2.2.2.2.1,aa I z.2.2.2.2.2.1,aa I z.2.2.2.2.2.2.1,aa I z.2.2.2.2.2.2.2.1,aa I z.2.2.2.2.2.2.2.2.1,aa I z.2.2.2.2.2.2.2.2.2.1,aa I z.2.2.2.2.2.2.2.2.2.2.1,(z.2.2.2.2.2.2.2.2.2.2.2).bel I⟩) (fun z=>?_);clear hK K;refine tkH [14] ?_;refine nxH 15 (fun K hK=>?_);obtain⟨v0,v1,v2,v3,v4,rr⟩:=z.2.2.2.2.2.2.2.2.2.2.2;have z0:w5.cell? ⟨G,0,none⟩=some v0:=by rw[ae rr];rfl
 have z1:w5.cell? ⟨G,1,none⟩=some v1:=by rw[ae rr];rfl
 have z2:w5.cell? ⟨G,2,none⟩=some v2:=by rw[ae rr];rfl
 have z3:w5.cell? ⟨G,3,none⟩=some v3:=by rw[ae rr];rfl
 have z4:w5.cell? ⟨G,4,none⟩=some v4:=by rw[ae rr];rfl
 have f0:=aw rr 0;have f1:=aw rr 1;have f2:=aw rr 2;have f3:=aw rr 3;have f4:=aw rr 4;have HQ:=jD (iR rr (Mk a.kind) (Mk (a.count+b.count)) (Mk C.kind) (Mk C.num) (.string C.text));have d':=jD (aq (aq (aq (aq (aq z.1 (i:=0) a' (Mk a.kind)) (i:=1) a' (Mk (a.count+b.count))) (i:=2) a' (Mk C.kind)) (i:=3) a' (Mk C.num)) (i:=4) a' (.string C.text));have O:=jD (fun (bk:Nat) (p:Nat) (u:Value) (l':bk≠G) (h:w5.cell? ⟨bk,p,none⟩=some u)=>tI l' (Mk a.kind) (Mk (a.count+b.count)) (Mk C.kind) (Mk C.num) (.string C.text) h);clear rr
 go_simp
 refine hK.out _ _ (⟨d'.out,O.out _ _ _ (by first|exact Z|exact J) z.2.1,O.out _ _ _ (by first|exact Z|exact J) z.2.2.1,O.out _ _ _ (by first|exact Z|exact J) z.2.2.2.1,O.out _ _ _ (by first|exact Z|exact J) z.2.2.2.2.1,O.out _ _ _ (by first|exact Z|exact J) z.2.2.2.2.2.1,O.out _ _ _ (by first|exact Z|exact J) z.2.2.2.2.2.2.1,O.out _ _ _ (by first|exact Z|exact J) z.2.2.2.2.2.2.2.1,O.out _ _ _ (by first|exact Z|exact J) z.2.2.2.2.2.2.2.2.1,O.out _ _ _ (by first|exact Z|exact J) z.2.2.2.2.2.2.2.2.2.1,O.out _ _ _ (by first|exact Z|exact J) z.2.2.2.2.2.2.2.2.2.2.1,AccIn.mk HQ.out⟩) (fun z=>?_);clear hK K;refine dn ?_;go_wp2_with fail;have q0:=ae HQ.out 0;have q1:=ae HQ.out 1;have q2:=ae HQ.out 2;have q3:=ae HQ.out 3;have q4:=ae HQ.out 4;exact Mv (v:=.agg #[Mk a.kind,Mk (a.count+b.count),Mk C.kind,Mk C.num,.string C.text]) (by simp[results,results284,go_sem,q0,q1,q2,q3,q4]) rfl ⟨rfl,d'.out⟩
theorem JB (k i:Int) (a:Ac) (v:Vl) (p:Nat) (w:World) (hp:w.cell? ⟨p,0,none⟩=some (Mk k)) (hk:dg k=true) (h:rM k a i) (hi:0<=i/\i<=4096) (hv:ed k v=0) :
  Mn 283 #[gw a,vlV v,.pointer (some ⟨p,0,none⟩)] w (gw (oC k a v)):=by
 have k':rM k ⟨k,1,iC k v⟩ 1:=by
  have:=BI hk (xh k) dc hv;unfold oC tC at this
  rwa [Mp rfl]at this
 have j':=Hx hk k' dc;have f':=jD (fun W=>Bk a ⟨k,1,iC k v⟩ W (by rw[h.kind];exact hk) (by rw[h.count];omega) (by simp only;decide) (Hx hk h hi) j');have g':=jD (Bc k v);obtain⟨M,hM⟩:=jE (oC k a v);have m':tC a ⟨k,1,iC k v⟩=M:=hM;rw[m']at f';rw[hM];obtain⟨sv,i'⟩:=jE (iC k v);rw[i']at f' g';have n':p<w.heap.size:=Ms w ⟨p,_,none⟩ hp;unfold vlV at g' ⊢;unfold gw at f' ⊢;clear hM m' i' j' k' hv h hk hi;go_enter func283,ntmps283;go_wp2_with fail;refine bg fun w1 e1=>?_
 have x0:Ml w1 w.heap.size 0 (Mk a.kind):=jG e1;have x1:Ml w1 w.heap.size 1 (Mk a.count):=jG e1;have x2:Ml w1 w.heap.size 2 (Mk a.val.kind):=jG e1;have x3:Ml w1 w.heap.size 3 (Mk a.val.num):=jG e1;have x4:Ml w1 w.heap.size 4 (.string a.val.text):=jG e1;have y0:Ml w1 (w.heap.size+1) 0 (Mk v.kind):=jG e1;have y1:Ml w1 (w.heap.size+1) 1 (Mk v.num):=jG e1;have y2:Ml w1 (w.heap.size+1) 2 (.string v.text):=jG e1;have hr:w1.heap[w.heap.size+2]?=some (.cells [.int .i64 0,.int .i64 0,.int .i64 0,.int .i64 0,.string ⟨#[]⟩].toArray 317 (0,0)):=by rw[e1];exact ax _ _ _ jS
 have h':Mm w w1:=gb e1;have p0:=aa h' hp;obtain⟨G,hG⟩:=jF (w.heap.size+2);have d':w.heap.size<=G:=by omega
 have a':w.heap.size≠G:=by omega
 have O:w.heap.size+1≠G:=by omega
 have c':p≠G:=by omega
 clear e1;rw[show w.heap.size+1+1=w.heap.size+2 from rfl];rw[<-hG]at hr ⊢;have p':=jD h';have r':=jD hr;clear h' hr hG n';refine wp_region_noPanic ?_;refine wp_region_held_drew (S:=fun W=>Mm w W/\Ml W w.heap.size 0 (Mk a.kind)/\Ml W w.heap.size 1 (Mk a.count)/\Ml W w.heap.size 2 (Mk a.val.kind)/\Ml W w.heap.size 3 (Mk a.val.num)/\Ml W w.heap.size 4 (.string a.val.text)/\Ml W (w.heap.size+1) 0 (Mk v.kind)/\Ml W (w.heap.size+1) 1 (Mk v.num)/\Ml W (w.heap.size+1) 2 (.string v.text)/\Ml W p 0 (Mk k)/\AccIn W G) kr (⟨p'.out.drew,x0,x1,x2,x3,x4,y0,y1,y2,p0,AccIn.mk r'.out⟩) (fun z=>?_);generalize w1.drew=wD at z ⊢;refine tkH [0,1,2,3] ?_;refine nxH 4 (fun K hK=>?_)
 focus (go_simp;go_at_call 285;refine (g'.out _).mono ?_;rintro e w5 ⟨rfl,J⟩)
 refine hK.out _ _ (⟨ab z.1 J,aa J z.2.1,aa J z.2.2.1,aa J z.2.2.2.1,aa J z.2.2.2.2.1,aa J z.2.2.2.2.2.1,aa J z.2.2.2.2.2.2.1,aa J z.2.2.2.2.2.2.2.1,aa J z.2.2.2.2.2.2.2.2.1,aa J z.2.2.2.2.2.2.2.2.2.1,(z.2.2.2.2.2.2.2.2.2.2).bel J⟩) (fun z=>?_);clear hK K;refine tkH [5] ?_;refine nxH 6 (fun K hK=>?_)
 focus (go_simp;go_at_call 284;refine (f'.out _).mono ?_;rintro e w6 ⟨rfl,I⟩)
 refine hK.out _ _ (⟨ab z.1 I,aa I z.2.1,aa I z.2.2.1,aa I z.2.2.2.1,aa I z.2.2.2.2.1,aa I z.2.2.2.2.2.1,aa I z.2.2.2.2.2.2.1,aa I z.2.2.2.2.2.2.2.1,aa I z.2.2.2.2.2.2.2.2.1,aa I z.2.2.2.2.2.2.2.2.2.1,(z.2.2.2.2.2.2.2.2.2.2).bel I⟩) (fun z=>?_);clear hK K;refine nxH 7 (fun K hK=>?_);obtain⟨v0,v1,v2,v3,v4,rr⟩:=z.2.2.2.2.2.2.2.2.2.2;have z0:w6.cell? ⟨G,0,none⟩=some v0:=by rw[ae rr];rfl
 have z1:w6.cell? ⟨G,1,none⟩=some v1:=by rw[ae rr];rfl
 have z2:w6.cell? ⟨G,2,none⟩=some v2:=by rw[ae rr];rfl
 have z3:w6.cell? ⟨G,3,none⟩=some v3:=by rw[ae rr];rfl
 have z4:w6.cell? ⟨G,4,none⟩=some v4:=by rw[ae rr];rfl
 have f0:=aw rr 0;have f1:=aw rr 1;have f2:=aw rr 2;have f3:=aw rr 3;have f4:=aw rr 4;have HQ:=jD (iR rr (Mk M.kind) (Mk M.count) (Mk M.val.kind) (Mk M.val.num) (.string M.val.text));have l':=jD (aq (aq (aq (aq (aq z.1 (i:=0) d' (Mk M.kind)) (i:=1) d' (Mk M.count)) (i:=2) d' (Mk M.val.kind)) (i:=3) d' (Mk M.val.num)) (i:=4) d' (.string M.val.text));have Z:=jD (fun (bk:Nat) (q:Nat) (u:Value) (q':bk≠G) (h:w6.cell? ⟨bk,q,none⟩=some u)=>tI q' (Mk M.kind) (Mk M.count) (Mk M.val.kind) (Mk M.val.num) (.string M.val.text) h);clear rr
 go_simp
 refine hK.out _ _ (⟨l'.out,Z.out _ _ _ (by first|exact a'|exact O|exact c') z.2.1,Z.out _ _ _ (by first|exact a'|exact O|exact c') z.2.2.1,Z.out _ _ _ (by first|exact a'|exact O|exact c') z.2.2.2.1,Z.out _ _ _ (by first|exact a'|exact O|exact c') z.2.2.2.2.1,Z.out _ _ _ (by first|exact a'|exact O|exact c') z.2.2.2.2.2.1,Z.out _ _ _ (by first|exact a'|exact O|exact c') z.2.2.2.2.2.2.1,Z.out _ _ _ (by first|exact a'|exact O|exact c') z.2.2.2.2.2.2.2.1,Z.out _ _ _ (by first|exact a'|exact O|exact c') z.2.2.2.2.2.2.2.2.1,Z.out _ _ _ (by first|exact a'|exact O|exact c') z.2.2.2.2.2.2.2.2.2.1,AccIn.mk HQ.out⟩) (fun z=>?_);clear hK K;refine dn ?_;go_wp2_with fail;have q0:=ae HQ.out 0;have q1:=ae HQ.out 1;have q2:=ae HQ.out 2;have q3:=ae HQ.out 3;have q4:=ae HQ.out 4;exact Mv (v:=.agg #[Mk M.kind,Mk M.count,Mk M.val.kind,Mk M.val.num,.string M.val.text]) (by simp[results,results283,go_sem,q0,q1,q2,q3,q4]) rfl ⟨rfl,l'.out⟩
def GE (a:Ac):List Value:=[Mk a.kind,Mk a.count,Mk a.val.kind,Mk a.val.num,.string a.val.text]
theorem iz {W:World} {g b i:Nat} {o:Obj} (z:b≠g) (v:Value) (h:W.heap[b]?=some o):(W.setCell ⟨g,i,none⟩ v).heap[b]?=some o :=
 ((CT W g i v).block b (Array.getElem?_eq_some_iff.1 h).1 (fun e=>z (MX e))).trans h
theorem zP {w:World} {g b:Nat} {o:Obj} (z:b≠g) (a0 G a2 a3 a4:Value) (h:w.heap[b]?=some o):(((((w.setCell ⟨g,0,none⟩ a0).setCell ⟨g,1,none⟩ G).setCell ⟨g,2,none⟩ a2).setCell ⟨g,3,none⟩ a3).setCell ⟨g,4,none⟩ a4).heap[b]?=some o :=
 iz z _ (iz z _ (iz z _ (iz z _ (iz z _ h))))
def iB (k:Int) (l:List Vl):Ac:=l.foldl (oC k) ⟨k,0,ah⟩
theorem rz {k:Int} {l:List Vl} {j:Nat} {x:Vl} (h:l[j]?=some x):iB k (l.take (j+1))=oC k (iB k (l.take j)) x:=by
 unfold iB;rw[bP h,Pc];rfl
theorem ry {k:Int} {l:List Vl} (hk:dg k=true) (h:∀x∈l,ed k x=0):∀j:Nat,j<=l.length->rM k (iB k (l.take j)) (j:Int)
 | 0,_=>xh k
 | j+1,hj=>by
  have z:=ry hk h j om;rw[rz (Mq (by omega:j<l.length))];exact BI hk z om (h _ (Nu _))
theorem zb (k:Int) (l:List Vl) (v:Value) (p:Nat) (w:World) (hl:aV w v l) (hp:w.cell? ⟨p,0,none⟩=some (Mk k)) (hk:dg k=true) (hv:∀x∈l,ed k x=0) (hn:l.length<=4096) :
  Mn 282 #[.agg #[Mk k,Mk 0,Mk 0,Mk 0,.string ⟨#[]⟩],v,.func (.func 283) #[] #[.pointer (some ⟨p,0,none⟩)]] w (gw (iB k l)):=by
 obtain⟨A,c,rfl,h1,h2,q'⟩:=hl;have H':=ay h1 h2;have HL:=jD q';have A':=jD (ry (l:=l) hk hv);have HV:=jD hv;have HK:=jD hk;have HP:=jD hp;obtain⟨RA,j'⟩:=jE (iB k l);have G':=jD j';rw[j'];clear q' h1 h2 hv hk hp j';go_enter func282,ntmps282;go_wp2_with fail;obtain⟨I,g'⟩:=jF w.heap.size;obtain⟨B6,k'⟩:=jF (w.heap.size+1);refine bg fun w1 e1=>?_
 have z:w1.heap[I]?=some (.cells [.int .i64 k,.int .i64 0,.int .i64 0,.int .i64 0,.string ⟨#[]⟩].toArray 317 (0,0)):=by rw[e1,g'];exact (Nz _ _ _ jS).trans (ax _ _ _ rfl)
 have m':w1.heap[B6]?=some (.cells [.int .i64 0,.int .i64 0,.int .i64 0,.int .i64 0,.string ⟨#[]⟩].toArray 317 (0,0)):=by rw[e1,k'];exact ax _ _ _ jS
 have s':Mm w w1:=gb e1;rw[<-k',<-g'];have a':w.heap.size<=I:=by omega
 have O:w.heap.size<=B6:=by omega
 have u':I≠B6:=by omega
 clear e1 g' k';have C':=jD z;have x':=jD m';have D':=jD s';clear z m' s'
 go_loopw [11] (fun i wr=>∃j:Nat,j<=l.length/\i=Mk j/\Hid (wr.heap[I]?=some (.cells (GE (iB k (l.take j))).toArray 317 (0,0))/\wr.heap[B6]?=some (.cells [.int .i64 0,.int .i64 0,.int .i64 0,.int .i64 0,.string ⟨#[]⟩].toArray 317 (0,0))/\Mm w wr)) (fun i _=>l.length-(intOf i).toNat)
 case atStart=>exact⟨0,Mu _,rfl,jD ⟨C'.out,x'.out,D'.out⟩⟩
 case round =>
  obtain⟨j,hj,rfl,hI⟩:=hrel;obtain⟨h,J⟩:=jE (iB k (l.take j));have z:=hI.out.1;rw[J]at z;have x0:wr.cell? ⟨I,0,none⟩=some (Mk h.kind):=by rw[ae z];rfl
  have x1:wr.cell? ⟨I,1,none⟩=some (Mk h.count):=by rw[ae z];rfl
  have x2:wr.cell? ⟨I,2,none⟩=some (Mk h.val.kind):=by rw[ae z];rfl
  have x3:wr.cell? ⟨I,3,none⟩=some (Mk h.val.num):=by rw[ae z];rfl
  have x4:wr.cell? ⟨I,4,none⟩=some (.string h.val.text):=by rw[ae z];rfl
  have z':I<wr.heap.size:=bC z;have p':=jD z;clear z
  by_cases h':j<l.length
  ·have E':(j:Int)<(l.length:Int):=by omega
   obtain⟨b,o,rfl,c0,c1,c2⟩:=HL.out j l[j] (Mq h');have d':=jD (Mq h');have Z:=HV.out l[j] (Nu h');obtain⟨y,hy⟩:=jF (l[j]);rw[<-hy]at c0 c1 c2 d' Z;replace c0:=aa hI.out.2.2 c0;replace c1:=aa hI.out.2.2 c1;replace c2:=aa hI.out.2.2 c2;have I':b<wr.heap.size:=Ms wr ⟨b,_,none⟩ c0;have n1:b≠wr.heap.size:=by omega
   have n2:wr.heap.size≠b:=by omega
   have n3:I≠wr.heap.size:=by omega
   have n4:wr.heap.size≠I:=by omega
   have f':=A'.out j hj;rw[J]at f';obtain⟨NX,l'⟩:=jE (oC k h y);have B':Hid (iB k (l.take (j+1))=NX):=jD (by rw[rz d'.out,J,l']);have t':Hid (∀W,Mm wr W->Mn 283 #[.agg #[Mk h.kind,Mk h.count,Mk h.val.kind,Mk h.val.num,.string h.val.text],.agg #[Mk y.kind,Mk y.num,.string y.text],.pointer (some ⟨p,0,none⟩)] W (gw NX)):=jD (fun W hW=>by
    rw[<-l'];exact JB k j h y p W (aa (ab hI.out.2.2 hW) HP.out) HK.out f' om Z)
   unfold gw at t';clear hy Z f' l' J;go_wp2_with fail;refine aI fun W9 e9=>?_
   have i':Mm wr W9:=gb e9;clear e9;refine (t'.out W9 i').mono ?_;rintro e w5 ⟨rfl,r'⟩;have c':=ab i' r';have G:=(c'.block I z').trans p'.out;have z0:w5.cell? ⟨I,0,none⟩=some (Mk h.kind):=by rw[ae G];rfl
   have z1:w5.cell? ⟨I,1,none⟩=some (Mk h.count):=by rw[ae G];rfl
   have z2:w5.cell? ⟨I,2,none⟩=some (Mk h.val.kind):=by rw[ae G];rfl
   have z3:w5.cell? ⟨I,3,none⟩=some (Mk h.val.num):=by rw[ae G];rfl
   have z4:w5.cell? ⟨I,4,none⟩=some (.string h.val.text):=by rw[ae G];rfl
   have f0:=aw G 0;have f1:=aw G 1;have f2:=aw G 2;have f3:=aw G 3;have f4:=aw G 4;have F':=jD G;have n':=jD c';clear G i' r' c' x0 x1 x2 x3 x4 c0 c1 c2 n1 n2 n3 n4;go_wp2_with fail
   go_roundw
   case rel =>
    refine⟨j+1,by omega,by go_num,jD ⟨?_,?_,?_⟩⟩
    ·rw[B'.out];exact iR F'.out _ _ _ _ _
    ·exact zP (fun e=>u' e.symm) _ _ _ _ _ (((n'.out.block B6 (bC hI.out.2.1))).trans hI.out.2.1)
    ·exact aq (aq (aq (aq (aq (ab hI.out.2.2 n'.out) a' _) a' _) a' _) a' _) a' _
   case measure=>simp[intOf];omega
  ·have E':¬(j:Int)<(l.length:Int):=by omega
   have y':h=RA:=by rw[<-G'.out,<-J,Of om]
   subst y';have G:=hI.out.2.1;have z0:wr.cell? ⟨B6,0,none⟩=some (Mk 0):=by rw[ae G];rfl
   have z1:wr.cell? ⟨B6,1,none⟩=some (Mk 0):=by rw[ae G];rfl
   have z2:wr.cell? ⟨B6,2,none⟩=some (Mk 0):=by rw[ae G];rfl
   have z3:wr.cell? ⟨B6,3,none⟩=some (Mk 0):=by rw[ae G];rfl
   have z4:wr.cell? ⟨B6,4,none⟩=some (.string ⟨#[]⟩):=by rw[ae G];rfl
   have f0:=aw G 0;have f1:=aw G 1;have f2:=aw G 2;have f3:=aw G 3;have f4:=aw G 4;have HQ:=jD (iR G (Mk h.kind) (Mk h.count) (Mk h.val.kind) (Mk h.val.num) (.string h.val.text));clear G J;go_wp2_with fail;have q0:=ae HQ.out 0;have q1:=ae HQ.out 1;have q2:=ae HQ.out 2;have q3:=ae HQ.out 3;have q4:=ae HQ.out 4;exact Mv (v:=.agg #[Mk h.kind,Mk h.count,Mk h.val.kind,Mk h.val.num,.string h.val.text]) (by simp[results,results282,go_sem,q0,q1,q2,q3,q4]) rfl ⟨rfl,aq (aq (aq (aq (aq hI.out.2.2 O _) O _) O _) O _) O _⟩
def lJ (k:Int) (l:List Vl):Int:=em (fun _ v=>ed k v) none l
def ofR (k:Int) (l:List Vl) (o:Vl):Vl × Int :=
 if dg k=false then (ah,1) else if 4096<l.length then (ah,5) else if lJ k l≠0 then (ah,lJ k l) else DJ k l.length (iB k l) o
theorem xe {α:Type} {g:α->Int}:∀(l:List α) (p:Option α),em (fun _ b=>g b) p l=0->∀b∈l,g b=0
 | [],_,_,b,I=>by simp at I
 | x::l,p,h,b,I=>by
  simp only[em]at h
  split at h
  ·next e =>
   rcases List.mem_cons.1 I with rfl|I
   ·exact e
   ·exact xe l _ h b I
  ·next e=>exact absurd h e
theorem JA (k:Int) (l:List Vl) (o:Vl) (v:Value) (w:World) (hl:aV w v l) :
  Mn 264 #[Mk k,v,vlV o] w (.tuple #[vlV (ofR k l o).1,Mk (ofR k l o).2]):=by
 have C':=jD hl;obtain⟨A,c,rfl,h1,h2,x'⟩:=hl;have F':=ay h1 h2;have HL:=jD x';obtain⟨⟨RV,re⟩,hR⟩:∃r,ofR k l o=r:=⟨_,rfl⟩;have HR:=jD hR;rw[hR];unfold vlV;clear x' h1 h2 hR;obtain⟨kb,O⟩:=eh (dg k);go_enter func264,ntmps264;go_wp2_with fail;refine aI fun W9 e9=>?_
 have x0:Ml W9 w.heap.size 0 (Mk k):=jG e9;have y0:Ml W9 (w.heap.size+1) 0 (Mk o.kind):=jG e9;have y1:Ml W9 (w.heap.size+1) 1 (Mk o.num):=jG e9;have y2:Ml W9 (w.heap.size+1) 2 (.string o.text):=jG e9;have hr:W9.heap[w.heap.size+2]?=some (.cells [.int .i64 0,.int .i64 0,.string ⟨#[]⟩].toArray 27 (0,0)):=by rw[e9];exact ax _ _ _ jS
 have y':Mm w W9:=gb e9;clear e9;refine (iE k W9).mono ?_;rw[O.out];rintro e w1 ⟨rfl,rfl⟩;obtain⟨B6,B'⟩:=jF (w.heap.size+2);rw[show w.heap.size+1+1=w.heap.size+2 from rfl];rw[<-B']at hr ⊢;have G:w.heap.size<=B6:=by omega
 have f':=jD hr;have d':=jD y';clear hr y' B'
 cases kb with
 | false =>
  obtain⟨e1,e2⟩:(⟨0,0,⟨#[]⟩⟩:Vl)=RV/\1=re:=by have h:=HR.out;unfold ofR at h;rw[Mp O.out]at h;injection h with h1 h2;exact⟨h1,h2⟩
  subst e1 e2;have z:=f'.out;have z0:W9.cell? ⟨B6,0,none⟩=some (Mk 0):=by rw[ae z];rfl
  have z1:W9.cell? ⟨B6,1,none⟩=some (Mk 0):=by rw[ae z];rfl
  have z2:W9.cell? ⟨B6,2,none⟩=some (.string ⟨#[]⟩):=by rw[ae z];rfl
  have f0:=aw z 0;have f1:=aw z 1;have f2:=aw z 2;have Z:=jD (dI z (Mk 0) (Mk 0) (.string ⟨#[]⟩));have c':=jD (aq (aq (aq (d'.out) (i:=0) G (Mk 0)) (i:=1) G (Mk 0)) (i:=2) G (.string ⟨#[]⟩));clear z;go_wp2_with fail;have r0:=ae Z.out 0;have r1:=ae Z.out 1;have r2:=ae Z.out 2;exact Mv (v:=.tuple #[.agg #[Mk 0,Mk 0,.string ⟨#[]⟩],Mk 1]) (by simp[results,results264,go_sem,r0,r1,r2]) rfl ⟨rfl,c'.out⟩
 | true =>
 by_cases hlen:4096<l.length
 ·have r':(4096:Int)<(l.length:Int):=by omega
  obtain⟨e1,e2⟩:(⟨0,0,⟨#[]⟩⟩:Vl)=RV/\5=re:=by have h:=HR.out;unfold ofR at h;rw[Mo (by rw[O.out];simp),Mp hlen]at h;injection h with h1 h2;exact⟨h1,h2⟩
  subst e1 e2;have z:=f'.out;have z0:W9.cell? ⟨B6,0,none⟩=some (Mk 0):=by rw[ae z];rfl
  have z1:W9.cell? ⟨B6,1,none⟩=some (Mk 0):=by rw[ae z];rfl
  have z2:W9.cell? ⟨B6,2,none⟩=some (.string ⟨#[]⟩):=by rw[ae z];rfl
  have f0:=aw z 0;have f1:=aw z 1;have f2:=aw z 2;have Z:=jD (dI z (Mk 0) (Mk 0) (.string ⟨#[]⟩));have c':=jD (aq (aq (aq (d'.out) (i:=0) G (Mk 0)) (i:=1) G (Mk 0)) (i:=2) G (.string ⟨#[]⟩));clear z;go_wp2_with fail;have r0:=ae Z.out 0;have r1:=ae Z.out 1;have r2:=ae Z.out 2;exact Mv (v:=.tuple #[.agg #[Mk 0,Mk 0,.string ⟨#[]⟩],Mk 5]) (by simp[results,results264,go_sem,r0,r1,r2]) rfl ⟨rfl,c'.out⟩
 have r':¬(4096:Int)<(l.length:Int):=by omega
 have z':Hid ((if lJ k l≠0 then (ah,lJ k l) else DJ k l.length (iB k l) o)=(RV,re)):=jD (by have h:=HR.out;unfold ofR at h;rwa [Mo (by rw[O.out];simp),Mo hlen]at h);have m':=jD hlen;have X0:=jD x0;have Y0:=jD y0;have Y1:=jD y1;have Y2:=jD y2;clear hlen x0 y0 y1 y2;go_wp2_with fail
 go_loopw [24] (fun i wr=>∃j:Nat,j<=l.length/\i=Mk j/\Hid (em (fun _ v=>ed k v) (jk l j) (l.drop j)=lJ k l/\Mm W9 wr)) (fun i _=>l.length-(intOf i).toNat)
 case atStart=>exact⟨0,Mu _,rfl,jD ⟨rfl,Mr _ _⟩⟩
 case round =>
  obtain⟨j,hj,rfl,hI⟩:=hrel;have I:=hI.out.2
  by_cases u':j<l.length
  ·have E':(j:Int)<(l.length:Int):=by omega
   obtain⟨b,o',rfl,c0,c1,c2⟩:=HL.out j l[j] (Mq u');have i':=jD (Mq u');obtain⟨y,hy⟩:=jF (l[j]);rw[<-hy]at c0 c1 c2 i';have a':=ab d'.out I;replace c0:=aa a' c0;replace c1:=aa a' c1;replace c2:=aa a' c2;have x0:=aa I X0.out;have G':b<wr.heap.size:=Ms wr ⟨b,_,none⟩ c0;have H':w.heap.size<wr.heap.size:=Ms wr ⟨w.heap.size,_,none⟩ x0;have n1:b≠wr.heap.size:=by omega
   have n2:wr.heap.size≠b:=by omega
   have n3:w.heap.size≠wr.heap.size:=by omega
   have n4:wr.heap.size≠w.heap.size:=by omega
   obtain⟨ey,q'⟩:=jE (ed k y);have A':=jD q';have n':=jD (fun W=>rY k y W O.out);rw[q']at n';unfold vlV at n';clear hy q' a';go_wp2_with fail;refine aI fun W8 e8=>?_
   have h':Mm wr W8:=gb e8;clear e8;refine (n'.out W8).mono ?_;rintro e w5 ⟨rfl,J⟩;have H5:=jD (ab I (ab h' J));clear h' J x0 c0 c1 c2 n1 n2 n3 n4 I
   by_cases hz:ey=0
   ·subst hz;go_wp2_with fail
    go_roundw
    case rel=>exact⟨j+1,by omega,by go_num,jD ⟨uS i'.out hI.out.1 A'.out,H5.out⟩⟩
    case measure=>simp[intOf];omega
   ·have I':(ey != 0)=true:=jQ hz;have hf:lJ k l=ey:=(mZ i'.out hI.out.1 A'.out hz).symm;obtain⟨e1,e2⟩:(⟨0,0,⟨#[]⟩⟩:Vl)=RV/\ey=re:=by have h:=z'.out;rw[hf,Mp hz]at h;injection h with h1 h2;exact⟨h1,h2⟩
    subst e1 e2;clear hz hf;have z:=(H5.out.block B6 (bC f'.out)).trans f'.out;have z0:w5.cell? ⟨B6,0,none⟩=some (Mk 0):=by rw[ae z];rfl
    have z1:w5.cell? ⟨B6,1,none⟩=some (Mk 0):=by rw[ae z];rfl
    have z2:w5.cell? ⟨B6,2,none⟩=some (.string ⟨#[]⟩):=by rw[ae z];rfl
    have f0:=aw z 0;have f1:=aw z 1;have f2:=aw z 2;have Z:=jD (dI z (Mk 0) (Mk 0) (.string ⟨#[]⟩));have c':=jD (aq (aq (aq (ab d'.out H5.out) (i:=0) G (Mk 0)) (i:=1) G (Mk 0)) (i:=2) G (.string ⟨#[]⟩));clear z;go_wp2_with fail;have r0:=ae Z.out 0;have r1:=ae Z.out 1;have r2:=ae Z.out 2;exact Mv (v:=.tuple #[.agg #[Mk 0,Mk 0,.string ⟨#[]⟩],Mk ey]) (by simp[results,results264,go_sem,r0,r1,r2]) rfl ⟨rfl,c'.out⟩
  ·have E':¬(j:Int)<(l.length:Int):=by omega
   have hf:lJ k l=0:=by
    have h:=hI.out.1;rw[No om]at h
    simpa [em] using h.symm
   have g':DJ k l.length (iB k l) o=(RV,re):=by have h:=z'.out;rwa [hf,Mo jS]at h
   have j':=xe l none hf;have l':=ry O.out j' l.length (Mt _);rw[Nq]at l';have a':=ab d'.out I;have x0:=aa I X0.out;have y0:=aa I Y0.out;have y1:=aa I Y1.out;have y2:=aa I Y2.out;have p':=jD (zb k l _ w.heap.size wr (C'.out.stays aD a') x0 O.out j' (by have:=m'.out;omega));obtain⟨FA,t'⟩:=jE (iB k l);rw[t']at p' g' l';have k':=jD (fun W=>zH k l.length FA o W O.out l' (by have:=m'.out;omega));rw[g']at k';unfold gw at p' k';unfold vlV at k';clear hf g' j' l' t';go_wp2_with fail;refine p'.out.mono ?_;rintro e w5 ⟨rfl,J⟩;replace y0:=aa J y0;replace y1:=aa J y1;replace y2:=aa J y2;have D':w.heap.size+1<w5.heap.size:=Ms w5 ⟨w.heap.size+1,_,none⟩ y0;have n1:w.heap.size+1≠w5.heap.size:=by omega
   have n2:w5.heap.size≠w.heap.size+1:=by omega
   have H5:=jD (ab I J);clear I J a' x0;go_wp2_with fail;refine aI fun W8 e8=>?_
   have h':Mm w5 W8:=gb e8;clear e8;refine (k'.out W8).mono ?_;rintro e w6 ⟨rfl,s'⟩;have H6:=jD (ab H5.out (ab h' s'));clear h' s' y0 y1 y2 n1 n2 D';have z:=(H6.out.block B6 (bC f'.out)).trans f'.out;have z0:w6.cell? ⟨B6,0,none⟩=some (Mk 0):=by rw[ae z];rfl
   have z1:w6.cell? ⟨B6,1,none⟩=some (Mk 0):=by rw[ae z];rfl
   have z2:w6.cell? ⟨B6,2,none⟩=some (.string ⟨#[]⟩):=by rw[ae z];rfl
   have f0:=aw z 0;have f1:=aw z 1;have f2:=aw z 2;have Z:=jD (dI z (Mk RV.kind) (Mk RV.num) (.string RV.text));have c':=jD (aq (aq (aq (ab d'.out H6.out) (i:=0) G (Mk RV.kind)) (i:=1) G (Mk RV.num)) (i:=2) G (.string RV.text));clear z;go_wp2_with fail;have r0:=ae Z.out 0;have r1:=ae Z.out 1;have r2:=ae Z.out 2;exact Mv (v:=.tuple #[.agg #[Mk RV.kind,Mk RV.num,.string RV.text],Mk re]) (by simp[results,results264,go_sem,r0,r1,r2]) rfl ⟨rfl,c'.out⟩
end Go.Proofs.YtbjicljfjkdeeaaGreatDoor
