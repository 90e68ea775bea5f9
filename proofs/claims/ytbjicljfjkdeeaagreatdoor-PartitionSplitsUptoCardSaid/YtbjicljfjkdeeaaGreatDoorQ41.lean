/- Part. -/
import Derived.Test.YtbjicljfjkdeeaaGreatDoorQ39
import Derived.Test.YtbjicljfjkdeeaaGreatDoorQ40
set_option maxRecDepth 100000
set_option maxHeartbeats 16000000
set_option linter.unusedVariables false
set_option linter.unusedSimpArgs false
namespace Go.Proofs.YtbjicljfjkdeeaaGreatDoor
open Go.Proofs.Tryz Go.RowKit
section
open Go.ChangeShapes Go.WideShapes Go.ChangeAt Go.RowKit Go.Deep
theorem L4 {α:Type} {l:List α} (h:l.length=18):∃c0 c1 c2 c3 c4 c5 c6 c7 c8 c9 Z I z a' c14 O J G,l=[c0,c1,c2,c3,c4,c5,c6,c7,c8,c9,Z,I,z,a',c14,O,J,G]:=by
 match l,h with
 | [c0,c1,c2,c3,c4,c5,c6,c7,c8,c9,Z,I,z,a',c14,O,J,G],_=>exact⟨c0,c1,c2,c3,c4,c5,c6,c7,c8,c9,Z,I,z,a',c14,O,J,G,rfl⟩
theorem CW:prog.cellsOf 33=18:=kr
theorem ED:prog.cellsOf 31=14:=kr
theorem Ew:prog.cellsOf 22=1:=kr
theorem zF:prog.cellsOf 23=1:=kr
section
variable {H : Type} {enc : TypeId × Value -> H} {w : World} {base : Nat} {spare : Nat -> Bool} {held : Bool}
end
end
section
open Go.ChangeShapes Go.WideShapes Go.ChangeAt Go.RowKit Go.Deep
structure Qry where
 nm:ByteArray
 vars:List Nv
 key:List Int
 pat:Pt
 rets:List Ex
def uy (q:Qry) (z h G vc vr:Value):List Value:=[.string q.nm,z,h]++aM q.pat G vc++[vr]
def gN (q:Qry) (z h G vc vr:Value):Value:=.agg #[.string q.nm,z,h,Mk q.pat.op,G,Mk q.pat.ty,Mk q.pat.vr,Mk q.pat.sc,Mk q.pat.sp,
 Mk q.pat.cond.op,vc,Mk q.pat.cond.vr,Mk q.pat.cond.fl,Mk q.pat.cond.kd,Mk q.pat.cond.val.kind,Mk q.pat.cond.val.num,.string q.pat.cond.val.text,vr]
structure QryIs (d:Nat) (w:World) (q:Qry) (vv vk va vc vr:Value):Prop where
 vars:Kh w vv q.vars
 key:ju w vk q.key
 args:aU d w va q.pat.args
 cond:aK d w vc q.pat.cond.args
 rets:aK d w vr q.rets
theorem QryIs.stays {d:Nat} {w w':World} {q:Qry} {I G J vc vr:Value} (h:QryIs d w q I G J vc vr) (z:Mm w w'):QryIs d w' q I G J vc vr :=
 ⟨h.vars.stays AC z,h.key.stays eN z,h.args.stays (aB d) z,h.cond.stays (ai d) z,h.rets.stays (ai d) z⟩
def Ke (q:Qry):Nat:=ptB q.pat+(q.rets.map aF).sum
section
variable {H : Type} {enc : TypeId × Value -> H} {w : World} {base : Nat} {spare : Nat -> Bool} {held : Bool}
theorem FY {n:Nat} {cs:List Value} {y:DataW H × List MemPlace} (hl:cs.length=3) (h:DataW.trod enc prog w base spare held n 27 cs=some y):∃x:Vl,cs=[Mk x.kind,Mk x.num,.string x.text]:=by
 obtain⟨c0,c1,c2,rfl⟩:=sx hl;obtain⟨xs,m,_,_,_,z,hf⟩:=N0 underlying27 h;obtain⟨x0,x1,x2,rfl⟩:=sx (jQ z);have f0:=hf 0 _ rfl;have f1:=hf 1 _ rfl;have f2:=hf 2 _ rfl;simp[dp,fm]at f0 f1 f2;obtain⟨Z,G,_⟩:=MS underlying3 f0;obtain⟨O,J,_⟩:=MS underlying3 f1;obtain⟨k2,I,_⟩:=Pp underlying9 f2;simp only[Nf,Ns]at G J I;subst G J I;exact⟨⟨Z,O,k2⟩,rfl⟩
theorem Ge {n:Nat} {cs:List Value} {y:DataW H × List MemPlace} (hl:cs.length=8) (h:DataW.trod enc prog w base spare held n 29 cs=some y) :
  ∃(x:Ex) (v:Value) (f:Nat),cs=[Mk x.op,v,Mk x.vr,Mk x.fl,Mk x.kd,Mk x.val.kind,Mk x.val.num,.string x.val.text]/\aK f w v x.args/\aF x<=Rows.uptoBulk y.1:=by
 obtain⟨c0,c1,c2,c3,c4,c5,c6,c7,rfl⟩:=Kq hl;obtain⟨xs,m,hm,hy,_,G,hf⟩:=N0 underlying29 h;obtain⟨x0,x1,x2,x3,x4,x5,rfl⟩:=Br (jQ G);have f0:=hf 0 _ rfl;have f1:=hf 1 _ rfl;have f2:=hf 2 _ rfl;have f3:=hf 3 _ rfl;have f4:=hf 4 _ rfl;have f5:=hf 5 _ rfl;simp[dp,nM,pw]at f0 f1 f2 f3 f4 f5;obtain⟨Z,J,_⟩:=MS underlying3 f0;obtain⟨k2,e2,_⟩:=MS underlying3 f2;obtain⟨O,e3,_⟩:=MS underlying3 f3;obtain⟨k4,e4,_⟩:=MS underlying3 f4;obtain⟨vl,z⟩:=FY rfl f5;obtain⟨l,I,a'⟩:=xn f1;simp only[Nf,Ns]at J e2 e3 e4 z;obtain⟨rfl,rfl,rfl⟩:=z;subst J e2 e3 e4;refine⟨.mk Z l k2 O k4 vl,c1,m,rfl,I,?_⟩;subst hy;rw[eV,show (Ex.mk Z l k2 O k4 vl).args=l from rfl,qk];have h1:=nA (d:=x1.1) (l:=[x0.1,x1.1,x2.1,x3.1,x4.1,x5.1]) jS;simp only[Rows.uptoBulk,MF,Om];omega
theorem E3 {fuel:Nat} {v:Value} {y:DataW H × List MemPlace} (h:DataW.trod enc prog w base spare held fuel 24 [v]=some y):∃l,aU fuel w v l/\(l.map ptB).sum+1<=Rows.uptoBulk y.1 :=
 lW (m:=ptB) underlying24 sS dc (fun n b o cs y J G z I=>Kd fuel n om b o cs y G z I) h
theorem Io {n:Nat} {cs:List Value} {y:DataW H × List MemPlace} (hl:cs.length=14) (h:DataW.trod enc prog w base spare held n 31 cs=some y) :
  ∃(x:Pt) (v vc:Value) (f:Nat),cs=aM x v vc/\aU f w v x.args/\aK f w vc x.cond.args/\ptB x<=Rows.uptoBulk y.1:=by
 obtain⟨c0,c1,c2,c3,c4,c5,c6,c7,c8,c9,f',d',c',h',rfl⟩:=Hu hl;obtain⟨xs,m,hm,hy,_,z,hf⟩:=N0 underlying31 h;obtain⟨x0,x1,x2,x3,x4,x5,x6,rfl⟩:=Kl (jQ z);have f0:=hf 0 _ rfl;have f1:=hf 1 _ rfl;have f2:=hf 2 _ rfl;have f3:=hf 3 _ rfl;have f4:=hf 4 _ rfl;have f5:=hf 5 _ rfl;have f6:=hf 6 _ rfl;simp[dp,tF,lN]at f0 f1 f2 f3 f4 f5 f6;obtain⟨J,e0,_⟩:=MS underlying3 f0;obtain⟨k2,e2,_⟩:=MS underlying3 f2;obtain⟨G,e3,_⟩:=MS underlying3 f3;obtain⟨O,e4,_⟩:=MS underlying3 f4;obtain⟨Z,e5,_⟩:=MS underlying3 f5;obtain⟨ex,vc,f,hex,a',g'⟩:=Ge rfl f6;obtain⟨l,I,i'⟩:=E3 f1;simp only[Nf,Ns]at e0 e2 e3 e4 e5 hex;obtain⟨rfl,rfl,rfl,rfl,rfl,rfl,rfl,rfl⟩:=hex;subst e0 e2 e3 e4 e5;refine⟨.mk J l k2 G O Z ex,c1,c7,max m f,rfl,kn (Nat.le_max_left _ _) I,gE (Nat.le_max_right _ _) a',?_⟩;subst hy;rw[ur,show (Pt.mk J l k2 G O Z ex).args=l from rfl,show (Pt.mk J l k2 G O Z ex).cond=ex from rfl,wI];have h1:Rows.uptoBulkAll [x0.1,x1.1,x2.1,x3.1,x4.1,x5.1,x6.1]=Rows.uptoBulk x0.1+(Rows.uptoBulk x1.1+(Rows.uptoBulk x2.1+(Rows.uptoBulk x3.1+(Rows.uptoBulk x4.1+(Rows.uptoBulk x5.1+(Rows.uptoBulk x6.1+0)))))):=rfl;simp only[Rows.uptoBulk,MF,Om];omega
theorem EP (n b o:Nat) (cs:List Value) (y:DataW H × List MemPlace) (G:cs.length=1) (J:∀(j:Nat) (u:Value),cs[j]?=some u->w.cell? ⟨b,o+j,none⟩=some u)
  (h:DataW.trod enc prog w base spare held n 3 cs=some y):∃x,AN w b o x:=by
 obtain⟨O,rfl⟩:=list1 G;obtain⟨I,z,_⟩:=MS underlying3 h;simp only[Nf,Ns]at z;subst z;exact⟨I,J 0 _ rfl⟩
theorem Dx {fuel:Nat} {v:Value} {y:DataW H × List MemPlace} (h:DataW.trod enc prog w base spare held fuel 23 [v]=some y):∃l,ju w v l :=
 pf underlying23 dp dc (fun n b o cs y G z I=>EP n b o cs y G z I) h
theorem Eb {n:Nat} {cs:List Value} {y:DataW H × List MemPlace} (hl:cs.length=18) (h:DataW.trod enc prog w base spare held n 33 cs=some y) :
  ∃(q:Qry) (vv vk I vc vr:Value) (f:Nat),cs=uy q vv vk I vc vr/\QryIs f w q vv vk I vc vr/\Ke q<=Rows.uptoBulk y.1:=by
 obtain⟨c0,c1,c2,c3,c4,c5,c6,c7,c8,c9,h',f',c',i',c14,g',j',O,rfl⟩:=L4 hl;obtain⟨xs,m,_,hy,_,J,G⟩:=N0 underlying33 h;obtain⟨x0,x1,x2,x3,x4,rfl⟩:=Ht (jQ J);have f0:=G 0 _ rfl;have f1:=G 1 _ rfl;have f2:=G 2 _ rfl;have f3:=G 3 _ rfl;have f4:=G 4 _ rfl;simp[fm,Ew,zF,ED,nM]at f0 f1 f2 f3 f4;obtain⟨k0,e0,_⟩:=Pp underlying9 f0;obtain⟨vars,hv⟩:=GL f1;obtain⟨key,hk⟩:=Dx f2;obtain⟨p,I,vc,f,hp,a',Z,d'⟩:=Io rfl f3;obtain⟨z,hr,hb⟩:=xn f4;simp only[Nf,Ns]at e0;subst e0;refine⟨⟨k0,vars,key,p,z⟩,c1,c2,I,vc,O,max m f,?_,⟨hv,hk,kn (Nat.le_max_right _ _) a',gE (Nat.le_max_right _ _) Z,gE (Nat.le_max_left _ _) hr⟩,?_⟩
 ·unfold uy;rw[<-hp];rfl
 ·subst hy;have h1:Rows.uptoBulkAll [x0.1,x1.1,x2.1,x3.1,x4.1]=Rows.uptoBulk x0.1+(Rows.uptoBulk x1.1+(Rows.uptoBulk x2.1+(Rows.uptoBulk x3.1+(Rows.uptoBulk x4.1+0)))):=rfl;unfold Ke;simp only[Rows.uptoBulk,MF,Om];omega
end
end
def aN (q:Qry) (l:List Evt):(List Vl × List (List Evt)) × Int:=if fq q.pat≠0 then (([],[]),fq q.pat) else dz q.key l
structure PartAsk (d:Nat) (w:World) (q:Qry) (l:List Evt) (vv vk va vc vr vl:Value):Prop where
 shp:Shp w
 qry:QryIs d w q vv vk va vc vr
 evs:bh w vl l
 few:ptB q.pat<=1048576
 wf:∀e∈l,∀x∈e.vals,ja x
 vals:∀e∈l,e.vals.length<=1048576
theorem PartAsk.stays {d:Nat} {w w':World} {q:Qry} {l:List Evt} {I G J vc vr vl:Value} (h:PartAsk d w q l I G J vc vr vl) (z:Mm w w'):PartAsk d w' q l I G J vc vr vl :=
 ⟨h.shp.stays z,h.qry.stays z,h.evs.stays aG z,h.few,h.wf,h.vals⟩
theorem lh (d:Nat) (q:Qry) (l:List Evt) (vv vk va vc vr vl:Value) (w:World) (z:PartAsk d w q l vv vk va vc vr vl) :
  Calls prog 22 #[gN q vv vk va vc vr,vl] w (mC w (aN q l)):=by
 have I:=jD (fun (W:World) (hW:Mm w W)=>pW d q.pat va vc W (z.shp.stays hW) (z.qry.args.stays (aB d) hW) (z.qry.cond.stays (ai d) hW) z.few);have a':=jD (fun (W:World) (hW:Mm w W)=>Es l q.key vl vk W (z.evs.stays aG hW) (z.qry.key.stays eN hW) z.wf z.vals);have m':=jD z;obtain⟨pe,G⟩:∃e,e=fq q.pat:=⟨_,rfl⟩;have l':=jD G;rw[<-G]at I;obtain⟨R,hR⟩:=jE (aN q l);have HR:Hid ((if pe≠0 then (([],[]),pe) else dz q.key l)=R):=jD (by rw[<-hR,aN,<-G]);rw[hR];obtain⟨Ak,ck,rfl,-⟩:=id z.qry.key;obtain⟨Al,cl,rfl,-⟩:=id z.evs;obtain⟨nk,g'⟩:∃n,n=q.key.length:=⟨_,rfl⟩;obtain⟨nl,d'⟩:∃n,n=l.length:=⟨_,rfl⟩;rw[<-g',<-d']at a' ⊢;obtain⟨Av,cv,rfl,-⟩:=id z.qry.vars;obtain⟨Aa,ca,rfl,-⟩:=id z.qry.args;obtain⟨Ac,cc,rfl,-⟩:=id z.qry.cond;obtain⟨Ar,cr,rfl,-⟩:=id z.qry.rets;clear z G hR g' d';unfold ptV at I;unfold gN;go_enter func22,ntmps22;go_wp2_with fail;refine aI fun w1 e1=>?_
 have Z:Mm w w1:=gb e1;have x2:Ml w1 w.heap.size 2 (.slice Ak nk ck):=jG e1;clear e1;refine (I.out _ Z).mono ?_;rintro e w2 ⟨rfl,O⟩;replace x2:=aa O x2;have J:=jD (ab Z O);clear Z O I
 by_cases h0:pe=0
 case neg =>
  have n':(pe != 0)=true:=jQ h0;obtain rfl:(([],[]),pe)=R:=by have h:=HR.out;rw[Mp h0]at h;exact h
  clear h0;go_wp2;exact Mv (v:=.tuple #[.slice none 0 0,.slice none 0 0,Mk pe]) (by simp[results,results22,go_sem]) rfl ⟨_,_,rfl,Sl.nil _ _ _ _ _ (Mu _),Sl.nil _ _ _ _ _ (Mu _),J.out⟩
 subst h0;obtain rfl:dz q.key l=R:=by have h:=HR.out;rw[Mo jS]at h;exact h
 go_wp2_with fail;refine (a'.out _ J.out).mono ?_;rintro e w3 ⟨kv,pv,rfl,c',f',h'⟩;have j':=jD (ab J.out h');have k':=jD c';have i':=jD f';obtain⟨A1,c1,rfl,-⟩:=c';obtain⟨A2,c2,rfl,-⟩:=f';clear h' x2;go_wp2;exact Mv (v:=.tuple #[.slice A1 _ c1,.slice A2 _ c2,Mk (dz q.key l).2]) (by simp[results,results22,go_sem]) rfl ⟨_,_,rfl,k'.out,i'.out,j'.out⟩
def BC (w:World) (r:List Vl × Int) (e:Ending) (W:World):Prop:=∃kv,e=.returned (.tuple #[kv,Mk r.2])/\aV W kv r.1/\Mm w W
theorem PartAsk.form {d:Nat} {w:World} {q:Qry} {l:List Evt} {vv vk va vc vr vl:Value} (h:PartAsk d w q l vv vk va vc vr vl):∃G O J ck z ca Ac I Ar cr Z cl,vv=.slice G q.vars.length O/\vk=.slice J q.key.length ck/\va=.slice z q.pat.args.length ca/\vc=.slice Ac q.pat.cond.args.length I/\vr=.slice Ar q.rets.length cr/\vl=.slice Z l.length cl:=by
 obtain⟨G,O,e1,-⟩:=h.qry.vars;obtain⟨J,ck,e2,-⟩:=h.qry.key;obtain⟨z,ca,e3,-⟩:=h.qry.args;obtain⟨Ac,I,e4,-⟩:=h.qry.cond;obtain⟨Ar,cr,e5,-⟩:=h.qry.rets;obtain⟨Z,cl,e6,-⟩:=h.evs;exact⟨G,O,J,ck,z,ca,Ac,I,Ar,cr,Z,cl,e1,e2,e3,e4,e5,e6⟩
theorem Dv (d:Nat) (q:Qry) (l:List Evt) (vv vk va vc vr vl:Value) (w:World) (Z:PartAsk d w q l vv vk va vc vr vl) :
  Calls prog 7 #[gN q vv vk va vc vr,vl] w (BC w ((aN q l).1.1,(aN q l).2)):=by
 have h:=jD (fun (W:World) (hW:Mm w W)=>lh d q l vv vk va vc vr vl W (Z.stays hW));obtain⟨R,hR⟩:=jE (aN q l);rw[hR]at h ⊢;obtain⟨Av,cv,Ak,ck,Aa,ca,Ac,cc,Ar,cr,Al,cl,rfl,rfl,rfl,rfl,rfl,rfl⟩:=Z.form;clear Z hR;unfold gN at h ⊢;go_enter func7,ntmps7;go_wp2_with (refine Od rfl 33 (.tmp 2) rfl w.heap.size rfl 33 _ (0,0) _ (ax _ _ _ rfl) underlying33 rfl kr ?_);refine aI fun w1 e1=>?_
 have z:Mm w w1:=gb e1;clear e1;refine (h.out _ z).mono ?_;rintro e w3 ⟨kv,pv,rfl,G,a',I⟩;have J:=jD (ab z I);have O:=jD G;obtain⟨A1,c1,rfl,-⟩:=G;obtain⟨A2,c2,rfl,-⟩:=a';clear z I;go_wp2;exact Mv (v:=.tuple #[.slice A1 _ c1,Mk R.2]) (by simp[results,results7,go_sem]) rfl ⟨_,rfl,O.out,J.out⟩
section
open Go.RowKit Go.Lib
theorem Fu {F:Fence} {n:Nat} {P:Program} {c:Code} {Q:Exit->Act->World->Prop} {a:Act} {w:World} (h:∀W:World,W=w->c.wpIn F n P Q a W):c.wpIn F n P Q a w:=h w rfl
def KpS (n1 h z:Nat) (W W':World):Prop:=Below n1 W W'/\W'.heap[h]?=W.heap[h]?/\W'.heap[z]?=W.heap[z]?
theorem CD {n1 G I:Nat} {A B C:World} (z:KpS n1 G I A B) (h:KpS n1 G I B C):KpS n1 G I A C:=⟨z.1.trans h.1,h.2.1.trans z.2.1,h.2.2.trans z.2.2⟩
theorem vN {n1 z G:Nat} {W W':World} (h:Mm W W') (I:n1<=W.heap.size) (hk:z<W.heap.size) (hp:G<W.heap.size):KpS n1 z G W W':=⟨h.mono I,h.block z hk,h.block G hp⟩
theorem wF (n1 h z:Nat) (W:World):KpS n1 h z W W:=⟨⟨rfl,rfl,rfl,Mt _,fun _ _=>rfl⟩,rfl,rfl⟩
theorem Ki {n1 h z m:Nat} (I:n1<=m) (hk:h<m) (hp:z<m) (W:World) (l:Nat) (o o':Obj) (G:m<=l) (_:W.heap[l]?=some o) (_:o.isCells=false) (_:o.isWalk=false):KpS n1 h z W (W.putObj l o') :=
 ⟨⟨rfl,rfl,rfl,by simp[World.putObj],fun k hk=>World.putObj_heap_other om⟩,World.putObj_heap_other om,World.putObj_heap_other om⟩
def Mf (h:World) (x:Vl × List Evt) (a:Array Value) (_:World):Prop:=∃u,a=#[vlV x.1,u]/\bh h u x.2
theorem wK (z:World) (B:Nat) (x:Vl × List Evt) (a:Array Value):OwnFrom B (fun (_:Unit) W=>Mf z x a W):=fun _ _ _ _ h _ _=>h
theorem sV {z W:World} {x:Vl × List Evt} {a:Array Value} (h:Mf z x a W):a.size=2:=by
 obtain⟨u,rfl,-⟩:=h;rfl
theorem nQ (ks:List Vl) (ps:List (List Evt)) (kv pv:Value) (Z G:Nat) (O w:World) (hlen:ps.length=ks.length) (hk:aV O kv ks) (hp:Sl nS 1 O pv ps) (hb:Mm O w)
  (n':w.cell? ⟨Z,0,none⟩=some kv) (j':w.cell? ⟨G,0,none⟩=some pv) :
  SeqC 43 #[.pointer (some ⟨Z,0,none⟩),.pointer (some ⟨G,0,none⟩)] (ks.zip ps) (Mf O) (KpS O.heap.size Z G) w:=by
 intro ly J Jx W I hJ G' hY m';have t':=ab hb I;have u':=jD t';have HJ:=jD hJ;have HY:=jD hY;have y':=jD m';have c1:=aa I n';have c2:=aa I j';obtain⟨Ak,ck,rfl,k1,k2,f'⟩:=id hk;obtain⟨Ap,cp,rfl,-,-,g'⟩:=id hp;have k':=ay k1 k2;have F':=Ms W ⟨Z,_,none⟩ c1;have E':=Ms W ⟨G,_,none⟩ c2;obtain⟨n,hn⟩:=jF ks.length;rw[hlen]at c2;rw[<-hn]at c1 c2 k';have q':Hid ((ks.zip ps).length=n):=jD (by rw[List.length_zip,hlen,hn];exact Nat.min_self _);have HN:=jD hn;have HL:=jD hlen;have z':=jD f';have H':=jD g';have A':=jD c1;have C':=jD c2;clear I hJ G' hY m' t' hb n' j' hk hp k1 k2 f' g' hn hlen;show Calls prog 43 #[.func (.yield ly) #[] #[],.pointer (some ⟨Z,0,none⟩),.pointer (some ⟨G,0,none⟩)] W _;go_enter func43,ntmps43;refine (Ok (n:=5)).1 ?_;gi_wp2
 gi_loopw [8] (fun t wr=>∃k:Nat,k<=n/\t=Mk k/\Hid (J k wr/\KpS O.heap.size Z G W wr)) (fun t _=>n-(RowKit.intOf t).toNat)
 case atStart=>exact⟨0,Mu _,rfl,jD ⟨aS HJ.out y'.out jB,vN jB u'.out.size F' E'⟩⟩
 case round =>
  obtain⟨k,hk,rfl,hI⟩:=hrel;have z:Hid (Mm O wr):=jD (u'.out.trans hI.out.2.1);have zp:Ml wr G 0 (.slice Ap n cp):=(ML (a:=⟨G,0,none⟩) hI.out.2.2.2).trans C'.out;have r':=Ms wr ⟨G,_,none⟩ zp;have l':Z<wr.heap.size:=Ms wr ⟨Z,0,none⟩ ((ML (a:=⟨Z,0,none⟩) hI.out.2.2.1).trans A'.out)
  by_cases N':k<n
  ·have x':(k:Int)<(n:Int):=by omega
   have s':k<ks.length:=by have:=HN.out;omega
   have p':k<ps.length:=by have:=HN.out;have:=HL.out;omega
   have d':=Mq s';have a':=Mq p';obtain⟨y,hy⟩:=jF (ks[k]);obtain⟨s,hs⟩:=jF (ps[k]);rw[<-hy]at d';rw[<-hs]at a';obtain⟨bk,ok,rfl,y0,y1,y2⟩:=z'.out k y d';obtain⟨bq,oq,rfl,us,i',zs⟩:=H'.out k s a';rw[NF]at zs;obtain⟨As,cs,rfl,-⟩:=id i';have P':bk<wr.heap.size:=ME (Ms O ⟨bk,_,none⟩ y0) z.out.size;have I':bq<wr.heap.size:=ME (Ms O ⟨bq,_,none⟩ zs) z.out.size;replace y0:=aa z.out y0;replace y1:=aa z.out y1;replace y2:=aa z.out y2;replace zs:=aa z.out zs;have B':Hid (∀W9,Mm wr W9->YieldAt Fence.wide (5-1) prog ly #[.agg #[Mk y.kind,Mk y.num,.string y.text],.slice As s.length cs] W9 fun e W'=>(e=.returned (.bool true)/\J (k+1) W'/\KpS O.heap.size Z G W W')\/(e=.returned (.bool false)/\Jx (k+1) W')):=by
    refine jD fun W9 h9=>cg (HY.out _ k (y,s) #[vlV y,.slice As s.length cs] W9 (List.getElem?_zip_eq_some.2 ⟨d',a'⟩) (aS HJ.out hI.out.1 h9) ⟨_,rfl,i'⟩) ?_
    rintro e W' (⟨rfl,g1,g2⟩|⟨rfl,g1⟩)
    ·exact .inl ⟨rfl,g1,CD (CD hI.out.2 (vN h9 z.out.size l' r')) g2⟩
    ·exact .inr ⟨rfl,g1⟩
   clear d' a' hy hs i' s' p';gi_wp2;refine Fu fun w5 e5=>?_
   have c':Hid (Mm wr w5):=jD (gb e5);replace zp:=aa c'.out zp;replace zs:=aa c'.out zs;obtain⟨Y,hY⟩:∃q,q=wr.heap.size:=⟨_,rfl⟩;have y0:Ml w5 Y 0 (Mk y.kind):=jW e5 hY;have y1:Ml w5 Y 1 (Mk y.num):=jW e5 hY;have y2:Ml w5 Y 2 (.string y.text):=jW e5 hY;rw[<-hY];have J':=Ms w5 ⟨Y,_,none⟩ y0;have O':=c'.out.size;clear e5 hY;have D':∀W,Mm w5 W->(fun W:World=>Mm w5 W/\Ml W Y 0 (Mk y.kind)/\Ml W Y 1 (Mk y.num)/\Ml W Y 2 (.string y.text)/\Ml W G 0 (.slice (some ⟨bq,oq,none⟩) n cp)/\Ml W bq (oq+k) (.slice As s.length cs)) W:=fun W I=>⟨I,aa I y0,aa I y1,aa I y2,aa I zp,aa I zs⟩
   refine mh ?_;refine oH ((fun W:World=>Mm w5 W/\W.cell? ⟨Y,0,none⟩=some (Mk y.kind)/\W.cell? ⟨Y,1,none⟩=some (Mk y.num)/\W.cell? ⟨Y,2,none⟩=some (.string y.text)/\W.cell? ⟨G,0,none⟩=some (.slice (some ⟨bq,oq,none⟩) n cp)/\W.cell? ⟨bq,oq+k,none⟩=some (.slice As s.length cs))) 6 kr (D' _ (Mr _ _).drew) (fun h'=>?_);refine tkY [0,1,2,3,4,5] ?_;refine pN (fuel:=1) (L:=(true::true::true::true::true::true::true::false::[]).toArray) rfl kr kr kr kr kr (fun K hK=>?_)
   go_simp
   refine dx (l:=ly) (args:=#[.agg #[Mk y.kind,Mk y.num,.string y.text],.slice As s.length cs]) (B'.out _ (show Mm wr _ by exact ab c'.out h'.1)) (fun W7 h7=>?_) (fun W7 h7=>?_)
   ·have H7:=jD h7;clear h7;refine hK.out _ _ ?_;clear hK K
    focus (refine eP (i:=7) (fuel:=0) (L:=(true::true::true::true::true::true::true::true::[]).toArray) (v:=.bool false) rfl rfl kr kr kr ?_ ?_;(focus (go_simp<;>with_reducible rfl));simp only[MZ,MY])
    refine wpAnyIn_done kr (NoPanic.normal ?_) _;gi_wp2
    go_roundw
    case rel=>exact⟨k+1,by omega,by go_num,jD ⟨H7.out.1,H7.out.2⟩⟩
    case measure=>simp[RowKit.intOf];omega
   ·have H7:=jD h7;clear h7;refine hK.out _ _ ?_;clear hK K
    focus (refine eP (i:=7) (fuel:=0) (L:=(true::true::true::true::true::true::true::true::[]).toArray) (v:=.bool true) rfl rfl kr kr kr ?_ ?_;(focus (go_simp<;>with_reducible rfl));simp only[MZ,MY])
    refine wpAnyIn_done kr (NoPanic.normal ?_) _;gi_wp2;refine Mv (v:=.tuple #[]) (NI rfl _ _ _) rfl ?_;exact⟨⟨_,rfl⟩,.inr ⟨k,by have h:=q'.out;rw[List.length_zip]at h;omega,H7.out⟩⟩
  ·have x':¬(k:Int)<(n:Int):=by omega
   obtain rfl:k=n:=by omega
   have HE:=jD hI.out.1;gi_wp2;refine OI (NI rfl _ _ _) rfl ?_;exact⟨⟨_,rfl⟩,.inl (by have h:=q'.out;rw[List.length_zip]at h;rw[h];exact aS HJ.out HE.out jB)⟩
theorem nP (kv h:Value) (w:World) (hk:∃A n c,kv=.slice A n c) (hp:∃A n c,h=.slice A n c):Calls prog 23 #[kv,h] w fun e W =>
  e=.returned (.func (.func 43) #[] #[.pointer (some ⟨w.heap.size,0,none⟩),.pointer (some ⟨w.heap.size+1,0,none⟩)])/\W=(w.alloc (.cells #[kv] 41)).alloc (.cells #[h] 81):=by
 obtain⟨A,n,c,rfl⟩:=hk;obtain⟨G,I,z,rfl⟩:=hp;go_enter func23,ntmps23;go_wp2;go_ret;exact⟨rfl,rfl⟩
end
section
open Go.RowKit Go.Lib
attribute [local go_sem] Oper.semAt_some
theorem Mh {W W':World} {P:Nat->Prop} (z:∀(b p:Nat) (v:Value),P b->W.cell? ⟨b,p,none⟩=some v->W'.cell? ⟨b,p,none⟩=some v) (hP:∀(b p:Nat) (v:Value),W.cell? ⟨b,p+2,none⟩=some v->P b)
  {v:Value} {l:List Vl} (h:aV W v l):aV W' v l:=by
 obtain⟨A,c,rfl,J,I,h3⟩:=h;refine⟨A,c,rfl,J,I,fun k x hx=>?_⟩;obtain⟨b,o,e,O,Z,G⟩:=h3 k x hx;have hp:=hP _ _ _ G;exact⟨b,o,e,z _ _ _ hp O,z _ _ _ hp Z,z _ _ _ hp G⟩
theorem B8 {W W':World} {P:Nat->Prop} (z:∀(b p:Nat) (v:Value),P b->W.cell? ⟨b,p,none⟩=some v->W'.cell? ⟨b,p,none⟩=some v) (J:∀(b p:Nat) (v:Value),W.cell? ⟨b,p+2,none⟩=some v->P b)
  {v:Value} {l:List Evt} (h:bh W v l):bh W' v l:=by
 obtain⟨A,c,rfl,Z,O,h3⟩:=h;refine⟨A,c,rfl,Z,O,fun k x hx=>?_⟩;obtain⟨b,o,e,ve,G,c0,c1,I,c3,c4⟩:=h3 k x hx;have hp:=J _ _ _ I;exact⟨b,o,e,ve,Mh z J G,z _ _ _ hp c0,z _ _ _ hp c1,z _ _ _ hp I,z _ _ _ hp c3,z _ _ _ hp c4⟩
theorem tj {W W':World} {row:Option Nat} (z:W.grownBy W' row) (hr:∀r,row=some r->∃o:Obj,W.heap[r]?=some o/\o.isCells=false) {v:Value} {l:List Evt} (h:bh W v l):bh W' v l :=
 B8 (P:=fun _=>True) (fun _ _ _ _ G=>cell_kept G z hr) (fun _ _ _ _=>trivial) h
theorem BR {W:World} {B:Nat} {t:TypeId} {v0:Value} (G:Boxed W B t v0) (u:Value) {v:Value} {l:List Evt} (h:bh W v l):bh (W.setCell ⟨B,0,none⟩ u) v l :=
 B8 (P:=fun b=>b≠B) (fun b p x I z=>(ML (a:=⟨b,p,none⟩) (Nj W ⟨B,0,none⟩ u b I)).trans z) (fun b p x z e=>by
  subst e;rw[World.cell?,show W.heap[b]?=_ from G]at z;simp at z) h
theorem bJ {W:World} {B z:Nat} {t:TypeId} {v:Value} (h:Boxed W B t v) (G:B≠z) (u:Value):Boxed (W.setCell ⟨z,0,none⟩ u) B t v:=(Nj W ⟨z,0,none⟩ u B G).trans h
open Classical in
noncomputable def je:List (Vl × List Evt)->Vl->List Evt
 | [],_=>[]
 | (k,s)::r,v=>if k=v then s else je r v
theorem pL {v:Vl}:∀{L:List (Vl × List Evt)},(∀p∈L,p.1≠v)->je L v=[]
 | [],_=>rfl
 | (k,s)::r,h=>by
  rw[je,Mo (h (k,s) (Mz ..))];exact pL fun p hp=>h p (MD _ hp)
theorem pG {v:Vl}:∀{L:List (Vl × List Evt)} {k:Nat} {p:Vl × List Evt},L[k]?=some p->(∀q∈L.take k,q.1≠v)->p.1=v->je L v=p.2
 | [],_,_,h,_,_=>by simp at h
 | (a,s)::r,0,p,h,_,e=>by simp at h;subst h;rw[je,Mp e]
 | (a,s)::r,k+1,p,h,ha,e=>by
  rw[je,Mo (ha (a,s) (by rw[Oc];exact Mz ..))];exact pG (k:=k) (jQ h) (fun q hq=>ha q (by rw[Oc];exact MD _ hq)) e
noncomputable def mw (q:Qry) (l:List Evt) (v:Vl):List Evt × Int:=if (aN q l).2≠0 then ([],(aN q l).2) else (je ((aN q l).1.1.zip (aN q l).1.2) v,0)
theorem ol (q:Qry) (l:List Evt):(aN q l).1.2.length=(aN q l).1.1.length:=by
 unfold aN dz
 split
 ·rfl
 ·split
  ·rfl
  ·simp[bV]
def CL (w:World) (r:List Evt × Int) (e:Ending) (W:World):Prop:=∃u,e=.returned (.tuple #[u,Mk r.2])/\bh W u r.1/\Mm w W
def Kk (w G:World) (z I h:Nat) (v:Vl) (L:List (Vl × List Evt)) (k:Nat) (W:World):Prop :=
 Boxed W I 34 (.slice none 0 0)/\Boxed W h 38 (Mk 0)/\Cells W z 0 (bR v)/\(∀p∈L.take k,p.1≠v)/\Mm w W/\Mm G W
def G9 (w:World) (z h:Nat) (v:Vl) (L:List (Vl × List Evt)) (c:Code) (k:Nat) (W:World):Prop :=
 c=.ret/\∃p u,L[k-1]?=some p/\(∀q∈L.take (k-1),q.1≠v)/\p.1=v/\Boxed W z 34 u/\Boxed W h 38 (Mk 0)/\bh W u p.2/\Mm w W
theorem Dc {w z:World} {J b6 I B:Nat} {v:Vl} {L:List (Vl × List Evt)} (hw:w.heap.size<=B) (hs:z.heap.size<=B):OwnFrom B (Kk w z J b6 I v L) :=
 fun _ _ _ _ ⟨h1,O,h3,Z,G,h⟩ hg hr=>⟨bS h1 hg (fun r e=>(hr r e).2),bS O hg (fun r e=>(hr r e).2),ls h3 hg (fun r e=>(hr r e).2),Z,gS G G.size hg (fun r e=>Mx hw (hr r e).1),gS h h.size hg (fun r e=>Mx hs (hr r e).1)⟩
theorem AD {w:World} {G Z B:Nat} {v:Vl} {L:List (Vl × List Evt)} (hw:w.heap.size<=B) (c:Code):OwnFrom B (G9 w G Z v L c) :=
 fun _ _ _ _ ⟨h0,p,u,J,z,h3,I,O,h6,h⟩ hg hr=>⟨h0,p,u,J,z,h3,bS I hg (fun r e=>(hr r e).2),bS O hg (fun r e=>(hr r e).2),tj hg (fun r e=>(hr r e).2) h6,gS h h.size hg (fun r e=>Mx hw (hr r e).1)⟩
theorem AR {v:Vl} {L:List (Vl × List Evt)} {k:Nat} {p:Vl × List Evt} (h:∀q∈L.take k,q.1≠v) (hp:L[k]?=some p) (h0:p.1≠v):∀q∈L.take (k+1),q.1≠v:=fun q hq=>by
 rw[bK hp,NC,NK]at hq;rcases hq with hq|rfl
 ·exact h q hq
 ·exact h0
theorem ko:(prog.info? 33).map (·.size)=some 18:=kr
theorem nX {W:World} {b:Nat} {x:Vl} (h0:W.cell? ⟨b,0,none⟩=some (Mk x.kind)) (G:W.cell? ⟨b,1,none⟩=some (Mk x.num)) (z:W.cell? ⟨b,2,none⟩=some (.string x.text)):Cells W b 0 (bR x):=fun j u h=>by
 rw[MC]
 match j,h with
 | 0,h=>simp[bR]at h;subst h;exact h0
 | 1,h=>simp[bR]at h;subst h;exact G
 | 2,h=>simp[bR]at h;subst h;exact z
 | j+3,h=>simp[bR]at h
theorem tE {W:World} {b:Nat} {x:Vl} (h:Cells W b 0 (bR x)):W.cell? ⟨b,0,none⟩=some (Mk x.kind)/\W.cell? ⟨b,1,none⟩=some (Mk x.num)/\W.cell? ⟨b,2,none⟩=some (.string x.text) :=
 ⟨by have:=h 0 _ rfl;simpa using this,by have:=h 1 _ rfl;simpa using this,by have:=h 2 _ rfl;simpa using this⟩
def AxS (T:Array Value) (W0:Nat) (x:Vl × List Evt) (a:Array Value) (h:Act) (W:World):Prop :=
 ∃B u,W0<=B/\a=#[vlV x.1,u]/\h={ tmps:=(((T.setIfInBounds 26 (vlV x.1)).setIfInBounds 27 u).setIfInBounds 11 (.pointer (some ⟨B,0,none⟩))).setIfInBounds 12 u,defers:=[] }/\Cells W B 0 (bR x.1)
theorem IN (T:Array Value) (W0 B:Nat) (x:Vl × List Evt) (a:Array Value) (z:Act):OwnFrom B (fun (_:Unit) W=>AxS T W0 x a z W) :=
 fun _ _ _ _ ⟨b,u,h0,G,h,I⟩ hg hr=>⟨b,u,h0,G,h,ls I hg (fun r e=>(hr r e).2)⟩
theorem xU (d:Nat) (q:Qry) (l:List Evt) (key:Vl) (vv vk va vc vr vl:Value) (w:World) (hA:PartAsk d w q l vv vk va vc vr vl) :
  Calls prog 8 #[gN q vv vk va vc vr,vl,vlV key] w (CL w (mw q l key)):=by
 have k':=jD (fun (W:World) (hW:Mm w W)=>lh d q l vv vk va vc vr vl W (hA.stays hW));have N':=jD (ol q l);obtain⟨S,hS⟩:=jE (mw q l key);obtain⟨⟨⟨ks,ps⟩,se⟩,hR⟩:∃R,aN q l=R:=⟨_,rfl⟩;have HS:Hid (S=if se≠0 then ([],se) else (je (ks.zip ps) key,0)):=jD (by rw[<-hS,mw,hR]);rw[hS];rw[hR]at k' N';obtain⟨Av,cv,Ak,ck,Aa,ca,Ac,cc,Ar,cr,Al,cl,rfl,rfl,rfl,rfl,rfl,rfl⟩:=hA.form;clear hA hR hS;unfold gN at k' ⊢;unfold vlV;refine (OQ (n:=5)).1 ?_;refine callsIn_of_wp_marks func8 rfl trivial ?_ rfl;simp only[ntmps8,N5,MG,Og,Nat.reduceAdd,Nat.reduceSub,O1,O2,O3,O4,OP,Oi]
 have U':∀o1 o2 o3:Obj,((((w.alloc (.cells #[.string q.nm,.slice Av q.vars.length cv,.slice Ak q.key.length ck,.int .i64 q.pat.op,.slice Aa q.pat.args.length ca,.int .i64 q.pat.ty,.int .i64 q.pat.vr,.int .i64 q.pat.sc,.int .i64 q.pat.sp,.int .i64 q.pat.cond.op,.slice Ac q.pat.cond.args.length cc,.int .i64 q.pat.cond.vr,.int .i64 q.pat.cond.fl,.int .i64 q.pat.cond.kd,.int .i64 q.pat.cond.val.kind,.int .i64 q.pat.cond.val.num,.string q.pat.cond.val.text,.slice Ar q.rets.length cr] 33 (0,0))).alloc o1).alloc o2).alloc o3).heap[w.heap.size]?=some (.cells #[.string q.nm,.slice Av q.vars.length cv,.slice Ak q.key.length ck,.int .i64 q.pat.op,.slice Aa q.pat.args.length ca,.int .i64 q.pat.ty,.int .i64 q.pat.vr,.int .i64 q.pat.sc,.int .i64 q.pat.sp,.int .i64 q.pat.cond.op,.slice Ac q.pat.cond.args.length cc,.int .i64 q.pat.cond.vr,.int .i64 q.pat.cond.fl,.int .i64 q.pat.cond.kd,.int .i64 q.pat.cond.val.kind,.int .i64 q.pat.cond.val.num,.string q.pat.cond.val.text,.slice Ar q.rets.length cr] 33 (0,0)):=fun o1 o2 o3=>bB (bB (bB (ax _ _ _ rfl)))
 refine wpIn_wide.2 ?_;go_wp2_with (refine Od rfl 33 (.tmp 3) rfl w.heap.size rfl 33 _ (0,0) _ (U' _ _ _) underlying33 rfl ko ?_);refine aI fun w1 e1=>?_
 have E':Mm w w1:=gb e1;obtain⟨b7,D'⟩:∃b,b=w.heap.size+1+1+1:=⟨_,rfl⟩;obtain⟨b6,y'⟩:∃b,b=w.heap.size+1+1:=⟨_,rfl⟩;obtain⟨b5,i'⟩:∃b,b=w.heap.size+1:=⟨_,rfl⟩;have p':Cells w1 b5 0 (bR key):=nX (by rw[e1,i'];go_simp) (by rw[e1,i'];go_simp) (by rw[e1,i'];go_simp);have J:Boxed w1 b6 34 (.slice none 0 0):=by rw[e1,y'];exact bB (ax _ _ _ jS)
 have I:Boxed w1 b7 38 (Mk 0):=by rw[e1,D'];exact ax _ _ _ jS
 have q':Hid (w.heap.size<b5/\b5<b6/\b6<b7/\b7<w1.heap.size):=jD ⟨by omega,by omega,by omega,I.lt⟩;rw[<-D',<-y',<-i'];clear e1 D' y' i';refine (k'.out _ E').mono ?_;rintro e w2 ⟨kv,pv,rfl,x',C',d'⟩;have T':=jD x';have X':=jD C';obtain⟨A1,c1,rfl,-⟩:=id x';obtain⟨A2,c2,rfl,-⟩:=id C';have p':=dw p' d';have J:Boxed w2 b6 34 (.slice none 0 0):=(d'.block _ J.lt).trans J;have I:Boxed w2 b7 38 (Mk 0):=(d'.block _ I.lt).trans I;have I':=jD (ab E' d');have Y':=jD d'.size;clear x' C' E' d' k';have q6:=J.cell;have f6:=J.frozen;have q7:=I.cell;have f7:=I.frozen;have l6:=J.lt;have l7:=I.lt;have s':w.heap.size<=b6:=by have:=q'.out;omega
 have z':w.heap.size<=b7:=by have:=q'.out;omega
 have t':b6≠b7:=by have:=q'.out;omega
 have n':b7≠b6:=by have:=q'.out;omega
 by_cases h0:se=0
 case neg =>
  have Q0:(se != 0)=true:=jQ h0;obtain rfl:S=([],se):=by have h:=HS.out;rw[Mp h0]at h;exact h
  clear h0 HS;go_wp2_with fail;refine⟨.tuple #[.slice none 0 0,Mk se],?_,_,rfl,Sl.nil _ _ _ _ _ (Mu _),aq (aq I'.out s' _) z' _⟩;have r6:=(bJ (J.set (.slice none 0 0)) t' (Mk se)).cell;have r7:=(Boxed.set (Mk se) (bJ I n' (.slice none 0 0))).cell;simp[results,Tryz.f8,go_sem,r6,r7]
 subst h0;obtain rfl:S=(je (ks.zip ps) key,0):=by have h:=HS.out;rw[Mo jS]at h;exact h
 clear HS;go_wp2_with fail;refine (nP _ _ _ ⟨_,_,_,rfl⟩ ⟨_,_,_,rfl⟩).mono ?_;rintro e w3 ⟨rfl,e3⟩;have O:Mm w2 w3:=gb e3;have k3:Ml w3 w2.heap.size 0 (.slice A1 ks.length c1):=jG e3;have p3:Ml w3 (w2.heap.size+1) 0 (.slice A2 ps.length c2):=jG e3;have Z':w3.heap.size=w2.heap.size+2:=by rw[e3];simp
 have r':=jD (nQ ks ps _ _ w2.heap.size (w2.heap.size+1) w2 w3 N'.out T'.out X'.out O k3 p3);have Z:Hid (Boxed w3 b6 34 (.slice none 0 0)):=jD ((O.block _ J.lt).trans J);have c':Hid (Boxed w3 b7 38 (Mk 0)):=jD ((O.block _ I.lt).trans I);have V':=jD (dw p' O);have h':=jD (ab I'.out O);have g':=jD O;clear e3 k3 p3 O J I p' q6 f6 q7 f7;obtain⟨kb,l'⟩:∃b,b=w2.heap.size:=⟨_,rfl⟩;obtain⟨pb,j'⟩:∃b,b=w2.heap.size+1:=⟨_,rfl⟩;have f':=jD (And.intro l' j');rw[<-j',<-l']at r';rw[<-j',<-l'];clear l' j';go_wp2_with fail;refine (Ok (n:=5)).1 ?_;refine jU fun a0 e0=>?_
 refine pU (n:=5) (gf:=43) (lb:=#[.pointer (some ⟨kb,0,none⟩),.pointer (some ⟨pb,0,none⟩)]) (by rw[e0];rfl) (enters_of func43 kr rfl) r'.out
  CD (Ki (by have:=g'.out.size;have:=f'.out;omega) (by have:=f'.out;omega) (by have:=f'.out;omega)) (Mr _ _) (fun x v=>wK w2 _ x v) (fun x v W h=>sV h)
  (Kk w w3 b5 b6 b7 key (ks.zip ps)) (G9 w b6 b7 key (ks.zip ps)) (Dc h'.out.size (Mt _)) (AD h'.out.size) ⟨Z.out,c'.out,V'.out,by simp,h'.out,Mr _ _⟩
  (AxS a0.tmps w.heap.size) (fun x v a'=>IN _ _ _ x v a') ?assign ?body ?done ?stop
 case assign =>
  intro m l9 k y v W K hl hy hi A' hK;obtain⟨u,rfl,hu⟩:=A';obtain⟨Au,cu,rfl,-⟩:=id hu;obtain⟨y1,y2⟩:=y;have G':w.heap.size<=W.heap.size:=hi.2.2.2.2.1.size;have J':w3.heap.size<=W.heap.size:=hi.2.2.2.2.2.size;have HI:=jD hi;have HU:=jD hu;have HK:=jD hK;have K0:=jD hl;clear hi hu hK hy hl;rw[e0];unfold vlV;gi_wp2;refine BW fun W' e'=>?_
  have z:Mm W W':=gb e';have hc:Cells W' W.heap.size 0 (bR y1):=nX (jG e') (jG e') (jG e');clear e';have R':=HK.out;rw[e0]at R';refine R' _ _ (bF z) (vN z (by have:=f'.out;omega) (by have:=f'.out;omega) (by have:=f'.out;omega)) ?_ ⟨_,rfl,HU.out⟩ ⟨W.heap.size,_,G',rfl,rfl,hc⟩;have h:=HI.out;exact⟨(z.block _ h.1.lt).trans h.1,(z.block _ h.2.1.lt).trans h.2.1,dw h.2.2.1 z,h.2.2.2.1,h.2.2.2.2.1.trans (z.mono G'),h.2.2.2.2.2.trans (z.mono J')⟩
 case body =>
  rintro m l9 k ⟨y1,y2⟩ v a' W hl-hy hi A' ⟨B,u,hB,rfl,rfl,hc⟩;obtain⟨u',H',hu⟩:=A';obtain rfl:u=u':=jQ H';obtain⟨Au,cu,rfl,-⟩:=id hu;have HI:=jD hi;have HU:=jD hu;have HY:=jD hy;have S':=hi;obtain⟨x6,x7,xc,G,z,F'⟩:=S';obtain⟨p0,p1,p2⟩:=tE hc;obtain⟨z0,z1,z2⟩:=tE xc;have q6:=x6.cell;have f6:=x6.frozen;have q7:=x7.cell;have f7:=x7.frozen;have l6:=x6.lt;have l7:=x7.lt;have H0:B<W.heap.size:=Ms W ⟨B,_,none⟩ p0;have P0:b5<W.heap.size:=Ms W ⟨b5,_,none⟩ z0;obtain⟨r,hr⟩:=jF (bY y1 key);have heq:∀W,(binOp .eql 27 (.agg #[Mk y1.kind,Mk y1.num,.string y1.text]) (.agg #[Mk key.kind,Mk key.num,.string key.text])).run prog W=.ok (.bool r) W:=fun W=>by rw[hr];exact vK y1 key W
  have HR:=jD hr;have Z:=jD x6;have c':=jD x7;clear hi H' hu hy G z F' hc xc hr x6 x7;rw[e0];unfold vlV;simp only[NA,MZ,MY]
  cases r with
  | true =>
   have he:y1=key:=dY.1 HR.out.symm;gi_wp2_with fail;refine⟨((KeepsOthers.setCell _ _ _).from _).trans ((KeepsOthers.setCell _ _ _).from _),rfl,(y1,y2),_,jQ HY.out,jQ HI.out.2.2.2.1,he,bJ (Z.out.set _) t' _,Boxed.set _ (bJ c'.out n' _),?_,aq (aq HI.out.2.2.2.2.1 s' _) z' _⟩;exact BR (bJ c'.out n' _) _ (BR Z.out _ (HU.out.stays aG (g'.out.trans (HI.out.2.2.2.2.2.mono g'.out.size))))
  | false =>
   have he:y1≠key:=fun e=>by have h:=HR.out;rw[dY.2 e]at h;cases h
   gi_wp2_with fail;exact⟨bF (Mr _ _),wF _ _ _ _,Z.out,c'.out,HI.out.2.2.1,AR HI.out.2.2.2.1 HY.out he,HI.out.2.2.2.2.1,HI.out.2.2.2.2.2⟩
 case done =>
  rintro D W hD ⟨x6,x7,xc,G,z,O'⟩ hK;have hp:je (ks.zip ps) key=[]:=pL (by rw[Nq]at G;exact G);have B':=jD z;have HK:=jD hK;have q6:=x6.cell;have f6:=x6.frozen;have q7:=x7.cell;have f7:=x7.frozen;have l6:=x6.lt;have l7:=x7.lt;have Z:=jD x6;have c':=jD x7;have HP:=jD hp;clear G z hK O' xc hp x6 x7;rw[e0];go_wp2_with fail;have m':=((KeepsOthers.setCell W ⟨b6,0,none⟩ (.slice none 0 0)).trans (KeepsOthers.setCell _ ⟨b7,0,none⟩ (Mk 0))).same D _ HK.out rfl;refine⟨by simp,.inl ⟨_,_,rfl,run_takeDeferred m',?_⟩⟩;have w6:=bJ (Z.out.set (.slice none 0 0)) t' (Mk 0);have w7:=Boxed.set (Mk 0) (bJ c'.out n' (.slice none 0 0));have r6:=(w6.kept (grownBy_putObj' _ D (.deferred none)) (by intro h;cases h;have h2:(World.setCell _ _ _).heap[b6]?=_:=w6;rw[m']at h2;cases h2)).cell;have r7:=(w7.kept (grownBy_putObj' _ D (.deferred none)) (by intro h;cases h;have h2:(World.setCell _ _ _).heap[b7]?=_:=w7;rw[m']at h2;cases h2)).cell;refine⟨.tuple #[.slice none 0 0,Mk 0],?_,_,rfl,(by show bh _ _ (je (ks.zip ps) key);rw[HP.out];exact Sl.nil _ _ _ _ _ (Mu _)),(aq (aq B'.out s' _) z' _).trans (belowK_b (w:=w) (Mt _) _ D _ _ (by have:=h'.out.size;omega) m' rfl rfl)⟩;simp[results,Tryz.f8,go_sem,r6,r7]
 case stop =>
  rintro D c k W hD hk ⟨rfl,p,u,P',G,he,x6,x7,hu,z⟩ hK;have hp:je (ks.zip ps) key=p.2:=pG (jQ P') (jQ G) he;have B':=jD z;have HK:=jD hK;have HU:=jD hu;rw[hp];clear G z hK hu P' hp;rw[e0];gi_wp2;refine⟨by simp,.inl ⟨_,_,rfl,run_takeDeferred HK.out,?_⟩⟩;have r6:=(x6.kept (grownBy_putObj' _ D (.deferred none)) (by intro h;cases h;have h2:W.heap[b6]?=_:=x6;rw[HK.out]at h2;cases h2)).cell;have r7:=(x7.kept (grownBy_putObj' _ D (.deferred none)) (by intro h;cases h;have h2:W.heap[b7]?=_:=x7;rw[HK.out]at h2;cases h2)).cell;obtain⟨Au,cu,rfl,-⟩:=id HU.out;refine⟨.tuple #[.slice Au p.2.length cu,Mk 0],?_,_,rfl,tj (grownBy_putObj' _ D (.deferred none)) (fun r e=>by injection e with e;subst e;exact⟨_,HK.out,rfl⟩) HU.out,B'.out.trans (belowK_b (w:=w) (Mt _) _ D _ _ (by have:=h'.out.size;omega) HK.out rfl rfl)⟩;simp[results,Tryz.f8,go_sem,r6,r7]
end
end Go.Proofs.YtbjicljfjkdeeaaGreatDoor
