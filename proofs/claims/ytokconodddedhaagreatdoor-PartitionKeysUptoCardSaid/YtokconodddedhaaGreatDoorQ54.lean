/- Part. -/
import Derived.Test.YtokconodddedhaaGreatDoorQ38
set_option maxRecDepth 100000
set_option maxHeartbeats 16000000
set_option linter.unusedVariables false
set_option linter.unusedSimpArgs false
namespace Go.Proofs.YtokconodddedhaaGreatDoor
open Go.Proofs.Tryz Go.RowKit
def aZ (q:Qry) (l:List Evt):(List Vl × List (List Evt)) × Int:=if cK q.pat≠0 then (([],[]),cK q.pat) else dI q.key l
structure PartAsk (d:Nat) (w:World) (q:Qry) (l:List Evt) (vv vk va vc vr vl:Value):Prop where
 shp:Shp w
 qry:QryIs d w q vv vk va vc vr
 evs:bm w vl l
 few:ptB q.pat<=1048576
 wf:∀e∈l,∀x∈e.vals,gV x
 vals:∀e∈l,e.vals.length<=1048576
theorem PartAsk.stays {d:Nat} {w w':World} {q:Qry} {l:List Evt} {vv vk va vc vr vl:Value} (h:PartAsk d w q l vv vk va vc vr vl) (z:KY w w'):PartAsk d w' q l vv vk va vc vr vl :=
 ⟨h.shp.stays z,h.qry.stays z,h.evs.stays aK z,h.few,h.wf,h.vals⟩
theorem lg (d:Nat) (q:Qry) (l:List Evt) (vv vk va vc vr vl:Value) (w:World) (z:PartAsk d w q l vv vk va vc vr vl) :
  Calls prog 37 #[dO q vv vk va vc vr,vl] w (mG w (aZ q l)):=by
 have D:=jD (fun (W:World) (Z:KY w W)=>gP d q.pat va vc W (z.shp.stays Z) (z.qry.args.stays (aB d) Z) (z.qry.cond.stays (ai d) Z) z.few);have d':=jD (fun (W:World) (Z:KY w W)=>Dj l q.key vl vk W (z.evs.stays aK Z) (z.qry.key.stays aL Z) z.wf z.vals);have j':=jD z;obtain⟨O,F⟩:∃e,e=cK q.pat:=⟨_,rfl⟩;have l':=jD F;rw[<-F]at D;obtain⟨R,hR⟩:=jE (aZ q l);have HR:Hid ((if O≠0 then (([],[]),O) else dI q.key l)=R):=jD (by rw[<-hR,aZ,<-F]);rw[hR];obtain⟨Ak,ck,rfl,-⟩:=id z.qry.key;obtain⟨Al,cl,rfl,-⟩:=id z.evs;obtain⟨nk,e'⟩:∃n,n=q.key.length:=⟨_,rfl⟩;obtain⟨nl,b'⟩:∃n,n=l.length:=⟨_,rfl⟩;rw[<-e',<-b']at d' ⊢;obtain⟨Av,cv,rfl,-⟩:=id z.qry.vars;obtain⟨Aa,ca,rfl,-⟩:=id z.qry.args;obtain⟨Ac,cc,rfl,-⟩:=id z.qry.cond;obtain⟨Ar,cr,rfl,-⟩:=id z.qry.rets;clear z F hR e' b';unfold ptV at D;unfold dO;go_enter func37,ntmps37;go_wp2_with fail;refine aw fun w1 e1=>?_
 have J:KY w w1:=gb e1;have x2:KX w1 w.heap.size 2 (.slice Ak nk ck):=jG e1;clear e1;refine (D.out _ J).mono ?_;rintro e w2 ⟨rfl,G⟩;replace x2:=aa G x2;have I:=jD (ab J G);clear J G D
 by_cases h0:O=0
 case neg =>
  have k':(O != 0)=true:=jQ h0;obtain rfl:(([],[]),O)=R:=by have h:=HR.out;rw[K7 h0]at h;exact h
  clear h0;go_wp2;exact Lc (v:=.tuple #[.slice none 0 0,.slice none 0 0,KW O]) (by simp[results,results37,go_sem]) rfl ⟨_,_,rfl,Sl.nil _ _ _ _ _ (Lb _),Sl.nil _ _ _ _ _ (Lb _),I.out⟩
 subst h0;obtain rfl:dI q.key l=R:=by have h:=HR.out;rw[K6 jS]at h;exact h
 go_wp2_with fail;refine (d'.out _ I.out).mono ?_;rintro e w3 ⟨kv,pv,rfl,c',f',a'⟩;have i':=jD (ab I.out a');have g':=jD c';have h':=jD f';obtain⟨A1,c1,rfl,-⟩:=c';obtain⟨A2,c2,rfl,-⟩:=f';clear a' x2;go_wp2;exact Lc (v:=.tuple #[.slice A1 _ c1,.slice A2 _ c2,KW (dI q.key l).2]) (by simp[results,results37,go_sem]) rfl ⟨_,_,rfl,g'.out,h'.out,i'.out⟩
def AM (w:World) (r:List Vl × Int) (e:Ending) (W:World):Prop:=∃kv,e=.returned (.tuple #[kv,KW r.2])/\aV W kv r.1/\KY w W
theorem PartAsk.form {d:Nat} {w:World} {q:Qry} {l:List Evt} {vv vk va vc vr vl:Value} (h:PartAsk d w q l vv vk va vc vr vl):∃z G Ak ck J ca Ac O I D F Z,vv=.slice z q.vars.length G/\vk=.slice Ak q.key.length ck/\va=.slice J q.pat.args.length ca/\vc=.slice Ac q.pat.cond.args.length O/\vr=.slice I q.rets.length D/\vl=.slice F l.length Z:=by
 obtain⟨z,G,e1,-⟩:=h.qry.vars;obtain⟨Ak,ck,e2,-⟩:=h.qry.key;obtain⟨J,ca,e3,-⟩:=h.qry.args;obtain⟨Ac,O,e4,-⟩:=h.qry.cond;obtain⟨I,D,e5,-⟩:=h.qry.rets;obtain⟨F,Z,e6,-⟩:=h.evs;exact⟨z,G,Ak,ck,J,ca,Ac,O,I,D,F,Z,e1,e2,e3,e4,e5,e6⟩
theorem C0 (d:Nat) (q:Qry) (l:List Evt) (vv vk va vc vr vl:Value) (w:World) (I:PartAsk d w q l vv vk va vc vr vl) :
  Calls prog 19 #[dO q vv vk va vc vr,vl] w (AM w ((aZ q l).1.1,(aZ q l).2)):=by
 have h:=jD (fun (W:World) (hW:KY w W)=>lg d q l vv vk va vc vr vl W (I.stays hW));obtain⟨R,hR⟩:=jE (aZ q l);rw[hR]at h ⊢;obtain⟨Av,cv,Ak,ck,Aa,ca,Ac,cc,Ar,cr,Al,cl,rfl,rfl,rfl,rfl,rfl,rfl⟩:=I.form;clear I hR;unfold dO at h ⊢;go_enter func19,ntmps19;go_wp2_with (refine wpList_load_row rfl 33 (.tmp 2) rfl w.heap.size rfl 33 _ (0,0) _ (ap _ _ _ rfl) underlying33 rfl kr ?_);refine aw fun w1 Z=>?_
 have z:KY w w1:=gb Z;clear Z;refine (h.out _ z).mono ?_;rintro e w3 ⟨kv,pv,rfl,F,O,D⟩;have J:=jD (ab z D);have G:=jD F;obtain⟨A1,c1,rfl,-⟩:=F;obtain⟨A2,c2,rfl,-⟩:=O;clear z D;go_wp2;exact Lc (v:=.tuple #[.slice A1 _ c1,KW R.2]) (by simp[results,results19,go_sem]) rfl ⟨_,rfl,G.out,J.out⟩
section
open Go.RowKit Go.Lib
theorem F1 {F:Fence} {n:Nat} {P:Program} {c:Code} {Q:Exit->Act->World->Prop} {a:Act} {w:World} (h:∀W:World,W=w->c.wpIn F n P Q a W):c.wpIn F n P Q a w:=h w rfl
def KpS (n1 z h:Nat) (W W':World):Prop:=Below n1 W W'/\W'.heap[z]?=W.heap[z]?/\W'.heap[h]?=W.heap[h]?
theorem Bj {n1 D h:Nat} {A B C:World} (z:KpS n1 D h A B) (F:KpS n1 D h B C):KpS n1 D h A C:=⟨z.1.trans F.1,F.2.1.trans z.2.1,F.2.2.trans z.2.2⟩
theorem uN {n1 D z:Nat} {W W':World} (h:KY W W') (F:n1<=W.heap.size) (hk:D<W.heap.size) (hp:z<W.heap.size):KpS n1 D z W W':=⟨h.mono F,h.block D hk,h.block z hp⟩
theorem wQ (n1 z h:Nat) (W:World):KpS n1 z h W W:=⟨⟨rfl,rfl,rfl,Ld _,fun _ _=>rfl⟩,rfl,rfl⟩
theorem JJ {n1 z h m:Nat} (D:n1<=m) (hk:z<m) (hp:h<m) (W:World) (l:Nat) (o o':Obj) (F:m<=l) (_:W.heap[l]?=some o) (_:o.isCells=false) (_:o.isWalk=false):KpS n1 z h W (W.putObj l o') :=
 ⟨⟨rfl,rfl,rfl,by simp[World.putObj],fun k hk=>World.putObj_heap_other om⟩,World.putObj_heap_other om,World.putObj_heap_other om⟩
def KI (h:World) (x:Vl × List Evt) (a:Array Value) (_:World):Prop:=∃u,a=#[vlV x.1,u]/\bm h u x.2
theorem xO (z:World) (B:Nat) (x:Vl × List Evt) (a:Array Value):OwnFrom B (fun (_:Unit) W=>KI z x a W):=fun _ _ _ _ h _ _=>h
theorem sK {z W:World} {x:Vl × List Evt} {a:Array Value} (h:KI z x a W):a.size=2:=by
 obtain⟨u,rfl,-⟩:=h;rfl
theorem oK (ks:List Vl) (ps:List (List Evt)) (kv pv:Value) (G D:Nat) (I w:World) (hlen:ps.length=ks.length) (hk:aV I kv ks) (hp:Sl nY 1 I pv ps) (hb:KY I w)
  (h':w.cell? ⟨G,0,none⟩=some kv) (m':w.cell? ⟨D,0,none⟩=some pv) :
  SeqC 77 #[.pointer (some ⟨G,0,none⟩),.pointer (some ⟨D,0,none⟩)] (ks.zip ps) (KI I) (KpS I.heap.size G D) w:=by
 intro ly J Jx W F hJ r' hY k';have p':=ab hb F;have i':=jD p';have HJ:=jD hJ;have HY:=jD hY;have y':=jD k';have c1:=aa F h';have c2:=aa F m';obtain⟨Ak,ck,rfl,k1,k2,c'⟩:=id hk;obtain⟨Ap,cp,rfl,-,-,b'⟩:=id hp;have f':=ax k1 k2;have t':=K8 W ⟨G,_,none⟩ c1;have x':=K8 W ⟨D,_,none⟩ c2;obtain⟨n,hn⟩:=jF ks.length;rw[hlen]at c2;rw[<-hn]at c1 c2 f';have n':Hid ((ks.zip ps).length=n):=jD (by rw[List.length_zip,hlen,hn];exact Nat.min_self _);have HN:=jD hn;have HL:=jD hlen;have C':=jD c';have s':=jD b';have B':=jD c1;have z':=jD c2;clear F hJ r' hY k' p' hb h' m' hk hp k1 k2 c' b' hn hlen;show Calls prog 77 #[.func (.yield ly) #[] #[],.pointer (some ⟨G,0,none⟩),.pointer (some ⟨D,0,none⟩)] W _;go_enter func77,ntmps77;refine (wpIn_wide (n:=5)).1 ?_;gi_wp2
 gi_loopw [8] (fun t wr=>∃k:Nat,k<=n/\t=KW k/\Hid (J k wr/\KpS I.heap.size G D W wr)) (fun t _=>n-(RowKit.intOf t).toNat)
 case atStart=>exact⟨0,Lb _,rfl,jD ⟨cD HJ.out y'.out jB,uN jB i'.out.size t' x'⟩⟩
 case round =>
  obtain⟨k,hk,rfl,hI⟩:=hrel;have z:Hid (KY I wr):=jD (i'.out.trans hI.out.2.1);have zp:KX wr D 0 (.slice Ap n cp):=(Ln (a:=⟨D,0,none⟩) hI.out.2.2.2).trans z'.out;have j':=K8 wr ⟨D,_,none⟩ zp;have l':G<wr.heap.size:=K8 wr ⟨G,0,none⟩ ((Ln (a:=⟨G,0,none⟩) hI.out.2.2.1).trans B'.out)
  by_cases F':k<n
  ·have A':(k:Int)<(n:Int):=by omega
   have q':k<ks.length:=by have:=HN.out;omega
   have g':k<ps.length:=by have:=HN.out;have:=HL.out;omega
   have Z:=K9 q';have O:=K9 g';obtain⟨y,hy⟩:=jF (ks[k]);obtain⟨s,hs⟩:=jF (ps[k]);rw[<-hy]at Z;rw[<-hs]at O;obtain⟨bk,ok,rfl,y0,y1,y2⟩:=C'.out k y Z;obtain⟨bq,oq,rfl,us,d',zs⟩:=s'.out k s O;rw[LL]at zs;obtain⟨As,cs,rfl,-⟩:=id d';have H':bk<wr.heap.size:=Ll (K8 I ⟨bk,_,none⟩ y0) z.out.size;have E':bq<wr.heap.size:=Ll (K8 I ⟨bq,_,none⟩ zs) z.out.size;replace y0:=aa z.out y0;replace y1:=aa z.out y1;replace y2:=aa z.out y2;replace zs:=aa z.out zs;have u':Hid (∀W9,KY wr W9->YieldAt Fence.wide (5-1) prog ly #[.agg #[KW y.kind,KW y.num,.string y.text],.slice As s.length cs] W9 fun e W'=>(e=.returned (.bool true)/\J (k+1) W'/\KpS I.heap.size G D W W')\/(e=.returned (.bool false)/\Jx (k+1) W')):=by
    refine jD fun W9 h9=>ep (HY.out _ k (y,s) #[vlV y,.slice As s.length cs] W9 (List.getElem?_zip_eq_some.2 ⟨Z,O⟩) (cD HJ.out hI.out.1 h9) ⟨_,rfl,d'⟩) ?_
    rintro e W' (⟨rfl,g1,g2⟩|⟨rfl,g1⟩)
    ·exact .inl ⟨rfl,g1,Bj (Bj hI.out.2 (uN h9 z.out.size l' j')) g2⟩
    ·exact .inr ⟨rfl,g1⟩
   clear Z O hy hs d' q' g';gi_wp2;refine F1 fun w5 e5=>?_
   have a':Hid (KY wr w5):=jD (gb e5);replace zp:=aa a'.out zp;replace zs:=aa a'.out zs;obtain⟨Y,hY⟩:∃q,q=wr.heap.size:=⟨_,rfl⟩;have y0:KX w5 Y 0 (KW y.kind):=by rw[e5,hY];show _=_;go_simp
   have y1:KX w5 Y 1 (KW y.num):=by rw[e5,hY];show _=_;go_simp
   have y2:KX w5 Y 2 (.string y.text):=by rw[e5,hY];show _=_;go_simp
   rw[<-hY];have I':=K8 w5 ⟨Y,_,none⟩ y0;have G':=a'.out.size;clear e5 hY;have D':∀W,KY w5 W->(fun W:World=>KY w5 W/\KX W Y 0 (KW y.kind)/\KX W Y 1 (KW y.num)/\KX W Y 2 (.string y.text)/\KX W D 0 (.slice (some ⟨bq,oq,none⟩) n cp)/\KX W bq (oq+k) (.slice As s.length cs)) W:=fun W F=>⟨F,aa F y0,aa F y1,aa F y2,aa F zp,aa F zs⟩
   refine mz ?_;refine ox ((fun W:World=>KY w5 W/\W.cell? ⟨Y,0,none⟩=some (KW y.kind)/\W.cell? ⟨Y,1,none⟩=some (KW y.num)/\W.cell? ⟨Y,2,none⟩=some (.string y.text)/\W.cell? ⟨D,0,none⟩=some (.slice (some ⟨bq,oq,none⟩) n cp)/\W.cell? ⟨bq,oq+k,none⟩=some (.slice As s.length cs))) 6 kr (D' _ (La _ _).drew) (fun e'=>?_);refine tkY [0,1,2,3,4,5] ?_;refine rk (fuel:=1) (L:=(true::true::true::true::true::true::true::false::[]).toArray) rfl kr kr kr kr kr (fun K hK=>?_)
   go_simp
   refine gy (l:=ly) (args:=#[.agg #[KW y.kind,KW y.num,.string y.text],.slice As s.length cs]) (u'.out _ (show KY wr _ by exact ab a'.out e'.1)) (fun W7 h7=>?_) (fun W7 h7=>?_)
   ·have H7:=jD h7;clear h7;refine hK.out _ _ ?_;clear hK K
    focus (refine eX (i:=7) (fuel:=0) (L:=(true::true::true::true::true::true::true::true::[]).toArray) (v:=.bool false) rfl rfl kr kr kr ?_ ?_;(focus (go_simp<;>with_reducible rfl));simp only[Lj,Lk])
    refine wpAnyIn_done kr (NoPanic.normal ?_) _;gi_wp2
    go_roundw
    case rel=>exact⟨k+1,by omega,by go_num,jD ⟨H7.out.1,H7.out.2⟩⟩
    case measure=>simp[RowKit.intOf];omega
   ·have H7:=jD h7;clear h7;refine hK.out _ _ ?_;clear hK K
    focus (refine eX (i:=7) (fuel:=0) (L:=(true::true::true::true::true::true::true::true::[]).toArray) (v:=.bool true) rfl rfl kr kr kr ?_ ?_;(focus (go_simp<;>with_reducible rfl));simp only[Lj,Lk])
    refine wpAnyIn_done kr (NoPanic.normal ?_) _;gi_wp2;refine Lc (v:=.tuple #[]) (Mv rfl _ _ _) rfl ?_;exact⟨⟨_,rfl⟩,.inr ⟨k,by have h:=n'.out;rw[List.length_zip]at h;omega,H7.out⟩⟩
  ·have A':¬(k:Int)<(n:Int):=by omega
   obtain rfl:k=n:=by omega
   have HE:=jD hI.out.1;gi_wp2;refine ML (Mv rfl _ _ _) rfl ?_;exact⟨⟨_,rfl⟩,.inl (by have h:=n'.out;rw[List.length_zip]at h;rw[h];exact cD HJ.out HE.out jB)⟩
theorem oh (kv h:Value) (w:World) (hk:∃A n c,kv=.slice A n c) (hp:∃A n c,h=.slice A n c):Calls prog 38 #[kv,h] w fun e W =>
  e=.returned (.func (.func 77) #[] #[.pointer (some ⟨w.heap.size,0,none⟩),.pointer (some ⟨w.heap.size+1,0,none⟩)])/\W=(w.alloc (.cells #[kv] 56)).alloc (.cells #[h] 60):=by
 obtain⟨A,n,c,rfl⟩:=hk;obtain⟨D,z,F,rfl⟩:=hp;go_enter func38,ntmps38;go_wp2;go_ret;exact⟨rfl,rfl⟩
end
end Go.Proofs.YtokconodddedhaaGreatDoor
