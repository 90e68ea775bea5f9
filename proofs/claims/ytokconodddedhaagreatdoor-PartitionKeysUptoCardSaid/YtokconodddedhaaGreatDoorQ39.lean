/- Part. -/
import Derived.Test.YtokconodddedhaaGreatDoorQ37
import Derived.Test.YtokconodddedhaaGreatDoorQ54
set_option maxRecDepth 100000
set_option maxHeartbeats 16000000
set_option linter.unusedVariables false
set_option linter.unusedSimpArgs false
namespace Go.Proofs.YtokconodddedhaaGreatDoor
open Go.Proofs.Tryz Go.RowKit
theorem qf (ts:List Sch) (vs:List Nv):∀(l:List Pt) (k:Nat),(cB ts vs k l).2=0->cB ts vs k l=(0,0)
 | [],k,_=>rfl
 | t::r,k,h=>by
  rw[cB]at h ⊢
  by_cases h0:il ts vs t≠0
  ·rw[K7 h0]at h;exact absurd h h0
  ·rw[K6 h0]at h ⊢;exact qf ts vs r _ h
def lM (w:World) (r:Int) (e:Ending) (W:World):Prop:=e=.returned (KW r)/\KY w W
theorem tM (ts:List Sch) (vt:Value) (T:Nat) (w:World) (G:w.cell? ⟨T,0,none⟩=some vt) (F:iZ w vt ts) (hf:∀s∈ts,fM s):Calls prog 288 #[.pointer (some ⟨T,0,none⟩)] w (lM w (fU ts)):=by
 have D:=jD (kg ts vt w F hf);have I:=K8 w ⟨T,_,none⟩ G;obtain⟨Z,J,rfl,-⟩:=F;clear hf;go_enter func288,ntmps288;go_wp2_with fail;refine D.out.mono ?_;rintro e O ⟨rfl,h⟩;have z:=jD h;clear h;exact fi z.out
theorem th (ts:List Sch) (vs:List Nv) (vt vv:Value) (T V:Nat) (w:World) (G:w.cell? ⟨T,0,none⟩=some vt) (J:w.cell? ⟨V,0,none⟩=some vv) (hL:Lx w) (z:TypIs w ts vs vt vv) (hf:∀v∈vs,v.name.size<=1048576):Calls prog 289 #[.pointer (some ⟨T,0,none⟩),.pointer (some ⟨V,0,none⟩)] w (lM w (pU ts vs)):=by
 have D:=jD (GX ts vs vt vv w hL z hf);have O:=K8 w ⟨T,_,none⟩ G;have I:=K8 w ⟨V,_,none⟩ J;obtain⟨At,ct,rfl,-⟩:=z.types;obtain⟨Av,cv,rfl,-⟩:=z.vars;clear hf z hL;go_enter func289,ntmps289;go_wp2_with fail;refine D.out.mono ?_;rintro e Z ⟨rfl,h⟩;have F:=jD h;clear h;exact fi F.out
abbrev clV (g:FuncId) (l:List Nat):Value:=.func (.func g) #[] (l.map fun b=>Value.pointer (some ⟨b,0,none⟩)).toArray
def J0 (w:World) (vt vv:Value) (e:Ending) (W:World):Prop:=∃h z T V v,e=.returned v/\W.ownsRow w.heap.size 231 1 v 2 [clV 220 [h],clV 220 [z]] /\
 W.cell? ⟨h,0,none⟩=some (clV 288 [T])/\W.cell? ⟨z,0,none⟩=some (clV 289 [T,V])/\W.cell? ⟨T,0,none⟩=some vt/\W.cell? ⟨V,0,none⟩=some vv/\(∀g,v.ownBlock=some g->h≠g/\z≠g/\T≠g/\V≠g)/\KY w W
theorem lN (At Av:Option Addr) (nt ct nv cv:Nat) (w:World):Calls prog 226 #[.slice At nt ct,.slice Av nv cv] w (J0 w (.slice At nt ct) (.slice Av nv cv)):=by
 go_enter func226,ntmps226;go_wp2_with fail;refine aw fun O e1=>?_
 obtain⟨T,hT⟩:∃q,q=w.heap.size:=⟨_,rfl⟩;obtain⟨V,hV⟩:∃q,q=w.heap.size+1:=⟨_,rfl⟩;have a':KY w O:=gb e1;have t0:KX O T 0 (.slice At nt ct):=by rw[e1,hT];show _=_;go_simp
 have v0:KX O V 0 (.slice Av nv cv):=by rw[e1,hV];show _=_;go_simp
 rw[<-hV,<-hT];clear e1 hT hV;refine (eF _ _ O).mono ?_;rintro e w2 ⟨rfl,J,D⟩;obtain⟨b1,G⟩:∃q,q=O.heap.size:=⟨_,rfl⟩;rw[<-G]at J ⊢;have c':=jD (ab a' D);replace t0:=aa D t0;replace v0:=aa D v0;clear a' D G;go_wp2_with fail;refine (eF _ _ w2).mono ?_;rintro e z ⟨rfl,c2,h⟩;obtain⟨b2,F⟩:∃q,q=w2.heap.size:=⟨_,rfl⟩;rw[<-F]at c2 ⊢;have Z:=jD (ab c'.out h);replace t0:=aa h t0;replace v0:=aa h v0;replace J:=aa h J;have I:=jD (And.intro J (And.intro c2 (And.intro t0 v0)));have b':=Z.out.size;clear h F J c2 t0 v0;go_wp2;go_ret;refine⟨b1,b2,T,V,_,rfl,?_,aa (ag z _) I.out.1,aa (ag z _) I.out.2.1,aa (ag z _) I.out.2.2.1,aa (ag z _) I.out.2.2.2,fun g hg=>?_,aJ Z.out _⟩
 ·exact⟨rfl,.inr ⟨z.heap.size,2,_,rfl,b',Mp z _,Ld _,by unfold maxLen;omega,rfl,rfl⟩⟩
 ·have d':z.heap.size=g:=by simpa [Value.ownBlock] using hg
  have k1:=K8 z ⟨b1,_,none⟩ I.out.1;have k2:=K8 z ⟨b2,_,none⟩ I.out.2.1;have k3:=K8 z ⟨T,_,none⟩ I.out.2.2.1;have k4:=K8 z ⟨V,_,none⟩ I.out.2.2.2;simp only at k1 k2 k3 k4;omega
def vO (vs:List Nv) (x:Pt):Int:=if cK x≠0 then cK x else if sd x≠vs.length then 15 else 0
theorem Fq (l:List Pt):∀(v s:Int) (o:Bool),(l.foldl bS (v,s,o)).1=v+((l.filter fun y=>bX y.op).length:Int):=by
 induction l with
 | nil=>intro v s o;simp
 | cons y r z =>
  intro v s o;rw[Ms];show (r.foldl bS (_,_,_)).1=_;rw[z,List.filter_cons]
  by_cases h:bX y.op=true
  ·simp[h];omega
  ·simp[h]
theorem FU (x:Pt):(gT (aO x)).1=(sd x:Int):=by
 unfold gT sd;rw[Fq];simp
theorem FQ (d:Nat) (x:Pt) (vs:List Nv) (v vc vv:Value) (P V:Nat) (w:World) (hS:Shp w) (hp:Cells w P 0 (aQ x v vc)) (hv:w.cell? ⟨V,0,none⟩=some vv) (g':tg w vv vs) (hx:aW d w v x.args) (Z:aF d w vc x.cond.args) (hN:ptB x<=1048576) :
  Calls prog 227 #[.pointer (some ⟨P,0,none⟩),.pointer (some ⟨V,0,none⟩)] w (lM w (vO vs x)):=by
 have z:=zG d x v vc w hS hx Z hN;obtain⟨A,c,rfl,-⟩:=id hx;obtain⟨Ac,cc,rfl,-⟩:=id Z;obtain⟨n,hn⟩:=jF x.args.length;obtain⟨nc,c'⟩:∃n,n=x.cond.args.length:=⟨_,rfl⟩;obtain⟨Av,cv,rfl,v1,v2,-⟩:=g';have i':=ax v1 v2;obtain⟨p0,p1,p2,p3,p4,p5,p6,p7,p8,p9,l',k',h',j'⟩:=dv hp;have f':=K8 w ⟨P,_,none⟩ p0;have e':=K8 w ⟨V,_,none⟩ hv;obtain⟨R,hR⟩:=jE (vO vs x);have F:=hR;unfold vO at F;rw[hR];obtain⟨pe,b'⟩:∃q,cK x=q:=⟨_,rfl⟩;obtain⟨vn,a'⟩:∃q,sd x=q:=⟨_,rfl⟩;have d':js x=if pe≠0 then (0,0,pe) else ((vn:Int),(gT (aO x)).2.1,0):=by unfold js;rw[b'];split<;>simp[<-FU,<-a']
 rw[b',a']at F;have HR:=jD F;have D:=jD d';obtain⟨⟨r1,r2,r3⟩,hr⟩:∃r,r=js x:=⟨_,rfl⟩;rw[<-hr]at z D;obtain⟨nv,G⟩:∃n,n=vs.length:=⟨_,rfl⟩;rw[<-hn,<-c']at z;rw[<-hn]at p1;rw[<-c']at p7;rw[<-G]at hv i' HR;have z:=jD z;unfold ptV at z;simp only at z;clear hS hp hx Z hN hR F hn c' b' a' d' hr G v1 v2;go_enter func227,ntmps227;go_wp2_with fail;refine z.out.mono ?_;rintro e w2 ⟨rfl,J⟩;have O:=jD J;replace hv:=aa J hv;have e':=K8 w2 ⟨V,_,none⟩ hv;clear J p0 p1 p2 p3 p4 p5 p6 p7 p8 p9 l' k' h' j' f'
 by_cases h0:pe=0
 case neg =>
  have hh:=D.out;rw[K7 h0]at hh;injection hh with e1 I;injection I with I e3;subst e1 I e3;have m':(r3==0)=false:=jQ h0;obtain rfl:r3=R:=by have h:=HR.out;rw[K7 h0]at h;exact h
  clear h0 D;exact fi O.out
 subst h0;have hh:=D.out;rw[K6 jS]at hh;injection hh with e1 I;injection I with I e3;subst e1 e3
 by_cases h1:vn=nv
 case neg =>
  have n':((vn:Int) != (nv:Int))=true:=by simp;omega
  obtain rfl:15=R:=by have h:=HR.out;rw[K6 jS,K7 h1]at h;exact h
  clear h1 D I;exact fi O.out
 subst h1;obtain rfl:0=R:=by have h:=HR.out;rw[K6 jS,K6 jS]at h;exact h
 clear D I;exact fi O.out
def ur (w:World) (r:Int × Int) (e:Ending) (W:World):Prop:=e=.returned (.tuple #[KW r.1,KW r.2])/\KY w W
theorem EK (d:Nat) (x:Pt) (ts:List Sch) (vs:List Nv) (v vc vt vv:Value) (T V P:Nat) (w:World) (hp:Cells w P 0 (aQ x v vc)) (ht:w.cell? ⟨T,0,none⟩=some vt) (hv:w.cell? ⟨V,0,none⟩=some vv) (Z:TypIs w ts vs vt vv) (hx:aW d w v x.args) (I:aF d w vc x.cond.args) (hf:∀s∈ts,fM s) (O:∀y∈aO x,GG vs y) (e':ptN x<=64) :
  Calls prog 229 #[.pointer (some ⟨T,0,none⟩),.pointer (some ⟨V,0,none⟩),.pointer (some ⟨P,0,none⟩)] w (ur w (cB ts vs 0 (aO x))):=by
 have z:=fun (WK:Nat) (W:World) (g':w.heap.size<=WK) (hW:KY w W) (hb:∃t,W.heap[WK]?=some (.cells [vt,vv,.int .i64 ((0:Nat):Int)].toArray t (0,0)))=>B8 w WK ts vs vt vv g' Z hf d x d 0 v vc W hW hb hx I O om
 obtain⟨A,c,rfl,-⟩:=id hx;obtain⟨Ac,cc,rfl,-⟩:=id I;obtain⟨n,hn⟩:=jF x.args.length;obtain⟨nc,J⟩:∃n,n=x.cond.args.length:=⟨_,rfl⟩;obtain⟨At,ct,rfl,-⟩:=Z.types;obtain⟨Av,cv,rfl,-⟩:=Z.vars;obtain⟨p0,p1,p2,p3,p4,p5,p6,p7,p8,p9,f',d',a',c'⟩:=dv hp;have i':=K8 w ⟨P,_,none⟩ p0;have h':=K8 w ⟨V,_,none⟩ hv;have j':=K8 w ⟨T,_,none⟩ ht;obtain⟨nt,D⟩:∃n,n=ts.length:=⟨_,rfl⟩;obtain⟨nv,G⟩:∃n,n=vs.length:=⟨_,rfl⟩;rw[<-hn,<-J,<-D,<-G]at z;rw[<-hn]at p1;rw[<-J]at p7;rw[<-G]at hv;rw[<-D]at ht;have z:=jD z;unfold ptV at z;obtain⟨⟨r1,r2⟩,hr⟩:∃r,r=cB ts vs 0 (aO x):=⟨_,rfl⟩;rw[<-hr]at z;rw[<-hr];have b':Hid (r2=0->r1=0):=jD fun h=>by
  have h2:=qf ts vs (aO x) 0 (by rw[<-hr];exact h);rw[<-hr]at h2;injection h2
 clear hp hx I hf O e' Z hn J D G hr;go_enter func229,ntmps229;go_wp2_with fail;refine aw fun w1 e1=>?_
 have F:KY w w1:=gb e1;have hq:w1.heap[w.heap.size]?=some (.cells [.slice At nt ct,.slice Av nv cv,.int .i64 ((0:Nat):Int)].toArray 297 (0,0)):=by rw[e1];exact ap _ _ _ rfl
 clear e1 p0 p1 p2 p3 p4 p5 p6 p7 p8 p9 f' d' a' c' ht hv;refine (z.out _ w1 (Ld _) F ⟨_,hq⟩).mono ?_;rintro e w2 (⟨hz,rfl,-,hk⟩|⟨hz,rfl,hb⟩)
 ·have HB:=jD (F.trans (hk.below F.size (fun b h=>by rw[Lz]at h;omega)));obtain rfl:r2=0:=hz;obtain rfl:r1=0:=b'.out rfl;clear hk F hq;go_wp2;exact Lc (v:=.tuple #[KW 0,KW 0]) (by simp[results,results229,go_sem]) rfl ⟨rfl,HB.out⟩
 ·have HB:=jD hb;clear hb F hq hz;go_wp2;exact Lc (v:=.tuple #[KW r1,KW r2]) (by simp[results,results229,go_sem]) rfl ⟨rfl,HB.out⟩
theorem FA (d:Nat) (x:Pt) (v vc:Value) (P:Nat) (w:World) (hS:Shp w) (hT:Tbl w) (hp:Cells w P 0 (aQ x v vc)) (I:aW d w v x.args) (z:aF d w vc x.cond.args) (hN:ptB x<=1048576) :
  Calls prog 231 #[.pointer (some ⟨P,0,none⟩)] w (ur w (iX x)):=by
 have h:=yZ d x v vc w hS hT I z hN;obtain⟨A,c,rfl,-⟩:=id I;obtain⟨Ac,cc,rfl,-⟩:=id z;obtain⟨n,J⟩:=jF x.args.length;obtain⟨nc,D⟩:∃n,n=x.cond.args.length:=⟨_,rfl⟩;obtain⟨p0,p1,p2,p3,p4,p5,p6,p7,p8,p9,O,b',G,Z⟩:=dv hp;have c':=K8 w ⟨P,_,none⟩ p0;rw[<-J,<-D]at h;rw[<-J]at p1;rw[<-D]at p7;obtain⟨⟨r1,r2⟩,hr⟩:∃r,r=iX x:=⟨_,rfl⟩;rw[<-hr]at h;rw[<-hr];have h:=jD h;unfold ptV at h;clear hS hT hp I z hN J D hr;go_enter func231,ntmps231;go_wp2_with fail;refine h.out.mono ?_;rintro e w2 ⟨rfl,F⟩;have a':=jD F;clear F p0 p1 p2 p3 p4 p5 p6 p7 p8 p9 O b' G Z;go_wp2;exact Lc (v:=.tuple #[KW r1,KW r2]) (by simp[results,results231,go_sem]) rfl ⟨rfl,a'.out⟩
theorem np:∀(l:List Pt) (v s:Int),dY v s l=true->∀y∈l,bX y.op=true->v<=y.vr/\y.vr<v+((l.filter fun z=>bX z.op).length:Int)
 | [],_,_,_,y,hy,_=>by simp at hy
 | x::r,v,s,h,y,hy,ht=>by
  rw[dY]at h;simp only[Lp]at h;obtain⟨⟨G,-⟩,F⟩:=h;rw[List.filter_cons]
  by_cases D:bX x.op=true
  ·rw[K7 D]at F ⊢;rw[D]at G;simp at G;rw[Lt];rcases List.mem_cons.1 hy with rfl|hy
   ·omega
   ·have:=np r (v+1) _ F y hy ht;omega
  ·rw[K6 D]at F ⊢;rcases List.mem_cons.1 hy with rfl|hy
   ·exact absurd ht D
   ·exact np r v _ F y hy ht
theorem yS {x:Pt} (h:cK x=0):dY 0 0 (aO x)=true:=by
 rw[lc]at h
 by_cases h0:gh x=0
 ·rw[K6 (jQ h0),AI]at h
  by_cases z:dY 0 0 (aO x)=true
  ·exact z
  ·rw[K6 z]at h;exact absurd h dc
 ·rw[K7 h0]at h;exact absurd h h0
theorem Ee {x:Pt} {vs:List Nv} (h:cK x=0) (D:sd x=vs.length) (F:ptB x<=1048576):∀y∈aO x,GG vs y:=fun y hy=>by
 refine⟨fun h0=>?_,?_⟩
 ·have z:=np _ _ _ (yS h) y hy (by unfold bX;simp;omega);unfold sd at D;rw[D]at z;omega
 ·have z:=kC x y hy;have G:=rG y;omega
theorem sY:(prog.info? 231).map (fun i=>(i.zero,i.size,i.bytes))=some (some (.agg #[.nilFunc]),1,8):=kr
structure TypAsk (w:World) (ts:List Sch) (vs:List Nv) (vt vv:Value):Prop where
 shp:Shp w
 tbl:Tbl w
 lx:Lx w
 typ:TypIs w ts vs vt vv
 fit:∀s∈ts,fM s
 nms:∀v∈vs,v.name.size<=1048576
theorem TypAsk.stays {w W:World} {ts:List Sch} {vs:List Nv} {vt vv:Value} (h:TypAsk w ts vs vt vv) (z:KY w W):TypAsk W ts vs vt vv:=⟨h.shp.stays z,h.tbl.stays z,h.lx.stays z,h.typ.stays z,h.fit,h.nms⟩
theorem Jj {w W0 W:World} {r:Int} {e:Ending} (h:lM W r e w) (z:KY W0 W):e=.returned (KW r)/\KY W0 w:=⟨h.1,ab z h.2⟩
theorem Io {w W0 W:World} {r:Int × Int} {e:Ending} (h:ur W r e w) (z:KY W0 W):jZ (fun W=>KY W0 W) r e w:=⟨h.1,ab z h.2⟩
theorem dn (w:World) (b:Nat) (g:FuncId) (l:List Nat) (r:Int) (D:w.cell? ⟨b,0,none⟩=some (clV g l)) (F:∀args W,(callFunc g args).run prog W=.ok (.enter g args) W)
  (G:∀W,KY w W->Calls prog g (l.map fun b=>Value.pointer (some ⟨b,0,none⟩)).toArray W (lM W r)):Gm (fun W=>KY w W) (clV 220 [b]) (0,r) :=
 yB _ b (clV g l) r (fun _ _ h I=>ab h I) (fun W z=>aa z D) ⟨g,l.map fun b=>Value.pointer (some ⟨b,0,none⟩),rfl,F,fun W z=>(G W z).mono fun e W' h=>Jj h z⟩
theorem qE (w:World) (g:FuncId) (l:List Nat) (r:Int × Int) (D:∀args W,(callFunc g args).run prog W=.ok (.enter g args) W)
  (F:∀W,KY w W->Calls prog g (l.map fun b=>Value.pointer (some ⟨b,0,none⟩)).toArray W (ur W r)):Gm (fun W=>KY w W) (clV g l) r :=
 ⟨g,l.map fun b=>Value.pointer (some ⟨b,0,none⟩),rfl,D,fun W z=>(F W z).mono fun e W' h=>Io h z⟩
theorem nD (fs:List (Value × Int × Int)) (base:Nat) (v:Value) (w:World) (hlen:fs.length<=100) (hr:w.ownsRow base 231 1 v fs.length (fs.map (·.1))) (F:∀p∈fs,p.1.oneCell'=true)
  (hp:∀(k:Nat) (p:Value × Int × Int),fs[k]?=some p->(∀(j:Nat) (q:Value × Int × Int),j<k->fs[j]?=some q->q.2.2=0)->Gm (fun W=>KY w W) p.1 p.2) :
  Calls prog 160 #[v] w (jZ (fun W=>KY w W) (cG fs)):=by
 obtain⟨A,c,rfl,D,O,J⟩:=cU hr (fun u hu=>by obtain⟨p,hp,rfl⟩:=List.mem_map.1 hu;exact F p hp);refine C9 fs _ A c w (La _ _) hlen (fun _ _ h D=>ab h D) (fun W k p I hk=>?_) hp;obtain⟨b,o,G,z⟩:=J.2.2 (by have:=(List.getElem?_eq_some_iff.1 hk).1;omega);exact⟨b,o,G,aa I (z k p.1 (by rw[LI,hk];rfl))⟩
theorem oT (d:Nat) (ts:List Sch) (vs:List Nv) (x:Pt) (vt vv v vc:Value) (w:World) (hA:TypAsk w ts vs vt vv) (hx:aW d w v x.args) (r':aF d w vc x.cond.args) (hN:ptB x<=1048576) :
  Calls prog 166 #[vt,vv,ptV x v vc] w (ur w (kM ts vs x)):=by
 have j':=jD hA;have HX:=jD hx;have D':=jD r';have z':=jD hN;obtain⟨A,c,rfl,-⟩:=id hx;obtain⟨Ac,cc,rfl,-⟩:=id r';obtain⟨At,ct,rfl,-⟩:=id hA.typ.types;obtain⟨Av,cv,rfl,-⟩:=id hA.typ.vars;obtain⟨n,hn⟩:=jF x.args.length;obtain⟨nc,x'⟩:∃n,n=x.cond.args.length:=⟨_,rfl⟩;obtain⟨nt,t'⟩:∃n,n=ts.length:=⟨_,rfl⟩;obtain⟨nv,s'⟩:∃n,n=vs.length:=⟨_,rfl⟩;rw[<-hn]at HX;rw[<-x']at D';rw[<-t',<-s']at j';rw[<-hn,<-x',<-t',<-s'];obtain⟨j0,X0,V0,R0,Q0⟩:=LD sY;clear hA hx r' hN hn x' t' s';unfold ptV;go_enter func166,ntmps166;go_wp2_with fail;refine aw fun F I=>?_
 obtain⟨P,J⟩:∃q,q=w.heap.size+1+1:=⟨_,rfl⟩;obtain⟨V,hV⟩:∃q,q=w.heap.size+1:=⟨_,rfl⟩;obtain⟨T,hT⟩:∃q,q=w.heap.size:=⟨_,rfl⟩;have J':KY w F:=gb I;have t0:KX F T 0 (.slice At nt ct):=by rw[I,hT];show _=_;go_simp
 have v0:KX F V 0 (.slice Av nv cv):=by rw[I,hV];show _=_;go_simp
 have p0:KX F P 0 (KW x.op):=by rw[I,J];show _=_;go_simp
 have p1:KX F P 1 (.slice A n c):=by rw[I,J];show _=_;go_simp
 have p2:KX F P 2 (KW x.ty):=by rw[I,J];show _=_;go_simp
 have p3:KX F P 3 (KW x.vr):=by rw[I,J];show _=_;go_simp
 have p4:KX F P 4 (KW x.sc):=by rw[I,J];show _=_;go_simp
 have p5:KX F P 5 (KW x.sp):=by rw[I,J];show _=_;go_simp
 have p6:KX F P 6 (KW x.cond.op):=by rw[I,J];show _=_;go_simp
 have p7:KX F P 7 (.slice Ac nc cc):=by rw[I,J];show _=_;go_simp
 have p8:KX F P 8 (KW x.cond.vr):=by rw[I,J];show _=_;go_simp
 have p9:KX F P 9 (KW x.cond.fl):=by rw[I,J];show _=_;go_simp
 have S':KX F P 10 (KW x.cond.kd):=by rw[I,J];show _=_;go_simp
 have R':KX F P 11 (KW x.cond.val.kind):=by rw[I,J];show _=_;go_simp
 have L':KX F P 12 (KW x.cond.val.num):=by rw[I,J];show _=_;go_simp
 have O':KX F P 13 (.string x.cond.val.text):=by rw[I,J];show _=_;go_simp
 have H0:=jD (ci p0 p1 p2 p3 p4 p5 p6 p7 p8 p9 S' R' L' O');have F':=jD (And.intro t0 v0);have S0:=jD J';rw[<-J,<-hV,<-hT];clear I J hV hT t0 v0 p0 p1 p2 p3 p4 p5 p6 p7 p8 p9 S' R' L' O' J';refine (lN _ _ _ _ _ _ F).mono ?_;rintro e w2 ⟨b1,b2,T',V',v2,rfl,Z,I',G',C',U',k',B'⟩;have h':=jD k';have X':=jD Z;have g':=jD (And.intro I' (And.intro G' (And.intro C' U')));have p':=jD B';obtain⟨A2,c2,rfl⟩:=ay Z;clear Z I' G' C' U' B' k';go_wp2_with fail;refine (eF _ _ w2).mono ?_;rintro e w3 ⟨rfl,m',i'⟩;obtain⟨b3,d'⟩:∃q,q=w2.heap.size:=⟨_,rfl⟩;rw[<-d']at m' ⊢;have P0:Hid (w3.cell? ⟨b3,0,none⟩=some (clV 227 [P,V])):=jD m';have e':=jD i';have Y':=jD (aj X'.out i');have Z':F.heap.size<=w3.heap.size:=Lf p'.out.size i'.size;have E':=jD d';clear m' i' d';go_wp2_with (at_builtin;refine aR _ rfl (.tmp 10) (.tmp 17) 289 rfl F.heap.size 231 j0 _ 1 8 underlying289 X0 V0 R0 Q0 rfl dc (.slice A2 2 c2) 2 [clV 220 [b1],clV 220 [b2]] rfl (aj Y'.out (ag w3 _)) (some ⟨w3.heap.size,0,none⟩) 3 3 [clV 220 [b3],clV 229 [T,V,P],clV 231 [P]] rfl (bE _ [clV 220 [b3],clV 229 [T,V,P],clV 231 [P]] _ 3 1 _ rfl rfl (by simp[Value.oneCell'])) (by unfold maxLen;omega) om (by rw[L4];omega) ?_;intro v8 w8 O P' y';have N0:=jD O;have M':=jD P';obtain⟨A8,c8,rfl⟩:=ay O;clear O P' y')
 have T0:Hid (Below F.heap.size w3 w8):=jD (((ag w3 _).mono Z').trans (am M'.out (by rw[L4];omega) (fun g e=>(ah Y'.out e).1)));have D:∀(b p:Nat) (u:Value),(∀g,(Value.slice A2 2 c2).ownBlock=some g->b≠g)->w3.cell? ⟨b,p,none⟩=some u->w8.cell? ⟨b,p,none⟩=some u:=fun b p u O0 hc=>by
  have h1:=aa (ag w3 (.cells #[clV 220 [b3],clV 229 [T,V,P],clV 231 [P]] 231 (0,0))) hc;exact (Ln (a:=⟨b,p,none⟩) (M'.out.block b (K8 _ ⟨b,p,none⟩ h1) (fun e=>O0 b e.symm rfl))).trans h1
 have H':∀g,(Value.slice A2 2 c2).ownBlock=some g->F.heap.size<=g/\g<w2.heap.size:=fun g hg=>ah X'.out hg
 have q1:=D _ _ _ (fun g hg=>(h'.out g hg).1) (aa e'.out g'.out.1);have q2:=D _ _ _ (fun g hg=>(h'.out g hg).2.1) (aa e'.out g'.out.2.1);have q3:=D _ _ _ (fun g hg=>(h'.out g hg).2.2.1) (aa e'.out g'.out.2.2.1);have q4:=D _ _ _ (fun g hg=>(h'.out g hg).2.2.2) (aa e'.out g'.out.2.2.2);have q5:=D _ _ _ (fun g hg=>by have:=H' g hg;have:=E'.out;omega) P0.out;have a':Hid (KY F w8):=jD ((p'.out.trans (e'.out.mono p'.out.size)).trans T0.out);have b':=jD (ab S0.out a'.out);have q6:=aa a'.out F'.out.1;have q7:=aa a'.out F'.out.2;have HQ:=jD (And.intro q1 (And.intro q2 (And.intro q3 (And.intro q4 (And.intro q5 (And.intro q6 q7))))));have q':Hid (Cells w8 P 0 (aQ x (.slice A n c) (.slice Ac nc cc))):=jD fun i u hi=>aa a'.out (H0.out i u hi)
 have G:=jD (j'.out.stays b'.out);have n':=jD (HX.out.stays (aB d) b'.out);have l':=jD (D'.out.stays (ai d) b'.out);obtain⟨fs,c'⟩:∃fs:List (Value × Int × Int),fs=[(clV 220 [b1],0,fU ts),(clV 220 [b2],0,pU ts vs),(clV 220 [b3],0,vO vs x),(clV 229 [T,V,P],cB ts vs 0 (aO x)),(clV 231 [P],iX x)]:=⟨_,rfl⟩;have hF:=nD fs F.heap.size (.slice A8 (2+3) c8) w8 (by rw[c'];simp) (by rw[c'];exact N0.out) (by rw[c'];intro p hp;simp at hp;rcases hp with rfl|rfl|rfl|rfl|rfl<;>rfl) (fun k p hk f'=>by
  rw[c']at hk f'
  match k,hk with
  | 0,hk =>
   simp at hk;subst hk;exact dn w8 b1 _ [T'] _ HQ.out.1 (fun _ _=>rfl) fun W z=>tM ts _ T' W (aa z HQ.out.2.2.1) (G.out.typ.types.stays bU z) G.out.fit
  | 1,hk =>
   simp at hk;subst hk;exact dn w8 b2 _ [T',V'] _ HQ.out.2.1 (fun _ _=>rfl) fun W z=>th ts vs _ _ T' V' W (aa z HQ.out.2.2.1) (aa z HQ.out.2.2.2.1) (G.out.lx.stays z) (G.out.typ.stays z) G.out.nms
  | 2,hk =>
   simp at hk;subst hk;exact dn w8 b3 _ [P,V] _ HQ.out.2.2.2.2.1 (fun _ _=>rfl) fun W z=>FQ d x vs _ _ _ P V W (G.out.shp.stays z) (fun i u hi=>aa z (q'.out i u hi)) (aa z HQ.out.2.2.2.2.2.2) (G.out.typ.vars.stays jd z) (n'.out.stays (aB d) z) (l'.out.stays (ai d) z) z'.out
  | 3,hk =>
   simp at hk;subst hk;have hc:vO vs x=0:=f' 2 _ om rfl;have u':cK x=0:=by
    unfold vO at hc
    by_cases h:cK x=0
    ·exact h
    ·rw[K7 h]at hc;exact absurd hc h
   have K0:sd x=vs.length:=by
    unfold vO at hc;rw[K6 (jQ u')]at hc
    by_cases h:sd x=vs.length
    ·exact h
    ·rw[K7 h]at hc;exact absurd hc dc
   exact qE w8 _ [T,V,P] _ (fun _ _=>rfl) fun W z=>EK d x ts vs _ _ _ _ T V P W (fun i u hi=>aa z (q'.out i u hi)) (aa z HQ.out.2.2.2.2.2.1) (aa z HQ.out.2.2.2.2.2.2) (G.out.typ.stays z) (n'.out.stays (aB d) z) (l'.out.stays (ai d) z) G.out.fit (Ee u' K0 z'.out) (iT u').1
  | 4,hk =>
   simp at hk;subst hk;exact qE w8 _ [P] _ (fun _ _=>rfl) fun W z=>FA d x _ _ P W (G.out.shp.stays z) (G.out.tbl.stays z) (fun i u hi=>aa z (q'.out i u hi)) (n'.out.stays (aB d) z) (l'.out.stays (ai d) z) z'.out
  | k+5,hk=>simp at hk)
 have A':cG fs=kM ts vs x:=by
  rw[c'];unfold kM tv vO;simp only[cG]
  by_cases h1:fU ts=0
  ·by_cases h2:pU ts vs=0
   ·by_cases h3:cK x=0
    ·by_cases h4:sd x=vs.length
     ·simp only[h1,h2,h3,h4,LP,not_true_eq_false,if_false]
      by_cases h5:(cB ts vs 0 (aO x)).2=0
      ·simp only[h5,not_true_eq_false,if_false]
       by_cases h6:(iX x).2=0
       ·rw[K6 (jQ h6)];have h7:(iX x).1=0:=by
         unfold iX at h6 ⊢;rw[K6 (jQ h3)]at h6 ⊢;rw[lF _ _ h6]
        exact (Prod.ext h7 h6).symm
       ·rw[K7 h6]
      ·simp only[h5,not_false_eq_true,Mo]
     ·simp[h1,h2,h3,h4]
    ·simp[h1,h2,h3]
   ·simp[h1,h2]
  ·simp[h1]
 rw[A']at hF;have HF:=jD hF;obtain⟨⟨r1,r2⟩,hr⟩:∃r,r=kM ts vs x:=⟨_,rfl⟩;rw[<-hr]at HF ⊢;have U0:=jD hr;clear A' hF hr c' D H' q1 q2 q3 q4 q5 q6 q7;go_wp2_with fail;refine HF.out.mono ?_;rintro e w9 ⟨rfl,N'⟩;have A0:=jD (ab b'.out N');clear N';go_wp2;exact Lc (v:=.tuple #[KW r1,KW r2]) (by simp[results,results166,go_sem]) rfl ⟨by rw[<-U0.out],A0.out⟩
section
open Go.RowKit Go.Lib
attribute [local go_sem] Oper.semAt_some
theorem KE {W W':World} {P:Nat->Prop} (z:∀(b p:Nat) (v:Value),P b->W.cell? ⟨b,p,none⟩=some v->W'.cell? ⟨b,p,none⟩=some v) (J:∀(b p:Nat) (v:Value),W.cell? ⟨b,p+2,none⟩=some v->P b)
  {v:Value} {l:List Vl} (h:aV W v l):aV W' v l:=by
 obtain⟨A,c,rfl,I,h2,G⟩:=h;refine⟨A,c,rfl,I,h2,fun k x F=>?_⟩;obtain⟨b,o,e,O,Z,D⟩:=G k x F;have hp:=J _ _ _ D;exact⟨b,o,e,z _ _ _ hp O,z _ _ _ hp Z,z _ _ _ hp D⟩
theorem AU {W W':World} {P:Nat->Prop} (z:∀(b p:Nat) (v:Value),P b->W.cell? ⟨b,p,none⟩=some v->W'.cell? ⟨b,p,none⟩=some v) (F:∀(b p:Nat) (v:Value),W.cell? ⟨b,p+2,none⟩=some v->P b)
  {v:Value} {l:List Evt} (h:bm W v l):bm W' v l:=by
 obtain⟨A,c,rfl,Z,h2,J⟩:=h;refine⟨A,c,rfl,Z,h2,fun k x I=>?_⟩;obtain⟨b,o,e,ve,D,c0,c1,G,O,c4⟩:=J k x I;have hp:=F _ _ _ G;exact⟨b,o,e,ve,KE z F D,z _ _ _ hp c0,z _ _ _ hp c1,z _ _ _ hp G,z _ _ _ hp O,z _ _ _ hp c4⟩
theorem sN {W W':World} {row:Option Nat} (D:W.grownBy W' row) (hr:∀r,row=some r->∃o:Obj,W.heap[r]?=some o/\o.isCells=false) {v:Value} {l:List Evt} (h:bm W v l):bm W' v l :=
 AU (P:=fun _=>True) (fun _ _ _ _ z=>cell_kept z D hr) (fun _ _ _ _=>trivial) h
theorem Bm {W:World} {B:Nat} {t:TypeId} {v0:Value} (D:Boxed W B t v0) (u:Value) {v:Value} {l:List Evt} (h:bm W v l):bm (W.setCell ⟨B,0,none⟩ u) v l :=
 AU (P:=fun b=>b≠B) (fun b p x F z=>(Ln (a:=⟨b,p,none⟩) (LB W ⟨B,0,none⟩ u b F)).trans z) (fun b p x z e=>by
  subst e;rw[World.cell?,show W.heap[b]?=_ from D]at z;simp at z) h
theorem bT {W:World} {B D:Nat} {t:TypeId} {v:Value} (h:Boxed W B t v) (z:B≠D) (u:Value):Boxed (W.setCell ⟨D,0,none⟩ u) B t v:=(LB W ⟨D,0,none⟩ u B z).trans h
open Classical in
noncomputable def fF:List (Vl × List Evt)->Vl->List Evt
 | [],_=>[]
 | (k,s)::r,v=>if k=v then s else fF r v
theorem ln {v:Vl}:∀{L:List (Vl × List Evt)},(∀p∈L,p.1≠v)->fF L v=[]
 | [],_=>rfl
 | (k,s)::r,h=>by
  rw[fF,K6 (h (k,s) (Lg ..))];exact ln fun p hp=>h p (Lh _ hp)
theorem qn {v:Vl}:∀{L:List (Vl × List Evt)} {k:Nat} {p:Vl × List Evt},L[k]?=some p->(∀q∈L.take k,q.1≠v)->p.1=v->fF L v=p.2
 | [],_,_,h,_,_=>by simp at h
 | (a,s)::r,0,p,h,_,e=>by simp at h;subst h;rw[fF,K7 e]
 | (a,s)::r,k+1,p,h,ha,e=>by
  rw[fF,K6 (ha (a,s) (by rw[Mx];exact Lg ..))];exact qn (k:=k) (jQ h) (fun q hq=>ha q (by rw[Mx];exact Lh _ hq)) e
noncomputable def iS (q:Qry) (l:List Evt) (v:Vl):List Evt × Int:=if (aZ q l).2≠0 then ([],(aZ q l).2) else (fF ((aZ q l).1.1.zip (aZ q l).1.2) v,0)
theorem jP (q:Qry) (l:List Evt):(aZ q l).1.2.length=(aZ q l).1.1.length:=by
 unfold aZ dI
 split
 ·rfl
 ·split
  ·rfl
  ·simp[dw]
def sB (w:World) (r:List Evt × Int) (e:Ending) (W:World):Prop:=∃u,e=.returned (.tuple #[u,KW r.2])/\bm W u r.1/\KY w W
def Jw (w z:World) (D h F:Nat) (v:Vl) (L:List (Vl × List Evt)) (k:Nat) (W:World):Prop :=
 Boxed W h 34 (.slice none 0 0)/\Boxed W F 38 (KW 0)/\Cells W D 0 (bY v)/\(∀p∈L.take k,p.1≠v)/\KY w W/\KY z W
def EZ (w:World) (h z:Nat) (v:Vl) (L:List (Vl × List Evt)) (c:Code) (k:Nat) (W:World):Prop :=
 c=.ret/\∃p u,L[k-1]?=some p/\(∀q∈L.take (k-1),q.1≠v)/\p.1=v/\Boxed W h 34 u/\Boxed W z 38 (KW 0)/\bm W u p.2/\KY w W
theorem Ct {w h:World} {G F b7 B:Nat} {v:Vl} {L:List (Vl × List Evt)} (hw:w.heap.size<=B) (hs:h.heap.size<=B):OwnFrom B (Jw w h G F b7 v L) :=
 fun _ _ _ _ ⟨I,Z,J,O,z,D⟩ hg hr=>⟨bP I hg (fun r e=>(hr r e).2),bP Z hg (fun r e=>(hr r e).2),lD J hg (fun r e=>(hr r e).2),O,gn z z.size hg (fun r e=>Lf hw (hr r e).1),gn D D.size hg (fun r e=>Lf hs (hr r e).1)⟩
theorem yM {w:World} {z G B:Nat} {v:Vl} {L:List (Vl × List Evt)} (hw:w.heap.size<=B) (c:Code):OwnFrom B (EZ w z G v L c) :=
 fun _ _ _ _ ⟨h0,p,u,I,Z,F,O,D,J,h⟩ hg hr=>⟨h0,p,u,I,Z,F,bP O hg (fun r e=>(hr r e).2),bP D hg (fun r e=>(hr r e).2),sN hg (fun r e=>(hr r e).2) J,gn h h.size hg (fun r e=>Lf hw (hr r e).1)⟩
theorem yU {v:Vl} {L:List (Vl × List Evt)} {k:Nat} {p:Vl × List Evt} (h:∀q∈L.take k,q.1≠v) (hp:L[k]?=some p) (h0:p.1≠v):∀q∈L.take (k+1),q.1≠v:=fun q hq=>by
 rw[bZ hp,L0,Lz]at hq;rcases hq with hq|rfl
 ·exact h q hq
 ·exact h0
theorem bM:(prog.info? 33).map (·.size)=some 18:=kr
theorem oC {W:World} {b:Nat} {x:Vl} (h0:W.cell? ⟨b,0,none⟩=some (KW x.kind)) (z:W.cell? ⟨b,1,none⟩=some (KW x.num)) (D:W.cell? ⟨b,2,none⟩=some (.string x.text)):Cells W b 0 (bY x):=fun j u h=>by
 rw[Lu]
 match j,h with
 | 0,h=>simp[bY]at h;subst h;exact h0
 | 1,h=>simp[bY]at h;subst h;exact z
 | 2,h=>simp[bY]at h;subst h;exact D
 | j+3,h=>simp[bY]at h
theorem sA {W:World} {b:Nat} {x:Vl} (h:Cells W b 0 (bY x)):W.cell? ⟨b,0,none⟩=some (KW x.kind)/\W.cell? ⟨b,1,none⟩=some (KW x.num)/\W.cell? ⟨b,2,none⟩=some (.string x.text) :=
 ⟨by have:=h 0 _ rfl;simpa using this,by have:=h 1 _ rfl;simpa using this,by have:=h 2 _ rfl;simpa using this⟩
def AxS (T:Array Value) (W0:Nat) (x:Vl × List Evt) (a:Array Value) (h:Act) (W:World):Prop :=
 ∃B u,W0<=B/\a=#[vlV x.1,u]/\h={ tmps:=(((T.setIfInBounds 26 (vlV x.1)).setIfInBounds 27 u).setIfInBounds 11 (.pointer (some ⟨B,0,none⟩))).setIfInBounds 12 u,defers:=[] }/\Cells W B 0 (bY x.1)
theorem Id (T:Array Value) (W0 B:Nat) (x:Vl × List Evt) (a:Array Value) (z:Act):OwnFrom B (fun (_:Unit) W=>AxS T W0 x a z W) :=
 fun _ _ _ _ ⟨b,u,h0,h,D,F⟩ hg hr=>⟨b,u,h0,h,D,lD F hg (fun r e=>(hr r e).2)⟩
theorem wI (d:Nat) (q:Qry) (l:List Evt) (key:Vl) (vv vk va vc vr vl:Value) (w:World) (hA:PartAsk d w q l vv vk va vc vr vl) :
  Calls prog 20 #[dO q vv vk va vc vr,vl,vlV key] w (sB w (iS q l key)):=by
 have n':=jD (fun (W:World) (hW:KY w W)=>lg d q l vv vk va vc vr vl W (hA.stays hW));have J':=jD (jP q l);obtain⟨S,hS⟩:=jE (iS q l key);obtain⟨⟨⟨ks,ps⟩,se⟩,hR⟩:∃R,aZ q l=R:=⟨_,rfl⟩;have HS:Hid (S=if se≠0 then ([],se) else (fF (ks.zip ps) key,0)):=jD (by rw[<-hS,iS,hR]);rw[hS];rw[hR]at n' J';obtain⟨Av,cv,Ak,ck,Aa,ca,Ac,cc,Ar,cr,Al,cl,rfl,rfl,rfl,rfl,rfl,rfl⟩:=hA.form;clear hA hR hS;unfold dO at n' ⊢;unfold vlV;refine (Ng (n:=5)).1 ?_;refine callsIn_of_wp_marks func20 rfl trivial ?_ rfl;simp only[ntmps20,MM,Lt,MG,Nat.reduceAdd,Nat.reduceSub,Nh,Ni,Nj,Nk,MJ,Mr]
 have R':∀o1 o2 o3:Obj,((((w.alloc (.cells #[.string q.nm,.slice Av q.vars.length cv,.slice Ak q.key.length ck,.int .i64 q.pat.op,.slice Aa q.pat.args.length ca,.int .i64 q.pat.ty,.int .i64 q.pat.vr,.int .i64 q.pat.sc,.int .i64 q.pat.sp,.int .i64 q.pat.cond.op,.slice Ac q.pat.cond.args.length cc,.int .i64 q.pat.cond.vr,.int .i64 q.pat.cond.fl,.int .i64 q.pat.cond.kd,.int .i64 q.pat.cond.val.kind,.int .i64 q.pat.cond.val.num,.string q.pat.cond.val.text,.slice Ar q.rets.length cr] 33 (0,0))).alloc o1).alloc o2).alloc o3).heap[w.heap.size]?=some (.cells #[.string q.nm,.slice Av q.vars.length cv,.slice Ak q.key.length ck,.int .i64 q.pat.op,.slice Aa q.pat.args.length ca,.int .i64 q.pat.ty,.int .i64 q.pat.vr,.int .i64 q.pat.sc,.int .i64 q.pat.sp,.int .i64 q.pat.cond.op,.slice Ac q.pat.cond.args.length cc,.int .i64 q.pat.cond.vr,.int .i64 q.pat.cond.fl,.int .i64 q.pat.cond.kd,.int .i64 q.pat.cond.val.kind,.int .i64 q.pat.cond.val.num,.string q.pat.cond.val.text,.slice Ar q.rets.length cr] 33 (0,0)):=fun o1 o2 o3=>aE (aE (aE (ap _ _ _ rfl)))
 refine wpIn_wide.2 ?_;go_wp2_with (refine Md rfl 33 (.tmp 3) rfl w.heap.size rfl 33 _ (0,0) _ (R' _ _ _) underlying33 rfl bM ?_);refine aw fun w1 e1=>?_
 have z':KY w w1:=gb e1;obtain⟨b7,q'⟩:∃b,b=w.heap.size+1+1+1:=⟨_,rfl⟩;obtain⟨b6,B'⟩:∃b,b=w.heap.size+1+1:=⟨_,rfl⟩;obtain⟨b5,d'⟩:∃b,b=w.heap.size+1:=⟨_,rfl⟩;have m':Cells w1 b5 0 (bY key):=oC (by rw[e1,d'];go_simp) (by rw[e1,d'];go_simp) (by rw[e1,d'];go_simp);have I:Boxed w1 b6 34 (.slice none 0 0):=by rw[e1,B'];exact aE (ap _ _ _ jS)
 have G:Boxed w1 b7 38 (KW 0):=by rw[e1,q'];exact ap _ _ _ jS
 have j':Hid (w.heap.size<b5/\b5<b6/\b6<b7/\b7<w1.heap.size):=jD ⟨by omega,by omega,by omega,G.lt⟩;rw[<-q',<-B',<-d'];clear e1 q' B' d';refine (n'.out _ z').mono ?_;rintro e w2 ⟨kv,pv,rfl,r',t',b'⟩;have S':=jD r';have O':=jD t';obtain⟨A1,c1,rfl,-⟩:=id r';obtain⟨A2,c2,rfl,-⟩:=id t';have m':=dE m' b';have I:Boxed w2 b6 34 (.slice none 0 0):=(b'.block _ I.lt).trans I;have G:Boxed w2 b7 38 (KW 0):=(b'.block _ G.lt).trans G;have D':=jD (ab z' b');have T':=jD b'.size;clear r' t' z' b' n';have q6:=I.cell;have f6:=I.frozen;have q7:=G.cell;have f7:=G.frozen;have l6:=I.lt;have l7:=G.lt;have x':w.heap.size<=b6:=by have:=j'.out;omega
 have y':w.heap.size<=b7:=by have:=j'.out;omega
 have C':b6≠b7:=by have:=j'.out;omega
 have k':b7≠b6:=by have:=j'.out;omega
 by_cases h0:se=0
 case neg =>
  have Y':(se != 0)=true:=jQ h0;obtain rfl:S=([],se):=by have h:=HS.out;rw[K7 h0]at h;exact h
  clear h0 HS;go_wp2_with fail;refine⟨.tuple #[.slice none 0 0,KW se],?_,_,rfl,Sl.nil _ _ _ _ _ (Lb _),aA (aA D'.out x' _) y' _⟩;have r6:=(bT (I.set (.slice none 0 0)) C' (KW se)).cell;have r7:=(Boxed.set (KW se) (bT G k' (.slice none 0 0))).cell;simp[results,Tryz.f20,go_sem,r6,r7]
 subst h0;obtain rfl:S=(fF (ks.zip ps) key,0):=by have h:=HS.out;rw[K6 jS]at h;exact h
 clear HS;go_wp2_with fail;refine (oh _ _ _ ⟨_,_,_,rfl⟩ ⟨_,_,_,rfl⟩).mono ?_;rintro e w3 ⟨rfl,e3⟩;have O:KY w2 w3:=gb e3;have k3:KX w3 w2.heap.size 0 (.slice A1 ks.length c1):=jG e3;have p3:KX w3 (w2.heap.size+1) 0 (.slice A2 ps.length c2):=jG e3;have V':w3.heap.size=w2.heap.size+2:=by rw[e3];simp
 have p':=jD (oK ks ps _ _ w2.heap.size (w2.heap.size+1) w2 w3 J'.out S'.out O'.out O k3 p3);have Z:Hid (Boxed w3 b6 34 (.slice none 0 0)):=jD ((O.block _ I.lt).trans I);have J:Hid (Boxed w3 b7 38 (KW 0)):=jD ((O.block _ G.lt).trans G);have N':=jD (dE m' O);have f':=jD (ab D'.out O);have g':=jD O;clear e3 k3 p3 O I G m' q6 f6 q7 f7;obtain⟨kb,i'⟩:∃b,b=w2.heap.size:=⟨_,rfl⟩;obtain⟨pb,l'⟩:∃b,b=w2.heap.size+1:=⟨_,rfl⟩;have c':=jD (And.intro i' l');rw[<-l',<-i']at p';rw[<-l',<-i'];clear i' l';go_wp2_with fail;refine (wpIn_wide (n:=5)).1 ?_;refine iC fun a0 e0=>?_
 refine nO (n:=5) (gf:=77) (lb:=#[.pointer (some ⟨kb,0,none⟩),.pointer (some ⟨pb,0,none⟩)]) (by rw[e0];rfl) (enters_of func77 kr rfl) p'.out
  Bj (JJ (by have:=g'.out.size;have:=c'.out;omega) (by have:=c'.out;omega) (by have:=c'.out;omega)) (La _ _) (fun x v=>xO w2 _ x v) (fun x v W h=>sK h)
  (Jw w w3 b5 b6 b7 key (ks.zip ps)) (EZ w b6 b7 key (ks.zip ps)) (Ct f'.out.size (Ld _)) (yM f'.out.size) ⟨Z.out,J.out,N'.out,by simp,f'.out,La _ _⟩
  (AxS a0.tmps w.heap.size) (fun x v a'=>Id _ _ _ x v a') ?assign ?body ?done ?stop
 case assign =>
  intro m l9 k y v W K hl hy hi A' hK;obtain⟨u,rfl,hu⟩:=A';obtain⟨Au,cu,rfl,-⟩:=id hu;obtain⟨y1,y2⟩:=y;have F':w.heap.size<=W.heap.size:=hi.2.2.2.2.1.size;have G':w3.heap.size<=W.heap.size:=hi.2.2.2.2.2.size;have HI:=jD hi;have HU:=jD hu;have HK:=jD hK;have U':=jD hl;clear hi hu hK hy hl;rw[e0];unfold vlV;gi_wp2;refine vE fun W' e'=>?_
  have z:KY W W':=gb e';have hc:Cells W' W.heap.size 0 (bY y1):=oC (jG e') (jG e') (jG e');clear e';have I':=HK.out;rw[e0]at I';refine I' _ _ (bH z) (uN z (by have:=c'.out;omega) (by have:=c'.out;omega) (by have:=c'.out;omega)) ?_ ⟨_,rfl,HU.out⟩ ⟨W.heap.size,_,F',rfl,rfl,hc⟩;have h:=HI.out;exact⟨(z.block _ h.1.lt).trans h.1,(z.block _ h.2.1.lt).trans h.2.1,dE h.2.2.1 z,h.2.2.2.1,h.2.2.2.2.1.trans (z.mono F'),h.2.2.2.2.2.trans (z.mono G')⟩
 case body =>
  rintro m l9 k ⟨y1,y2⟩ v a' W hl-hy hi A' ⟨B,u,hB,rfl,rfl,hc⟩;obtain⟨u',E',hu⟩:=A';obtain rfl:u=u':=jQ E';obtain⟨Au,cu,rfl,-⟩:=id hu;have HI:=jD hi;have HU:=jD hu;have HY:=jD hy;have P':=hi;obtain⟨x6,x7,xc,F,z,L'⟩:=P';obtain⟨p0,p1,p2⟩:=sA hc;obtain⟨z0,z1,z2⟩:=sA xc;have q6:=x6.cell;have f6:=x6.frozen;have q7:=x7.cell;have f7:=x7.frozen;have l6:=x6.lt;have l7:=x7.lt;have X':B<W.heap.size:=K8 W ⟨B,_,none⟩ p0;have Z':b5<W.heap.size:=K8 W ⟨b5,_,none⟩ z0;obtain⟨r,hr⟩:=jF (cC y1 key);have heq:∀W,(binOp .eql 27 (.agg #[KW y1.kind,KW y1.num,.string y1.text]) (.agg #[KW key.kind,KW key.num,.string key.text])).run prog W=.ok (.bool r) W:=fun W=>by rw[hr];exact vu y1 key W
  have HR:=jD hr;have Z:=jD x6;have J:=jD x7;clear hi E' hu hy F z L' hc xc hr x6 x7;rw[e0];unfold vlV;simp only[Lw,Lj,Lk]
  cases r with
  | true =>
   have he:y1=key:=ew.1 HR.out.symm;gi_wp2_with fail;refine⟨((KeepsOthers.setCell _ _ _).from _).trans ((KeepsOthers.setCell _ _ _).from _),rfl,(y1,y2),_,jQ HY.out,jQ HI.out.2.2.2.1,he,bT (Z.out.set _) C' _,Boxed.set _ (bT J.out k' _),?_,aA (aA HI.out.2.2.2.2.1 x' _) y' _⟩;exact Bm (bT J.out k' _) _ (Bm Z.out _ (HU.out.stays aK (g'.out.trans (HI.out.2.2.2.2.2.mono g'.out.size))))
  | false =>
   have he:y1≠key:=fun e=>by have h:=HR.out;rw[ew.2 e]at h;cases h
   gi_wp2_with fail;exact⟨bH (La _ _),wQ _ _ _ _,Z.out,J.out,HI.out.2.2.1,yU HI.out.2.2.2.1 HY.out he,HI.out.2.2.2.2.1,HI.out.2.2.2.2.2⟩
 case done =>
  rintro D W hD ⟨x6,x7,xc,F,z,M'⟩ hK;have hp:fF (ks.zip ps) key=[]:=ln (by rw[LX]at F;exact F);have s':=jD z;have HK:=jD hK;have q6:=x6.cell;have f6:=x6.frozen;have q7:=x7.cell;have f7:=x7.frozen;have l6:=x6.lt;have l7:=x7.lt;have Z:=jD x6;have J:=jD x7;have HP:=jD hp;clear F z hK M' xc hp x6 x7;rw[e0];go_wp2_with fail;have h':=((KeepsOthers.setCell W ⟨b6,0,none⟩ (.slice none 0 0)).trans (KeepsOthers.setCell _ ⟨b7,0,none⟩ (KW 0))).same D _ HK.out rfl;refine⟨by simp,.inl ⟨_,_,rfl,run_takeDeferred h',?_⟩⟩;have w6:=bT (Z.out.set (.slice none 0 0)) C' (KW 0);have w7:=Boxed.set (KW 0) (bT J.out k' (.slice none 0 0));have r6:=(w6.kept (grownBy_putObj' _ D (.deferred none)) (by intro h;cases h;have h2:(World.setCell _ _ _).heap[b6]?=_:=w6;rw[h']at h2;cases h2)).cell;have r7:=(w7.kept (grownBy_putObj' _ D (.deferred none)) (by intro h;cases h;have h2:(World.setCell _ _ _).heap[b7]?=_:=w7;rw[h']at h2;cases h2)).cell;refine⟨.tuple #[.slice none 0 0,KW 0],?_,_,rfl,(by show bm _ _ (fF (ks.zip ps) key);rw[HP.out];exact Sl.nil _ _ _ _ _ (Lb _)),(aA (aA s'.out x' _) y' _).trans (belowK_b (w:=w) (Ld _) _ D _ _ (by have:=f'.out.size;omega) h' rfl rfl)⟩;simp[results,Tryz.f20,go_sem,r6,r7]
 case stop =>
  rintro D c k W hD hk ⟨rfl,p,u,H',F,he,x6,x7,hu,z⟩ hK;have hp:fF (ks.zip ps) key=p.2:=qn (jQ H') (jQ F) he;have s':=jD z;have HK:=jD hK;have HU:=jD hu;rw[hp];clear F z hK hu H' hp;rw[e0];gi_wp2;refine⟨by simp,.inl ⟨_,_,rfl,run_takeDeferred HK.out,?_⟩⟩;have r6:=(x6.kept (grownBy_putObj' _ D (.deferred none)) (by intro h;cases h;have h2:W.heap[b6]?=_:=x6;rw[HK.out]at h2;cases h2)).cell;have r7:=(x7.kept (grownBy_putObj' _ D (.deferred none)) (by intro h;cases h;have h2:W.heap[b7]?=_:=x7;rw[HK.out]at h2;cases h2)).cell;obtain⟨Au,cu,rfl,-⟩:=id HU.out;refine⟨.tuple #[.slice Au p.2.length cu,KW 0],?_,_,rfl,sN (grownBy_putObj' _ D (.deferred none)) (fun r e=>by injection e with e;subst e;exact⟨_,HK.out,rfl⟩) HU.out,s'.out.trans (belowK_b (w:=w) (Ld _) _ D _ _ (by have:=f'.out.size;omega) HK.out rfl rfl)⟩;simp[results,Tryz.f20,go_sem,r6,r7]
end
end Go.Proofs.YtokconodddedhaaGreatDoor
