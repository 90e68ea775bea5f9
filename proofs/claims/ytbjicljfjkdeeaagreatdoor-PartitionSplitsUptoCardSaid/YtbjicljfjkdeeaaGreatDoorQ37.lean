/- Part. -/
import Derived.StringKeys
import Derived.Test.YtbjicljfjkdeeaaGreatDoorQ31
import Derived.WideKeyEntry
import Derived.Test.YtbjicljfjkdeeaaGreatDoorQ27
set_option maxRecDepth 100000
set_option maxHeartbeats 16000000
set_option linter.unusedVariables false
set_option linter.unusedSimpArgs false
namespace Go.Proofs.YtbjicljfjkdeeaaGreatDoor
open Go.Proofs.Tryz Go.RowKit
section
def HasM {α:Type} (K:TypeId) (kv:α->Value) (w:World) (b n:Nat) (pre:List α):Prop:=∃D,w.ownsMap prog K CB b n D /\
 ∀(x:α) l,keyOf prog K (kv x)=some l->(Maps.has D l=true↔x∈pre)
section
variable {α : Type} {K M : TypeId} {kv : α -> Value} {w w' : World} {b n : Nat} {pre : List α}
theorem HasM.kept (h:HasM K kv w b n pre) {row:Option Nat} (J:w.grownBy w' row) (z:some b≠row):HasM K kv w' b n pre:=by
 obtain⟨D,I,G⟩:=h;exact⟨D,I.kept J z,G⟩
theorem HasM.lt (h:HasM K kv w b n pre):b<w.heap.size:=by
 obtain⟨D,z,_⟩:=h;exact z.lt
theorem HasM.below (h:HasM K kv w b n pre) (z:Mm w w'):HasM K kv w' b n pre:=h.kept (aC z none) jS
theorem Dn (K:TypeId) (kv:α->Value) (w:World):HasM K kv (w.alloc (.map #[] 0)) w.heap.size 0 [] :=
 ⟨_,World.ownsMap_made w _ _ _,fun _ _ _=>by simp[Maps.has]⟩
theorem HasM.look (Z:Maps.Keyed prog K) (hM:prog.underlying M=some (.map K 4)) (h:HasM K kv w b n pre) {x:α} {l:Lit} (J:keyOf prog K (kv x)=some l) :
  ∃r,(r=true↔x∈pre)/\(Instr.lookup M (.map (some b)) (kv x) false).run prog w=.ok (.bool r) w:=by
 obtain⟨D,⟨es,clock,hb,F,_,rfl⟩,O⟩:=h;have I:=O x l J;rcases Maps.fit_look false Z hM (Kn w) hb F J with ⟨z,_,G⟩|⟨e0,y,_,_,z,hRv,G,_⟩
 ·rw[Maps.has_false_of_atKey G]at I;exact⟨false,I,z⟩
 ·rw[Maps.has_true_of_atKey G]at I;have:=xb hRv;rw[this]at z;exact⟨true,I,z⟩
theorem HasM.store (I:Maps.Keyed prog K) (hM:prog.underlying M=some (.map K 4)) (inj:∀x y,kv x=kv y->x=y) (h:HasM K kv w b n pre) {x:α} {l:Lit} (J:keyOf prog K (kv x)=some l) (hn:n<maxLen) :
  ∃w',(Instr.mapUpdate M (.map (some b)) (kv x) (.bool true)).run prog w=.ok () w'/\HasM K kv w' b (n+1) (pre++[x])/\w.grownBy w' (some b):=by
 obtain⟨D,O,Z⟩:=h;obtain⟨w',z,r1,r2⟩:=O.update I hM hn J (val:=.bool true) (d:=.lit (.bool true)) (ps:=[]) rfl;refine⟨w',z,⟨_,r1,fun y m hm=>?_⟩,r2⟩;have h3:=Z y m hm;rw[NC,NK]
 by_cases e:m=l
 ·subst e;have:=inj _ _ (I.inj hm J);rw[Maps.has_put_same O.isMap (I.key hm)];simp[this]
 ·rw[Maps.has_put_other e,h3];have G:y≠x:=fun e2=>by
   subst e2;exact e (MX (hm.symm.trans J))
  simp[G]
end
def LV:Value->Option (DataW Value × List MemPlace):=fun v=>some (.held v,[])
theorem JP {v:Value} {y:DataW Value × List MemPlace} (h:LV v=some y):y.1=DataW.held v:=by
 unfold LV at h;rw[<-MX h]
theorem Fq {a b:Value} (h:(DataW.held a:DataW Value)=DataW.held b):a=b:=by
 cases h
 rfl
def HasV {α:Type} (K:TypeId) (kv:α->Value) (w:World) (b n:Nat) (S:α->Option Value):Prop:=∃D,w.ownsMap prog K LV b n D /\
 ∀(x:α) l,keyOf prog K (kv x)=some l->∀z,D.atKey l z=(match S x with|some v=>DataW.held v|none=>z)
section
variable {α : Type} {K M E : TypeId} {kv : α -> Value} {w w' : World} {b n : Nat} {S : α -> Option Value} {zv : Value}
theorem HasV.kept (h:HasV K kv w b n S) {row:Option Nat} (J:w.grownBy w' row) (z:some b≠row):HasV K kv w' b n S:=by
 obtain⟨D,I,G⟩:=h;exact⟨D,I.kept J z,G⟩
theorem HasV.lt (h:HasV K kv w b n S):b<w.heap.size:=by
 obtain⟨D,z,_⟩:=h;exact z.lt
theorem HasV.below (h:HasV K kv w b n S) (z:Mm w w'):HasV K kv w' b n S:=h.kept (aC z none) jS
theorem CN (K:TypeId) (kv:α->Value) (w:World):HasV K kv (w.alloc (.map #[] 0)) w.heap.size 0 (fun _=>none) :=
 ⟨_,World.ownsMap_made w _ _ _,fun _ _ _ _=>rfl⟩
theorem HasV.look (hK:Maps.Keyed prog K) (hM:prog.underlying M=some (.map K E)) (hz:∀w,(zeroValue E).run prog w=.ok zv w) (h:HasV K kv w b n S) {x:α} {l:Lit} (Z:keyOf prog K (kv x)=some l) :
  (Instr.lookup M (.map (some b)) (kv x) false).run prog w=.ok ((S x).getD zv) w:=by
 obtain⟨D,⟨es,clock,hb,F,_,rfl⟩,h2⟩:=h;have J:=h2 x l Z;rcases Maps.fit_look false hK hM (hz w) hb F Z with ⟨z,_,G⟩|⟨e0,y,_,_,z,hRv,G,_⟩
 ·cases O:S x with
  | none=>exact z
  | some v =>
   rw[O]at J;have I:=(G .nil).symm.trans (J .nil)
   cases I
 ·have hy:y.1=DataW.held e0.val:=JP hRv
  cases O:S x with
  | none =>
   rw[O]at J;have I:=(G .nil).symm.trans (J .nil);rw[hy]at I
   cases I
  | some v =>
   rw[O]at J;have I:=(G .nil).symm.trans (J .nil);rw[hy]at I;have e2:=Fq I;rw[e2]at z;exact z
open Classical in
theorem HasV.store (J:Maps.Keyed prog K) (hM:prog.underlying M=some (.map K E)) (inj:∀x y,kv x=kv y->x=y) (h:HasV K kv w b n S) {x:α} {l:Lit} (O:keyOf prog K (kv x)=some l) (v:Value) (hn:n<maxLen) :
  ∃w',(Instr.mapUpdate M (.map (some b)) (kv x) v).run prog w=.ok () w'/\HasV K kv w' b (n+1) (fun y=>if y=x then some v else S y)/\w.grownBy w' (some b):=by
 obtain⟨D,Z,h2⟩:=h;obtain⟨w',G,r1,r2⟩:=Z.update J hM hn O (val:=v) (d:=.held v) (ps:=[]) rfl;refine⟨w',G,⟨_,r1,fun y m hm z=>?_⟩,r2⟩;have h3:=h2 y m hm z
 by_cases e:m=l
 ·subst e;have:=inj _ _ (J.inj hm O);rw[Maps.atKey_put_same Z.isMap (J.key hm)];simp[this]
 ·have I:y≠x:=fun e2=>by
   subst e2;exact e (MX (hm.symm.trans O))
  rw[Maps.atKey_put_other e,h3];simp[I]
end
theorem tU:Maps.Keyed prog 9:=Maps.string_keyed underlying9
theorem J6 {s:ByteArray} (h:s.size<=maxLen):keyOf prog 9 (.string s)=some (.string s.data.toList):=WideMaps.keyOf_string_mk underlying9 h
end
section
open Go.RowKit Go.ChangeMaps Go.ChangeShapes Go.WideShapes Go.MapKept Go.WideElems
def ja (v:Vl):Prop:=(Lit.int .i64 v.kind).wf=true/\(Lit.int .i64 v.num).wf=true/\v.text.size<=maxLen
theorem iD:ja ah:=⟨by decide,by decide,Mu _⟩
theorem GU:laidOutB prog=true:=kr
theorem wJ:(match prog.underlying 27 with|some (.array _ _)|some (.struct _)=>true|_=>false)=true:=kr
theorem JF:(27:TypeId)<prog.types.size:=NB kr
theorem IL:prog.keyTypeAt 2 27=true:=kr
theorem qZ:Go.WideMaps.KeyLaw prog 27:=deep_law_laid GU (m:=2) om JF IL wJ
theorem Cr:Maps.Keyed prog 27:=Maps.Keyed.of_law qZ
theorem Hv:prog.keyTypeAt (prog.types.size+1) 27=true:=kr
theorem sI:prog.cellsOf 27=3:=kr
theorem E9:prog.cellsOf 3=1:=kr
theorem GA:prog.cellsOf 9=1:=kr
theorem BY (w:World) {v:Vl} (h:ja v):∃l,keyOf prog 27 (vlV v)=some l:=by
 obtain⟨I,G,J⟩:=h;exact⟨_,(keyOf_asKey (H:=Unit) (enc:=fun _=>()) (w:=w) (base:=0) (sp:=fun _=>true) (held:=true) (d:=.agg [.lit (.int .i64 v.kind),.lit (.int .i64 v.num),.lit (.string v.text.data.toList)]) (ps:=[]) Hv wJ (by have z:=sI;simp[vlV,Value.formed,underlying27];exact z.symm)
  ⟨3,by have z:=sI;simp[vlV,DataW.trod,Value.cells,underlying27,underlying3,underlying9,E9,GA,I,G,J];exact z.symm⟩).1⟩
theorem BH (x y:Vl) (h:vlV x=vlV y):x=y:=by
 obtain⟨a,b,c⟩:=x;obtain⟨z,b',G⟩:=y;simp[vlV]at h;obtain⟨rfl,rfl,rfl⟩:=h;rfl
theorem oT (w:World):(zeroValue 34).run prog w=.ok (.slice none 0 0) w:=kr
theorem HasV.same {α:Type} {K:TypeId} {kv:α->Value} {w w':World} {b n:Nat} {S:α->Option Value} (h:HasV K kv w b n S) (e:w'.heap[b]?=w.heap[b]?):HasV K kv w' b n S:=by
 obtain⟨D,⟨es,clock,G,r⟩,z⟩:=h;exact⟨D,⟨es,clock,e.trans G,r⟩,z⟩
theorem EF {l:List MapEntry} (h:l.Pairwise (fun x y=>x.key≠y.key)) {x y:MapEntry} (J:x∈l) (hy:y∈l) (e:x.key=y.key):x=y:=by
 obtain⟨i,I,rfl⟩:=N9 J;obtain⟨j,G,rfl⟩:=N9 hy;rcases Py i j with z|rfl|z
 ·exact absurd e (List.pairwise_iff_getElem.1 h i j I G z)
 ·rfl
 ·exact absurd e.symm (List.pairwise_iff_getElem.1 h j i G I z)
open Classical in
theorem HasV.entry {α:Type} {K M E:TypeId} {kv:α->Value} {w:World} {b n:Nat} {S:α->Option Value} {zv:Value} (hL:Go.WideMaps.KeyLaw prog K) (hM:prog.underlying M=some (.map K E)) (hz:∀w,(zeroValue E).run prog w=.ok zv w) (inj:∀x y,kv x=kv y->x=y) (h:HasV K kv w b n S) {x:α} {l:Lit} (hl:keyOf prog K (kv x)=some l) (hn:n<maxLen) :
  ∃w1 st,(Instr.mapEntry M (.map (some b)) (kv x)).run prog w=.ok (.tuple #[(S x).getD zv,goInt (st:Nat)]) w1/\w.grownBy w1 (some b)/\b<w1.heap.size /\
   ∀(w2:World) (val:Value),w2.heap[b]?=w1.heap[b]?->∃w3,(Instr.entryStore M (.map (some b)) (goInt (st:Nat)) val).run prog w2=.ok () w3/\w2.grownBy w3 (some b)/\HasV K kv w3 b (n+1) (fun y=>if y=x then some val else S y):=by
 have hK:=Maps.Keyed.of_law hL;have z:=h.look hK hM hz hl;have l':=fun val=>h.store hK hM inj hl val hn
 obtain⟨D,⟨es,clock,hb,F,q',rfl⟩,h2⟩:=id h;obtain⟨v0,st,p',g',c',J,d'⟩:=Go.WideElems.entry_then_store hL hM hz hb F hl;have f':∀(W:World) (ea:Array MapEntry) (ck:Nat) (o':Obj),W.heap[b]?=some (.map ea ck)->W.grownBy (setBlock W b o') (some b):=fun W ea ck o' hW=>⟨rfl,rfl,rfl,by simp[setBlock],fun i _ hi=>heap_setBlock_other hW _ (fun e=>hi (by rw[e]))⟩
 have i':=(Array.getElem?_eq_some_iff.1 hb).1;have e0:v0=(S x).getD zv:=by
  rcases Maps.fit_look false hK hM (hz w) hb F hl with ⟨hr,O,_⟩|⟨e1,y,hm,hk,hr,_⟩
  ·rw[hr]at z;injection z with z;rcases J with ⟨e2,a',Z,-⟩|⟨-,J⟩
   ·exact absurd Z (O e2 a')
   ·rw[J];exact z
  ·rw[hr]at z;injection z with z;rcases J with ⟨e2,a',Z,m'⟩|⟨O,-⟩
   ·rw[m',<-z];have k':es.toList.Pairwise (fun x y=>x.key≠y.key):=((stamped_iff es clock).1 F.stamped).2.2;rw[EF k' a' hm (Z.trans hk.symm)];simp
   ·exact absurd hk (O e1 hm)
 refine⟨_,st,by rw[<-e0];exact c',f' w _ _ _ hb,by simpa [setBlock] using i',fun w2 val I=>?_⟩;rw[heap_setBlock_same hb]at I;obtain⟨es',h',j',n'⟩:=d' w2 val I;refine⟨_,j',f' w2 _ _ _ I,?_⟩;obtain⟨w',G,hH,-⟩:=l' val;rw[n']at G;injection G with _ G;subst G;exact hH.same (by rw[heap_setBlock_same I,heap_setBlock_same hb])
end
theorem kB {w:World} {v:Value} {l:List Vl} (h:aV w v l) {b:Nat} (G:∀g,v.ownBlock=some g->g≠b) (i:Nat) (u:Value):aV (w.setCell ⟨b,i,none⟩ u) v l :=
 jn h fun _ g _ z=>Nj w ⟨b,i,none⟩ u g (G g z)
def LU (w:World) (x:Evt) (e:Ending) (W:World):Prop:=∃u,e=.returned (cP x u)/\ub w.heap.size W u x.vals/\Mm w W
theorem qU (x:Evt) (u:Value) (w:World) (hu:aV w u x.vals) (hn:x.vals.length<=1048576) :
  Calls prog 71 #[cP x u] w (LU w x):=by
 have HU:=jD hu;have ho:=fD hu;obtain⟨A,c,rfl,-⟩:=hu;unfold cP;go_enter func71,ntmps71;go_wp2_with fail;refine aI fun W1 e1=>?_
 have O:Mm w W1:=gb e1;have r0:W1.heap[w.heap.size]?=some (.cells [Value.int .i64 x.src,.int .i64 x.sq,.int .i64 x.ty,.int .i64 x.tm,.slice A x.vals.length c].toArray 60 (0,0)):=by rw[e1];exact bB (ax _ _ _ rfl)
 have r1:W1.heap[w.heap.size+1]?=some (.cells [Value.int .i64 0,.int .i64 0,.int .i64 0,.int .i64 0,.slice none 0 0].toArray 60 (0,0)):=by rw[e1];exact ax _ _ _ jS
 have c':w.heap.size+1<W1.heap.size:=by rw[e1];simp
 clear e1;refine (zT x.vals _ W1 (HU.out.stays aD O) hn).mono ?_;rintro e w2 ⟨u2,rfl,z,I⟩;have J:=ab O I;have G:=am I r0;have h:=am I r1;obtain⟨z,a'⟩:=z;obtain⟨A2,cq,rfl,-⟩:=id z;have HN:=jD z;have HG:=jD a';have HB:=jD J;obtain⟨F,hF⟩:=jE (w.heap.size+1);obtain⟨E,hE⟩:=jE w.heap.size;rw[hF]at h c';rw[hE]at G;have h':E≠F:=by omega
 have d':F≠E:=by omega
 have g':E<F:=by omega
 have HE:=jD hE;have HF:=jD hF;have j':=I.size;clear z a' J r0 r1 O I HU ho;rw[hF,hE];clear hE hF;have c0:=ae G 0;have c1:=ae G 1;have c2:=ae G 2;have c3:=ae G 3;have c4:=ae G 4;have f4:=aw G 4;have d0:=ae h 0;have d1:=ae h 1;have d2:=ae h 2;have d3:=ae h 3;have d4:=ae h 4;have g0:=aw h 0;have g1:=aw h 1;have g2:=aw h 2;have g3:=aw h 3;have g4:=aw h 4;simp only[OS,OA]at c0 c1 c2 c3 c4 d0 d1 d2 d3 d4;have f':E<w2.heap.size:=by omega
 have i':F<w2.heap.size:=by omega
 go_wp2_with fail;refine Mv (v:=cP x (.slice A2 x.vals.length cq)) (by simp[results,results71,go_sem,cP,ap,d0,d1,d2,d3,d4,g1,g2,g3,g4]) rfl ⟨_,rfl,⟨?_,fun g Z=>⟨?_,?_⟩⟩,?_⟩
 ·have hE:∀g,(Value.slice A2 x.vals.length cq).ownBlock=some g->g≠E:=fun g Z=>by have:=(HG.out g Z).1;omega
  have hF:∀g,(Value.slice A2 x.vals.length cq).ownBlock=some g->g≠F:=fun g Z=>by have:=(HG.out g Z).1;omega
  exact kB (kB (kB (kB (kB (kB HN.out hE _ _) hF _ _) hF _ _) hF _ _) hF _ _) hF _ _
 ·have:=(HG.out g Z).1;have:=HE.out;omega
 ·have:=(HG.out g Z).2
  simpa using this
 ·have h1:=N2 HE.out;have h2:w.heap.size<=F:=by have:=HE.out;omega
  exact aq (aq (aq (aq (aq (aq HB.out h1 _) h2 _) h2 _) h2 _) h2 _) h2 _
theorem Mj {pre:List Evt} {x:Evt} (z:bN x=true) (h:∀p∈pre,cJ (cF p) (cF x)<0) (G:∀p∈pre,dv x p=false):evE pre x=0:=by
 unfold evE;rw[Mo (by rw[z];simp),Mo,Mo]
 ·rw[O6,OO];intro p hp;rw[G p hp];simp
 ·unfold gX
  cases hp:pre.getLast? with
  | none=>simp
  | some p =>
   have:=h p (List.mem_of_getLast? hp);simp;omega
theorem qP:∀(l pre:List Evt),(pre++l).Pairwise (fun a b=>cJ (cF a) (cF b)<0)->(pre++l).Pairwise (fun a b=>dv b a=false)->(∀e∈l,bN e=true)->cC pre l=0
 | [],_,_,_,_=>rfl
 | x::l,pre,h1,h2,h3=>by
  have e:evE pre x=0:=Mj (h3 x (Mz ..)) (fun p hp=>(List.pairwise_append.1 h1).2.2 p hp x (Mz ..)) (fun p hp=>(List.pairwise_append.1 h2).2.2 p hp x (Mz ..));unfold cC;rw[Mp e];exact qP l (pre++[x]) (by rw[OC];exact h1) (by rw[OC];exact h2) (fun y hy=>h3 y (MD _ hy))
theorem mI:∀(l pre:List Evt),pre.Pairwise (fun a b=>dv b a=false)->cC pre l=0->(pre++l).Pairwise (fun a b=>dv b a=false)
 | [],pre,h,_=>by rw[OV];exact h
 | x::l,pre,h,h0=>by
  unfold cC at h0
  by_cases e:evE pre x=0
  ·rw[Mp e]at h0;obtain⟨-,-,z⟩:=xE e;have J:(pre++[x]).Pairwise (fun a b=>dv b a=false):=by
    rw[Po];refine⟨h,List.pairwise_singleton ..,fun a I b G=>?_⟩;rw[NK]at G;subst G;rw[OO]at z
    simpa using z a I
   have:=mI l (pre++[x]) J h0
   rwa [OC]at this
  ·rw[Mo e]at h0;exact absurd h0 e
theorem rW {l:List Evt} (h:bH l=0) (q:Evt->Bool):bH (l.filter q)=0:=by
 obtain⟨z,J⟩:=kJ h;have I:cC [] l=0:=by unfold bH at h;rwa [Mo om]at h
 have G:=mI l [] List.Pairwise.nil I;unfold bH;rw[Mo (by have:=Ow q l;omega)];exact qP _ [] (z.asc.filter q) (G.filter q) (fun e he=>z.placed e (List.mem_filter.1 he).1)
theorem xd {key:List Int} {l:List Evt} (h:bH l=0):∀s∈bV key l,bH s=0:=by
 intro s hs;obtain⟨v,_,rfl⟩:=List.mem_map.1 hs;exact rW h _
theorem EH {α:Type} [DecidableEq α] {l m:List α} (G:l.Nodup) (hm:m.Nodup) (h:∀x,x∈l↔x∈m):l.length=m.length :=
 Nat.le_antisymm (iW G fun x z=>(h x).1 z) (iW hm fun x z=>(h x).2 z)
theorem jf {p:Pt} {key:List Int} {l:List Evt} (h:Ag l):(fa (bG p (bV key l))).length=((bV key l).map fun s=>(cI s p).length).sum:=by
 have z:(fa (bG p (bV key l))).length=(bG p (bV key l)).length :=
  EH (sn (cK _).1) (jT p _ (qM h)) (fun x=>(cK _).2 x)
 rw[z];unfold bG;rw[Pw]
theorem FT {p:Pt} {ps:List (List Evt)} {s:List Evt} {m:List Bnd} (hs:s∈ps) (hm:m∈cI s p):m∈fa (bG p ps) :=
 ((cK _).2 m).2 (List.mem_flatMap.2 ⟨s,hs,hm⟩)
theorem Fz {p:Pt} {s:List Evt} {m:List Bnd} (hm:m∈cI s p):∀b∈m,∃e∈s,cJ (cF e) b=0:=by
 obtain⟨t,_,rfl,z⟩:=mU hm;intro b G;obtain⟨y,hy,rfl⟩:=List.mem_map.1 G;have h:=(z.2.2 y hy).2;refine⟨s[y.2],Nu h,?_⟩;rw[iL];unfold bOf cF;rw[Mq h];exact⟨rfl,rfl,rfl⟩
theorem yg (key:List Int) (l:List Evt):(cA key l).length<=l.length:=by
 have:∀(l:List Evt) (S:List Vl),(l.foldl (fun S e=>if (cz key e).2.1 then dD S (cz key e).1 else S) S).length<=S.length+l.length:=fun l=>by
  induction l with
  | nil=>intro S;simp
  | cons e l z =>
   intro S;rw[N4,MG];have hp:∀(S:List Vl) v,(dD S v).length<=S.length+1:=fun S v=>by
    induction S with
    | nil=>simp[dD]
    | cons x r z =>
     rw[dD]
     split
     ·rw[MG,MG];omega
     ·split
      ·rw[MG];omega
      ·rw[MG,MG];exact Mt _
   cases J:(cz key e).2.1 with
   | true =>
    have G:=z (dD S (cz key e).1);have I:=hp S (cz key e).1;rw[Mp rfl];omega
   | false =>
    have G:=z S;rw[Mo jS];omega
 have h:=this l [];rw[Og,MC]at h;exact h
theorem EI (key:List Int) (l:List Evt):((bV key l).map List.length).sum<=l.length:=by
 have G:=(iV key l).1;unfold bV;rw[Oa];have:∀(ks:List Vl),ks.Pairwise (fun a b=>vlC a b<0)->∀l:List Evt,(ks.map (List.length ∘ fun v=>l.filter (dO key v))).sum<=l.length:=fun ks=>by
  induction ks with
  | nil=>intro _ l;simp
  | cons a ks ih =>
   intro hp l;rw[OJ]at hp;rw[MF,N1];have I:=ih hp.2 (l.filter fun e=>!dO key a e);have Z:(ks.map (List.length ∘ fun v=>(l.filter fun e=>!dO key a e).filter (dO key v)))=ks.map (List.length ∘ fun v=>l.filter (dO key v)):=by
    refine Pz fun v hv=>?_
    have J:=hp.1 v hv;simp only[Function.comp];rw[List.filter_filter];congr 1;refine List.filter_congr fun e _=>?_
    cases h:dO key v e with
    | false=>simp
    | true =>
     have:dO key a e=false:=by
      rw[Bool.eq_false_iff];intro z;unfold dO at h z;rw[My]at h z;have e1:=dY.1 h.2;have O:=dY.1 z.2;have e3:a=v:=O.symm.trans e1;subst e3;have:=lw.refl a;omega
     rw[this];rfl
   rw[Z]at I;have h4:((List.length ∘ fun v=>l.filter (dO key v)) a)+(l.filter fun e=>!dO key a e).length=l.length:=by
    simp only[Function.comp];have:=List.length_eq_countP_add_countP (dO key a) (l:=l);rw[List.countP_eq_length_filter,List.countP_eq_length_filter]at this;simp only[O6,Bool.decide_eq_false]at this;omega
   omega
 exact this _ G l
section
structure PartsW (A mb:Nat) (kv:Value) (w:World) (S:Vl->Option Value) (E:Vl->List EV) (n:Nat):Prop where
 key:kv.ownBlock≠some mb
 map:HasV 27 vlV w mb n S
 row:∀v u,S v=some u->E v≠[]/\w.ownsRow A 60 5 u (E v).length (ci (E v))/\∀h,u.ownBlock=some h->h≠mb/\kv.ownBlock≠some h
 no:∀v,S v=none->E v=[]
 apart:∀v v' u u',v≠v'->S v=some u->S v'=some u'->∀h,u.ownBlock=some h->u'.ownBlock≠some h
 vals:∀v,∀e∈E v,aV w e.2 e.1.vals/\∀h,e.2.ownBlock=some h->h<w.heap.size/\h≠mb/\kv.ownBlock≠some h/\∀v' u,S v'=some u->u.ownBlock≠some h
section
variable {A mb n : Nat} {kv : Value} {w w' : World} {S : Vl -> Option Value} {E : Vl -> List EV}
theorem PartsW.grow (h:PartsW A mb kv w S E n) (z:Mm w w'):PartsW A mb kv w' S E n :=
 ⟨h.key,h.map.below z,fun v u G=>⟨(h.row v u G).1,ao (h.row v u G).2.1 z,(h.row v u G).2.2⟩,h.no,h.apart,
  fun v e he=>⟨(h.vals v e he).1.stays aD z,fun g I=>⟨ME ((h.vals v e he).2 g I).1 z.size,((h.vals v e he).2 g I).2⟩⟩⟩
theorem PartsW.is (h:PartsW A mb kv w S E n) {v:Vl} {u:Value} (z:S v=some u):bh w u ((E v).map (·.1)) :=
 dr (gn fun e he=>(h.vals v e he).1) (Mr _ _) (by rw[MB];exact (h.row v u z).2.1)
theorem PartsW.len (h:PartsW A mb kv w S E n) (v:Vl):∃G c,(S v).getD (.slice none 0 0)=.slice G (E v).length c:=by
 cases z:S v with
 | none=>exact⟨none,0,by rw[h.no v z];rfl⟩
 | some u =>
  have hr:=(h.row v u z).2.1;rcases hr.2 with ⟨rfl,h0⟩|⟨g,cap,cur,rfl,-⟩
  ·exact⟨none,0,by rw[h0];rfl⟩
  ·exact⟨_,_,rfl⟩
theorem PartsW.has (h:PartsW A mb kv w S E n) (v:Vl):w.ownsRow A 60 5 ((S v).getD (.slice none 0 0)) (E v).length (ci (E v)):=by
 cases z:S v with
 | none=>rw[h.no v z];exact⟨rfl,.inl ⟨rfl,rfl⟩⟩
 | some u=>exact (h.row v u z).2.1
theorem xf (A:Nat) (w:World):PartsW A w.heap.size (.slice none 0 0) (w.alloc (.map #[] 0)) (fun _=>none) (fun _=>[]) 0 :=
 ⟨by simp[Value.ownBlock],CN _ _ w,fun _ _ h=>(by cases h),fun _ _=>rfl,fun _ _ _ _ _ h=>(by cases h),fun _ _ he=>(by cases he)⟩
theorem PartsW.keyApp (h:PartsW A mb kv w S E n) {J:Value} (hg:w.grownBy w' kv.ownBlock) (Z:J.ownBlock=kv.ownBlock\/J.ownBlock=some w.heap.size):PartsW A mb J w' S E n:=by
 have c':=h.map.lt;have G:∀g,g<w.heap.size->kv.ownBlock≠some g->J.ownBlock≠some g:=fun g a' z e=>by
  rcases Z with e2|e2
  ·exact z (e2▸e)
  ·rw[e2]at e;injection e with e;omega
 refine⟨G _ c' h.key,h.map.kept hg (MT h.key),fun v u hv=>?_,h.no,h.apart,fun v e he=>?_⟩
 ·obtain⟨h1,I,h3⟩:=h.row v u hv;exact⟨h1,aT I fun b O=>hg.block b (ag I O).2 (fun e=>(h3 b O).2 e.symm),fun b O=>⟨(h3 b O).1,G b (ag I O).2 (h3 b O).2⟩⟩
 ·obtain⟨h1,I⟩:=h.vals v e he;exact⟨jn h1 fun _ g a' z=>hg.block g a' (fun e=>(I g z).2.2.1 e.symm),fun g z=>⟨ME (I g z).1 hg.size,(I g z).2.1,G g (I g z).1 (I g z).2.2.1,(I g z).2.2.2⟩⟩
theorem PartsW.keptRow (h:PartsW A mb kv w S E n) (I:w.grownBy w' (some mb)) {v:Vl} {u:Value} (z:S v=some u):w'.ownsRow A 60 5 u (E v).length (ci (E v)) :=
 aT (h.row v u z).2.1 fun b G=>I.block b (ag (h.row v u z).2.1 G).2 (fun e=>((h.row v u z).2.2 b G).1 (MX e))
open Classical in
theorem PartsW.push (h:PartsW A mb kv w S E n) {w1 w2 w3:World} {x:Vl} {y:Evt} {u v7:Value} (hA:A<=w.heap.size) (t':∀g,kv.ownBlock=some g->g<w.heap.size)
  (n':w.grownBy w1 (some mb)) (p':w1.grownBy w2 ((S x).getD (.slice none 0 0)).ownBlock) (g':w2.grownBy w3 (some mb))
  (d':w2.ownsRow A 60 5 v7 ((E x).length+1) (ci (E x)++[Mk y.src,Mk y.sq,Mk y.ty,Mk y.tm,u]))
  (m':v7.ownBlock=((S x).getD (.slice none 0 0)).ownBlock\/v7.ownBlock=some w1.heap.size)
  (s':HasV 27 vlV w3 mb (n+1) (fun z=>if z=x then some v7 else S z))
  (hu:aV w u y.vals) (x':∀g,u.ownBlock=some g->g<w.heap.size/\g≠mb/\kv.ownBlock≠some g/\∀v' z,S v'=some z->z.ownBlock≠some g) :
  PartsW A mb kv w3 (fun z=>if z=x then some v7 else S z) (fun z=>if z=x then E x++[(y,u)] else E z) (n+1):=by
 have A':=h.map.lt;have C':=n'.size;have D':=p'.size;have B':=g'.size;have q':∀g,((S x).getD (.slice none 0 0)).ownBlock=some g->∃O,S x=some O/\O.ownBlock=some g:=fun g I=>by
  cases hS:S x with
  | none=>rw[hS]at I;simp[Value.ownBlock]at I
  | some O=>rw[hS]at I;exact⟨O,rfl,I⟩
 have hk:∀g,g<w.heap.size->g≠mb->(∀O,S x=some O->O.ownBlock≠some g)->w3.heap[g]?=w.heap[g]?:=fun g j' k' y'=>by
  have e1:=n'.block g j' (fun e=>k' (MX e));have e2:=p'.block g om (fun e=>by obtain⟨O,h1,h2⟩:=q' g e.symm;exact y' O h1 h2);have e3:=g'.block g om (fun e=>k' (MX e));exact e3.trans (e2.trans e1)
 have h7:∀g,v7.ownBlock=some g->(∃O,S x=some O/\O.ownBlock=some g)\/w.heap.size<=g:=fun g I=>by
  rcases m' with e|e
  ·rw[e]at I;exact .inl (q' g I)
  ·rw[e]at I;injection I with I;right;omega
 have r':∀g,v7.ownBlock=some g->g≠mb/\kv.ownBlock≠some g:=fun g I=>by
  rcases h7 g I with ⟨O,h1,h2⟩|h1
  ·exact (h.row x O h1).2.2 g h2
  ·exact⟨by omega,fun e=>by have:=t' g e;omega⟩
 have l':∀v u',v≠x->S v=some u'->∀g,u'.ownBlock=some g->v7.ownBlock≠some g:=fun v u' G J g I e=>by
  rcases h7 g e with ⟨O,h1,h2⟩|h1
  ·exact h.apart v x u' O G J h1 g I h2
  ·have:=(ag (h.row v u' J).2.1 I).2;omega
 have c':∀(e:EV),aV w e.2 e.1.vals->(∀g,e.2.ownBlock=some g->g<w.heap.size/\g≠mb/\kv.ownBlock≠some g/\∀v' z,S v'=some z->z.ownBlock≠some g) ->
   aV w3 e.2 e.1.vals/\∀g,e.2.ownBlock=some g->g<w3.heap.size/\g≠mb/\kv.ownBlock≠some g/\∀v' z,(if v'=x then some v7 else S v')=some z->z.ownBlock≠some g:=fun e he I=>by
  refine⟨jn he fun _ g j' Z=>hk g j' (I g Z).2.1 (fun O h'=>(I g Z).2.2.2 x O h'),fun g Z=>⟨by have:=(I g Z).1;omega,(I g Z).2.1,(I g Z).2.2.1,fun v' z hz e2=>?_⟩⟩
  by_cases G:v'=x
  ·rw[Mp G]at hz;injection hz with hz;subst hz;rcases h7 g e2 with ⟨O,h1,h2⟩|h1
   ·exact (I g Z).2.2.2 x O h1 h2
   ·have:=(I g Z).1;omega
  ·rw[Mo G]at hz;exact (I g Z).2.2.2 v' z hz e2
 refine⟨h.key,s',fun v z J=>?_,fun v J=>?_,fun v v' z z' i' J a' g I=>?_,fun v e he=>?_⟩
 ·by_cases G:v=x
  ·subst G;simp only[M5]at J ⊢;injection J with J;subst J;refine⟨by simp,?_,r'⟩;rw[Mw,kh];exact aT d' fun b hb=>g'.block b (ag d' hb).2 (fun e=>(r' b hb).1 (MX e))
  ·simp only[Mo G]at J ⊢;obtain⟨h1,h2,h3⟩:=h.row v z J;exact⟨h1,aT h2 fun b hb=>hk b (ag h2 hb).2 (h3 b hb).1 (fun O h' e=>h.apart v x z O G J h' b hb e),h3⟩
 ·by_cases G:v=x
  ·rw[Mp G]at J;cases J
  ·simp only[Mo G]at J ⊢;exact h.no v J
 ·by_cases G:v=x
  ·subst G;rw[Mp rfl]at J;rw[Mo (MT i')]at a';injection J with J;subst J;exact fun e=>l' v' z' (MT i') a' g e I
  ·rw[Mo G]at J
   by_cases f':v'=x
   ·subst f';rw[Mp rfl]at a';injection a' with a';subst a';exact l' v z G J g I
   ·rw[Mo f']at a';exact h.apart v v' z z' i' J a' g I
 ·by_cases G:v=x
  ·subst G;simp only[M5]at he;rcases List.mem_append.1 he with he|he
   ·exact c' e (h.vals v e he).1 (h.vals v e he).2
   ·rw[NK]at he;subst he;exact c' (y,u) hu x'
  ·simp only[Mo G]at he;exact c' e (h.vals v e he).1 (h.vals v e he).2
end
structure KeysP (key:List Int) (pre:List Evt) (ks:List Vl) (E:Vl->List EV):Prop where
 evs:∀v,(E v).map (·.1)=pre.filter (dO key v)
 mem:∀v,v∈ks↔E v≠[]
 nodup:ks.Nodup
theorem Di (key:List Int):KeysP key [] [] (fun _=>[]):=⟨fun _=>rfl,fun v=>by simp,Pe⟩
section
variable {key : List Int} {pre : List Evt} {ks : List Vl} {E : Vl -> List EV}
theorem KeysP.skip (h:KeysP key pre ks E) {y:Evt} (hy:(cz key y).2.1=false):KeysP key (pre++[y]) ks E :=
 ⟨fun v=>by rw[Oy,h.evs v];simp[dO,hy],h.mem,h.nodup⟩
open Classical in
theorem KeysP.push (h:KeysP key pre ks E) {y:Evt} {x:Vl} (hy:(cz key y).2.1=true) (J:(cz key y).1=x) (u:Value):KeysP key (pre++[y]) (if (E x).length=0 then ks++[x] else ks) (fun z=>if z=x then E x++[(y,u)] else E z):=by
 refine⟨fun v=>?_,fun v=>?_,?_⟩
 ·rw[Oy]
  by_cases G:v=x
  ·subst G;have hk:dO key v y=true:=by unfold dO;rw[hy,J,dY.2 rfl];rfl
   simp only[M5];rw[NY,h.evs v];simp[hk]
  ·have hk:dO key v y=false:=by
    unfold dO;rw[hy,J]
    cases hq:bY x v with
    | false=>rfl
    | true=>exact absurd (dY.1 hq).symm G
   simp only[Mo G];rw[h.evs v];simp[hk]
 ·by_cases G:v=x
  ·subst G;simp only[M5]
   by_cases h0:(E v).length=0
   ·rw[Mp h0];simp
   ·rw[Mo h0];have:v∈ks:=(h.mem v).2 (fun e=>h0 (by rw[e];rfl));simp[this]
  ·simp only[Mo G];rw[<-h.mem v]
   split
   ·simp[G]
   ·rfl
 ·split
  ·next h0 =>
   refine List.nodup_append.2 ⟨h.nodup,by simp,fun a O b I e=>?_⟩;rw[NK]at I;subst I e;exact (h.mem a).1 O (M8 h0)
  ·exact h.nodup
theorem KeysP.sorted (h:KeysP key pre ks E) {z:List Vl} (hp:z.Perm ks) (hs:z.Pairwise (fun a b=>¬vlC b a<0)):z=cA key pre:=by
 refine Jd ?_ fun k=>?_
 ·have hn:z.Nodup:=hp.nodup_iff.2 h.nodup;refine (hs.and hn).imp fun {a b} ⟨I,Z⟩=>?_
  have h3:vlC a b≠0:=fun e=>Z (mJ.1 e)
  have O:vlC b a=- vlC a b:=lw.1 a b;omega
 ·rw[hp.mem_iff,h.mem k];constructor
  ·intro J;have I:(E k).map (·.1)≠[]:=jQ J;rw[h.evs k]at I;obtain⟨e,he⟩:=List.exists_mem_of_ne_nil _ I;obtain⟨a',G⟩:=List.mem_filter.1 he;unfold dO at G;rw[My,dY]at G;exact⟨e,a',G.1,G.2⟩
  ·rintro⟨e,he,I,Z⟩ h3;have O:=h.evs k;rw[h3]at O;have:e∈pre.filter (dO key k):=List.mem_filter.2 ⟨he,by unfold dO;rw[I,Z,dY.2 rfl];rfl⟩;rw[<-O]at this
   cases this
theorem JZ {l:List Vl} (h:∀v∈l,ja v) (i:Nat):ja (l.getD i ah):=by
 rw[PE]
 cases hq:l[i]? with
 | none=>exact iD
 | some v=>exact h v (MI hq)
theorem Cx {y:Evt} (h:∀v∈y.vals,ja v):ja (cz key y).1:=by
 unfold cz
 split
 ·exact iD
 ·split
  ·exact iD
  ·split
   ·exact iD
   ·split
    ·exact iD
    ·exact JZ h _
end
def dz (key:List Int) (l:List Evt):(List Vl × List (List Evt)) × Int:=if mT key l≠0 then (([],[]),mT key l) else ((cA key l,bV key l),0)
def mC (w:World) (r:(List Vl × List (List Evt)) × Int) (e:Ending) (W:World):Prop:=∃kv h,e=.returned (.tuple #[kv,h,Mk r.2])/\aV W kv r.1.1/\Sl nS 1 W h r.1.2/\Mm w W
end
theorem pR {Q:Exit->Act->World->Prop} {e:Exit} {a:Act} {w:World} (h:∀W:World,W=w->Q e a W):Q e a w:=h w rfl
theorem lz {v:Vl}:∀(l:List Vl) (k:Nat),(∀x∈l.take k,vlC x v<0)->dD l v=l.take k++dD (l.drop k) v
 | _,0,_=>by simp
 | [],k+1,_=>by simp
 | x::r,k+1,h=>by
  have z:vlC x v<0:=h x (by rw[Oc];exact Mz ..);rw[dD,Mp z,lz r k fun y hy=>h y (by rw[Oc];exact MD _ hy)];rfl
theorem IR {v y:Vl} {l:List Vl} {k:Nat} (h:l[k]?=some y) (G:¬vlC y v<0):dD (l.drop k) v=if bY y v=true then l.drop k else v::l.drop k:=by
 obtain⟨z,rfl⟩:=List.getElem?_eq_some_iff.1 h;rw[Nd z,dD,Mo G]
theorem Bx {w:World} {A:Option Addr} {n c:Nat} {l:List Vl} (h:aV w (.slice A n c) l):Src w A n 3 (aQ l):=by
 obtain⟨A',c',e,h1,h2,O⟩:=h;injection e with e1 e2 e3;subst e1 e2 e3;have hlen:(aQ l).length=l.length*3:=by
  clear h1 h2 O
  induction l with
  | nil=>rfl
  | cons x r ih =>
   have O:aQ (x::r)=bR x++aQ r:=rfl;rw[O,Mw,ih];simp[bR];omega
 refine⟨hlen,ox l,fun J=>?_⟩;obtain⟨b,o,hA,-⟩:=O 0 l[0] (Mq J);refine⟨b,o,hA,fun j u hj=>?_⟩;have a':=(List.getElem?_eq_some_iff.1 hj).1;have hk:j / 3<l.length:=by omega
 have hx:=Mq hk;obtain⟨b',o',G,c0,c1,c2⟩:=O _ _ hx;rw[hA]at G;injection G with G;injection G with e1 e2;subst e1 e2;have z:=gA hx (j%3) (Nat.mod_lt _ dc);have Z:j / 3*3+j%3=j:=by omega
 rw[Z,hj]at z;have I:j%3=0\/j%3=1\/j%3=2:=by omega
 rcases I with I|I|I
 ·rw[I]at z;simp[bR]at z;rw[z,<-c0];congr 2;omega
 ·rw[I]at z;simp[bR]at z;rw[z,<-c1];congr 2;omega
 ·rw[I]at z;simp[bR]at z;rw[z,<-c2];congr 2;omega
theorem wm {w:World} {b o n c:Nat} {l:List Vl} (h:aV w (.slice (some ⟨b,o,none⟩) n c) l) (k:Nat):aV w (.slice (some ⟨b,o+k*3,none⟩) (n-k) (c-k)) (l.drop k):=by
 obtain⟨A',c',e,h1,h2,h3⟩:=h;injection e with J I G;subst J I G;refine⟨_,_,by rw[O0],by rw[O0];omega,by omega,fun j x O=>?_⟩;rw[N7]at O;obtain⟨b',o',z,Z,c1,c2⟩:=h3 _ _ O;injection z with z;injection z with J I;subst J I;have G:o+k*3+j*3=o+(k+j)*3:=by omega
 refine⟨_,_,rfl,?_,?_,?_⟩
 ·rw[G];exact Z
 ·rw[G];exact c1
 ·rw[G];exact c2
theorem lS {w:World} {B N:Nat} {u:Value} {xs:List Value} {L:List Vl} (h:w.ownsRow B 27 3 u N xs) (z:N=L.length) (G:xs=aQ L):aV w u L:=by
 subst z G;exact mH h
def IA (w:World) (l:List Vl) (e:Ending) (W:World):Prop:=∃u,e=.returned u/\aV W u l/\Mm w W
theorem Ef (l:List Vl) (v:Vl) (vl:Value) (w:World) (hl:aV w vl l) (hn:l.length<=4096):Calls prog 98 #[vl,vlV v] w (IA w (dD l v)):=by
 have HL:=jD hl;obtain⟨A,c,rfl,l1,l2,J'⟩:=hl;obtain⟨cs,Y',V',-⟩:=gR lZ HL.out;have H0:=ay l1 l2;have S':=jD J';have P0:=l1;have Y0:=l2;obtain⟨i0,hi,j',m',l'⟩:=Np mo;clear l1 l2 J' Y' V' cs;unfold vlV;go_enter func98,ntmps98;go_wp2_with fail;refine bg fun w1 e1=>?_
 obtain⟨X,hX⟩:=jF w.heap.size;have x0:Ml w1 X 0 (Mk v.kind):=jW e1 hX;have x1:Ml w1 X 1 (Mk v.num):=jW e1 hX;have x2:Ml w1 X 2 (.string v.text):=jW e1 hX;have J:Hid (Mm w w1):=jD (gb e1);rw[<-hX];have F':=jD (And.intro x0 (And.intro x1 x2));clear e1 hX x0 x1 x2
 go_loopw [5,6] (fun av i wr=>∃k:Nat,k<=l.length/\i=Mk k/\Hid (wr.ownsRow w1.heap.size 27 3 av k (aQ (l.take k)))/\Hid ((∀x∈l.take k,vlC x v<0)/\Mm w1 wr)) (fun _ i _=>l.length-(intOf i).toNat)
 case atStart=>exact⟨0,Mu _,rfl,jD ⟨rfl,.inl ⟨rfl,rfl⟩⟩,jD ⟨by simp,Mr _ _⟩⟩
 case round =>
  obtain⟨k,hk,rfl,a',hI⟩:=hrel;have hb:=hI.out.2;obtain⟨Ar,cr,rfl⟩:=aH a'.out;have x0:=aa hb F'.out.1;have x1:=aa hb F'.out.2.1;have x2:=aa hb F'.out.2.2;have U0:=Ms wr ⟨X,_,none⟩ x0
  by_cases H':k<l.length
  ·have P':(k:Int)<(l.length:Int):=by omega
   obtain⟨b,o,rfl,y0,y1,y2⟩:=S'.out k l[k] (Mq H');have hg:=jD (Mq H');obtain⟨y,hy⟩:∃a,a=l[k]:=⟨_,rfl⟩;rw[<-hy]at hg y0 y1 y2;replace y0:=aa (ab J.out hb) y0;replace y1:=aa (ab J.out hb) y1;replace y2:=aa (ab J.out hb) y2;have X0:=Ms wr ⟨b,_,none⟩ y0;obtain⟨cy,D'⟩:∃q,q=vlC y v:=⟨_,rfl⟩;have t':=jD (fun W=>DA y v W);rw[<-D']at t';unfold vlV at t';have O':=jD D';clear hy D';go_wp2_with fail;refine rgn (fun W:World=>Mm wr W/\Ml W X 0 (Mk v.kind)/\Ml W X 1 (Mk v.num)/\Ml W X 2 (.string v.text)/\Ml W b (o+k*3) (Mk y.kind)/\Ml W b (o+k*3+1) (Mk y.num)/\Ml W b (o+k*3+2) (.string y.text)) (Below wr.heap.size wr) (fun W hW=>⟨hW,aa hW x0,aa hW x1,aa hW x2,aa hW y0,aa hW y1,aa hW y2⟩) ((Mr _ _).drew) (fun k' O=>?_);refine tkH [0,1,2,3,4,5,6,7,8,9] ?_;refine nxH 10 (fun K hK=>?_)
   focus (go_simp;refine (t'.out _).mono ?_;rintro e w4 ⟨rfl,Z'⟩;have Z:Mm wr w4:=ab O.1 Z')
   refine hK.out _ _ (k' _ Z) (fun O=>?_);clear hK K;refine tkH [11,12] ?_;refine dn ?_;replace x0:=aa Z x0;replace x1:=aa Z x1;replace x2:=aa Z x2;replace y0:=aa Z y0;replace y1:=aa Z y1;replace y2:=aa Z y2;have Z0:=Z.size;have K0:b<w4.heap.size:=by omega
   have R0:X<w4.heap.size:=by omega
   have X':=jD Z;clear O k'
   by_cases hc:cy<0
   ·go_wp2_with (at_builtin;refine bA _ rfl (.tmp 20) (.tmp 25) 41 rfl w1.heap.size 27 i0 _ 3 32 underlying41 hi j' m' l' rfl dc (.slice Ar k cr) k (aQ (l.take k)) rfl (ao a'.out (ab Z (af _ _))) (some ⟨w4.heap.size,0,none⟩) 1 1 [Mk y.kind,Mk y.num,.string y.text] rfl (cB _ [Mk y.kind,Mk y.num,.string y.text] _ 1 3 _ jS rfl (by intro u hu;simp only[MN,Nh,Ni]at hu;rcases hu with rfl|rfl|rfl<;>rfl)) (by unfold maxLen;omega) om (by simp;have:=hb.size;have:=Z.size;omega) ?_;intro v8 w8 I g' d');have R':Mm w1 w8:=(ab hb (ab Z (af _ _))).trans (au g' (by simp;have:=hb.size;omega) (fun g h=>(ag a'.out h).1));refine⟨⟨k+1,by omega,by go_num,jD ?_,jD ⟨?_,R'⟩⟩,by simp[intOf];omega⟩
    ·rw[bP hg.out,gk];exact I
    ·intro z hz;rw[bP hg.out,NC,NK]at hz;rcases hz with hz|rfl
     ·exact hI.out.1 z hz
     ·rw[<-O'.out];exact hc
   ·have V0:0<=cy:=by omega
    obtain⟨r,hr⟩:=jF (bY y v);have he:∀W,(binOp .neq 27 (.agg #[Mk y.kind,Mk y.num,.string y.text]) (.agg #[Mk v.kind,Mk v.num,.string v.text])).run prog W=.ok (.bool (!r)) W:=fun W=>by rw[hr];exact cZ y v W
    have B':=jD hr;have G':((k:Int)==(l.length:Int))=false:=by simp;omega
    have z':Hid (dD l v=l.take k++dD (l.drop k) v):=jD (lz l k hI.out.1);have A':=jD (IR hg.out (by rw[<-O'.out];exact hc));clear hr hc;go_wp2_with fail;refine rgn (fun W:World=>Mm w4 W/\Ml W X 0 (Mk v.kind)/\Ml W X 1 (Mk v.num)/\Ml W X 2 (.string v.text)/\Ml W b (o+k*3) (Mk y.kind)/\Ml W b (o+k*3+1) (Mk y.num)/\Ml W b (o+k*3+2) (.string y.text)) (Below w4.heap.size w4) (fun W hW=>⟨hW,aa hW x0,aa hW x1,aa hW x2,aa hW y0,aa hW y1,aa hW y2⟩) ((Mr _ _).drew) (fun k' O=>?_);refine tkH [0,1,2,3,4,5,6,7,8,9,10,11] ?_;refine dn ?_;refine pR (Q:=Exit.then _ _) fun w5 e5=>?_
    have f':Mm w4 w5:=gb e5;have q':=jD (ab X'.out f');have T':=f'.size;replace x0:=aa f' x0;replace x1:=aa f' x1;replace x2:=aa f' x2;have N':X<w5.heap.size:=by omega
    clear O k' e5 f' y0 y1 y2
    cases r with
    | true =>
     have E':Hid (Src w5 (some ⟨b,o+k*3,none⟩) (l.length-k) 3 (aQ (l.drop k))):=jD (Bx (wm (HL.out.stays aD (ab (ab J.out hb) q'.out)) k));go_wp2_with (at_builtin;refine bA _ rfl (.tmp 45) (.tmp 48) 41 rfl w1.heap.size 27 i0 _ 3 32 underlying41 hi j' m' l' rfl dc (.slice Ar k cr) k (aQ (l.take k)) rfl (ao a'.out q'.out) (some ⟨b,o+k*3,none⟩) (l.length-k) (c-k) (aQ (l.drop k)) rfl E'.out (by unfold maxLen;omega) om (by have:=hb.size;omega) ?_;intro v9 w9 G h' c');obtain⟨A9,c9,rfl⟩:=aH G;have n':Hid (aV w9 (.slice A9 (k+(l.length-k)) c9) (dD l v)):=jD (by rw[show dD l v=l.take k++l.drop k from by rw[z'.out,A'.out,Mp B'.out.symm]];exact lS G (by simp;omega) (by rw[fR]));have p':Hid (Mm w w9):=jD (((ab J.out hb).trans (q'.out.mono (by have:=J.out.size;have:=hb.size;omega))).trans (au h' (by have:=J.out.size;have:=hb.size;omega) (fun g h=>by have:=(ag a'.out h).1;have:=J.out.size;omega)));have x':(dD l v).length=k+(l.length-k):=by rw[show dD l v=l.take k++l.drop k from by rw[z'.out,A'.out,Mp B'.out.symm]];simp;omega
     have U':=jD x';clear G h' c' x';go_wp2;exact Mv (v:=.slice A9 (k+(l.length-k)) c9) (by simp[results,results98,go_sem]) rfl ⟨_,rfl,n'.out,p'.out⟩
    | false =>
     have E':Hid (∀W,Mm w W->Src W (some ⟨b,o+k*3,none⟩) (l.length-k) 3 (aQ (l.drop k))):=jD fun W hW=>Bx (wm (HL.out.stays aD hW) k)
     go_wp2_with (first|(at_builtin;refine bA _ rfl (.tmp 41) (.tmp 43) 41 rfl w1.heap.size 27 i0 _ 3 32 underlying41 hi j' m' l' rfl dc (.slice Ar k cr) k (aQ (l.take k)) rfl (ao a'.out (ab q'.out (af _ _))) (some ⟨w5.heap.size,0,none⟩) 1 1 [Mk v.kind,Mk v.num,.string v.text] rfl (cB _ [Mk v.kind,Mk v.num,.string v.text] _ 1 3 _ jS rfl (by intro u hu;simp only[MN,Nh,Ni]at hu;rcases hu with rfl|rfl|rfl<;>rfl)) (by unfold maxLen;omega) om (by simp;have:=hb.size;omega) ?_;intro v8 w8 I g' d';obtain⟨A8,c8,rfl⟩:=aH I;have r':Hid (Mm w w8):=jD (((ab J.out hb).trans ((ab q'.out (af _ _)).mono (by have:=J.out.size;have:=hb.size;omega))).trans (au g' (by simp;have:=J.out.size;have:=hb.size;omega) (fun g h=>by have:=(ag a'.out h).1;have:=J.out.size;omega)));have u':=g'.size;simp only[Oo]at u';have i':=jD I;clear I g' d')|(at_builtin;refine bA _ rfl (.tmp 45) (.tmp 48) 41 rfl w1.heap.size 27 i0 _ 3 32 underlying41 hi j' m' l' rfl dc (.slice A8 (k+1) c8) (k+1) (aQ (l.take k)++[Mk v.kind,Mk v.num,.string v.text]) rfl i'.out (some ⟨b,o+k*3,none⟩) (l.length-k) (c-k) (aQ (l.drop k)) rfl (E'.out _ r'.out) (by unfold maxLen;omega) om (by have:=hb.size;omega) ?_;intro v9 w9 G h' c'))
     obtain⟨A9,c9,rfl⟩:=aH G;have n':Hid (aV w9 (.slice A9 (k+1+(l.length-k)) c9) (dD l v)):=jD (by rw[show dD l v=l.take k++(v::l.drop k) from by rw[z'.out,A'.out,Mo (by rw[<-B'.out];simp)]];exact lS G (by simp;omega) (by rw[fR,OC];rfl));have p':Hid (Mm w w9):=jD (r'.out.trans (au h' (by have:=J.out.size;have:=hb.size;omega) (fun g h=>by have:=(ag i'.out h).1;have:=J.out.size;omega)));have x':(dD l v).length=k+1+(l.length-k):=by rw[show dD l v=l.take k++(v::l.drop k) from by rw[z'.out,A'.out,Mo (by rw[<-B'.out];simp)]];simp;omega
     have U':=jD x';clear G h' c' x';go_wp2;exact Mv (v:=.slice A9 (k+1+(l.length-k)) c9) (by simp[results,results98,go_sem]) rfl ⟨_,rfl,n'.out,p'.out⟩
  ·obtain rfl:k=l.length:=by omega
   have P':¬(l.length:Int)<(l.length:Int):=by omega
   go_wp2_with fail;refine rgn (fun W:World=>Mm wr W/\Ml W X 0 (Mk v.kind)/\Ml W X 1 (Mk v.num)/\Ml W X 2 (.string v.text)) (Below wr.heap.size wr) (fun W hW=>⟨hW,aa hW x0,aa hW x1,aa hW x2⟩) ((Mr _ _).drew) (fun k' O=>?_);refine tkH [0,1,2,3,4] ?_;refine tkS [5,6,7,8,9] ?_;refine xO (i:=10) (fuel:=2) (L:=(true::true::true::true::true::true::true::true::true::true::true::false::false::[]).toArray) rfl kr kr jR O (fun O=>?_);simp only[Act.put,NA,MZ,MY];refine tkS [11] ?_;refine tkH [12] ?_;refine dn ?_;refine pR (Q:=Exit.then _ _) fun w5 e5=>?_
   have f':Mm wr w5:=gb e5;replace x0:=aa f' x0;replace x1:=aa f' x1;replace x2:=aa f' x2;have T':=f'.size;have N':X<w5.heap.size:=by omega
   have G':((l.length:Int)==(l.length:Int))=true:=by simp
   have q':=jD f';clear O k' e5 f';go_wp2_with fail;refine rgn (fun W:World=>Mm w5 W/\Ml W X 0 (Mk v.kind)/\Ml W X 1 (Mk v.num)/\Ml W X 2 (.string v.text)) (Below w5.heap.size w5) (fun W hW=>⟨hW,aa hW x0,aa hW x1,aa hW x2⟩) ((Mr _ _).drew) (fun k' O=>?_);refine tkH [0,1,2,3,4] ?_;refine tkS [5,6,7,8,9,10] ?_;refine tkH [11] ?_;refine dn ?_;refine pR (Q:=Exit.then _ _) fun w6 e6=>?_
   have s':Mm w5 w6:=gb e6;replace x0:=aa s' x0;replace x1:=aa s' x1;replace x2:=aa s' x2;have S0:=s'.size;have Q0:X<w6.heap.size:=by omega
   have y':=jD (ab q'.out s');have C':Hid (dD l v=l++[v]):=jD (by
    have h:=lz l l.length hI.out.1;rw[Nq,List.drop_length]at h;exact h)
   have I':(dD l v).length=l.length+1:=by rw[C'.out];simp
   have A1:=jD I';clear I';clear O k' e6 s'
   cases A with
   | none =>
    go_wp2_with (first|(at_builtin;refine bA _ rfl (.tmp 41) (.tmp 43) 41 rfl w1.heap.size 27 i0 _ 3 32 underlying41 hi j' m' l' rfl dc (.slice Ar l.length cr) l.length (aQ (l.take l.length)) rfl (ao a'.out (ab y'.out (af _ _))) (some ⟨w6.heap.size,0,none⟩) 1 1 [Mk v.kind,Mk v.num,.string v.text] rfl (cB _ [Mk v.kind,Mk v.num,.string v.text] _ 1 3 _ jS rfl (by intro u hu;simp only[MN,Nh,Ni]at hu;rcases hu with rfl|rfl|rfl<;>rfl)) (by unfold maxLen;omega) om (by simp;have:=hb.size;omega) ?_;intro v8 w8 I g' d';obtain⟨A8,c8,rfl⟩:=aH I;have r':Hid (Mm w w8):=jD (((ab J.out hb).trans ((ab y'.out (af _ _)).mono (by have:=J.out.size;have:=hb.size;omega))).trans (au g' (by simp;have:=J.out.size;have:=hb.size;omega) (fun g h=>by have:=(ag a'.out h).1;have:=J.out.size;omega)));have u':=g'.size;simp only[Oo]at u';have i':=jD I;clear I g' d')|(at_builtin;refine bA _ rfl (.tmp 45) (.tmp 48) 41 rfl w1.heap.size 27 i0 _ 3 32 underlying41 hi j' m' l' rfl dc (.slice A8 (l.length+1) c8) (l.length+1) (aQ (l.take l.length)++[Mk v.kind,Mk v.num,.string v.text]) rfl i'.out _ 0 _ [] rfl ⟨rfl,by simp,fun h=>absurd h om⟩ (by unfold maxLen;omega) om (by have:=hb.size;omega) ?_;intro v9 w9 G h' c'))
    obtain⟨A9,c9,rfl⟩:=aH G;have n':Hid (aV w9 (.slice A9 (l.length+1+0) c9) (dD l v)):=jD (by rw[C'.out];exact lS G jS (by rw[fR,Nq,OV];rfl));have p':Hid (Mm w w9):=jD (r'.out.trans (au h' (by have:=J.out.size;have:=hb.size;omega) (fun g h=>by have:=(ag i'.out h).1;have:=J.out.size;omega)));clear G h' c';go_wp2;exact Mv (v:=.slice A9 (l.length+1+0) c9) (by simp[results,results98,go_sem]) rfl ⟨_,rfl,n'.out,p'.out⟩
   | some ad =>
    obtain⟨b,o,ix⟩:=ad;go_wp2_with (first|(at_builtin;refine bA _ rfl (.tmp 41) (.tmp 43) 41 rfl w1.heap.size 27 i0 _ 3 32 underlying41 hi j' m' l' rfl dc (.slice Ar l.length cr) l.length (aQ (l.take l.length)) rfl (ao a'.out (ab y'.out (af _ _))) (some ⟨w6.heap.size,0,none⟩) 1 1 [Mk v.kind,Mk v.num,.string v.text] rfl (cB _ [Mk v.kind,Mk v.num,.string v.text] _ 1 3 _ jS rfl (by intro u hu;simp only[MN,Nh,Ni]at hu;rcases hu with rfl|rfl|rfl<;>rfl)) (by unfold maxLen;omega) om (by simp;have:=hb.size;omega) ?_;intro v8 w8 I g' d';obtain⟨A8,c8,rfl⟩:=aH I;have r':Hid (Mm w w8):=jD (((ab J.out hb).trans ((ab y'.out (af _ _)).mono (by have:=J.out.size;have:=hb.size;omega))).trans (au g' (by simp;have:=J.out.size;have:=hb.size;omega) (fun g h=>by have:=(ag a'.out h).1;have:=J.out.size;omega)));have u':=g'.size;simp only[Oo]at u';have i':=jD I;clear I g' d')|(at_builtin;refine bA _ rfl (.tmp 45) (.tmp 48) 41 rfl w1.heap.size 27 i0 _ 3 32 underlying41 hi j' m' l' rfl dc (.slice A8 (l.length+1) c8) (l.length+1) (aQ (l.take l.length)++[Mk v.kind,Mk v.num,.string v.text]) rfl i'.out _ 0 _ [] rfl ⟨rfl,by simp,fun h=>absurd h om⟩ (by unfold maxLen;omega) om (by have:=hb.size;omega) ?_;intro v9 w9 G h' c'))
    all_goals (
     obtain⟨A9,c9,rfl⟩:=aH G;have n':Hid (aV w9 (.slice A9 (l.length+1+0) c9) (dD l v)):=jD (by rw[C'.out];exact lS G jS (by rw[fR,Nq,OV];rfl));have p':Hid (Mm w w9):=jD (r'.out.trans (au h' (by have:=J.out.size;have:=hb.size;omega) (fun g h=>by have:=(ag i'.out h).1;have:=J.out.size;omega)));clear G h' c';go_wp2;exact Mv (v:=.slice A9 (l.length+1+0) c9) (by simp[results,results98,go_sem]) rfl ⟨_,rfl,n'.out,p'.out⟩)
end Go.Proofs.YtbjicljfjkdeeaaGreatDoor
