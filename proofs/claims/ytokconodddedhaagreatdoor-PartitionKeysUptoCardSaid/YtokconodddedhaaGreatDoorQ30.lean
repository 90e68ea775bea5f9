/- Part. -/
import Derived.StringKeys
import Derived.Test.YtokconodddedhaaGreatDoorQ29
import Derived.WideKeyEntry
import Derived.Test.YtokconodddedhaaGreatDoorQ25
import Derived.Test.YtokconodddedhaaGreatDoorQ24
import Derived.Test.YtokconodddedhaaGreatDoorQ27
import Derived.Carry
set_option maxRecDepth 100000
set_option maxHeartbeats 16000000
set_option linter.unusedVariables false
set_option linter.unusedSimpArgs false
namespace Go.Proofs.YtokconodddedhaaGreatDoor
open Go.Proofs.Tryz Go.RowKit
section
def HasM {α:Type} (K:TypeId) (kv:α->Value) (w:World) (b n:Nat) (pre:List α):Prop:=∃D,w.ownsMap prog K BK b n D /\
 ∀(x:α) l,keyOf prog K (kv x)=some l->(Maps.has D l=true↔x∈pre)
section
variable {α : Type} {K M : TypeId} {kv : α -> Value} {w w' : World} {b n : Nat} {pre : List α}
theorem HasM.kept (h:HasM K kv w b n pre) {row:Option Nat} (F:w.grownBy w' row) (z:some b≠row):HasM K kv w' b n pre:=by
 obtain⟨D,G,I⟩:=h;exact⟨D,G.kept F z,I⟩
theorem HasM.lt (h:HasM K kv w b n pre):b<w.heap.size:=by
 obtain⟨D,z,_⟩:=h;exact z.lt
theorem HasM.below (h:HasM K kv w b n pre) (z:KY w w'):HasM K kv w' b n pre:=h.kept (bx z none) jS
theorem gv (K:TypeId) (kv:α->Value) (w:World):HasM K kv (w.alloc (.map #[] 0)) w.heap.size 0 [] :=
 ⟨_,World.ownsMap_made w _ _ _,fun _ _ _=>by simp[Maps.has]⟩
theorem HasM.look (Z:Maps.Keyed prog K) (hM:prog.underlying M=some (.map K 4)) (h:HasM K kv w b n pre) {x:α} {l:Lit} (J:keyOf prog K (kv x)=some l) :
  ∃r,(r=true↔x∈pre)/\(Instr.lookup M (.map (some b)) (kv x) false).run prog w=.ok (.bool r) w:=by
 obtain⟨D,⟨es,clock,O,F,_,rfl⟩,h2⟩:=h;have I:=h2 x l J;rcases Maps.fit_look false Z hM (Js w) O F J with ⟨z,_,G⟩|⟨e0,y,_,_,z,hRv,G,_⟩
 ·rw[Maps.has_false_of_atKey G]at I;exact⟨false,I,z⟩
 ·rw[Maps.has_true_of_atKey G]at I;have:=vY hRv;rw[this]at z;exact⟨true,I,z⟩
theorem HasM.store (F:Maps.Keyed prog K) (Z:prog.underlying M=some (.map K 4)) (inj:∀x y,kv x=kv y->x=y) (h:HasM K kv w b n pre) {x:α} {l:Lit} (I:keyOf prog K (kv x)=some l) (hn:n<maxLen) :
  ∃w',(Instr.mapUpdate M (.map (some b)) (kv x) (.bool true)).run prog w=.ok () w'/\HasM K kv w' b (n+1) (pre++[x])/\w.grownBy w' (some b):=by
 obtain⟨D,J,h2⟩:=h;obtain⟨w',z,r1,r2⟩:=J.update F Z hn I (val:=.bool true) (d:=.lit (.bool true)) (ps:=[]) rfl;refine⟨w',z,⟨_,r1,fun y m hm=>?_⟩,r2⟩;have O:=h2 y m hm;rw[L0,Lz]
 by_cases e:m=l
 ·subst e;have:=inj _ _ (F.inj hm I);rw[Maps.has_put_same J.isMap (F.key hm)];simp[this]
 ·rw[Maps.has_put_other e,O];have G:y≠x:=fun e2=>by
   subst e2;exact e (LK (hm.symm.trans I))
  simp[G]
end
def Ky:Value->Option (DataW Value × List MemPlace):=fun v=>some (.held v,[])
theorem Il {v:Value} {y:DataW Value × List MemPlace} (h:Ky v=some y):y.1=DataW.held v:=by
 unfold Ky at h;rw[<-LK h]
theorem Eq {a b:Value} (h:(DataW.held a:DataW Value)=DataW.held b):a=b:=by
 cases h
 rfl
def HasV {α:Type} (K:TypeId) (kv:α->Value) (w:World) (b n:Nat) (S:α->Option Value):Prop:=∃D,w.ownsMap prog K Ky b n D /\
 ∀(x:α) l,keyOf prog K (kv x)=some l->∀z,D.atKey l z=(match S x with|some v=>DataW.held v|none=>z)
section
variable {α : Type} {K M E : TypeId} {kv : α -> Value} {w w' : World} {b n : Nat} {S : α -> Option Value} {zv : Value}
theorem HasV.kept (h:HasV K kv w b n S) {row:Option Nat} (F:w.grownBy w' row) (z:some b≠row):HasV K kv w' b n S:=by
 obtain⟨D,G,I⟩:=h;exact⟨D,G.kept F z,I⟩
theorem HasV.lt (h:HasV K kv w b n S):b<w.heap.size:=by
 obtain⟨D,z,_⟩:=h;exact z.lt
theorem HasV.below (h:HasV K kv w b n S) (z:KY w w'):HasV K kv w' b n S:=h.kept (bx z none) jS
theorem D0 (K:TypeId) (kv:α->Value) (w:World):HasV K kv (w.alloc (.map #[] 0)) w.heap.size 0 (fun _=>none) :=
 ⟨_,World.ownsMap_made w _ _ _,fun _ _ _ _=>rfl⟩
theorem HasV.look (hK:Maps.Keyed prog K) (hM:prog.underlying M=some (.map K E)) (hz:∀w,(zeroValue E).run prog w=.ok zv w) (h:HasV K kv w b n S) {x:α} {l:Lit} (Z:keyOf prog K (kv x)=some l) :
  (Instr.lookup M (.map (some b)) (kv x) false).run prog w=.ok ((S x).getD zv) w:=by
 obtain⟨D,⟨es,clock,hb,F,_,rfl⟩,h2⟩:=h;have J:=h2 x l Z;rcases Maps.fit_look false hK hM (hz w) hb F Z with ⟨z,_,G⟩|⟨e0,y,_,_,z,hRv,G,_⟩
 ·cases O:S x with
  | none=>exact z
  | some v =>
   rw[O]at J;have I:=(G .nil).symm.trans (J .nil)
   cases I
 ·have hy:y.1=DataW.held e0.val:=Il hRv
  cases O:S x with
  | none =>
   rw[O]at J;have I:=(G .nil).symm.trans (J .nil);rw[hy]at I
   cases I
  | some v =>
   rw[O]at J;have I:=(G .nil).symm.trans (J .nil);rw[hy]at I;have e2:=Eq I;rw[e2]at z;exact z
open Classical in
theorem HasV.store (G:Maps.Keyed prog K) (hM:prog.underlying M=some (.map K E)) (inj:∀x y,kv x=kv y->x=y) (h:HasV K kv w b n S) {x:α} {l:Lit} (J:keyOf prog K (kv x)=some l) (v:Value) (hn:n<maxLen) :
  ∃w',(Instr.mapUpdate M (.map (some b)) (kv x) v).run prog w=.ok () w'/\HasV K kv w' b (n+1) (fun y=>if y=x then some v else S y)/\w.grownBy w' (some b):=by
 obtain⟨D,O,h2⟩:=h;obtain⟨w',F,r1,r2⟩:=O.update G hM hn J (val:=v) (d:=.held v) (ps:=[]) rfl;refine⟨w',F,⟨_,r1,fun y m hm z=>?_⟩,r2⟩;have Z:=h2 y m hm z
 by_cases e:m=l
 ·subst e;have:=inj _ _ (G.inj hm J);rw[Maps.atKey_put_same O.isMap (G.key hm)];simp[this]
 ·have I:y≠x:=fun e2=>by
   subst e2;exact e (LK (hm.symm.trans J))
  rw[Maps.atKey_put_other e,Z];simp[I]
end
theorem dR:Maps.Keyed prog 9:=Maps.string_keyed underlying9
theorem mx {s:ByteArray} (h:s.size<=maxLen):keyOf prog 9 (.string s)=some (.string s.data.toList):=WideMaps.keyOf_string_mk underlying9 h
theorem ph (x y:ByteArray) (h:Value.string x=Value.string y):x=y:=by injection h
theorem rt:Maps.Keyed prog 3:=Maps.int_keyed underlying3
theorem xl {n:Int} (h:(Lit.int .i64 n).wf=true):keyOf prog 3 (.int .i64 n)=some (.int .i64 n):=Maps.keyOf_int_mk underlying3 h
theorem Ep (x y:Int) (h:KW x=KW y):x=y:=by injection h
end
section
open Go.RowKit Go.ChangeMaps Go.ChangeShapes Go.WideShapes Go.MapKept Go.WideElems
def gV (v:Vl):Prop:=(Lit.int .i64 v.kind).wf=true/\(Lit.int .i64 v.num).wf=true/\v.text.size<=maxLen
theorem iN:gV au:=⟨by decide,by decide,Lb _⟩
theorem Fx:laidOutB prog=true:=kr
theorem xM:(match prog.underlying 27 with|some (.array _ _)|some (.struct _)=>true|_=>false)=true:=kr
theorem IL:(27:TypeId)<prog.types.size:=MA kr
theorem II:prog.keyTypeAt 2 27=true:=kr
theorem qP:Go.WideMaps.KeyLaw prog 27:=deep_law_laid Fx (m:=2) om IL II xM
theorem AE:Maps.Keyed prog 27:=Maps.Keyed.of_law qP
theorem EA:prog.keyTypeAt (prog.types.size+1) 27=true:=kr
theorem sD:prog.cellsOf 27=3:=kr
theorem Fm:prog.cellsOf 3=1:=kr
theorem Ea:prog.cellsOf 9=1:=kr
theorem BM (w:World) {v:Vl} (h:gV v):∃l,keyOf prog 27 (vlV v)=some l:=by
 obtain⟨D,G,F⟩:=h;exact⟨_,(keyOf_asKey (H:=Unit) (enc:=fun _=>()) (w:=w) (base:=0) (sp:=fun _=>true) (held:=true) (d:=.agg [.lit (.int .i64 v.kind),.lit (.int .i64 v.num),.lit (.string v.text.data.toList)]) (ps:=[]) EA xM (by have z:=sD;simp[vlV,Value.formed,underlying27];exact z.symm)
  ⟨3,by have z:=sD;simp[vlV,DataW.trod,Value.cells,underlying27,underlying3,underlying9,Fm,Ea,D,G,F];exact z.symm⟩).1⟩
theorem AV (x y:Vl) (h:vlV x=vlV y):x=y:=by
 obtain⟨a,b,c⟩:=x;obtain⟨z,F,D⟩:=y;simp[vlV]at h;obtain⟨rfl,rfl,rfl⟩:=h;rfl
theorem pC (w:World):(zeroValue 34).run prog w=.ok (.slice none 0 0) w:=kr
theorem HasV.same {α:Type} {K:TypeId} {kv:α->Value} {w w':World} {b n:Nat} {S:α->Option Value} (h:HasV K kv w b n S) (e:w'.heap[b]?=w.heap[b]?):HasV K kv w' b n S:=by
 obtain⟨D,⟨es,clock,F,r⟩,z⟩:=h;exact⟨D,⟨es,clock,e.trans F,r⟩,z⟩
theorem Dt {l:List MapEntry} (h:l.Pairwise (fun x y=>x.key≠y.key)) {x y:MapEntry} (G:x∈l) (hy:y∈l) (e:x.key=y.key):x=y:=by
 obtain⟨i,F,rfl⟩:=MK G;obtain⟨j,D,rfl⟩:=MK hy;rcases Nat.lt_trichotomy i j with z|rfl|z
 ·exact absurd e (List.pairwise_iff_getElem.1 h i j F D z)
 ·rfl
 ·exact absurd e.symm (List.pairwise_iff_getElem.1 h j i D F z)
open Classical in
theorem HasV.entry {α:Type} {K M E:TypeId} {kv:α->Value} {w:World} {b n:Nat} {S:α->Option Value} {zv:Value} (hL:Go.WideMaps.KeyLaw prog K) (hM:prog.underlying M=some (.map K E)) (hz:∀w,(zeroValue E).run prog w=.ok zv w) (inj:∀x y,kv x=kv y->x=y) (h:HasV K kv w b n S) {x:α} {l:Lit} (hl:keyOf prog K (kv x)=some l) (hn:n<maxLen) :
  ∃w1 st,(Instr.mapEntry M (.map (some b)) (kv x)).run prog w=.ok (.tuple #[(S x).getD zv,goInt (st:Nat)]) w1/\w.grownBy w1 (some b)/\b<w1.heap.size /\
   ∀(w2:World) (val:Value),w2.heap[b]?=w1.heap[b]?->∃w3,(Instr.entryStore M (.map (some b)) (goInt (st:Nat)) val).run prog w2=.ok () w3/\w2.grownBy w3 (some b)/\HasV K kv w3 b (n+1) (fun y=>if y=x then some val else S y):=by
 have hK:=Maps.Keyed.of_law hL;have z:=h.look hK hM hz hl;have h':=fun val=>h.store hK hM inj hl val hn
 obtain⟨D,⟨es,clock,hb,F,m',rfl⟩,h2⟩:=id h;obtain⟨v0,st,n',f',b',J,c'⟩:=Go.WideElems.entry_then_store hL hM hz hb F hl;have d':∀(W:World) (ea:Array MapEntry) (ck:Nat) (o':Obj),W.heap[b]?=some (.map ea ck)->W.grownBy (setBlock W b o') (some b):=fun W ea ck o' hW=>⟨rfl,rfl,rfl,by simp[setBlock],fun i _ hi=>heap_setBlock_other hW _ (fun e=>hi (by rw[e]))⟩
 have k':=(Array.getElem?_eq_some_iff.1 hb).1;have e0:v0=(S x).getD zv:=by
  rcases Maps.fit_look false hK hM (hz w) hb F hl with ⟨hr,a',_⟩|⟨e1,y,hm,hk,hr,_⟩
  ·rw[hr]at z;injection z with z;rcases J with ⟨e2,Z,O,-⟩|⟨-,J⟩
   ·exact absurd O (a' e2 Z)
   ·rw[J];exact z
  ·rw[hr]at z;injection z with z;rcases J with ⟨e2,Z,O,j'⟩|⟨a',-⟩
   ·rw[j',<-z];have l':es.toList.Pairwise (fun x y=>x.key≠y.key):=((stamped_iff es clock).1 F.stamped).2.2;rw[Dt l' Z hm (O.trans hk.symm)];simp
   ·exact absurd hk (a' e1 hm)
 refine⟨_,st,by rw[<-e0];exact b',d' w _ _ _ hb,by simpa [setBlock] using k',fun w2 val I=>?_⟩;rw[heap_setBlock_same hb]at I;obtain⟨es',e',g',i'⟩:=c' w2 val I;refine⟨_,g',d' w2 _ _ _ I,?_⟩;obtain⟨w',G,hH,-⟩:=h' val;rw[i']at G;injection G with _ G;subst G;exact hH.same (by rw[heap_setBlock_same I,heap_setBlock_same hb])
end
theorem ko {w:World} {v:Value} {l:List Vl} (h:aV w v l) {b:Nat} (z:∀g,v.ownBlock=some g->g≠b) (i:Nat) (u:Value):aV (w.setCell ⟨b,i,none⟩ u) v l :=
 fg h fun _ g _ D=>LB w ⟨b,i,none⟩ u g (z g D)
def Ks (w:World) (x:Evt) (e:Ending) (W:World):Prop:=∃u,e=.returned (cJ x u)/\rC w.heap.size W u x.vals/\KY w W
theorem qL (x:Evt) (u:Value) (w:World) (hu:aV w u x.vals) (hn:x.vals.length<=1048576) :
  Calls prog 125 #[cJ x u] w (Ks w x):=by
 have HU:=jD hu;have ho:=fK hu;obtain⟨A,c,rfl,-⟩:=hu;unfold cJ;go_enter func125,ntmps125;go_wp2_with fail;refine aw fun W1 e1=>?_
 have J:KY w W1:=gb e1;have r0:W1.heap[w.heap.size]?=some (.cells [Value.int .i64 x.src,.int .i64 x.sq,.int .i64 x.ty,.int .i64 x.tm,.slice A x.vals.length c].toArray 68 (0,0)):=by rw[e1];exact aE (ap _ _ _ rfl)
 have r1:W1.heap[w.heap.size+1]?=some (.cells [Value.int .i64 0,.int .i64 0,.int .i64 0,.int .i64 0,.slice none 0 0].toArray 68 (0,0)):=by rw[e1];exact ap _ _ _ jS
 have b':w.heap.size+1<W1.heap.size:=by rw[e1];simp
 clear e1;refine (qa x.vals _ W1 (HU.out.stays aC J) hn).mono ?_;rintro e w2 ⟨u2,rfl,z,G⟩;have I:=ab J G;have D:=ao G r0;have h:=ao G r1;obtain⟨z,a'⟩:=z;obtain⟨A2,cq,rfl,-⟩:=id z;have HN:=jD z;have HG:=jD a';have HB:=jD I;obtain⟨F,hF⟩:=jE (w.heap.size+1);obtain⟨E,Z⟩:=jE w.heap.size;rw[hF]at h b';rw[Z]at D;have d':E≠F:=by omega
 have c':F≠E:=by omega
 have e':E<F:=by omega
 have HE:=jD Z;have HF:=jD hF;have h':=G.size;clear z a' I r0 r1 J G HU ho;rw[hF,Z];clear Z hF;have c0:=af D 0;have c1:=af D 1;have c2:=af D 2;have c3:=af D 3;have c4:=af D 4;have f4:=aq D 4;have d0:=af h 0;have d1:=af h 1;have d2:=af h 2;have d3:=af h 3;have d4:=af h 4;have g0:=aq h 0;have g1:=aq h 1;have g2:=aq h 2;have g3:=aq h 3;have g4:=aq h 4;simp only[LE,LC]at c0 c1 c2 c3 c4 d0 d1 d2 d3 d4;have g':E<w2.heap.size:=by omega
 have f':F<w2.heap.size:=by omega
 go_wp2_with fail;refine Lc (v:=cJ x (.slice A2 x.vals.length cq)) (by simp[results,results125,go_sem,cJ,ba,d0,d1,d2,d3,d4,g1,g2,g3,g4]) rfl ⟨_,rfl,⟨?_,fun g O=>⟨?_,?_⟩⟩,?_⟩
 ·have Z:∀g,(Value.slice A2 x.vals.length cq).ownBlock=some g->g≠E:=fun g O=>by have:=(HG.out g O).1;omega
  have hF:∀g,(Value.slice A2 x.vals.length cq).ownBlock=some g->g≠F:=fun g O=>by have:=(HG.out g O).1;omega
  exact ko (ko (ko (ko (ko (ko HN.out Z _ _) hF _ _) hF _ _) hF _ _) hF _ _) hF _ _
 ·have:=(HG.out g O).1;have:=HE.out;omega
 ·have:=(HG.out g O).2
  simpa using this
 ·have h1:=Nat.le_of_eq HE.out;have h2:w.heap.size<=F:=by have:=HE.out;omega
  exact aA (aA (aA (aA (aA (aA HB.out h1 _) h2 _) h2 _) h2 _) h2 _) h2 _
section
open Go.RowKit Go.Lib
attribute [local go_sem] Oper.semAt_some
def F7:Array Value:=#[.func (.func 246) #[] #[],.func (.func 247) #[] #[],.func (.func 248) #[] #[],.func (.func 249) #[] #[],.func (.func 250) #[] #[],.func (.func 251) #[] #[],.func (.func 251) #[] #[],.func (.func 251) #[] #[]]
theorem xN (w:World):KZ 184 #[] w (.agg F7):=by
 have h:∀(g:Nat) (W:World) (a:Addr),(store a (.func (.func g) #[] #[])).run prog W=stored prog W a (.func (.func g) #[] #[]) .plain:=fun g W a=>run_store prog W a _ .plain rfl
 go_enter func184,ntmps184;go_wp2;refine Lc (v:=.agg F7) ?_ rfl ⟨rfl,?_⟩
 ·simp[results,Tryz.f184,go_sem,F7]
 ·exact jB
def kv (s:Bs):Value:=.string ⟨(fd s).toArray⟩
theorem Ko (x y:Bs) (h:kv x=kv y):x=y:=by
 unfold kv at h;injection h with h;injection h with h;exact xx (jQ h)
theorem KT {s:Bs} (h:(fd s).length<=maxLen):keyOf prog 9 (kv s)=some (.string (⟨(fd s).toArray⟩:ByteArray).data.toList):=mx (by simpa [ByteArray.size] using h)
theorem vM:∀(s:Bs),(∀x∈s,(0<=x.1/\x.1<16)/\x.2<100)->(fd s).length<=6*s.length
 | [],_=>by simp[fd]
 | x::r,h=>by
  have h0:=h x (Lg ..);have G:=vM r fun y hy=>h y (Lh _ hy)
  obtain⟨j,z⟩:∃j:Nat,x.1=(j:Int):=⟨x.1.toNat,by omega⟩;have D:(itoa x.1).length<=2:=by rw[z];exact jz om
  have F:(itoa (x.2:Int)).length<=2:=jz om;rw[fd,Le,Lt,Le,Lt,Lt];omega
theorem subW {w z:World} {C:Nat} {x:Pt} {v vc:Value} {t1 t2 t3 t4:TypeId} (e1:z=(((((w.alloc (.cells #[.pointer (some ⟨C,0,none⟩)] t1)).alloc (.cells (aQ x v vc).toArray t2)).alloc (.cells #[.slice none 0 0] t3)).alloc (.cells #[.slice none 0 0] t3)).alloc (.map #[] 0)).alloc (.cells #[.map (some (w.heap.size+1+1+1+1))] t4)) :
  KY w z/\Boxed z w.heap.size t1 (.pointer (some ⟨C,0,none⟩))/\Cells z (w.heap.size+1) 0 (aQ x v vc)/\Boxed z (w.heap.size+1+1) t3 (.slice none 0 0)/\Boxed z (w.heap.size+1+1+1) t3 (.slice none 0 0)/\HasM 9 kv z (w.heap.size+1+1+1+1) 0 [] /\
   Boxed z (w.heap.size+1+1+1+1+1) t4 (.map (some (w.heap.size+1+1+1+1)))/\z.heap.size=w.heap.size+6:=by
 obtain⟨a1,G⟩:∃q,q=w.alloc (.cells #[.pointer (some ⟨C,0,none⟩)] t1):=⟨_,rfl⟩;obtain⟨a2,D⟩:∃q,q=a1.alloc (.cells (aQ x v vc).toArray t2):=⟨_,rfl⟩;obtain⟨Z,J⟩:∃q,q=a2.alloc (.cells #[.slice none 0 0] t3):=⟨_,rfl⟩;obtain⟨a4,I⟩:∃q,q=Z.alloc (.cells #[.slice none 0 0] t3):=⟨_,rfl⟩;obtain⟨a5,F⟩:∃q,q=a4.alloc (.map #[] 0):=⟨_,rfl⟩;rw[<-G,<-D,<-J,<-I,<-F]at e1;have s1:a1.heap.size=w.heap.size+1:=by rw[G];simp
 have s2:a2.heap.size=w.heap.size+1+1:=by rw[D];simp[s1]
 have s3:Z.heap.size=w.heap.size+1+1+1:=by rw[J];simp[s2]
 have s4:a4.heap.size=w.heap.size+1+1+1+1:=by rw[I];simp[s3]
 have s5:a5.heap.size=w.heap.size+1+1+1+1+1:=by rw[F];simp[s4]
 have b1:KY w a1:=by rw[G];exact ag _ _
 have b2:KY a1 a2:=by rw[D];exact ag _ _
 have b3:KY a2 Z:=by rw[J];exact ag _ _
 have b4:KY Z a4:=by rw[I];exact ag _ _
 have b5:KY a4 a5:=by rw[F];exact ag _ _
 have b6:KY a5 z:=by rw[e1];exact ag _ _
 have y1:Boxed a1 w.heap.size t1 (.pointer (some ⟨C,0,none⟩)):=by rw[G];exact Boxed.new w _ _
 have y2:Cells a2 (w.heap.size+1) 0 (aQ x v vc):=by rw[<-s1,D];exact kw _ _ _
 have y3:Boxed Z (w.heap.size+1+1) t3 (.slice none 0 0):=by rw[<-s2,J];exact Boxed.new _ _ _
 have y4:Boxed a4 (w.heap.size+1+1+1) t3 (.slice none 0 0):=by rw[<-s3,I];exact Boxed.new _ _ _
 have y5:HasM 9 kv a5 (w.heap.size+1+1+1+1) 0 []:=by rw[<-s4,F];exact gv _ _ _
 have y6:Boxed z (w.heap.size+1+1+1+1+1) t4 (.map (some (w.heap.size+1+1+1+1))):=by rw[<-s5,e1];exact Boxed.new _ _ _
 have up:∀{p q:World} {b:Nat} {t:TypeId} {v:Value},KY p q->Boxed p b t v->Boxed q b t v:=fun h hb=>(h.block _ hb.lt).trans hb
 have O:=ab (ab (ab b3 b4) b5) b6;exact⟨ab (ab b1 b2) O,up (ab b2 O) y1,dE y2 O,up (ab (ab b4 b5) b6) y3,up (ab b5 b6) y4,y5.below b6,y6,by rw[e1];simp[s5]⟩
def OutOk (n1 bo:Nat) (W:World) (L:List Bs):Prop:=∃v vs,Boxed W bo 183 v/\W.ownsRow n1 186 1 v L.length vs/\∀(j:Nat) s,L[j]?=some s->∃u,vs[j]?=some u/\SetIn (Own n1 (some bo) W) W u s
structure SubI (w:World) (n1 C:Nat) (Y:List Bs) (k:Nat) (W:World):Prop where
 bel:KY w W
 big:n1<=W.heap.size
 bc:Boxed W w.heap.size 180 (.pointer (some ⟨C,0,none⟩))
 rs:Boxed W (w.heap.size+1+1) 183 (.slice none 0 0)
 out:OutOk n1 (w.heap.size+1+1+1) W (bd (Y.take k))
 map:HasM 9 kv W (w.heap.size+1+1+1+1) (bd (Y.take k)).length (bd (Y.take k))
 bk:Boxed W (w.heap.size+1+1+1+1+1) 165 (.map (some (w.heap.size+1+1+1+1)))
theorem E7 {W W':World} {base:Nat} {e:TypeId} {size n:Nat} {v:Value} {xs:List Value} {row:Option Nat} (h:W.ownsRow base e size v n xs) (D:W.grownBy W' row) (hr:∀r,row=some r->∃o:Obj,W.heap[r]?=some o/\o.isCells=false):W'.ownsRow base e size v n xs:=by
 refine aT h fun g z=>?_
 rcases h.2 with ⟨rfl,-⟩|⟨g',cap,cur,rfl,-,hh,-⟩
 ·cases z
 ·cases z
  exact grownBy_keeps_cells D hr hh rfl
theorem OutOk.keep {n0 n1 bo:Nat} {W W':World} {L:List Bs} {row:Option Nat} (h:OutOk n1 bo W L) (z:W.grownBy W' row) (hk:bj n0 n1 (some bo) W W') (hr:∀r,row=some r->∃o:Obj,W.heap[r]?=some o/\o.isCells=false):OutOk n1 bo W' L:=by
 obtain⟨v,vs,F,G,D⟩:=h;exact⟨v,vs,bP F z hr,E7 G z hr,fun j s hs=>by obtain⟨u,hu,hs⟩:=D j s hs;exact⟨u,hu,SetIn.keepO hk hs⟩⟩
theorem SubI.keep {w W W':World} {n1 C k:Nat} {Y:List Bs} {row:Option Nat} (h:SubI w n1 C Y k W) (G:w.heap.size+6<=n1) (D:W.grownBy W' row) (hr:∀r,row=some r->n1<=r/\∃o:Obj,W.heap[r]?=some o/\o.isCells=false):SubI w n1 C Y k W':=by
 have z:∀r,row=some r->∃o:Obj,W.heap[r]?=some o/\o.isCells=false:=fun r e=>(hr r e).2
 have hk:bj w.heap.size n1 (some (w.heap.size+1+1+1)) W W':=jU (by have:=h.big;omega) D (fun r e=>⟨by have:=(hr r e).1;omega,fun F=>by injection F with F;have:=(hr r e).1;omega,.inr (hr r e).2⟩) (fun b e=>by injection e with e;have:=h.big;omega);exact⟨h.bel.trans hk.below,Lf h.big D.size,bP h.bc D z,bP h.rs D z,h.out.keep D hk z,h.map.kept D (fun e=>by have:=(hr _ e.symm).1;omega),bP h.bk D z⟩
theorem SubI.same {w W:World} {n1 C k z:Nat} {Y:List Bs} (h:SubI w n1 C Y k W) (e:bd (Y.take z)=bd (Y.take k)):SubI w n1 C Y z W :=
 ⟨h.bel,h.big,h.bc,h.rs,by rw[e];exact h.out,by rw[e];exact h.map,h.bk⟩
theorem B3 {w D F w8:World} {n1 C k B4:Nat} {Y:List Bs} {s:Bs} {u v v8:Value} {o:Obj} {vs:List Value} (h:SubI w n1 C Y k D) (hn:w.heap.size+6<=n1) (x':n1<=B4)
  (f':bd (Y.take (k+1))=bd (Y.take k)++[s]) (hu:SetIn (Own n1 (some (w.heap.size+1+1+1)) D) D u s)
  (hM:HasM 9 kv F (w.heap.size+1+1+1+1) ((bd (Y.take k)).length+1) (bd (Y.take k)++[s])) (hg:D.grownBy F (some (w.heap.size+1+1+1+1)))
  (t':∃o:Obj,D.heap[w.heap.size+1+1+1+1]?=some o/\o.isCells=false)
  (c':Boxed D (w.heap.size+1+1+1) 183 v) (O:D.ownsRow n1 186 1 v (bd (Y.take k)).length vs) (h':∀(j:Nat) s,(bd (Y.take k))[j]?=some s->∃u,vs[j]?=some u/\SetIn (Own n1 (some (w.heap.size+1+1+1)) D) D u s)
  (G:w8.ownsRow n1 186 1 v8 ((bd (Y.take k)).length+1) (vs++[u])) (Z:(F.alloc o).grownBy w8 v.ownBlock) (j':v8.ownBlock=v.ownBlock\/v8.ownBlock=some (F.alloc o).heap.size) :
  KeepsFrom B4 D (w8.setCell ⟨w.heap.size+1+1+1,0,none⟩ v8)/\bj w.heap.size n1 (some (w.heap.size+1+1+1)) D (w8.setCell ⟨w.heap.size+1+1+1,0,none⟩ v8)/\SubI w n1 C Y (k+1) (w8.setCell ⟨w.heap.size+1+1+1,0,none⟩ v8):=by
 obtain⟨S,hS⟩:=jF w.heap.size;have e':=h.big;have I:∀g,v.ownBlock=some g->n1<=g:=fun g e=>(ah O e).1
 have q':∀g,v8.ownBlock=some g->n1<=g:=fun g e=>(ah G e).1
 have l':bj w.heap.size n1 (some (w.heap.size+1+1+1)) D F:=jU om hg (fun r e=>by injection e with e;subst e;exact⟨by omega,fun e2=>by injection e2 with e2;omega,.inl om⟩) (fun b e=>by injection e with e;omega);have y':=hg.size;have r':bj w.heap.size n1 (some (w.heap.size+1+1+1)) F (F.alloc o):=cM (ag _ _) om (fun b e=>by injection e with e;omega);have u':(F.alloc o).heap.size=F.heap.size+1:=by simp
 have g':∀{b:Nat} {t:TypeId} {z:Value},b≠w.heap.size+1+1+1+1->Boxed D b t z->Boxed (F.alloc o) b t z:=fun J hb=>(hb.kept hg (fun e=>by injection e with e;exact J e)).alloc o
 have m':bj w.heap.size n1 (some (w.heap.size+1+1+1)) (F.alloc o) (w8.setCell ⟨w.heap.size+1+1+1,0,none⟩ v8) :=
  sJ om om (g' om c').cell om Z (fun e=>by have:=I _ e;omega) I j' (fun g e=>(ah G e).2)
 have a':=bW l' (bW r' m');have k':∀{b:Nat} {t:TypeId} {z:Value},b<n1->b≠w.heap.size+1+1+1+1->Boxed D b t z->Boxed w8 b t z:=fun b' J hb=>(g' J hb).kept Z (fun e=>by have:=I _ e.symm;omega)
 have d':∀{b:Nat} {t:TypeId} {z:Value},b<n1->b≠w.heap.size+1+1+1+1->b≠w.heap.size+1+1+1->Boxed D b t z->Boxed (w8.setCell ⟨w.heap.size+1+1+1,0,none⟩ v8) b t z:=fun b' J i' hb=>(k' b' J hb).kept (grownBy_setCell' _ _ _) (fun e=>by injection e with e;exact i' e)
 refine⟨?_,a',⟨h.bel.trans a'.below,Lf e' a'.below.size,d' om om om h.bc,d' om om om h.rs,?_,?_,d' om om om h.bk⟩⟩
 ·have p':KeepsFrom B4 D w8:=by
   refine⟨by have:=Z.size;omega,fun q ob hq e hc=>?_⟩;have s':=(Array.getElem?_eq_some_iff.1 e).1;have e6:F.heap[q]?=some ob:=(hg.block q s' (fun e2=>by injection e2 with e2;omega)).trans e;have e7:(F.alloc o).heap[q]?=some ob:=((ag F o).block q om).trans e6;refine (Z.block q om (fun e2=>?_)).trans e7;rcases O.2 with ⟨rfl,-⟩|⟨g,cap,cur,rfl,-,hh,-⟩
   ·cases e2
   ·cases e2
    rw[e]at hh
    cases hh
    cases hc
  exact p'.trans ((KeepsOthers.setCell _ _ _).from _)
 ·rw[f'];have hlen:vs.length=(bd (Y.take k)).length:=by have:=O.1;simpa using this
  refine⟨v8,vs++[u],(k' om om c').set v8,?_,fun j t ht=>?_⟩
  ·rw[Le,Lo];exact aT G fun g e=>LB _ _ _ g (by have:=q' g e;show g≠w.heap.size+1+1+1;omega)
  ·rcases LY j (bd (Y.take k)).length with b'|hge
   ·rw[LR b']at ht;obtain⟨z,hz,n'⟩:=h' j t ht;exact⟨z,by rw[LR om];exact hz,SetIn.keepO a' n'⟩
   ·rw[Mf hge]at ht;have hj:j=(bd (Y.take k)).length:=by
     have:=(List.getElem?_eq_some_iff.1 ht).1;simp at this;omega
    subst hj;simp at ht;subst ht;exact⟨u,by rw[<-hlen];simp,SetIn.keepO a' hu⟩
 ·rw[f',Le,Lo];exact ((hM.below (ag F o)).kept Z (fun e=>by have:=I _ e.symm;omega)).kept (grownBy_setCell' _ _ _) (fun e=>by injection e with e;omega)
theorem Dl {Y:List Bs} {k:Nat} {s:Bs} (h:Y[k]?=some s):bd (Y.take (k+1))=eA (bd (Y.take k)) s:=by rw[bZ h,zz]
theorem CX:(prog.info? 186).map (fun i=>(i.zero,i.size,i.bytes))=some (some (.slice none 0 0),1,24):=kr
theorem xY {n1 S:Nat} {W:World} {v:Value} {L:List Bs} {vs:List Value} {B:Option Nat} (O:S<=n1) (F:W.ownsRow n1 186 1 v L.length vs) (I:∀(j:Nat) s,L[j]?=some s->∃u,vs[j]?=some u/\SetIn (Own n1 B W) W u s):SetsIn (fun q=>S<=q) W v L:=by
 by_cases hp:L.length=0
 ·have hL:L=[]:=L3 hp;subst hL;rcases F.2 with ⟨rfl,_⟩|⟨g,cap,cur,rfl,G,D,h,z,_⟩
  ·exact⟨none,0,rfl,Ld _,Lb _,fun k p hk=>by simp at hk⟩
  ·exact⟨_,cap,rfl,h,z,fun k p hk=>by simp at hk⟩
 ·obtain⟨g,cap,spare,rfl,G,D,h,z⟩:=lH F om;refine⟨_,cap,rfl,h,z,fun k p hk=>?_⟩;obtain⟨u,hu,hs⟩:=I k p hk;refine⟨g,0,u,rfl,by omega,?_,hs.mono fun b J=>by have:=J.1;omega⟩;rw[Lu,af D,LR (List.getElem?_eq_some_iff.1 hu).1];exact hu
theorem vL (V:List Int) (l:List Evt) (x:Pt) (b:Bs) (i:Nat) (hG:GoodQ V l.length x) (O0:jY V l.length) (K4:l.length<=99) (hB:BOk i b) (hi:i<=l.length) (jo g:Nat) (Y1:x.op=(jo:Int)) (Q0:jo<8) (hg:F7[jo]?=some (.func (.func g) #[] #[]))
  (eg:∀args W,(callFunc g args).run prog W=.ok (.enter g args) W) (hF:Bz g l x b i):xF l x b i:=by
 intro d e C v vc vl u w Y0 X' V' hx S' hu;have A1:ScnAt l w C vl:=⟨Y0,X',V'⟩;have g':=jD (fun (W:World) (h:KY w W)=>hF d e C v vc vl u w W A1 hx S' hu h);have H2:=jD (fun (W:World) (h:KY w W)=>aa h X');have E1:=jD (fun (W:World)=>xN W);have R2:∀W,(Instr.index 252 (.agg F7) (KW x.op)).run prog W=.ok (.func (.func g) #[] #[]) W:=fun W=>by
  rw[Y1];exact I3 W underlying252 Tryz.sizeOf251 Tryz.isAgg251 Q0 hg
 obtain⟨Al,cl,rfl,-⟩:=id V';obtain⟨Ab,cb,rfl,-⟩:=id hu;obtain⟨A,c,rfl,-⟩:=id hx;obtain⟨Ac,cc,rfl,-⟩:=id S';clear Y0 X' V' hx S' hu A1 hF hg Q0 Y1;unfold ptV at g' ⊢;refine (Ng (n:=5)).1 ?_;refine callsIn_of_wp_marks func117 rfl trivial ?_ rfl;simp only[ntmps117,MM,Lt,MG,Nat.reduceAdd,Nat.reduceSub,Nh,Ni,Nj,Nk,MJ,Mr];have N3:=@run_makeMap prog;gi_wp2;clear N3;refine wpIn_wide.2 ?_;refine aP fun w1 e1=>?_
 obtain⟨M1,y1,y2,y3,y4,y5,y6,s6⟩:=subW (x:=x) (v:=.slice A x.args.length c) (vc:=.slice Ac x.cond.args.length cc) e1;have W3:=jD M1;have p0:KX w1 ((w.heap.size+1)) 0 (KW x.op):=y2 0 _ rfl;have T':Hid (Cells w1 (w.heap.size+1) 0 (aQ x (.slice A x.args.length c) (.slice Ac x.cond.args.length cc))):=jD y2;have O:Hid (Boxed w1 w.heap.size 180 (.pointer (some ⟨C,0,none⟩))/\Boxed w1 (w.heap.size+1+1) 183 (.slice none 0 0)/\Boxed w1 (w.heap.size+1+1+1) 183 (.slice none 0 0)/\HasM 9 kv w1 (w.heap.size+1+1+1+1) 0 [] /\
   Boxed w1 (w.heap.size+1+1+1+1+1) 165 (.map (some (w.heap.size+1+1+1+1)))):=jD ⟨y1,y3,y4,y5,y6⟩
 have S3:=jD s6;have W2:=K8 w1 ⟨w.heap.size+1,_,none⟩ p0;obtain⟨nb,Z0⟩:∃n,n=b.length:=⟨_,rfl⟩;obtain⟨na,A2⟩:∃n,n=x.args.length:=⟨_,rfl⟩;obtain⟨nx,T1⟩:∃n,n=x.cond.args.length:=⟨_,rfl⟩;rw[<-Z0]at g' ⊢;rw[<-A2]at g' T' ⊢;rw[<-T1]at g' T' ⊢;obtain⟨Y,hY⟩:=jF (mt l x b i);have HV:Hid (∀s∈Y,SetV V i l.length s):=jD fun s hs=>H9 hG (by rw[<-hY];exact hs)
 have S1:Hid (∀k,(bd (Y.take k)).length<=4096):=jD fun k=>Lf (CZ Y k) (by rw[hY,<-ql l hG.okA];exact wK hG b i)
 have X0:Hid (bN l x b i=bd Y):=jD (by rw[hY,<-ql l hG.okA]);rw[<-hY]at g';have Y2:=jD O0;clear e1 y1 y2 y3 y4 y5 y6 s6 M1 Z0 A2 T1 hY hG O0;refine rgn (fun W:World=>KY w1 W/\KX W (w.heap.size+1) 0 (KW x.op)) (Below w1.heap.size w1) (fun W hW=>⟨hW,aa hW p0⟩) ((La _ _).drew) (fun Z' c'=>?_);refine tkH [1,2] ?_;refine nxH 0 (fun K hK=>?_)
 focus (go_simp;refine (E1.out _).mono ?_;rintro e w2 ⟨rfl,P0⟩;have m':KY w1 w2:=ab c'.1 P0)
 refine hK.out _ _ (Z' _ m') (fun c'=>?_);clear hK K;refine nxH 3 (fun K hK=>?_)
 go_simp
 refine hK.out _ _ (Z' _ jB) (fun c'=>?_);clear hK K;refine tkH [4] ?_;refine wpAnyH_done kr (NoPanic.normal ?_) _;rotate_left 1;have V0:=jD (ab W3.out m');have C':=m';obtain⟨q0,q1,q2,q3,q4,q5,q6,q7,q8,q9,H3,Z2,X2,Q2⟩:=dv (dE T'.out C');have zc:KX w2 w.heap.size 0 (.pointer (some ⟨C,0,none⟩)):=Boxed.cell (t:=180) ((C'.block _ O.out.1.lt).trans O.out.1);have N2:=K8 w2 ⟨_,_,none⟩ zc;have Q3:=K8 w2 ⟨(w.heap.size+1),_,none⟩ q0;have s':=jD C';clear c' Z' m' P0 p0 W2 C' R2 E1;gi_wp2;refine⟨trivial,callsIn_wide.2 ?_⟩;refine (g'.out w2 V0.out).mono ?_;rintro e4 w4 ⟨gf,lb,rfl,P1,n',S0⟩;have N0:w.heap.size+6<=w2.heap.size:=by have:=s'.out.size;have:=S3.out;omega
 have q':∀{b:Nat} {t:TypeId} {v:Value},Boxed w1 b t v->Boxed w2 b t v:=fun hb=>(s'.out.block _ hb.lt).trans hb
 have t':∀{b:Nat} {t:TypeId} {v:Value},Boxed w2 b t v->Boxed w4 b t v:=fun hb=>(n'.block _ hb.lt).trans hb
 have u':fE w2 (some (w.heap.size+1+1+1)):=fun k ⟨b',v',e1,hc,hv⟩=>by
  injection e1 with e1;subst e1;rw[(q' O.out.2.2.1).cell]at hc;injection hc with hc;subst hc
  cases hv
 have L':=jD (S0 w2.heap.size (some (w.heap.size+1+1+1)) om (Ld _) u' (fun k e=>by injection e with e;omega));have K1:Hid (SubI w w2.heap.size C Y 0 w4):=jD ⟨ab V0.out n',n'.size,t' (q' O.out.1),t' (q' O.out.2.1),⟨_,[],t' (q' O.out.2.2.1),⟨rfl,.inl ⟨rfl,rfl⟩⟩,fun j s hs=>by simp[bd]at hs⟩,(O.out.2.2.2.1.below s'.out).below n',t' (q' O.out.2.2.2.2)⟩;have S2:=jD P1;have HN:=jD (And.intro N0 n'.size);obtain⟨n1,M'⟩:∃n,n=w2.heap.size:=⟨_,rfl⟩;rw[<-M']at K1 L' HN;clear S0 P1 n' u' N0 q' t' q0 q1 q2 q3 q4 q5 q6 q7 q8 q9 H3 Z2 X2 Q2 zc N2 Q3 O M' g';gi_wp2;refine DL fun a0 e0=>?_
 refine Kh (n:=5) (gf:=gf) (lb:=lb) (by rw[e0];rfl) S2.out L'.out
  bW (kA (by have:=HN.out;omega) (fun b h=>by injection h with h;have:=HN.out;omega)) (La _ _) (fun x v=>Hu (fun b h=>by injection h with h;have:=HN.out;exact⟨by omega,by omega⟩) x v) (fun x v W h=>Eh h)
  (SubI w n1 C Y) (fun _ _ _=>False)
  (fun s X Z row h hg hr=>h.keep HN.out.1 hg (fun r e=>⟨by have:=(hr r e).1;have:=HN.out.2;omega,(hr r e).2⟩))
  (fun _ _ _ _ _ h _ _=>h) K1.out
  (fun x v a' W=>∃u1,v=#[u1]/\a'={ tmps:=(a0.tmps.setIfInBounds 25 u1).setIfInBounds 12 u1,defers:=[] }) (fun x v a' _ _ _ _ h _ _=>h) ?assign ?body ?done ?stop
 case assign =>
  intro m lo q s v W K hl hs hi p' hK;obtain⟨u1,rfl,X1⟩:=id p';obtain⟨Au,cu,rfl⟩:=X1.form;have HK:=jD hK;have N1:=jD (And.intro hi p');clear hi p' hK hs X1;rw[e0];gi_wp2;refine KU fun W' e'=>?_
  subst e';exact HK.out _ _ (KeepsFrom.refl _ _) (gC _ _ _ _) N1.out.1 N1.out.2 ⟨_,rfl,by rw[e0];rfl⟩
 case body =>
  rintro m lo k s v a' W hl-hs hi p' ⟨u1,rfl,rfl⟩;obtain⟨u2,e2,D'⟩:=id p';injection e2 with e2;injection e2 with e2;subst e2;have x':=HV.out s (Li hs);have i':∀x∈s,(0<=x.1/\x.1<16)/\x.2<100:=fun x hx=>⟨Y2.out.var _ (x'.var x hx),by have:=(x'.ok.2.2 x hx).2;omega⟩
  have B2:=x'.n63;have G':=jD (yw s u1 W D'.is i' om x'.ok.1);have R0:=vM s i';have Q1:keyOf prog 9 (kv s)=some _:=KT (s:=s) (by unfold maxLen;omega);have Z1:=jD Q1;have P':Hid (SetIn (Own n1 (some (w.heap.size+1+1+1)) W) W u1 s):=jD D';obtain⟨Au,cu,rfl⟩:=D'.form;have HI:=jD hi;have A0:=jD (Dl hs);have J:Hid (w.heap.size+6<=n1/\n1<=W.heap.size):=jD ⟨HN.out.1,hi.big⟩;obtain⟨ns,K0⟩:∃n,n=s.length:=⟨_,rfl⟩;rw[<-K0]at G' P' ⊢;clear hi p' hs D' K0 x' i' B2 R0 Q1;rw[e0];simp only[Lw,Lj,Lk];gi_wp2;refine⟨trivial,fun h=>by simp[Fence.wide]at h,CallsIn.inRound _ (callsIn_wide.2 ?_)⟩;refine G'.out.mono ?_;rintro e5 W5 ⟨rfl,E'⟩;have y':SubI w n1 C Y k W5:=HI.out.keep J.out.1 (bx E' none) (fun r e=>by cases e);have Y':bj w.heap.size n1 (some (w.heap.size+1+1+1)) W W5:=cM E' (by have:=J.out;omega) (fun b e=>by injection e with e;have:=J.out;omega);have T0:=SetIn.keepO Y' P'.out;have d':=jD y';have R1:=jD Y';have R3:=jD T0;have U1:Hid (KeepsFrom w4.heap.size W W5):=jD (bH E');obtain⟨r,hr,R'⟩:=y'.map.look dR underlying165 Z1.out;have HR:=jD hr;have zk:=y'.bk.cell;have R0:=y'.bk.lt;unfold kv at R';clear E' Y' T0 hr y';have O1:∃o:Obj,W5.heap[w.heap.size+1+1+1+1]?=some o/\o.isCells=false:=by
   obtain⟨D,⟨es,clock,O3,-⟩,-⟩:=d'.out.map;exact⟨_,O3,rfl⟩
  have K2:=jD O1;clear O1
  cases r with
  | true =>
   have I':=HR.out.1 rfl;have X3:Hid (SubI w n1 C Y (k+1) W5):=jD (d'.out.same (by rw[A0.out];unfold eA;rw[K7 (by rw[ND];exact I')]));clear I';gi_wp2;exact⟨U1.out,R1.out,X3.out⟩
  | false =>
   have V1:s∉bd (Y.take k):=fun hm=>by have:=HR.out.2 hm;cases this
   have U0:Hid (bd (Y.take (k+1))=bd (Y.take k)++[s]):=jD (by rw[A0.out];unfold eA;rw[K6 (by rw[ND];exact V1)]);have W1:(bd (Y.take k)).length+1<=4096:=by have h:=S1.out (k+1);rw[U0.out,Le]at h;simpa using h
   obtain⟨W6,O2,H0,F⟩:=d'.out.map.store dR underlying165 Ko Z1.out (by unfold maxLen;omega);obtain⟨vo,vs,k',z,I⟩:=d'.out.out;obtain⟨Ao,co,rfl⟩:=ay z;have f':Boxed W6 (w.heap.size+1+1+1) 183 (.slice Ao (bd (Y.take k)).length co):=k'.kept F (fun e=>by injection e with e;omega);have h':W6.ownsRow n1 186 1 (.slice Ao (bd (Y.take k)).length co) (bd (Y.take k)).length vs:=aT z fun g e=>F.block g (ah z e).2 (fun e2=>by injection e2 with e2;have:=(ah z e).1;have:=J.out;omega)
   have H':Boxed W6 w.heap.size 180 (.pointer (some ⟨C,0,none⟩)):=d'.out.bc.kept F (fun e=>by injection e with e;omega);have z':KY w W6:=d'.out.bel.trans ⟨F.os,F.tape,F.output,F.size,fun q hq=>F.block q (by have:=d'.out.big;have:=J.out;omega) (fun e=>by injection e with e;omega)⟩;have O':=jD (fun (w8:World) (v8:Value) (o:Obj) G j' hloc=>B3 (B4:=w4.heap.size) (w8:=w8) (v8:=v8) (o:=o) d'.out J.out.1 HN.out.2 U0.out R3.out H0 F K2.out k' z I G j' hloc);have A4:=F.size;have U2:n1<=W6.heap.size:=by have:=d'.out.big;omega
   obtain⟨nL,r'⟩:∃n,n=(bd (Y.take k)).length:=⟨_,rfl⟩;rw[<-r']at W1 f' h' O';have J':=jD h';have P3:=jD f';have T2:=jD H';have l':=jD z';have zo:=f'.cell;have P2:=f'.lt;have hle:¬(4096:Int)<(nL:Int)+1:=by omega
   have H4:¬4096<nL+1:=by omega
   obtain⟨i0,U3,V3,V2,A3⟩:=LD CX;unfold kv at O2;clear V1 H0 F k' z I f' h' H' z' r' HR A0;gi_wp2_with (gi_at_builtin;refine mK _ rfl (.tmp 33) (.tmp 35) 183 rfl n1 186 i0 _ 1 24 underlying183 U3 V3 V2 A3 rfl dc (.slice Ao nL co) nL vs rfl (aj J'.out (ag _ _)) (some ⟨W6.heap.size,0,none⟩) 1 1 [.slice Au ns cu] rfl (bE _ [.slice Au ns cu] _ 1 1 _ jS rfl (by simp[Value.oneCell'])) (by unfold maxLen;omega) om (by simp;omega) ?_;intro v8 w8 G j' A';have U':=jD (O'.out w8 v8 _ G j' A');have F':∀g,(Value.slice Ao nL co).ownBlock=some g->n1<=g:=(fun g e=>(ah J'.out e).1);have y8:Boxed w8 (w.heap.size+1+1+1) 183 (.slice Ao nL co):=((P3.out.alloc _).kept j' (fun e=>by have:=F' _ e.symm;have:=J.out;omega));have c8:=y8.cell;have f8:=y8.frozen;have l8:=y8.lt;have x8:w8.cell? ⟨w.heap.size,0,none⟩=some (.pointer (some ⟨C,0,none⟩)):=((T2.out.alloc _).kept j' (fun e=>by have:=F' _ e.symm;have:=J.out;omega)).cell;have u8:w8.cell? ⟨C,1,none⟩=some (.bool false):=H2.out w8 (l'.out.trans ((ag W6 _).mono l'.out.size |>.trans (am j' (by simp;omega) (fun g h=>by have:=F' g h;have:=J.out;omega))));obtain⟨A8,k8,rfl⟩:=ay G;clear G j' A' F' y8);exact⟨U1.out.trans U'.out.1,bW R1.out U'.out.2.1,U'.out.2.2⟩
 case done =>
  rintro D W hD hi hK;have HK:=jD hK;have T3:=hi;obtain⟨vo,vs,k',z,I⟩:=hi.out;rw[LX]at z I;obtain⟨Ao,co,rfl⟩:=ay z;have N':Hid (SetsIn (fun q=>n1<=q) W (.slice Ao (bd Y).length co) (bd Y)):=jD (xY (Ld _) z I);have zo:=k'.cell;have P2:=k'.lt;have zr:=hi.rs.cell;have fr:=hi.rs.frozen;have rl:=hi.rs.lt;have Y3:=jD hi.rs;have l':=jD hi.bel;have Z3:=jD hi.big;obtain⟨nL,r'⟩:∃n,n=(bd Y).length:=⟨_,rfl⟩;rw[<-r']at N' zo;clear hi T3 k' z I r' hK;rw[e0];gi_wp2_with fail;have B':=(KeepsOthers.setCell W ⟨w.heap.size+1+1,0,none⟩ (.slice Ao nL co)).same D _ HK.out rfl;refine⟨by simp,.inl ⟨_,_,rfl,run_takeDeferred B',?_⟩⟩;have q:=Y3.out.set (.slice Ao nL co);have hd:=(q.kept (grownBy_putObj' _ D (.deferred none)) (by intro h;cases h;have h2:(World.setCell _ _ _).heap[w.heap.size+1+1]?=_:=q;rw[B']at h2;cases h2)).cell;have K3:KY w ((W.setCell ⟨w.heap.size+1+1,0,none⟩ (.slice Ao nL co)).putObj D (.deferred none)):=(aA l'.out om _).trans (belowK_b (w:=w) (Ld _) _ D _ _ (by have:=HN.out;omega) B' rfl rfl);refine⟨.slice Ao nL co,?_,_,rfl,?_,K3⟩
  ·simp[results,Tryz.f117,go_sem,hd]
  ·rw[X0.out];have E2:=bW (sl (n0:=w.heap.size) (n1:=n1) (B:=none) W (b:=w.heap.size+1+1) (i:=0) om (by have:=HN.out;omega) jS (.slice Ao nL co)) (kA (w:=w) (n1:=n1) (B:=none) (Ld _) (fun b h=>by cases h) _ D _ (.deferred none) (by have:=HN.out;omega) B' rfl rfl);exact (SetsIn.keepO E2 (N'.out.mono fun q hq=>⟨hq,pO _ _⟩)).mono fun q hq=>by have:=hq.1;have:=HN.out;omega
 case stop=>rintro D c k W hD hk h;exact h.elim
end
section
open Go.RowKit Go.Lib
theorem CN (V:List Int) (l:List Evt) (z:jY V l.length) (F:l.length<=99) (x:Pt) (hx:ptN x<=1048576) (D:GoodQ V l.length x) (hA:∀a∈x.args,ls l a) (hr:x.op=1->∀a c r,x.args=a::c::r->ls l (gj x (c::r))) :
  ∀(m:Nat) (b:Bs) (i:Nat),l.length-i<=m->BOk i b->i<=l.length->xF l x b i:=by
 intro m
 induction m using Nat.strongRecOn with
 | _ m ih =>
  intro b i hm J G;have hR:∀I j,i<j->BOk j I->j<=l.length->xF l x I j:=fun I j h1 h2 h3=>ih (l.length-j) om I j (Ld _) h2 h3
  have a':=D.op;have hN:sh x.cond:=⟨D.good.self.2,D.fin⟩;have O:=z.len;have Z:x.op=0\/x.op=1:=by omega
  rcases Z with h|h
  ·exact vL V l x b i D z F J G 0 246 h dc rfl (enters_of func246 kr rfl) (DS l x b i h J G O hN).own
  ·exact vL V l x b i D z F J G 1 247 h dc rfl (enters_of func247 kr rfl) (Hd V l x b i D z h J G hA (hr h)).own
theorem Ia (V:List Int) (l:List Evt) (G:jY V l.length) (D:l.length<=99):∀(N:Nat),N<=1048576->∀x,ptN x<=N->GoodQ V l.length x->ls l x:=by
 intro N
 induction N with
 | zero=>intro _ x h;have:=dm x;omega
 | succ N I =>
  intro hN x hx F;have he:=dm x;have Z:∀a∈x.args,ls l a:=fun a J=>I om a (by have:=qW J;omega) (F.arg J)
  have hr:x.op=1->∀a c r,x.args=a::c::r->ls l (gj x (c::r)):=fun ho a c r z=>by
   refine I om _ ?_ (F.rest ho z);have O:=dm (gj x (c::r));have h2:=dm a;rw[eK]at O;rw[z,aU]at he;omega
  exact fun b i hB hi=>CN V l G D x om F Z hr l.length b i om hB hi
end
end Go.Proofs.YtokconodddedhaaGreatDoor
