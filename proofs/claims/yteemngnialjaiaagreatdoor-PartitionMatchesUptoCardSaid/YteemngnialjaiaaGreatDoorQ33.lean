/- Part. -/
import Derived.StringKeys
import Derived.WideKeyEntry
import Derived.Test.YteemngnialjaiaaGreatDoorQ27
set_option maxRecDepth 100000
set_option maxHeartbeats 16000000
set_option linter.unusedVariables false
set_option linter.unusedSimpArgs false
namespace Go.Proofs.YteemngnialjaiaaGreatDoor
open Go.Proofs.Tryz Go.RowKit
variable {α:Type}{K M:TypeId}{w w' wr:World}{b:Nat}{row B:Option Nat}{l ks I:List Vl}{v zv u a' J:Value}{y:DataW Value×List MemPlace}{E:Vl->List EV}{S:Vl->Option Value}{key:List Int}{pre:List Evt}{F:Bs->Nat->List Bs}{Z:List Value}
section
def HasM{α:Type}(K:TypeId)(kv:α->Value)(w:World)(b n:Nat)(pre:List α):Prop:=∃D,w.ownsMap prog K Du b n D /\
 ∀(x:α) l,keyOf prog K (kv x)=some l->(Maps.has D l=true↔x∈pre)
section
variable {kv:α->Value}{n:Nat}{pre:List α}
theorem HasM.kept(h:HasM K kv w b n pre)(Z:w.grownBy w' row)(I:some b≠row):HasM K kv w' b n pre:=by
 obtain⟨D,h1,J⟩:=h;exact⟨D,h1.kept Z I,J⟩
theorem HasM.lt(h:HasM K kv w b n pre):b<w.heap.size:=by
 obtain⟨D,h1,_⟩:=h;exact h1.lt
theorem HasM.below(h:HasM K kv w b n pre)(I:OD w w'):HasM K kv w' b n pre:=h.kept (aE I none) jS
theorem HasM.look(hK:Maps.Keyed prog K)(hM:prog.underlying M=some (.map K 4))(h:HasM K kv w b n pre){x:α}{l:Lit}(hl:keyOf prog K (kv x)=some l) :
  ∃r,(r=true↔x∈pre)/\(Instr.lookup M (.map (some b)) (kv x) false).run prog w=.ok (.bool r) w:=by
 obtain⟨D,⟨es,clock,hb,F,_,rfl⟩,h2⟩:=h;have Z:=h2 x l hl;rcases Maps.fit_look false hK hM (LP w) hb F hl with ⟨I,_,J⟩|⟨e0,y,_,_,I,hRv,J,_⟩
 ·rw[Maps.has_false_of_atKey J]at Z;exact⟨false,Z,I⟩
 ·rw[Maps.has_true_of_atKey J]at Z;have:=xu hRv;rw[this]at I;exact⟨true,Z,I⟩
theorem HasM.store(Z:Maps.Keyed prog K)(hM:prog.underlying M=some (.map K 4))(inj:∀x y,kv x=kv y->x=y)(h:HasM K kv w b n pre){x:α}{l:Lit}(hl:keyOf prog K (kv x)=some l)(hn:n<maxLen) :
  ∃w',(Instr.mapUpdate M (.map (some b)) (kv x) (.bool true)).run prog w=.ok () w'/\HasM K kv w' b (n+1) (pre++[x])/\w.grownBy w' (some b):=by
 obtain⟨D,h1,h2⟩:=h;obtain⟨w',I,r1,r2⟩:=h1.update Z hM hn hl (val:=.bool true) (d:=.lit (.bool true)) (ps:=[]) rfl;refine⟨w',I,⟨_,r1,fun y m hm=>?_⟩,r2⟩;have h3:=h2 y m hm;rw[Qg,QA]
 by_cases e:m=l
 ·subst e;have:=inj _ _ (Z.inj hm hl);rw[Maps.has_put_same h1.isMap (Z.key hm)];simp[this]
 ·rw[Maps.has_put_other e,h3];have J:y≠x:=fun e2=>by
   subst e2;exact e (Pn (hm.symm.trans hl))
  simp[J]
end
def NS:Value->Option (DataW Value × List MemPlace):=fun v=>some (.held v,[])
theorem KY(h:NS v=some y):y.1=DataW.held v:=by
 unfold NS at h;rw[<-Pn h]
theorem FW{a b:Value}(h:(DataW.held a:DataW Value)=DataW.held b):a=b:=by
 cases h
 rfl
def HasV{α:Type}(K:TypeId)(kv:α->Value)(w:World)(b n:Nat)(S:α->Option Value):Prop:=∃D,w.ownsMap prog K NS b n D /\
 ∀(x:α) l,keyOf prog K (kv x)=some l->∀z,D.atKey l z=(match S x with|some v=>DataW.held v|none=>z)
section
variable {E:TypeId}{kv:α->Value}{n:Nat}{S:α->Option Value}
theorem HasV.kept(h:HasV K kv w b n S)(Z:w.grownBy w' row)(I:some b≠row):HasV K kv w' b n S:=by
 obtain⟨D,h1,J⟩:=h;exact⟨D,h1.kept Z I,J⟩
theorem HasV.lt(h:HasV K kv w b n S):b<w.heap.size:=by
 obtain⟨D,h1,_⟩:=h;exact h1.lt
theorem HasV.below(h:HasV K kv w b n S)(I:OD w w'):HasV K kv w' b n S:=h.kept (aE I none) jS
theorem DF(K:TypeId)(kv:α->Value)(w:World):HasV K kv (w.alloc (.map #[] 0)) w.heap.size 0 (fun _=>none) :=
 ⟨_,World.ownsMap_made w _ _ _,fun _ _ _ _=>rfl⟩
theorem HasV.look(hK:Maps.Keyed prog K)(hM:prog.underlying M=some (.map K E))(hz:∀w,(zeroValue E).run prog w=.ok zv w)(h:HasV K kv w b n S){x:α}{l:Lit}(hl:keyOf prog K (kv x)=some l) :
  (Instr.lookup M (.map (some b)) (kv x) false).run prog w=.ok ((S x).getD zv) w:=by
 obtain⟨D,⟨es,clock,hb,F,_,rfl⟩,h2⟩:=h;have Z:=h2 x l hl;rcases Maps.fit_look false hK hM (hz w) hb F hl with ⟨I,_,J⟩|⟨e0,y,_,_,I,hRv,J,_⟩
 ·cases hS:S x with
  | none=>exact I
  | some v =>
   rw[hS]at Z;have e1:=(J .nil).symm.trans (Z .nil)
   cases e1
 ·have hy:y.1=DataW.held e0.val:=KY hRv
  cases hS:S x with
  | none =>
   rw[hS]at Z;have e1:=(J .nil).symm.trans (Z .nil);rw[hy]at e1
   cases e1
  | some v =>
   rw[hS]at Z;have e1:=(J .nil).symm.trans (Z .nil);rw[hy]at e1;have e2:=FW e1;rw[e2]at I;exact I
open Classical in
theorem HasV.store (Z:Maps.Keyed prog K) (hM:prog.underlying M=some (.map K E)) (inj:∀x y,kv x=kv y->x=y) (h:HasV K kv w b n S) {x:α} {l:Lit} (hl:keyOf prog K (kv x)=some l) (v:Value) (hn:n<maxLen) :
  ∃w',(Instr.mapUpdate M (.map (some b)) (kv x) v).run prog w=.ok () w'/\HasV K kv w' b (n+1) (fun y=>if y=x then some v else S y)/\w.grownBy w' (some b):=by
 obtain⟨D,h1,h2⟩:=h;obtain⟨w',I,r1,r2⟩:=h1.update Z hM hn hl (val:=v) (d:=.held v) (ps:=[]) rfl;refine⟨w',I,⟨_,r1,fun y m hm z=>?_⟩,r2⟩;have h3:=h2 y m hm z
 by_cases e:m=l
 ·subst e;have:=inj _ _ (Z.inj hm hl);rw[Maps.atKey_put_same h1.isMap (Z.key hm)];simp[this]
 ·have J:y≠x:=fun e2=>by
   subst e2;exact e (Pn (hm.symm.trans hl))
  rw[Maps.atKey_put_other e,h3];simp[J]
end
end
section
open Go.RowKit Go.ChangeMaps Go.ChangeShapes Go.WideShapes Go.MapKept Go.WideElems
def jM(v:Vl):Prop:=(Lit.int .i64 v.kind).wf=true/\(Lit.int .i64 v.num).wf=true/\v.text.size<=maxLen
theorem iX:jM au:=⟨by decide,by decide,OO _⟩
theorem Ho:laidOutB prog=true:=kr
theorem wW:(match prog.underlying 27 with|some (.array _ _)|some (.struct _)=>true|_=>false)=true:=kr
theorem KC:(27:TypeId)<prog.types.size:=Pe kr
theorem Jl:prog.keyTypeAt 2 27=true:=kr
theorem rz:Go.WideMaps.KeyLaw prog 27:=deep_law_laid Ho (m:=2) om KC Jl wW
theorem Db:Maps.Keyed prog 27:=Maps.Keyed.of_law rz
theorem Iy:prog.keyTypeAt (prog.types.size+1) 27=true:=kr
theorem sT:prog.cellsOf 27=3:=kr
theorem FI:prog.cellsOf 3=1:=kr
theorem GV:prog.cellsOf 9=1:=kr
theorem CE(w:World){v:Vl}(h:jM v):∃l,keyOf prog 27 (vlV v)=some l:=by
 obtain⟨h1,J,Z⟩:=h;exact⟨_,(keyOf_asKey (H:=Unit) (enc:=fun _=>()) (w:=w) (base:=0) (sp:=fun _=>true) (held:=true) (d:=.agg [.lit (.int .i64 v.kind),.lit (.int .i64 v.num),.lit (.string v.text.data.toList)]) (ps:=[]) Iy wW (by have I:=sT;simp[vlV,Value.formed,underlying27];exact I.symm)
  ⟨3,by have I:=sT;simp[vlV,DataW.trod,Value.cells,underlying27,underlying3,underlying9,FI,GV,h1,J,Z];exact I.symm⟩).1⟩
theorem Cj(x y:Vl)(h:vlV x=vlV y):x=y:=by
 obtain⟨a,b,c⟩:=x;obtain⟨I,b',J⟩:=y;simp[vlV]at h;obtain⟨rfl,rfl,rfl⟩:=h;rfl
theorem oZ(w:World):(zeroValue 34).run prog w=.ok (.slice none 0 0) w:=kr
theorem HasV.same{kv:α->Value}{n:Nat}{S:α->Option Value}(h:HasV K kv w b n S)(e:w'.heap[b]?=w.heap[b]?):HasV K kv w' b n S:=by
 obtain⟨D,⟨es,clock,J,r⟩,I⟩:=h;exact⟨D,⟨es,clock,e.trans J,r⟩,I⟩
theorem Fd{l:List MapEntry}(h:l.Pairwise (fun x y=>x.key≠y.key)){x y:MapEntry}(hx:x∈l)(hy:y∈l)(e:x.key=y.key):x=y:=by
 obtain⟨i,Z,rfl⟩:=QO hx;obtain⟨j,J,rfl⟩:=QO hy;rcases R7 i j with I|rfl|I
 ·exact absurd e (List.pairwise_iff_getElem.1 h i j Z J I)
 ·rfl
 ·exact absurd e.symm (List.pairwise_iff_getElem.1 h j i J Z I)
open Classical in
theorem HasV.entry {α:Type} {K M E:TypeId} {kv:α->Value} {w:World} {b n:Nat} {S:α->Option Value} {zv:Value} (hL:Go.WideMaps.KeyLaw prog K) (hM:prog.underlying M=some (.map K E)) (hz:∀w,(zeroValue E).run prog w=.ok zv w) (inj:∀x y,kv x=kv y->x=y) (h:HasV K kv w b n S) {x:α} {l:Lit} (hl:keyOf prog K (kv x)=some l) (hn:n<maxLen) :
  ∃w1 st,(Instr.mapEntry M (.map (some b)) (kv x)).run prog w=.ok (.tuple #[(S x).getD zv,goInt (st:Nat)]) w1/\w.grownBy w1 (some b)/\b<w1.heap.size /\
   ∀(w2:World)(val:Value),w2.heap[b]?=w1.heap[b]?->∃w3,(Instr.entryStore M (.map (some b)) (goInt (st:Nat)) val).run prog w2=.ok () w3/\w2.grownBy w3 (some b)/\HasV K kv w3 b (n+1) (fun y=>if y=x then some val else S y):=by
 have hK:=Maps.Keyed.of_law hL;have I:=h.look hK hM hz hl;have p':=fun val=>h.store hK hM inj hl val hn
 obtain⟨D,⟨es,clock,hb,F,t',rfl⟩,h2⟩:=id h;obtain⟨v0,st,s',j',g',a',h'⟩:=Go.WideElems.entry_then_store hL hM hz hb F hl;have i':∀(W:World)(ea:Array MapEntry)(ck:Nat)(o':Obj),W.heap[b]?=some (.map ea ck)->W.grownBy (setBlock W b o') (some b):=fun W ea ck o' hW=>⟨rfl,rfl,rfl,by simp[setBlock],fun i _ hi=>heap_setBlock_other hW _ (fun e=>hi (by rw[e]))⟩
 have l':=(Array.getElem?_eq_some_iff.1 hb).1;have e0:v0=(S x).getD zv:=by
  rcases Maps.fit_look false hK hM (hz w) hb F hl with ⟨hr,c',_⟩|⟨e1,y,hm,hk,hr,_⟩
  ·rw[hr]at I;injection I with I;rcases a' with ⟨e2,f',d',-⟩|⟨-,a'⟩
   ·exact absurd d' (c' e2 f')
   ·rw[a'];exact I
  ·rw[hr]at I;injection I with I;rcases a' with ⟨e2,f',d',q'⟩|⟨c',-⟩
   ·rw[q',<-I];have n':es.toList.Pairwise (fun x y=>x.key≠y.key):=((stamped_iff es clock).1 F.stamped).2.2;rw[Fd n' f' hm (d'.trans hk.symm)];simp
   ·exact absurd hk (c' e1 hm)
 refine⟨_,st,by rw[<-e0];exact g',i' w _ _ _ hb,by simpa [setBlock] using l',fun w2 val Z=>?_⟩;rw[heap_setBlock_same hb]at Z;obtain⟨es',k',m',r'⟩:=h' w2 val Z;refine⟨_,m',i' w2 _ _ _ Z,?_⟩;obtain⟨w',J,hH,-⟩:=p' val;rw[r']at J;injection J with _ J;subst J;exact hH.same (by rw[heap_setBlock_same Z,heap_setBlock_same hb])
end
theorem kM(h:bh w v l)(J:∀g,v.ownBlock=some g->g≠b)(i:Nat)(u:Value):bh (w.setCell ⟨b,i,none⟩ u) v l :=
 jP h fun _ g _ I=>Qq w ⟨b,i,none⟩ u g (J g I)
def NR(w:World)(x:Evt)(e:Ending)(W:World):Prop:=∃u,e=.returned (cM x u)/\tW w.heap.size W u x.vals/\OD w W
theorem rt(x:Evt)(u:Value)(w:World)(hu:bh w u x.vals)(hn:x.vals.length<=1048576) :
  Calls prog 104 #[cM x u] w (NR w x):=by
 have HU:=jD hu;have ho:=jf hu;obtain⟨A,c,rfl,-⟩:=hu;unfold cM;go_enter func104,ntmps104;go_wp2_with fail;refine aJ fun W1 e1=>?_
 have c':OD w W1:=gb e1;have r0:W1.heap[w.heap.size]?=some (.cells [Value.int .i64 x.src,.int .i64 x.sq,.int .i64 x.ty,.int .i64 x.tm,.slice A x.vals.length c].toArray 71 (0,0)):=by rw[e1];exact aI (ax _ _ _ rfl)
 have r1:W1.heap[w.heap.size+1]?=some (.cells [Value.int .i64 0,.int .i64 0,.int .i64 0,.int .i64 0,.slice none 0 0].toArray 71 (0,0)):=by rw[e1];exact ax _ _ _ jS
 have f':w.heap.size+1<W1.heap.size:=by rw[e1];simp
 clear e1;refine (AN x.vals _ W1 (HU.out.stays aG c') hn).mono ?_;rintro e w2 ⟨u2,rfl,I,Z⟩;have a':=ae c' Z;have J:=aw Z r0;have h:=aw Z r1;obtain⟨I,d'⟩:=I;obtain⟨A2,cq,rfl,-⟩:=id I;have HN:=jD I;have HG:=jD d';have HB:=jD a';obtain⟨F,hF⟩:=jE (w.heap.size+1);obtain⟨E,hE⟩:=jE w.heap.size;rw[hF]at h f';rw[hE]at J;have j':E≠F:=by omega
 have g':F≠E:=by omega
 have i':E<F:=by omega
 have HE:=jD hE;have HF:=jD hF;have l':=Z.size;clear I d' a' r0 r1 c' Z HU ho;rw[hF,hE];clear hE hF;have c0:=ab J 0;have c1:=ab J 1;have c2:=ab J 2;have c3:=ab J 3;have c4:=ab J 4;have f4:=af J 4;have d0:=ab h 0;have d1:=ab h 1;have d2:=ab h 2;have d3:=ab h 3;have d4:=ab h 4;have g0:=af h 0;have g1:=af h 1;have g2:=af h 2;have g3:=af h 3;have g4:=af h 4;simp only[Q5,QC]at c0 c1 c2 c3 c4 d0 d1 d2 d3 d4;have h':E<w2.heap.size:=by omega
 have k':F<w2.heap.size:=by omega
 go_wp2_with fail;refine OJ (v:=cM x (.slice A2 x.vals.length cq)) (by simp[results,results104,go_sem,cM,am,d0,d1,d2,d3,d4,g1,g2,g3,g4]) rfl ⟨_,rfl,⟨?_,fun g hg=>⟨?_,?_⟩⟩,?_⟩
 ·have hE:∀g,(Value.slice A2 x.vals.length cq).ownBlock=some g->g≠E:=fun g hg=>by have:=(HG.out g hg).1;omega
  have hF:∀g,(Value.slice A2 x.vals.length cq).ownBlock=some g->g≠F:=fun g hg=>by have:=(HG.out g hg).1;omega
  exact kM (kM (kM (kM (kM (kM HN.out hE _ _) hF _ _) hF _ _) hF _ _) hF _ _) hF _ _
 ·have:=(HG.out g hg).1;have:=HE.out;omega
 ·have:=(HG.out g hg).2
  simpa using this
 ·have h1:=Qr HE.out;have h2:w.heap.size<=F:=by have:=HE.out;omega
  exact aj (aj (aj (aj (aj (aj HB.out h1 _) h2 _) h2 _) h2 _) h2 _) h2 _
section
structure PartsW(A mb:Nat)(kv:Value)(w:World)(S:Vl->Option Value)(E:Vl->List EV)(n:Nat):Prop where
 key:kv.ownBlock≠some mb
 map:HasV 27 vlV w mb n S
 row:∀v u,S v=some u->E v≠[]/\w.ownsRow A 71 5 u (E v).length (du (E v))/\∀h,u.ownBlock=some h->h≠mb/\kv.ownBlock≠some h
 no:∀v,S v=none->E v=[]
 apart:∀v v' u u',v≠v'->S v=some u->S v'=some u'->∀h,u.ownBlock=some h->u'.ownBlock≠some h
 vals:∀v,∀e∈E v,bh w e.2 e.1.vals/\∀h,e.2.ownBlock=some h->h<w.heap.size/\h≠mb/\kv.ownBlock≠some h/\∀v' u,S v'=some u->u.ownBlock≠some h
section
variable {A mb n:Nat}{kv:Value}
theorem PartsW.grow(h:PartsW A mb kv w S E n)(I:OD w w'):PartsW A mb kv w' S E n :=
 ⟨h.key,h.map.below I,fun v u J=>⟨(h.row v u J).1,aF (h.row v u J).2.1 I,(h.row v u J).2.2⟩,h.no,h.apart,
  fun v e he=>⟨(h.vals v e he).1.stays aG I,fun g Z=>⟨OT ((h.vals v e he).2 g Z).1 I.size,((h.vals v e he).2 g Z).2⟩⟩⟩
theorem PartsW.is(h:PartsW A mb kv w S E n){v:Vl}(I:S v=some u):cH w u ((E v).map (·.1)) :=
 fj (jn fun e he=>(h.vals v e he).1) (OK _ _) (by rw[OL];exact (h.row v u I).2.1)
theorem PartsW.len(h:PartsW A mb kv w S E n)(v:Vl):∃J c,(S v).getD (.slice none 0 0)=.slice J (E v).length c:=by
 cases I:S v with
 | none=>exact⟨none,0,by rw[h.no v I];rfl⟩
 | some u =>
  have hr:=(h.row v u I).2.1;rcases hr.2 with ⟨rfl,h0⟩|⟨g,cap,cur,rfl,-⟩
  ·exact⟨none,0,by rw[h0];rfl⟩
  ·exact⟨_,_,rfl⟩
theorem PartsW.has(h:PartsW A mb kv w S E n)(v:Vl):w.ownsRow A 71 5 ((S v).getD (.slice none 0 0)) (E v).length (du (E v)):=by
 cases I:S v with
 | none=>rw[h.no v I];exact⟨rfl,.inl ⟨rfl,rfl⟩⟩
 | some u=>exact (h.row v u I).2.1
theorem xy(A:Nat)(w:World):PartsW A w.heap.size (.slice none 0 0) (w.alloc (.map #[] 0)) (fun _=>none) (fun _=>[]) 0 :=
 ⟨by simp[Value.ownBlock],DF _ _ w,fun _ _ h=>(by cases h),fun _ _=>rfl,fun _ _ _ _ _ h=>(by cases h),fun _ _ he=>(by cases he)⟩
theorem PartsW.keyApp(h:PartsW A mb kv w S E n)(hg:w.grownBy w' kv.ownBlock)(c':a'.ownBlock=kv.ownBlock\/a'.ownBlock=some w.heap.size):PartsW A mb a' w' S E n:=by
 have f':=h.map.lt;have J:∀g,g<w.heap.size->kv.ownBlock≠some g->a'.ownBlock≠some g:=fun g d' I e=>by
  rcases c' with e2|e2
  ·exact I (e2▸e)
  ·rw[e2]at e;injection e with e;omega
 refine⟨J _ f' h.key,h.map.kept hg (Pc h.key),fun v u hv=>?_,h.no,h.apart,fun v e he=>?_⟩
 ·obtain⟨h1,Z,h3⟩:=h.row v u hv;exact⟨h1,aY Z fun b hb=>hg.block b (ao Z hb).2 (fun e=>(h3 b hb).2 e.symm),fun b hb=>⟨(h3 b hb).1,J b (ao Z hb).2 (h3 b hb).2⟩⟩
 ·obtain⟨h1,Z⟩:=h.vals v e he;exact⟨jP h1 fun _ g d' I=>hg.block g d' (fun e=>(Z g I).2.2.1 e.symm),fun g I=>⟨OT (Z g I).1 hg.size,(Z g I).2.1,J g (Z g I).1 (Z g I).2.2.1,(Z g I).2.2.2⟩⟩
theorem PartsW.keptRow(h:PartsW A mb kv w S E n)(Z:w.grownBy w' (some mb)){v:Vl}(I:S v=some u):w'.ownsRow A 71 5 u (E v).length (du (E v)) :=
 aY (h.row v u I).2.1 fun b J=>Z.block b (ao (h.row v u I).2.1 J).2 (fun e=>((h.row v u I).2.2 b J).1 (Pn e))
open Classical in
theorem PartsW.push (h:PartsW A mb kv w S E n) {w1 w2 w3:World} {x:Vl} {y:Evt} {u v7:Value} (hA:A<=w.heap.size) (x':∀g,kv.ownBlock=some g->g<w.heap.size)
  (p':w.grownBy w1 (some mb)) (q':w1.grownBy w2 ((S x).getD (.slice none 0 0)).ownBlock) (h':w2.grownBy w3 (some mb))
  (f':w2.ownsRow A 71 5 v7 ((E x).length+1) (du (E x)++[OB y.src,OB y.sq,OB y.ty,OB y.tm,u]))
  (n':v7.ownBlock=((S x).getD (.slice none 0 0)).ownBlock\/v7.ownBlock=some w1.heap.size)
  (t':HasV 27 vlV w3 mb (n+1) (fun z=>if z=x then some v7 else S z))
  (hu:bh w u y.vals) (y':∀g,u.ownBlock=some g->g<w.heap.size/\g≠mb/\kv.ownBlock≠some g/\∀v' z,S v'=some z->z.ownBlock≠some g) :
  PartsW A mb kv w3 (fun z=>if z=x then some v7 else S z) (fun z=>if z=x then E x++[(y,u)] else E z) (n+1):=by
 have B':=h.map.lt;have D':=p'.size;have E':=q'.size;have C':=h'.size;have r':∀g,((S x).getD (.slice none 0 0)).ownBlock=some g->∃u0,S x=some u0/\u0.ownBlock=some g:=fun g J=>by
  cases hS:S x with
  | none=>rw[hS]at J;simp[Value.ownBlock]at J
  | some u0=>rw[hS]at J;exact⟨u0,rfl,J⟩
 have hk:∀g,g<w.heap.size->g≠mb->(∀u0,S x=some u0->u0.ownBlock≠some g)->w3.heap[g]?=w.heap[g]?:=fun g k' l' A'=>by
  have e1:=p'.block g k' (fun e=>l' (Pn e));have e2:=q'.block g om (fun e=>by obtain⟨u0,h1,h2⟩:=r' g e.symm;exact A' u0 h1 h2);have e3:=h'.block g om (fun e=>l' (Pn e));exact e3.trans (e2.trans e1)
 have h7:∀g,v7.ownBlock=some g->(∃u0,S x=some u0/\u0.ownBlock=some g)\/w.heap.size<=g:=fun g J=>by
  rcases n' with e|e
  ·rw[e]at J;exact .inl (r' g J)
  ·rw[e]at J;injection J with J;right;omega
 have s':∀g,v7.ownBlock=some g->g≠mb/\kv.ownBlock≠some g:=fun g J=>by
  rcases h7 g J with ⟨u0,h1,h2⟩|h1
  ·exact (h.row x u0 h1).2.2 g h2
  ·exact⟨by omega,fun e=>by have:=x' g e;omega⟩
 have m':∀v u',v≠x->S v=some u'->∀g,u'.ownBlock=some g->v7.ownBlock≠some g:=fun v u' I Z g J e=>by
  rcases h7 g e with ⟨u0,h1,h2⟩|h1
  ·exact h.apart v x u' u0 I Z h1 g J h2
  ·have:=(ao (h.row v u' Z).2.1 J).2;omega
 have d':∀(e:EV),bh w e.2 e.1.vals->(∀g,e.2.ownBlock=some g->g<w.heap.size/\g≠mb/\kv.ownBlock≠some g/\∀v' z,S v'=some z->z.ownBlock≠some g) ->
   bh w3 e.2 e.1.vals/\∀g,e.2.ownBlock=some g->g<w3.heap.size/\g≠mb/\kv.ownBlock≠some g/\∀v' z,(if v'=x then some v7 else S v')=some z->z.ownBlock≠some g:=fun e he J=>by
  refine⟨jP he fun _ g k' a'=>hk g k' (J g a').2.1 (fun u0 i'=>(J g a').2.2.2 x u0 i'),fun g a'=>⟨by have:=(J g a').1;omega,(J g a').2.1,(J g a').2.2.1,fun v' z hz e2=>?_⟩⟩
  by_cases I:v'=x
  ·rw[OG I]at hz;injection hz with hz;subst hz;rcases h7 g e2 with ⟨u0,h1,h2⟩|h1
   ·exact (J g a').2.2.2 x u0 h1 h2
   ·have:=(J g a').1;omega
  ·rw[OF I]at hz;exact (J g a').2.2.2 v' z hz e2
 refine⟨h.key,t',fun v z Z=>?_,fun v Z=>?_,fun v v' z z' j' Z c' g J=>?_,fun v e he=>?_⟩
 ·by_cases I:v=x
  ·subst I;simp only[Ps]at Z ⊢;injection Z with Z;subst Z;refine⟨by simp,?_,s'⟩;rw[OM,oP];exact aY f' fun b hb=>h'.block b (ao f' hb).2 (fun e=>(s' b hb).1 (Pn e))
  ·simp only[OF I]at Z ⊢;obtain⟨h1,h2,h3⟩:=h.row v z Z;exact⟨h1,aY h2 fun b hb=>hk b (ao h2 hb).2 (h3 b hb).1 (fun u0 i' e=>h.apart v x z u0 I Z i' b hb e),h3⟩
 ·by_cases I:v=x
  ·rw[OG I]at Z;cases Z
  ·simp only[OF I]at Z ⊢;exact h.no v Z
 ·by_cases I:v=x
  ·subst I;rw[OG rfl]at Z;rw[OF (Pc j')]at c';injection Z with Z;subst Z;exact fun e=>m' v' z' (Pc j') c' g e J
  ·rw[OF I]at Z
   by_cases g':v'=x
   ·subst g';rw[OG rfl]at c';injection c' with c';subst c';exact m' v z I Z g J
   ·rw[OF g']at c';exact h.apart v v' z z' j' Z c' g J
 ·by_cases I:v=x
  ·subst I;simp only[Ps]at he;rcases List.mem_append.1 he with he|he
   ·exact d' e (h.vals v e he).1 (h.vals v e he).2
   ·rw[QA]at he;subst he;exact d' (y,u) hu y'
  ·simp only[OF I]at he;exact d' e (h.vals v e he).1 (h.vals v e he).2
end
structure KeysP(key:List Int)(pre:List Evt)(ks:List Vl)(E:Vl->List EV):Prop where
 evs:∀v,(E v).map (·.1)=pre.filter (dH key v)
 mem:∀v,v∈ks↔E v≠[]
 nodup:ks.Nodup
theorem D4(key:List Int):KeysP key [] [] (fun _=>[]):=⟨fun _=>rfl,fun v=>by simp,Rr⟩
theorem KeysP.skip(h:KeysP key pre ks E){y:Evt}(hy:(bW key y).2.1=false):KeysP key (pre++[y]) ks E :=
 ⟨fun v=>by rw[Rs,h.evs v];simp[dH,hy],h.mem,h.nodup⟩
open Classical in
theorem KeysP.push (h:KeysP key pre ks E) {y:Evt} {x:Vl} (hy:(bW key y).2.1=true) (Z:(bW key y).1=x) (u:Value):KeysP key (pre++[y]) (if (E x).length=0 then ks++[x] else ks) (fun z=>if z=x then E x++[(y,u)] else E z):=by
 refine⟨fun v=>?_,fun v=>?_,?_⟩
 ·rw[Rs]
  by_cases I:v=x
  ·subst I;have hk:dH key v y=true:=by unfold dH;rw[hy,Z,fE.2 rfl];rfl
   simp only[Ps];rw[Pq,h.evs v];simp[hk]
  ·have hk:dH key v y=false:=by
    unfold dH;rw[hy,Z]
    cases hq:bI x v with
    | false=>rfl
    | true=>exact absurd (fE.1 hq).symm I
   simp only[OF I];rw[h.evs v];simp[hk]
 ·by_cases I:v=x
  ·subst I;simp only[Ps]
   by_cases h0:(E v).length=0
   ·rw[OG h0];simp
   ·rw[OF h0];have:v∈ks:=(h.mem v).2 (fun e=>h0 (by rw[e];rfl));simp[this]
  ·simp only[OF I];rw[<-h.mem v]
   split
   ·simp[I]
   ·rfl
 ·split
  ·next h0 =>
   refine List.nodup_append.2 ⟨h.nodup,by simp,fun a ha b J e=>?_⟩;rw[QA]at J;subst J e;exact (h.mem a).1 ha (Po h0)
  ·exact h.nodup
theorem KeysP.sorted(h:KeysP key pre ks E)(hp:I.Perm ks)(hs:I.Pairwise (fun a b=>¬vlC b a<0)):I=dO key pre:=by
 refine J0 ?_ fun k=>?_
 ·have hn:I.Nodup:=hp.nodup_iff.2 h.nodup;refine (hs.and hn).imp fun {a b} ⟨h1,h2⟩=>?_
  have h3:vlC a b≠0:=fun e=>h2 (rN.1 e)
  have h4:vlC b a=- vlC a b:=lM.1 a b;omega
 ·rw[hp.mem_iff,h.mem k];constructor
  ·intro Z;have h1:(E k).map (·.1)≠[]:=jQ Z;rw[h.evs k]at h1;obtain⟨e,he⟩:=List.exists_mem_of_ne_nil _ h1;obtain⟨a',J⟩:=List.mem_filter.1 he;unfold dH at J;rw[ON,fE]at J;exact⟨e,a',J.1,J.2⟩
  ·rintro⟨e,he,h1,h2⟩ h3;have h4:=h.evs k;rw[h3]at h4;have:e∈pre.filter (dH key k):=List.mem_filter.2 ⟨he,by unfold dH;rw[h1,h2,fE.2 rfl];rfl⟩;rw[<-h4]at this
   cases this
theorem Lf(h:∀v∈l,jM v)(i:Nat):jM (l.getD i au):=by
 rw[R1]
 cases hq:l[i]? with
 | none=>exact iX
 | some v=>exact h v (Pb hq)
theorem Dk{y:Evt}(h:∀v∈y.vals,jM v):jM (bW key y).1:=by
 unfold bW
 split
 ·exact iX
 ·split
  ·exact iX
  ·split
   ·exact iX
   ·split
    ·exact iX
    ·exact Lf h _
def fZ(key:List Int)(l:List Evt):(List Vl × List (List Evt)) × Int:=if gu key l≠0 then (([],[]),gu key l) else ((dO key l,eJ key l),0)
def yZ(w:World)(r:(List Vl × List (List Evt)) × Int)(e:Ending)(W:World):Prop:=∃kv h,e=.returned (.tuple #[kv,h,OB r.2])/\bh W kv r.1.1/\Sl sB 1 W h r.1.2/\OD w W
end
section
open Go.RowKit Go.Lib
def RestOk(F:Bs->Nat->List Bs)(h:Nat)(I:List Value)(n0 n1:Nat)(B:Option Nat)(w:World)(i n:Nat):Prop :=
 ∀(W:World)(b:Bs)(j:Nat)(u:Value),eI n0 n1 B w W->i<j->BOk j b->j<=n->gN W u b->Calls prog h (u::OB (j:Int)::I).toArray W (KF W (F b j))
theorem RestOk.keep{J:Nat}{n0 n1:Nat}{W:World}{i n:Nat}(h:RestOk F J Z n0 n1 B w i n)(hk:eI n0 n1 B w W):RestOk F J Z n0 n1 B W i n :=
 fun W9 b j u I h1 h2 h3 h4=>h W9 b j u (La hk I) h1 h2 h3 h4
end
section
section
open Go.RowKit Go.Shelf
open Go.Sort (SWO PermIn SortedIn HoldsK grow)
instance bndInh:Inhabited Bnd:=⟨⟨0,0,0,0⟩⟩
def lE(x:Bnd):List Value:=[OB x.v,OB x.t,OB x.s,OB x.n]
end
end
def fH(l:List Bnd):List Value:=l.flatMap lE
theorem xW(l:List Bnd):∀u∈fH l,u.oneCell'=true:=fun u hu=>by
 obtain⟨x,_,h⟩:=List.mem_flatMap.1 hu;simp only[lE,O7,Pw,Px]at h;rcases h with rfl|rfl|rfl|rfl<;>rfl
theorem gO:∀{l:List Bnd}{k:Nat}{x:Bnd},l[k]?=some x->∀r,r<4->(fH l)[k*4+r]?=(lE x)[r]?
 | [],k,x,h,_,_=>by simp at h
 | y::l,0,x,h,r,hr=>by
  simp at h;subst h;unfold fH;rw[O8,P1,Pd,Ph (by simpa [lE] using hr)]
 | y::l,k+1,x,h,r,hr=>by
  have I:=gO (l:=l) (k:=k) (x:=x) (jQ h) r hr;unfold fH at I ⊢;rw[O8,Pz (by simp[lE];omega),<-I];congr 1;simp[lE];omega
theorem Gv{B:Nat}{l:List Bnd}(h:wr.ownsRow B 82 4 J l.length (fH l)):cP wr J l:=by
 obtain⟨A,c,rfl,Z,h3,h4⟩:=fm h (xW l);refine⟨A,c,rfl,Z,h3,fun k x hk=>?_⟩;have a':=(List.getElem?_eq_some_iff.1 hk).1;obtain⟨b,o,hA,I⟩:=h4.2.2 om;refine⟨b,o,hA,I _ _ ?_,?_,?_,?_⟩
 ·have:=gO hk 0 dc;simpa [lE] using this
 ·have:=gO hk 1 dc;rw[PP];exact I _ _ (by simpa [lE] using this)
 ·have:=gO hk 2 dc;rw[PP];exact I _ _ (by simpa [lE] using this)
 ·have:=gO hk 3 dc;rw[PP];exact I _ _ (by simpa [lE] using this)
end Go.Proofs.YteemngnialjaiaaGreatDoor
