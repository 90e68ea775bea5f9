/- Part. -/
import Derived.Test.YtbjicljfjkdeeaaGreatDoorQ37
import Derived.Carry
set_option maxRecDepth 100000
set_option maxHeartbeats 16000000
set_option linter.unusedVariables false
set_option linter.unusedSimpArgs false
namespace Go.Proofs.YtbjicljfjkdeeaaGreatDoor
open Go.Proofs.Tryz Go.RowKit
def fU {α:Type} (p:α->Bool) (l:List α):Int:=if l.any p=true then (l.findIdx p:Int) else -1
theorem np {α:Type} {p:α->Bool} {l:List α} {k:Nat} {x:α} (h:l[k]?=some x) (hp:p x=true) (z:∀(j:Nat) (y:α),l[j]?=some y->j<k->p y=false):fU p l=k:=by
 unfold fU;obtain⟨hk,rfl⟩:=List.getElem?_eq_some_iff.1 h;rw[Mp (List.any_eq_true.2 ⟨_,Nu hk,hp⟩)];congr 1;rw[List.findIdx_eq hk];exact⟨hp,fun j G=>z j _ (Mq om) G⟩
theorem jv {α:Type} {p:α->Bool} {l:List α} (h:∀(j:Nat) (y:α),l[j]?=some y->p y=false):fU p l=-1:=by
 unfold fU;rw[Mo];rw[O6,OO];intro x G;obtain⟨j,z⟩:=List.mem_iff_getElem?.1 G
 simpa using h j x z
theorem nB {α:Type} (p:α->Bool) (l:List α):decide (0<=fU p l)=l.any p:=by
 unfold fU
 cases h:l.any p with
 | true=>rw[Mp rfl];simp
 | false=>rw[Mo jS];rfl
theorem rJ (g:FuncId) (J:List Value) (p:(List Bnd)->Bool) (l:List (List Bnd)) (v:Value) (w:World) (hl:il w v l) (eg:∀args W,(callFunc g args).run prog W=.ok (.enter g args) W)
  (hp:∀(W:World) (x:(List Bnd)) (u:Value),Mm w W->x∈l->bD W u x->Calls prog g (rT u::J).toArray W fun e W'=>e=.returned (.bool (p x))/\Mm W W') :
  Mn 27 #[v,.func (.func g) #[] J.toArray] w (Mk (fU p l)):=by
 obtain⟨A,c,rfl,h1,h2,d'⟩:=hl;have hn:=ay h1 h2;have HL:=jD d';have HP:=jD hp;clear d' h1 h2 hp;go_enter func27,ntmps27;go_wp2_with fail
 go_loopw [8] (fun i wr=>∃k:Nat,k<=l.length/\i=Mk k/\Hid (∀(j:Nat) (y:(List Bnd)),l[j]?=some y->j<k->p y=false)/\Mm w wr) (fun i _=>l.length-(intOf i).toNat)
 case atStart=>exact⟨0,Mu _,rfl,fun _ _ _ h=>absurd h om,Mr _ _⟩
 case round =>
  obtain⟨k,hk,rfl,hi,hb⟩:=hrel
  by_cases O:k<l.length
  ·obtain⟨b,o,rfl,u,hu,c0⟩:=HL.out k l[k] (Mq O);simp only[NF]at c0;replace c0:=aa hb c0;have Z:=hu.stays bL hb;have z:=jD (Mq O);have G:Hid (l[k]∈l):=jD (Nu O);obtain⟨x,hx⟩:=jF (l[k]);rw[<-hx]at z G hu Z;have HC:=jD (HP.out wr x u hb G.out Z);obtain⟨A',c',rfl,-⟩:=hu
   try simp only[entV,chgV,rT]at HC
   clear hx Z;have g':(k:Int)<(l.length:Int):=by omega
   obtain⟨bb,HB⟩:=eh (p x)
   cases bb with
   | true =>
    go_wp2_with fail;refine HC.out.mono ?_;rw[HB.out];rintro e w' ⟨rfl,a'⟩;go_wp2;go_ret;rw[np z.out HB.out hi.out];exact⟨rfl,ab hb a'⟩
   | false =>
    go_wp2_with fail;refine HC.out.mono ?_;rw[HB.out];rintro e w' ⟨rfl,a'⟩;go_wp2_with fail
    go_roundw
    case rel =>
     refine⟨k+1,by omega,by go_num,?_,ab hb a'⟩;intro j y I f';rcases Pk (Pm f') with h|h
     ·exact hi.out j y I h
     ·subst h;rw[z.out]at I;injection I with I;subst I;exact HB.out
    case measure=>simp[intOf];omega
  ·go_wp2;go_ret;rw[jv (fun j y I=>hi.out j y I (by have:=(List.getElem?_eq_some_iff.1 I).1;omega))];exact⟨rfl,hb⟩
theorem mM (g:FuncId) (h:List Value) (p:(List Bnd)->Bool) (l:List (List Bnd)) (v:Value) (w:World) (I:il w v l) (J:∀args W,(callFunc g args).run prog W=.ok (.enter g args) W)
  (hp:∀(W:World) (x:(List Bnd)) (u:Value),Mm w W->x∈l->bD W u x->Calls prog g (rT u::h).toArray W fun e W'=>e=.returned (.bool (p x))/\Mm W W') :
  Mn 10 #[v,.func (.func g) #[] h.toArray] w (.bool (l.any p)):=by
 have Z:=jD hp;have O:=jD I;obtain⟨A,c,rfl,-,-,-⟩:=I;clear hp;obtain⟨r,G⟩:=eh (fU p l);go_enter func10,ntmps10;go_wp2_with (go_at_call 27;refine (rJ g h p l _ w O.out J Z.out).mono ?_;rw[G.out];rintro e w1 ⟨rfl,z⟩);go_ret;rw[<-nB,G.out];exact⟨rfl,z⟩
theorem ubs {p:Prop} (h:p:=by
  clear hx;have r':(k:Int)<(l.length:Int):=by omega
  obtain⟨bb,HB⟩:=eh (p x);go_wp2_with fail;refine HC.out.mono ?_;rw[HB.out];rintro e w' ⟨rfl,f'⟩
  cases bb with
  | true =>
   go_wp2;go_ret;rw[np G.out HB.out hi.out];exact⟨rfl,ab J f'⟩
  | false =>
   go_wp2_with fail
   go_roundw
   case rel =>
    refine⟨k+1,by omega,by go_num,?_,ab J f'⟩;intro j y O l';rcases Pk (Pm l') with h|h
    ·exact hi.out j y O h
    ·subst h;rw[G.out]at O;injection O with O;subst O;exact HB.out
   case measure=>simp[intOf];omega):p:=h
theorem ubt {p:Prop} (h:p:=by
  go_wp2;go_ret;rw[jv (fun j y O=>hi.out j y O (by have:=(List.getElem?_eq_some_iff.1 O).1;omega))];exact⟨rfl,J⟩):p:=h
theorem rN (g:FuncId) (z:List Value) (p:Bnd->Bool) (l:List Bnd) (v:Value) (w:World) (hl:bD w v l) (eg:∀args W,(callFunc g args).run prog W=.ok (.enter g args) W)
  (hp:∀(W:World) (x:Bnd),Mm w W->x∈l->Calls prog g (pM x::z).toArray W fun e W'=>e=.returned (.bool (p x))/\Mm W W') :
  Mn 29 #[v,.func (.func g) #[] z.toArray] w (Mk (fU p l)):=by
 obtain⟨A,c,rfl,h1,h2,i'⟩:=hl;have hn:=ay h1 h2;have HL:=jD i';have HP:=jD hp;clear i' h1 h2 hp;go_enter func29,ntmps29;go_wp2_with fail
 go_loopw [8] (fun i wr=>∃k:Nat,k<=l.length/\i=Mk k/\Hid (∀(j:Nat) (y:Bnd),l[j]?=some y->j<k->p y=false)/\Mm w wr) (fun i _=>l.length-(intOf i).toNat)
 case atStart=>exact⟨0,Mu _,rfl,fun _ _ _ h=>absurd h om,Mr _ _⟩
 case round =>
  obtain⟨k,hk,rfl,hi,J⟩:=hrel
  by_cases d':k<l.length
  ·obtain⟨b,o,rfl,c0,c1,c2,c3⟩:=HL.out k l[k] (Mq d');replace c0:=aa J c0;replace c1:=aa J c1;replace c2:=aa J c2;replace c3:=aa J c3;have G:=jD (Mq d');have I:Hid (l[k]∈l):=jD (Nu d');obtain⟨x,hx⟩:=jF (l[k]);rw[<-hx]at G I c0 c1 c2 c3;have HC:=jD (HP.out wr x J I.out);unfold pM at HC;exact ubs
  ·exact ubt
theorem nf (g:FuncId) (z:List Value) (p:Bnd->Bool) (l:List Bnd) (v:Value) (w:World) (hl:bD w v l) (eg:∀args W,(callFunc g args).run prog W=.ok (.enter g args) W)
  (hp:∀(W:World) (x:Bnd),Mm w W->x∈l->Calls prog g (pM x::z).toArray W fun e W'=>e=.returned (.bool (p x))/\Mm W W') :
  Mn 13 #[v,.func (.func g) #[] z.toArray] w (.bool (l.any p)):=by
 have HP:=jD hp;have HL:=jD hl;obtain⟨A,c,rfl,-,-,-⟩:=hl;clear hp;obtain⟨r,HR⟩:=eh (fU p l);go_enter func13,ntmps13;go_wp2_with (go_at_call 29;refine (rN g z p l _ w HL.out eg HP.out).mono ?_;rw[HR.out];rintro e w1 ⟨rfl,h'⟩);go_ret;rw[<-nB,HR.out];exact⟨rfl,h'⟩
theorem rL (g:FuncId) (z:List Value) (p:Evt->Bool) (l:List Evt) (v:Value) (w:World) (hl:bh w v l) (eg:∀args W,(callFunc g args).run prog W=.ok (.enter g args) W)
  (hp:∀(W:World) (x:Evt) (u:Value),Mm w W->x∈l->aV W u x.vals->Calls prog g (cP x u::z).toArray W fun e W'=>e=.returned (.bool (p x))/\Mm W W') :
  Mn 30 #[v,.func (.func g) #[] z.toArray] w (Mk (fU p l)):=by
 obtain⟨A,c,rfl,h1,h2,i'⟩:=hl;have hn:=ay h1 h2;have HL:=jD i';have HP:=jD hp;clear i' h1 h2 hp;go_enter func30,ntmps30;go_wp2_with fail
 go_loopw [8] (fun i wr=>∃k:Nat,k<=l.length/\i=Mk k/\Hid (∀(j:Nat) (y:Evt),l[j]?=some y->j<k->p y=false)/\Mm w wr) (fun i _=>l.length-(intOf i).toNat)
 case atStart=>exact⟨0,Mu _,rfl,fun _ _ _ h=>absurd h om,Mr _ _⟩
 case round =>
  obtain⟨k,hk,rfl,hi,J⟩:=hrel
  by_cases d':k<l.length
  ·obtain⟨b,o,rfl,u,hu,c0,c1,c2,c3,c4⟩:=HL.out k l[k] (Mq d');replace c0:=aa J c0;replace c1:=aa J c1;replace c2:=aa J c2;replace c3:=aa J c3;replace c4:=aa J c4;have G:=jD (Mq d');have I:Hid (l[k]∈l):=jD (Nu d');obtain⟨x,hx⟩:=jF (l[k]);rw[<-hx]at G I hu c0 c1 c2 c3;have HC:=jD (HP.out wr x u J I.out (hu.stays aD J));obtain⟨A',c',rfl,-⟩:=hu;unfold cP at HC;exact ubs
  ·exact ubt
theorem nJ (g:FuncId) (z:List Value) (p:Evt->Bool) (l:List Evt) (v:Value) (w:World) (hl:bh w v l) (eg:∀args W,(callFunc g args).run prog W=.ok (.enter g args) W)
  (hp:∀(W:World) (x:Evt) (u:Value),Mm w W->x∈l->aV W u x.vals->Calls prog g (cP x u::z).toArray W fun e W'=>e=.returned (.bool (p x))/\Mm W W') :
  Mn 15 #[v,.func (.func g) #[] z.toArray] w (.bool (l.any p)):=by
 have HP:=jD hp;have HL:=jD hl;obtain⟨A,c,rfl,-,-,-⟩:=hl;clear hp;obtain⟨r,HR⟩:=eh (fU p l);go_enter func15,ntmps15;go_wp2_with (go_at_call 30;refine (rL g z p l _ w HL.out eg HP.out).mono ?_;rw[HR.out];rintro e w1 ⟨rfl,h'⟩);go_ret;rw[<-nB,HR.out];exact⟨rfl,h'⟩
def tN (b:Bnd) (e:Evt):Bool:=sj (cF e) b
theorem Gg (b:Bnd) (y:Evt) (v:Value) (X:Nat) (w:World) (hv:aV w v y.vals) (h0:wE w X 0 b) :
  Calls prog 16 #[cP y v,.pointer (some ⟨X,0,none⟩)] w fun en w'=>en=.returned (.bool (tN b y))/\Mm w w':=by
 obtain⟨A,c,rfl,-⟩:=hv;obtain⟨r,hr⟩:=jE (tN b y);have he:∀W,(binOp .eql 55 (vA (cF y)) (vA b)).run prog W=.ok (.bool r) W:=fun W=>by rw[BV,<-hr];rfl
 unfold vA cF at he;rw[hr];obtain⟨n,hn⟩:=jE y.vals.length;have HC:=jD (fun W=>xW y.src y.sq y.ty y.tm A n c W);have HX:=jD h0;obtain⟨c0,c1,c2,c3⟩:=h0;simp only[MC]at c0 c1 c2 c3;clear hr;rw[hn];clear hn;have k':X<w.heap.size:=by have:=Ms w ⟨X,0,none⟩ c0;simpa using this
 have m':X≠w.heap.size:=by omega
 have j':w.heap.size≠X:=by omega
 unfold cP;go_enter func16,ntmps16;go_wp2_with fail;refine bg fun w3 e3=>?_
 obtain⟨Y,hY⟩:∃q,q=w.heap.size:=⟨_,rfl⟩;have g':Mm w w3:=gb e3;obtain⟨y0,y1,y2,y3,y4⟩:=c5 e3 hY;rw[<-hY];have x1:=aa g' c1;have x2:=aa g' c2;have x3:=aa g' c3;have s':=jD g';clear e3 hY g' c0 c1 c2 c3 m' j' HX k';refine rgn (fun WW:World=>Mm w3 WW/\Ml WW Y 0 (Mk y.src)/\Ml WW Y 1 (Mk y.sq)/\Ml WW Y 2 (Mk y.ty)/\Ml WW Y 3 (Mk y.tm)/\Ml WW Y 4 (.slice A n c)/\Ml WW X 1 (Mk b.t)/\Ml WW X 2 (Mk b.s)/\Ml WW X 3 (Mk b.n)) (Below w3.heap.size w3) (fun WW Z=>⟨Z,aa Z y0,aa Z y1,aa Z y2,aa Z y3,aa Z y4,aa Z x1,aa Z x2,aa Z x3⟩) ((Mr _ _).drew) (fun u' a'=>?_);refine tkH [0,2,3] ?_;refine nxH 1 (fun K hK=>?_)
 focus (go_simp;refine (HC.out _).mono ?_;rintro e w5 ⟨rfl,x'⟩;have p':Mm w3 w5:=ab a'.1 x'.below)
 refine hK.out _ _ (u' _ p') (fun a'=>?_);clear hK K;refine tkH [4,5] ?_;refine dn ?_;exact fi (ab s'.out a'.1)
theorem Bh (args:Array Value) (W:World):(callFunc 16 args).run prog W=.ok (.enter 16 args) W:=enters_of func16 kr rfl args W
def tV (l:List Evt) (b:Bnd):Bool:=!(l.any (tN b))
theorem D1 (l:List Evt) (b:Bnd) (v:Value) (X:Nat) (w:World) (hl:bh w v l) (h0:w.cell? ⟨X,0,none⟩=some v) :
  Calls prog 14 #[pM b,.pointer (some ⟨X,0,none⟩)] w fun en w'=>en=.returned (.bool (tV l b))/\Mm w w':=by
 have HC:=jD (fun (W:World) (Y:Nat) (Z:Mm w W) (hY:wE W Y 0 b)=>nJ 16 [.pointer (some ⟨Y,0,none⟩)] (tN b) l v W (hl.stays aG Z) Bh
  (fun W2 x u q' _ hu=>Gg b x u Y W2 hu (bL _ _ _ _ _ q' hY)))
 obtain⟨A,c,rfl,-⟩:=hl;obtain⟨r,hr⟩:=jE (l.any (tN b));have n':tV l b=!r:=by rw[tV,hr]
 rw[n'];rw[hr]at HC;clear hr n';have k':X<w.heap.size:=by have:=Ms w ⟨X,0,none⟩ h0;simpa using this
 have m':X≠w.heap.size:=by omega
 have j':w.heap.size≠X:=by omega
 unfold pM;go_enter func14,ntmps14;go_wp2_with fail;refine aI fun w1 e1=>?_
 have h':Mm w w1:=gb e1;have hB:wE w1 w.heap.size 0 b:=⟨by rw[e1];go_simp,by rw[e1];go_simp,by rw[e1];go_simp,by rw[e1];go_simp⟩;clear e1;refine (HC.out w1 _ h' hB).mono ?_;rintro e w2 ⟨rfl,f'⟩;exact fi (ab h' f')
theorem ww (args:Array Value) (W:World):(callFunc 14 args).run prog W=.ok (.enter 14 args) W:=enters_of func14 kr rfl args W
theorem Dk (m n:List Bnd) (u v:Value) (X:Nat) (w:World) (hu:bD w u n) (hv:bD w v m) (h0:w.cell? ⟨X,0,none⟩=some v) :
  Mn 11 #[.agg #[u],.pointer (some ⟨X,0,none⟩)] w (.bool (bsC m n==0)):=by
 have hc:=fun W (h1:bD W v m) (h2:bD W u n)=>vU m n v u W h1 h2
 unfold rT at hc;have HU:=jD hu;have HV:=jD hv;have HC:=jD hc;obtain⟨A,cu,rfl,-⟩:=hu;obtain⟨B,cv,rfl,-⟩:=hv;have k':X<w.heap.size:=by have:=Ms w ⟨X,0,none⟩ h0;simpa using this
 have hn:X≠w.heap.size:=by omega
 have y':w.heap.size≠X:=by omega
 clear hc;go_enter func11,ntmps11;go_wp2_with fail;refine (HC.out _ (HV.out.stays bL jB) (HU.out.stays bL jB)).mono ?_;rintro e w3 ⟨rfl,t'⟩;have g':=ab (af _ _) t'.below;exact fi g'
theorem wQ (args:Array Value) (W:World):(callFunc 11 args).run prog W=.ok (.enter 11 args) W:=enters_of func11 kr rfl args W
theorem JC (S:List (List Bnd)) (m:List Bnd) (vS vm:Value) (X:Nat) (w:World) (hS:il w vS S) (hm:bD w vm m) (h0:w.cell? ⟨X,0,none⟩=some vm) (I:m∈S) :
  Mn 10 #[vS,.func (.func 11) #[] #[.pointer (some ⟨X,0,none⟩)]] w (.bool true):=by
 have h:=mM 11 [.pointer (some ⟨X,0,none⟩)] (fun n=>bsC m n==0) S vS w hS wQ (fun W n u Z _ hu=>Dk m n u vm X W hu (hm.stays bL Z) (aa Z h0));rw[List.any_eq_true.2 ⟨m,I,by rw[gF.refl];rfl⟩]at h;exact h
theorem IK (l:List Evt) (m:List Bnd) (v vm:Value) (X:Nat) (w:World) (hl:bh w v l) (hm:bD w vm m) (h0:w.cell? ⟨X,0,none⟩=some v) (hr:∀b∈m,∃e∈l,cJ (cF e) b=0) :
  Mn 13 #[vm,.func (.func 14) #[] #[.pointer (some ⟨X,0,none⟩)]] w (.bool false):=by
 have h:=nf 14 [.pointer (some ⟨X,0,none⟩)] (tV l) m vm w hm ww (fun W b Z _=>D1 l b v X W (hl.stays aG Z) (aa Z h0));rw[show m.any (tV l)=false from List.any_eq_false.2 fun b J=>by
  obtain⟨e,he,h1⟩:=hr b J;rw[tV,List.any_eq_true.2 ⟨e,he,by rw[tN,tJ,h1];rfl⟩];simp]at h
 exact h
theorem oG {P:Program} {w w':World} {o:Oper} {a:Act} {K:Act->World->Prop} {Q:Exit->Act->World->Prop} {M:TypeId} {z kv v:Value} (m x:Operand) (G:o.op=.mapEntry M m x) (hm:a.eval m=z) (I:a.eval x=kv)
  (hr:(Instr.mapEntry M z kv).run P w=.ok v w') (h:K (a.put o.dst v) w'):Oper.wp P o a w K Q:=by
 unfold Oper.wp;simp[execOp,G,hm,I,hr,Result.andThen];exact h
theorem kX {P:Program} {w w':World} {o:Oper} {a:Act} {K:Act->World->Prop} {Q:Exit->Act->World->Prop} {M:TypeId} {G z v:Value} (m s x:Operand) (I:o.op=.entryStore M m s x) (hm:a.eval m=G) (hs:a.eval s=z) (J:a.eval x=v)
  (hr:(Instr.entryStore M G z v).run P w=.ok () w') (h:K (a.put o.dst undef) w'):Oper.wp P o a w K Q:=by
 unfold Oper.wp;simp[execOp,I,hm,hs,J,hr,Result.andThen];exact h
theorem PartsW.hasKept {A mb n:Nat} {kv:Value} {w w':World} {S:Vl->Option Value} {E:Vl->List EV} (h:PartsW A mb kv w S E n) (G:w.grownBy w' (some mb)) (v:Vl):w'.ownsRow A 60 5 ((S v).getD (.slice none 0 0)) (E v).length (ci (E v)):=by
 cases z:S v with
 | none=>rw[h.no v z];exact⟨rfl,.inl ⟨rfl,rfl⟩⟩
 | some u=>exact h.keptRow G z
theorem PartsW.notMap {A mb n:Nat} {kv:Value} {w:World} {S:Vl->Option Value} {E:Vl->List EV} (h:PartsW A mb kv w S E n) (v:Vl):((S v).getD (.slice none 0 0)).ownBlock≠some mb:=by
 cases z:S v with
 | none=>simp[Value.ownBlock]
 | some u=>exact fun e=>((h.row v u z).2.2 mb e).1 rfl
theorem PartsW.low {A mb n:Nat} {kv:Value} {w:World} {S:Vl->Option Value} {E:Vl->List EV} (h:PartsW A mb kv w S E n) (v:Vl) {g:Nat} (z:((S v).getD (.slice none 0 0)).ownBlock=some g):A<=g/\g<w.heap.size:=ag (h.has v) z
theorem PartsW.keyRow {A mb n m sz:Nat} {t:TypeId} {kv:Value} {w Z w2 w3:World} {S:Vl->Option Value} {E:Vl->List EV} {cs:List Value} (h:PartsW A mb kv w S E n) (x:Vl) (z:w.grownBy Z (some mb)) (G:Z.grownBy w2 ((S x).getD (.slice none 0 0)).ownBlock) (J:w2.grownBy w3 (some mb)) (hr:w.ownsRow A t sz kv m cs):w3.ownsRow A t sz kv m cs:=by
 have a':=z.size;have c':=G.size;refine aT hr fun g I=>?_
 have hl:=(ag hr I).2;have hm:g≠mb:=fun e=>h.key (by rw[I,e])
 refine (J.block g om (fun e=>hm (MX e))).trans ((G.block g om (fun e=>?_)).trans (z.block g hl (fun e=>hm (MX e))))
 cases O:S x with
 | none=>rw[O]at e;simp[Value.ownBlock]at e
 | some u=>rw[O]at e;exact ((h.row x u O).2.2 g e.symm).2 I
theorem srcG {w w':World} {row:Option Nat} {b o n sz:Nat} {cs:List Value} (h:Src w (some ⟨b,o,none⟩) n sz cs) (I:w.grownBy w' row) (G:row≠some b):Src w' (some ⟨b,o,none⟩) n sz cs:=by
 refine⟨h.1,h.2.1,fun O=>?_⟩;obtain⟨b',o',z,hc⟩:=h.2.2 O;exact⟨b',o',z,fun j u hj=>by
  injection z with z;injection z with Z J;subst Z J;exact aj I (hc j u hj) G⟩
theorem tw {key:List Int} {l:List Evt} (h:bH l=0):mT key l=em (fun _ e=>(cz key e).2.2) none l:=by
 unfold mT;rw[Mo (by rw[h];simp)]
theorem lG {key:List Int} {l:List Evt} {e:Int} (h:bH l=e) (h0:e≠0):mT key l=e:=by
 unfold mT;rw[Mp (by rw[h];exact h0),h]
theorem vM (w:World):Calls prog 72 #[.slice none 0 0,.func (.func 73) #[] #[]] w fun e W=>e=.returned (.tuple #[])/\W=w:=by
 have h:=AnyF.slices_SortFunc_none Tryz.sortVal none 0 (.func (.func 73) #[] #[]) w
 change Calls prog 72 _ _ _ at h
 exact h
def SrtV (w:World) (kv:Value) (ks:List Vl) (e:Ending) (W:World):Prop:=e=.returned (.tuple #[])/\∃es:List Vl,es.Perm ks/\es.Pairwise (fun a b=>¬vlC b a<0)/\aV W kv es/\w.grownBy W kv.ownBlock
theorem vB (ks:List Vl) (kv:Value) (B:Nat) (w:World) (hr:w.ownsRow B 27 3 kv ks.length (aQ ks)) (J:ks.length<=1048576) :
  Calls prog 72 #[kv,.func (.func 73) #[] #[]] w (SrtV w kv ks):=by
 have hv:=mH hr;rcases hr.2 with ⟨rfl,h0⟩|⟨g,cap,cur,rfl,hg,hh,hnc,hcm,_⟩
 ·refine (vM w).mono ?_;rintro e W ⟨rfl,rfl⟩;obtain rfl:ks=[]:=M8 h0;exact⟨rfl,[],.refl _,.nil,hv,⟨rfl,rfl,rfl,Mt _,fun _ _ _=>rfl⟩⟩
 ·have I:∀(k:Nat) (x:Vl),ks[k]?=some x->me w g (0+k*3) x:=fun k x Z=>by
   obtain⟨A,c,h,-,-,h3⟩:=hv;obtain⟨b,o,G,hp⟩:=h3 k x Z;rw[G]at h;injection h with h;injection h with h;injection h with e1 e2;subst e1 e2;exact hp
  refine (uU ks g cap cur.toList w (jQ hh) I J).mono ?_;rintro e W ⟨rfl,es,hp,a',z,O⟩;exact⟨rfl,es,hp,a',⟨some ⟨g,0,none⟩,cap,by rw[hp.length_eq],by rw[hp.length_eq];exact hnc,hcm,fun k x Z=>⟨g,0,rfl,z k x Z⟩⟩,O⟩
theorem PartsW.isD {A mb n:Nat} {kv:Value} {w:World} {S:Vl->Option Value} {E:Vl->List EV} (h:PartsW A mb kv w S E n) (v:Vl):bh w ((S v).getD (.slice none 0 0)) ((E v).map (·.1)):=by
 cases z:S v with
 | none=>rw[h.no v z];exact Sl.nil _ _ _ _ _ (Mu _)
 | some u=>exact h.is z
theorem zV {A mb n:Nat} {kv:Value} {w:World} {S:Vl->Option Value} {E:Vl->List EV} (h:PartsW A mb kv w S E n) (ks:List Vl) :
  Means nS 1 w (ks.map fun v=>(S v).getD (.slice none 0 0)) (ks.map fun v=>(E v).map (·.1)):=by
 refine⟨by simp,fun u hu=>?_,fun W b o z I k y hk=>?_⟩
 ·obtain⟨v,_,rfl⟩:=List.mem_map.1 hu;obtain⟨O,J,e⟩:=h.len v;rw[e];rfl
 ·rw[MA]at hk;obtain⟨v,G,rfl⟩:=Option.map_eq_some_iff.1 hk;exact⟨_,(h.grow z).isD v,by have:=I k ((S v).getD (.slice none 0 0)) (by rw[MA,G];rfl);rw[NF];exact this⟩
theorem uQ:prog.underlying 145=some (.map 27 34):=kr
theorem ucb {p:Prop} (h:p:=by
  have h1:=hP.out.low G (g:=g) (by rw[J.out];exact Z);have h2:=hP.out.notMap G;rw[J.out]at h2;have:=m'.out.size;exact⟨by omega,by omega,fun e=>h2 (by rw[Z,e])⟩):p:=h
theorem Es (l:List Evt) (key:List Int) (v vk:Value) (w:World) (hl:bh w v l) (hk:ju w vk key) (T5:∀e∈l,∀x∈e.vals,ja x) (B2:∀e∈l,e.vals.length<=1048576) :
  Calls prog 42 #[v,vk] w (mC w (dz key l)):=by
 have HL:=jD hl;have HK:=jD hk;have U5:=jD T5;have U3:=jD B2;have Z4:=jD (ra l v w hl);obtain⟨A,c,rfl,l1,l2,G2⟩:=hl;obtain⟨Ak,ck,rfl,-⟩:=hk;have Z7:=ay l1 l2;have Y8:=@run_makeMap prog;obtain⟨se,Y3⟩:=jE (bH l);have H3:=jD Y3;obtain⟨R,hR⟩:=jE (dz key l);have R5:=jD hR;rw[hR];rw[Y3]at Z4;have X6:=jD G2;clear Y3 hR T5 B2 G2 l1 l2;go_enter func42,ntmps42;go_wp2_with fail;refine Z4.out.mono ?_;rintro e w2 ⟨rfl,A5⟩;have T3:=jD A5;clear A5
 by_cases h0:se=0
 case neg =>
  have K5:(se != 0)=true:=jQ h0;have HX:Hid (R=(([],[]),se)):=jD (by rw[<-R5.out,dz,lG H3.out h0,Mp h0]);clear h0;go_wp2_with fail;rw[HX.out];exact Mv (v:=.tuple #[.slice none 0 0,.slice none 0 0,Mk se]) (by simp[results,results42,go_sem]) rfl ⟨_,_,rfl,Sl.nil _ _ _ _ _ (Mu _),Sl.nil _ _ _ _ _ (Mu _),T3.out⟩
 subst h0;obtain⟨Z5,hlen⟩:=kJ H3.out;have S4:Hid (∀E,em (fun _ e=>(cz key e).2.2) none l=E->R=if E≠0 then (([],[]),E) else ((cA key l,bV key l),0)):=jD fun E hE=>by rw[<-R5.out,dz,tw H3.out,hE]
 clear Z5;have hi:=Np mo;have hj:=Np qJ;have hq:=Np kM;obtain⟨i0,hi,S7,U6,Z6⟩:=hi;obtain⟨j0,hj,V5,S5,W4⟩:=hj;obtain⟨q0,hq,R7,R6,P7⟩:=hq;obtain⟨ES,X3⟩:=eh (em (fun _ e=>(cz key e).2.2) none l);go_wp2_with fail;refine bg fun w3 e3=>?_
 obtain⟨B,hB⟩:=jE w2.heap.size;have H6:Hid (PartsW B B (.slice none 0 0) w3 (fun _=>none) (fun _=>[]) 0):=jD (by rw[e3,<-hB];exact xf w2.heap.size w2);have W7:Hid (Mm w w3):=jD (by rw[e3];exact bt T3.out _);have V8:B<w3.heap.size:=by rw[e3,<-hB];simp
 have K2:Hid (w.heap.size<=B):=jD (by rw[<-hB];exact T3.out.size);rw[hB];clear e3 hB;obtain⟨WB,U8⟩:∃q,q=w.heap.size:=⟨_,rfl⟩
 go_loopw [9,26] (fun av i wr=>∃(k n:Nat) (ks:List Vl) (SS:Vl->Option Value) (EE:Vl->List EV),k<=l.length/\i=Mk k/\Hid (n<=k/\ks.length<=k)/\Hid (wr.ownsRow B 27 3 av ks.length (aQ ks))/\Hid (PartsW B B av wr SS EE n)/\Hid (KeysP key (l.take k) ks EE/\em (fun _ e=>(cz key e).2.2) (jk l k) (l.drop k)=ES/\Mm w wr/\w3.heap.size<=wr.heap.size)) (fun _ i _=>l.length-(intOf i).toNat)
 case atStart=>exact⟨0,0,[],_,_,Mu _,rfl,jD ⟨Mt _,Mt _⟩,jD ⟨rfl,.inl ⟨rfl,rfl⟩⟩,H6,jD ⟨Di key,X3.out,W7.out,Mt _⟩⟩
 case round =>
  obtain⟨k,n,ks,SS,EE,hk,rfl,p',q',hP,hI⟩:=hrel;have hb:=hI.out.2.2.1;obtain⟨Ar,cr,rfl⟩:=aH q'.out;obtain⟨n',T1⟩:∃q,q=ks.length:=⟨_,rfl⟩;have I':=jD T1;rw[<-T1]at q' hP p' ⊢;have Q8:=p'.out;clear T1;have Y5:=hI.out.2.2.2
  by_cases R3:k<l.length
  ·have W6:(k:Int)<(l.length:Int):=by omega
   obtain⟨b,o,rfl,ve,A2,d0,d1,d2,d3,d4⟩:=X6.out k l[k] (Mq R3);have hg:=jD (Mq R3);have G1:l[k]∈l:=Nu R3;obtain⟨x,hx⟩:∃a,a=l[k]:=⟨_,rfl⟩;rw[<-hx]at hg A2 d0 d1 d2 d3 G1;clear hx;have HM:=jD G1;have Z2:=jD A2;obtain⟨Av,cv,rfl,-⟩:=A2;have Q6:b<w.heap.size:=Ms w ⟨b,_,none⟩ d0;replace d0:=aa hb d0;replace d1:=aa hb d1;replace d2:=aa hb d2;replace d3:=aa hb d3;replace d4:=aa hb d4;have R8:b<wr.heap.size:=ME Q6 hb.size;obtain⟨⟨G,ok,er⟩,hQ⟩:∃r,cz key x=r:=⟨_,rfl⟩;have HC:=jD (fun (W:World) (hW:Mm wr W)=>El key x _ _ W (HK.out.stays eN (ab hb hW)) (Z2.out.stays aD (ab hb hW)));rw[hQ]at HC;unfold cP at HC;have HQ:=jD hQ;clear hQ G1;go_wp2_with fail;refine (HC.out _ ?_).mono ?_
   ·exact jB
   unfold qD vlV;rintro e w4 ⟨rfl,Z3⟩;have m':Hid (Mm wr w4):=jD (ab (by exact jB) Z3);have X5:Hid (Mm w w4):=jD (ab hb m'.out);have V2:Hid (w4.heap[wr.heap.size]?=some (.cells [.int .i64 x.src,.int .i64 x.sq,.int .i64 x.ty,.int .i64 x.tm,.slice Av x.vals.length cv].toArray 60 (0,0))):=jD (am Z3 (ax _ _ _ rfl));clear Z3 d0 d1 d2 d3 d4
   by_cases hz:er=0
   case neg =>
    have HX:Hid (R=(([],[]),er)):=jD (by
     have h5:=mZ hg.out hI.out.2.1 (by rw[HQ.out]) hz;rw[S4.out _ X3.out,<-h5,Mp hz])
    have S8:(er != 0)=true:=jQ hz;clear hz;go_wp2_with fail;rw[HX.out];exact Mv (v:=.tuple #[.slice none 0 0,.slice none 0 0,Mk er]) (by simp[results,results42,go_sem]) rfl ⟨_,_,rfl,Sl.nil _ _ _ _ _ (Mu _),Sl.nil _ _ _ _ _ (Mu _),bt X5.out _⟩
   subst hz;have A4:=jD (uS hg.out hI.out.2.1 (by rw[HQ.out]));have P3:=jD (bP hg.out);have Y2:Hid (ja G):=jD (by have h:=Cx (key:=key) (U5.out x HM.out);rw[HQ.out]at h;exact h);have V4:=jD (U3.out x HM.out)
   cases ok with
   | false =>
    have O':=jD (ab m'.out (af w4 (.cells #[.int .i64 G.kind,.int .i64 G.num,.string G.text] 27 (0,0))));go_wp2_with fail;refine⟨⟨k+1,n,ks,SS,EE,by omega,by go_num,jD (by have:=p'.out;have:=I'.out;omega),jD (by rw[<-I'.out];exact ao q'.out O'.out),jD (hP.out.grow O'.out),jD ⟨by rw[P3.out];exact hI.out.1.skip (by rw[HQ.out]),A4.out,ab hb O'.out,Mx Y5 O'.out.size⟩⟩,by simp[intOf];omega⟩
   | true =>
    obtain⟨lk,Z0⟩:=BY w4 Y2.out;have X4:=jD Z0;have V3:=ab m'.out (af w4 (.cells #[.int .i64 G.kind,.int .i64 G.num,.string G.text] 27 (0,0)));have O':=jD V3;have P2:=hP.out.grow V3;obtain⟨Ax,cx,Z1⟩:=P2.len G;have Q4:=P2.map.look Cr uQ oT Z0;rw[Z1]at Q4;unfold vlV at Q4;have J:=jD Z1;obtain⟨ne,K3⟩:∃q,q=(EE G).length:=⟨_,rfl⟩;rw[<-K3]at Q4 J;have R':=jD K3;have E2:=jD P2;clear Z0 V3 P2 Z1 K3;have T8:=jD (rfl:w.heap.size=w.heap.size)
    by_cases h0:ne=0
    ·have K5:((ne:Int)==0)=true:=jQ h0;have HZ:=jD h0;clear h0;go_wp2_with (at_builtin;refine bA _ rfl (.tmp 47) (.tmp 49) 41 rfl B 27 i0 _ 3 32 underlying41 hi S7 U6 Z6 rfl dc (.slice Ar n' cr) n' (aQ ks) rfl (ao q'.out (ab O'.out (af _ _))) (some ⟨w4.heap.size+1,0,none⟩) 1 1 [Mk G.kind,Mk G.num,.string G.text] rfl (cB _ [Mk G.kind,Mk G.num,.string G.text] _ 1 3 _ jS rfl (by intro u hu;simp only[MN,Nh,Ni]at hu;rcases hu with rfl|rfl|rfl<;>rfl)) (by unfold maxLen;have:=p'.out;omega) (by have:=p'.out;omega) (by simp;have:=m'.out.size;omega) ?_;intro v8 w8 l' N' Y');obtain⟨A8,c8,rfl⟩:=aH l';refine bg fun wq eq=>?_
     rw[<-eq]at l' N';have K4:∀g,(Value.slice Ar n' cr).ownBlock=some g->B<=g/\g<wr.heap.size:=fun g Z=>ag q'.out Z
     have Y6:=N'.size;simp only[Oo]at Y6;have c':wq.heap[wr.heap.size]?=_:=(N'.block _ (by simp;have:=bC V2.out;omega) (fun e=>by have:=(K4 _ e.symm).2;omega)).trans (bB (bB V2.out));have k':wq.heap[w4.heap.size]?=some (.cells [.int .i64 G.kind,.int .i64 G.num,.string G.text].toArray 27 (0,0)):=(N'.block _ (by simp;omega) (fun e=>by have:=(K4 _ e.symm).2;have:=m'.out.size;omega)).trans (bB (ax _ _ _ rfl));have F1:=jD ((E2.out.grow (af _ _)).keyApp N' Y');have P1:=jD l';have V1:Hid (Mm w wq):=jD ((ab hb (ab O'.out (af _ _))).trans (au N' (by have:=hb.size;have:=m'.out.size;simp;omega) (fun g e=>by have:=(K4 g e).1;have:=K2.out;omega)));have B6:w3.heap.size<=wq.heap.size:=by have:=m'.out.size;omega
     obtain⟨Y,V'⟩:∃q,q=w4.heap.size:=⟨_,rfl⟩;obtain⟨X,R0⟩:∃q,q=wr.heap.size:=⟨_,rfl⟩;rw[<-V']at k';rw[<-R0]at c';have G':X<wq.heap.size:=bC c';have J':Y<wq.heap.size:=bC k';have Q0:Hid (∀g,(Value.slice Ax ne cx).ownBlock=some g->g<X/\g<Y/\g≠B):=jD fun g Z=>by
      exact ucb
     have X1:Hid (ne<=k):=jD (by
      have h:=congrArg List.length (hI.out.1.evs G);rw[MB,<-R'.out]at h;have h2:=Ow (dO key G) (l.take k);rw[Nx]at h2;omega)
     have F':Hid (X≠B/\Y≠B):=jD (by have:=m'.out.size;omega);have S2:Hid (ks++[G]=if (EE G).length=0 then ks++[G] else ks):=jD (by rw[<-R'.out,Mp HZ.out]);rw[<-V',<-R0];clear eq V' R0 N' l' Y';have U0:=ae c' 0;have X':=ae c' 1;have K0:=ae c' 2;have H0:=ae c' 3;have V0:=ae c' 4;have P0:=ae k' 0;have X0:=ae k' 1;have S0:=ae k' 2;simp only[OS,OA]at U0 X' K0 H0 V0 P0 X0 S0;have f':∀W,W.heap[X]?=wq.heap[X]?->W.heap[Y]?=wq.heap[Y]?->(fun W:World=>Ml W X 0 (Mk x.src)/\Ml W X 1 (Mk x.sq)/\Ml W X 2 (Mk x.ty)/\Ml W X 3 (Mk x.tm)/\Ml W X 4 (.slice Av x.vals.length cv)/\Ml W Y 0 (Mk G.kind)/\Ml W Y 1 (Mk G.num)/\Ml W Y 2 (.string G.text)) W:=fun W h1 h2=>⟨(ML (a:=⟨X,0,none⟩) h1).trans U0,(ML (a:=⟨X,1,none⟩) h1).trans X',(ML (a:=⟨X,2,none⟩) h1).trans K0,(ML (a:=⟨X,3,none⟩) h1).trans H0,(ML (a:=⟨X,4,none⟩) h1).trans V0,(ML (a:=⟨Y,0,none⟩) h2).trans P0,(ML (a:=⟨Y,1,none⟩) h2).trans X0,(ML (a:=⟨Y,2,none⟩) h2).trans S0⟩
     clear c' k' U0 X' K0 H0 V0 P0 X0 S0;refine wp_region_noPanic ?_;refine wp_region_held_drew (S:=(fun W:World=>Ml W X 0 (Mk x.src)/\Ml W X 1 (Mk x.sq)/\Ml W X 2 (Mk x.ty)/\Ml W X 3 (Mk x.tm)/\Ml W X 4 (.slice Av x.vals.length cv)/\Ml W Y 0 (Mk G.kind)/\Ml W Y 1 (Mk G.num)/\Ml W Y 2 (.string G.text))) kr (f' _ rfl rfl) (fun I=>?_);refine tkH [0,1,2] ?_;refine nxH 3 (fun K hK=>?_)
     focus (go_simp;refine (qU x (.slice Av x.vals.length cv) _ ?_ V4.out).mono ?_;(focus (exact Z2.out.stays aD (ab V1.out jB)));intro e wc X2;obtain⟨uc,rfl,U',E1⟩:=X2;have i':Mm wq wc:=ab (Mr _ _).drew E1;obtain⟨Ac,cc,rfl,-⟩:=id U'.1;have R1:Hid (ub wq.heap.size wc (.slice Ac x.vals.length cc) x.vals):=jD U';have Y1:=jD i';clear U' E1;unfold cP)
     refine hK.out _ _ (f' _ (i'.block X G') (i'.block Y J')) (fun I=>?_);clear hK K;refine nxH 4 (fun K hK=>?_)
     go_simp
     refine hK.out _ _ (f' _ ((ab i' (af wc _)).block X G') ((ab i' (af wc _)).block Y J')) (fun I=>?_);clear hK K;refine nxH 5 (fun K hK=>?_)
     focus (have O:=ab i' (af wc (.cells [.int .i64 x.src,.int .i64 x.sq,.int .i64 x.ty,.int .i64 x.tm,.slice Ac x.vals.length cc].toArray 60 (0,0)));have z':=F1.out.grow O;obtain⟨w5,st,H',a',M1,r'⟩:=z'.map.entry qZ uQ oT BH X4.out (by have:=p'.out;unfold maxLen;omega);rw[J.out]at H';unfold vlV at H';have d':=z'.hasKept a' G;rw[J.out,<-R'.out]at d';have u':=(a'.block X (ME G' O.size) (fun e=>F'.out.1 (MX e))).trans (O.block X G');have s':=(a'.block Y (ME J' O.size) (fun e=>F'.out.2 (MX e))).trans (O.block Y J');have S3:=Mx O.size a'.size;refine oG (.tmp 51) (.tmp 52) rfl jR jR H' ?_)
     refine hK.out _ _ (f' _ u' s') (fun I=>?_);clear hK K;refine tkH [6,8] ?_;refine nxH 7 (fun K hK=>?_)
     focus ((try (change Oper.wp _ _ _ _ _ _));refine eG _ (.tmp 53) (.tmp 56) 34 rfl B 60 j0 _ 5 56 underlying34 hj V5 S5 W4 rfl dc (.slice Ax ne cx) ne (ci (EE G)) jR d' (some ⟨wc.heap.size,0,none⟩) 1 1 [Mk x.src,Mk x.sq,Mk x.ty,Mk x.tm,.slice Ac x.vals.length cc] jR (srcG (cB _ [Mk x.src,Mk x.sq,Mk x.ty,Mk x.tm,.slice Ac x.vals.length cc] _ 1 5 _ jS rfl (by intro u hu;simp only[MN,Nh,Ni]at hu;rcases hu with rfl|rfl|rfl|rfl|rfl<;>rfl)) a' (fun e=>by have h1:=MX e;have h2:=Y1.out.size;omega)) (by unfold maxLen;have:=X1.out;omega) (by have:=X1.out;omega) om ?_;intro v7 w7 g' j' t';obtain⟨A7,c7,rfl⟩:=aH g';have x':=(j'.block X om (fun e=>by have:=(Q0.out X e.symm).1;omega)).trans u';have y':=(j'.block Y om (fun e=>by have:=(Q0.out Y e.symm).2.1;omega)).trans s';have W3:=Mx S3 j'.size)
     refine hK.out _ _ (f' _ x' y') (fun I=>?_);clear hK K;refine nxH 9 (fun K hK=>?_)
     focus (obtain⟨w9,Q1,h',C'⟩:=r' w7 (.slice A7 (ne+1) c7) (j'.block B M1 (fun e=>(Q0.out B e.symm).2.2 rfl));have S':=(h'.block X om (fun e=>F'.out.1 (MX e))).trans x';have T':=(h'.block Y om (fun e=>F'.out.2 (MX e))).trans y';refine kX (.tmp 51) (.tmp 59) (.tmp 58) rfl jR jR jR Q1 ?_)
     refine hK.out _ _ (f' _ S' T') (fun I=>?_);clear hK K;refine dn ?_;have D':w5.grownBy w7 ((SS G).getD (.slice none 0 0)).ownBlock:=by rw[J.out];exact j'
     have A':w7.ownsRow B 60 5 (.slice A7 (ne+1) c7) ((EE G).length+1) (ci (EE G)++[Mk x.src,Mk x.sq,Mk x.ty,Mk x.tm,.slice Ac x.vals.length cc]):=by rw[<-R'.out];exact g'
     have E':(Value.slice A7 (ne+1) c7).ownBlock=((SS G).getD (.slice none 0 0)).ownBlock\/(Value.slice A7 (ne+1) c7).ownBlock=some w5.heap.size:=by rw[J.out];exact t'
     have V7:B<=wq.heap.size:=by omega
     have P':∀g,(Value.slice A8 (n'+1) c8).ownBlock=some g->g<wq.heap.size:=fun g Z=>(ag P1.out Z).2
     have K1:=z'.push (x:=G) (y:=x) (u:=.slice Ac x.vals.length cc) (by have:=O.size;omega) (fun g Z=>ME (P' g Z) O.size) a' D' h' A' E' C' (R1.out.1.stays aD (af wc _)) (fun g Z=>by
      obtain⟨n1,n2⟩:=R1.out.2 g Z;refine⟨by simp;omega,by have:=F'.out;omega,fun e=>by have:=P' g e;omega,fun v' z hz e=>?_⟩;have:=(ag (F1.out.row v' z hz).2.1 e).2;omega)
     have A3:=jD K1;have M3:=jD (z'.keyRow G a' D' h' (ao P1.out O));have B3:Hid (Mm w w9):=jD (by
      have hA:=K2.out;have q0:=(ab V1.out O);have q1:=q0.size;exact ((q0.trans (au a' om (fun g e=>by injection e with e;omega))).trans (au j' om (fun g e=>by have:=hP.out.low G (g:=g) (by rw[J.out];exact e);omega))).trans (au h' om (fun g e=>by injection e with e;omega)))
     have Y7:=Mx W3 h'.size;have W1:=jD (hI.out.1.push (y:=x) (x:=G) (by rw[HQ.out]) (by rw[HQ.out]) (.slice Ac x.vals.length cc));rw[<-S2.out,<-P3.out]at W1;clear D' A' E' K1 z' a' j' h' g' t' C' r' H' Q1 d' i' O u' s' x' y' S' T' f' I;go_wp2_with fail;refine⟨⟨k+1,n+1,(ks++[G]),_,_,by omega,by go_num,jD ⟨by have:=p'.out;omega,by rw[Mw,<-I'.out];have:=p'.out;simp;omega⟩,jD (by rw[Mw,<-I'.out,gk];exact M3.out),A3,jD ⟨W1.out,A4.out,B3.out,by omega⟩⟩,by simp[intOf];omega⟩
    ·have K5:((ne:Int)==0)=false:=jQ h0;have HZ:=jD h0;clear h0;go_wp2_with fail;refine bg fun wq eq=>?_
     have U1:Mm w4 wq:=gb eq;have c':=am U1 V2.out;have k':wq.heap[w4.heap.size]?=some (.cells [.int .i64 G.kind,.int .i64 G.num,.string G.text].toArray 27 (0,0)):=by rw[eq];exact ax _ _ _ rfl
     have F1:=jD (E2.out.grow (show Below _ _ wq by rw[eq];exact Mr _ _));have P1:=jD (ao q'.out (ab m'.out U1));have V1:Hid (Mm w wq):=jD (ab X5.out U1);have B6:w3.heap.size<=wq.heap.size:=by have:=m'.out.size;have:=U1.size;omega
     obtain⟨Y,V'⟩:∃q,q=w4.heap.size:=⟨_,rfl⟩;obtain⟨X,R0⟩:∃q,q=wr.heap.size:=⟨_,rfl⟩;rw[<-V']at k';rw[<-R0]at c';have G':X<wq.heap.size:=bC c';have J':Y<wq.heap.size:=bC k';have Q0:Hid (∀g,(Value.slice Ax ne cx).ownBlock=some g->g<X/\g<Y/\g≠B):=jD fun g Z=>by
      exact ucb
     have X1:Hid (ne<=k):=jD (by
      have h:=congrArg List.length (hI.out.1.evs G);rw[MB,<-R'.out]at h;have h2:=Ow (dO key G) (l.take k);rw[Nx]at h2;omega)
     have F':Hid (X≠B/\Y≠B):=jD (by have:=m'.out.size;omega);have S2:Hid (ks=if (EE G).length=0 then ks++[G] else ks):=jD (by rw[<-R'.out,Mo HZ.out]);rw[<-V',<-R0];clear eq U1 V' R0;have U0:=ae c' 0;have X':=ae c' 1;have K0:=ae c' 2;have H0:=ae c' 3;have V0:=ae c' 4;have P0:=ae k' 0;have X0:=ae k' 1;have S0:=ae k' 2;simp only[OS,OA]at U0 X' K0 H0 V0 P0 X0 S0;have f':∀W,W.heap[X]?=wq.heap[X]?->W.heap[Y]?=wq.heap[Y]?->(fun W:World=>Ml W X 0 (Mk x.src)/\Ml W X 1 (Mk x.sq)/\Ml W X 2 (Mk x.ty)/\Ml W X 3 (Mk x.tm)/\Ml W X 4 (.slice Av x.vals.length cv)/\Ml W Y 0 (Mk G.kind)/\Ml W Y 1 (Mk G.num)/\Ml W Y 2 (.string G.text)) W:=fun W h1 h2=>⟨(ML (a:=⟨X,0,none⟩) h1).trans U0,(ML (a:=⟨X,1,none⟩) h1).trans X',(ML (a:=⟨X,2,none⟩) h1).trans K0,(ML (a:=⟨X,3,none⟩) h1).trans H0,(ML (a:=⟨X,4,none⟩) h1).trans V0,(ML (a:=⟨Y,0,none⟩) h2).trans P0,(ML (a:=⟨Y,1,none⟩) h2).trans X0,(ML (a:=⟨Y,2,none⟩) h2).trans S0⟩
     clear c' k' U0 X' K0 H0 V0 P0 X0 S0;refine wp_region_noPanic ?_;refine wp_region_held_drew (S:=(fun W:World=>Ml W X 0 (Mk x.src)/\Ml W X 1 (Mk x.sq)/\Ml W X 2 (Mk x.ty)/\Ml W X 3 (Mk x.tm)/\Ml W X 4 (.slice Av x.vals.length cv)/\Ml W Y 0 (Mk G.kind)/\Ml W Y 1 (Mk G.num)/\Ml W Y 2 (.string G.text))) kr (f' _ rfl rfl) (fun I=>?_);refine tkH [0,1,2] ?_;refine nxH 3 (fun K hK=>?_)
     focus (go_simp;refine (qU x (.slice Av x.vals.length cv) _ ?_ V4.out).mono ?_;(focus (exact Z2.out.stays aD (ab V1.out jB)));intro e wc X2;obtain⟨uc,rfl,U',E1⟩:=X2;have i':Mm wq wc:=ab (Mr _ _).drew E1;obtain⟨Ac,cc,rfl,-⟩:=id U'.1;have R1:Hid (ub wq.heap.size wc (.slice Ac x.vals.length cc) x.vals):=jD U';have Y1:=jD i';clear U' E1;unfold cP)
     refine hK.out _ _ (f' _ (i'.block X G') (i'.block Y J')) (fun I=>?_);clear hK K;refine nxH 4 (fun K hK=>?_)
     go_simp
     refine hK.out _ _ (f' _ ((ab i' (af wc _)).block X G') ((ab i' (af wc _)).block Y J')) (fun I=>?_);clear hK K;refine nxH 5 (fun K hK=>?_)
     focus (have O:=ab i' (af wc (.cells [.int .i64 x.src,.int .i64 x.sq,.int .i64 x.ty,.int .i64 x.tm,.slice Ac x.vals.length cc].toArray 60 (0,0)));have z':=F1.out.grow O;obtain⟨w5,st,H',a',M1,r'⟩:=z'.map.entry qZ uQ oT BH X4.out (by have:=p'.out;unfold maxLen;omega);rw[J.out]at H';unfold vlV at H';have d':=z'.hasKept a' G;rw[J.out,<-R'.out]at d';have u':=(a'.block X (ME G' O.size) (fun e=>F'.out.1 (MX e))).trans (O.block X G');have s':=(a'.block Y (ME J' O.size) (fun e=>F'.out.2 (MX e))).trans (O.block Y J');have S3:=Mx O.size a'.size;refine oG (.tmp 51) (.tmp 52) rfl jR jR H' ?_)
     refine hK.out _ _ (f' _ u' s') (fun I=>?_);clear hK K;refine tkH [6,8] ?_;refine nxH 7 (fun K hK=>?_)
     focus ((try (change Oper.wp _ _ _ _ _ _));refine eG _ (.tmp 53) (.tmp 56) 34 rfl B 60 j0 _ 5 56 underlying34 hj V5 S5 W4 rfl dc (.slice Ax ne cx) ne (ci (EE G)) jR d' (some ⟨wc.heap.size,0,none⟩) 1 1 [Mk x.src,Mk x.sq,Mk x.ty,Mk x.tm,.slice Ac x.vals.length cc] jR (srcG (cB _ [Mk x.src,Mk x.sq,Mk x.ty,Mk x.tm,.slice Ac x.vals.length cc] _ 1 5 _ jS rfl (by intro u hu;simp only[MN,Nh,Ni]at hu;rcases hu with rfl|rfl|rfl|rfl|rfl<;>rfl)) a' (fun e=>by have h1:=MX e;have h2:=Y1.out.size;omega)) (by unfold maxLen;have:=X1.out;omega) (by have:=X1.out;omega) om ?_;intro v7 w7 g' j' t';obtain⟨A7,c7,rfl⟩:=aH g';have x':=(j'.block X om (fun e=>by have:=(Q0.out X e.symm).1;omega)).trans u';have y':=(j'.block Y om (fun e=>by have:=(Q0.out Y e.symm).2.1;omega)).trans s';have W3:=Mx S3 j'.size)
     refine hK.out _ _ (f' _ x' y') (fun I=>?_);clear hK K;refine nxH 9 (fun K hK=>?_)
     focus (obtain⟨w9,Q1,h',C'⟩:=r' w7 (.slice A7 (ne+1) c7) (j'.block B M1 (fun e=>(Q0.out B e.symm).2.2 rfl));have S':=(h'.block X om (fun e=>F'.out.1 (MX e))).trans x';have T':=(h'.block Y om (fun e=>F'.out.2 (MX e))).trans y';refine kX (.tmp 51) (.tmp 59) (.tmp 58) rfl jR jR jR Q1 ?_)
     refine hK.out _ _ (f' _ S' T') (fun I=>?_);clear hK K;refine dn ?_;have D':w5.grownBy w7 ((SS G).getD (.slice none 0 0)).ownBlock:=by rw[J.out];exact j'
     have A':w7.ownsRow B 60 5 (.slice A7 (ne+1) c7) ((EE G).length+1) (ci (EE G)++[Mk x.src,Mk x.sq,Mk x.ty,Mk x.tm,.slice Ac x.vals.length cc]):=by rw[<-R'.out];exact g'
     have E':(Value.slice A7 (ne+1) c7).ownBlock=((SS G).getD (.slice none 0 0)).ownBlock\/(Value.slice A7 (ne+1) c7).ownBlock=some w5.heap.size:=by rw[J.out];exact t'
     have V7:B<=wq.heap.size:=by omega
     have P':∀g,(Value.slice Ar n' cr).ownBlock=some g->g<wq.heap.size:=fun g Z=>(ag P1.out Z).2
     have K1:=z'.push (x:=G) (y:=x) (u:=.slice Ac x.vals.length cc) (by have:=O.size;omega) (fun g Z=>ME (P' g Z) O.size) a' D' h' A' E' C' (R1.out.1.stays aD (af wc _)) (fun g Z=>by
      obtain⟨n1,n2⟩:=R1.out.2 g Z;refine⟨by simp;omega,by have:=F'.out;omega,fun e=>by have:=P' g e;omega,fun v' z hz e=>?_⟩;have:=(ag (F1.out.row v' z hz).2.1 e).2;omega)
     have A3:=jD K1;have M3:=jD (z'.keyRow G a' D' h' (ao P1.out O));have B3:Hid (Mm w w9):=jD (by
      have hA:=K2.out;have q0:=(ab V1.out O);have q1:=q0.size;exact ((q0.trans (au a' om (fun g e=>by injection e with e;omega))).trans (au j' om (fun g e=>by have:=hP.out.low G (g:=g) (by rw[J.out];exact e);omega))).trans (au h' om (fun g e=>by injection e with e;omega)))
     have Y7:=Mx W3 h'.size;have W1:=jD (hI.out.1.push (y:=x) (x:=G) (by rw[HQ.out]) (by rw[HQ.out]) (.slice Ac x.vals.length cc));rw[<-S2.out,<-P3.out]at W1;clear D' A' E' K1 z' a' j' h' g' t' C' r' H' Q1 d' i' O u' s' x' y' S' T' f' I;go_wp2_with fail;refine⟨⟨k+1,n+1,ks,_,_,by omega,by go_num,jD ⟨by have:=p'.out;omega,by have:=p'.out;have:=I'.out;omega⟩,jD (by rw[<-I'.out];exact M3.out),A3,jD ⟨W1.out,A4.out,B3.out,by omega⟩⟩,by simp[intOf];omega⟩
  ·have W6:¬(k:Int)<(l.length:Int):=by omega
   obtain rfl:k=l.length:=by omega
   have Q2:=xy (Mt _) hI.out.2.1;have HR:=jD (S4.out _ X3.out);rw[<-Q2,Mo jS]at HR;have hK:=hI.out.1;rw[Nq]at hK;have T6:=jD hK;have B5:=jD (vB ks (.slice Ar n' cr) B wr (by rw[<-I'.out];exact q'.out) (by rw[<-I'.out];have:=p'.out;omega));have S6:=jD (fun (P5:List Vl) (hp:P5.Perm ks) (hs:P5.Pairwise (fun a b=>¬vlC b a<0))=>hK.sorted hp hs);have P6:Hid (n<=4096):=jD (by have:=p'.out;omega);clear Q2 hK;go_wp2_with fail;refine B5.out.mono ?_;rintro e w5 ⟨rfl,es,hp,W2,U2,R4⟩;have Q5:es=cA key l:=S6.out es hp (by first|exact W2|exact W2.imp fun h=>Int.not_lt.1 h);have E2:=jD (hP.out.keyApp R4 (.inl rfl));have H5:es.length=n':=by rw[I'.out];exact hp.length_eq
   have O':Hid (Mm w w5):=jD (hb.trans (au R4 hb.size (fun g e=>by have:=(ag q'.out e).1;have:=K2.out;omega)));have P4:=jD Q5;have A1:=jD H5;have Y4:=jD U2;obtain⟨Ae,ce,A2,e1,e2,G2⟩:=id U2;injection A2 with q1 q2 q3;subst q1 q3;have A6:=jD G2;clear hp W2 U2 R4 Q5 H5 G2 e1 e2 q2;have Y2:Hid (∀v∈es,ja v):=jD (fun v hv=>by
    rw[P4.out]at hv;obtain⟨e,he,h1,rfl⟩:=((iV key l).2 v).1 hv;exact Cx (U5.out e he))
   go_wp2_with fail;obtain⟨wa,rfl⟩:∃wa:World,wa=wr:=⟨_,rfl⟩
   go_loopw [15,65] (fun av i wx=>∃k:Nat,k<=n'/\i=Mk k/\Hid (wx.ownsRow w5.heap.size 34 1 av k ((es.take k).map fun v=>(SS v).getD (.slice none 0 0)))/\Hid (Mm w5 wx)) (fun _ i _=>n'-(intOf i).toNat)
   case atStart=>exact⟨0,Mu _,rfl,jD ⟨rfl,.inl ⟨rfl,rfl⟩⟩,jD (Mr _ _)⟩
   case round =>
    obtain⟨j,hj,rfl,Y0,B'⟩:=hrel;obtain⟨Ao,co,rfl⟩:=aH Y0.out
    by_cases X8:j<n'
    ·have H7:(j:Int)<(n':Int):=by omega
     have S1:es[j]?=some (es[j]'(by have:=A1.out;omega)):=Mq (by have:=A1.out;omega);obtain⟨y,hy⟩:∃y,y=es[j]'(by have:=A1.out;omega):=⟨_,rfl⟩;rw[<-hy]at S1;obtain⟨bk,ok,rfl,y0,y1,y2⟩:=A6.out j y S1;have U4:=Y2.out y (MI S1);have V6:bk<w5.heap.size:=Ms w5 ⟨bk,_,none⟩ y0;have P8:bk<wr.heap.size:=ME V6 B'.out.size;replace y0:=aa B'.out y0;replace y1:=aa B'.out y1;replace y2:=aa B'.out y2;have HG:=jD S1;obtain⟨lk,Z0⟩:=BY wr U4;have T2:=E2.out.grow (ab B'.out (af wr (.cells #[.int .i64 y.kind,.int .i64 y.num,.string y.text] 27 (0,0))));have Q3:=T2.map.look Cr uQ oT Z0;obtain⟨Ay,cy,H2⟩:=T2.len y;rw[H2]at Q3;obtain⟨ny,T4⟩:∃q,q=(EE y).length:=⟨_,rfl⟩;rw[<-T4]at Q3 H2;unfold vlV at Q3;have T7:=jD H2;have W8:j<=4096:=by have:=A1.out;have:=P6.out;omega
     clear hy S1 U4 Z0 T2 H2 T4;go_wp2_with (at_builtin;refine bA _ rfl (.tmp 69) (.tmp 73) 81 rfl w5.heap.size 34 q0 _ 1 24 underlying81 hq R7 R6 P7 rfl dc (.slice Ao j co) j _ rfl (ao Y0.out (ab (af wr _) (af _ _))) (some ⟨wr.heap.size+1,0,none⟩) 1 1 [.slice Ay ny cy] rfl (cB _ [.slice Ay ny cy] _ 1 1 _ jS rfl (by intro u hu;simp only[MN,Nh,Ni]at hu;rcases hu with rfl;rfl)) (by unfold maxLen;omega) om (by simp;have:=B'.out.size;omega) ?_;intro v8 w8 l' N' Y');have Q7:Mm w5 w8:=(ab B'.out (ab (af wr _) (af _ _))).trans (au N' (by simp;have:=B'.out.size;omega) (fun g h=>(ag Y0.out h).1));refine⟨⟨j+1,by omega,by go_num,jD ?_,jD Q7⟩,by simp[intOf];omega⟩;rw[bP HG.out,NY];simp only[MF,Om,T7.out];exact l'
    ·have H7:¬(j:Int)<(n':Int):=by omega
     have R2:es.take j=es:=Of (by have:=A1.out;omega);have Z':=Y0.out;rw[R2]at Z';have H4:Sl nS 1 wr (.slice Ao j co) (es.map fun v=>(EE v).map (·.1)):=dr (zV (E2.out.grow B'.out) es) (Mr _ _) (by rw[MB];have:es.length=j:=by { have:=A1.out;omega };rw[this];exact Z');have heq:(es.map fun v=>(EE v).map (·.1))=bV key l:=by
      unfold bV;rw[<-P4.out];exact Pz fun v _=>T6.out.evs v
     rw[heq]at H4;have X7:=jD H4;have U7:=jD (Y4.out.stays aD B'.out);clear H4 heq Z' R2;go_wp2_with fail;rw[HR.out];exact Mv (v:=.tuple #[.slice Ar n' cr,.slice Ao j co,Mk 0]) (by simp[results,results42,go_sem]) rfl ⟨_,_,rfl,by rw[<-P4.out];exact U7.out,X7.out,ab O'.out B'.out⟩
end Go.Proofs.YtbjicljfjkdeeaaGreatDoor
