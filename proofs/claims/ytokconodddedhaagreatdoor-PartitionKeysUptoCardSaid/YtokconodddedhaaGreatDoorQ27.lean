/- Part. -/
import Derived.Shelf.LaysM
import Derived.Shelf.Strconv.AppendIntPublic10
import Derived.Test.YtokconodddedhaaGreatDoorQ26
import Derived.Lib.AppendStr
import Derived.Shelf.Strconv.Itoa1
set_option maxRecDepth 100000
set_option maxHeartbeats 16000000
set_option linter.unusedVariables false
set_option linter.unusedSimpArgs false
namespace Go.Proofs
section
open Go.Shelf
def Tryz.laysM176_ren:Go.Shelf.Ren:=⟨fun|176=>252|249=>318|288=>353|283=>376|284=>377|285=>378|286=>379|129=>137|317=>401|318=>402|319=>403|320=>404|337=>421|338=>422|n=>n,fun|37=>291|2=>2|3=>3|53=>210|4=>4|9=>9|171=>391|0=>0|173=>393|212=>409|51=>208|5=>5|20=>20|213=>410|46=>152|232=>428|233=>429|n=>n,fun|17=>3|18=>4|19=>5|n=>n⟩
theorem Tryz.laysM176:Go.Proofs.LaysM.n176 Tryz.prog Tryz.laysM176_ren:=by
 constructor
 all_goals first|kernel_rfl|(intro _;kernel_rfl)|(constructor<;>first|kernel_rfl|(intro _;kernel_rfl))
end
end Go.Proofs
namespace Go.Proofs.YtokconodddedhaaGreatDoor
open Go.Proofs.Tryz Go.RowKit
section
open Go.RowKit Go.Lib
def fd:Bs->List UInt8
 | []=>[]
 | x::r=>itoa x.1++64::(itoa (x.2:Int)++32::fd r)
theorem ky (l:Bs) (x:Int × Nat):fd (l++[x])=fd l++itoa x.1++[64]++itoa (x.2:Int)++[32]:=by
 induction l with
 | nil=>simp[fd]
 | cons a l h=>rw[Mr,fd,h,fd];simp
theorem xx:∀{l m:Bs},fd l=fd m->l=m
 | [],[],_=>rfl
 | [],_::_,h=>by simp[fd]at h
 | _::_,[],h=>by simp[fd]at h
 | a::l,b::m,h=>by
  rw[fd,fd]at h;obtain⟨D,I⟩:=Jy (pA a.1 64 dc dc) (pA b.1 64 dc dc) h;obtain⟨F,G⟩:=Jy (pA (a.2:Int) 32 dc dc) (pA (b.2:Int) 32 dc dc) I;have z:=wF D;have J:=wF F;rw[xx G,Prod.ext z om]
theorem wn (n:Int):0<(itoa n).length:=by
 rcases No (itoa n).length with h|h
 ·exfalso
  have h0:=L3 h;unfold itoa at h0
  split at h0
  ·simp at h0
  ·exact Kn _ h0
 ·exact h
theorem jz {n:Nat} (h:n<100):(itoa (n:Int)).length<=2:=by
 rw[itoa_nonneg,decDigits_length]
 by_cases z:n<10
 ·rw[nDigits_small z];omega
 ·rw[nDigits_big z,nDigits_small (show n / 10<10 by omega)];omega
theorem xB:(prog.info? 5).map (fun i=>(i.zero,i.size,i.bytes))=some (some (.int .u8 0),1,1):=kr
theorem Ah (u:Nat) (hu:u<100) (W:World):Calls prog 376 #[KW u] W fun e w'=>e=.returned (.string ⟨(decDigits u).toArray⟩)/\w'=W:=Any.internal_strconv_small { Tryz.laysM176 with } u hu W
def zA (w:World) (B n:Nat) (v:Value) (xs:List Value) (u:Nat) (e:Ending) (W:World):Prop :=
 ∃v',e=.returned v'/\W.ownsRow B 5 1 v' (n+(itoa (u:Int)).length) (xs++Lib.byteCells (itoa (u:Int)))/\w.grownBy W v.ownBlock
theorem D1 (B n u:Nat) (hu:u<100) (v:Value) (xs:List Value) (w:World) (z:w.ownsRow B 5 1 v n xs) (hB:B<=w.heap.size) (hn:n<=1099511627776) :
  Calls prog 353 #[v,.int .u64 u,KW 10] w (zA w B n v xs u):=by
 have G:=jD (fun W=>Ah u hu W);have hlen:=jz hu;have HD:=jD (itoa_nonneg u);rw[itoa_nonneg]at hlen;obtain⟨i0,hi,Z,O,a'⟩:=LD xB;have F:(⟨(decDigits u).toArray⟩:ByteArray).size=(decDigits u).length:=by simp[ByteArray.size]
 have c':(u:Int)<100:=by omega
 have hw:IntKind.i64.wrap (u:Int)=u:=dM om;obtain⟨D,hD⟩:=jF (decDigits u);rw[<-hD]at G hlen F HD;clear hD;have I:=jD z;obtain⟨A,c,rfl⟩:=ay z;clear z;go_enter func353,ntmps353;go_wp2_with fail;refine (G.out _).mono ?_;rintro e w' ⟨rfl,rfl⟩;go_wp2_with (at_builtin;refine Lib.wpList_append_own_string _ rfl _ _ 291 9 rfl B 5 i0 underlying291 underlying9 hi Z O a' _ _ _ rfl I.out ⟨D.toArray⟩ rfl (by rw[F];unfold maxLen;omega) (by rw[F];omega) hB ?_;intro v7 w7 h J b');go_ret;refine⟨_,rfl,?_,J⟩;rw[HD.out];rw[F]at h;exact h
theorem BR (B n u:Nat) (hu:u<100) (v:Value) (xs:List Value) (w:World) (z:w.ownsRow B 5 1 v n xs) (J:B<=w.heap.size) (G:n<=1099511627776) :
  Calls prog 318 #[v,KW u,KW 10] w (zA w B n v xs u):=by
 have F:=jD (D1 B n u hu v xs w z J G);have hw:IntKind.u64.wrap (u:Int)=u:=by simp[IntKind.wrap,IntKind.bits,IntKind.signed];omega
 have O:¬(u:Int)<0:=by omega
 obtain⟨A,c,rfl⟩:=ay z;clear z J G hu;go_enter func318,ntmps318;go_wp2_with fail;refine F.out.mono ?_;rintro e w' ⟨Z,rfl,h,D⟩;have I:=jD (And.intro h D);clear h D;go_wp2;go_ret;exact⟨_,rfl,I.out.1,I.out.2⟩
theorem mY {K:Act->World->Prop} {a:Act} {w:World} (h:∀W:World,W=w->K a W):K a w:=h w rfl
theorem jy (B n u:Nat) (hu:u<100) (v:Value) (xs:List Value) (w:World) (z:w.ownsRow B 5 1 v n xs) (J:B<=w.heap.size) (G:n<=1099511627776) :
  Calls prog 252 #[v,KW u,KW 10] w (zA w B n v xs u):=by
 have F:=jD (BR B n u hu v xs w z J G);obtain⟨A,c,rfl⟩:=ay z;clear z J G hu;go_enter func252,ntmps252;go_wp2_with fail;refine F.out.mono ?_;rintro e w' ⟨O,rfl,h,D⟩;have I:=jD (And.intro h D);clear h D;go_wp2;go_ret;exact⟨_,rfl,I.out.1,I.out.2⟩
structure KS (w X:World) (v:Value) (T:List UInt8) (ks:List (Nat × Int)):Prop where
 bel:KY w X
 row:X.ownsRow w.heap.size 5 1 v T.length (Lib.byteCells T)
 blk:∀p∈ks,X.heap[p.1]?=some (.cells [Value.int .u8 p.2].toArray 5 (0,0))/\v.ownBlock≠some p.1
section
variable {w X Y : World} {v v' : Value} {T U : List UInt8} {ks : List (Nat × Int)}
theorem KS.alloc (h:KS w X v T ks) (c:Int):KS w (X.alloc (.cells [Value.int .u8 c].toArray 5)) v T ((X.heap.size,c)::ks) :=
 ⟨aJ h.bel _,aj h.row (ag X _),fun p hp=>by
  rcases List.mem_cons.1 hp with rfl|hp
  ·exact⟨Mp X _,fun e=>by have:=(ah h.row e).2;simp at this⟩
  ·exact⟨(Mq X _ p.1 (aD (h.blk p hp).1)).trans (h.blk p hp).1,(h.blk p hp).2⟩⟩
theorem KS.drew (h:KS w X v T ks):KS w X.drew v T ks:=⟨h.bel.drew,h.row,h.blk⟩
theorem KS.nil (h:KS w X v T ks):KS w X v T []:=⟨h.bel,h.row,by simp⟩
theorem KS.src (h:KS w X v T ks) {k:Nat} {c:Int} (hk:(k,c)∈ks):Src X (some ⟨k,0,none⟩) 1 1 [.int .u8 c] :=
 Iq (h.blk _ hk).1 rfl (by simp[Value.oneCell'])
theorem KS.grown (h:KS w X v T ks) (F:X.grownBy Y v.ownBlock) {n:Nat} {xs:List Value} (G:Y.ownsRow w.heap.size 5 1 v' n xs) (J:n=U.length) (Z:xs=Lib.byteCells U) (hU:2<=U.length):KS w Y v' U ks:=by
 subst J Z;exact⟨h.bel.trans (am F h.bel.size (fun g e=>(ah h.row e).1)),G,fun p hp=>by
  have D:=h.blk p hp;have I:=(F.block p.1 (aD D.1) (fun e=>D.2 e.symm)).trans D.1;refine⟨I,fun e=>?_⟩;rcases G.2 with ⟨_,h0⟩|⟨g,cap,cur,hv,_,z,hnc,hcm,hcs,htake⟩
  ·omega
  ·rw[hv]at e;have O:g=p.1:=by simpa [Value.ownBlock] using e
   subst O;rw[I]at z;injection z with z;injection z with z _ _;rw[<-z]at hcs;simp at hcs;omega⟩
theorem KS.other (h:KS w X v T ks) (G:X.grownBy Y v.ownBlock) {b:Nat} {cs:Array Value} {t:TypeId} (F:X.heap[b]?=some (.cells cs t (0,0))) (J:t≠5):Y.heap[b]?=some (.cells cs t (0,0)):=by
 refine (G.block b (aD F) (fun e=>?_)).trans F;rcases h.row.2 with ⟨D,_⟩|⟨g,cap,cur,D,_,z,_⟩
 ·rw[D]at e;simp[Value.ownBlock]at e
 ·rw[D]at e;have:b=g:=by simpa [Value.ownBlock] using e
  subst this;rw[F]at z;injection z with z;injection z with _ I _;exact J I
end
theorem yw (s:Bs) (v:Value) (w:World) (hs:jw w v s) (O':∀x∈s,(0<=x.1/\x.1<16)/\x.2<100) (hn:s.length<=1048576) (S':s≠[]) :
  KZ 185 #[v] w (.string ⟨(fd s).toArray⟩):=by
 obtain⟨A,c,rfl,h1,h2,N'⟩:=hs;have S0:=ax h1 h2;have HL:=jD N';have H0:=jD O';have T':=List.length_pos_iff.2 S';clear N' h1 h2 O' S';obtain⟨i0,hi,x',t',u'⟩:=LD xB;go_enter func185,ntmps185;go_wp2_with fail
 go_loopw [3,8] (fun out i wr=>∃k:Nat,k<=s.length/\i=KW k/\Hid (KS w wr out (fd (s.take k)) []/\(fd (s.take k)).length<=6*k)) (fun _ i _=>s.length-(RowKit.intOf i).toNat)
 case atStart=>exact⟨0,Lb _,rfl,jD ⟨⟨La _ _,⟨rfl,.inl ⟨rfl,rfl⟩⟩,by simp⟩,by simp[fd]⟩⟩
 case round =>
  obtain⟨k,hk,rfl,hI⟩:=hrel
  by_cases A0:k<s.length
  ·have N0:(k:Int)<(s.length:Int):=by omega
   obtain⟨x,hx⟩:∃x,s[k]?=some x:=⟨_,K9 A0⟩;obtain⟨b,o,rfl,c0,c1⟩:=HL.out k x hx;have G':=hI.out.1.bel;replace c0:=aa G' c0;replace c1:=aa G' c1;have U':=H0.out x (Li hx);obtain⟨j,hj⟩:∃j:Nat,x.1=(j:Int):=⟨x.1.toNat,by omega⟩;obtain⟨q,hq⟩:=jF x.2;have HX:=jD (show s[k]?=some ((j:Int),q) by rw[hx,<-hj,hq]);rw[hj]at c0;rw[<-hq]at c1;have E':j<100:=by omega
   have n':q<100:=by omega
   have Y0:b<wr.heap.size:=K8 wr ⟨b,_,none⟩ c0;have M':b≠wr.heap.size:=by omega
   have Y':wr.heap.size≠b:=by omega
   clear hx U' hj hq;obtain⟨Ao,co,O0⟩:=ay hI.out.1.row;subst O0;obtain⟨T,hT⟩:=jF (fd (s.take k));have r':=hI.out;rw[<-hT]at r' ⊢;have HI:=jD r';have Z0:=r'.2;have HT:=jD hT;clear hI r' hT;obtain⟨tl,A1⟩:∃n,n=T.length:=⟨_,rfl⟩;go_wp2_with fail;refine aw fun W9 e9=>?_
   have J':KY wr W9:=gb e9;obtain⟨X,hX⟩:=jF wr.heap.size;have P':W9.heap[X]?=some (.cells [Value.int .i64 (j:Int),.int .i64 (q:Int)].toArray 188 (0,0)):=by rw[e9,hX];exact ap _ _ _ rfl
   have p':=aj HI.out.1.row J';have Z':KS w W9 (.slice Ao T.length co) T []:=⟨ab G' J',p',by simp⟩;have C':=jD Z';rw[<-hX];have M1:=jD hX;clear e9 J' c0 c1 M' Y' hX;refine (jy w.heap.size T.length j E' _ _ W9 p' C'.out.bel.size om).mono ?_;rintro e w3 ⟨v3,rfl,B',H'⟩;have T0:=jz E';have R0:=jz n';have V0:=wn (j:Int);have P0:=wn (q:Int);obtain⟨U,hU⟩:=jF (T++itoa (j:Int));have V':U.length=T.length+(itoa (j:Int)).length:=by rw[hU];exact Le
   have L':=C'.out.other H' P' dc;have F':KS w w3 v3 U []:=⟨C'.out.bel.trans (am H' C'.out.bel.size (fun g e=>(ah p' e).1)),by rw[V',hU,Lib.byteCells_append];exact B',by simp⟩;obtain⟨A3,c3,h3⟩:=ay F'.row;subst h3;have K0:=jD F';have X0:Hid (w3.heap[X]?=some (.cells [Value.int .i64 (j:Int),.int .i64 (q:Int)].toArray 188 (0,0))):=jD L';have q1:w3.cell? ⟨X,1,none⟩=some (KW (q:Int)):=by rw[af L'];rfl
   have HU:=jD hU;obtain⟨N,hN⟩:=jF (itoa (q:Int));rw[<-hN]at R0 P0;have HN:=jD hN;clear H' B' p' P' L' F' hU Z' hN;obtain⟨ul,I'⟩:∃n,n=U.length:=⟨_,rfl⟩;have U0:1<=ul/\ul<=6*k+2:=by omega
   rw[<-I']at K0 ⊢;have D:=jD I';clear I' V';go_wp2_with fail;refine wp_region_noPanic ?_;refine wp_region_held_drew (S:=(fun W:World=>W.cell? ⟨X,1,none⟩=some (KW (q:Int)))) kr (by rw[show w3.drew.cell? ⟨X,1,none⟩=w3.cell? ⟨X,1,none⟩ from rfl];exact q1) (fun z=>?_);refine tkH [0,3,4] ?_;refine wpAnyH_ready (rs:=[1,6]) kr jS ?_;refine AllReadyH.cons rfl (fun K O=>?_) ?_
   focus
    rw[K7 kr]
    go_simp;refine mY fun d' g'=>?_;have K1:Hid (KS w d' (.slice A3 ul c3) U ((w3.heap.size,64)::[])):=jD (by rw[g'];first|exact (K0.out.alloc 64).drew|exact K0.out.alloc 64);have X1:Hid (d'.heap[X]?=some (.cells [Value.int .i64 (j:Int),.int .i64 (q:Int)].toArray 188 (0,0))):=jD (by rw[g'];exact (Mq _ _ X (aD X0.out)).trans X0.out);clear g'
    refine O.out _ _ (by exact af X1.out 1) (fun z=>?_);clear O K
    try simp only[Act.put,Lw,Lj,Lk]
    refine wpAnyH_ready (rs:=[2,6]) kr jS ?_;refine AllReadyH.cons rfl (fun K O=>?_) ?_
    focus
     rw[K7 kr]
     focus ((try (change Oper.wp _ _ _ _ _ _));refine ed _ (.tmp 16) (.tmp 17) 291 rfl w.heap.size 5 i0 _ 1 1 underlying291 hi x' t' u' rfl dc (.slice A3 ul c3) ul (Lib.byteCells U) jR (by have h:=K1.out.row;rw[show (U).length=ul by have:=D.out;(try simp only[Le,Lo]);omega]at h;exact h) (some ⟨w3.heap.size,0,none⟩) 1 1 [.int .u8 64] jR (K1.out.src jS) (by unfold maxLen;omega) om K1.out.bel.size ?_;intro D' e' q' s' A';have K2:Hid (KS w e' D' (U++[(64:UInt8)]) ((w3.heap.size,64)::[])):=jD (K1.out.grown s' q' (by have:=D.out;(try simp only[Le,Lo]);omega) (by simp only[Lib.byteCells_append];rfl) (by have:=D.out;(try simp only[Le,Lo]);omega));have X2:Hid (e'.heap[X]?=some (.cells [Value.int .i64 (j:Int),.int .i64 (q:Int)].toArray 188 (0,0))):=jD (K1.out.other s' X1.out dc);clear q' s' A')
     refine O.out _ _ (by exact af X2.out 1) (fun z=>?_);clear O K
     try simp only[Act.put,Lw,Lj,Lk]
     refine wpAnyH_ready (rs:=[5,6]) kr jS ?_;refine AllReadyH.cons rfl (fun K O=>?_) ?_
     focus
      rw[K7 kr]
      focus (go_simp;refine (jy w.heap.size (ul+1) q n' _ (Lib.byteCells (U++[(64:UInt8)])) e' (by have h:=K2.out.row;rw[show ((U++[(64:UInt8)])).length=(ul+1) by have:=D.out;(try simp only[Le,Lo]);omega]at h;exact h) K2.out.bel.size om).mono ?_;rintro e c' ⟨h',rfl,J,a'⟩;rw[<-HN.out]at J;have K3:Hid (KS w c' h' ((U++[(64:UInt8)])++N) ((w3.heap.size,64)::[])):=jD (K2.out.grown a' J (by have:=D.out;(try simp only[Le,Lo]);omega) (by simp only[Lib.byteCells_append]) (by have:=D.out;(try simp only[Le,Lo]);omega));have X3:Hid (c'.heap[X]?=some (.cells [Value.int .i64 (j:Int),.int .i64 (q:Int)].toArray 188 (0,0))):=jD (K2.out.other a' X2.out dc);clear J a')
      refine O.out _ _ (by exact af X3.out 1) (fun z=>?_);clear O K
      try simp only[Act.put,Lw,Lj,Lk]
      refine nxH 6 (fun K O=>?_)
      go_simp;refine mY fun l' z'=>?_;have K4:Hid (KS w l' (h') ((U++[(64:UInt8)])++N) ((c'.heap.size,32)::((w3.heap.size,64)::[]))):=jD (by rw[z'];first|exact (K3.out.alloc 32).drew|exact K3.out.alloc 32);have X4:Hid (l'.heap[X]?=some (.cells [Value.int .i64 (j:Int),.int .i64 (q:Int)].toArray 188 (0,0))):=jD (by rw[z'];exact (Mq _ _ X (aD X3.out)).trans X3.out);clear z'
      refine O.out _ _ (by exact af X4.out 1) (fun z=>?_);clear O K;refine nxH 7 (fun K O=>?_)
      focus ((try (change Oper.wp _ _ _ _ _ _));refine ed _ (.tmp 21) (.tmp 22) 291 rfl w.heap.size 5 i0 _ 1 1 underlying291 hi x' t' u' rfl dc (h') ((ul+1)+N.length) (Lib.byteCells ((U++[(64:UInt8)])++N)) jR (by have h:=K4.out.row;rw[show (((U++[(64:UInt8)])++N)).length=((ul+1)+N.length) by have:=D.out;(try simp only[Le,Lo]);omega]at h;exact h) (some ⟨c'.heap.size,0,none⟩) 1 1 [.int .u8 32] jR (K4.out.src jS) (by unfold maxLen;omega) om K4.out.bel.size ?_;intro i' m' G I Z;have K5:Hid (KS w m' i' (((U++[(64:UInt8)])++N)++[(32:UInt8)]) ((c'.heap.size,32)::((w3.heap.size,64)::[]))):=jD (K4.out.grown I G (by have:=D.out;(try simp only[Le,Lo]);omega) (by simp only[Lib.byteCells_append];rfl) (by have:=D.out;(try simp only[Le,Lo]);omega));have X5:Hid (m'.heap[X]?=some (.cells [Value.int .i64 (j:Int),.int .i64 (q:Int)].toArray 188 (0,0))):=jD (K4.out.other I X4.out dc);clear G I Z)
      refine O.out _ _ (by exact af X5.out 1) (fun z=>?_);clear O K;refine tkH [8] ?_;refine wpAnyH_done kr (NoPanic.normal ?_) _;have O:=K5.out.nil;clear z;go_wp2_with fail
      go_roundw
      case rel =>
       have e1:fd (s.take (k+1))=(((U++[(64:UInt8)])++N)++[(32:UInt8)]):=by rw[bZ HX.out,ky,HU.out,HT.out,HN.out]
       refine⟨k+1,by omega,by go_num,jD ⟨by rw[e1];exact O,?_⟩⟩;rw[e1];have:=D.out;simp only[Le,Lo];omega
      case measure=>simp[RowKit.intOf];omega
     refine AllReadyH.cons rfl (fun K O=>?_) ?_
     focus
      rw[K7 kr]
      go_simp;refine mY fun c' y'=>?_;have K3:Hid (KS w c' (D') (U++[(64:UInt8)]) ((e'.heap.size,32)::((w3.heap.size,64)::[]))):=jD (by rw[y'];first|exact (K2.out.alloc 32).drew|exact K2.out.alloc 32);have X3:Hid (c'.heap[X]?=some (.cells [Value.int .i64 (j:Int),.int .i64 (q:Int)].toArray 188 (0,0))):=jD (by rw[y'];exact (Mq _ _ X (aD X2.out)).trans X2.out);clear y'
      refine O.out _ _ (by exact af X3.out 1) (fun z=>?_);clear O K
      try simp only[Act.put,Lw,Lj,Lk]
      refine nxH 5 (fun K O=>?_)
      focus (go_simp;refine (jy w.heap.size (ul+1) q n' _ (Lib.byteCells (U++[(64:UInt8)])) c' (by have h:=K3.out.row;rw[show ((U++[(64:UInt8)])).length=(ul+1) by have:=D.out;(try simp only[Le,Lo]);omega]at h;exact h) K3.out.bel.size om).mono ?_;rintro e l' ⟨f',rfl,F,b'⟩;rw[<-HN.out]at F;have K4:Hid (KS w l' f' ((U++[(64:UInt8)])++N) ((e'.heap.size,32)::((w3.heap.size,64)::[]))):=jD (K3.out.grown b' F (by have:=D.out;(try simp only[Le,Lo]);omega) (by simp only[Lib.byteCells_append]) (by have:=D.out;(try simp only[Le,Lo]);omega));have X4:Hid (l'.heap[X]?=some (.cells [Value.int .i64 (j:Int),.int .i64 (q:Int)].toArray 188 (0,0))):=jD (K3.out.other b' X3.out dc);clear F b')
      refine O.out _ _ (by exact af X4.out 1) (fun z=>?_);clear O K;refine nxH 7 (fun K O=>?_)
      focus ((try (change Oper.wp _ _ _ _ _ _));refine ed _ (.tmp 21) (.tmp 22) 291 rfl w.heap.size 5 i0 _ 1 1 underlying291 hi x' t' u' rfl dc (f') ((ul+1)+N.length) (Lib.byteCells ((U++[(64:UInt8)])++N)) jR (by have h:=K4.out.row;rw[show (((U++[(64:UInt8)])++N)).length=((ul+1)+N.length) by have:=D.out;(try simp only[Le,Lo]);omega]at h;exact h) (some ⟨e'.heap.size,0,none⟩) 1 1 [.int .u8 32] jR (K4.out.src jS) (by unfold maxLen;omega) om K4.out.bel.size ?_;intro i' m' G I Z;have K5:Hid (KS w m' i' (((U++[(64:UInt8)])++N)++[(32:UInt8)]) ((e'.heap.size,32)::((w3.heap.size,64)::[]))):=jD (K4.out.grown I G (by have:=D.out;(try simp only[Le,Lo]);omega) (by simp only[Lib.byteCells_append];rfl) (by have:=D.out;(try simp only[Le,Lo]);omega));have X5:Hid (m'.heap[X]?=some (.cells [Value.int .i64 (j:Int),.int .i64 (q:Int)].toArray 188 (0,0))):=jD (K4.out.other I X4.out dc);clear G I Z)
      refine O.out _ _ (by exact af X5.out 1) (fun z=>?_);clear O K;refine tkH [8] ?_;refine wpAnyH_done kr (NoPanic.normal ?_) _;have O:=K5.out.nil;clear z;go_wp2_with fail
      go_roundw
      case rel =>
       have e1:fd (s.take (k+1))=(((U++[(64:UInt8)])++N)++[(32:UInt8)]):=by rw[bZ HX.out,ky,HU.out,HT.out,HN.out]
       refine⟨k+1,by omega,by go_num,jD ⟨by rw[e1];exact O,?_⟩⟩;rw[e1];have:=D.out;simp only[Le,Lo];omega
      case measure=>simp[RowKit.intOf];omega
     exact AllReadyH.nil
    refine AllReadyH.cons rfl (fun K O=>?_) ?_
    focus
     rw[K7 kr]
     go_simp;refine mY fun e' k'=>?_;have K2:Hid (KS w e' (.slice A3 ul c3) U ((d'.heap.size,32)::((w3.heap.size,64)::[]))):=jD (by rw[k'];first|exact (K1.out.alloc 32).drew|exact K1.out.alloc 32);have X2:Hid (e'.heap[X]?=some (.cells [Value.int .i64 (j:Int),.int .i64 (q:Int)].toArray 188 (0,0))):=jD (by rw[k'];exact (Mq _ _ X (aD X1.out)).trans X1.out);clear k'
     refine O.out _ _ (by exact af X2.out 1) (fun z=>?_);clear O K
     try simp only[Act.put,Lw,Lj,Lk]
     refine nxH 2 (fun K O=>?_)
     focus ((try (change Oper.wp _ _ _ _ _ _));refine ed _ (.tmp 16) (.tmp 17) 291 rfl w.heap.size 5 i0 _ 1 1 underlying291 hi x' t' u' rfl dc (.slice A3 ul c3) ul (Lib.byteCells U) jR (by have h:=K2.out.row;rw[show (U).length=ul by have:=D.out;(try simp only[Le,Lo]);omega]at h;exact h) (some ⟨w3.heap.size,0,none⟩) 1 1 [.int .u8 64] jR (K2.out.src jS) (by unfold maxLen;omega) om K2.out.bel.size ?_;intro h' c' J a' j';have K3:Hid (KS w c' h' (U++[(64:UInt8)]) ((d'.heap.size,32)::((w3.heap.size,64)::[]))):=jD (K2.out.grown a' J (by have:=D.out;(try simp only[Le,Lo]);omega) (by simp only[Lib.byteCells_append];rfl) (by have:=D.out;(try simp only[Le,Lo]);omega));have X3:Hid (c'.heap[X]?=some (.cells [Value.int .i64 (j:Int),.int .i64 (q:Int)].toArray 188 (0,0))):=jD (K2.out.other a' X2.out dc);clear J a' j')
     refine O.out _ _ (by exact af X3.out 1) (fun z=>?_);clear O K;refine nxH 5 (fun K O=>?_)
     focus (go_simp;refine (jy w.heap.size (ul+1) q n' _ (Lib.byteCells (U++[(64:UInt8)])) c' (by have h:=K3.out.row;rw[show ((U++[(64:UInt8)])).length=(ul+1) by have:=D.out;(try simp only[Le,Lo]);omega]at h;exact h) K3.out.bel.size om).mono ?_;rintro e l' ⟨f',rfl,F,b'⟩;rw[<-HN.out]at F;have K4:Hid (KS w l' f' ((U++[(64:UInt8)])++N) ((d'.heap.size,32)::((w3.heap.size,64)::[]))):=jD (K3.out.grown b' F (by have:=D.out;(try simp only[Le,Lo]);omega) (by simp only[Lib.byteCells_append]) (by have:=D.out;(try simp only[Le,Lo]);omega));have X4:Hid (l'.heap[X]?=some (.cells [Value.int .i64 (j:Int),.int .i64 (q:Int)].toArray 188 (0,0))):=jD (K3.out.other b' X3.out dc);clear F b')
     refine O.out _ _ (by exact af X4.out 1) (fun z=>?_);clear O K;refine nxH 7 (fun K O=>?_)
     focus ((try (change Oper.wp _ _ _ _ _ _));refine ed _ (.tmp 21) (.tmp 22) 291 rfl w.heap.size 5 i0 _ 1 1 underlying291 hi x' t' u' rfl dc (f') ((ul+1)+N.length) (Lib.byteCells ((U++[(64:UInt8)])++N)) jR (by have h:=K4.out.row;rw[show (((U++[(64:UInt8)])++N)).length=((ul+1)+N.length) by have:=D.out;(try simp only[Le,Lo]);omega]at h;exact h) (some ⟨d'.heap.size,0,none⟩) 1 1 [.int .u8 32] jR (K4.out.src jS) (by unfold maxLen;omega) om K4.out.bel.size ?_;intro i' m' G I Z;have K5:Hid (KS w m' i' (((U++[(64:UInt8)])++N)++[(32:UInt8)]) ((d'.heap.size,32)::((w3.heap.size,64)::[]))):=jD (K4.out.grown I G (by have:=D.out;(try simp only[Le,Lo]);omega) (by simp only[Lib.byteCells_append];rfl) (by have:=D.out;(try simp only[Le,Lo]);omega));have X5:Hid (m'.heap[X]?=some (.cells [Value.int .i64 (j:Int),.int .i64 (q:Int)].toArray 188 (0,0))):=jD (K4.out.other I X4.out dc);clear G I Z)
     refine O.out _ _ (by exact af X5.out 1) (fun z=>?_);clear O K;refine tkH [8] ?_;refine wpAnyH_done kr (NoPanic.normal ?_) _;have O:=K5.out.nil;clear z;go_wp2_with fail
     go_roundw
     case rel =>
      have e1:fd (s.take (k+1))=(((U++[(64:UInt8)])++N)++[(32:UInt8)]):=by rw[bZ HX.out,ky,HU.out,HT.out,HN.out]
      refine⟨k+1,by omega,by go_num,jD ⟨by rw[e1];exact O,?_⟩⟩;rw[e1];have:=D.out;simp only[Le,Lo];omega
     case measure=>simp[RowKit.intOf];omega
    exact AllReadyH.nil
   refine AllReadyH.cons rfl (fun K O=>?_) ?_
   focus
    rw[K7 kr]
    go_simp;refine mY fun d' g'=>?_;have K1:Hid (KS w d' (.slice A3 ul c3) U ((w3.heap.size,32)::[])):=jD (by rw[g'];first|exact (K0.out.alloc 32).drew|exact K0.out.alloc 32);have X1:Hid (d'.heap[X]?=some (.cells [Value.int .i64 (j:Int),.int .i64 (q:Int)].toArray 188 (0,0))):=jD (by rw[g'];exact (Mq _ _ X (aD X0.out)).trans X0.out);clear g'
    refine O.out _ _ (by exact af X1.out 1) (fun z=>?_);clear O K
    try simp only[Act.put,Lw,Lj,Lk]
    refine nxH 1 (fun K O=>?_)
    go_simp;refine mY fun e' k'=>?_;have K2:Hid (KS w e' (.slice A3 ul c3) U ((d'.heap.size,64)::((w3.heap.size,32)::[]))):=jD (by rw[k'];first|exact (K1.out.alloc 64).drew|exact K1.out.alloc 64);have X2:Hid (e'.heap[X]?=some (.cells [Value.int .i64 (j:Int),.int .i64 (q:Int)].toArray 188 (0,0))):=jD (by rw[k'];exact (Mq _ _ X (aD X1.out)).trans X1.out);clear k'
    refine O.out _ _ (by exact af X2.out 1) (fun z=>?_);clear O K;refine nxH 2 (fun K O=>?_)
    focus ((try (change Oper.wp _ _ _ _ _ _));refine ed _ (.tmp 16) (.tmp 17) 291 rfl w.heap.size 5 i0 _ 1 1 underlying291 hi x' t' u' rfl dc (.slice A3 ul c3) ul (Lib.byteCells U) jR (by have h:=K2.out.row;rw[show (U).length=ul by have:=D.out;(try simp only[Le,Lo]);omega]at h;exact h) (some ⟨d'.heap.size,0,none⟩) 1 1 [.int .u8 64] jR (K2.out.src jS) (by unfold maxLen;omega) om K2.out.bel.size ?_;intro h' c' J a' j';have K3:Hid (KS w c' h' (U++[(64:UInt8)]) ((d'.heap.size,64)::((w3.heap.size,32)::[]))):=jD (K2.out.grown a' J (by have:=D.out;(try simp only[Le,Lo]);omega) (by simp only[Lib.byteCells_append];rfl) (by have:=D.out;(try simp only[Le,Lo]);omega));have X3:Hid (c'.heap[X]?=some (.cells [Value.int .i64 (j:Int),.int .i64 (q:Int)].toArray 188 (0,0))):=jD (K2.out.other a' X2.out dc);clear J a' j')
    refine O.out _ _ (by exact af X3.out 1) (fun z=>?_);clear O K;refine nxH 5 (fun K O=>?_)
    focus (go_simp;refine (jy w.heap.size (ul+1) q n' _ (Lib.byteCells (U++[(64:UInt8)])) c' (by have h:=K3.out.row;rw[show ((U++[(64:UInt8)])).length=(ul+1) by have:=D.out;(try simp only[Le,Lo]);omega]at h;exact h) K3.out.bel.size om).mono ?_;rintro e l' ⟨f',rfl,F,b'⟩;rw[<-HN.out]at F;have K4:Hid (KS w l' f' ((U++[(64:UInt8)])++N) ((d'.heap.size,64)::((w3.heap.size,32)::[]))):=jD (K3.out.grown b' F (by have:=D.out;(try simp only[Le,Lo]);omega) (by simp only[Lib.byteCells_append]) (by have:=D.out;(try simp only[Le,Lo]);omega));have X4:Hid (l'.heap[X]?=some (.cells [Value.int .i64 (j:Int),.int .i64 (q:Int)].toArray 188 (0,0))):=jD (K3.out.other b' X3.out dc);clear F b')
    refine O.out _ _ (by exact af X4.out 1) (fun z=>?_);clear O K;refine nxH 7 (fun K O=>?_)
    focus ((try (change Oper.wp _ _ _ _ _ _));refine ed _ (.tmp 21) (.tmp 22) 291 rfl w.heap.size 5 i0 _ 1 1 underlying291 hi x' t' u' rfl dc (f') ((ul+1)+N.length) (Lib.byteCells ((U++[(64:UInt8)])++N)) jR (by have h:=K4.out.row;rw[show (((U++[(64:UInt8)])++N)).length=((ul+1)+N.length) by have:=D.out;(try simp only[Le,Lo]);omega]at h;exact h) (some ⟨w3.heap.size,0,none⟩) 1 1 [.int .u8 32] jR (K4.out.src jS) (by unfold maxLen;omega) om K4.out.bel.size ?_;intro i' m' G I Z;have K5:Hid (KS w m' i' (((U++[(64:UInt8)])++N)++[(32:UInt8)]) ((d'.heap.size,64)::((w3.heap.size,32)::[]))):=jD (K4.out.grown I G (by have:=D.out;(try simp only[Le,Lo]);omega) (by simp only[Lib.byteCells_append];rfl) (by have:=D.out;(try simp only[Le,Lo]);omega));have X5:Hid (m'.heap[X]?=some (.cells [Value.int .i64 (j:Int),.int .i64 (q:Int)].toArray 188 (0,0))):=jD (K4.out.other I X4.out dc);clear G I Z)
    refine O.out _ _ (by exact af X5.out 1) (fun z=>?_);clear O K;refine tkH [8] ?_;refine wpAnyH_done kr (NoPanic.normal ?_) _;have O:=K5.out.nil;clear z;go_wp2_with fail
    go_roundw
    case rel =>
     have e1:fd (s.take (k+1))=(((U++[(64:UInt8)])++N)++[(32:UInt8)]):=by rw[bZ HX.out,ky,HU.out,HT.out,HN.out]
     refine⟨k+1,by omega,by go_num,jD ⟨by rw[e1];exact O,?_⟩⟩;rw[e1];have:=D.out;simp only[Le,Lo];omega
    case measure=>simp[RowKit.intOf];omega
   exact AllReadyH.nil
  ·have N0:¬(k:Int)<(s.length:Int):=by omega
   have R':k=s.length:=by omega
   have r':=hI.out;rw[R',LX]at r';have HI:=jD r';clear hI r' R';have Q0:0<(fd s).length:=by
    cases s with
    | nil=>simp at T'
    | cons a r=>rw[fd];simp;omega
   obtain⟨g,cap,spare,rfl,-,X',-,-⟩:=lH HI.out.1.row Q0;have E1:=run_convert_bytes_back (P:=prog) wr 291 9 5 ⟨g,0,none⟩ cap (fd s) underlying291 underlying5 underlying9 (fun j hj=>by
    rw[fZ,Lu,af X',LR (by simpa [Lib.byteCells] using hj)];simp[Lib.byteCells,hj])
   clear X';go_wp2;go_ret;exact⟨rfl,HI.out.1.bel⟩
end
end Go.Proofs.YtokconodddedhaaGreatDoor
