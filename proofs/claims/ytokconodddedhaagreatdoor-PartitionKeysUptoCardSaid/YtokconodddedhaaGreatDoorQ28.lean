/- Part. -/
import Derived.Shelf.Strings.OnBuilder
import Derived.Shelf.LaysM
import Derived.Shelf.Strconv.Itoa3
import Derived.Shelf.Strings.Shaped
import Derived.Test.YtokconodddedhaaGreatDoorQ07
set_option maxRecDepth 100000
set_option maxHeartbeats 16000000
set_option linter.unusedVariables false
set_option linter.unusedSimpArgs false
namespace Go.Proofs
section
open Go.Shelf
def Tryz.laysM144_ren:Go.Shelf.Ren:=⟨fun|144=>286|143=>335|219=>361|217=>385|225=>386|224=>387|267=>388|266=>408|314=>409|n=>n,fun|9=>9|4=>4|3=>3|5=>5|46=>152|146=>414|51=>208|n=>n,fun|1=>2|n=>n⟩
theorem Tryz.laysM144:Go.Proofs.LaysM.n144 Tryz.prog Tryz.laysM144_ren:={
 mixed:=by kernel_rfl
 f143:=Tryz.func335.trans (congrArg some (by kernel_rfl))
 f144:=Tryz.func286.trans (congrArg some (by kernel_rfl))
 f217:=Tryz.func385.trans (congrArg some (by kernel_rfl))
 f219:=Tryz.func361.trans (congrArg some (by kernel_rfl))
 f224:=Tryz.func387.trans (congrArg some (by kernel_rfl))
 f225:=Tryz.func386.trans (congrArg some (by kernel_rfl))
 f266:=Tryz.func408.trans (congrArg some (by kernel_rfl))
 f267:=Tryz.func388.trans (congrArg some (by kernel_rfl))
 f314:=Tryz.func409.trans (congrArg some (by kernel_rfl))
 t3:=Tryz.underlying3
 a3:=Tryz.isAgg3
 z3:=Tryz.sizeOf3
 v3:=Tryz.zeroValue3
 t4:=Tryz.underlying4
 a4:=Tryz.isAgg4
 z4:=Tryz.sizeOf4
 v4:=Tryz.zeroValue4
 t5:=Tryz.underlying5
 a5:=Tryz.isAgg5
 z5:=Tryz.sizeOf5
 v5:=Tryz.zeroValue5
 t9:=Tryz.underlying9
 a9:=Tryz.isAgg9
 z9:=Tryz.sizeOf9
 v9:=Tryz.zeroValue9
 t46:=Tryz.underlying152
 a46:=Tryz.isAgg152
 z46:=Tryz.sizeOf152
 v46:=Tryz.zeroValue152
 t51:=Tryz.underlying208
 a51:=Tryz.isAgg208
 z51:=Tryz.sizeOf208
 v51:=Tryz.zeroValue208
 t146:=Tryz.underlying414
 a146:=Tryz.isAgg414
 z146:=Tryz.sizeOf414
 v146:=Tryz.zeroValue414
 g1:=by kernel_rfl
 i3:=by kernel_rfl
 i4:=by kernel_rfl
 i5:=by kernel_rfl
 i9:=by kernel_rfl
 i46:=by kernel_rfl
 i51:=by kernel_rfl
 i146:=by kernel_rfl
 m1:=by kernel_rfl
 s1_3:=fun w h=>Go.Proofs.cell_of_shapedOpen_int (zero:=#[.int .i64 0]) (t:=3) h (of_decide_eq_true (by kernel_rfl)) (by kernel_rfl) rfl (by kernel_rfl) (by kernel_rfl) Tryz.underlying3 }
end
end Go.Proofs
namespace Go.Proofs.YtokconodddedhaaGreatDoor
open Go.Proofs.Tryz Go.RowKit
def Lx (w:World):Prop:=Tab w/\∃m:Int,w.cell? ⟨2,0,none⟩=some (KW m)
theorem Lx.stays {w w':World} (h:Lx w) (z:KY w w'):Lx w':=⟨h.1.stays z,h.2.imp fun _ hm=>aa z hm⟩
def rQ (n:Int):Bool:=decide (n=95) || ((decide (97<=n)&&decide (n<=122)) || (decide (65<=n)&&decide (n<=90)))
def nU (n:Int):Bool:=decide (48<=n)&&decide (n<=57)
theorem AK (c:UInt8):rQ (c.toNat:Int)=kL c:=by
 unfold rQ kL;rw[LW];simp only[LQ,Lp,Ly,LO,NK];have:c=95↔c.toNat=95:=⟨fun h=>by rw[h];rfl,fun h=>UInt8.toNat_inj.1 (by rw[h];rfl)⟩;simp only[this];simp;omega
theorem mT (c:UInt8):nU (c.toNat:Int)=iD c:=by
 unfold nU iD;rw[LW];simp only[Lp,Ly,NK];simp;omega
theorem yI (n:Int) (w:World):Calls prog 225 #[.int .u8 n] w fun e w'=>e=.returned (.bool (rQ n))/\w=w':=by
 unfold rQ
 by_cases h:n=95
 ·subst h;go_enter func225,ntmps225;go_wp2;go_ret;exact⟨by simp,rfl⟩
 ·have I:(n==95)=false:=jQ h
  by_cases D:97<=n
  ·by_cases G:n<=122
   ·go_enter func225,ntmps225;go_wp2;go_ret;exact⟨by simp[h,D,G],rfl⟩
   ·have z:65<=n:=by omega
    have F:¬n<=90:=by omega
    go_enter func225,ntmps225;go_wp2;go_ret;exact⟨by simp[h,D,G,z,F],rfl⟩
  ·by_cases z:65<=n
   ·by_cases F:n<=90 <;>
    ·go_enter func225,ntmps225;go_wp2;go_ret;exact⟨by simp[h,D,z,F]<;>omega,rfl⟩
   ·go_enter func225,ntmps225;go_wp2;go_ret;exact⟨by simp[h,D,z]<;>omega,rfl⟩
theorem iO (n:Int) (w:World):Calls prog 221 #[.int .u8 n] w fun e w'=>e=.returned (.bool (nU n))/\w=w':=by
 unfold nU
 by_cases z:48<=n
 ·by_cases h:n<=57 <;>
  ·go_enter func221,ntmps221;go_wp2;go_ret;exact⟨by simp[z,h],rfl⟩
 ·go_enter func221,ntmps221;go_wp2;go_ret;exact⟨by simp;omega,rfl⟩
theorem tI (n:Int) (w:World):Calls prog 224 #[.int .u8 n] w fun e w'=>e=.returned (.bool (!rQ n&&!nU n))/\w=w':=by
 obtain⟨a,h⟩:=jE (rQ n);obtain⟨b,z⟩:=jE (nU n);have D:=jD h;have F:=jD z;rw[h,z];clear h z
 cases a <;>
 ·go_enter func224,ntmps224;go_wp2_with (first|(go_at_call 225;refine (yI _ _).mono ?_;rw[D.out];rintro e w' ⟨rfl,rfl⟩)|(go_at_call 221;refine (iO _ _).mono ?_;rw[F.out];rintro e w' ⟨rfl,rfl⟩));go_ret;exact⟨by simp,rfl⟩
theorem mR (s sub:List UInt8) (w:World) (h:Lx w) (hs:s.length<4294967281):Calls prog 286 #[.string ⟨⟨s⟩⟩,.string ⟨⟨sub⟩⟩] w fun e w'=>e=.returned (.bool (Lib.contains s sub))/\w'=w:=by
 obtain⟨m,hm⟩:=h.2;exact Any.strings_Contains { Tryz.laysM144 with } ⟨⟨s⟩⟩ ⟨⟨sub⟩⟩ m w hs hm
theorem wZ {s sub:ByteArray} (S T:List UInt8) (w:World) (h:Lx w) (hs:s.data.toList=S) (D:sub.data.toList=T) (z:S.length<4294967281):Calls prog 286 #[.string s,.string sub] w fun e w'=>e=.returned (.bool (Lib.contains S T))/\w'=w:=by
 subst hs D;obtain⟨m,hm⟩:=h.2;exact Any.strings_Contains { Tryz.laysM144 with } s sub m w z hm
theorem ka (l:List UInt8) (w:World) (h:Lx w) (O:l.length<=1048576):Calls prog 222 #[.string ⟨⟨l⟩⟩] w fun e w'=>e=.returned (.bool (kwB l))/\w'=w:=by
 have D:=jD h;clear h;rw[<-kw_is]
 by_cases h0:l=[]
 ·subst h0;go_enter func222,ntmps222;go_wp2;go_ret;exact⟨by simp,rfl⟩
 have he:l.isEmpty=false:=by cases l with
  | nil=>exact absurd rfl h0
  | cons=>rfl
 have G:=jD h0;clear h0
 cases z:Lib.contains l [32]
 ·have H1:=jD z;clear z
  cases F:Lib.contains nG (32::(l++[32])) <;>
  ·have I:=jD F;clear F;go_enter func222,ntmps222;go_wp2_with fail;refine (mR l [32] w D.out om).mono ?_;rw[H1.out];rintro e w' ⟨rfl,rfl⟩;go_wp2_with fail;refine (wZ nG (32::(l++[32])) w' D.out kr jS (MA kr)).mono ?_;rw[I.out];rintro e J ⟨rfl,rfl⟩;go_wp2;go_ret;have h0:=G.out;exact⟨by simp[h0],rfl⟩
 ·have H1:=jD z;clear z;have hr:(decide (l≠[])&&(!true&&Lib.contains nG (32::(l++[32]))))=false:=by simp
  rw[hr];clear hr;go_enter func222,ntmps222;go_wp2_with fail;refine (mR l [32] w D.out om).mono ?_;rw[H1.out];rintro e w' ⟨rfl,rfl⟩;go_wp2;go_ret;exact⟨rfl,rfl⟩
def rb (w:World) (b p:Nat) (x:UInt8):Prop:=w.cell? ⟨b,p,none⟩=some (.int .u8 (x.toNat:Int))
def iR (c:UInt8):Bool:=!eD c
theorem EI {l:List UInt8} {k:Nat} {x:UInt8} (D:l[k]?=some x) (h:(l.take k).any iR=false) (z:iR x=false):(l.take (k+1)).any iR=false:=by
 rw[aX D,List.any_append,h,List.any_cons,List.any_nil,z];rfl
theorem IB {l:List UInt8} {k:Nat} {x:UInt8} (z:l[k]?=some x) (h:iR x=true):l.any iR=true:=List.any_eq_true.2 ⟨x,Li z,h⟩
theorem zx (l:List UInt8) (b c:Nat) (w:World) (Z:∀k x,l[k]?=some x->rb w b k x) (hn:l.length<=1048576) :
  Calls prog 287 #[.slice (some ⟨b,0,none⟩) l.length c,.func (.func 224) #[] #[]] w fun e w'=>(∃r:Int,e=.returned (KW r)/\(0<=r↔l.any iR=true))/\w=w':=by
 have HL:=jD Z;clear Z;go_enter func287,ntmps287;go_wp2_with fail
 go_loopw [8] (fun i wr=>wr=w/\∃k:Nat,k<=l.length/\i=KW k/\Hid ((l.take k).any iR=false)) (fun i _=>l.length-(intOf i).toNat)
 case atStart=>exact⟨rfl,0,Lb _,rfl,jD rfl⟩
 case round =>
  obtain⟨rfl,k,hk,rfl,hi⟩:=hrel
  by_cases F:k<l.length
  ·have O:(k:Int)<(l.length:Int):=by omega
   have J:=HL.out k l[k] (K9 F);unfold rb at J;have z:=jD (K9 F);obtain⟨x,G⟩:=jF (l[k]);rw[<-G]at z J;obtain⟨n,D⟩:∃n:Int,(x.toNat:Int)=n:=⟨_,rfl⟩;rw[D]at J;have HP:Hid ((!rQ n&&!nU n)=iR x):=jD (by rw[<-D,AK,mT];unfold iR eD;rw[Bool.not_or]);clear G D;obtain⟨p,I⟩:=eh (iR x)
   cases p
   ·go_wp2_with (go_at_call 224;refine (tI _ _).mono ?_;rw[HP.out,I.out];rintro e w' ⟨rfl,rfl⟩)
    go_roundw
    case rel=>exact⟨by trivial,k+1,by omega,by go_num,jD (EI z.out hi.out I.out)⟩
    case measure=>simp[intOf];omega
   ·go_wp2_with (go_at_call 224;refine (tI _ _).mono ?_;rw[HP.out,I.out];rintro e w' ⟨rfl,rfl⟩);go_ret;exact⟨⟨(k:Int),rfl,by rw[IB z.out I.out];simp⟩,rfl⟩
  ·have O:¬(k:Int)<(l.length:Int):=by omega
   go_wp2;go_ret;refine⟨⟨-1,rfl,?_⟩,rfl⟩;have:=hi.out;rw[Mn om,MS]at this;constructor
   ·intro h;exact absurd h dc
   ·intro h;obtain⟨x,G,hb⟩:=h;exact absurd hb (this x G)
theorem kR (l:List UInt8) (b c:Nat) (w:World) (z:∀k x,l[k]?=some x->rb w b k x) (D:l.length<=1048576) :
  Calls prog 223 #[.slice (some ⟨b,0,none⟩) l.length c,.func (.func 224) #[] #[]] w fun e w'=>e=.returned (.bool (l.any iR))/\w=w':=by
 have G:=jD z;clear z;go_enter func223,ntmps223;go_wp2_with (go_at_call 287;refine (zx l b c _ G.out D).mono ?_;rintro e w' ⟨⟨r,rfl,hr⟩,rfl⟩;have F:=jD hr;clear hr);go_ret;have hr:=F.out;refine⟨?_,rfl⟩
 by_cases h:0<=r
 ·rw[hr.1 h];simp[h]
 ·have:l.any iR=false:=by rw[Bool.eq_false_iff];exact fun e=>h (hr.2 e)
  rw[this];simp;omega
theorem zl (l:List UInt8) (W:World):∃cap W',(convert 9 291 (.string ⟨⟨l⟩⟩)).run prog W=.ok (.slice (some ⟨W.heap.size,0,none⟩) l.length cap) W'/\(∀k x,l[k]?=some x->rb W' W.heap.size k x)/\KY W W':=by
 refine⟨_,_,run_bytes_of_string (P:=prog) W 9 291 5 ⟨⟨l⟩⟩ underlying9 underlying291 underlying5,fun k x hk=>?_,(La _ _).drew.alloc (Ld _) _⟩;have h:=Mp W.drew (.cells (bytesRow ⟨⟨l⟩⟩ (grownCap W (ByteArray.size ⟨⟨l⟩⟩) 0 5)) 5 ((bytesRow ⟨⟨l⟩⟩ (grownCap W (ByteArray.size ⟨⟨l⟩⟩) 0 5)).size,(bytesRow ⟨⟨l⟩⟩ (grownCap W (ByteArray.size ⟨⟨l⟩⟩) 0 5)).size+1));unfold rb World.cell?;rw[show (W.drew).heap.size=W.heap.size from rfl]at h;rw[h];obtain⟨z,rfl⟩:=List.getElem?_eq_some_iff.1 hk;exact bytesRow_at ⟨⟨l⟩⟩ _ k z
theorem qy {l:List UInt8} (h:l=[]\/24<l.length\/qB l=false\/l.any iR=true\/kwB l=true):fh l=8:=by
 unfold fh;rw[K6];rintro⟨G,O,F,J,D⟩;rcases h with h|h|h|h|h
 ·exact G h
 ·omega
 ·rw[h]at F;cases F
 ·rw[NA]at h;obtain⟨x,I,z⟩:=h;have:=List.all_eq_true.1 J x I;unfold iR at z;rw[this]at z;cases z
 ·rw[h]at D;cases D
theorem J8 {l:List UInt8} (D:l≠[]) (I:l.length<=24) (G:qB l=true) (h:l.any iR=false) (z:kwB l=false):fh l=0:=by
 unfold fh;rw[K7];refine⟨D,I,G,?_,z⟩;rw[M7];intro x F
 cases hw:eD x with
 | true=>rfl
 | false =>
  rw[MS]at h;exact absurd (by unfold iR;rw[hw];rfl) (h x F)
theorem EM {c:UInt8} {s:List UInt8} (h:iD c=true):qB (c::s)=false:=by
 show kL c=false
 cases z:kL c
 ·rfl
 ·rw[tD c z]at h;cases h
theorem DF {c:UInt8} {s:List UInt8} (h:iD c=false) (z:(c::s).any iR=false):qB (c::s)=true:=by
 have:eD c=true:=by
  cases hw:eD c with
  | true=>rfl
  | false=>rw[MS]at z;exact absurd (by unfold iR;rw[hw];rfl) (z c (Lg ..))
 rw[If this,h];rfl
theorem xf (l:List UInt8) (w:World) (h:Lx w) (hlen:l.length<=1048576):KZ 164 #[.string ⟨⟨l⟩⟩] w (KW (fh l)):=by
 have HX:=jD h;clear h;obtain⟨R,hR⟩:=jE (fh l);have I:=jD hR;rw[hR];clear hR
 cases l with
 | nil =>
  go_enter func164,ntmps164;go_wp2;go_ret;exact⟨cd ((qy (.inl rfl)).symm.trans I.out),La _ _⟩
 | cons c l =>
  have he:(c::l).isEmpty=false:=rfl
  by_cases hm:24<(c::l).length
  ·have D:(24:Int)<(((c::l).length:Nat):Int):=by omega
   simp only[Lt]at hm D hlen;go_enter func164,ntmps164;go_wp2;go_ret;exact⟨cd ((qy (.inr (.inl (jQ hm)))).symm.trans I.out),La _ _⟩
  ·have D:¬(24:Int)<(((c::l).length:Nat):Int):=by omega
   have HM:=jD hm;simp only[Lt]at hm hlen;replace D:¬(24:Int)<(l.length:Int)+1:=by omega
   cases F:iD c with
   | true =>
    have HD:Hid (nU (c.toNat:Int)=true):=jD (by rw[mT];exact F);have HE:=jD (qy (.inr (.inr (.inl (EM (s:=l) F)))));clear F;go_enter func164,ntmps164;go_wp2_with (go_at_call 221;refine (iO (c.toNat:Int) _).mono ?_;rw[HD.out];rintro e w' ⟨rfl,rfl⟩);go_ret;exact⟨cd (HE.out.symm.trans I.out),La _ _⟩
   | false =>
    have HD:Hid (nU (c.toNat:Int)=false):=jD (by rw[mT];exact F);have c':=jD F;clear F
    cases z:kwB (c::l) with
    | true =>
     have G:=jD z;clear z;go_enter func164,ntmps164;go_wp2_with (first|(go_at_call 221;refine (iO (c.toNat:Int) _).mono ?_;rw[HD.out];rintro e w' ⟨rfl,rfl⟩)|(go_at_call 222;refine (ka (c::l) _ HX.out (by simp;omega)).mono ?_;rw[G.out];rintro e w' ⟨rfl,rfl⟩));go_ret;exact⟨cd ((qy (.inr (.inr (.inr (.inr G.out))))).symm.trans I.out),La _ _⟩
    | false =>
     have G:=jD z;clear z;obtain⟨p,J⟩:=eh ((c::l).any iR);obtain⟨cap,W',d',Z,b'⟩:=zl (c::l) w;have a':=jD Z;have O:=jD b';simp only[Lt]at d';clear Z b'
     cases p with
     | true =>
      go_enter func164,ntmps164;go_wp2_with (first|(go_at_call 221;refine (iO (c.toNat:Int) _).mono ?_;rw[HD.out];rintro e w' ⟨rfl,rfl⟩)|(go_at_call 222;refine (ka (c::l) _ HX.out (by simp;omega)).mono ?_;rw[G.out];rintro e w' ⟨rfl,rfl⟩)|(go_at_call 223;refine (kR (c::l) _ cap _ a'.out (by simp;omega)).mono ?_;rw[J.out];rintro e w2 ⟨rfl,rfl⟩));go_ret;exact⟨cd ((qy (.inr (.inr (.inr (.inl J.out))))).symm.trans I.out),O.out⟩
     | false =>
      go_enter func164,ntmps164;go_wp2_with (first|(go_at_call 221;refine (iO (c.toNat:Int) _).mono ?_;rw[HD.out];rintro e w' ⟨rfl,rfl⟩)|(go_at_call 222;refine (ka (c::l) _ HX.out (by simp;omega)).mono ?_;rw[G.out];rintro e w' ⟨rfl,rfl⟩)|(go_at_call 223;refine (kR (c::l) _ cap _ a'.out (by simp;omega)).mono ?_;rw[J.out];rintro e w2 ⟨rfl,rfl⟩));go_ret;exact⟨cd ((J8 jS (by have:=HM.out;omega) (DF c'.out J.out) J.out G.out).symm.trans I.out),O.out⟩
end Go.Proofs.YtokconodddedhaaGreatDoor
