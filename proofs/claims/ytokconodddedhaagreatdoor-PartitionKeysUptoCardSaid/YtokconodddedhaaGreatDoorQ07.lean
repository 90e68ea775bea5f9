/- Part. -/
import Derived.Lib.IndexMore
import Derived.Test.YtokconodddedhaaGreatDoorQ06
import Derived.Lib.ItoaLen
import Derived.Lib.Join
set_option maxRecDepth 100000
set_option maxHeartbeats 16000000
set_option linter.unusedVariables false
set_option linter.unusedSimpArgs false
namespace Go.Proofs.YtokconodddedhaaGreatDoor
open Go.Proofs.Tryz Go.RowKit
section
open Go.Lib
def kws:List (List UInt8):=[[97,108,108],[97,108,116],[97,110,100],[98,111,111,108],[98,121],[99,111,117,110,116],[102,97,108,115,101],[102,105,114,115,116],[105,102],[105,110,116],[108,97,99,107,115],[108,97,115,116],[109,97,116,99,104],[109,97,120],[109,105,110],[110,111,116],[111,114],[112,108,117,115],[113,117,101,114,121],[114,101,116,117,114,110],[115,101,113],[115,116,114,105,110,103],[115,117,109],[116,105,109,101],[116,114,117,101],[116,121,112,101],[119,104,101,114,101],[119,105,116,104,105,110]]
def nG:List UInt8:=32::kws.flatMap fun x=>x++[32]
def kwB (s:List UInt8):Bool:=decide (s∈kws)
def kL (c:UInt8):Bool:=c==95 || (decide (97<=c)&&decide (c<=122)) || (decide (65<=c)&&decide (c<=90))
def iD (c:UInt8):Bool:=decide (48<=c)&&decide (c<=57)
def eD (c:UInt8):Bool:=kL c || iD c
def qB (s:List UInt8):Bool:=match s with
 | []=>false
 | c::_=>kL c
def fh (s:List UInt8):Int:=if s≠[]/\s.length<=24/\qB s=true/\s.all eD=true/\kwB s=false then 0 else 8
theorem iW (s sub:List UInt8):contains s sub=true↔∃a b,s=a++sub++b:=by
 unfold contains;rw[Ly];constructor
 ·intro h;rcases index_spec s sub with ⟨z,_⟩|⟨i,z,D,h3,_⟩
  ·omega
  ·unfold occAt at h3;rw[List.isPrefixOf_iff_prefix]at h3;obtain⟨b,F⟩:=h3;exact⟨s.take i,b,by rw[L7,F,M8]⟩
 ·rintro⟨a,b,rfl⟩;rcases index_spec (a++sub++b) sub with ⟨_,D⟩|⟨i,z,_,_,_⟩
  ·have:=D a.length jS;unfold occAt at this;rw[L7,List.drop_left]at this;rw[Bool.eq_false_iff]at this;exact absurd (List.isPrefixOf_iff_prefix.2 ⟨b,rfl⟩) this
  ·omega
theorem E8 {a s X Y:List UInt8} (z:∀c∈a,c≠32) (h:a++32::X=s++32::Y):∃r,s=a++r:=by
 induction a generalizing s with
 | nil=>exact⟨s,rfl⟩
 | cons x a F =>
  cases s with
  | nil=>simp at h;exact absurd h.1 (z x (Lg ..))
  | cons y s =>
   simp only[Mr,LS]at h;obtain⟨r,hr⟩:=F (fun c D=>z c (Lh _ D)) h.2;exact⟨r,by rw[h.1,hr];rfl⟩
theorem GN {s:List UInt8} (hs:∀c∈s,c≠32):∀ws:List (List UInt8),(∀x∈ws,∀c∈x,c≠32) ->
  ((∃a b,(32:UInt8)::ws.flatMap (fun x=>x++[32])=a++(32::(s++[32]))++b)↔s∈ws)
 | [],_=>by
  constructor
  ·rintro⟨a,b,h⟩;have:=congrArg List.length h;simp at this;omega
  ·intro h;simp at h
 | x::ws,hw=>by
  have D:=hw x (Lg ..);have I:=GN hs ws fun y hy=>hw y (Lh _ hy)
  have J:(32:UInt8)::(x::ws).flatMap (fun x=>x++[32])=32::(x++(32::ws.flatMap (fun x=>x++[32]))):=by simp
  rw[J,Lv,<-I];constructor
  ·rintro⟨a,b,h⟩
   cases a with
   | nil =>
    simp only[MJ,Mr,LS,true_and,L7]at h;obtain⟨r,hr⟩:=E8 D h;obtain⟨Z,z⟩:=E8 hs h.symm;have G:=congrArg List.length hr;have O:=congrArg List.length z;simp only[Le]at G O;have:r=[]:=L3 om;subst this;exact .inl (jQ hr)
   | cons c a =>
    simp only[Mr,LS,L7]at h;obtain⟨-,h⟩:=h;obtain⟨r,hr⟩:=E8 D h;subst hr;rw[L7]at h;have F:=List.append_cancel_left h;exact .inr ⟨r,b,by rw[F];simp⟩
  ·rintro (rfl|⟨a,b,h⟩)
   ·exact⟨[],ws.flatMap (fun x=>x++[32]),by simp⟩
   ·exact⟨32::(x++a),b,by rw[h];simp⟩
theorem yW:∀x∈kws,∀c∈x,c≠32:=by decide
theorem Fg:∀x∈kws,x≠[]:=by decide
theorem JA (s:List UInt8):contains s [32]=true↔32∈s:=by
 rw[iW];constructor
 ·rintro⟨a,b,rfl⟩;simp
 ·intro h;obtain⟨a,b,rfl⟩:=List.append_of_mem h;exact⟨a,b,by simp⟩
theorem kw_is (s:List UInt8):(decide (s≠[])&&(!contains s [32]&&contains nG (32::(s++[32]))))=kwB s:=by
 unfold kwB
 by_cases h:s∈kws
 ·have z:=yW s h;have D:contains s [32]=false:=by
   rw[Bool.eq_false_iff];intro e;exact z 32 ((JA s).1 e) rfl
  have F:contains nG (32::(s++[32]))=true:=(iW _ _).2 ((GN z kws yW).2 h);simp[h,D,F,Fg s h]
 ·by_cases D:contains s [32]=true
  ·simp[h,D]
  ·have F:contains nG (32::(s++[32]))=false:=by
    rw[Bool.eq_false_iff];intro e;refine h ((GN (fun c G I=>D ((JA s).2 (I▸G))) kws yW).1 ?_);exact (iW _ _).1 e
   simp[h,F]
theorem tD (c:UInt8) (h:kL c=true):iD c=false:=by
 unfold kL iD at *;simp only[LQ,Lp,LO,Ly,L8,LG,NK]at *;rcases h with (rfl|h)|h
 ·simp
 ·simp at *;omega
 ·simp at *;omega
theorem If {c:UInt8} {s:List UInt8} (h:eD c=true):qB (c::s)=!iD c:=by
 show kL c=!iD c;unfold eD at h
 cases z:kL c
 ·rw[z]at h;have h:iD c=true:=jQ h;rw[h];rfl
 ·rw[tD c z];rfl
end
section
open Go.RowKit Go.Lib
structure Nv where
 name:ByteArray
 ty:Int
def J7 (w:World) (b p:Nat) (x:Nv):Prop:=w.cell? ⟨b,p,none⟩=some (.string x.name)/\w.cell? ⟨b,p+1,none⟩=some (KW x.ty)
theorem jd:gG J7:=fun _ _ _ _ _ hb ⟨h0,h⟩=>⟨aa hb h0,aa hb h⟩
abbrev tg (w:World) (v:Value) (l:List Nv):Prop:=Sl J7 2 w v l
def JO:ByteArray:=⟨#[]⟩
end
section
open Go.RowKit Go.Lib
theorem zt {wf X Y:World} {B:Nat} {row:Option Nat} (h:wf.grownBy X (some B)) (k:X.grownBy Y row) (hr:∀r,row=some r->r=B\/wf.heap.size<=r):wf.grownBy Y (some B):=by
 refine⟨k.os.trans h.os,k.tape.trans h.tape,k.output.trans h.output,Lf h.size k.size,fun j D z=>?_⟩;refine (k.block j (Ll D h.size) fun e=>?_).trans (h.block j D z);rcases hr j e.symm with rfl|h1
 ·exact z rfl
 ·omega
theorem iI {w wf X:World} {B:Nat} (z:KY w wf) (h:wf.grownBy X (some B)) (D:w.heap.size<=B):KY w X :=
 z.grown h z.size (fun k e=>by cases e;exact D)
theorem KK {W:World} {base e size:Nat} {v:Value} {k:Nat} {xs:List Value} (h:W.ownsRow base e size v k xs) {g:Nat} (z:v.ownBlock=some g):base<=g/\∃cur,W.heap[g]?=some (.cells cur e (0,0)):=by
 rcases h.2 with ⟨rfl,_⟩|⟨g',cap,cur,rfl,h1,h2,_⟩
 ·simp[Value.ownBlock]at z
 ·have:g'=g:=by simpa [Value.ownBlock] using z
  subst this;exact⟨h1,cur,h2⟩
def Out (wf:World) (B:Nat) (t e:TypeId) (l:List ByteArray) (W:World):Prop :=
 wf.grownBy W (some B)/\∃v,Boxed W B t v/\W.ownsRow wf.heap.size e 1 v l.length (l.map Value.string)
theorem Out.own {wf:World} {B:Nat} {t e:TypeId} {l:List ByteArray} {X Y:World} {row:Option Nat} (hB:B<wf.heap.size) (h:Out wf B t e l X) (D:X.grownBy Y row)
  (hr:∀r,row=some r->wf.heap.size<=r/\∃o:Obj,X.heap[r]?=some o/\o.isCells=false):Out wf B t e l Y:=by
 obtain⟨O,v,Z,z⟩:=h;refine⟨zt O D (fun r e=>.inr (hr r e).1),v,Z.kept D (fun e=>?_),z.kept D ?_⟩
 ·have:=(hr B e.symm).1;omega
 ·cases G:v.ownBlock with
  | none =>
   rcases z.2 with ⟨rfl,_⟩|⟨g,cap,cur,rfl,_⟩
   ·exact .inl rfl
   ·simp[Value.ownBlock]at G
  | some g =>
   refine .inr fun e=>?_
   obtain⟨_,cur,J⟩:=KK z G;obtain⟨_,o,I,F⟩:=hr g e.symm;rw[J]at I;cases I;cases F
end
end Go.Proofs.YtokconodddedhaaGreatDoor
