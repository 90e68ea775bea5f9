/- Part. -/
import Derived.Test.YtbjicljfjkdeeaaGreatDoorQ36
import Derived.Test.YtbjicljfjkdeeaaGreatDoorQ37
import Derived.Test.YtbjicljfjkdeeaaGreatDoorQ35
import Derived.Test.YtbjicljfjkdeeaaGreatDoorQ34
import Derived.Carry
set_option maxRecDepth 100000
set_option maxHeartbeats 16000000
set_option linter.unusedVariables false
set_option linter.unusedSimpArgs false
namespace Go.Proofs.YtbjicljfjkdeeaaGreatDoor
open Go.Proofs.Tryz Go.RowKit
section
open Go.RowKit Go.Lib
theorem za (l:List Evt) (ty vr:Int) (c:Ex) (b:Bs) (i k:Nat):∀j,dM l ty vr c b i k <+: dM l ty vr c b i (k+j):=fun j=>by
 unfold dM;rw[List.range_add,Oy,NY];exact List.prefix_append _ _
theorem CS {l:List Evt} {ty vr:Int} {c:Ex} {b:Bs} {i k:Nat} {y:Evt} (h:i<=k) (hy:l[k]?=some y) (J:y.ty=ty) (O:cT (cY l b k) vr y c=true):(eL l ty vr c b i)[(dM l ty vr c b i k).length]?=some [(vr,k)]:=by
 have z:=(List.getElem?_eq_some_iff.1 hy).1;obtain⟨j,I⟩:=Nat.exists_eq_add_of_le (show k+1<=l.length from z);obtain⟨t,G⟩:=za l ty vr c b i (k+1) j;rw[<-qS,I,<-G,oc h hy,Mp ⟨J,O⟩,OC,M7 (Mt _),Nat.sub_self];rfl
theorem Ah {Q:Nat->Prop} (w:World) (a:Int) (k:Nat) (t:TypeId) (G:Q w.heap.size):SetIn Q (w.alloc (.cells #[.int .i64 a,.int .i64 (k:Int)] t)) (.slice (some ⟨w.heap.size,0,none⟩) 1 1) [(a,k)]:=by
 have z:=kA w [Mk a,Mk (k:Int)] t;refine⟨w.heap.size,0,1,rfl,Mt _,by unfold maxLen;omega,by simp,G,fun j x h=>?_⟩
 cases j with
 | zero =>
  cases h
  exact⟨z 0 _ rfl,z 1 _ rfl⟩
 | succ j=>simp at h
theorem C3 {l:List Evt} {x:Pt} {b:Bs} {i d e C:Nat} {v vc vl u:Value} {W0 w:World} {n1:Nat} {B:Option Nat} {bc bp bo bf:Nat} (H:SeqHyp l x b i d e C v vc vl u W0 w n1 B bc bp bo bf)
  (t':x.op=0) (hB:BOk i b) (hi:i<=l.length) (O':l.length<=4096) (hN:aF x.cond<=1048576) :
  SeqC 198 #[.pointer (some ⟨bf,0,none⟩),.pointer (some ⟨bc,0,none⟩),.pointer (some ⟨bp,0,none⟩),.pointer (some ⟨bo,0,none⟩)] (fO l x b i) (InS n1 B) (aE W0.heap.size n1 B) w:=by
 rw[show fO l x b i=eL l x.ty x.vr x.cond b i from by unfold fO;rw[Mp t']];intro ly J Jx W z hJ E' hY r';have H1:=jD (H.next (H.grow z));have HJ:=jD hJ;have HY:=jD hY;have g':∀x∈b,(0<=x.1/\x.1<16)/\x.2<l.length:=fun x hx=>⟨(hB.ok x hx).1,by have:=(hB.ok x hx).2;omega⟩
 have D':=hB.len;have k':Hid (∀(k:Nat) (y:Evt) (W9:World),l[k]?=some y->Mm W0 W9->Mn 199 #[.pointer (some ⟨C,0,none⟩),exV x.cond vc,u,Mk x.vr,Mk (k:Int)] W9 (.bool (cT (cY l b k) x.vr y x.cond))) :=
  jD fun k y W9 hk hb=>sH l b k y x.vr e x.cond C vl u vc W9 (aa hb H.scn.ev) (H.scn.is.stays aG hb) (H.bs.stays aL hb) g' om hk (H.exs.stays (ai e) hb) hN
 obtain⟨Al,cl,rfl,l1,l2,h'⟩:=id H.scn.is;obtain⟨Ab,cb,rfl,-⟩:=id H.bs;obtain⟨A,c,rfl,-⟩:=id H.pts;obtain⟨Ac,cc,rfl,-⟩:=id H.exs;have G':=ay l1 l2;have F':=jD h';obtain⟨nc,n'⟩:∃n,n=x.cond.args.length:=⟨_,rfl⟩;obtain⟨u,hu⟩:=jF (Value.slice Ab b.length cb);obtain⟨v,hv⟩:=jF (Value.slice A x.args.length c);rw[<-n',<-hu,<-hv]at H1;rw[<-n',<-hu]at k';have z':=H1.out.caps.f.1;have H':=Ms W ⟨bf,_,none⟩ z';have y':=jD r';clear H z hJ E' hY r' g' D' hB hN l1 l2 h' n' hu hv t';unfold exV at k';show Calls prog 198 #[.func (.yield ly) #[] #[],.pointer (some ⟨bf,0,none⟩),.pointer (some ⟨bc,0,none⟩),.pointer (some ⟨bp,0,none⟩),.pointer (some ⟨bo,0,none⟩)] W _;go_enter func198,ntmps198;refine (Ok (n:=5)).1 ?_;gi_wp2
 gi_loopw [6] (fun t wr=>∃k:Nat,i<=k/\k<=l.length/\t=Mk k/\Hid (J (dM l x.ty x.vr x.cond b i k).length wr/\aE W0.heap.size n1 B W wr)) (fun t _=>l.length-(RowKit.intOf t).toNat)
 case atStart=>exact⟨i,Mt _,hi,rfl,jD ⟨by rw[vH];exact y'.out,eO _ _ _ _⟩⟩
 case round =>
  obtain⟨k,u',hk,rfl,hI⟩:=hrel;have Hr:=H1.out.next hI.out.2;have f':=jD Hr;have s':=jD Hr.bel;obtain⟨zc,-⟩:=Hr.caps.c;have zs:=(Hr.scn.stays Hr.bel).ev;have P':=Ms wr ⟨bc,_,none⟩ zc;have I':=Ms wr ⟨C,_,none⟩ zs
  by_cases B':k<l.length
  ·have x':(k:Int)<(l.length:Int):=by omega
   obtain⟨zo,-⟩:=Hr.caps.o;have Hc:=Hr.caps;obtain P2:=Hc.p.1 2 _ rfl;rw[MC]at P2;obtain P3:=Hc.p.1 3 _ rfl;rw[MC]at P3;obtain P6:=Hc.p.1 6 _ rfl;rw[MC]at P6;obtain P7:=Hc.p.1 7 _ rfl;rw[MC]at P7;obtain P8:=Hc.p.1 8 _ rfl;rw[MC]at P8;obtain P9:=Hc.p.1 9 _ rfl;rw[MC]at P9;obtain P10:=Hc.p.1 10 _ rfl;rw[MC]at P10;obtain P11:=Hc.p.1 11 _ rfl;rw[MC]at P11;obtain P12:=Hc.p.1 12 _ rfl;rw[MC]at P12;obtain P13:=Hc.p.1 13 _ rfl;rw[MC]at P13;obtain⟨y,hy⟩:∃y,l[k]?=some y:=⟨_,Mq B'⟩;obtain⟨be,oe,rfl,ve,A',d0,d1,d2,d3,d4⟩:=F'.out k y hy;have q2:=aa Hr.bel d2;have p':=jD (fun W9 hb=>k'.out k y W9 hy hb);have a':Hid ((dM l x.ty x.vr x.cond b i (k+1)).length=if y.ty=x.ty/\cT (cY l b k) x.vr y x.cond=true then (dM l x.ty x.vr x.cond b i k).length+1 else (dM l x.ty x.vr x.cond b i k).length):=jD (by rw[oc u' hy];split<;>simp);have d':Hid (y.ty=x.ty->cT (cY l b k) x.vr y x.cond=true->(eL l x.ty x.vr x.cond b i)[(dM l x.ty x.vr x.cond b i k).length]?=some [(x.vr,k)]):=jD (CS u' hy);obtain⟨m,hm⟩:=jF ((dM l x.ty x.vr x.cond b i k).length);obtain⟨m',i'⟩:∃m,m=(dM l x.ty x.vr x.cond b i (k+1)).length:=⟨_,rfl⟩;obtain⟨q,hq⟩:=jF (cT (cY l b k) x.vr y x.cond);rw[<-hm]at hI a' d';rw[<-i']at a';rw[<-hq]at a' d' p';have j':=jD i';have N':=Ms wr ⟨be,_,none⟩ q2;have J':=Ms wr ⟨bp,_,none⟩ P2;clear hm i' hq A' d0 d1 d2 d3 d4 hy Hr Hc
   by_cases O:y.ty=x.ty
   ·have q':(y.ty==x.ty)=true:=jQ O;have HT:=jD O;clear O;gi_wp2
    cases q with
    | false =>
     have c':Hid (m'=m):=jD (by rw[a'.out,Mo jS]);refine wpIn_wide.2 ?_;refine rgn (fun W:World=>Mm wr W/\Ml W bc 0 (.pointer (some ⟨C,0,none⟩))/\Ml W bo 0 (u)/\Ml W C 0 (.slice (some ⟨be,oe,none⟩) l.length cl)/\Ml W bp 2 (Mk x.ty)/\Ml W bp 3 (Mk x.vr)/\Ml W bp 6 (Mk x.cond.op)/\Ml W bp 7 ((.slice Ac nc cc))/\Ml W bp 8 (Mk x.cond.vr)/\Ml W bp 9 (Mk x.cond.fl)/\Ml W bp 10 (Mk x.cond.kd)/\Ml W bp 11 (Mk x.cond.val.kind)/\Ml W bp 12 (Mk x.cond.val.num)/\Ml W bp 13 (.string x.cond.val.text)/\Ml W be (oe+k*5+2) (Mk y.ty)) (Below wr.heap.size wr) (fun W z=>⟨z,aa z zc,aa z zo,aa z zs,aa z P2,aa z P3,aa z P6,aa z P7,aa z P8,aa z P9,aa z P10,aa z P11,aa z P12,aa z P13,aa z q2⟩) ((Mr _ _).drew) (fun Z G=>?_);refine tkH [0,1,2,3,4,5,6,7,8,9,10,11,12,13,14,15,16,17,18] ?_;refine nxH 19 (fun K hK=>?_)
     focus (go_simp;refine (p'.out _ (ab s'.out G.1)).mono ?_;rintro e w6 ⟨rfl,l'⟩;have I:Mm wr w6:=ab G.1 l')
     refine hK.out _ _ (Z _ I) (fun G=>?_);clear hK K;refine tkH [20,21] ?_;refine tkS [22,23,24,25,26,27,28,29] ?_;refine tkH [30] ?_;refine dn ?_;gi_wp2
     go_roundw
     case rel=>exact⟨k+1,by omega,by omega,by go_num,jD ⟨by rw[<-j'.out,c'.out];exact aS HJ.out hI.out.1 I,aR hI.out.2 (f'.out.grow I)⟩⟩
     case measure=>simp[RowKit.intOf];omega
    | true =>
     have c':Hid (m'=m+1):=jD (by rw[a'.out,Mp ⟨HT.out,rfl⟩]);have C':Hid (∀(W9:World) (t:Value),Mm wr W9->SetIn (fun q=>wr.heap.size<=q) W9 t [(x.vr,k)]->YieldAt Fence.wide (5-1) prog ly #[t] W9 fun e W'=>(e=.returned (.bool true)/\J (m+1) W'/\aE W0.heap.size n1 B W W')\/(e=.returned (.bool false)/\Jx (m+1) W')):=by
      refine jD fun W9 t h9 ht=>cg (HY.out _ m [(x.vr,k)] #[t] W9 (d'.out HT.out rfl) (aS HJ.out hI.out.1 h9) (f'.out.inS h9 (Mt _) ht)) ?_
      rintro e W' (⟨rfl,g1,g2⟩|⟨rfl,g1⟩)
      ·exact .inl ⟨rfl,g1,aR (aR hI.out.2 (f'.out.grow h9)) g2⟩
      ·exact .inr ⟨rfl,g1⟩
     have Z:∀W,Mm wr W->(fun W:World=>Mm wr W/\Ml W bc 0 (.pointer (some ⟨C,0,none⟩))/\Ml W bo 0 (u)/\Ml W C 0 (.slice (some ⟨be,oe,none⟩) l.length cl)/\Ml W bp 2 (Mk x.ty)/\Ml W bp 3 (Mk x.vr)/\Ml W bp 6 (Mk x.cond.op)/\Ml W bp 7 ((.slice Ac nc cc))/\Ml W bp 8 (Mk x.cond.vr)/\Ml W bp 9 (Mk x.cond.fl)/\Ml W bp 10 (Mk x.cond.kd)/\Ml W bp 11 (Mk x.cond.val.kind)/\Ml W bp 12 (Mk x.cond.val.num)/\Ml W bp 13 (.string x.cond.val.text)/\Ml W be (oe+k*5+2) (Mk y.ty)) W:=fun W z=>⟨z,aa z zc,aa z zo,aa z zs,aa z P2,aa z P3,aa z P6,aa z P7,aa z P8,aa z P9,aa z P10,aa z P11,aa z P12,aa z P13,aa z q2⟩
     refine mh ?_;refine oH ((fun W:World=>Mm wr W/\W.cell? ⟨bc,0,none⟩=some (.pointer (some ⟨C,0,none⟩))/\W.cell? ⟨bo,0,none⟩=some (u)/\W.cell? ⟨C,0,none⟩=some (.slice (some ⟨be,oe,none⟩) l.length cl)/\W.cell? ⟨bp,2,none⟩=some (Mk x.ty)/\W.cell? ⟨bp,3,none⟩=some (Mk x.vr)/\W.cell? ⟨bp,6,none⟩=some (Mk x.cond.op)/\W.cell? ⟨bp,7,none⟩=some ((.slice Ac nc cc))/\W.cell? ⟨bp,8,none⟩=some (Mk x.cond.vr)/\W.cell? ⟨bp,9,none⟩=some (Mk x.cond.fl)/\W.cell? ⟨bp,10,none⟩=some (Mk x.cond.kd)/\W.cell? ⟨bp,11,none⟩=some (Mk x.cond.val.kind)/\W.cell? ⟨bp,12,none⟩=some (Mk x.cond.val.num)/\W.cell? ⟨bp,13,none⟩=some (.string x.cond.val.text)/\W.cell? ⟨be,oe+k*5+2,none⟩=some (Mk y.ty))) 28 kr (Z _ (Mr _ _).drew) (fun G=>?_);refine tkY [0,1,2,3,4,5,6,7,8,9,10,11,12,13,14,15,16,17,18] ?_;refine nW (i:=19) (fuel:=11) (L:=(true::true::true::true::true::true::true::true::true::true::true::true::true::true::true::true::true::true::true::true::false::false::false::false::false::false::false::false::false::false::false::[]).toArray) rfl kr kr kr kr (fun K hK=>?_)
     focus (go_simp;refine (p'.out _ (ab s'.out G.1)).mono ?_;rintro e w6 ⟨rfl,l'⟩;have I:Mm wr w6:=ab G.1 l')
     refine hK.out _ _ (Z _ I) (fun G=>?_);clear hK K;refine tkY [20,21,22,23,24,25,26] ?_;refine nW (i:=27) (fuel:=3) (L:=(true::true::true::true::true::true::true::true::true::true::true::true::true::true::true::true::true::true::true::true::true::true::true::true::true::true::true::true::false::false::false::[]).toArray) rfl kr kr kr kr (fun K hK=>?_)
     go_simp
     refine hK.out _ _ (Z _ jB) (fun G=>?_);clear hK K;refine pN (fuel:=2) (L:=(true::true::true::true::true::true::true::true::true::true::true::true::true::true::true::true::true::true::true::true::true::true::true::true::true::true::true::true::true::false::false::[]).toArray) rfl kr kr kr kr kr (fun K hK=>?_)
     go_simp
     refine dx (l:=ly) (args:=#[.slice (some ⟨w6.heap.size,0,none⟩) 1 1]) (W:=w6.alloc (.cells #[.int .i64 x.vr,.int .i64 (k:Int)] 124)) (C'.out _ _ (show Mm wr _ by exact ab I (by exact jB)) (Ah _ _ _ _ (by have:=I.size;omega))) (fun W7 h7=>?_) (fun W7 h7=>?_)
     ·have H7:=jD h7;clear h7;refine hK.out _ _ ?_;clear hK K
      focus (refine eP (i:=29) (fuel:=1) (L:=(true::true::true::true::true::true::true::true::true::true::true::true::true::true::true::true::true::true::true::true::true::true::true::true::true::true::true::true::true::true::false::[]).toArray) (v:=.bool false) rfl rfl kr kr kr ?_ ?_;(focus (go_simp<;>with_reducible rfl));simp only[MZ,MY])
      focus (refine eP (i:=30) (fuel:=0) (L:=(true::true::true::true::true::true::true::true::true::true::true::true::true::true::true::true::true::true::true::true::true::true::true::true::true::true::true::true::true::true::true::[]).toArray) (v:=.bool false) rfl rfl kr kr kr ?_ ?_;(focus (go_simp<;>with_reducible rfl));simp only[MZ,MY])
      refine wpAnyIn_done kr (NoPanic.normal ?_) _;gi_wp2
      go_roundw
      case rel=>exact⟨k+1,by omega,by omega,by go_num,jD ⟨by rw[<-j'.out,c'.out];exact H7.out.1,H7.out.2⟩⟩
      case measure=>simp[RowKit.intOf];omega
     ·have H7:=jD h7;clear h7;refine hK.out _ _ ?_;clear hK K
      focus (refine eP (i:=29) (fuel:=1) (L:=(true::true::true::true::true::true::true::true::true::true::true::true::true::true::true::true::true::true::true::true::true::true::true::true::true::true::true::true::true::true::false::[]).toArray) (v:=.bool true) rfl rfl kr kr kr ?_ ?_;(focus (go_simp<;>with_reducible rfl));simp only[MZ,MY])
      focus (refine eP (i:=30) (fuel:=0) (L:=(true::true::true::true::true::true::true::true::true::true::true::true::true::true::true::true::true::true::true::true::true::true::true::true::true::true::true::true::true::true::true::[]).toArray) (v:=.bool true) rfl rfl kr kr kr ?_ ?_;(focus (go_simp<;>with_reducible rfl));simp only[MZ,MY])
      refine wpAnyIn_done kr (NoPanic.normal ?_) _;gi_wp2;refine Mv (v:=.tuple #[]) (NI rfl _ _ _) rfl ?_;exact⟨⟨_,rfl⟩,.inr ⟨m,(List.getElem?_eq_some_iff.1 (d'.out HT.out jS)).1,H7.out⟩⟩
   ·have q':(y.ty==x.ty)=false:=jQ O;have c':Hid (m'=m):=jD (by rw[a'.out,Mo (fun h=>O h.1)]);clear O;gi_wp2;refine wpIn_wide.2 ?_;refine rgn (fun W:World=>Mm wr W/\Ml W bc 0 (.pointer (some ⟨C,0,none⟩))/\Ml W bo 0 (u)/\Ml W C 0 (.slice (some ⟨be,oe,none⟩) l.length cl)/\Ml W bp 2 (Mk x.ty)/\Ml W bp 3 (Mk x.vr)/\Ml W bp 6 (Mk x.cond.op)/\Ml W bp 7 ((.slice Ac nc cc))/\Ml W bp 8 (Mk x.cond.vr)/\Ml W bp 9 (Mk x.cond.fl)/\Ml W bp 10 (Mk x.cond.kd)/\Ml W bp 11 (Mk x.cond.val.kind)/\Ml W bp 12 (Mk x.cond.val.num)/\Ml W bp 13 (.string x.cond.val.text)/\Ml W be (oe+k*5+2) (Mk y.ty)) (Below wr.heap.size wr) (fun W z=>⟨z,aa z zc,aa z zo,aa z zs,aa z P2,aa z P3,aa z P6,aa z P7,aa z P8,aa z P9,aa z P10,aa z P11,aa z P12,aa z P13,aa z q2⟩) ((Mr _ _).drew) (fun Z G=>?_);refine tkH [0,1,2,3,4,5,6,7,8,9,10,11] ?_;refine tkS [12,13,14,15,16,17,18,19] ?_;refine tkH [20,21] ?_;refine tkS [22,23,24,25,26,27,28,29] ?_;refine tkH [30] ?_;refine dn ?_;gi_wp2
    go_roundw
    case rel=>exact⟨k+1,by omega,by omega,by go_num,jD ⟨by rw[<-j'.out,c'.out];exact aS HJ.out hI.out.1 jB,aR hI.out.2 (f'.out.grow jB)⟩⟩
    case measure=>simp[RowKit.intOf];omega
  ·have x':¬(k:Int)<(l.length:Int):=by omega
   obtain rfl:k=l.length:=by omega
   have HE:=jD hI.out.1;gi_wp2;refine OI (NI rfl _ _ _) rfl ?_;exact⟨⟨_,rfl⟩,.inl (by rw[<-qS];exact aS HJ.out HE.out jB)⟩
theorem D5 (l:List Evt) (x:Pt) (b:Bs) (i:Nat) (z:x.op=0) (hB:BOk i b) (hi:i<=l.length) (Z:l.length<=4096) (hN:aF x.cond<=1048576):FinderK 131 l x b i:=by
 intro d e C v vc vl u W0 w G hx h hu hb;have HQ:=jD (fun (n1:Nat) (B:Option Nat) O I h3 J (tc tp to tf:TypeId)=>C3 (eS (i:=i) (n1:=n1) (B:=B) G hx h hu hb O I h3 J tc tp to tf) z hB hi Z hN);obtain⟨A,c,rfl,-⟩:=id hx;obtain⟨Ac,cc,rfl,-⟩:=id h;obtain⟨Ab,cb,rfl,-⟩:=id hu;clear G hx h hu hb hB hN z;unfold ptV;go_enter func131,ntmps131;go_wp2;go_ret;exact⟨_,_,rfl,fun _ _=>rfl,jB,fun n1 B O I h3 J=>HQ.out n1 B O I h3 J _ _ _ _⟩
end
section
open Go.RowKit Go.Lib
attribute [local go_sem] Oper.semAt_some
def FV:Array Value:=#[.func (.func 131) #[] #[],.func (.func 132) #[] #[],.func (.func 133) #[] #[],.func (.func 134) #[] #[],.func (.func 135) #[] #[],.func (.func 136) #[] #[],.func (.func 136) #[] #[],.func (.func 136) #[] #[]]
theorem wh (w:World):Mn 85 #[] w (.agg FV):=by
 have h:∀(g:Nat) (W:World) (a:Addr),(store a (.func (.func g) #[] #[])).run prog W=stored prog W a (.func (.func g) #[] #[]) .plain:=fun g W a=>run_store prog W a _ .plain rfl
 go_enter func85,ntmps85;go_wp2;refine Mv (v:=.agg FV) ?_ rfl ⟨rfl,?_⟩
 ·simp[results,Tryz.f85,go_sem,FV]
 ·exact jB
def kv (s:Bs):Value:=.string ⟨(fb s).toArray⟩
theorem Ln (x y:Bs) (h:kv x=kv y):x=y:=by
 unfold kv at h;injection h with h;injection h with h;exact xl (jQ h)
theorem KW {s:Bs} (h:(fb s).length<=maxLen):keyOf prog 9 (kv s)=some (.string (⟨(fb s).toArray⟩:ByteArray).data.toList):=J6 (by simpa [ByteArray.size] using h)
theorem yL:∀(s:Bs),(∀x∈s,(0<=x.1/\x.1<16)/\x.2<100)->(fb s).length<=6*s.length
 | [],_=>by simp[fb]
 | x::r,h=>by
  have h0:=h x (Mz ..);have I:=yL r fun y hy=>h y (MD _ hy)
  obtain⟨j,z⟩:∃j:Nat,x.1=(j:Int):=⟨x.1.toNat,by omega⟩;have G:(itoa x.1).length<=2:=by rw[z];exact jP om
  have J:(itoa (x.2:Int)).length<=2:=jP om;rw[fb,Mw,MG,Mw,MG,MG];omega
theorem subW {w z:World} {C:Nat} {x:Pt} {v vc:Value} {t1 t2 t3 t4:TypeId} (e1:z=(((((w.alloc (.cells #[.pointer (some ⟨C,0,none⟩)] t1)).alloc (.cells (aM x v vc).toArray t2)).alloc (.cells #[.slice none 0 0] t3)).alloc (.cells #[.slice none 0 0] t3)).alloc (.map #[] 0)).alloc (.cells #[.map (some (w.heap.size+1+1+1+1))] t4)) :
  Mm w z/\Boxed z w.heap.size t1 (.pointer (some ⟨C,0,none⟩))/\Cells z (w.heap.size+1) 0 (aM x v vc)/\Boxed z (w.heap.size+1+1) t3 (.slice none 0 0)/\Boxed z (w.heap.size+1+1+1) t3 (.slice none 0 0)/\HasM 9 kv z (w.heap.size+1+1+1+1) 0 [] /\
   Boxed z (w.heap.size+1+1+1+1+1) t4 (.map (some (w.heap.size+1+1+1+1)))/\z.heap.size=w.heap.size+6:=by
 obtain⟨a1,O⟩:∃q,q=w.alloc (.cells #[.pointer (some ⟨C,0,none⟩)] t1):=⟨_,rfl⟩;obtain⟨a2,G⟩:∃q,q=a1.alloc (.cells (aM x v vc).toArray t2):=⟨_,rfl⟩;obtain⟨a3,I⟩:∃q,q=a2.alloc (.cells #[.slice none 0 0] t3):=⟨_,rfl⟩;obtain⟨a4,Z⟩:∃q,q=a3.alloc (.cells #[.slice none 0 0] t3):=⟨_,rfl⟩;obtain⟨a5,J⟩:∃q,q=a4.alloc (.map #[] 0):=⟨_,rfl⟩;rw[<-O,<-G,<-I,<-Z,<-J]at e1;have s1:a1.heap.size=w.heap.size+1:=by rw[O];simp
 have s2:a2.heap.size=w.heap.size+1+1:=by rw[G];simp[s1]
 have s3:a3.heap.size=w.heap.size+1+1+1:=by rw[I];simp[s2]
 have s4:a4.heap.size=w.heap.size+1+1+1+1:=by rw[Z];simp[s3]
 have s5:a5.heap.size=w.heap.size+1+1+1+1+1:=by rw[J];simp[s4]
 have b1:Mm w a1:=by rw[O];exact af _ _
 have b2:Mm a1 a2:=by rw[G];exact af _ _
 have b3:Mm a2 a3:=by rw[I];exact af _ _
 have b4:Mm a3 a4:=by rw[Z];exact af _ _
 have b5:Mm a4 a5:=by rw[J];exact af _ _
 have b6:Mm a5 z:=by rw[e1];exact af _ _
 have y1:Boxed a1 w.heap.size t1 (.pointer (some ⟨C,0,none⟩)):=by rw[O];exact Boxed.new w _ _
 have y2:Cells a2 (w.heap.size+1) 0 (aM x v vc):=by rw[<-s1,G];exact kA _ _ _
 have y3:Boxed a3 (w.heap.size+1+1) t3 (.slice none 0 0):=by rw[<-s2,I];exact Boxed.new _ _ _
 have y4:Boxed a4 (w.heap.size+1+1+1) t3 (.slice none 0 0):=by rw[<-s3,Z];exact Boxed.new _ _ _
 have y5:HasM 9 kv a5 (w.heap.size+1+1+1+1) 0 []:=by rw[<-s4,J];exact Dn _ _ _
 have y6:Boxed z (w.heap.size+1+1+1+1+1) t4 (.map (some (w.heap.size+1+1+1+1))):=by rw[<-s5,e1];exact Boxed.new _ _ _
 have up:∀{p q:World} {b:Nat} {t:TypeId} {v:Value},Mm p q->Boxed p b t v->Boxed q b t v:=fun h hb=>(h.block _ hb.lt).trans hb
 have a':=ab (ab (ab b3 b4) b5) b6;exact⟨ab (ab b1 b2) a',up (ab b2 a') y1,dw y2 a',up (ab (ab b4 b5) b6) y3,up (ab b5 b6) y4,y5.below b6,y6,by rw[e1];simp[s5]⟩
def OutOk (n1 bo:Nat) (W:World) (L:List Bs):Prop:=∃v vs,Boxed W bo 119 v/\W.ownsRow n1 122 1 v L.length vs/\∀(j:Nat) s,L[j]?=some s->∃u,vs[j]?=some u/\SetIn (Own n1 (some bo) W) W u s
structure SubI (w:World) (n1 C:Nat) (Y:List Bs) (k:Nat) (W:World):Prop where
 bel:Mm w W
 big:n1<=W.heap.size
 bc:Boxed W w.heap.size 116 (.pointer (some ⟨C,0,none⟩))
 rs:Boxed W (w.heap.size+1+1) 119 (.slice none 0 0)
 out:OutOk n1 (w.heap.size+1+1+1) W (aP (Y.take k))
 map:HasM 9 kv W (w.heap.size+1+1+1+1) (aP (Y.take k)).length (aP (Y.take k))
 bk:Boxed W (w.heap.size+1+1+1+1+1) 130 (.map (some (w.heap.size+1+1+1+1)))
theorem Fg {W W':World} {base:Nat} {e:TypeId} {size n:Nat} {v:Value} {xs:List Value} {row:Option Nat} (h:W.ownsRow base e size v n xs) (G:W.grownBy W' row) (hr:∀r,row=some r->∃o:Obj,W.heap[r]?=some o/\o.isCells=false):W'.ownsRow base e size v n xs:=by
 refine aT h fun g z=>?_
 rcases h.2 with ⟨rfl,-⟩|⟨g',cap,cur,rfl,-,hh,-⟩
 ·cases z
 ·cases z
  exact grownBy_keeps_cells G hr hh rfl
theorem OutOk.keep {n0 n1 bo:Nat} {W W':World} {L:List Bs} {row:Option Nat} (h:OutOk n1 bo W L) (z:W.grownBy W' row) (hk:aE n0 n1 (some bo) W W') (hr:∀r,row=some r->∃o:Obj,W.heap[r]?=some o/\o.isCells=false):OutOk n1 bo W' L:=by
 obtain⟨v,vs,I,G,J⟩:=h;exact⟨v,vs,bS I z hr,Fg G z hr,fun j s hs=>by obtain⟨u,hu,hs⟩:=J j s hs;exact⟨u,hu,SetIn.keepO hk hs⟩⟩
theorem SubI.keep {w W W':World} {n1 C k:Nat} {Y:List Bs} {row:Option Nat} (h:SubI w n1 C Y k W) (J:w.heap.size+6<=n1) (G:W.grownBy W' row) (hr:∀r,row=some r->n1<=r/\∃o:Obj,W.heap[r]?=some o/\o.isCells=false):SubI w n1 C Y k W':=by
 have z:∀r,row=some r->∃o:Obj,W.heap[r]?=some o/\o.isCells=false:=fun r e=>(hr r e).2
 have hk:aE w.heap.size n1 (some (w.heap.size+1+1+1)) W W':=ic (by have:=h.big;omega) G (fun r e=>⟨by have:=(hr r e).1;omega,fun I=>by injection I with I;have:=(hr r e).1;omega,.inr (hr r e).2⟩) (fun b e=>by injection e with e;have:=h.big;omega);exact⟨h.bel.trans hk.below,Mx h.big G.size,bS h.bc G z,bS h.rs G z,h.out.keep G hk z,h.map.kept G (fun e=>by have:=(hr _ e.symm).1;omega),bS h.bk G z⟩
theorem SubI.same {w W:World} {n1 C k z:Nat} {Y:List Bs} (h:SubI w n1 C Y k W) (e:aP (Y.take z)=aP (Y.take k)):SubI w n1 C Y z W :=
 ⟨h.bel,h.big,h.bc,h.rs,by rw[e];exact h.out,by rw[e];exact h.map,h.bk⟩
theorem CQ {w W5 G w8:World} {n1 C k B4:Nat} {Y:List Bs} {s:Bs} {u v v8:Value} {o:Obj} {vs:List Value} (h:SubI w n1 C Y k W5) (hn:w.heap.size+6<=n1) (y':n1<=B4)
  (k':aP (Y.take (k+1))=aP (Y.take k)++[s]) (hu:SetIn (Own n1 (some (w.heap.size+1+1+1)) W5) W5 u s)
  (hM:HasM 9 kv G (w.heap.size+1+1+1+1) ((aP (Y.take k)).length+1) (aP (Y.take k)++[s])) (hg:W5.grownBy G (some (w.heap.size+1+1+1+1)))
  (A':∃o:Obj,W5.heap[w.heap.size+1+1+1+1]?=some o/\o.isCells=false)
  (f':Boxed W5 (w.heap.size+1+1+1) 119 v) (c':W5.ownsRow n1 122 1 v (aP (Y.take k)).length vs) (i':∀(j:Nat) s,(aP (Y.take k))[j]?=some s->∃u,vs[j]?=some u/\SetIn (Own n1 (some (w.heap.size+1+1+1)) W5) W5 u s)
  (I:w8.ownsRow n1 122 1 v8 ((aP (Y.take k)).length+1) (vs++[u])) (a':(G.alloc o).grownBy w8 v.ownBlock) (j':v8.ownBlock=v.ownBlock\/v8.ownBlock=some (G.alloc o).heap.size) :
  KeepsFrom B4 W5 (w8.setCell ⟨w.heap.size+1+1+1,0,none⟩ v8)/\aE w.heap.size n1 (some (w.heap.size+1+1+1)) W5 (w8.setCell ⟨w.heap.size+1+1+1,0,none⟩ v8)/\SubI w n1 C Y (k+1) (w8.setCell ⟨w.heap.size+1+1+1,0,none⟩ v8):=by
 obtain⟨S,hS⟩:=jF w.heap.size;have m':=h.big;have J:∀g,v.ownBlock=some g->n1<=g:=fun g e=>(ag c' e).1
 have q':∀g,v8.ownBlock=some g->n1<=g:=fun g e=>(ag I e).1
 have t':aE w.heap.size n1 (some (w.heap.size+1+1+1)) W5 G:=ic om hg (fun r e=>by injection e with e;subst e;exact⟨by omega,fun e2=>by injection e2 with e2;omega,.inl om⟩) (fun b e=>by injection e with e;omega);have z':=hg.size;have p':aE w.heap.size n1 (some (w.heap.size+1+1+1)) G (G.alloc o):=cf (af _ _) om (fun b e=>by injection e with e;omega);have B':(G.alloc o).heap.size=G.heap.size+1:=by simp
 have n':∀{b:Nat} {t:TypeId} {z:Value},b≠w.heap.size+1+1+1+1->Boxed W5 b t z->Boxed (G.alloc o) b t z:=fun O hb=>(hb.kept hg (fun e=>by injection e with e;exact O e)).alloc o
 have r':aE w.heap.size n1 (some (w.heap.size+1+1+1)) (G.alloc o) (w8.setCell ⟨w.heap.size+1+1+1,0,none⟩ v8) :=
  D7 om om (n' om f').cell om a' (fun e=>by have:=J _ e;omega) J j' (fun g e=>(ag I e).2)
 have Z:=aR t' (aR p' r');have h':∀{b:Nat} {t:TypeId} {z:Value},b<n1->b≠w.heap.size+1+1+1+1->Boxed W5 b t z->Boxed w8 b t z:=fun d' O hb=>(n' O hb).kept a' (fun e=>by have:=J _ e.symm;omega)
 have g':∀{b:Nat} {t:TypeId} {z:Value},b<n1->b≠w.heap.size+1+1+1+1->b≠w.heap.size+1+1+1->Boxed W5 b t z->Boxed (w8.setCell ⟨w.heap.size+1+1+1,0,none⟩ v8) b t z:=fun d' O l' hb=>(h' d' O hb).kept (grownBy_setCell' _ _ _) (fun e=>by injection e with e;exact l' e)
 refine⟨?_,Z,⟨h.bel.trans Z.below,Mx m' Z.below.size,g' om om om h.bc,g' om om om h.rs,?_,?_,g' om om om h.bk⟩⟩
 ·have x':KeepsFrom B4 W5 w8:=by
   refine⟨by have:=a'.size;omega,fun q ob hq e hc=>?_⟩;have u':=(Array.getElem?_eq_some_iff.1 e).1;have e6:G.heap[q]?=some ob:=(hg.block q u' (fun e2=>by injection e2 with e2;omega)).trans e;have e7:(G.alloc o).heap[q]?=some ob:=((af G o).block q om).trans e6;refine (a'.block q om (fun e2=>?_)).trans e7;rcases c'.2 with ⟨rfl,-⟩|⟨g,cap,cur,rfl,-,hh,-⟩
   ·cases e2
   ·cases e2
    rw[e]at hh
    cases hh
    cases hc
  exact x'.trans ((KeepsOthers.setCell _ _ _).from _)
 ·rw[k'];have hlen:vs.length=(aP (Y.take k)).length:=by have:=c'.1;simpa using this
  refine⟨v8,vs++[u],(h' om om f').set v8,?_,fun j t ht=>?_⟩
  ·rw[Mw,MH];exact aT I fun g e=>Nj _ _ _ g (by have:=q' g e;show g≠w.heap.size+1+1+1;omega)
  ·rcases Ny j (aP (Y.take k)).length with d'|hge
   ·rw[MQ d']at ht;obtain⟨z,hz,s'⟩:=i' j t ht;exact⟨z,by rw[MQ om];exact hz,SetIn.keepO Z s'⟩
   ·rw[M7 hge]at ht;have hj:j=(aP (Y.take k)).length:=by
     have:=(List.getElem?_eq_some_iff.1 ht).1;simp at this;omega
    subst hj;simp at ht;subst ht;exact⟨u,by rw[<-hlen];simp,SetIn.keepO Z hu⟩
 ·rw[k',Mw,MH];exact ((hM.below (af G o)).kept a' (fun e=>by have:=J _ e.symm;omega)).kept (grownBy_setCell' _ _ _) (fun e=>by injection e with e;omega)
theorem D0 {Y:List Bs} {k:Nat} {s:Bs} (h:Y[k]?=some s):aP (Y.take (k+1))=eb (aP (Y.take k)) s:=by rw[bK h,AF]
theorem Dm:(prog.info? 122).map (fun i=>(i.zero,i.size,i.bytes))=some (some (.slice none 0 0),1,24):=kr
theorem yI {n1 S:Nat} {W:World} {v:Value} {L:List Bs} {vs:List Value} {B:Option Nat} (hn:S<=n1) (G:W.ownsRow n1 122 1 v L.length vs) (J:∀(j:Nat) s,L[j]?=some s->∃u,vs[j]?=some u/\SetIn (Own n1 B W) W u s):SetsIn (fun q=>S<=q) W v L:=by
 by_cases hp:L.length=0
 ·have hL:L=[]:=M8 hp;subst hL;rcases G.2 with ⟨rfl,_⟩|⟨g,cap,cur,rfl,Z,I,z,h,_⟩
  ·exact⟨none,0,rfl,Mt _,Mu _,fun k p hk=>by simp at hk⟩
  ·exact⟨_,cap,rfl,z,h,fun k p hk=>by simp at hk⟩
 ·obtain⟨g,cap,spare,rfl,Z,I,z,h⟩:=mr G om;refine⟨_,cap,rfl,z,h,fun k p hk=>?_⟩;obtain⟨u,hu,hs⟩:=J k p hk;refine⟨g,0,u,rfl,by omega,?_,hs.mono fun b O=>by have:=O.1;omega⟩;rw[MC,ae I,MQ (List.getElem?_eq_some_iff.1 hu).1];exact hu
theorem fK (V:List Int) (l:List Evt) (x:Pt) (b:Bs) (i:Nat) (hG:GoodQ V l.length x) (V1:dR V l.length) (W4:l.length<=99) (hB:BOk i b) (hi:i<=l.length) (jo g:Nat) (M1:x.op=(jo:Int)) (R0:jo<8) (hg:FV[jo]?=some (.func (.func g) #[] #[]))
  (eg:∀args W,(callFunc g args).run prog W=.ok (.enter g args) W) (hF:vP g l x b i):jX l x b i:=by
 intro d e C v vc vl u w E2 Z' V' hx H0 hu;have A1:ScnAt l w C vl:=⟨E2,Z',V'⟩;have j':=jD (fun (W:World) (h:Mm w W)=>hF d e C v vc vl u w W A1 hx H0 hu h);have S4:=jD (fun (W:World) (h:Mm w W)=>aa h Z');have W1:=jD (fun (W:World)=>wh W);have S3:∀W,(Instr.index 166 (.agg FV) (Mk x.op)).run prog W=.ok (.func (.func g) #[] #[]) W:=fun W=>by
  rw[M1];exact BS W underlying166 Tryz.sizeOf165 Tryz.isAgg165 R0 hg
 obtain⟨Al,cl,rfl,-⟩:=id V';obtain⟨Ab,cb,rfl,-⟩:=id hu;obtain⟨A,c,rfl,-⟩:=id hx;obtain⟨Ac,cc,rfl,-⟩:=id H0;clear E2 Z' V' hx H0 hu A1 hF hg R0 M1;unfold ptV at j' ⊢;refine (OQ (n:=5)).1 ?_;refine callsIn_of_wp_marks func51 rfl trivial ?_ rfl;simp only[ntmps51,N5,MG,Og,Nat.reduceAdd,Nat.reduceSub,O1,O2,O3,O4,OP,Oi];have Z3:=@run_makeMap prog;gi_wp2;clear Z3;refine wpIn_wide.2 ?_;refine bg fun w1 e1=>?_
 obtain⟨P2,y1,y2,y3,y4,y5,y6,s6⟩:=subW (x:=x) (v:=.slice A x.args.length c) (vc:=.slice Ac x.cond.args.length cc) e1;have W3:=jD P2;have p0:Ml w1 ((w.heap.size+1)) 0 (Mk x.op):=y2 0 _ rfl;have X':Hid (Cells w1 (w.heap.size+1) 0 (aM x (.slice A x.args.length c) (.slice Ac x.cond.args.length cc))):=jD y2;have d':Hid (Boxed w1 w.heap.size 116 (.pointer (some ⟨C,0,none⟩))/\Boxed w1 (w.heap.size+1+1) 119 (.slice none 0 0)/\Boxed w1 (w.heap.size+1+1+1) 119 (.slice none 0 0)/\HasM 9 kv w1 (w.heap.size+1+1+1+1) 0 [] /\
   Boxed w1 (w.heap.size+1+1+1+1+1) 130 (.map (some (w.heap.size+1+1+1+1)))):=jD ⟨y1,y3,y4,y5,y6⟩
 have K3:=jD s6;have Q3:=Ms w1 ⟨w.heap.size+1,_,none⟩ p0;obtain⟨nb,T1⟩:∃n,n=b.length:=⟨_,rfl⟩;obtain⟨na,F1⟩:∃n,n=x.args.length:=⟨_,rfl⟩;obtain⟨nx,P1⟩:∃n,n=x.cond.args.length:=⟨_,rfl⟩;rw[<-T1]at j' ⊢;rw[<-F1]at j' X' ⊢;rw[<-P1]at j' X' ⊢;obtain⟨Y,hY⟩:=jF (fO l x b i);have HV:Hid (∀s∈Y,SetV V i l.length s):=jD fun s hs=>Jp hG (by rw[<-hY];exact hs)
 have H2:Hid (∀k,(aP (Y.take k)).length<=4096):=jD fun k=>Mx (C4 Y k) (by rw[hY,<-pZ l hG.okA];exact wi hG b i)
 have Z0:Hid (bj l x b i=aP Y):=jD (by rw[hY,<-pZ l hG.okA]);rw[<-hY]at j';have A3:=jD V1;clear e1 y1 y2 y3 y4 y5 y6 s6 P2 T1 F1 P1 hY hG V1;refine rgn (fun W:World=>Mm w1 W/\Ml W (w.heap.size+1) 0 (Mk x.op)) (Below w1.heap.size w1) (fun W hW=>⟨hW,aa hW p0⟩) ((Mr _ _).drew) (fun Y' c'=>?_);refine tkH [1,2] ?_;refine nxH 0 (fun K hK=>?_)
 focus (go_simp;refine (W1.out _).mono ?_;rintro e w2 ⟨rfl,S1⟩;have n':Mm w1 w2:=ab c'.1 S1)
 refine hK.out _ _ (Y' _ n') (fun c'=>?_);clear hK K;refine nxH 3 (fun K hK=>?_)
 go_simp
 refine hK.out _ _ (Y' _ jB) (fun c'=>?_);clear hK K;refine tkH [4] ?_;refine dn ?_;have R1:=jD (ab W3.out n');have F':=n';obtain⟨q0,q1,q2,q3,q4,q5,q6,q7,q8,q9,T3,P4,U2,R3⟩:=dU (dw X'.out F');have zc:Ml w2 w.heap.size 0 (.pointer (some ⟨C,0,none⟩)):=Boxed.cell (t:=116) ((F'.block _ d'.out.1.lt).trans d'.out.1);have R4:=Ms w2 ⟨_,_,none⟩ zc;have P3:=Ms w2 ⟨(w.heap.size+1),_,none⟩ q0;have z':=jD F';clear c' Y' n' S1 p0 Q3 F' S3 W1;gi_wp2;refine⟨trivial,callsIn_wide.2 ?_⟩;refine (j'.out w2 R1.out).mono ?_;rintro e4 w4 ⟨gf,lb,rfl,K2,r',G1⟩;have U0:w.heap.size+6<=w2.heap.size:=by have:=z'.out.size;have:=K3.out;omega
 have p':∀{b:Nat} {t:TypeId} {v:Value},Boxed w1 b t v->Boxed w2 b t v:=fun hb=>(z'.out.block _ hb.lt).trans hb
 have s':∀{b:Nat} {t:TypeId} {v:Value},Boxed w2 b t v->Boxed w4 b t v:=fun hb=>(r'.block _ hb.lt).trans hb
 have y':fA w2 (some (w.heap.size+1+1+1)):=fun k ⟨b',v',e1,hc,hv⟩=>by
  injection e1 with e1;subst e1;rw[(p' d'.out.2.2.1).cell]at hc;injection hc with hc;subst hc
  cases hv
 have H':=jD (G1 w2.heap.size (some (w.heap.size+1+1+1)) om (Mt _) y' (fun k e=>by injection e with e;omega));have X0:Hid (SubI w w2.heap.size C Y 0 w4):=jD ⟨ab R1.out r',r'.size,s' (p' d'.out.1),s' (p' d'.out.2.1),⟨_,[],s' (p' d'.out.2.2.1),⟨rfl,.inl ⟨rfl,rfl⟩⟩,fun j s hs=>by simp[aP]at hs⟩,(d'.out.2.2.2.1.below z'.out).below r',s' (p' d'.out.2.2.2.2)⟩;have A4:=jD K2;have HN:=jD (And.intro U0 r'.size);obtain⟨n1,J'⟩:∃n,n=w2.heap.size:=⟨_,rfl⟩;rw[<-J']at X0 H' HN;clear G1 K2 r' y' U0 p' s' q0 q1 q2 q3 q4 q5 q6 q7 q8 q9 T3 P4 U2 R3 zc R4 P3 d' J' j';gi_wp2;refine tO fun a0 e0=>?_
 refine Hy (n:=5) (gf:=gf) (lb:=lb) (by rw[e0];rfl) A4.out H'.out
  aR (kO (by have:=HN.out;omega) (fun b h=>by injection h with h;have:=HN.out;omega)) (Mr _ _) (fun x v=>Ca (fun b h=>by injection h with h;have:=HN.out;exact⟨by omega,by omega⟩) x v) (fun x v W h=>yf h)
  (SubI w n1 C Y) (fun _ _ _=>False)
  (fun s X Z row h hg hr=>h.keep HN.out.1 hg (fun r e=>⟨by have:=(hr r e).1;have:=HN.out.2;omega,(hr r e).2⟩))
  (fun _ _ _ _ _ h _ _=>h) X0.out
  (fun x v a' W=>∃u1,v=#[u1]/\a'={ tmps:=(a0.tmps.setIfInBounds 25 u1).setIfInBounds 12 u1,defers:=[] }) (fun x v a' _ _ _ _ h _ _=>h) ?assign ?body ?done ?stop
 case assign =>
  intro m lo q s v W K hl hs hi q' hK;obtain⟨u1,rfl,A2⟩:=id q';obtain⟨Au,cu,rfl⟩:=A2.form;have HK:=jD hK;have U1:=jD (And.intro hi q');clear hi q' hK hs A2;rw[e0];gi_wp2;refine Ic fun W' e'=>?_
  subst e';exact HK.out _ _ (KeepsFrom.refl _ _) (eO _ _ _ _) U1.out.1 U1.out.2 ⟨_,rfl,by rw[e0];rfl⟩
 case body =>
  rintro m lo k s v a' W hl-hs hi q' ⟨u1,rfl,rfl⟩;obtain⟨u2,e2,D'⟩:=id q';injection e2 with e2;injection e2 with e2;subst e2;have t':=HV.out s (MI hs);have h':∀x∈s,(0<=x.1/\x.1<16)/\x.2<100:=fun x hx=>⟨A3.out.var _ (t'.var x hx),by have:=(t'.ok.2.2 x hx).2;omega⟩
  have B3:=t'.n63;have R':=jD (Bf s u1 W D'.is h' om t'.ok.1);have Z1:=yL s h';have V0:keyOf prog 9 (kv s)=some _:=KW (s:=s) (by unfold maxLen;omega);have S0:=jD V0;have T':Hid (SetIn (Own n1 (some (w.heap.size+1+1+1)) W) W u1 s):=jD D';obtain⟨Au,cu,rfl⟩:=D'.form;have HI:=jD hi;have K0:=jD (D0 hs);have O:Hid (w.heap.size+6<=n1/\n1<=W.heap.size):=jD ⟨HN.out.1,hi.big⟩;obtain⟨ns,G2⟩:∃n,n=s.length:=⟨_,rfl⟩;rw[<-G2]at R' T' ⊢;clear hi q' hs D' G2 t' h' B3 Z1 V0;rw[e0];simp only[NA,MZ,MY];gi_wp2;refine⟨trivial,fun h=>by simp[Fence.wide]at h,CallsIn.inRound _ (callsIn_wide.2 ?_)⟩;refine R'.out.mono ?_;rintro e5 W5 ⟨rfl,G'⟩;have B':SubI w n1 C Y k W5:=HI.out.keep O.out.1 (aC G' none) (fun r e=>by cases e);have P0:aE w.heap.size n1 (some (w.heap.size+1+1+1)) W W5:=cf G' (by have:=O.out;omega) (fun b e=>by injection e with e;have:=O.out;omega);have K1:=SetIn.keepO P0 T'.out;have f':=jD B';have Y1:=jD P0;have M3:=jD K1;have X1:Hid (KeepsFrom w4.heap.size W W5):=jD (bF G');obtain⟨r,hr,Q0⟩:=B'.map.look tU underlying130 S0.out;have HR:=jD hr;have zk:=B'.bk.cell;have Z1:=B'.bk.lt;unfold kv at Q0;clear G' P0 K1 hr B';have Q1:∃o:Obj,W5.heap[w.heap.size+1+1+1+1]?=some o/\o.isCells=false:=by
   obtain⟨D,⟨es,clock,Q4,-⟩,-⟩:=f'.out.map;exact⟨_,Q4,rfl⟩
  have V3:=jD Q1;clear Q1
  cases r with
  | true =>
   have N':=HR.out.1 rfl;have R2:Hid (SubI w n1 C Y (k+1) W5):=jD (f'.out.same (by rw[K0.out];unfold eb;rw[Mp (by rw[PG];exact N')]));clear N';gi_wp2;exact⟨X1.out,Y1.out,R2.out⟩
  | false =>
   have E1:s∉aP (Y.take k):=fun hm=>by have:=HR.out.2 hm;cases this
   have B2:Hid (aP (Y.take (k+1))=aP (Y.take k)++[s]):=jD (by rw[K0.out];unfold eb;rw[Mo (by rw[PG];exact E1)]);have Y0:(aP (Y.take k)).length+1<=4096:=by have h:=H2.out (k+1);rw[B2.out,Mw]at h;simpa using h
   obtain⟨W6,H4,Q2,G⟩:=f'.out.map.store tU underlying130 Ln S0.out (by unfold maxLen;omega);obtain⟨vo,vs,i',z,J⟩:=f'.out.out;obtain⟨Ao,co,rfl⟩:=aH z;have g':Boxed W6 (w.heap.size+1+1+1) 119 (.slice Ao (aP (Y.take k)).length co):=i'.kept G (fun e=>by injection e with e;omega);have k':W6.ownsRow n1 122 1 (.slice Ao (aP (Y.take k)).length co) (aP (Y.take k)).length vs:=aT z fun g e=>G.block g (ag z e).2 (fun e2=>by injection e2 with e2;have:=(ag z e).1;have:=O.out;omega)
   have S':Boxed W6 w.heap.size 116 (.pointer (some ⟨C,0,none⟩)):=f'.out.bc.kept G (fun e=>by injection e with e;omega);have A':Mm w W6:=f'.out.bel.trans ⟨G.os,G.tape,G.output,G.size,fun q hq=>G.block q (by have:=f'.out.big;have:=O.out;omega) (fun e=>by injection e with e;omega)⟩;have I':=jD (fun (w8:World) (v8:Value) (o:Obj) I l' hloc=>CQ (B4:=w4.heap.size) (w8:=w8) (v8:=v8) (o:=o) f'.out O.out.1 HN.out.2 B2.out M3.out Q2 G V3.out i' z J I l' hloc);have V4:=G.size;have T2:n1<=W6.heap.size:=by have:=f'.out.big;omega
   obtain⟨nL,u'⟩:∃n,n=(aP (Y.take k)).length:=⟨_,rfl⟩;rw[<-u']at Y0 g' k' I';have O':=jD k';have H3:=jD g';have W2:=jD S';have m':=jD A';have zo:=g'.cell;have X2:=g'.lt;have hle:¬(4096:Int)<(nL:Int)+1:=by omega
   have U4:¬4096<nL+1:=by omega
   obtain⟨i0,Y3,Z2,K4,U3⟩:=Np Dm;unfold kv at H4;clear E1 Q2 G i' z J g' k' S' A' u' HR K0;gi_wp2_with (gi_at_builtin;refine iU _ rfl (.tmp 33) (.tmp 35) 119 rfl n1 122 i0 _ 1 24 underlying119 Y3 Z2 K4 U3 rfl dc (.slice Ao nL co) nL vs rfl (ao O'.out (af _ _)) (some ⟨W6.heap.size,0,none⟩) 1 1 [.slice Au ns cu] rfl (cB _ [.slice Au ns cu] _ 1 1 _ jS rfl (by simp[Value.oneCell'])) (by unfold maxLen;omega) om (by simp;omega) ?_;intro v8 w8 I l' x';have U':=jD (I'.out w8 v8 _ I l' x');have C':∀g,(Value.slice Ao nL co).ownBlock=some g->n1<=g:=(fun g e=>(ag O'.out e).1);have y8:Boxed w8 (w.heap.size+1+1+1) 119 (.slice Ao nL co):=((H3.out.alloc _).kept l' (fun e=>by have:=C' _ e.symm;have:=O.out;omega));have c8:=y8.cell;have f8:=y8.frozen;have l8:=y8.lt;have x8:w8.cell? ⟨w.heap.size,0,none⟩=some (.pointer (some ⟨C,0,none⟩)):=((W2.out.alloc _).kept l' (fun e=>by have:=C' _ e.symm;have:=O.out;omega)).cell;have u8:w8.cell? ⟨C,1,none⟩=some (.bool false):=S4.out w8 (m'.out.trans ((af W6 _).mono m'.out.size |>.trans (au l' (by simp;omega) (fun g h=>by have:=C' g h;have:=O.out;omega))));obtain⟨A8,k8,rfl⟩:=aH I;clear I l' x' C' y8);exact⟨X1.out.trans U'.out.1,aR Y1.out U'.out.2.1,U'.out.2.2⟩
 case done =>
  rintro D W hD hi hK;have HK:=jD hK;have S2:=hi;obtain⟨vo,vs,i',z,J⟩:=hi.out;rw[Nq]at z J;obtain⟨Ao,co,rfl⟩:=aH z;have P':Hid (SetsIn (fun q=>n1<=q) W (.slice Ao (aP Y).length co) (aP Y)):=jD (yI (Mt _) z J);have zo:=i'.cell;have X2:=i'.lt;have zr:=hi.rs.cell;have fr:=hi.rs.frozen;have rl:=hi.rs.lt;have V2:=jD hi.rs;have m':=jD hi.bel;have T4:=jD hi.big;obtain⟨nL,u'⟩:∃n,n=(aP Y).length:=⟨_,rfl⟩;rw[<-u']at P' zo;clear hi S2 i' z J u' hK;rw[e0];gi_wp2_with fail;have E':=(KeepsOthers.setCell W ⟨w.heap.size+1+1,0,none⟩ (.slice Ao nL co)).same D _ HK.out rfl;refine⟨by simp,.inl ⟨_,_,rfl,run_takeDeferred E',?_⟩⟩;have q:=V2.out.set (.slice Ao nL co);have hd:=(q.kept (grownBy_putObj' _ D (.deferred none)) (by intro h;cases h;have h2:(World.setCell _ _ _).heap[w.heap.size+1+1]?=_:=q;rw[E']at h2;cases h2)).cell;have Y2:Mm w ((W.setCell ⟨w.heap.size+1+1,0,none⟩ (.slice Ao nL co)).putObj D (.deferred none)):=(aq m'.out om _).trans (belowK_b (w:=w) (Mt _) _ D _ _ (by have:=HN.out;omega) E' rfl rfl);refine⟨.slice Ao nL co,?_,_,rfl,?_,Y2⟩
  ·simp[results,Tryz.f51,go_sem,hd]
  ·rw[Z0.out];have X3:=aR (sD (n0:=w.heap.size) (n1:=n1) (B:=none) W (b:=w.heap.size+1+1) (i:=0) om (by have:=HN.out;omega) jS (.slice Ao nL co)) (kO (w:=w) (n1:=n1) (B:=none) (Mt _) (fun b h=>by cases h) _ D _ (.deferred none) (by have:=HN.out;omega) E' rfl rfl);exact (SetsIn.keepO X3 (P'.out.mono fun q hq=>⟨hq,py _ _⟩)).mono fun q hq=>by have:=hq.1;have:=HN.out;omega
 case stop=>rintro D c k W hD hk h;exact h.elim
end
section
open Go.RowKit Go.Lib
theorem yN:∀l:List Pt,l.length<=bI l
 | []=>Mt _
 | a::r=>by have:=yN r;have:=cX a;rw[MG,bI];omega
theorem EA (V:List Int) (l:List Evt) (z:dR V l.length) (G:l.length<=99) (x:Pt) (hx:ptN x<=1048576) (J:GoodQ V l.length x) (Z:∀a∈x.args,fI l a) (hr:x.op=1->∀a c r,x.args=a::c::r->fI l (gi x (c::r))) :
  ∀(m:Nat) (b:Bs) (i:Nat),l.length-i<=m->BOk i b->i<=l.length->jX l x b i:=by
 intro m
 induction m using Nat.strongRecOn with
 | _ m ih =>
  intro b i hm O I;have hR:∀b' j,i<j->BOk j b'->j<=l.length->jX l x b' j:=fun b' j h1 h2 h3=>ih (l.length-j) om b' j (Mt _) h2 h3
  have a':x.args.length<=1048576:=by have:=yN x.args;have:=cX x;omega
  have d':=J.op;have hN:=J.good.self.2;have c':=z.len;have hc:x.op=0\/x.op=1\/x.op=2\/x.op=3\/x.op=4\/x.op=5\/x.op=6\/x.op=7:=by omega
  rcases hc with h|h|h|h|h|h|h|h
  ·exact fK V l x b i J z G O I 0 131 h dc rfl (enters_of func131 kr rfl) (D5 l x b i h O I c' hN).own
  ·exact fK V l x b i J z G O I 1 132 h dc rfl (enters_of func132 kr rfl) (Jw V l x b i J z h O I Z (hr h)).own
  ·exact fK V l x b i J z G O I 2 133 h dc rfl (enters_of func133 kr rfl) (J7 l x b i h O I Z).own
  ·exact fK V l x b i J z G O I 3 134 h dc rfl (enters_of func134 kr rfl) (J5 V l x b i J z h O I Z a').own
  ·exact fK V l x b i J z G O I 4 135 h dc rfl (enters_of func135 kr rfl) (F6 V l x b i J z h O I Z hR)
  ·exact fK V l x b i J z G O I 5 136 h dc rfl (enters_of func136 kr rfl) (pI V l x b i J z (.inl h) O I Z).own
  ·exact fK V l x b i J z G O I 6 136 h dc rfl (enters_of func136 kr rfl) (pI V l x b i J z (.inr (.inl h)) O I Z).own
  ·exact fK V l x b i J z G O I 7 136 h dc rfl (enters_of func136 kr rfl) (pI V l x b i J z (.inr (.inr h)) O I Z).own
theorem Jv (V:List Int) (l:List Evt) (G:dR V l.length) (J:l.length<=99):∀(N:Nat),N<=1048576->∀x,ptN x<=N->GoodQ V l.length x->fI l x:=by
 intro N
 induction N with
 | zero=>intro _ x h;have:=cX x;omega
 | succ N Z =>
  intro hN x hx I;have he:=cX x;have hA:∀a∈x.args,fI l a:=fun a O=>Z om a (by have:=pB O;omega) (I.arg O)
  have hr:x.op=1->∀a c r,x.args=a::c::r->fI l (gi x (c::r)):=fun ho a c r z=>by
   refine Z om _ ?_ (I.rest ho z);have h1:=cX (gi x (c::r));have h2:=cX a;rw[eI]at h1;rw[z,bI]at he;omega
  exact fun b i hB hi=>EA V l G J x om I hA hr l.length b i om hB hi
end
end Go.Proofs.YtbjicljfjkdeeaaGreatDoor
