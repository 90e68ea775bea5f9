/- Part. -/
import Derived.Test.YteemngnialjaiaaGreatDoorQ08
import Derived.Test.YteemngnialjaiaaGreatDoorQ07
set_option maxRecDepth 100000
set_option maxHeartbeats 16000000
set_option linter.unusedVariables false
set_option linter.unusedSimpArgs false
namespace Go.Proofs.YteemngnialjaiaaGreatDoor
open Go.Proofs.Tryz Go.RowKit
variable {vs:List (List Evt)}{ev e:Evt}{l pre:List Vl}{k g t c b B:Nat}{a f:Int}{x:Ex}{W w w' W':World}{a0 a2 a3 a4 v v6 v7 v8:Value}{A:Option Addr}{vl:Vl}{p:Prop}{row:Option Nat}{cs:List Value}{K:Act->World->Prop}{Q:Exit->Act->World->Prop}{o:Oper}{ks:List Int}
def gV(x:Ex):Int:=if 64<aC x then 5 else if 12<bD x then 12 else bL x
def bR(vs:List (List Evt))(v:Int):List Evt:=if v<0\/(vs.length:Int)<=v then [] else vs.getD v.toNat []
def dh(h:List Vl)(k:Int):Vl × Int:=if (h.length:Int)<=k then (au,6) else (h.getD k.toNat au,0)
def dE(k:Int):List Evt->List Vl × Int
 | []=>([],0)
 | e::r=>if (dh e.vals k).2≠0 then ([],6) else ((dh e.vals k).1::(dE k r).1,(dE k r).2)
def qM(l:List Evt)(x:Ex):Vl × Int:=if (dE x.fl l).2≠0 then (au,6) else ofR x.kd (dE x.fl l).1 x.val
def oK(l:List Evt)(b:Bool)(ev:Evt):Option Evt:=if b=true then some ev else l.getLast?
def yU(x:Ex):Option Evt->Vl × Int
 | none=>(au,10)
 | some e=>if x.op=2 then (fK e.tm,0) else if (dh e.vals x.fl).2≠0 then (au,6) else if cQ (dh e.vals x.fl).1≠0 then (au,cQ (dh e.vals x.fl).1) else ((dh e.vals x.fl).1,0)
def iV(vs:List (List Evt))(own:Int)(ev:Evt)(x:Ex):Vl × Int :=
 if x.op=0 then (x.val,0) else if x.op=3 then (fK (bR vs x.vr).length,0) else if x.op=4 then qM (bR vs x.vr) x
 else yU x (oK (bR vs x.vr) (decide (x.vr=own)) ev)
def okK(op k0 k:Int):Bool:=if 5<=op/\op<=8 then decide (k=0) else if 10<=op/\op<=12 then decide (k=1) else if op=9 then decide (k=k0) else true
def opE(op:Int)(ks:List Int):Int:=if ks.all (okK op (ks.headD 0)) then 0 else 9
def iM(op:Int)(a b:Vl):Vl :=
 if op=5 then fK (IntKind.i64.wrap (a.num+b.num)) else if op=6 then fK (IntKind.i64.wrap (a.num-b.num))
 else if op=7 then bQ (decide (a.num<b.num)) else if op=8 then bQ (decide (a.num<=b.num))
 else if op=9 then bQ (bI a b) else if op=10 then bQ (decide (a.num=1)&&decide (b.num=1))
 else if op=11 then bQ (decide (a.num=1) || decide (b.num=1)) else bQ (!decide (a.num=1))
def yP(op:Int)(r:List Vl × Int):Vl × Int :=
 if r.2≠0 then (au,r.2) else if opE op (r.1.map (·.kind))≠0 then (au,opE op (r.1.map (·.kind)))
 else (iM op (r.1.headD au) (r.1.getLastD au),0)
mutual
def dK(vs:List (List Evt))(own:Int)(ev:Evt):Ex->Vl × Int
 | .mk o l a b c v=>if l.length=0 then iV vs own ev (.mk o l a b c v) else yP o (gA vs own ev l)
def gA(vs:List (List Evt))(own:Int)(ev:Evt):List Ex->List Vl × Int
 | []=>([],0)
 | a::r=>if (dK vs own ev a).2≠0 then ([],(dK vs own ev a).2) else ((dK vs own ev a).1::(gA vs own ev r).1,(gA vs own ev r).2)
end
theorem qj{own:Int}{l:List Ex}{a:Ex}(h:l[k]?=some a) :
  gA vs own ev (l.drop k)=if (dK vs own ev a).2≠0 then ([],(dK vs own ev a).2) else ((dK vs own ev a).1::(gA vs own ev (l.drop (k+1))).1,(gA vs own ev (l.drop (k+1))).2):=by
 obtain⟨h1,rfl⟩:=List.getElem?_eq_some_iff.1 h;rw[PE h1,gA]
theorem mI{l:List Evt}(h:l[k]?=some e) :
  dE f (l.drop k)=if (dh e.vals f).2≠0 then ([],6) else ((dh e.vals f).1::(dE f (l.drop (k+1))).1,(dE f (l.drop (k+1))).2):=by
 obtain⟨h1,rfl⟩:=List.getElem?_eq_some_iff.1 h;rw[PE h1,dE]
theorem oh{k:Int}(h0:0<=k)(h:k<(l.length:Int)):dh l k=(l.getD k.toNat au,0):=OF om
theorem oa{k:Int}(h:(l.length:Int)<=k):dh l k=(au,6):=OG h
theorem sQ(h:bL x=0):iC x=0/\∀(k:Nat)(a:Ex),x.args[k]?=some a->bL a=0:=by
 rw[D9]at h;have h1:iC x=0:=by
  refine Sk fun I=>?_
  rw[OG I]at h;exact I h
 rw[OF (jQ h1)]at h;refine⟨h1,?_⟩;generalize x.args=l at h;clear h1
 induction l with
 | nil=>intro k a hk;simp at hk
 | cons y r Z =>
  rw[cT]at h;have J:bL y=0:=by
   refine Sk fun I=>?_
   rw[OG I]at h;exact I h
  rw[OF (jQ J)]at h;intro k a hk
  cases k with
  | zero=>simp at hk;subst hk;exact J
  | succ k=>exact Z h k a (jQ hk)
def oS(v:Value)(own:Int)(ev:Evt)(u:Value)(m:Nat):Value:=.agg #[v,OB own,OB ev.src,OB ev.sq,OB ev.ty,OB ev.tm,u,.map (some m)]
theorem mE{I a5 Z J:Value}(h:W.heap[g]?=some (.cells [a0,I,a2,a3,a4,a5,Z,J].toArray t (0,0))) :
  W.cell? ⟨g,0,none⟩=some a0/\W.cell? ⟨g,1,none⟩=some I/\W.cell? ⟨g,2,none⟩=some a2/\W.cell? ⟨g,3,none⟩=some a3/\W.cell? ⟨g,4,none⟩=some a4/\W.cell? ⟨g,5,none⟩=some a5/\W.cell? ⟨g,6,none⟩=some Z/\W.cell? ⟨g,7,none⟩=some J :=
 ⟨ab h 0,ab h 1,ab h 2,ab h 3,ab h 4,ab h 5,ab h 6,ab h 7⟩
theorem I6{I:Value}(h:W.heap[g]?=some (.cells [a0,I,a2,a3,a4].toArray t (0,0))) :
  W.cell? ⟨g,0,none⟩=some a0/\W.cell? ⟨g,1,none⟩=some I/\W.cell? ⟨g,2,none⟩=some a2/\W.cell? ⟨g,3,none⟩=some a3/\W.cell? ⟨g,4,none⟩=some a4 :=
 ⟨ab h 0,ab h 1,ab h 2,ab h 3,ab h 4⟩
theorem tq(vs:List (List Evt))(v:Value)(own:Int)(ev:Evt)(Au:Option Addr)(nu cu m:Nat)(k:Int)(w:World)(hv:dU w v vs) :
  Calls prog 164 #[oS v own ev (.slice Au nu cu) m,OB k] w fun e w'=>∃A c,e=.returned (.slice A (bR vs k).length c)/\cH w' (.slice A (bR vs k).length c) (bR vs k)/\OD w w':=by
 obtain⟨A,c,rfl,h1,Z,I⟩:=hv;have d':=aP h1 Z;have HL:=jD I;clear I h1 Z;unfold oS
 by_cases c1:k<0
 ·have e:bR vs k=[]:=OG (.inl c1);rw[e];go_enter func164,ntmps164;go_wp2;go_ret;exact⟨none,0,rfl,Sl.nil _ _ _ _ _ (OO _),jB⟩
 by_cases c2:(vs.length:Int)<=k
 ·have e:bR vs k=[]:=OG (.inr c2);rw[e];go_enter func164,ntmps164;go_wp2;go_ret;exact⟨none,0,rfl,Sl.nil _ _ _ _ _ (OO _),jB⟩
 obtain⟨n,rfl⟩:∃n:Nat,k=n:=⟨k.toNat,by omega⟩;have h:n<vs.length:=by omega
 have e:bR vs n=vs[n]:=by unfold bR;rw[OF om];simp[R1,h]
 obtain⟨b,o,rfl,v',J,hc⟩:=HL.out n vs[n] (OH h);rw[e];have HV:=jD J;obtain⟨A',c',rfl,-⟩:=J;have f':b<w.heap.size:=OV w ⟨b,_,none⟩ hc;have a':b≠w.heap.size:=by omega
 rw[P7]at hc;clear e;go_enter func164,ntmps164;go_wp2;go_ret;exact⟨A',c',rfl,HV.out.stays bX jB,jB⟩
theorem bB(h:bh w (.slice A l.length c) l)(hk:k<l.length):∃b o,A=some ⟨b,o,none⟩/\b<w.heap.size /\
  w.cell? ⟨b,o+k*3,none⟩=some (OB (l.getD k au).kind)/\w.cell? ⟨b,o+k*3+1,none⟩=some (OB (l.getD k au).num)/\w.cell? ⟨b,o+k*3+2,none⟩=some (.string (l.getD k au).text):=by
 obtain⟨A',c',e,h1,J,I⟩:=h;injection e with e1 e2 e3;subst e1 e3;obtain⟨b,o,rfl,h0,h1,J⟩:=I k l[k] (OH hk);have Z:l.getD k au=l[k]:=by simp[R1,hk]
 rw[Z];exact⟨b,o,rfl,OV w ⟨b,_,none⟩ h0,h0,h1,J⟩
theorem nZ(x:Evt)(u:Value)(k:Int)(w:World)(hu:bh w u x.vals)(h0:0<=k) :
  OE 166 #[cM x u,OB k] w (.tuple #[vlV (dh x.vals k).1,OB (dh x.vals k).2]):=by
 have HU:=jD hu;obtain⟨A,c,rfl,h1,h,-⟩:=hu;have I:=aP h1 h;clear h1 h;unfold cM
 by_cases c1:(x.vals.length:Int)<=k
 ·rw[oa c1];unfold vlV au;go_enter func166,ntmps166;go_wp2;exact OJ (v:=.tuple #[.agg #[OB 0,OB 0,.string ⟨#[]⟩],OB 6]) (by simp[results,results166,go_sem]) rfl ⟨rfl,jB⟩
 have c2:k<(x.vals.length:Int):=by omega
 rw[oh h0 c2];obtain⟨n,rfl⟩:∃n:Nat,k=n:=⟨k.toNat,by omega⟩;rw[R2];obtain⟨b,o,rfl,hb,p0,p1,Z⟩:=bB HU.out (k:=n) om;obtain⟨y,hy⟩:=jE (x.vals.getD n au);rw[hy]at p0 p1 Z ⊢;clear hy;have a':b≠w.heap.size:=by omega
 have J:b≠w.heap.size+1:=by omega
 unfold vlV;go_enter func166,ntmps166;go_wp2;exact OJ (v:=.tuple #[.agg #[OB y.kind,OB y.num,.string y.text],OB 0]) (by simp[results,results166,go_sem]) rfl ⟨rfl,jB⟩
theorem DO(vs:List (List Evt))(v:Value)(own:Int)(ev:Evt)(Au:Option Addr)(nu cu m:Nat)(x:Ex)(Ax:Option Addr)(nx cx:Nat)(w:World)(hv:dU w v vs)(hf:0<=x.fl)(i':(bR vs x.vr).length<=1048576) :
  Calls prog 165 #[oS v own ev (.slice Au nu cu) m,exV x (.slice Ax nx cx)] w fun e w' =>
   e=.returned (.tuple #[vlV (qM (bR vs x.vr) x).1,OB (qM (bR vs x.vr) x).2])/\OD w w':=by
 have HV:=jD hv;obtain⟨A,c,rfl,-⟩:=hv;have B':=jD (fun W (hW:OD w W)=>tq vs _ own ev Au nu cu m x.vr W (HV.out.stays cz hW));obtain⟨evs,g'⟩:∃e,bR vs x.vr=e:=⟨_,rfl⟩;rw[g']at B' i' ⊢;clear g';obtain⟨⟨RV,re⟩,hR⟩:∃r,qM evs x=r:=⟨_,rfl⟩;rw[hR];obtain⟨op,l,vr,fl,kd,vl⟩:=x;obtain⟨FR,Z⟩:∃r,dE fl evs=r:=⟨_,rfl⟩;have HR:Hid ((if FR.2≠0 then (au,6) else ofR kd FR.1 vl)=(RV,re)):=jD (by rw[<-hR,<-Z];rfl);have J':=jD Z;clear hR Z;unfold oS exV at *;simp only[Ex.op,Ex.vr,Ex.fl,Ex.kd,Ex.val]at *;unfold vlV;go_enter func165,ntmps165;go_wp2_with fail;refine aJ fun W9 e9=>?_
 have hX:W9.heap[w.heap.size+1]?=some (.cells [.int .i64 op,.slice Ax nx cx,.int .i64 vr,.int .i64 fl,.int .i64 kd,.int .i64 vl.kind,.int .i64 vl.num,.string vl.text].toArray 29 (0,0)):=by
  rw[e9];repeat (first|exact ax _ _ _ jS|apply aI)
 have hB:VBox W9 (w.heap.size+2):=⟨OB 0,OB 0,.string ⟨#[]⟩,by rw[e9];repeat (first|exact ax _ _ _ jS|apply aI)⟩;have j':OD w W9:=gb e9;clear e9;refine (B'.out _ j').mono ?_;rintro e w1 ⟨A1,c1,rfl,hl,f'⟩;have HX:=jD (aw f' hX);have HB:=jD (hB.stays f');have x':=jD (ae j' f');obtain⟨h1,h2,z'⟩:evs.length<=c1/\c1<=maxLen/\∀k x,evs[k]?=some x->∃b o,A1=some ⟨b,o,none⟩/\pP w1 b (o+k*5) x:=by
  obtain⟨A',c',e,h1,h2,h3⟩:=hl;injection e with e1 e2 e3;subst e1 e3;exact⟨h1,h2,h3⟩
 have V':=aP h1 h2;have HL:=jD z';have C':=jD i';have H':w.heap.size+2<w1.heap.size:=HB.out.lt;obtain⟨X,r'⟩:=jF (w.heap.size+1);have S0:X+1<w1.heap.size:=by omega
 have X0:w.heap.size<=X:=by omega
 rw[show w.heap.size+2=w.heap.size+1+1 from rfl]at HB;rw[<-r']at HX HB ⊢;clear hX hB j' f' hl h1 h2 z' i' H' r';obtain⟨i0,hi,G',R',P'⟩:=Ql kQ;go_wp2_with fail
 go_loopw [6,16] (fun av i wr=>∃(k:Nat)(pre:List Vl),k<=evs.length/\pre.length=k/\i=OB k/\Hid (wr.ownsRow w1.heap.size 27 3 av k (bS pre))/\Hid ((pre++(dE fl (evs.drop k)).1,(dE fl (evs.drop k)).2)=FR/\OD w1 wr)) (fun _ i _=>evs.length-(intOf i).toNat)
 case atStart=>exact⟨0,[],OO _,rfl,rfl,jD ⟨rfl,.inl ⟨rfl,rfl⟩⟩,jD ⟨by rw[PN,J'.out];rfl,OK _ _⟩⟩
 case round =>
  obtain⟨k,pre,hk,s',rfl,I,hI⟩:=hrel;have hb:=hI.out.2;obtain⟨Ar,cr,rfl⟩:=bw I.out;have C0:=hb.size;have Q':=jD (aw hb HX.out);have I':=jD (HB.out.stays hb);obtain⟨q0,q1,q2,q3,q4,q5,q6,q7⟩:=mE Q'.out
  by_cases p':k<evs.length
  ·have D':(k:Int)<(evs.length:Int):=by omega
   obtain⟨b,o,rfl,v',n',p0,p1,p2,p3,p4⟩:=HL.out k evs[k] (OH p');have hg:=jD (OH p');obtain⟨a,ha⟩:=jF (evs[k]);rw[<-ha]at hg n' p0 p1 p2 p3;clear ha;replace p0:=aa hb p0;replace p1:=aa hb p1;replace p2:=aa hb p2;replace p3:=aa hb p3;replace p4:=aa hb p4;have E':=jD (n'.stays aG hb);obtain⟨A',c',rfl,-⟩:=n';obtain⟨⟨J,fe⟩,m'⟩:∃r,dh a.vals fl=r:=⟨_,rfl⟩;have HF:=jD (fun W (hW:OD wr W)=>nZ a _ fl W (E'.out.stays aG hW) hf);rw[m']at HF;unfold cM vlV at HF;have t':=jD m';have U0:X≠wr.heap.size:=by omega
   have U':X+1≠wr.heap.size:=by omega
   have K0:X<wr.heap.size:=by omega
   have Y':X+1<wr.heap.size:=by omega
   clear m';go_wp2_with fail;refine (HF.out _ ?_).mono ?_
   ·exact jB
   rintro e w2 ⟨rfl,a'⟩;have h':Hid (OD wr w2):=jD (ae (by exact jB) a');have k':=jD (ae hb h'.out);have q':=jD (HB.out.stays k'.out);have H0:=k'.out.size;have y':X+1<w2.heap.size:=q'.out.lt;have Z':X+1≠w2.heap.size:=by omega
   have h:=hI.out.1;rw[mI hg.out,t'.out]at h
   by_cases hz:fe=0
   case neg =>
    rw[OG hz]at h;have h6:fe=6:=by
     have h:=t'.out;unfold dh at h
     split at h
     ·injection h with _ h;exact h.symm
     ·injection h with _ h;exact absurd h.symm hz
    subst h6;obtain⟨e1,e2⟩:au=RV/\6=re:=by
     have h2:=HR.out;rw[<-h,OG jS]at h2;injection h2 with e1 e2;exact⟨e1,e2⟩
    subst e1 e2;obtain⟨a0,b0,c0,z0,z1,z2,f0,f1,f2⟩:=q'.out.facts;clear h hz;go_wp2;exact OJ (v:=.tuple #[.agg #[OB 0,OB 0,.string ⟨#[]⟩],OB 6]) (by simp[results,results165,go_sem,am,z0,z1,z2,y']) rfl ⟨rfl,bA (bH (ae x'.out k'.out) om _ _ _) _⟩
   subst hz;rw[OF jS]at h;have HH:=jD h;clear h;have V0:k<1048576:=by have:=C'.out;omega
   have d':=jD (bA (bA h'.out (.cells #[.int .i64 J.kind,.int .i64 J.num,.string J.text] 27 (0,0))) (.cells #[.int .i64 J.kind,.int .i64 J.num,.string J.text] 27 (0,0)));go_wp2_with (at_builtin;refine fb _ rfl (.tmp 31) (.tmp 33) 59 rfl w1.heap.size 27 i0 _ 3 32 underlying59 hi G' R' P' rfl dc (.slice Ar k cr) k (bS pre) rfl (aF I.out d'.out) (some ⟨w2.heap.size+1,0,none⟩) 1 1 [OB J.kind,OB J.num,.string J.text] rfl (gk _ [OB J.kind,OB J.num,.string J.text] _ 1 3 _ jS rfl (by intro u hu;simp only[O7,Pw,Px]at hu;rcases hu with rfl|rfl|rfl<;>rfl)) (by unfold maxLen;omega) om (by have:=d'.out.size;omega) ?_;intro v8 w8 l' T' N');have F':OD w1 w8:=(ae hb d'.out).trans (aB T' (by have:=d'.out.size;omega) (fun g h=>(ao I.out h).1));refine⟨⟨k+1,pre++[J],by omega,by simp[s'],by go_num,jD ?_,jD ⟨?_,F'⟩⟩,by simp[intOf];omega⟩
   ·rw[gD];exact l'
   ·have h:=HH.out;rw[QH];exact h
  ·have D':¬(k:Int)<(evs.length:Int):=by omega
   have S':Hid (bh wr (.slice Ar k cr) pre):=jD (kG (by rw[s'];exact I.out));have Z:FR=(pre,0):=by
    have h:=hI.out.1;rw[QL om,dE,Qf]at h;exact h.symm
   have u':ofR kd pre vl=(RV,re):=by
    have h:=HR.out;rw[Z,OF jS]at h;exact h
   have HO:=jD (fun W (hW:OD wr W)=>Kr kd pre vl _ W (S'.out.stays aG hW));rw[u']at HO;unfold vlV at HO;clear Z u';go_wp2_with fail;refine (HO.out _ (OK _ _)).mono ?_;rintro e w2 ⟨rfl,a'⟩;obtain⟨a0,b0,c0,z0,z1,z2,f0,f1,f2⟩:=(I'.out.stays a').facts;go_wp2;exact OJ (v:=.tuple #[.agg #[OB RV.kind,OB RV.num,.string RV.text],OB re]) (by simp[results,results165,go_sem,am,z0,z1,z2]) rfl ⟨rfl,bH (ae x'.out (ae hb a')) om _ _ _⟩
section
theorem mM{l:List Evt}(h:cH w (.slice A l.length c) l)(hk:l[k]?=some e):∃b o J I,A=some ⟨b,o,none⟩/\b<w.heap.size/\bh w (.slice J e.vals.length I) e.vals /\
  w.cell? ⟨b,o+k*5,none⟩=some (OB e.src)/\w.cell? ⟨b,o+k*5+1,none⟩=some (OB e.sq)/\w.cell? ⟨b,o+k*5+2,none⟩=some (OB e.ty)/\w.cell? ⟨b,o+k*5+3,none⟩=some (OB e.tm)/\w.cell? ⟨b,o+k*5+4,none⟩=some (.slice J e.vals.length I):=by
 obtain⟨A1,c1,e1,h1,h2,Z⟩:=h;injection e1 with e1 e2 e3;subst e1 e3;obtain⟨b,o,rfl,v,hv,p0,p1,p2,p3,p4⟩:=Z k e hk;have a':=hv;obtain⟨J,I,rfl,-⟩:=a';exact⟨b,o,J,I,rfl,OV w ⟨b,_,none⟩ p0,hv,p0,p1,p2,p3,p4⟩
section
variable {own:Int}{l:List Ex}{vr fl kd:Int}{evs:List Evt}
theorem CO:iV vs own ev (.mk 0 l vr fl kd vl)=(vl,0):=rfl
theorem CH:iV vs own ev (.mk 3 l vr fl kd vl)=(fK (bR vs vr).length,0):=rfl
theorem Dm:iV vs own ev (.mk 4 l vr fl kd vl)=qM (bR vs vr) (.mk 4 l vr fl kd vl):=rfl
theorem po:iV vs own ev (.mk 1 l vr fl kd vl)=yU (.mk 1 l vr fl kd vl) (oK (bR vs vr) (decide (vr=own)) ev):=rfl
theorem pD:iV vs own ev (.mk 2 l vr fl kd vl)=yU (.mk 2 l vr fl kd vl) (oK (bR vs vr) (decide (vr=own)) ev):=rfl
theorem Ai:yU (.mk 1 l vr fl kd vl) (some e)=if (dh e.vals fl).2≠0 then (au,6) else if cQ (dh e.vals fl).1≠0 then (au,cQ (dh e.vals fl).1) else ((dh e.vals fl).1,0):=rfl
theorem zT:yU (.mk 2 l vr fl kd vl) (some e)=(fK e.tm,0):=rfl
theorem uh:yU x none=(au,10):=rfl
theorem ub:oK evs true ev=some ev:=rfl
theorem mr:oK evs false ev=evs.getLast?:=rfl
end
theorem uaC(h:p:=by
  by_cases hz:fe=0
  case neg =>
   rw[OG hz]at h;have h6:fe=6:=by
    have h:=p'.out;unfold dh at h
    split at h
    ·injection h with _ h;exact h.symm
    ·injection h with _ h;exact absurd h.symm hz
   subst h6;injection h with e1 J;subst e1 J;clear hz;go_wp2;exact OJ (v:=.tuple #[.agg #[OB 0,OB 0,.string ⟨#[]⟩],OB 6]) (by simp[results,results95,go_sem,am,z0,z1,z2,r']) rfl ⟨rfl,bA (bH (ae Z.out f'.out) om _ _ _) _⟩
  subst hz;rw[OF jS]at h;obtain⟨ce,t'⟩:∃c,cQ fv=c:=⟨_,rfl⟩;have j':=jD (fun W=>jd fv W);simp only[t']at j' h;unfold vlV at j';have HH:=jD h;clear h t';go_wp2_with fail;refine (j'.out _).mono ?_;rintro e w3 ⟨rfl,k'⟩;have d':=(iW k').1;have y0:w3.cell? ⟨w2.heap.size,0,none⟩=some (OB fv.kind):=by rw[d'];rfl
  have y1:w3.cell? ⟨w2.heap.size,1,none⟩=some (OB fv.num):=by rw[d'];rfl
  have y2:w3.cell? ⟨w2.heap.size,2,none⟩=some (.string fv.text):=by rw[d'];rfl
  have g':Hid (OD w1 w3):=jD (ae f'.out (ae (ay w2 _) k'));have N':=g'.out.size;have H':X+1<w3.heap.size:=by omega
  clear d' k' z0 z1 z2 f0 f1 f2 a0 b0 c0;obtain⟨a0,b0,c0,z0,z1,z2,f0,f1,f2⟩:=(HB.out.stays g'.out).facts;have h:=HH.out
  by_cases hc:ce=0
  case neg =>
   rw[OG hc]at h;injection h with e1 J;subst e1 J;have R':(ce != 0)=true:=jQ hc;go_wp2;exact OJ (v:=.tuple #[.agg #[OB 0,OB 0,.string ⟨#[]⟩],OB ce]) (by simp[results,results95,go_sem,am,z0,z1,z2]) rfl ⟨rfl,bH (ae Z.out g'.out) om _ _ _⟩
  subst hc;rw[OF jS]at h;injection h with e1 J;subst e1 J;go_wp2;exact OJ (v:=.tuple #[.agg #[OB fv.kind,OB fv.num,.string fv.text],OB 0]) (by simp[results,results95,go_sem,am,z0,z1,z2]) rfl ⟨rfl,bH (ae Z.out g'.out) om _ _ _⟩):p:=h
theorem uaD(h:p:=by
  subst e1 J;clear hz I;obtain⟨a0,b0,c0,z0,z1,z2,f0,f1,f2⟩:=HB.out.facts;go_wp2;exact OJ (v:=.tuple #[.agg #[OB 0,OB 0,.string ⟨#[]⟩],OB 10]) (by simp[results,results95,go_sem,am,z0,z1,z2,x']) rfl ⟨rfl,bA (bH Z.out om _ _ _) _⟩):p:=h
theorem GQ(vs:List (List Evt))(v:Value)(own:Int)(ev:Evt)(u:Value)(m:Nat)(x:Ex)(Ax:Option Addr)(nx cx:Nat)(w:World)(hv:dU w v vs)(hu:bh w u ev.vals)(C0:0<=x.op/\x.op<=4)(hf:x.op=1\/x.op=4->0<=x.fl)(G':(bR vs x.vr).length<=1048576) :
  Calls prog 95 #[oS v own ev u m,exV x (.slice Ax nx cx)] w fun e w' =>
   e=.returned (.tuple #[vlV (iV vs own ev x).1,OB (iV vs own ev x).2])/\OD w w':=by
 have HV:=jD hv;have HU:=jD hu;obtain⟨A,c,rfl,-⟩:=hv;obtain⟨Au,cu,rfl,-⟩:=hu;have E':=jD (fun W (hW:OD w W)=>tq vs _ own ev Au ev.vals.length cu m x.vr W (HV.out.stays cz hW));have n':=jD (fun W (hW:OD w W) (hf:0<=x.fl)=>DO vs _ own ev Au ev.vals.length cu m x Ax nx cx W (HV.out.stays cz hW) hf G');obtain⟨evs,m'⟩:∃e,bR vs x.vr=e:=⟨_,rfl⟩;rw[m']at E' n';obtain⟨⟨RV,re⟩,hR⟩:∃r,iV vs own ev x=r:=⟨_,rfl⟩;rw[hR];have HR:=jD hR;have h':=jD m';clear m' hR G';obtain⟨op,l,vr,fl,kd,vl⟩:=x;unfold oS exV at *;simp only[Ex.op,Ex.vr,Ex.fl,Ex.kd,Ex.val]at *;unfold vlV at *;go_enter func95,ntmps95;go_wp2_with fail;refine aJ fun W9 e9=>?_
 have hE:W9.heap[w.heap.size]?=some (.cells [.slice A vs.length c,.int .i64 own,.int .i64 ev.src,.int .i64 ev.sq,.int .i64 ev.ty,.int .i64 ev.tm,.slice Au ev.vals.length cu,.map (some m)].toArray 116 (0,0)):=by
  rw[e9];repeat (first|exact ax _ _ _ jS|apply aI)
 have hX:W9.heap[w.heap.size+1]?=some (.cells [.int .i64 op,.slice Ax nx cx,.int .i64 vr,.int .i64 fl,.int .i64 kd,.int .i64 vl.kind,.int .i64 vl.num,.string vl.text].toArray 29 (0,0)):=by
  rw[e9];repeat (first|exact ax _ _ _ jS|apply aI)
 have hB:VBox W9 (w.heap.size+1+1):=⟨OB 0,OB 0,.string ⟨#[]⟩,by rw[e9];repeat (first|exact ax _ _ _ jS|apply aI)⟩;have z':OD w W9:=gb e9;clear e9;refine (E'.out _ z').mono ?_;rintro e w1 ⟨A1,c1,rfl,hl,u'⟩;obtain⟨q0,q1,q2,q3,q4,q5,q6,q7⟩:=mE (aw u' hX);obtain⟨r0,r1,r2,r3,r4,r5,r6,r7⟩:=mE (aw u' hE);have HB:=jD (hB.stays u');have Z:=jD (ae z' u');have HL:=jD hl;have V':(evs.length:Int)<=9223372036854775807:=by obtain⟨A',c',e,h1,h2,h3⟩:=hl;exact aP h1 h2
 have Q':=HB.out.lt;obtain⟨X,I'⟩:=jF (w.heap.size+1);obtain⟨E,F'⟩:=jF w.heap.size;have x':X+1<w1.heap.size:=by omega
 have Z':X<w1.heap.size:=by omega
 have Y':E<w1.heap.size:=by omega
 have H0:w.heap.size<=X:=by omega
 rw[<-I']at q0 q1 q2 q3 q4 q5 q6 q7 HB ⊢;rw[<-F']at r0 r1 r2 r3 r4 r5 r6 r7 ⊢;have T':=jD (HU.out.stays aG Z.out);clear hX hE hB z' u' hl Q' I' F' E';have D':op=0\/op=3\/op=4\/op=1\/op=2:=by omega
 rcases D' with rfl|rfl|rfl|rfl|rfl
 ·obtain⟨e1,J⟩:vl=RV/\0=re:=by have h:=HR.out;rw[CO]at h;injection h with e1 J;exact⟨e1,J⟩
  subst e1 J;obtain⟨a0,b0,c0,z0,z1,z2,f0,f1,f2⟩:=HB.out.facts;go_wp2;exact OJ (v:=.tuple #[.agg #[OB vl.kind,OB vl.num,.string vl.text],OB 0]) (by simp[results,results95,go_sem,am,z0,z1,z2]) rfl ⟨rfl,bH Z.out om _ _ _⟩
 ·obtain⟨e1,J⟩:fK evs.length=RV/\0=re:=by have h:=HR.out;rw[CH,h'.out]at h;injection h with e1 J;exact⟨e1,J⟩
  subst e1 J;obtain⟨a0,b0,c0,z0,z1,z2,f0,f1,f2⟩:=HB.out.facts;go_wp2;exact OJ (v:=.tuple #[.agg #[OB 0,OB evs.length,.string ⟨#[]⟩],OB 0]) (by simp[results,results95,go_sem,am,z0,z1,z2]) rfl ⟨rfl,bH Z.out om _ _ _⟩
 ·have h4:=HR.out;rw[Dm,h'.out]at h4;rw[h4]at n';clear h4;go_wp2_with fail;refine (n'.out _ Z.out (hf jS)).mono ?_;rintro e w2 ⟨rfl,i'⟩;obtain⟨a0,b0,c0,z0,z1,z2,f0,f1,f2⟩:=(HB.out.stays i').facts;go_wp2;exact OJ (v:=.tuple #[.agg #[OB RV.kind,OB RV.num,.string RV.text],OB re]) (by simp[results,results95,go_sem,am,z0,z1,z2]) rfl ⟨rfl,bH (ae Z.out i') om _ _ _⟩
 ·clear n'
  by_cases I:vr=own
  ·have y':(vr != own)=false:=jQ I;obtain⟨⟨fv,fe⟩,l'⟩:∃r,dh ev.vals fl=r:=⟨_,rfl⟩;have HF:=jD (fun W (hW:OD w1 W)=>nZ ev _ fl W (T'.out.stays aG hW) (hf jS));rw[l']at HF;unfold cM vlV at HF;have p':=jD l';clear l';go_wp2_with fail;refine (HF.out _ ?_).mono ?_
   ·exact jB
   rintro e w2 ⟨rfl,i'⟩;have f':Hid (OD w1 w2):=jD (ae (by exact jB) i');clear i';have P':=f'.out.size;have r':X+1<w2.heap.size:=by omega
   obtain⟨a0,b0,c0,z0,z1,z2,f0,f1,f2⟩:=(HB.out.stays f'.out).facts;have h:=HR.out;rw[po,h'.out,O3 I,ub,Ai,p'.out]at h
   exact uaC
  have y':(vr != own)=true:=jQ I
  by_cases hz:evs.length=0
  ·have B':((evs.length:Int)==0)=true:=by simp[hz]
   obtain⟨e1,J⟩:au=RV/\10=re:=by have h:=HR.out;rw[po,h'.out,OZ I,mr,Po hz,List.getLast?_nil,uh]at h;injection h with e1 J;exact⟨e1,J⟩
   exact uaD
  have B':((evs.length:Int)==0)=false:=by simp[hz]
  have hw:wrap64 ((evs.length:Int)-1)=((evs.length-1:Nat):Int):=by unfold wrap64;omega
  have U':((evs.length-1:Nat):Int)<(evs.length:Int):=by omega
  have hg:evs[evs.length-1]?=some (evs[evs.length-1]'om):=OH _;have a':evs.getLast?=some (evs[evs.length-1]'om):=by rw[R3];exact hg
  obtain⟨la,q'⟩:∃a,a=evs[evs.length-1]'om:=⟨_,rfl⟩;rw[<-q']at hg a';obtain⟨b,o,A',c',rfl,S',s',p0,p1,p2,p3,p4⟩:=mM HL.out hg;have J':=jD s';have C':=jD a';clear q' hz s' hg a';obtain⟨⟨fv,fe⟩,l'⟩:∃r,dh la.vals fl=r:=⟨_,rfl⟩;have HF:=jD (fun W (hW:OD w1 W)=>nZ la _ fl W (J'.out.stays aG hW) (hf jS));rw[l']at HF;unfold cM vlV at HF;have p':=jD l';clear l';go_wp2_with fail;refine (HF.out _ ?_).mono ?_
  ·exact jB
  rintro e w2 ⟨rfl,i'⟩;have f':Hid (OD w1 w2):=jD (ae (by exact jB) i');clear i';have P':=f'.out.size;have r':X+1<w2.heap.size:=by omega
  obtain⟨a0,b0,c0,z0,z1,z2,f0,f1,f2⟩:=(HB.out.stays f'.out).facts;have h:=HR.out;rw[po,h'.out,OZ I,mr,C'.out,Ai,p'.out]at h
  exact uaC
 ·clear n'
  by_cases I:vr=own
  ·have y':(vr != own)=false:=jQ I;obtain⟨e1,J⟩:fK ev.tm=RV/\0=re:=by have h:=HR.out;rw[pD,h'.out,O3 I,ub,zT]at h;injection h with e1 J;exact⟨e1,J⟩
   subst e1 J;clear I;obtain⟨a0,b0,c0,z0,z1,z2,f0,f1,f2⟩:=HB.out.facts;go_wp2;exact OJ (v:=.tuple #[.agg #[OB 0,OB ev.tm,.string ⟨#[]⟩],OB 0]) (by simp[results,results95,go_sem,am,z0,z1,z2,x']) rfl ⟨rfl,bA (bH Z.out om _ _ _) _⟩
  have y':(vr != own)=true:=jQ I
  by_cases hz:evs.length=0
  ·have B':((evs.length:Int)==0)=true:=by simp[hz]
   obtain⟨e1,J⟩:au=RV/\10=re:=by have h:=HR.out;rw[pD,h'.out,OZ I,mr,Po hz,List.getLast?_nil,uh]at h;injection h with e1 J;exact⟨e1,J⟩
   exact uaD
  have B':((evs.length:Int)==0)=false:=by simp[hz]
  have hw:wrap64 ((evs.length:Int)-1)=((evs.length-1:Nat):Int):=by unfold wrap64;omega
  have U':((evs.length-1:Nat):Int)<(evs.length:Int):=by omega
  have hg:evs[evs.length-1]?=some (evs[evs.length-1]'om):=OH _;have a':evs.getLast?=some (evs[evs.length-1]'om):=by rw[R3];exact hg
  obtain⟨la,q'⟩:∃a,a=evs[evs.length-1]'om:=⟨_,rfl⟩;rw[<-q']at hg a';obtain⟨b,o,A',c',rfl,S',s',p0,p1,p2,p3,p4⟩:=mM HL.out hg;have J':=jD s';have C':=jD a';clear q' hz s' hg a';obtain⟨e1,J⟩:fK la.tm=RV/\0=re:=by have h:=HR.out;rw[pD,h'.out,OZ I,mr,C'.out,zT]at h;injection h with e1 J;exact⟨e1,J⟩
  subst e1 J;obtain⟨a0,b0,c0,z0,z1,z2,f0,f1,f2⟩:=HB.out.facts;go_wp2;exact OJ (v:=.tuple #[.agg #[OB 0,OB la.tm,.string ⟨#[]⟩],OB 0]) (by simp[results,results95,go_sem,am,z0,z1,z2,x']) rfl ⟨rfl,bA (bH Z.out om _ _ _) _⟩
end
theorem qd{p:Int->Bool}{l:List Int}(h:l[k]?=some a):(l.drop k).all p=(p a&&(l.drop (k+1)).all p):=by
 obtain⟨h1,rfl⟩:=List.getElem?_eq_some_iff.1 h;rw[PE h1,Qs]
theorem GB{op k0 x:Int}{b:Bool}(h1:5<=op/\op<=8->decide (x=0)=b)(I:10<=op/\op<=12->decide (x=1)=b)(Z:op=9->decide (x=k0)=b)(J:op<5\/12<op->b=true):okK op k0 x=b:=by
 unfold okK
 split
 ·next h=>exact h1 h
 ·split
  ·next h=>exact I h
  ·split
   ·next h=>exact Z h
   ·exact (J om).symm
theorem tZ(op:Int)(ks:List Int)(v:Value)(w:World)(hk:iJ w v ks) :
  OE 96 #[OB op,v] w (OB (opE op ks)):=by
 obtain⟨A,c,rfl,h1,h2,a'⟩:=hk;have d':=aP h1 h2;have HL:=jD a';obtain⟨R,hR⟩:=jE (opE op ks);obtain⟨k0,J⟩:=jE (ks.headD 0);have HR:Hid ((if ks.all (okK op k0) then (0:Int) else 9)=R):=jD (by rw[<-hR,<-J];rfl);have HK:=jD J;rw[hR];clear hR J a' h1 h2;go_enter func96,ntmps96;go_wp2_with fail
 go_loopw [10] (fun i wr=>∃k:Nat,k<=ks.length/\i=OB k/\Hid ((if (ks.drop k).all (okK op k0) then (0:Int) else 9)=R)/\wr=w) (fun i _=>ks.length-(intOf i).toNat)
 case atStart=>exact⟨0,OO _,rfl,jD HR.out,rfl⟩
 case round =>
  obtain⟨k,hk,rfl,hI,rfl⟩:=hrel
  by_cases Z:k<ks.length
  ·have c':(k:Int)<(ks.length:Int):=by omega
   obtain⟨b,o,rfl,I⟩:=HL.out k ks[k] (OH Z);have hg:=jD (OH Z);obtain⟨a,ha⟩:=jF (ks[k]);rw[<-ha]at hg I;clear ha;have f':wr.cell? ⟨b,o,none⟩=some (OB k0):=by
    obtain⟨b',o',e,h0⟩:=HL.out 0 (ks[0]'om) (OH om);injection e with e;injection e with e1 e2;subst e1 e2;have h:ks.headD 0=ks[0]'om:=by rw[List.headD_eq_head?_getD,List.head?_eq_getElem?,OH om];rfl
    rw[HK.out]at h;rw[h]
    simpa [vH] using h0
   unfold vH at I;rw[P7]at I;go_wp2_with fail
   all_goals simp only[Pa,PA,Pj,P8,PG]at *
   all_goals first
    | (exfalso;omega)
    | ((go_ret);(have hp:okK op k0 a=false:=GB (fun h=>by first|(exfalso;omega)|(simp;omega)) (fun h=>by first|(exfalso;omega)|(simp;omega)) (fun h=>by first|(exfalso;omega)|(simp;omega)) (fun h=>by exfalso;omega));(have h:=hI.out);(rw[qd hg.out,hp]at h);exact⟨by rw[<-h];rfl,OK _ _⟩)
    | ((refine⟨⟨k+1,by omega,by go_num,jD ?_,trivial⟩,by simp[intOf];omega⟩);(have hp:okK op k0 a=true:=GB (fun h=>by first|(exfalso;omega)|(simp;omega)) (fun h=>by first|(exfalso;omega)|(simp;omega)) (fun h=>by first|(exfalso;omega)|(simp;omega)) (fun h=>rfl));(have h:=hI.out);(rw[qd hg.out,hp,QQ]at h);exact h)
  ·have c':¬(k:Int)<(ks.length:Int):=by omega
   obtain rfl:(0:Int)=R:=by
    have h:=hI.out;rw[QL om]at h;exact h
   go_wp2;go_ret;exact⟨rfl,OK _ _⟩
def AH(op:Int):Int:=if 5<=op/\op<=8 then 0 else if 10<=op/\op<=12 then 1 else -1
theorem sh(op:Int)(w:World):OE 282 #[OB op] w (OB (AH op)):=by
 obtain⟨R,h⟩:=jE (AH op);have I:=jD h;rw[h];clear h;go_enter func282,ntmps282;go_wp2_with fail
 all_goals simp only[Pa,PA,Pj,P8,PG]at *
 all_goals first
  | (exfalso;omega)
  | (go_ret;exact⟨de (by rw[<-I.out];unfold AH;exact jA),OK _ _⟩)
theorem KV(op k0 a:Int):okK op k0 a=!((decide (0<=AH op)&&(a != AH op)) || ((op==9)&&(a != k0))):=by
 unfold okK AH
 by_cases c1:5<=op/\op<=8
 ·rw[OG c1,OG c1];have:(op==9)=false:=by rw[PA];omega
  rw[this]
  by_cases h:a=0<;>simp[h]
 ·rw[OF c1,OF c1]
  by_cases c2:10<=op/\op<=12
  ·rw[OG c2,OG c2];have:(op==9)=false:=by rw[PA];omega
   rw[this]
   by_cases h:a=1<;>simp[h]
  ·rw[OF c2,OF c2]
   by_cases I:op=9
   ·by_cases h:a=k0<;>simp[I,h]
   ·simp[I]
theorem si(op:Int)(ks:List Int)(v:Value)(w:World)(hk:iJ w v ks) :
  OE 218 #[OB op,v] w (OB (opE op ks)):=by
 obtain⟨A,c,rfl,h1,h2,f'⟩:=hk;have q':=aP h1 h2;have HL:=jD f';obtain⟨R,hR⟩:=jE (opE op ks);obtain⟨k0,a'⟩:=jE (ks.headD 0);have HR:Hid ((if ks.all (okK op k0) then (0:Int) else 9)=R):=jD (by rw[<-hR,<-a'];rfl);have HK:=jD a';rw[hR];have HD:=jD (fun W=>sh op W);obtain⟨d,hd⟩:=jE (AH op);rw[hd]at HD;have Z:=jD (fun a=>KV op k0 a);rw[hd]at Z;obtain⟨bd,p'⟩:∃b,decide (0<=d)=b:=⟨_,rfl⟩;obtain⟨b9,k'⟩:∃b,(op==9)=b:=⟨_,rfl⟩;rw[p',k']at Z;clear hR a' f' h1 h2 hd;go_enter func218,ntmps218;go_wp2_with fail
 go_loopw [5] (fun i wr=>∃k:Nat,k<=ks.length/\i=OB k/\Hid ((if (ks.drop k).all (okK op k0) then (0:Int) else 9)=R)/\Hid (OD w wr)) (fun i _=>ks.length-(intOf i).toNat)
 case atStart=>exact⟨0,OO _,rfl,jD HR.out,jD (OK _ _)⟩
 case round =>
  obtain⟨k,hk,rfl,hI,HB⟩:=hrel
  by_cases c':k<ks.length
  ·have j':(k:Int)<(ks.length:Int):=by omega
   obtain⟨b,o,rfl,I⟩:=HL.out k ks[k] (OH c');have hg:=jD (OH c');obtain⟨a,ha⟩:=jF (ks[k]);rw[<-ha]at hg I;clear ha;have d':w.cell? ⟨b,o,none⟩=some (OB k0):=by
    obtain⟨b',o',e,h0⟩:=HL.out 0 (ks[0]'om) (OH om);injection e with e;injection e with e1 e2;subst e1 e2;have h:ks.headD 0=ks[0]'om:=by rw[List.headD_eq_head?_getD,List.head?_eq_getElem?,OH om];rfl
    rw[HK.out]at h;rw[h]
    simpa [vH] using h0
   unfold vH at I;rw[P7]at I;have hp:=Z.out a;obtain⟨bk,n'⟩:∃b,(a != d)=b:=⟨_,rfl⟩;obtain⟨b0,l'⟩:∃b,(a != k0)=b:=⟨_,rfl⟩;rw[n',l']at hp;have h:=hI.out;rw[qd hg.out,hp]at h;have HH:=jD h;clear h hp;go_wp2_with fail;refine (HD.out _).mono ?_;rintro e w1 ⟨rfl,J⟩;have I:=aa J (aa HB.out I);have d':=aa J (aa HB.out d');have g':=jD (ae HB.out J);clear J
   cases bd<;>cases bk<;>cases b9<;>cases b0
   all_goals
    go_wp2_with fail;refine cw (fun W=>W.cell? ⟨b,o+k,none⟩=some (OB a)/\W.cell? ⟨b,o,none⟩=some (OB k0)) (by repeat (first|exact aN _ _ _|exact aM|refine aT ?_ ?_)) kr kr ?hF ?_;(case hF=>(first|exact⟨‹_›,‹_›⟩|(go_simp;done)|(simp[*];done)|(repeat' (first|(refine And.intro ?_ ?_)|(go_simp;done)|exact aa (bA (OK _ _) _) (by assumption)|assumption))));intro i' m';have hG:Hid (Grows (fun W=>W.cell? ⟨b,o+k,none⟩=some (OB a)/\W.cell? ⟨b,o,none⟩=some (OB k0))):=(by repeat (first|exact aN _ _ _|exact aM|refine aT ?_ ?_));(repeat (go_big_quiet_step (fail)));clear hG m' i';refine QI ?_;rintro _ ⟨⟨w',h',r'⟩,rfl⟩;go_wp2_with fail
    first
     | ((go_ret);exact⟨de HH.out,ae g'.out h'⟩)
     | ((go_roundw);(case rel=>exact⟨k+1,by omega,by go_num,jD HH.out,jD (ae g'.out h')⟩);case measure=>simp[intOf];omega)
  ·have j':¬(k:Int)<(ks.length:Int):=by omega
   obtain rfl:(0:Int)=R:=by
    have h:=hI.out;rw[QL om]at h;exact h
   exact fi HB.out
theorem rF(a b:Vl)(W:World):(binOp .eql 27 (vlV a) (vlV b)).run prog W=.ok (.bool (bI a b)) W:=by
 have u3:=underlying3;have a3:=Tryz.isAgg3;have z3:=Tryz.sizeOf3;have Z:prog.underlying 9=some .string:=kr;have a9:=Tryz.isAgg9;have z9:=Tryz.sizeOf9;have I:prog.underlying 27=some (.struct (prog.fieldsOf 27)):=kr;have hp:prog.stoodInHeld 27=false:=kr;unfold vlV;rw[run_eql_struct,show (10000:Nat)=9999+1 from rfl,RF W 9999 27 _ _ I hp];simp only[Program.fieldsOf,underlying27]
 go_simp
 by_cases h1:a.kind=b.kind<;>by_cases h:a.num=b.num<;>by_cases J:a.text.toList=b.text.toList<;>simp[bI,h1,h,J]
theorem ag{i:Nat}(J:w.grownBy w' row)(h:w.cell? ⟨b,i,none⟩=some v)(I:row≠some b):w'.cell? ⟨b,i,none⟩=some v :=
 (Pf (a:=⟨b,i,none⟩) (J.block b (OV w ⟨b,i,none⟩ h) (fun e=>I e.symm))).trans h
theorem gI{q n sz:Nat}(Z:w.grownBy w' row)(h:Src w (some ⟨q,0,none⟩) n sz cs)(I:row≠some q):Src w' (some ⟨q,0,none⟩) n sz cs :=
 ⟨h.1,h.2.1,fun hn=>by
  obtain⟨b,o,J,hc⟩:=h.2.2 hn;injection J with J;injection J with e1 e2;subst e1 e2;exact⟨q,0,rfl,fun j u hj=>ag Z (hc j u hj) I⟩⟩
theorem il{K:World->Prop}{n sz:Nat}(I:cs.length=n*sz)(h1:∀u∈cs,u.oneCell'=true)(h:∀W:World,OD w W->Src W (some ⟨w.heap.size,0,none⟩) n sz cs->K W):K (w.alloc (.cells cs.toArray t)) :=
 h _ (bA (OK _ _) _) (gk _ cs t n sz _ rfl I h1)
theorem js{a:Act}(w:World)(m x:Operand)(I:o.op=Op.lookup 113 m x false)(b:Nat)(k:Int)(i:Nat)(u:Value)(es:Array MapEntry)(clock:Nat)(hm:a.eval m=.map (some b))(hx:a.eval x=OB k)(J:w.heap[b]?=some (.map es clock))(hf:Instr.findNow (.int .i64) (OB k) es.toList 0=some (some (i,u)))(Z:K (a.put o.dst u) w):Oper.wp prog o a w K Q:=by
 have hc:∀e,(Instr.checkKey e 10000 3 (OB k)).run prog w=.ok () w:=fun e=>MapKept.run_checkKey (k:=OB k) underlying3 (by simp[MapKept.IsKey]) e 9999
 have h:(Instr.lookup 113 (.map (some b)) (OB k) false).run prog w=.ok u w:=by
  simp[Instr.lookup,Pu opsT,MapKept.run_getObj_map J,hc,MapKept.run_findKey underlying3 hf,Result.andThen]
 unfold Oper.wp;simp[execOp,I,hm,hx,h,Result.andThen];exact Z
def TW(B:Nat)(v6 v7:Value)(k n:Nat)(pre:List Vl)(ks:List Int)(W:World):Prop :=
 W.ownsRow B 27 3 v6 k (bS pre)/\W.ownsRow B 3 1 v7 n (eo ks)/\∀g,v6.ownBlock=some g->v7.ownBlock≠some g
theorem TW.below{n:Nat}(h:TW B v6 v7 k n pre ks W)(I:OD W W'):TW B v6 v7 k n pre ks W' :=
 ⟨aF h.1 I,aF h.2.1 I,h.2.2⟩
theorem TW.app6{n:Nat}{x:Vl}(h:TW B v6 v7 k n pre ks W)(ho:W'.ownsRow B 27 3 v8 (k+1) (bS pre++[OB x.kind,OB x.num,.string x.text]))(hg:W.grownBy W' v6.ownBlock)(hl:v8.ownBlock=v6.ownBlock\/v8.ownBlock=some W.heap.size):TW B v8 v7 (k+1) n (pre++[x]) ks W':=by
 refine⟨by rw[gD];exact ho,aY h.2.1 fun g I=>hg.block g (ao h.2.1 I).2 (fun e=>h.2.2 g e.symm I),fun g J Z=>?_⟩;rcases hl with e|e
 ·rw[e]at J;exact h.2.2 g J Z
 ·rw[e]at J;injection J with J;have:=(ao h.2.1 Z).2;omega
theorem TW.app7{n:Nat}{x:Int}(h:TW B v6 v7 k n pre ks W)(ho:W'.ownsRow B 3 1 v8 (n+1) (eo ks++[OB x]))(hg:W.grownBy W' v7.ownBlock)(hl:v8.ownBlock=v7.ownBlock\/v8.ownBlock=some W.heap.size):TW B v6 v8 k (n+1) pre (ks++[x]) W':=by
 refine⟨aY h.1 fun g J=>hg.block g (ao h.1 J).2 (fun e=>h.2.2 g J e.symm),by rw[vo];exact ho,fun g Z I=>?_⟩;rcases hl with e|e
 ·rw[e]at I;exact h.2.2 g Z I
 ·rw[e]at I;injection I with I;have:=(ao h.1 Z).2;omega
theorem VBox.set3(h:VBox W B)(x y z:Value):VBox (((W.setCell ⟨B,0,none⟩ x).setCell ⟨B,1,none⟩ y).setCell ⟨B,2,none⟩ z) B:=by
 obtain⟨a,b,c,h⟩:=h;exact⟨x,y,z,bF h x y z⟩
theorem ci(h:w.grownBy W (some B))(x y z:Value):w.grownBy (((W.setCell ⟨B,0,none⟩ x).setCell ⟨B,1,none⟩ y).setCell ⟨B,2,none⟩ z) (some B):=by
 have s:∀(W:World)(i:Nat)(v:Value),w.grownBy W (some B)->w.grownBy (W.setCell ⟨B,i,none⟩ v) (some B):=fun W i v h =>
  ⟨h.os,h.tape,h.output,by simpa [World.setCell] using h.size,fun k hk I=>(Qq W ⟨B,i,none⟩ v k (fun e=>I (by rw[e]))).trans (h.block k hk I)⟩
 exact s _ _ _ (s _ _ _ (s _ _ _ h))
theorem Dl(h:iC x=0):0<=x.op/\x.op<=12/\(x.args.length:Int)=arN x.op/\(x.op=1\/x.op=4->0<=x.fl):=by
 unfold iC at h;have h1:¬arN x.op<0:=fun e=>by rw[OG e]at h;exact absurd h dc
 rw[OF h1]at h;have I:¬(x.args.length:Int)≠arN x.op:=fun e=>by rw[OG e]at h;exact absurd h dc
 rw[OF I]at h;have J:0<=x.op/\x.op<=12:=by
  unfold arN at h1
  split at h1
  ·omega
  ·omega
 refine⟨J.1,J.2,Decidable.not_not.1 I,fun e=>?_⟩
 by_cases Z:x.fl<0
 ·have:(lj x.op).2=true:=by unfold lj;rw[OG e]
  rw[OG (.inr ⟨this,.inl Z⟩)]at h;exact absurd h dc
 ·omega
theorem xm(vs:List (List Evt))(own:Int)(ev:Evt)(o:Int)(l:List Ex)(a b c:Int)(v:Vl):dK vs own ev (.mk o l a b c v)=if l.length=0 then iV vs own ev (.mk o l a b c v) else yP o (gA vs own ev l):=by rw[dK]
theorem tP(op:Int)(pre:List Vl):yP op (pre,0)=if opE op (pre.map (·.kind))≠0 then (au,opE op (pre.map (·.kind))) else (iM op (pre.headD au) (pre.getLastD au),0):=rfl
theorem yB{op:Int}(h0:0<=op)(h1:op<=12)(h:arN op=0):op<=4:=by
 unfold arN at h
 split at h
 ·omega
 ·split at h
  ·omega
  ·split at h<;>omega
theorem wZ{op:Int}(h0:0<=op)(h1:op<=12)(h:arN op≠0):5<=op/\arN op=if op=12 then 1 else 2:=by
 unfold arN at h ⊢
 split at h
 ·omega
 ·split at h
  ·omega
  ·next I J=>rw[OF I,OF J];exact⟨by omega,rfl⟩
def Kv(w:World):Option Evt->Ending->World->Prop
 | none,e,W=>e=.returned (.tuple #[.agg #[OB 0,OB 0,OB 0,OB 0,.slice none 0 0],.bool false])/\OD w W
 | some x,e,W=>∃A c,e=.returned (.tuple #[.agg #[OB x.src,OB x.sq,OB x.ty,OB x.tm,.slice A x.vals.length c],.bool true])/\bh W (.slice A x.vals.length c) x.vals/\OD w W
theorem IA(h:OD w W)(I:w.heap.size<=b)(J x1 Z x3 x4:Value):OD w (((((W.setCell ⟨b,0,none⟩ J).setCell ⟨b,1,none⟩ x1).setCell ⟨b,2,none⟩ Z).setCell ⟨b,3,none⟩ x3).setCell ⟨b,4,none⟩ x4) :=
 aj (aj (aj (aj (aj h I _) I _) I _) I _) I _
theorem ua2(h:p:=by
  rw[e];refine⟨none,0,Sl.nil _ _ _ _ _ (OO _),fun W Z=>?_⟩;go_enter func279,ntmps279;go_wp2;go_ret;exact⟨rfl,jB⟩):p:=h
theorem CM(vs:List (List Evt))(v:Value)(k:Int)(w:World)(hv:dU w v vs):∃A c,cH w (.slice A (bR vs k).length c) (bR vs k) /\
  ∀W,OD w W->OE 279 #[.agg #[v],OB k] W (.slice A (bR vs k).length c):=by
 obtain⟨A,c,rfl,h1,h2,I⟩:=hv;have d':=aP h1 h2;have HL:=jD I;clear I h1 h2
 by_cases c1:k<0
 ·have e:bR vs k=[]:=OG (.inl c1);exact ua2
 by_cases c2:(vs.length:Int)<=k
 ·have e:bR vs k=[]:=OG (.inr c2);exact ua2
 obtain⟨n,rfl⟩:∃n:Nat,k=n:=⟨k.toNat,by omega⟩;have h:n<vs.length:=by omega
 have e:bR vs n=vs[n]:=by unfold bR;rw[OF om];simp[R1,h]
 obtain⟨b,o,rfl,v',J,hc⟩:=HL.out n vs[n] (OH h);rw[e];have HV:=jD J;obtain⟨A',c',rfl,-⟩:=J;refine⟨A',c',HV.out,fun W Z=>?_⟩;have f':b<w.heap.size:=OV w ⟨b,_,none⟩ hc;have h':b<W.heap.size:=by have:=Z.size;omega
 have a':b≠W.heap.size:=by omega
 rw[P7]at hc;have g':=aa Z hc;clear e hc;go_enter func279,ntmps279;go_wp2;go_ret;exact⟨rfl,jB⟩
theorem E6(vs:List (List Evt))(v:Value)(k own:Int)(ev:Evt)(u:Value)(w:World)(hv:dU w v vs)(hu:bh w u ev.vals) :
  Calls prog 281 #[.agg #[v],OB k,OB own,cM ev u] w (Kv w (oK (bR vs k) (decide (k=own)) ev)):=by
 have HV:=jD hv;have HU:=jD hu;obtain⟨A,c,rfl,-⟩:=hv;obtain⟨Au,cu,rfl,-⟩:=hu;obtain⟨A1,c1,hl,k'⟩:=CM vs _ k w HV.out;have l':=jD k';obtain⟨evs,d'⟩:∃e,bR vs k=e:=⟨_,rfl⟩;rw[d']at l' hl ⊢;clear d' k';unfold cM
 by_cases I:k=own
 ·have n':(k==own)=true:=jQ I;rw[O3 I,ub];clear I;go_enter func281,ntmps281;go_wp2;exact OJ (v:=.tuple #[.agg #[OB ev.src,OB ev.sq,OB ev.ty,OB ev.tm,.slice Au ev.vals.length cu],.bool true]) (by simp[results,results281,go_sem]) rfl ⟨_,_,rfl,HU.out.stays aG jB,jB⟩
 have n':(k==own)=false:=jQ I;rw[OZ I,mr];obtain⟨R,f'⟩:∃r,evs.getLast?=r:=⟨_,rfl⟩;rw[f'];have j':=jD f';clear I f';go_enter func281,ntmps281;go_wp2_with fail;refine aJ fun W9 e9=>?_
 have hB:W9.heap[w.heap.size+1+1]?=some (.cells [.int .i64 0,.int .i64 0,.int .i64 0,.int .i64 0,.slice none 0 0].toArray 71 (0,0)):=by rw[e9];repeat (first|exact ax _ _ _ jS|apply aI)
 have g':OD w W9:=gb e9;clear e9;refine (l'.out _ g').mono ?_;rintro e w1 ⟨rfl,h'⟩;have Z:=aw h' hB;obtain⟨z0,z1,z2,z3,z4⟩:=I6 Z;have f0:=af Z 0;have f1:=af Z 1;have f2:=af Z 2;have f3:=af Z 3;have f4:=af Z 4;have J:=jD (ae g' h');have HL:=jD hl;have r':(evs.length:Int)<=9223372036854775807:=by obtain⟨A',c',e,h1,h2,h3⟩:=hl;exact aP h1 h2
 clear hB Z g' h' hl
 by_cases hz:evs.length=0
 ·have q':((evs.length:Int)==0)=true:=by simp[hz]
  obtain rfl:none=R:=by have h:=j'.out;rw[Po hz,List.getLast?_nil]at h;exact h
  clear hz;go_wp2;exact OJ (v:=.tuple #[.agg #[OB 0,OB 0,OB 0,OB 0,.slice none 0 0],.bool false]) (by simp[results,results281,go_sem,am,z0,z1,z2,z3,z4]) rfl ⟨rfl,IA J.out om _ _ _ _ _⟩
 have q':((evs.length:Int)==0)=false:=by simp[hz]
 have hw:wrap64 ((evs.length:Int)-1)=((evs.length-1:Nat):Int):=by unfold wrap64;omega
 have u':((evs.length-1:Nat):Int)<(evs.length:Int):=by omega
 have hg:evs[evs.length-1]?=some (evs[evs.length-1]'om):=OH _;have a':evs.getLast?=some (evs[evs.length-1]'om):=by rw[R3];exact hg
 obtain⟨la,m'⟩:∃a,a=evs[evs.length-1]'om:=⟨_,rfl⟩;rw[<-m']at hg a';obtain⟨b,o,A',c',rfl,t',i',p0,p1,p2,p3,p4⟩:=mM HL.out hg;have p':=jD i';obtain rfl:some la=R:=a'.symm.trans j'.out;have s':b<w1.heap.size:=by have:=J.out.size;omega
 replace p0:=aa J.out p0;replace p1:=aa J.out p1;replace p2:=aa J.out p2;replace p3:=aa J.out p3;replace p4:=aa J.out p4;clear m' hz i' hg a';go_wp2;exact OJ (v:=.tuple #[.agg #[OB la.src,OB la.sq,OB la.ty,OB la.tm,.slice A' la.vals.length c'],.bool true]) (by simp[results,results281,go_sem,am,z0,z1,z2,z3,z4]) rfl
  ⟨_,_,rfl,p'.out.stays aG (IA J.out om _ _ _ _ _),IA J.out om _ _ _ _ _⟩
theorem ua6(h:p:=by
  go_enter func219,ntmps219;go_wp2_with fail;refine bV fun w1 e1=>?_
  have hB:VBox w1 w.heap.size:=⟨OB 0,OB 0,.string ⟨#[]⟩,by rw[e1];repeat (first|exact ax _ _ _ jS|apply aI)⟩;have J:OD w w1:=gb e1;have u1:=aa J u1;have t1:=aa J t1;clear e1;have h':=jD J;obtain⟨B,c'⟩:=jF w.heap.size;have g':w.heap.size<=B:=by omega
  rw[<-c']at hB Z ⊢;clear c' J;have a':∀W,w1.grownBy W (some B)->VBox W B->(fun W=>w1.grownBy W (some B)/\VBox W B/\OC W b1 (o1+1) (OB a.num)/\OC W b1 (o1+3+1) (OB b.num)) W:=fun W hg hv=>⟨hg,hv,ag hg u1 (fun e=>Z (by injection e with e;exact e.symm)),ag hg t1 (fun e=>Z (by injection e with e;exact e.symm))⟩
  refine PM ?_;refine PQ (S:=fun W=>w1.grownBy W (some B)/\VBox W B/\OC W b1 (o1+1) (OB a.num)/\OC W b1 (o1+3+1) (OB b.num)) kr (a' _ (aE (OK _ _).drew _) (hB.stays (OK _ _).drew)) (fun I=>?_);generalize w1.drew=wD at I ⊢;refine tkH [0,1,2,3,4,5,6,7,8] ?_;refine nxH 9 (fun K hK=>?_)
  focus (go_simp;refine (d'.out _).mono ?_;rintro e w4 ⟨rfl,l'⟩)
  refine hK.out _ _ (a' _ (dt I.1 (aE l' _)) (I.2.1.stays l')) (fun I=>?_);clear hK K;refine nxH 10 (fun K hK=>?_)
  focus (obtain⟨a0,b0,c0,z0,z1,z2,f0,f1,f2⟩:=I.2.1.facts;go_simp)
  refine hK.out _ _ (a' _ (ci I.1 _ _ _) (I.2.1.set3 _ _ _)) (fun I=>?_);clear hK K;refine dn ?_;have HF:=jD (aS h'.out I.1 g');go_wp2;exact OJ (v:=vlV rv) (by simp[results,results219,go_sem,am,z0,z1,z2,vlV,fK]) rfl ⟨rfl,HF.out⟩):p:=h
theorem ua7(h:p:=by
  have i':bQ t=rv:=by rw[<-ht];exact f'
  simp[c1,c2]at ht;have HN:=jD (fun W=>fV t W);rw[i']at HN;clear i' f';unfold vlV at HN;subst ht;obtain⟨da,p'⟩:∃d,(a.num==1)=d:=⟨_,rfl⟩;have j':da=decide (a.num=1):=by rw[<-p',Qc];simp
  simp only[c1,QJ,QU]at j';subst j';obtain⟨db,q'⟩:∃d,(b.num==1)=d:=⟨_,rfl⟩;have k':db=decide (b.num=1):=by rw[<-q',Qc];simp
  simp only[c2,QJ,QU]at k';subst k';go_enter func219,ntmps219;go_wp2_with fail;refine (HN.out _).mono ?_;rintro e w1 ⟨rfl,J⟩;obtain⟨a0,b0,c0,z0,z1,z2,f0,f1,f2⟩:=(eE J).facts;go_wp2;exact OJ (v:=vlV rv) (by simp[results,results219,go_sem,am,z0,z1,z2,vlV]) rfl ⟨rfl,bH (ae (ay w _) J) (OI _) _ _ _⟩):p:=h
theorem Be(op:Int)(a b:Vl)(v:Value)(w:World)(hv:bh w v [a,b])(r':5<=op/\op<=11) :
  OE 219 #[OB op,v] w (vlV (iM op a b)):=by
 have HV:=jD hv;obtain⟨A,c,rfl,-⟩:=hv;obtain⟨b1,o1,rfl,s',u0,u1,u2⟩:=bB (l:=[a,b]) HV.out (k:=0) jS;obtain⟨b2,o2,n',-,t0,t1,t2⟩:=bB (l:=[a,b]) HV.out (k:=1) jS;injection n' with n';injection n' with e1 e2;subst e1 e2;simp only[QW,QX,P1,QM,P9]at u0 u1 u2 t0 t1 t2;have Z:b1≠w.heap.size:=by omega
 obtain⟨rv,f'⟩:∃r,iM op a b=r:=⟨_,rfl⟩;rw[f'];unfold vlV at *;have m':op=5\/op=6\/op=7\/op=8\/op=9\/op=10\/op=11:=by omega
 clear r';rcases m' with rfl|rfl|rfl|rfl|rfl|rfl|rfl
 ·obtain rfl:fK (IntKind.i64.wrap (a.num+b.num))=rv:=f';go_enter func219,ntmps219;go_wp2_with fail;refine bV fun w1 e1=>?_
  have hB:VBox w1 w.heap.size:=⟨OB 0,OB 0,.string ⟨#[]⟩,by rw[e1];repeat (first|exact ax _ _ _ jS|apply aI)⟩;have J:OD w w1:=gb e1;have u1:=aa J u1;have t1:=aa J t1;clear e1;have h':=jD J;obtain⟨B,c'⟩:=jF w.heap.size;have g':w.heap.size<=B:=by omega
  rw[<-c']at hB Z ⊢;clear c' J;have a':∀W,w1.grownBy W (some B)->VBox W B->(fun W=>w1.grownBy W (some B)/\VBox W B/\OC W b1 (o1+1) (OB a.num)/\OC W b1 (o1+3+1) (OB b.num)) W:=fun W hg hv=>⟨hg,hv,ag hg u1 (fun e=>Z (by injection e with e;exact e.symm)),ag hg t1 (fun e=>Z (by injection e with e;exact e.symm))⟩
  refine PM ?_;refine PQ (S:=fun W=>w1.grownBy W (some B)/\VBox W B/\OC W b1 (o1+1) (OB a.num)/\OC W b1 (o1+3+1) (OB b.num)) kr (a' _ (aE (OK _ _).drew _) (hB.stays (OK _ _).drew)) (fun I=>?_);generalize w1.drew=wD at I ⊢;refine tkH [0,1,2,3,4,5,6,7,8,9] ?_;refine nxH 10 (fun K hK=>?_)
  focus (obtain⟨a0,b0,c0,z0,z1,z2,f0,f1,f2⟩:=I.2.1.facts;go_simp)
  refine hK.out _ _ (a' _ (ci I.1 _ _ _) (I.2.1.set3 _ _ _)) (fun I=>?_);clear hK K;refine dn ?_;have HF:=jD (aS h'.out I.1 g');go_wp2;exact OJ (v:=vlV (fK (IntKind.i64.wrap (a.num+b.num)))) (by simp[results,results219,go_sem,am,z0,z1,z2,vlV,fK]) rfl ⟨rfl,HF.out⟩
 ·obtain rfl:fK (IntKind.i64.wrap (a.num-b.num))=rv:=f';go_enter func219,ntmps219;go_wp2_with fail;refine bV fun w1 e1=>?_
  have hB:VBox w1 w.heap.size:=⟨OB 0,OB 0,.string ⟨#[]⟩,by rw[e1];repeat (first|exact ax _ _ _ jS|apply aI)⟩;have J:OD w w1:=gb e1;have u1:=aa J u1;have t1:=aa J t1;clear e1;have h':=jD J;obtain⟨B,c'⟩:=jF w.heap.size;have g':w.heap.size<=B:=by omega
  rw[<-c']at hB Z ⊢;clear c' J;have a':∀W,w1.grownBy W (some B)->VBox W B->(fun W=>w1.grownBy W (some B)/\VBox W B/\OC W b1 (o1+1) (OB a.num)/\OC W b1 (o1+3+1) (OB b.num)) W:=fun W hg hv=>⟨hg,hv,ag hg u1 (fun e=>Z (by injection e with e;exact e.symm)),ag hg t1 (fun e=>Z (by injection e with e;exact e.symm))⟩
  refine PM ?_;refine PQ (S:=fun W=>w1.grownBy W (some B)/\VBox W B/\OC W b1 (o1+1) (OB a.num)/\OC W b1 (o1+3+1) (OB b.num)) kr (a' _ (aE (OK _ _).drew _) (hB.stays (OK _ _).drew)) (fun I=>?_);generalize w1.drew=wD at I ⊢;refine tkH [0,1,2,3,4,5,6,7,8,9] ?_;refine nxH 10 (fun K hK=>?_)
  focus (obtain⟨a0,b0,c0,z0,z1,z2,f0,f1,f2⟩:=I.2.1.facts;go_simp)
  refine hK.out _ _ (a' _ (ci I.1 _ _ _) (I.2.1.set3 _ _ _)) (fun I=>?_);clear hK K;refine dn ?_;have HF:=jD (aS h'.out I.1 g');go_wp2;exact OJ (v:=vlV (fK (IntKind.i64.wrap (a.num-b.num)))) (by simp[results,results219,go_sem,am,z0,z1,z2,vlV,fK]) rfl ⟨rfl,HF.out⟩
 ·have d':Hid (∀W:World,OE 49 #[.bool (decide (a.num<b.num))] W (.agg #[OB rv.kind,OB rv.num,.string rv.text])):=jD (fun W=>by
   have h:=fV (decide (a.num<b.num)) W;have e:bQ (decide (a.num<b.num))=rv:=f';rw[e]at h;exact h)
  exact ua6
 ·have d':Hid (∀W:World,OE 49 #[.bool (decide (a.num<=b.num))] W (.agg #[OB rv.kind,OB rv.num,.string rv.text])):=jD (fun W=>by
   have h:=fV (decide (a.num<=b.num)) W;have e:bQ (decide (a.num<=b.num))=rv:=f';rw[e]at h;exact h)
  exact ua6
 ·have d':Hid (∀W:World,OE 49 #[.bool (bI a b)] W (.agg #[OB rv.kind,OB rv.num,.string rv.text])):=jD (fun W=>by
   have h:=fV (bI a b) W;have e:bQ (bI a b)=rv:=f';rw[e]at h;exact h)
  have heq:=fun W=>rF a b W
  unfold vlV at heq;go_enter func219,ntmps219;go_wp2_with fail;refine bV fun w1 e1=>?_
  have hB:VBox w1 w.heap.size:=⟨OB 0,OB 0,.string ⟨#[]⟩,by rw[e1];repeat (first|exact ax _ _ _ jS|apply aI)⟩;have J:OD w w1:=gb e1;have u0:=aa J u0;have u1:=aa J u1;have u2:=aa J u2;have t0:=aa J t0;have t1:=aa J t1;have t2:=aa J t2;clear e1;have h':=jD J;obtain⟨B,c'⟩:=jF w.heap.size;have g':w.heap.size<=B:=by omega
  rw[<-c']at hB Z ⊢;clear c' J;have a':∀W,w1.grownBy W (some B)->VBox W B->(fun W=>w1.grownBy W (some B)/\VBox W B/\OC W b1 o1 (OB a.kind)/\OC W b1 (o1+1) (OB a.num)/\OC W b1 (o1+2) (.string a.text)/\OC W b1 (o1+3) (OB b.kind)/\OC W b1 (o1+3+1) (OB b.num)/\OC W b1 (o1+3+2) (.string b.text)) W:=fun W hg hv=>⟨hg,hv,ag hg u0 (fun e=>Z (by injection e with e;exact e.symm)),ag hg u1 (fun e=>Z (by injection e with e;exact e.symm)),ag hg u2 (fun e=>Z (by injection e with e;exact e.symm)),ag hg t0 (fun e=>Z (by injection e with e;exact e.symm)),ag hg t1 (fun e=>Z (by injection e with e;exact e.symm)),ag hg t2 (fun e=>Z (by injection e with e;exact e.symm))⟩
  refine PM ?_;refine PQ (S:=fun W=>w1.grownBy W (some B)/\VBox W B/\OC W b1 o1 (OB a.kind)/\OC W b1 (o1+1) (OB a.num)/\OC W b1 (o1+2) (.string a.text)/\OC W b1 (o1+3) (OB b.kind)/\OC W b1 (o1+3+1) (OB b.num)/\OC W b1 (o1+3+2) (.string b.text)) kr (a' _ (aE (OK _ _).drew _) (hB.stays (OK _ _).drew)) (fun I=>?_);generalize w1.drew=wD at I ⊢;refine tkH [0,1,2,3,4,5,6] ?_;refine nxH 7 (fun K hK=>?_)
  focus (go_simp;refine (d'.out _).mono ?_;rintro e w4 ⟨rfl,l'⟩)
  refine hK.out _ _ (a' _ (dt I.1 (aE l' _)) (I.2.1.stays l')) (fun I=>?_);clear hK K;refine nxH 8 (fun K hK=>?_)
  focus (obtain⟨a0,b0,c0,z0,z1,z2,f0,f1,f2⟩:=I.2.1.facts;go_simp)
  refine hK.out _ _ (a' _ (ci I.1 _ _ _) (I.2.1.set3 _ _ _)) (fun I=>?_);clear hK K;refine dn ?_;have HF:=jD (aS h'.out I.1 g');go_wp2;exact OJ (v:=vlV rv) (by simp[results,results219,go_sem,am,z0,z1,z2,vlV,fK]) rfl ⟨rfl,HF.out⟩
 ·by_cases c1:a.num=1<;>by_cases c2:b.num=1
  all_goals
   obtain⟨t,ht⟩:∃t,(decide (a.num=1)&&decide (b.num=1))=t:=⟨_,rfl⟩;exact ua7
 ·by_cases c1:a.num=1<;>by_cases c2:b.num=1
  all_goals
   obtain⟨t,ht⟩:∃t,(decide (a.num=1) || decide (b.num=1))=t:=⟨_,rfl⟩;exact ua7
theorem Bm(a:Vl)(v:Value)(w:World)(hv:bh w v [a]) :
  OE 219 #[OB 12,v] w (vlV (iM 12 a a)):=by
 have HV:=jD hv;obtain⟨A,c,rfl,-⟩:=hv;obtain⟨b1,o1,rfl,d',u0,u1,u2⟩:=bB (l:=[a]) HV.out (k:=0) jS;simp only[QW,QX,P1,QM,P9]at u0 u1 u2;have f':b1≠w.heap.size:=by omega
 obtain⟨rv,J⟩:∃r,iM 12 a a=r:=⟨_,rfl⟩;rw[J];unfold vlV at *
 by_cases c1:a.num=1
 all_goals
  obtain⟨t,ht⟩:∃t,(!decide (a.num=1))=t:=⟨_,rfl⟩;have h:bQ t=rv:=by rw[<-ht];exact J
  simp[c1]at ht;have HN:=jD (fun W=>fV t W);rw[h]at HN;clear h J;unfold vlV at HN;subst ht;obtain⟨da,a'⟩:∃d,(a.num==1)=d:=⟨_,rfl⟩;have I:da=decide (a.num=1):=by rw[<-a',Qc];simp
  simp only[c1,QJ,QU]at I;subst I;have Z:(a.num != 1)=!(a.num==1):=rfl;rw[a']at Z;simp only[PH,PY]at Z;go_enter func219,ntmps219;go_wp2_with fail;refine (HN.out _).mono ?_;rintro e w1 ⟨rfl,c'⟩;obtain⟨a0,b0,c0,z0,z1,z2,f0,f1,f2⟩:=(eE c').facts;go_wp2;exact OJ (v:=vlV rv) (by simp[results,results219,go_sem,am,z0,z1,z2,vlV]) rfl ⟨rfl,bH (ae (ay w _) c') (OI _) _ _ _⟩
end Go.Proofs.YteemngnialjaiaaGreatDoor
