/- Part. -/
import Derived.Test.YteemngnialjaiaaGreatDoorQ38
import Derived.Test.YteemngnialjaiaaGreatDoorQ37
set_option maxRecDepth 100000
set_option maxHeartbeats 16000000
set_option linter.unusedVariables false
set_option linter.unusedSimpArgs false
namespace Go.Proofs.YteemngnialjaiaaGreatDoor
open Go.Proofs.Tryz Go.RowKit
variable {α H:Type}{w w' W:World}{base d J fuel n1 I:Nat}{spare:Nat->Bool}{held:Bool}{va vc v vl:Value}{cs:List Value}{l:List Evt}{F:Fence}{P:Program}{c:Code}{Q:Exit->Act->World->Prop}{a:Array Value}{x:Vl×List Evt}{t:TypeId}
section
open Go.ChangeShapes Go.WideShapes Go.ChangeAt Go.RowKit Go.Deep
theorem N4{l:List α}(h:l.length=18):∃c0 c1 c2 c3 c4 c5 c6 c7 c8 c9 d' Z I f' c14 c' a' J,l=[c0,c1,c2,c3,c4,c5,c6,c7,c8,c9,d',Z,I,f',c14,c',a',J]:=by
 match l,h with
 | [c0,c1,c2,c3,c4,c5,c6,c7,c8,c9,d',Z,I,f',c14,c',a',J],_=>exact⟨c0,c1,c2,c3,c4,c5,c6,c7,c8,c9,d',Z,I,f',c14,c',a',J,rfl⟩
theorem DJ:prog.cellsOf 33=18:=kr
theorem Fc:prog.cellsOf 31=14:=kr
theorem E8:prog.cellsOf 22=1:=kr
theorem Az:prog.cellsOf 23=1:=kr
section
variable {enc:TypeId×Value->H}
end
end
section
open Go.ChangeShapes Go.WideShapes Go.ChangeAt Go.RowKit Go.Deep
structure Qry where
 nm:ByteArray
 vars:List Nv
 key:List Int
 pat:Pt
 rets:List Ex
def F7(q:Qry)(I h J vc vr:Value):List Value:=[.string q.nm,I,h]++eP q.pat J vc++[vr]
def og(q:Qry)(I h J vc vr:Value):Value:=.agg #[.string q.nm,I,h,OB q.pat.op,J,OB q.pat.ty,OB q.pat.vr,OB q.pat.sc,OB q.pat.sp,
 OB q.pat.cond.op,vc,OB q.pat.cond.vr,OB q.pat.cond.fl,OB q.pat.cond.kd,OB q.pat.cond.val.kind,OB q.pat.cond.val.num,.string q.pat.cond.val.text,vr]
structure QryIs(d:Nat)(w:World)(q:Qry)(vv vk va vc vr:Value):Prop where
 vars:LH w vv q.vars
 key:iJ w vk q.key
 args:dg d w va q.pat.args
 cond:bZ d w vc q.pat.cond.args
 rets:bZ d w vr q.rets
theorem QryIs.stays{q:Qry}{Z J vr:Value}(h:QryIs d w q Z J va vc vr)(I:OD w w'):QryIs d w' q Z J va vc vr :=
 ⟨h.vars.stays Bd I,h.key.stays ic I,h.args.stays (bK d) I,h.cond.stays (bi d) I,h.rets.stays (bi d) I⟩
def LC(q:Qry):Nat:=ptB q.pat+(q.rets.map aC).sum
section
variable {enc:TypeId×Value->H}
theorem Gt{n:Nat}{y:DataW H×List MemPlace}(hl:cs.length=3)(h:DataW.trod enc prog w base spare held n 27 cs=some y):∃x:Vl,cs=[OB x.kind,OB x.num,.string x.text]:=by
 obtain⟨c0,c1,c2,rfl⟩:=sG hl;obtain⟨xs,m,_,_,_,I,hf⟩:=Qz underlying27 h;obtain⟨x0,x1,x2,rfl⟩:=sG (jQ I);have f0:=hf 0 _ rfl;have f1:=hf 1 _ rfl;have f2:=hf 2 _ rfl;simp[dP,fJ]at f0 f1 f2;obtain⟨k0,J,_⟩:=Pm underlying3 f0;obtain⟨k1,e1,_⟩:=Pm underlying3 f1;obtain⟨k2,Z,_⟩:=RW underlying9 f2;simp only[PJ,PU]at J e1 Z;subst J e1 Z;exact⟨⟨k0,k1,k2⟩,rfl⟩
theorem GE{n:Nat}{y:DataW H×List MemPlace}(hl:cs.length=8)(h:DataW.trod enc prog w base spare held n 29 cs=some y) :
  ∃(x:Ex)(v:Value)(f:Nat),cs=[OB x.op,v,OB x.vr,OB x.fl,OB x.kd,OB x.val.kind,OB x.val.num,.string x.val.text]/\bZ f w v x.args/\aC x<=Rows.uptoBulk y.1:=by
 obtain⟨c0,c1,c2,c3,c4,c5,c6,c7,rfl⟩:=LQ hl;obtain⟨xs,m,hm,hy,_,J,hf⟩:=Qz underlying29 h;obtain⟨x0,x1,x2,x3,x4,x5,rfl⟩:=BX (jQ J);have f0:=hf 0 _ rfl;have f1:=hf 1 _ rfl;have f2:=hf 2 _ rfl;have f3:=hf 3 _ rfl;have f4:=hf 4 _ rfl;have f5:=hf 5 _ rfl;simp[dP,oz,pI]at f0 f1 f2 f3 f4 f5;obtain⟨k0,e0,_⟩:=Pm underlying3 f0;obtain⟨k2,e2,_⟩:=Pm underlying3 f2;obtain⟨k3,e3,_⟩:=Pm underlying3 f3;obtain⟨k4,e4,_⟩:=Pm underlying3 f4;obtain⟨vl,I⟩:=Gt rfl f5;obtain⟨l,Z,a'⟩:=xF f1;simp only[PJ,PU]at e0 e2 e3 e4 I;obtain⟨rfl,rfl,rfl⟩:=I;subst e0 e2 e3 e4;refine⟨.mk k0 l k2 k3 k4 vl,c1,m,rfl,Z,?_⟩;subst hy;rw[kR,show (Ex.mk k0 l k2 k3 k4 vl).args=l from rfl,qE];have h1:=nT (d:=x1.1) (l:=[x0.1,x1.1,x2.1,x3.1,x4.1,x5.1]) jS;simp only[Rows.uptoBulk,OU,P6];omega
theorem Fz{y:DataW H×List MemPlace}(h:DataW.trod enc prog w base spare held fuel 24 [v]=some y):∃l,dg fuel w v l/\(l.map ptB).sum+1<=Rows.uptoBulk y.1 :=
 mx (m:=ptB) underlying24 td dc (fun n b o cs y Z h1 I J=>Ly fuel n om b o cs y h1 I J) h
theorem IZ{n:Nat}{y:DataW H×List MemPlace}(hl:cs.length=14)(h:DataW.trod enc prog w base spare held n 31 cs=some y) :
  ∃(x:Pt)(v vc:Value)(f:Nat),cs=eP x v vc/\dg f w v x.args/\bZ f w vc x.cond.args/\ptB x<=Rows.uptoBulk y.1:=by
 obtain⟨c0,c1,c2,c3,c4,c5,c6,c7,c8,c9,f',d',c',h',rfl⟩:=Iv hl;obtain⟨xs,m,hm,hy,_,I,hf⟩:=Qz underlying31 h;obtain⟨x0,x1,x2,x3,x4,x5,x6,rfl⟩:=LN (jQ I);have f0:=hf 0 _ rfl;have f1:=hf 1 _ rfl;have f2:=hf 2 _ rfl;have f3:=hf 3 _ rfl;have f4:=hf 4 _ rfl;have f5:=hf 5 _ rfl;have f6:=hf 6 _ rfl;simp[dP,tG,mg]at f0 f1 f2 f3 f4 f5 f6;obtain⟨k0,e0,_⟩:=Pm underlying3 f0;obtain⟨k2,e2,_⟩:=Pm underlying3 f2;obtain⟨J,e3,_⟩:=Pm underlying3 f3;obtain⟨k4,e4,_⟩:=Pm underlying3 f4;obtain⟨k5,e5,_⟩:=Pm underlying3 f5;obtain⟨ex,vc,f,hex,a',g'⟩:=GE rfl f6;obtain⟨l,Z,i'⟩:=Fz f1;simp only[PJ,PU]at e0 e2 e3 e4 e5 hex;obtain⟨rfl,rfl,rfl,rfl,rfl,rfl,rfl,rfl⟩:=hex;subst e0 e2 e3 e4 e5;refine⟨.mk k0 l k2 J k4 k5 ex,c1,c7,max m f,rfl,zm (Nat.le_max_left _ _) Z,qx (Nat.le_max_right _ _) a',?_⟩;subst hy;rw[lK,show (Pt.mk k0 l k2 J k4 k5 ex).args=l from rfl,show (Pt.mk k0 l k2 J k4 k5 ex).cond=ex from rfl,wV];have h1:Rows.uptoBulkAll [x0.1,x1.1,x2.1,x3.1,x4.1,x5.1,x6.1]=Rows.uptoBulk x0.1+(Rows.uptoBulk x1.1+(Rows.uptoBulk x2.1+(Rows.uptoBulk x3.1+(Rows.uptoBulk x4.1+(Rows.uptoBulk x5.1+(Rows.uptoBulk x6.1+0)))))):=rfl;simp only[Rows.uptoBulk,OU,P6];omega
theorem Fs(n b o:Nat)(cs:List Value)(y:DataW H × List MemPlace)(J:cs.length=1)(Z:∀(j:Nat)(u:Value),cs[j]?=some u->w.cell? ⟨b,o+j,none⟩=some u)(h:DataW.trod enc prog w base spare held n 3 cs=some y):∃x,vH w b o x:=by
 obtain⟨c0,rfl⟩:=list1 J;obtain⟨k0,I,_⟩:=Pm underlying3 h;simp only[PJ,PU]at I;subst I;exact⟨k0,Z 0 _ rfl⟩
theorem Ed{y:DataW H×List MemPlace}(h:DataW.trod enc prog w base spare held fuel 23 [v]=some y):∃l,iJ w v l :=
 pr underlying23 dP dc (fun n b o cs y h1 I J=>Fs n b o cs y h1 I J) h
theorem EM{n:Nat}{y:DataW H×List MemPlace}(hl:cs.length=18)(h:DataW.trod enc prog w base spare held n 33 cs=some y) :
  ∃(q:Qry)(vv vk Z vc vr:Value)(f:Nat),cs=F7 q vv vk Z vc vr/\QryIs f w q vv vk Z vc vr/\LC q<=Rows.uptoBulk y.1:=by
 obtain⟨c0,c1,c2,c3,c4,c5,c6,c7,c8,c9,k',i',g',l',c14,j',m',c',rfl⟩:=N4 hl;obtain⟨xs,m,_,hy,_,a',J⟩:=Qz underlying33 h;obtain⟨x0,x1,x2,x3,x4,rfl⟩:=Iu (jQ a');have f0:=J 0 _ rfl;have f1:=J 1 _ rfl;have f2:=J 2 _ rfl;have f3:=J 3 _ rfl;have f4:=J 4 _ rfl;simp[fJ,E8,Az,Fc,oz]at f0 f1 f2 f3 f4;obtain⟨k0,e0,_⟩:=RW underlying9 f0;obtain⟨vars,hv⟩:=Hb f1;obtain⟨key,hk⟩:=Ed f2;obtain⟨p,Z,vc,f,hp,f',d',h'⟩:=IZ rfl f3;obtain⟨I,hr,hb⟩:=xF f4;simp only[PJ,PU]at e0;subst e0;refine⟨⟨k0,vars,key,p,I⟩,c1,c2,Z,vc,c',max m f,?_,⟨hv,hk,zm (Nat.le_max_right _ _) f',qx (Nat.le_max_right _ _) d',qx (Nat.le_max_left _ _) hr⟩,?_⟩
 ·unfold F7;rw[<-hp];rfl
 ·subst hy;have h1:Rows.uptoBulkAll [x0.1,x1.1,x2.1,x3.1,x4.1]=Rows.uptoBulk x0.1+(Rows.uptoBulk x1.1+(Rows.uptoBulk x2.1+(Rows.uptoBulk x3.1+(Rows.uptoBulk x4.1+0)))):=rfl;unfold LC;simp only[Rows.uptoBulk,OU,P6];omega
end
end
def aZ(q:Qry)(l:List Evt):(List Vl × List (List Evt)) × Int:=if fx q.pat≠0 then (([],[]),fx q.pat) else fZ q.key l
structure PartAsk(d:Nat)(w:World)(q:Qry)(l:List Evt)(vv vk va vc vr vl:Value):Prop where
 shp:Shp w
 qry:QryIs d w q vv vk va vc vr
 evs:cH w vl l
 few:ptB q.pat<=1048576
 wf:∀e∈l,∀x∈e.vals,jM x
 vals:∀e∈l,e.vals.length<=1048576
theorem PartAsk.stays{q:Qry}{Z J vr:Value}(h:PartAsk d w q l Z J va vc vr vl)(I:OD w w'):PartAsk d w' q l Z J va vc vr vl :=
 ⟨h.shp.stays I,h.qry.stays I,h.evs.stays bX I,h.few,h.wf,h.vals⟩
theorem zP(d:Nat)(q:Qry)(l:List Evt)(vv vk va vc vr vl:Value)(w:World)(I:PartAsk d w q l vv vk va vc vr vl) :
  Calls prog 21 #[og q vv vk va vc vr,vl] w (yZ w (aZ q l)):=by
 have Z:=jD (fun(W:World)(hW:OD w W)=>pL d q.pat va vc W (I.shp.stays hW) (I.qry.args.stays (bK d) hW) (I.qry.cond.stays (bi d) hW) I.few);have f':=jD (fun(W:World)(hW:OD w W)=>E3 l q.key vl vk W (I.evs.stays bX hW) (I.qry.key.stays ic hW) I.wf I.vals);have q':=jD I;obtain⟨pe,J⟩:∃e,e=fx q.pat:=⟨_,rfl⟩;have p':=jD J;rw[<-J]at Z;obtain⟨R,hR⟩:=jE (aZ q l);have HR:Hid ((if pe≠0 then (([],[]),pe) else fZ q.key l)=R):=jD (by rw[<-hR,aZ,<-J]);rw[hR];obtain⟨Ak,ck,rfl,-⟩:=id I.qry.key;obtain⟨Al,cl,rfl,-⟩:=id I.evs;obtain⟨nk,j'⟩:∃n,n=q.key.length:=⟨_,rfl⟩;obtain⟨nl,h'⟩:∃n,n=l.length:=⟨_,rfl⟩;rw[<-j',<-h']at f' ⊢;obtain⟨Av,cv,rfl,-⟩:=id I.qry.vars;obtain⟨Aa,ca,rfl,-⟩:=id I.qry.args;obtain⟨Ac,cc,rfl,-⟩:=id I.qry.cond;obtain⟨Ar,cr,rfl,-⟩:=id I.qry.rets;clear I J hR j' h';unfold ptV at Z;unfold og;go_enter func21,ntmps21;go_wp2_with fail;refine aJ fun w1 e1=>?_
 have d':OD w w1:=gb e1;have x2:OC w1 w.heap.size 2 (.slice Ak nk ck):=jG e1;clear e1;refine (Z.out _ d').mono ?_;rintro e w2 ⟨rfl,c'⟩;replace x2:=aa c' x2;have a':=jD (ae d' c');clear d' c' Z
 by_cases h0:pe=0
 case neg =>
  have r':(pe != 0)=true:=jQ h0;obtain rfl:(([],[]),pe)=R:=by have h:=HR.out;rw[OG h0]at h;exact h
  clear h0;go_wp2;exact OJ (v:=.tuple #[.slice none 0 0,.slice none 0 0,OB pe]) (by simp[results,results21,go_sem]) rfl ⟨_,_,rfl,Sl.nil _ _ _ _ _ (OO _),Sl.nil _ _ _ _ _ (OO _),a'.out⟩
 subst h0;obtain rfl:fZ q.key l=R:=by have h:=HR.out;rw[OF jS]at h;exact h
 go_wp2_with fail;refine (f'.out _ a'.out).mono ?_;rintro e w3 ⟨kv,pv,rfl,g',i',k'⟩;have m':=jD (ae a'.out k');have n':=jD g';have l':=jD i';obtain⟨A1,c1,rfl,-⟩:=g';obtain⟨A2,c2,rfl,-⟩:=i';clear k' x2;go_wp2;exact OJ (v:=.tuple #[.slice A1 _ c1,.slice A2 _ c2,OB (fZ q.key l).2]) (by simp[results,results21,go_sem]) rfl ⟨_,_,rfl,n'.out,l'.out,m'.out⟩
theorem PartAsk.form{q:Qry}{vv vk vr:Value}(h:PartAsk d w q l vv vk va vc vr vl):∃J cv Ak ck I ca Ac Z Ar cr Al cl,vv=.slice J q.vars.length cv/\vk=.slice Ak q.key.length ck/\va=.slice I q.pat.args.length ca/\vc=.slice Ac q.pat.cond.args.length Z/\vr=.slice Ar q.rets.length cr/\vl=.slice Al l.length cl:=by
 obtain⟨J,cv,e1,-⟩:=h.qry.vars;obtain⟨Ak,ck,e2,-⟩:=h.qry.key;obtain⟨I,ca,e3,-⟩:=h.qry.args;obtain⟨Ac,Z,e4,-⟩:=h.qry.cond;obtain⟨Ar,cr,e5,-⟩:=h.qry.rets;obtain⟨Al,cl,e6,-⟩:=h.evs;exact⟨J,cv,Ak,ck,I,ca,Ac,Z,Ar,cr,Al,cl,e1,e2,e3,e4,e5,e6⟩
section
open Go.RowKit Go.Lib
theorem FZ{n:Nat}{a:Act}(h:∀W:World,W=w->c.wpIn F n P Q a W):c.wpIn F n P Q a w:=h w rfl
def KpS(n1 h I:Nat)(W W':World):Prop:=Below n1 W W'/\W'.heap[h]?=W.heap[h]?/\W'.heap[I]?=W.heap[I]?
theorem IV{A B C:World}(h1:KpS n1 I J A B)(h:KpS n1 I J B C):KpS n1 I J A C:=⟨h1.1.trans h.1,h.2.1.trans h1.2.1,h.2.2.trans h1.2.2⟩
theorem Dp{W':World}(h:OD W W')(Z:n1<=W.heap.size)(hk:I<W.heap.size)(hp:J<W.heap.size):KpS n1 I J W W':=⟨h.mono Z,h.block I hk,h.block J hp⟩
theorem FM(n1 h I:Nat)(W:World):KpS n1 h I W W:=⟨⟨rfl,rfl,rfl,OI _,fun _ _=>rfl⟩,rfl,rfl⟩
theorem kpS_b{h m:Nat}(Z:n1<=m)(hk:h<m)(hp:I<m)(W:World)(l:Nat)(o o':Obj)(J:m<=l)(_:W.heap[l]?=some o)(_:o.isCells=false)(_:o.isWalk=false):KpS n1 h I W (W.putObj l o') :=
 ⟨⟨rfl,rfl,rfl,by simp[World.putObj],fun k hk=>Ru om⟩,Ru om,Ru om⟩
def Ot(h:World)(x:Vl × List Evt)(a:Array Value)(_:World):Prop:=∃u,a=#[vlV x.1,u]/\cH h u x.2
theorem FQ(I:World)(B:Nat)(x:Vl × List Evt)(a:Array Value):OwnFrom B (fun(_:Unit) W=>Ot I x a W):=fun _ _ _ _ h _ _=>h
theorem Ep{I:World}(h:Ot I x a W):a.size=2:=by
 obtain⟨u,rfl,-⟩:=h;rfl
theorem wI(ks:List Vl)(ps:List (List Evt))(kv pv:Value)(kb Z:Nat)(Ws w:World)(hlen:ps.length=ks.length)(hk:bh Ws kv ks)(hp:Sl sB 1 Ws pv ps)(hb:OD Ws w)(n':w.cell? ⟨kb,0,none⟩=some kv)(j':w.cell? ⟨Z,0,none⟩=some pv) :
  SeqC 54 #[.pointer (some ⟨kb,0,none⟩),.pointer (some ⟨Z,0,none⟩)] (ks.zip ps) (Ot Ws) (KpS Ws.heap.size kb Z) w:=by
 intro ly J Jx W hW hJ G' hY m';have t':=ae hb hW;have u':=jD t';have HJ:=jD hJ;have HY:=jD hY;have y':=jD m';have c1:=aa hW n';have c2:=aa hW j';obtain⟨Ak,ck,rfl,k1,k2,f'⟩:=id hk;obtain⟨Ap,cp,rfl,-,-,g'⟩:=id hp;have k':=aP k1 k2;have F':=OV W ⟨kb,_,none⟩ c1;have E':=OV W ⟨Z,_,none⟩ c2;obtain⟨n,hn⟩:=jF ks.length;rw[hlen]at c2;rw[<-hn]at c1 c2 k';have q':Hid ((ks.zip ps).length=n):=jD (by rw[List.length_zip,hlen,hn];exact Nat.min_self _);have HN:=jD hn;have HL:=jD hlen;have z':=jD f';have H':=jD g';have A':=jD c1;have C':=jD c2;clear hW hJ G' hY m' t' hb n' j' hk hp k1 k2 f' g' hn hlen;show Calls prog 54 #[.func (.yield ly) #[] #[],.pointer (some ⟨kb,0,none⟩),.pointer (some ⟨Z,0,none⟩)] W _;go_enter func54,ntmps54;refine (wpIn_wide (n:=5)).1 ?_;gi_wp2
 gi_loopw [8] (fun t wr=>∃k:Nat,k<=n/\t=OB k/\Hid (J k wr/\KpS Ws.heap.size kb Z W wr)) (fun t _=>n-(RowKit.intOf t).toNat)
 case atStart=>exact⟨0,OO _,rfl,jD ⟨lV HJ.out y'.out jB,Dp jB u'.out.size F' E'⟩⟩
 case round =>
  obtain⟨k,hk,rfl,hI⟩:=hrel;have I:Hid (OD Ws wr):=jD (u'.out.trans hI.out.2.1);have zp:OC wr Z 0 (.slice Ap n cp):=(Pf (a:=⟨Z,0,none⟩) hI.out.2.2.2).trans C'.out;have r':=OV wr ⟨Z,_,none⟩ zp;have l':kb<wr.heap.size:=OV wr ⟨kb,0,none⟩ ((Pf (a:=⟨kb,0,none⟩) hI.out.2.2.1).trans A'.out)
  by_cases N':k<n
  ·have x':(k:Int)<(n:Int):=by omega
   have s':k<ks.length:=by have:=HN.out;omega
   have p':k<ps.length:=by have:=HN.out;have:=HL.out;omega
   have d':=OH s';have a':=OH p';obtain⟨y,hy⟩:=jF (ks[k]);obtain⟨s,hs⟩:=jF (ps[k]);rw[<-hy]at d';rw[<-hs]at a';obtain⟨bk,ok,rfl,y0,y1,y2⟩:=z'.out k y d';obtain⟨bq,oq,rfl,us,i',zs⟩:=H'.out k s a';rw[P7]at zs;obtain⟨As,cs,rfl,-⟩:=id i';have Q':bk<wr.heap.size:=OT (OV Ws ⟨bk,_,none⟩ y0) I.out.size;have I':bq<wr.heap.size:=OT (OV Ws ⟨bq,_,none⟩ zs) I.out.size;replace y0:=aa I.out y0;replace y1:=aa I.out y1;replace y2:=aa I.out y2;replace zs:=aa I.out zs;have B':Hid (∀W9,OD wr W9->YieldAt Fence.wide (5-1) prog ly #[.agg #[OB y.kind,OB y.num,.string y.text],.slice As s.length cs] W9 fun e W'=>(e=.returned (.bool true)/\J (k+1) W'/\KpS Ws.heap.size kb Z W W')\/(e=.returned (.bool false)/\Jx (k+1) W')):=by
    refine jD fun W9 h9=>mS (HY.out _ k (y,s) #[vlV y,.slice As s.length cs] W9 (List.getElem?_zip_eq_some.2 ⟨d',a'⟩) (lV HJ.out hI.out.1 h9) ⟨_,rfl,i'⟩) ?_
    rintro e W' (⟨rfl,g1,g2⟩|⟨rfl,g1⟩)
    ·exact .inl ⟨rfl,g1,IV (IV hI.out.2 (Dp h9 I.out.size l' r')) g2⟩
    ·exact .inr ⟨rfl,g1⟩
   clear d' a' hy hs i' s' p';gi_wp2;refine FZ fun w5 e5=>?_
   have c':Hid (OD wr w5):=jD (gb e5);replace zp:=aa c'.out zp;replace zs:=aa c'.out zs;obtain⟨Y,hY⟩:∃q,q=wr.heap.size:=⟨_,rfl⟩;have y0:OC w5 Y 0 (OB y.kind):=jW e5 hY;have y1:OC w5 Y 1 (OB y.num):=jW e5 hY;have y2:OC w5 Y 2 (.string y.text):=jW e5 hY;rw[<-hY];have J':=OV w5 ⟨Y,_,none⟩ y0;have P':=c'.out.size;clear e5 hY;have D':∀W,OD w5 W->(fun W:World=>OD w5 W/\OC W Y 0 (OB y.kind)/\OC W Y 1 (OB y.num)/\OC W Y 2 (.string y.text)/\OC W Z 0 (.slice (some ⟨bq,oq,none⟩) n cp)/\OC W bq (oq+k) (.slice As s.length cs)) W:=fun W hW=>⟨hW,aa hW y0,aa hW y1,aa hW y2,aa hW zp,aa hW zs⟩
   refine uF ?_;refine zC ((fun W:World=>OD w5 W/\W.cell? ⟨Y,0,none⟩=some (OB y.kind)/\W.cell? ⟨Y,1,none⟩=some (OB y.num)/\W.cell? ⟨Y,2,none⟩=some (.string y.text)/\W.cell? ⟨Z,0,none⟩=some (.slice (some ⟨bq,oq,none⟩) n cp)/\W.cell? ⟨bq,oq+k,none⟩=some (.slice As s.length cs))) 6 kr (D' _ (OK _ _).drew) (fun h'=>?_);refine tkY [0,1,2,3,4,5] ?_;refine An (fuel:=1) (L:=(true::true::true::true::true::true::true::false::[]).toArray) rfl kr kr kr kr kr (fun K hK=>?_)
   go_simp
   refine zL (l:=ly) (args:=#[.agg #[OB y.kind,OB y.num,.string y.text],.slice As s.length cs]) (B'.out _ (show OD wr _ by exact ae c'.out h'.1)) (fun W7 h7=>?_) (fun W7 h7=>?_)
   ·have H7:=jD h7;clear h7;refine hK.out _ _ ?_;clear hK K
    focus (refine oC (i:=7) (fuel:=0) (L:=(true::true::true::true::true::true::true::true::[]).toArray) (v:=.bool false) rfl rfl kr kr kr ?_ ?_;(focus (go_simp<;>with_reducible rfl));simp only[O6,O4])
    refine wpAnyIn_done kr (Rz ?_) _;gi_wp2
    go_roundw
    case rel=>exact⟨k+1,by omega,by go_num,jD ⟨H7.out.1,H7.out.2⟩⟩
    case measure=>simp[RowKit.intOf];omega
   ·have H7:=jD h7;clear h7;refine hK.out _ _ ?_;clear hK K
    focus (refine oC (i:=7) (fuel:=0) (L:=(true::true::true::true::true::true::true::true::[]).toArray) (v:=.bool true) rfl rfl kr kr kr ?_ ?_;(focus (go_simp<;>with_reducible rfl));simp only[O6,O4])
    refine wpAnyIn_done kr (Rz ?_) _;gi_wp2;refine OJ (v:=.tuple #[]) (results_none rfl _ _ _) rfl ?_;exact⟨⟨_,rfl⟩,.inr ⟨k,by have h:=q'.out;rw[List.length_zip]at h;omega,H7.out⟩⟩
  ·have x':¬(k:Int)<(n:Int):=by omega
   obtain rfl:k=n:=by omega
   have HE:=jD hI.out.1;gi_wp2;refine bodyPost_end (results_none rfl _ _ _) rfl ?_;exact⟨⟨_,rfl⟩,.inl (by have h:=q'.out;rw[List.length_zip]at h;rw[h];exact lV HJ.out HE.out jB)⟩
theorem wH(kv h:Value)(w:World)(hk:∃A n c,kv=.slice A n c)(hp:∃A n c,h=.slice A n c):Calls prog 22 #[kv,h] w fun e W =>
  e=.returned (.func (.func 54) #[] #[.pointer (some ⟨w.heap.size,0,none⟩),.pointer (some ⟨w.heap.size+1,0,none⟩)])/\W=(w.alloc (.cells #[kv] 59)).alloc (.cells #[h] 63):=by
 obtain⟨A,n,c,rfl⟩:=hk;obtain⟨I,J,c2,rfl⟩:=hp;go_enter func22,ntmps22;go_wp2;go_ret;exact⟨rfl,rfl⟩
end
section
open Go.RowKit Go.Lib
attribute [local go_sem] Oper.semAt_some
theorem fc{B:Nat}(h:Boxed W B t v)(J:B≠I)(u:Value):Boxed (W.setCell ⟨I,0,none⟩ u) B t v:=(Qq W ⟨I,0,none⟩ u B J).trans h
theorem yw(q:Qry)(l:List Evt):(aZ q l).1.2.length=(aZ q l).1.1.length:=by
 unfold aZ fZ
 split
 ·rfl
 ·split
  ·rfl
  ·simp[eJ]
theorem nf:(prog.info? 33).map (·.size)=some 18:=kr
end
end Go.Proofs.YteemngnialjaiaaGreatDoor
