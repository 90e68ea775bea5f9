/- Part. -/
import Derived.Test.YtokconodddedhaaGreatDoorQ28
import Derived.Test.YtokconodddedhaaGreatDoorQ30
set_option maxRecDepth 100000
set_option maxHeartbeats 16000000
set_option linter.unusedVariables false
set_option linter.unusedSimpArgs false
namespace Go.Proofs.YtokconodddedhaaGreatDoor
open Go.Proofs.Tryz Go.RowKit
section
open Go.ChangeShapes Go.WideShapes Go.ChangeAt Go.RowKit Go.Deep
theorem KD {α:Type} {l:List α} (h:l.length=18):∃c0 c1 c2 c3 c4 c5 c6 c7 c8 c9 F J O G I Z z D,l=[c0,c1,c2,c3,c4,c5,c6,c7,c8,c9,F,J,O,G,I,Z,z,D]:=by
 match l,h with
 | [c0,c1,c2,c3,c4,c5,c6,c7,c8,c9,F,J,O,G,I,Z,z,D],_=>exact⟨c0,c1,c2,c3,c4,c5,c6,c7,c8,c9,F,J,O,G,I,Z,z,D,rfl⟩
theorem DQ:prog.cellsOf 33=18:=kr
theorem DT:prog.cellsOf 31=14:=kr
theorem Ck:prog.cellsOf 22=1:=kr
theorem zn:prog.cellsOf 23=1:=kr
section
variable {H : Type} {enc : TypeId × Value -> H} {w : World} {base : Nat} {spare : Nat -> Bool} {held : Bool}
end
end
section
open Go.ChangeShapes Go.WideShapes Go.ChangeAt Go.RowKit Go.Deep
structure Qry where
 nm:ByteArray
 vars:List Nv
 key:List Int
 pat:Pt
 rets:List Ex
def ef (q:Qry) (vv vk va vc vr:Value):List Value:=[.string q.nm,vv,vk]++aQ q.pat va vc++[vr]
def dO (q:Qry) (vv vk va vc vr:Value):Value:=.agg #[.string q.nm,vv,vk,KW q.pat.op,va,KW q.pat.ty,KW q.pat.vr,KW q.pat.sc,KW q.pat.sp,
 KW q.pat.cond.op,vc,KW q.pat.cond.vr,KW q.pat.cond.fl,KW q.pat.cond.kd,KW q.pat.cond.val.kind,KW q.pat.cond.val.num,.string q.pat.cond.val.text,vr]
structure QryIs (d:Nat) (w:World) (q:Qry) (vv vk va vc vr:Value):Prop where
 vars:tg w vv q.vars
 key:bD w vk q.key
 args:aW d w va q.pat.args
 cond:aF d w vc q.pat.cond.args
 rets:aF d w vr q.rets
theorem QryIs.stays {d:Nat} {w w':World} {q:Qry} {vv vk va vc vr:Value} (h:QryIs d w q vv vk va vc vr) (z:KY w w'):QryIs d w' q vv vk va vc vr :=
 ⟨h.vars.stays jd z,h.key.stays aL z,h.args.stays (aB d) z,h.cond.stays (ai d) z,h.rets.stays (ai d) z⟩
def xr (q:Qry):Nat:=ptB q.pat+(q.rets.map aM).sum
section
variable {H : Type} {enc : TypeId × Value -> H} {w : World} {base : Nat} {spare : Nat -> Bool} {held : Bool}
theorem Fr {n:Nat} {cs:List Value} {y:DataW H × List MemPlace} (O:cs.length=3) (h:DataW.trod enc prog w base spare held n 27 cs=some y):∃x:Vl,cs=[KW x.kind,KW x.num,.string x.text]:=by
 obtain⟨c0,c1,c2,rfl⟩:=oX O;obtain⟨xs,m,_,_,_,z,hf⟩:=Mt underlying27 h;obtain⟨x0,x1,x2,rfl⟩:=oX (jQ z);have f0:=hf 0 _ rfl;have f1:=hf 1 _ rfl;have f2:=hf 2 _ rfl;simp[df,ey]at f0 f1 f2;obtain⟨J,F,_⟩:=LA underlying3 f0;obtain⟨I,D,_⟩:=LA underlying3 f1;obtain⟨Z,G,_⟩:=Nr underlying9 f2;simp only[LS,LV]at F D G;subst F D G;exact⟨⟨J,I,Z⟩,rfl⟩
theorem E6 {n:Nat} {cs:List Value} {y:DataW H × List MemPlace} (hl:cs.length=8) (h:DataW.trod enc prog w base spare held n 29 cs=some y) :
  ∃(x:Ex) (v:Value) (f:Nat),cs=[KW x.op,v,KW x.vr,KW x.fl,KW x.kd,KW x.val.kind,KW x.val.num,.string x.val.text]/\aF f w v x.args/\aM x<=Rows.uptoBulk y.1:=by
 obtain⟨c0,c1,c2,c3,c4,c5,c6,c7,rfl⟩:=JE hl;obtain⟨xs,m,hm,hy,_,F,hf⟩:=Mt underlying29 h;obtain⟨x0,G,x2,x3,x4,x5,rfl⟩:=Bx (jQ F);have f0:=hf 0 _ rfl;have f1:=hf 1 _ rfl;have f2:=hf 2 _ rfl;have f3:=hf 3 _ rfl;have f4:=hf 4 _ rfl;have f5:=hf 5 _ rfl;simp[df,nC,mN]at f0 f1 f2 f3 f4 f5;obtain⟨k0,Z,_⟩:=LA underlying3 f0;obtain⟨k2,e2,_⟩:=LA underlying3 f2;obtain⟨I,O,_⟩:=LA underlying3 f3;obtain⟨k4,J,_⟩:=LA underlying3 f4;obtain⟨vl,z⟩:=Fr rfl f5;obtain⟨l,D,a'⟩:=xi f1;simp only[LS,LV]at Z e2 O J z;obtain⟨rfl,rfl,rfl⟩:=z;subst Z e2 O J;refine⟨.mk k0 l k2 I k4 vl,c1,m,rfl,D,?_⟩;subst hy;rw[dQ,show (Ex.mk k0 l k2 I k4 vl).args=l from rfl,lv];have h1:=nI (d:=G.1) (l:=[x0.1,G.1,x2.1,x3.1,x4.1,x5.1]) jS;simp only[Rows.uptoBulk,LF,MD];omega
theorem EH {fuel:Nat} {v:Value} {y:DataW H × List MemPlace} (h:DataW.trod enc prog w base spare held fuel 24 [v]=some y):∃l,aW fuel w v l/\(l.map ptB).sum+1<=Rows.uptoBulk y.1 :=
 mj (m:=ptB) underlying24 tn dc (fun n b o cs y G z F D=>Ij fuel n om b o cs y z F D) h
theorem GT {n:Nat} {cs:List Value} {y:DataW H × List MemPlace} (hl:cs.length=14) (h:DataW.trod enc prog w base spare held n 31 cs=some y) :
  ∃(x:Pt) (v vc:Value) (f:Nat),cs=aQ x v vc/\aW f w v x.args/\aF f w vc x.cond.args/\ptB x<=Rows.uptoBulk y.1:=by
 obtain⟨c0,c1,c2,c3,c4,c5,c6,c7,c8,c9,b',e',f',c',rfl⟩:=Ek hl;obtain⟨xs,m,hm,hy,_,Z,hf⟩:=Mt underlying31 h;obtain⟨x0,x1,x2,x3,x4,x5,x6,rfl⟩:=JG (jQ Z);have f0:=hf 0 _ rfl;have f1:=hf 1 _ rfl;have f2:=hf 2 _ rfl;have f3:=hf 3 _ rfl;have f4:=hf 4 _ rfl;have f5:=hf 5 _ rfl;have f6:=hf 6 _ rfl;simp[df,tk,mh]at f0 f1 f2 f3 f4 f5 f6;obtain⟨J,e0,_⟩:=LA underlying3 f0;obtain⟨O,e2,_⟩:=LA underlying3 f2;obtain⟨z,e3,_⟩:=LA underlying3 f3;obtain⟨I,e4,_⟩:=LA underlying3 f4;obtain⟨G,e5,_⟩:=LA underlying3 f5;obtain⟨ex,vc,f,hex,D,d'⟩:=E6 rfl f6;obtain⟨l,F,a'⟩:=EH f1;simp only[LS,LV]at e0 e2 e3 e4 e5 hex;obtain⟨rfl,rfl,rfl,rfl,rfl,rfl,rfl,rfl⟩:=hex;subst e0 e2 e3 e4 e5;refine⟨.mk J l O z I G ex,c1,c7,max m f,rfl,jn (Nat.le_max_left _ _) F,eI (Nat.le_max_right _ _) D,?_⟩;subst hy;rw[rG,show (Pt.mk J l O z I G ex).args=l from rfl,show (Pt.mk J l O z I G ex).cond=ex from rfl,xZ];have h1:Rows.uptoBulkAll [x0.1,x1.1,x2.1,x3.1,x4.1,x5.1,x6.1]=Rows.uptoBulk x0.1+(Rows.uptoBulk x1.1+(Rows.uptoBulk x2.1+(Rows.uptoBulk x3.1+(Rows.uptoBulk x4.1+(Rows.uptoBulk x5.1+(Rows.uptoBulk x6.1+0)))))):=rfl;simp only[Rows.uptoBulk,LF,MD];omega
theorem Fs (n b o:Nat) (cs:List Value) (y:DataW H × List MemPlace) (D:cs.length=1) (F:∀(j:Nat) (u:Value),cs[j]?=some u->w.cell? ⟨b,o+j,none⟩=some u)
  (h:DataW.trod enc prog w base spare held n 3 cs=some y):∃x,mW w b o x:=by
 obtain⟨I,rfl⟩:=list1 D;obtain⟨G,z,_⟩:=LA underlying3 h;simp only[LS,LV]at z;subst z;exact⟨G,F 0 _ rfl⟩
theorem CY {fuel:Nat} {v:Value} {y:DataW H × List MemPlace} (h:DataW.trod enc prog w base spare held fuel 23 [v]=some y):∃l,bD w v l :=
 pB underlying23 df dc (fun n b o cs y z F D=>Fs n b o cs y z F D) h
theorem Cd {n:Nat} {cs:List Value} {y:DataW H × List MemPlace} (hl:cs.length=18) (h:DataW.trod enc prog w base spare held n 33 cs=some y) :
  ∃(q:Qry) (vv vk va vc vr:Value) (f:Nat),cs=ef q vv vk va vc vr/\QryIs f w q vv vk va vc vr/\xr q<=Rows.uptoBulk y.1:=by
 obtain⟨c0,c1,c2,c3,c4,c5,c6,c7,c8,c9,c',f',g',d',e',h',b',F,rfl⟩:=KD hl;obtain⟨xs,m,_,hy,_,J,z⟩:=Mt underlying33 h;obtain⟨x0,O,Z,x3,x4,rfl⟩:=Gv (jQ J);have f0:=z 0 _ rfl;have f1:=z 1 _ rfl;have f2:=z 2 _ rfl;have f3:=z 3 _ rfl;have f4:=z 4 _ rfl;simp[ey,Ck,zn,DT,nC]at f0 f1 f2 f3 f4;obtain⟨k0,e0,_⟩:=Nr underlying9 f0;obtain⟨vars,hv⟩:=Ft f1;obtain⟨key,hk⟩:=CY f2;obtain⟨p,va,vc,f,hp,I,G,a'⟩:=GT rfl f3;obtain⟨D,hr,hb⟩:=xi f4;simp only[LS,LV]at e0;subst e0;refine⟨⟨k0,vars,key,p,D⟩,c1,c2,va,vc,F,max m f,?_,⟨hv,hk,jn (Nat.le_max_right _ _) I,eI (Nat.le_max_right _ _) G,eI (Nat.le_max_left _ _) hr⟩,?_⟩
 ·unfold ef;rw[<-hp];rfl
 ·subst hy;have h1:Rows.uptoBulkAll [x0.1,O.1,Z.1,x3.1,x4.1]=Rows.uptoBulk x0.1+(Rows.uptoBulk O.1+(Rows.uptoBulk Z.1+(Rows.uptoBulk x3.1+(Rows.uptoBulk x4.1+0)))):=rfl;unfold xr;simp only[Rows.uptoBulk,LF,MD];omega
end
end
structure Fld where
 nm:ByteArray
 kind:Int
structure Sch where
 nm:ByteArray
 fields:List Fld
abbrev tx (s:ByteArray):List UInt8:=s.data.toList
def fy:Fld:=⟨⟨#[]⟩,0⟩
def IE:Sch:=⟨⟨#[]⟩,[]⟩
def nmB (s:List UInt8):Bool:=decide (s≠[])&&decide (s.length<=24)&&qB s&&s.all eD
def Bt:List UInt8:=[116,105,109,101]
def Gl (s:List UInt8):Bool:=nmB s&&decide (s≠Bt)
def jW (seen:List (List UInt8)):List Fld->Int
 | []=>0
 | f::r=>if Gl (tx f.nm)=false then 8 else if seen.contains (tx f.nm) then 7 else if f.kind<0\/2<f.kind then 1 else jW (seen++[tx f.nm]) r
def zb (s:Sch):Int:=if nmB (tx s.nm)=false then 8 else if 8<s.fields.length then 5 else jW [] s.fields
def kO (seen:List (List UInt8)):List Sch->Int
 | []=>0
 | s::r=>if zb s≠0 then zb s else if seen.contains (tx s.nm) then 7 else kO (seen++[tx s.nm]) r
def fU (l:List Sch):Int:=if 16<l.length then 5 else kO [] l
def je (n:Nat) (seen:List (List UInt8)):List Nv->Int
 | []=>0
 | v::r=>if fh (tx v.name)≠0 then fh (tx v.name) else if seen.contains (tx v.name) then 7 else if v.ty<0\/(n:Int)<=v.ty then 6 else je n (seen++[tx v.name]) r
def pU (ts:List Sch) (vs:List Nv):Int:=if 16<vs.length then 5 else je ts.length [] vs
def tv (ts:List Sch) (vs:List Nv):Int:=if fU ts≠0 then fU ts else pU ts vs
def dz (n:Nat):List Nv->Int
 | []=>0
 | v::r=>if v.ty<0\/(n:Int)<=v.ty then 6 else dz n r
def fieldsOf (ts:List Sch) (t:Int):List Fld:=(ts.getD t.toNat IE).fields
def iM (ts:List Sch) (vs:List Nv) (x:Ex):Int × Int :=
 if x.op=0 then (x.val.kind,0) else if (vs.length:Int)<=x.vr then (0,6) else if x.op=2\/x.op=3 then (0,0)
 else if ((fieldsOf ts (vs.getD x.vr.toNat ⟨⟨#[]⟩,0⟩).ty).length:Int)<=x.fl then (0,6)
 else if x.op=4/\(((fieldsOf ts (vs.getD x.vr.toNat ⟨⟨#[]⟩,0⟩).ty).getD x.fl.toNat fy).kind≠x.val.kind\/gL x.kd ⟨((fieldsOf ts (vs.getD x.vr.toNat ⟨⟨#[]⟩,0⟩).ty).getD x.fl.toNat fy).kind,0,⟨#[]⟩⟩=false) then (0,9)
 else (((fieldsOf ts (vs.getD x.vr.toNat ⟨⟨#[]⟩,0⟩).ty).getD x.fl.toNat fy).kind,0)
def oa (op:Int) (r:List Int × Int):Int × Int:=if r.2≠0 then (0,r.2) else if opE op r.1≠0 then (0,opE op r.1) else if op=5\/op=6 then (0,0) else (1,0)
mutual
def fG (ts:List Sch) (vs:List Nv):Ex->Int × Int
 | .mk o l a b c v=>if l.length=0 then iM ts vs (.mk o l a b c v) else oa o (fA ts vs l)
def fA (ts:List Sch) (vs:List Nv):List Ex->List Int × Int
 | []=>([],0)
 | a::r=>if (fG ts vs a).2≠0 then ([],(fG ts vs a).2) else ((fG ts vs a).1::(fA ts vs r).1,(fA ts vs r).2)
end
theorem xE (ts:List Sch) (vs:List Nv) (x:Ex):fG ts vs x=if x.args.length=0 then iM ts vs x else oa x.op (fA ts vs x.args):=by cases x;rw[fG];rfl
def iv (ts:List Sch) (vs:List Nv) (x:Ex):Int × Int :=
 if fU ts≠0 then (0,fU ts) else if 16<vs.length then (0,5) else if dz ts.length vs≠0 then (0,6) else if fJ x≠0 then (0,fJ x) else fG ts vs x
def qU (ts:List Sch) (vs:List Nv) (x:Ex):Int:=if (iv ts vs x).2≠0 then (iv ts vs x).2 else if (iv ts vs x).1≠1 then 9 else 0
def il (ts:List Sch) (vs:List Nv) (p:Pt):Int :=
 if (p.op=0\/p.op=5)/\p.ty≠(vs.getD p.vr.toNat ⟨⟨#[]⟩,0⟩).ty then 9 else if iw p.op then qU ts vs p.cond else 0
def cB (ts:List Sch) (vs:List Nv):Nat->List Pt->Int × Int
 | _,[]=>(0,0)
 | k,p::r=>if il ts vs p≠0 then ((k:Int),il ts vs p) else cB ts vs (k+1) r
def sd (p:Pt):Nat:=((aO p).filter fun y=>bX y.op).length
def kM (ts:List Sch) (vs:List Nv) (p:Pt):Int × Int :=
 if tv ts vs≠0 then (0,tv ts vs) else if cK p≠0 then (0,cK p) else if sd p≠vs.length then (0,15)
 else if (cB ts vs 0 (aO p)).2≠0 then cB ts vs 0 (aO p) else iX p
def gB (ts:List Sch) (vs:List Nv):Nat->Int->List Int->Int
 | _,_,[]=>0
 | i,kd,k::r =>
  if vs.any (fun v=>decide (v.ty=(i:Int)))=false then (if k≠-1 then 16 else gB ts vs (i+1) kd r)
  else if k<0\/((fieldsOf ts i).length:Int)<=k then 16
  else if 0<=kd/\((fieldsOf ts i).getD k.toNat fy).kind≠kd then 9 else gB ts vs (i+1) ((fieldsOf ts i).getD k.toNat fy).kind r
def kyT (ts:List Sch) (q:Qry):Int:=if tv ts q.vars≠0 then tv ts q.vars else if q.key=[] then 0 else if q.key.length≠ts.length then 15 else gB ts q.vars 0 (-1) q.key
def iu (ts:List Sch) (vs:List Nv):List Ex->List Int × Int
 | []=>([],0)
 | x::r=>if (iv ts vs x).2≠0 then ([],(iv ts vs x).2) else ((iv ts vs x).1::(iu ts vs r).1,(iu ts vs r).2)
def yJ (ts:List Sch) (q:Qry):Int :=
 if (kM ts q.vars q.pat).2≠0 then (kM ts q.vars q.pat).2 else if q.rets.length=0 then 15 else if 256<q.rets.length then 5
 else if (iu ts q.vars q.rets).2≠0 then (iu ts q.vars q.rets).2 else (rF q.pat q.rets).2
def vC (ts:List Sch) (q:Qry):Int :=
 if fU ts≠0 then fU ts else if fh (tx q.nm)≠0 then fh (tx q.nm) else if (kM ts q.vars q.pat).2≠0 then (kM ts q.vars q.pat).2 else if kyT ts q≠0 then kyT ts q else yJ ts q
def kT (ts:List Sch):Nat->List (List UInt8)->List Qry->Int × Int
 | _,_,[]=>(0,0)
 | k,seen,q::r=>if vC ts q≠0 then ((k:Int),vC ts q) else if seen.contains (tx q.nm) then ((k:Int),7) else kT ts (k+1) (seen++[tx q.nm]) r
def sR (ts:List Sch) (qs:List Qry):Int × Int:=if fU ts≠0 then (0,fU ts) else if 16<qs.length then (0,5) else kT ts 0 [] qs
def JB (w:World) (b p:Nat) (x:Fld):Prop:=w.cell? ⟨b,p,none⟩=some (.string x.nm)/\w.cell? ⟨b,p+1,none⟩=some (KW x.kind)
theorem oG:gG JB:=fun _ _ _ _ _ hb ⟨h0,h⟩=>⟨aa hb h0,aa hb h⟩
abbrev Ew (w:World) (v:Value) (l:List Fld):Prop:=Sl JB 2 w v l
def JI (w:World) (b p:Nat) (x:Sch):Prop:=∃v,Ew w v x.fields/\w.cell? ⟨b,p,none⟩=some (.string x.nm)/\w.cell? ⟨b,p+1,none⟩=some v
theorem bU:gG JI:=fun _ _ _ _ _ hb ⟨v,h,h0,z⟩=>⟨v,h.stays oG hb,aa hb h0,aa hb z⟩
abbrev iZ (w:World) (v:Value) (l:List Sch):Prop:=Sl JI 2 w v l
def Kc (x:Sch) (v:Value):Value:=.agg #[.string x.nm,v]
theorem jN (n:Int) (w:World):Calls prog 285 #[.int .u8 n] w fun e w'=>e=.returned (.bool (rQ n))/\w=w':=by
 unfold rQ
 by_cases h:n=95
 ·subst h;go_enter func285,ntmps285;go_wp2;go_ret;exact⟨by simp,rfl⟩
 ·have I:(n==95)=false:=jQ h
  by_cases D:97<=n
  ·by_cases G:n<=122
   ·go_enter func285,ntmps285;go_wp2;go_ret;exact⟨by simp[h,D,G],rfl⟩
   ·have z:65<=n:=by omega
    have F:¬n<=90:=by omega
    go_enter func285,ntmps285;go_wp2;go_ret;exact⟨by simp[h,D,G,z,F],rfl⟩
  ·by_cases z:65<=n
   ·by_cases F:n<=90 <;>
    ·go_enter func285,ntmps285;go_wp2;go_ret;exact⟨by simp[h,D,z,F]<;>omega,rfl⟩
   ·go_enter func285,ntmps285;go_wp2;go_ret;exact⟨by simp[h,D,z]<;>omega,rfl⟩
theorem gz (n:Int) (w:World):Calls prog 284 #[.int .u8 n] w fun e w'=>e=.returned (.bool (nU n))/\w=w':=by
 unfold nU
 by_cases z:48<=n
 ·by_cases h:n<=57 <;>
  ·go_enter func284,ntmps284;go_wp2;go_ret;exact⟨by simp[z,h],rfl⟩
 ·go_enter func284,ntmps284;go_wp2;go_ret;exact⟨by simp;omega,rfl⟩
def fM (s:Sch):Prop:=s.nm.size<=1048576/\∀f∈s.fields,f.nm.size<=1048576
theorem IK {c:UInt8} (h:eD c=true):kL c=!iD c:=by
 unfold eD at h
 cases z:kL c with
 | false=>rw[z]at h;simp at h;rw[h];rfl
 | true =>
  unfold kL at z;unfold iD;simp only[LQ,Lp,Ly,LO]at z;rw[eq_comm,LU,L8];simp only[LG,NK]at *;have D:∀c:UInt8,c=95->c.toNat=95:=fun c F=>by rw[F];rfl
  rcases z with (z|⟨z,-⟩)|⟨z,-⟩
  ·right;have:=D c z;simp;omega
  ·right;simp at z ⊢;omega
  ·right;simp at z ⊢;omega
def hdig:List UInt8->Bool
 | []=>false
 | c::_=>!iD c
theorem Kr (l:List UInt8):nmB l=(if l.length=0\/24<l.length then false else hdig l&&l.all eD):=by
 cases l with
 | nil=>rfl
 | cons c r =>
  by_cases z:24<(c::r).length
  ·rw[K7 (.inr z)];unfold nmB;have:decide ((c::r).length<=24)=false:=MC om;rw[this];simp
  ·rw[K6 (fun h=>by rcases h with h|h;(simp at h);exact z h)];unfold nmB;have F:decide ((c::r)≠[])=true:=by simp
   have G:decide ((c::r).length<=24)=true:=Nc om;rw[F,G,L5,L5];show (kL c&&(c::r).all eD)=(!iD c&&(c::r).all eD)
   cases D:(c::r).all eD with
   | false=>simp
   | true =>
    rw[List.all_cons,Lp]at D;rw[IK D.1]
theorem iL (s:ByteArray) (w:World) (hs:s.size<=1048576):Calls prog 218 #[.string s] w fun e w'=>e=.returned (.bool (nmB (tx s)))/\w=w':=by
 obtain⟨L,hL⟩:=jE s.data.toList;have hlen:L.length=s.size:=by rw[<-hL];rfl
 have z:=jD hlen;obtain⟨R,hR⟩:=jE (nmB (tx s));have HR:Hid ((if L.length=0\/24<L.length then false else hdig L&&L.all eD)=R):=jD (by rw[<-hL,<-Kr];exact hR);have HL:=jD hL;rw[hR];clear hL hlen hR;have G:∀(k:Nat) (x:UInt8),L[k]?=some x->∀W,(Instr.index 9 (.string s) (KW (k:Int))).run prog W=.ok (.int .u8 (x.toNat:Int)) W:=fun k x hx W=>by
  have I:k<s.size:=by rw[<-z.out];exact (List.getElem?_eq_some_iff.1 hx).1
  have j':s[k]=x:=by
   have h1:L[k]?=some s[k]:=by rw[<-HL.out];simp[ByteArray.getElem_eq_getElem_data,I]
   rw[hx]at h1;exact (LK h1).symm
  rw[run_index_string W 9 s .i64 (k:Int) underlying9,dif_pos ⟨by omega,by omega⟩];have:s[(k:Int).toNat]'(jQ I)=x:=jQ j';rw[this]
 by_cases h0:s.size=0
 ·have f':((s.size:Int)==0)=true:=jQ h0;obtain rfl:false=R:=by have h:=HR.out;rw[K7 (.inl (by rw[z.out];exact h0))]at h;exact h
  clear h0 G;go_enter func218,ntmps218;go_wp2;go_ret;exact⟨rfl,rfl⟩
 have f':((s.size:Int)==0)=false:=jQ h0
 by_cases e':24<s.size
 ·have c':(24:Int)<(s.size:Int):=by omega
  obtain rfl:false=R:=by have h:=HR.out;rw[K7 (.inr (by rw[z.out];exact e'))]at h;exact h
  clear e' G;go_enter func218,ntmps218;go_wp2;go_ret;exact⟨rfl,rfl⟩
 have c':¬(24:Int)<(s.size:Int):=by omega
 obtain⟨c,r,O⟩:∃c r,L=c::r:=by
  cases hl:L with
  | nil=>have:=z.out;rw[hl]at this;simp at this;omega
  | cons c r=>exact⟨c,r,rfl⟩
 have k':∀W,(Instr.index 9 (.string s) (KW 0)).run prog W=.ok (.int .u8 (c.toNat:Int)) W:=fun W=>by
  have h:=G 0 c (by rw[O];rfl) W
  simpa using h
 have b':Hid ((!iD c&&L.all eD)=R):=jD (by
  have h:=HR.out;rw[K6 (by rw[z.out];omega)]at h;rw[<-h,O];rfl)
 clear HR;obtain⟨n0,D⟩:∃n:Int,(c.toNat:Int)=n:=⟨_,rfl⟩;rw[D]at k';have hd:nU n0=iD c:=by rw[<-D];exact mT c
 obtain⟨q,hq⟩:=jE (iD c);rw[hq]at hd;have HD:=jD hd;have HQ:=jD hq;have h':=jD G;clear hd hq O G D
 cases q with
 | true =>
  obtain rfl:false=R:=by have h:=b'.out;rw[HQ.out]at h;exact h
  go_enter func218,ntmps218;go_wp2_with (go_at_call 284;refine (gz _ _).mono ?_;rw[HD.out];rintro e w' ⟨rfl,rfl⟩);go_ret;exact⟨rfl,rfl⟩
 | false =>
  have a':Hid (L.all eD=R):=jD (by have h:=b'.out;rw[HQ.out]at h;exact h);go_enter func218,ntmps218;go_wp2_with (go_at_call 284;refine (gz _ _).mono ?_;rw[HD.out];rintro e w' ⟨rfl,rfl⟩)
  go_loopw [19] (fun i wr=>wr=w/\∃k:Nat,k<=s.size/\i=KW k/\Hid ((L.take k).all eD=true)) (fun i _=>s.size-(intOf i).toNat)
  case atStart=>exact⟨rfl,0,Lb _,rfl,jD rfl⟩
  case round =>
   obtain⟨rfl,k,hk,rfl,hi⟩:=hrel
   by_cases I:k<s.size
   ·have i':(k:Int)<(s.size:Int):=by omega
    have F:=jD (K9 (show k<L.length by rw[z.out];exact I));obtain⟨x,hx⟩:∃x,x=L[k]'(by rw[z.out];exact I):=⟨_,rfl⟩;rw[<-hx]at F;have g':=h'.out k x F.out;obtain⟨n,D⟩:∃n:Int,(x.toNat:Int)=n:=⟨_,rfl⟩;rw[D]at g';have HP:Hid (rQ n=kL x):=jD (by rw[<-D,AK]);have d':Hid (nU n=iD x):=jD (by rw[<-D,mT]);clear hx D;obtain⟨p,hp⟩:=jE (kL x);obtain⟨q,hq⟩:=jE (iD x);have HB:Hid (eD x=(p || q)):=jD (by unfold eD;rw[hp,hq]);have J:=jD (HP.out.trans hp);have Z:=jD (d'.out.trans hq);clear hp hq HP d'
    cases p
    case true =>
     go_wp2_with (first|(go_at_call 285;refine (jN _ _).mono ?_;rw[J.out];rintro e w' ⟨rfl,rfl⟩)|(go_at_call 284;refine (gz _ _).mono ?_;rw[Z.out];rintro e w' ⟨rfl,rfl⟩))
     go_roundw
     case rel=>exact⟨by trivial,k+1,by omega,by go_num,jD (by rw[aX F.out,List.all_append,hi.out];simp[HB.out])⟩
     case measure=>simp[intOf];omega
    case false =>
     cases q
     case true =>
      go_wp2_with (first|(go_at_call 285;refine (jN _ _).mono ?_;rw[J.out];rintro e w' ⟨rfl,rfl⟩)|(go_at_call 284;refine (gz _ _).mono ?_;rw[Z.out];rintro e w' ⟨rfl,rfl⟩))
      go_roundw
      case rel=>exact⟨by trivial,k+1,by omega,by go_num,jD (by rw[aX F.out,List.all_append,hi.out];simp[HB.out])⟩
      case measure=>simp[intOf];omega
     case false =>
      obtain rfl:false=R:=by
       rw[<-a'.out];symm;rw[List.all_eq_false];exact⟨x,Li F.out,by rw[HB.out];simp⟩
      go_wp2_with (first|(go_at_call 285;refine (jN _ _).mono ?_;rw[J.out];rintro e w' ⟨rfl,rfl⟩)|(go_at_call 284;refine (gz _ _).mono ?_;rw[Z.out];rintro e w' ⟨rfl,rfl⟩));go_ret;exact⟨rfl,rfl⟩
   ·have i':¬(k:Int)<(s.size:Int):=by omega
    obtain rfl:true=R:=by
     have h1:=hi.out;rw[Mn (by rw[z.out];omega)]at h1;rw[<-a'.out,h1]
    go_wp2;go_ret;exact⟨rfl,rfl⟩
theorem H8 (l:List UInt8):Gl l=(nmB l&&decide (l≠Bt)):=rfl
theorem gF (s:ByteArray) (w:World) (hs:s.size<=1048576):Calls prog 219 #[.string s] w fun e w'=>e=.returned (.bool (Gl (tx s)))/\w=w':=by
 obtain⟨q,hq⟩:=jE (nmB (tx s));have D:=jD hq;rw[H8,hq];clear hq
 cases q with
 | false =>
  go_enter func219,ntmps219;go_wp2_with (go_at_call 218;refine (iL _ _ hs).mono ?_;rw[D.out];rintro e w' ⟨rfl,rfl⟩);go_ret;exact⟨rfl,rfl⟩
 | true =>
  obtain⟨L,hL⟩:=jE s.toList;have F:tx s=L:=by rw[<-hL,Na]
  rw[F];obtain⟨r,hr⟩:∃r,(L==[116,105,109,101])=r:=⟨_,rfl⟩;have h:decide (L≠Bt)=!r:=by
   rw[<-hr]
   by_cases z:L=Bt
   ·subst z;rfl
   ·have:(L==[116,105,109,101])=false:=by rw[LZ];exact z
    rw[this];simpa using z
  rw[h];clear h F;go_enter func219,ntmps219;go_wp2_with (go_at_call 218;refine (iL _ _ hs).mono ?_;rw[D.out];rintro e w' ⟨rfl,rfl⟩);go_ret;exact⟨by simp,rfl⟩
theorem Kw {a b:ByteArray} (h:tx a=tx b):a=b:=by
 obtain⟨⟨a⟩⟩:=a;obtain⟨⟨b⟩⟩:=b;simp[tx]at h;rw[h]
theorem mJ {l:List ByteArray} {s:ByteArray}:(l.map tx).contains (tx s)=true↔s∈l:=by
 rw[ND,List.mem_map];exact⟨fun ⟨a,z,e⟩=>by rw[<-Kw e];exact z,fun h=>⟨s,h,rfl⟩⟩
abbrev sKv (s:ByteArray):Value:=.string s
theorem zR {seen:List (List UInt8)} {l:List Fld} {k:Nat} {f:Fld} (h:l[k]?=some f):jW seen (l.drop k)=if Gl (tx f.nm)=false then 8 else if seen.contains (tx f.nm) then 7 else if f.kind<0\/2<f.kind then 1 else jW (seen++[tx f.nm]) (l.drop (k+1)):=by
 obtain⟨z,rfl⟩:=List.getElem?_eq_some_iff.1 h;rw[Lr z,jW]
theorem Aj (x:Sch) (v:Value) (w:World) (hv:Ew w v x.fields) (hs:fM x):KZ 159 #[Kc x v] w (KW (zb x)):=by
 obtain⟨A,c,rfl,h1,h2,e'⟩:=hv;have u':=ax h1 h2;have i':=jD e';have HS:=jD hs.2;have O:=hs.1;have B':=@run_makeMap prog;obtain⟨R,hR⟩:=jE (zb x);have HR:Hid ((if nmB (tx x.nm)=false then 8 else if 8<x.fields.length then 5 else jW [] x.fields)=R):=jD hR;rw[hR];obtain⟨q,hq⟩:=jE (nmB (tx x.nm));have HQ:=jD hq;rw[hq]at HR;clear hR hq e' h1 h2 hs;unfold Kc
 cases q with
 | false =>
  obtain rfl:8=R:=by have h:=HR.out;rw[K7 rfl]at h;exact h
  go_enter func159,ntmps159;go_wp2_with (go_at_call 218;refine (iL _ _ O).mono ?_;rw[HQ.out];rintro e w' ⟨rfl,rfl⟩);go_ret;exact⟨rfl,jB⟩
 | true =>
  have Z:Hid ((if 8<x.fields.length then 5 else jW [] x.fields)=R):=jD (by have h:=HR.out;rw[K6 jS]at h;exact h);clear HR
  by_cases h8:8<x.fields.length
  ·have r':(8:Int)<(x.fields.length:Int):=by omega
   obtain rfl:5=R:=by have h:=Z.out;rw[K7 h8]at h;exact h
   clear h8;go_enter func159,ntmps159;go_wp2_with (go_at_call 218;refine (iL _ _ O).mono ?_;rw[HQ.out];rintro e w' ⟨rfl,rfl⟩);go_ret;exact⟨rfl,jB⟩
  have r':¬(8:Int)<(x.fields.length:Int):=by omega
  have t':Hid (jW [] x.fields=R):=jD (by have h:=Z.out;rw[K6 h8]at h;exact h);have D':x.fields.length<=8:=by omega
  clear Z h8;go_enter func159,ntmps159;go_wp2_with (go_at_call 218;refine (iL _ _ O).mono ?_;rw[HQ.out];rintro e w' ⟨rfl,rfl⟩);refine aP fun w3 e3=>?_
  obtain⟨M,hM⟩:∃q,q=w.heap.size+1:=⟨_,rfl⟩;have m':Hid (HasM 9 sKv w3 M 0 []):=jD (by rw[e3,hM];have h:=gv 9 sKv (w.alloc (.cells #[.string x.nm,.slice A x.fields.length c] 99 (0,0)));rw[L4]at h;exact h);have q':Hid (KY w w3):=jD (gb e3);have x':w.heap.size<=M:=by omega
  have x1:KX w3 w.heap.size 1 (.slice A x.fields.length c):=jG e3;have A':w.heap.size<w3.heap.size:=K8 w3 ⟨w.heap.size,_,none⟩ x1;rw[<-hM];clear e3 hM
  go_loopw [18] (fun i wr=>∃k:Nat,k<=x.fields.length/\i=KW k/\Hid (HasM 9 sKv wr M k ((x.fields.take k).map (·.nm)))/\Hid (jW ((x.fields.take k).map (fun f=>tx f.nm)) (x.fields.drop k)=R/\KY w wr)) (fun i _=>x.fields.length-(intOf i).toNat)
  case atStart=>exact⟨0,Lb _,rfl,m',jD ⟨t'.out,q'.out⟩⟩
  case round =>
   obtain⟨k,hk,rfl,hM,hI⟩:=hrel;have hb:=hI.out.2
   by_cases c':k<x.fields.length
   ·have p':(k:Int)<(x.fields.length:Int):=by omega
    obtain⟨b,o,rfl,d0,d1⟩:=i'.out k x.fields[k] (K9 c');have hg:=jD (K9 c');obtain⟨f,hf⟩:=jF (x.fields[k]);rw[<-hf]at hg d0 d1;have I:=HS.out f (Li hg.out);have C':b<wr.heap.size:=Ll (K8 w ⟨b,_,none⟩ d0) hb.size;replace d0:=aa hb d0;replace d1:=aa hb d1;have hD:=hI.out.1;rw[zR hg.out]at hD;obtain⟨q1,b'⟩:∃q,Gl (tx f.nm)=q:=⟨_,rfl⟩;have F:=jD b';rw[b']at hD;have h':Hid ((x.fields.take (k+1)).map (fun f=>tx f.nm)=(x.fields.take k).map (fun f=>tx f.nm)++[tx f.nm]/\(x.fields.take (k+1)).map (·.nm)=(x.fields.take k).map (·.nm)++[f.nm]):=jD ⟨by rw[aX hg.out,LH];rfl,by rw[aX hg.out,LH];rfl⟩;have J:=ag wr (.cells #[.string f.nm,.int .i64 f.kind] 96 (0,0));have a':=hM.out.below J;have D:=jD (ab hb J);have G:=mx (s:=f.nm) (by unfold maxLen;omega);obtain⟨r,hr,l'⟩:=a'.look dR underlying165 (x:=f.nm) G;have g':((x.fields.take k).map (fun f=>tx f.nm)).contains (tx f.nm)=r:=by
     have h1:=mJ (l:=(x.fields.take k).map (·.nm)) (s:=f.nm);rw[Nl]at h1;rw[LW];exact h1.trans hr.symm
    rw[g']at hD;have HD:=jD hD;obtain⟨w5,y',f',d'⟩:=a'.store dR underlying165 ph G (by unfold maxLen;omega);have n':=jD f';have s':=jD d';clear hf hD b' hr g' a' f' d' G J
    cases q1 with
    | false =>
     obtain rfl:8=R:=by have h:=HD.out;rw[K7 rfl]at h;exact h
     go_wp2_with (go_at_call 219;refine (gF _ _ I).mono ?_;rw[F.out];rintro e w' ⟨rfl,rfl⟩);go_ret;exact⟨rfl,D.out⟩
    | true =>
     have z:=HD.out;rw[K6 jS]at z
     cases r with
     | true =>
      obtain rfl:7=R:=by rw[K7 rfl]at z;exact z
      go_wp2_with (go_at_call 219;refine (gF _ _ I).mono ?_;rw[F.out];rintro e w' ⟨rfl,rfl⟩);go_ret;exact⟨rfl,D.out⟩
     | false =>
      rw[K6 jS]at z
      by_cases j':f.kind<0
      ·obtain rfl:1=R:=by rw[K7 (.inl j')]at z;exact z
       clear z;go_wp2_with (go_at_call 219;refine (gF _ _ I).mono ?_;rw[F.out];rintro e w' ⟨rfl,rfl⟩);go_ret;exact⟨rfl,D.out⟩
      by_cases z':3<=f.kind
      ·obtain rfl:1=R:=by rw[K7 (.inr om)]at z;exact z
       clear z;go_wp2_with (go_at_call 219;refine (gF _ _ I).mono ?_;rw[F.out];rintro e w' ⟨rfl,rfl⟩);go_ret;exact⟨rfl,D.out⟩
      have k':Hid (jW ((x.fields.take k).map (fun f=>tx f.nm)++[tx f.nm]) (x.fields.drop (k+1))=R):=jD (by rw[K6 om]at z;exact z);clear z;go_wp2_with (go_at_call 219;refine (gF _ _ I).mono ?_;rw[F.out];rintro e w' ⟨rfl,rfl⟩)
      any_goals (exfalso;omega)
      refine⟨⟨k+1,by omega,by go_num,jD (by rw[h'.out.2];exact n'.out),jD ⟨by rw[h'.out.1];exact k'.out,D.out.trans (am s'.out D.out.size (fun g e=>by injection e with e;omega))⟩⟩,by simp[intOf];omega⟩
   ·have p':¬(k:Int)<(x.fields.length:Int):=by omega
    obtain rfl:0=R:=by
     have h:=hI.out.1;rw[Lq om,jW]at h;exact h
    exact fi hb
theorem yH {seen:List (List UInt8)} {l:List Sch} {k:Nat} {x:Sch} (h:l[k]?=some x):kO seen (l.drop k)=if zb x≠0 then zb x else if seen.contains (tx x.nm) then 7 else kO (seen++[tx x.nm]) (l.drop (k+1)):=by
 obtain⟨z,rfl⟩:=List.getElem?_eq_some_iff.1 h;rw[Lr z,kO]
theorem kg (l:List Sch) (v:Value) (w:World) (hv:iZ w v l) (hs:∀x∈l,fM x):KZ 95 #[v] w (KW (fU l)):=by
 obtain⟨A,c,rfl,h1,h2,e'⟩:=hv;have x':=ax h1 h2;have k':=jD e';have HS:=jD hs;have C':=@run_makeMap prog;obtain⟨R,hR⟩:=jE (fU l);have HR:Hid ((if 16<l.length then 5 else kO [] l)=R):=jD hR;rw[hR];clear hR e' h1 h2 hs
 by_cases h8:16<l.length
 ·have s':(16:Int)<(l.length:Int):=by omega
  obtain rfl:5=R:=by have h:=HR.out;rw[K7 h8]at h;exact h
  clear h8;go_enter func95,ntmps95;go_wp2;go_ret;exact⟨rfl,La _ _⟩
 have s':¬(16:Int)<(l.length:Int):=by omega
 have u':Hid (kO [] l=R):=jD (by have h:=HR.out;rw[K6 h8]at h;exact h);have F':l.length<=16:=by omega
 clear HR h8;go_enter func95,ntmps95;go_wp2_with fail;refine aP fun w3 e3=>?_
 obtain⟨M,hM⟩:∃q,q=w.heap.size:=⟨_,rfl⟩;have n':Hid (HasM 9 sKv w3 M 0 []):=jD (by rw[e3,hM];exact gv _ _ w);have r':Hid (KY w w3):=jD (gb e3);have z':w.heap.size<=M:=by omega
 rw[<-hM];clear e3 hM
 go_loopw [13] (fun i wr=>∃k:Nat,k<=l.length/\i=KW k/\Hid (HasM 9 sKv wr M k ((l.take k).map (·.nm)))/\Hid (kO ((l.take k).map (fun f=>tx f.nm)) (l.drop k)=R/\KY w wr)) (fun i _=>l.length-(intOf i).toNat)
 case atStart=>exact⟨0,Lb _,rfl,n',jD ⟨u'.out,r'.out⟩⟩
 case round =>
  obtain⟨k,hk,rfl,hM,hI⟩:=hrel;have hb:=hI.out.2
  by_cases c':k<l.length
  ·have q':(k:Int)<(l.length:Int):=by omega
   obtain⟨b,o,rfl,vf,a',d0,d1⟩:=k'.out k l[k] (K9 c');have hg:=jD (K9 c');obtain⟨f,hf⟩:=jF (l[k]);rw[<-hf]at hg d0 a';have b':=HS.out f (Li hg.out);have y':=b'.1;have D':b<wr.heap.size:=Ll (K8 w ⟨b,_,none⟩ d0) hb.size;replace d0:=aa hb d0;replace d1:=aa hb d1;have G:=jD (fun (W:World) (hW:KY w W)=>Aj f vf W (a'.stays oG hW) b');obtain⟨Af,cf,rfl,-⟩:=a';have hD:=hI.out.1;rw[yH hg.out]at hD;obtain⟨se,i'⟩:∃q,zb f=q:=⟨_,rfl⟩;rw[i']at hD G;unfold Kc at G;have h':Hid ((l.take (k+1)).map (fun f=>tx f.nm)=(l.take k).map (fun f=>tx f.nm)++[tx f.nm]/\(l.take (k+1)).map (·.nm)=(l.take k).map (·.nm)++[f.nm]):=jD ⟨by rw[aX hg.out,LH];rfl,by rw[aX hg.out,LH];rfl⟩;have j':=jD hD;have HB:=jD hb;clear hf i' b' hD;go_wp2_with fail;refine aw fun w4 e4=>?_
   obtain⟨X,hX⟩:∃q,q=wr.heap.size:=⟨_,rfl⟩;have x0:KX w4 X 0 (.string f.nm):=by rw[e4,hX];show _=_;go_simp
   have O:KY wr w4:=gb e4;rw[<-hX];clear e4 hX;refine (G.out _ (ab HB.out O)).mono ?_;rintro e w6 ⟨rfl,Z⟩;have x0:=aa Z x0;have D:=ab O Z;have I:=jD (ab HB.out D);have J:=hM.out.below D;have E':=K8 w6 ⟨X,_,none⟩ x0;clear O Z D d0 d1
   by_cases hz:se=0
   case neg =>
    have A':(se != 0)=true:=jQ hz;obtain rfl:se=R:=by have h:=j'.out;rw[K7 hz]at h;exact h
    clear hz;exact fi I.out
   subst hz;have z:=j'.out;rw[K6 jS]at z;have F:=mx (s:=f.nm) (by unfold maxLen;omega);obtain⟨r,hr,m'⟩:=J.look dR underlying165 (x:=f.nm) F;have g':((l.take k).map (fun f=>tx f.nm)).contains (tx f.nm)=r:=by
    have h1:=mJ (l:=(l.take k).map (·.nm)) (s:=f.nm);rw[Nl]at h1;rw[LW];exact h1.trans hr.symm
   rw[g']at z;obtain⟨w5,B',f',d'⟩:=J.store dR underlying165 ph F (by unfold maxLen;omega);have p':=jD f';have t':=jD d';clear hr g' J f' d' F G
   cases r with
   | true =>
    obtain rfl:7=R:=by rw[K7 rfl]at z;exact z
    exact fi I.out
   | false =>
    have l':Hid (kO ((l.take k).map (fun f=>tx f.nm)++[tx f.nm]) (l.drop (k+1))=R):=jD (by rw[K6 jS]at z;exact z);clear z;go_wp2_with fail;refine⟨⟨k+1,by omega,by go_num,jD (by rw[h'.out.2];exact p'.out),jD ⟨by rw[h'.out.1];exact l'.out,I.out.trans (am t'.out I.out.size (fun g e=>by injection e with e;omega))⟩⟩,by simp[intOf];omega⟩
  ·have q':¬(k:Int)<(l.length:Int):=by omega
   obtain rfl:0=R:=by
    have h:=hI.out.1;rw[Lq om,kO]at h;exact h
   exact fi hb
end Go.Proofs.YtokconodddedhaaGreatDoor
