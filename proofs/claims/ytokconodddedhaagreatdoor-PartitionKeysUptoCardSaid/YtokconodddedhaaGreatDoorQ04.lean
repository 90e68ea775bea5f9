/- Part. -/
import Derived.Test.YtokconodddedhaaGreatDoorQ03
import Derived.Laws.StructEq
import Derived.Shelf.SlicesE.Kit
import Derived.Handy
import Derived.Maps.OwnSet
import Derived.DeepKeys4
import Derived.MapViews
set_option maxRecDepth 100000
set_option maxHeartbeats 16000000
set_option linter.unusedVariables false
set_option linter.unusedSimpArgs false
namespace Go.Proofs.YtokconodddedhaaGreatDoor
open Go.Proofs.Tryz Go.RowKit
def lU (w:World) (b p:Nat) (x:Vl):Prop :=
 w.cell? ⟨b,p,none⟩=some (KW x.kind)/\w.cell? ⟨b,p+1,none⟩=some (KW x.num)/\w.cell? ⟨b,p+2,none⟩=some (.string x.text)
theorem aC:gG lU:=fun _ _ _ _ _ hb ⟨h0,z,h⟩=>⟨aa hb h0,aa hb z,aa hb h⟩
abbrev aV (w:World) (v:Value) (l:List Vl):Prop:=Sl lU 3 w v l
def tP (w:World) (b p:Nat) (x:Evt):Prop:=∃v,aV w v x.vals /\
 w.cell? ⟨b,p,none⟩=some (KW x.src)/\w.cell? ⟨b,p+1,none⟩=some (KW x.sq)/\w.cell? ⟨b,p+2,none⟩=some (KW x.ty)/\w.cell? ⟨b,p+3,none⟩=some (KW x.tm)/\w.cell? ⟨b,p+4,none⟩=some v
theorem aK:gG tP:=fun _ _ _ _ _ hb ⟨v,z,h0,h,G,D,F⟩=>⟨v,z.stays aC hb,aa hb h0,aa hb h,aa hb G,aa hb D,aa hb F⟩
abbrev bm (w:World) (v:Value) (l:List Evt):Prop:=Sl tP 5 w v l
def nY (w:World) (b p:Nat) (x:List Evt):Prop:=∃v,bm w v x/\w.cell? ⟨b,p,none⟩=some v
theorem eT:gG nY:=fun _ _ _ _ _ hb ⟨v,h,h0⟩=>⟨v,h.stays aK hb,aa hb h0⟩
abbrev gH (w:World) (v:Value) (l:List (List Evt)):Prop:=Sl nY 1 w v l
def cJ (x:Evt) (v:Value):Value:=.agg #[KW x.src,KW x.sq,KW x.ty,KW x.tm,v]
def kZ (x:Bnd):Value:=.agg #[KW x.t,KW x.s,KW x.n]
theorem nR (s q y t:Int) (A:Option Addr) (n c:Nat) (w:World):Calls prog 118 #[.agg #[KW s,KW q,KW y,KW t,.slice A n c]] w fun e w'=>e=.returned (.agg #[KW t,KW s,KW q])/\Gr w w':=by
 go_enter func118,ntmps118;go_wp2
 go_returns
 exact⟨rfl,jC⟩
theorem FP (s q y t:Int) (A:Option Addr) (n c:Nat) (w:World):Calls prog 28 #[.agg #[KW s,KW q,KW y,KW t,.slice A n c]] w fun e w'=>e=.returned (.agg #[KW t,KW s,KW q])/\Gr w w':=by
 go_enter func28,ntmps28;go_wp2
 go_returns
 exact⟨rfl,jC⟩
theorem lW (s q y t:Int) (A:Option Addr) (n c:Nat) (w:World):Calls prog 99 #[.agg #[KW s,KW q,KW y,KW t,.slice A n c]] w fun e w'=>e=.returned (.agg #[KW s,KW q])/\Gr w w':=by
 go_enter func99,ntmps99;go_wp2
 go_returns
 exact⟨rfl,jC⟩
def kS (a b:Bnd):Bool:=a.t==b.t&&(a.s==b.s&&a.n==b.n)
theorem lq {a b:Bnd}:bJ a b=0↔a.t=b.t/\a.s=b.s/\a.n=b.n:=by
 unfold bJ;rw[gJ,gJ,ii,ii,ii,and_assoc]
theorem kB {a b:Bnd}:kS a b=decide (bJ a b=0):=by
 rw[LW,Ly,lq];simp[kS]
theorem BD (a b:Bnd) (W:World):(binOp .eql 78 (kZ a) (kZ b)).run prog W=.ok (.bool (kS a b)) W:=by
 have G:=underlying3;have I:=Tryz.isAgg3;have J:=Tryz.sizeOf3;have h:prog.underlying 78=some (.struct (prog.fieldsOf 78)):=kr;have hp:prog.stoodInHeld 78=false:=kr;unfold kZ;rw[run_eql_struct,show (10000:Nat)=9999+1 from rfl,run_equalIn_agg W 9999 78 _ _ h hp];simp only[Program.fieldsOf,underlying78]
 go_simp
 by_cases z:a.t=b.t<;>by_cases F:a.s=b.s<;>by_cases D:a.n=b.n<;>simp[kS,z,F,D]
theorem C4 (a b:Evt) (A B:Option Addr) (n c m d:Nat) (w:World) :
  Calls prog 98 #[cJ a (.slice A n c),cJ b (.slice B m d)] w fun e w'=>e=.returned (KW (bJ (bK a) (bK b)))/\Gr w w':=by
 obtain⟨r,hr⟩:=jE (kS (bK a) (bK b));have he:∀W,(binOp .eql 78 (kZ (bK a)) (kZ (bK b))).run prog W=.ok (.bool r) W:=fun W=>by rw[BD,hr]
 unfold kZ bK at he;rw[kB]at hr
 cases r
 ·clear hr;unfold bJ bK;unfold cJ;go_enter func98,ntmps98;go_wp2_with fail
  refine aP fun G F=>?_;have h:Hid ((fun w'=>w'.cell? ⟨w.heap.size,0,none⟩=some (KW a.src)/\w'.cell? ⟨w.heap.size,1,none⟩=some (KW a.sq)/\w'.cell? ⟨w.heap.size,2,none⟩=some (KW a.ty)/\w'.cell? ⟨w.heap.size,3,none⟩=some (KW a.tm)/\w'.cell? ⟨w.heap.size,4,none⟩=some (.slice A n c)/\w'.cell? ⟨w.heap.size+1,0,none⟩=some (KW b.src)/\w'.cell? ⟨w.heap.size+1,1,none⟩=some (KW b.sq)/\w'.cell? ⟨w.heap.size+1,2,none⟩=some (KW b.ty)/\w'.cell? ⟨w.heap.size+1,3,none⟩=some (KW b.tm)/\w'.cell? ⟨w.heap.size+1,4,none⟩=some (.slice B m d)) G):=jD (by subst F;(first|exact⟨‹_›,‹_›⟩|(go_simp;done)|(simp[*];done)));have z:Hid (Grows (fun w'=>w'.cell? ⟨w.heap.size,0,none⟩=some (KW a.src)/\w'.cell? ⟨w.heap.size,1,none⟩=some (KW a.sq)/\w'.cell? ⟨w.heap.size,2,none⟩=some (KW a.ty)/\w'.cell? ⟨w.heap.size,3,none⟩=some (KW a.tm)/\w'.cell? ⟨w.heap.size,4,none⟩=some (.slice A n c)/\w'.cell? ⟨w.heap.size+1,0,none⟩=some (KW b.src)/\w'.cell? ⟨w.heap.size+1,1,none⟩=some (KW b.sq)/\w'.cell? ⟨w.heap.size+1,2,none⟩=some (KW b.ty)/\w'.cell? ⟨w.heap.size+1,3,none⟩=some (KW b.tm)/\w'.cell? ⟨w.heap.size+1,4,none⟩=some (.slice B m d))):=(by repeat (first|exact aG _ _ _|exact aH|refine aN ?_ ?_));have I:Gr w G:=(by subst F;exact jC);clear F;have D:=h.out;go_region_held3 (fun w'=>w'.cell? ⟨w.heap.size,0,none⟩=some (KW a.src)/\w'.cell? ⟨w.heap.size,1,none⟩=some (KW a.sq)/\w'.cell? ⟨w.heap.size,2,none⟩=some (KW a.ty)/\w'.cell? ⟨w.heap.size,3,none⟩=some (KW a.tm)/\w'.cell? ⟨w.heap.size,4,none⟩=some (.slice A n c)/\w'.cell? ⟨w.heap.size+1,0,none⟩=some (KW b.src)/\w'.cell? ⟨w.heap.size+1,1,none⟩=some (KW b.sq)/\w'.cell? ⟨w.heap.size+1,2,none⟩=some (KW b.ty)/\w'.cell? ⟨w.heap.size+1,3,none⟩=some (KW b.tm)/\w'.cell? ⟨w.heap.size+1,4,none⟩=some (.slice B m d)) (with_reducible exact z.out.to (Gr.below (by repeat (first|with_reducible exact Gr.refl _|assumption|with_reducible refine Gr.drew ?_|with_reducible refine Gr.alloc ?_ _|with_reducible refine Gr.trans ?_ (by assumption)))) h.out) ((go_at_call 118;refine (nR _ _ _ _ _ _ _ _).mono ?_;rintro e J ⟨rfl,O⟩))
  all_goals
   rename_i hK
   clear he;go_wp2_with fail;have Z:Gr w J:=jC;clear h z D I;obtain⟨f0,f1,f2,f3,f4,f5,f6,f7,f8,f9⟩:=hK;have a':=Gr.refl J
   have h:Hid ((fun w'=>w'.cell? ⟨w.heap.size,0,none⟩=some (KW a.src)/\w'.cell? ⟨w.heap.size,1,none⟩=some (KW a.sq)/\w'.cell? ⟨w.heap.size,2,none⟩=some (KW a.ty)/\w'.cell? ⟨w.heap.size,3,none⟩=some (KW a.tm)/\w'.cell? ⟨w.heap.size,4,none⟩=some (.slice A n c)/\w'.cell? ⟨w.heap.size+1,0,none⟩=some (KW b.src)/\w'.cell? ⟨w.heap.size+1,1,none⟩=some (KW b.sq)/\w'.cell? ⟨w.heap.size+1,2,none⟩=some (KW b.ty)/\w'.cell? ⟨w.heap.size+1,3,none⟩=some (KW b.tm)/\w'.cell? ⟨w.heap.size+1,4,none⟩=some (.slice B m d)) J):=jD (by (first|exact⟨‹_›,‹_›⟩|(go_simp;done)|(simp[*];done)));have z:Hid (Grows (fun w'=>w'.cell? ⟨w.heap.size,0,none⟩=some (KW a.src)/\w'.cell? ⟨w.heap.size,1,none⟩=some (KW a.sq)/\w'.cell? ⟨w.heap.size,2,none⟩=some (KW a.ty)/\w'.cell? ⟨w.heap.size,3,none⟩=some (KW a.tm)/\w'.cell? ⟨w.heap.size,4,none⟩=some (.slice A n c)/\w'.cell? ⟨w.heap.size+1,0,none⟩=some (KW b.src)/\w'.cell? ⟨w.heap.size+1,1,none⟩=some (KW b.sq)/\w'.cell? ⟨w.heap.size+1,2,none⟩=some (KW b.ty)/\w'.cell? ⟨w.heap.size+1,3,none⟩=some (KW b.tm)/\w'.cell? ⟨w.heap.size+1,4,none⟩=some (.slice B m d))):=(by repeat (first|exact aG _ _ _|exact aH|refine aN ?_ ?_));have D:=h.out;go_region_held3 (fun w'=>w'.cell? ⟨w.heap.size,0,none⟩=some (KW a.src)/\w'.cell? ⟨w.heap.size,1,none⟩=some (KW a.sq)/\w'.cell? ⟨w.heap.size,2,none⟩=some (KW a.ty)/\w'.cell? ⟨w.heap.size,3,none⟩=some (KW a.tm)/\w'.cell? ⟨w.heap.size,4,none⟩=some (.slice A n c)/\w'.cell? ⟨w.heap.size+1,0,none⟩=some (KW b.src)/\w'.cell? ⟨w.heap.size+1,1,none⟩=some (KW b.sq)/\w'.cell? ⟨w.heap.size+1,2,none⟩=some (KW b.ty)/\w'.cell? ⟨w.heap.size+1,3,none⟩=some (KW b.tm)/\w'.cell? ⟨w.heap.size+1,4,none⟩=some (.slice B m d)) (with_reducible exact z.out.to (Gr.below (by repeat (first|with_reducible exact Gr.refl _|assumption|with_reducible refine Gr.drew ?_|with_reducible refine Gr.alloc ?_ _|with_reducible refine Gr.trans ?_ (by assumption)))) h.out) (first|(go_at_call 84;refine (eS _ _ _).mono ?_;rintro e w' ⟨rfl,rfl⟩)|(go_at_call 82;refine (rD _ (bL a.tm b.tm) (bL a.src b.src) (bL a.sq b.sq) _ ?_ ?_ ?_).mono ?_;(go_simp);(go_simp);(go_simp);rintro e w' ⟨rfl,rfl⟩))
   all_goals
    go_wp2;go_ret;exact⟨rfl,Z.trans jC⟩
 ·have h0:bJ (bK a) (bK b)=0:=jQ hr;rw[h0];clear hr h0;unfold cJ;go_enter func98,ntmps98;go_wp2_with fail
  refine aP fun G F=>?_;have h:Hid ((fun w'=>w'.cell? ⟨w.heap.size,0,none⟩=some (KW a.src)/\w'.cell? ⟨w.heap.size,1,none⟩=some (KW a.sq)/\w'.cell? ⟨w.heap.size,2,none⟩=some (KW a.ty)/\w'.cell? ⟨w.heap.size,3,none⟩=some (KW a.tm)/\w'.cell? ⟨w.heap.size,4,none⟩=some (.slice A n c)/\w'.cell? ⟨w.heap.size+1,0,none⟩=some (KW b.src)/\w'.cell? ⟨w.heap.size+1,1,none⟩=some (KW b.sq)/\w'.cell? ⟨w.heap.size+1,2,none⟩=some (KW b.ty)/\w'.cell? ⟨w.heap.size+1,3,none⟩=some (KW b.tm)/\w'.cell? ⟨w.heap.size+1,4,none⟩=some (.slice B m d)) G):=jD (by subst F;(first|exact⟨‹_›,‹_›⟩|(go_simp;done)|(simp[*];done)));have z:Hid (Grows (fun w'=>w'.cell? ⟨w.heap.size,0,none⟩=some (KW a.src)/\w'.cell? ⟨w.heap.size,1,none⟩=some (KW a.sq)/\w'.cell? ⟨w.heap.size,2,none⟩=some (KW a.ty)/\w'.cell? ⟨w.heap.size,3,none⟩=some (KW a.tm)/\w'.cell? ⟨w.heap.size,4,none⟩=some (.slice A n c)/\w'.cell? ⟨w.heap.size+1,0,none⟩=some (KW b.src)/\w'.cell? ⟨w.heap.size+1,1,none⟩=some (KW b.sq)/\w'.cell? ⟨w.heap.size+1,2,none⟩=some (KW b.ty)/\w'.cell? ⟨w.heap.size+1,3,none⟩=some (KW b.tm)/\w'.cell? ⟨w.heap.size+1,4,none⟩=some (.slice B m d))):=(by repeat (first|exact aG _ _ _|exact aH|refine aN ?_ ?_));have I:Gr w G:=(by subst F;exact jC);clear F;have D:=h.out;go_region_held3 (fun w'=>w'.cell? ⟨w.heap.size,0,none⟩=some (KW a.src)/\w'.cell? ⟨w.heap.size,1,none⟩=some (KW a.sq)/\w'.cell? ⟨w.heap.size,2,none⟩=some (KW a.ty)/\w'.cell? ⟨w.heap.size,3,none⟩=some (KW a.tm)/\w'.cell? ⟨w.heap.size,4,none⟩=some (.slice A n c)/\w'.cell? ⟨w.heap.size+1,0,none⟩=some (KW b.src)/\w'.cell? ⟨w.heap.size+1,1,none⟩=some (KW b.sq)/\w'.cell? ⟨w.heap.size+1,2,none⟩=some (KW b.ty)/\w'.cell? ⟨w.heap.size+1,3,none⟩=some (KW b.tm)/\w'.cell? ⟨w.heap.size+1,4,none⟩=some (.slice B m d)) (with_reducible exact z.out.to (Gr.below (by repeat (first|with_reducible exact Gr.refl _|assumption|with_reducible refine Gr.drew ?_|with_reducible refine Gr.alloc ?_ _|with_reducible refine Gr.trans ?_ (by assumption)))) h.out) ((go_at_call 118;refine (nR _ _ _ _ _ _ _ _).mono ?_;rintro e J ⟨rfl,O⟩))
  all_goals
   clear he;go_wp2;go_ret;exact⟨rfl,jC⟩
theorem uA (x:Evt) (A:Option Addr) (n c:Nat) (w:World) (u:Value) (hu:u=.slice A n c):Calls prog 97 #[cJ x u] w fun e w'=>e=.returned (.bool (bV x))/\Gr w w':=by
 subst hu;unfold cJ bV;obtain⟨s,q,y,t,vs⟩:=x;simp only
 by_cases D:0<=t
 ·by_cases I:t<=1099511627776
  ·by_cases z:0<=s
   ·by_cases G:s<8
    ·by_cases h:0<=q
     ·by_cases F:q<=1099511627776 <;>
      ·go_enter func97,ntmps97;go_wp2;go_ret;exact⟨by simp[*],jC⟩
     ·go_enter func97,ntmps97;go_wp2;go_ret;exact⟨by simp[*]<;>omega,jC⟩
    ·go_enter func97,ntmps97;go_wp2;go_ret;exact⟨by simp[*]<;>omega,jC⟩
   ·go_enter func97,ntmps97;go_wp2;go_ret;exact⟨by simp[*]<;>omega,jC⟩
  ·go_enter func97,ntmps97;go_wp2;go_ret;exact⟨by simp[*]<;>omega,jC⟩
 ·go_enter func97,ntmps97;go_wp2;go_ret;exact⟨by simp[*]<;>omega,jC⟩
theorem uE (x:Evt) (A:Option Addr) (n c:Nat) (w:World) (u:Value) (hu:u=.slice A n c):Calls prog 91 #[cJ x u] w fun e w'=>e=.returned (.bool (bV x))/\Gr w w':=by
 subst hu;unfold cJ bV;obtain⟨s,q,y,t,vs⟩:=x;simp only
 by_cases D:0<=t
 ·by_cases I:t<=1099511627776
  ·by_cases z:0<=s
   ·by_cases G:s<8
    ·by_cases h:0<=q
     ·by_cases F:q<=1099511627776 <;>
      ·go_enter func91,ntmps91;go_wp2;go_ret;exact⟨by simp[*],jC⟩
     ·go_enter func91,ntmps91;go_wp2;go_ret;exact⟨by simp[*]<;>omega,jC⟩
    ·go_enter func91,ntmps91;go_wp2;go_ret;exact⟨by simp[*]<;>omega,jC⟩
   ·go_enter func91,ntmps91;go_wp2;go_ret;exact⟨by simp[*]<;>omega,jC⟩
  ·go_enter func91,ntmps91;go_wp2;go_ret;exact⟨by simp[*]<;>omega,jC⟩
 ·go_enter func91,ntmps91;go_wp2;go_ret;exact⟨by simp[*]<;>omega,jC⟩
theorem sr (a:Evt) (b:Bnd) (A:Option Addr) (n c:Nat) (w:World) :
  Calls prog 243 #[cJ a (.slice A n c),kZ b] w fun e w'=>e=.returned (KW (bJ (bK a) b))/\Gr w w':=by
 unfold bJ bK cJ kZ;go_enter func243,ntmps243;go_wp2_with fail
 refine aP fun F D=>?_;have h:Hid ((fun w'=>w'.cell? ⟨w.heap.size,0,none⟩=some (KW a.src)/\w'.cell? ⟨w.heap.size,1,none⟩=some (KW a.sq)/\w'.cell? ⟨w.heap.size,3,none⟩=some (KW a.tm)/\w'.cell? ⟨w.heap.size+1,0,none⟩=some (KW b.t)/\w'.cell? ⟨w.heap.size+1,1,none⟩=some (KW b.s)/\w'.cell? ⟨w.heap.size+1,2,none⟩=some (KW b.n)) F):=jD (by subst D;(first|exact⟨‹_›,‹_›⟩|(go_simp;done)|(simp[*];done)));have z:Hid (Grows (fun w'=>w'.cell? ⟨w.heap.size,0,none⟩=some (KW a.src)/\w'.cell? ⟨w.heap.size,1,none⟩=some (KW a.sq)/\w'.cell? ⟨w.heap.size,3,none⟩=some (KW a.tm)/\w'.cell? ⟨w.heap.size+1,0,none⟩=some (KW b.t)/\w'.cell? ⟨w.heap.size+1,1,none⟩=some (KW b.s)/\w'.cell? ⟨w.heap.size+1,2,none⟩=some (KW b.n))):=(by repeat (first|exact aG _ _ _|exact aH|refine aN ?_ ?_));have I:Gr w F:=(by subst D;exact jC);clear D;have G:=h.out;go_region_held3 (fun w'=>w'.cell? ⟨w.heap.size,0,none⟩=some (KW a.src)/\w'.cell? ⟨w.heap.size,1,none⟩=some (KW a.sq)/\w'.cell? ⟨w.heap.size,3,none⟩=some (KW a.tm)/\w'.cell? ⟨w.heap.size+1,0,none⟩=some (KW b.t)/\w'.cell? ⟨w.heap.size+1,1,none⟩=some (KW b.s)/\w'.cell? ⟨w.heap.size+1,2,none⟩=some (KW b.n)) (with_reducible exact z.out.to (Gr.below (by repeat (first|with_reducible exact Gr.refl _|assumption|with_reducible refine Gr.drew ?_|with_reducible refine Gr.alloc ?_ _|with_reducible refine Gr.trans ?_ (by assumption)))) h.out) (first|(go_at_call 84;refine (eS _ _ _).mono ?_;rintro e w' ⟨rfl,rfl⟩)|(go_at_call 82;refine (rD _ (bL a.tm b.t) (bL a.src b.s) (bL a.sq b.n) _ ?_ ?_ ?_).mono ?_;(go_simp);(go_simp);(go_simp);rintro e w' ⟨rfl,rfl⟩))
 all_goals
  go_wp2;go_ret;exact⟨rfl,jC⟩
def rH (l:List Evt) (r:Bnd):Option Evt:=l.find? fun e=>decide (bJ (bK e) r=0)
def ml (l:List Evt) (n:Int) (b:Bnd):Int:=if n<=b.v then 10 else if (rH l b).isNone=true then 6 else 0
def ge (l:List Evt) (n:Int) (bs:List Bnd):Int :=
 if bC l≠0 then bC l else if inI n 16=false then 2 else if iV bs≠0 then iV bs else dB (fun _ b=>ml l n b) none bs
def mg (l:List Evt) (vs:List (List Evt)) (b:Bnd):List (List Evt):=match rH l b with
 | some e=>vs.set b.v.toNat (vs.getD b.v.toNat []++[e])
 | none=>vs
def mO (l:List Evt) (n:Nat) (bs:List Bnd):List (List Evt):=bs.foldl (mg l) (List.replicate n [])
def lQ (l:List Evt) (n:Int) (bs:List Bnd):List (List Evt) × Int:=if ge l n bs=0 then (mO l n.toNat bs,0) else ([],ge l n bs)
theorem B7 {l:List Evt} {n:Nat} {bs:List Bnd} {k:Nat} {b:Bnd} (h:bs[k]?=some b):mO l n (bs.take (k+1))=mg l (mO l n (bs.take k)) b:=by
 obtain⟨hk,rfl⟩:=List.getElem?_eq_some_iff.1 h;unfold mO;rw[List.take_succ_eq_append_getElem hk,Nq];rfl
theorem D2 (l:List Evt) (vs:List (List Evt)) (b:Bnd):(mg l vs b).length=vs.length:=by
 unfold mg;split<;>simp
theorem xS (l:List Evt) (n:Nat) (bs:List Bnd):(mO l n bs).length=n:=by
 unfold mO;have:∀(bs:List Bnd) (vs:List (List Evt)),(bs.foldl (mg l) vs).length=vs.length:=fun bs=>by
  induction bs with
  | nil=>intro vs;rfl
  | cons b bs h=>intro vs;rw[Ms,h,D2]
 rw[this];simp
theorem sV (l:List Evt):∀(bs:List Bnd) (vs:List (List Evt)) (m:Nat),(∀x∈vs,x.length<=m)->∀x∈bs.foldl (mg l) vs,x.length<=m+bs.length
 | [],vs,m,h,x,hx=>by simpa using h x hx
 | b::bs,vs,m,h,x,hx=>by
  have:=sV l bs (mg l vs b) (m+1) (fun y hy=>by
   unfold mg at hy
   split at hy
   ·rcases List.mem_or_eq_of_mem_set hy with D|D
    ·have:=h y D;omega
    ·subst D;rw[Le];have:(vs.getD b.v.toNat []).length<=m:=by
      rw[ME]
      cases F:vs[b.v.toNat]? with
      | none=>simp
      | some z=>exact h z (Li F)
     rw[Lo];omega
   ·have:=h y hy;omega) x hx
  rw[Lt];omega
theorem xm {l:List Evt} {n:Nat} {bs:List Bnd}:∀x∈mO l n bs,x.length<=bs.length:=fun x h=>by
 have:=sV l bs (List.replicate n []) 0 (fun y hy=>by rw[(List.mem_replicate.1 hy).2];simp) x h;omega
theorem FY {l:List Evt} {r:Bnd} (z:l.Pairwise fun a b=>bJ (bK a) (bK b)<0) {e:Evt} (he:l[mr l r]?=some e) (h:kS (bK e) r=true):rH l r=some e:=by
 unfold rH;rw[vG z,he];rw[kB,Ly]at h;simp[Option.filter,h]
theorem F8 {l:List Evt} {r:Bnd} (z:l.Pairwise fun a b=>bJ (bK a) (bK b)<0) (h:∀e,l[mr l r]?=some e->kS (bK e) r=false):rH l r=none:=by
 unfold rH;rw[vG z]
 cases he:l[mr l r]? with
 | none=>rfl
 | some e =>
  have:=h e he;rw[kB,LG]at this;simp[Option.filter,this]
theorem xQ:∀(l:List Bnd) (p:Option Bnd),dB pd p l=0->∀b∈l,eV b=true
 | [],_,_,b,hb=>by simp at hb
 | x::l,p,h,b,hb=>by
  simp only[dB]at h
  split at h
  ·next e =>
   rcases List.mem_cons.1 hb with rfl|hb
   ·unfold pd at e
    cases z:eV b with
    | true=>rfl
    | false=>rw[K7 z]at e;exact absurd e dc
   ·exact xQ l _ h b hb
  ·next e=>exact absurd h e
theorem JR {l:List Bnd} (h:iV l=0):l≠[]/\l.length<=4096/\∀b∈l,eV b=true:=by
 unfold iV at h
 split at h
 ·exact absurd h dc
 ·next h0 =>
  split at h
  ·exact absurd h dc
  ·exact⟨fun e=>h0 (by rw[e];rfl),by omega,xQ l none h⟩
theorem Ib {b:Bnd} (h:eV b=true):0<=b.v/\b.v<16:=by
 unfold eV inI at h;simp only[Lp,Ly]at h;omega
theorem jJ {l:List Evt} {n:Int} {bs:List Bnd} {e:Int} (h:ge l n bs=e) (h0:e≠0):lQ l n bs=([],e):=by unfold lQ;rw[h,K6 h0]
theorem Ji {l:List Evt} {n:Int} {bs:List Bnd} (h:ge l n bs=0):lQ l n bs=(mO l n.toNat bs,0):=by unfold lQ;rw[K7 h]
theorem zw {l:List Evt} {n:Int} {bs:List Bnd} {e:Int} (h:bC l=e) (h0:e≠0):ge l n bs=e:=by unfold ge;rw[h,K7 h0]
theorem C1 {l:List Evt} {n:Int} {bs:List Bnd} (h:bC l=0) (z:inI n 16=false):ge l n bs=2:=by unfold ge;rw[h,K6 jS,K7 z]
theorem zU {l:List Evt} {n:Int} {bs:List Bnd} {e:Int} (h:bC l=0) (D:¬inI n 16=false) (z:iV bs=e) (h0:e≠0):ge l n bs=e:=by unfold ge;rw[h,K6 jS,K6 D,z,K7 h0]
theorem jt {l:List Evt} {n:Int} {bs:List Bnd} (h:bC l=0) (D:¬inI n 16=false) (z:iV bs=0):ge l n bs=dB (fun _ b=>ml l n b) none bs:=by unfold ge;rw[h,K6 jS,K6 D,z,K6 jS]
theorem GM {l:List Evt} {n:Int} {b:Bnd} (h:n<=b.v):ml l n b=10:=K7 h
theorem Hb {l:List Evt} {n:Int} {b:Bnd} (h:¬n<=b.v) (z:rH l b=none):ml l n b=6:=by unfold ml;rw[K6 h,z];rfl
theorem IW {l:List Evt} {n:Int} {b:Bnd} {e:Evt} (h:¬n<=b.v) (z:rH l b=some e):ml l n b=0:=by unfold ml;rw[K6 h,z];rfl
theorem I4:laidOutB prog=true:=kr
theorem AW:(match prog.underlying 170 with|some (.array _ _)|some (.struct _)=>true|_=>false)=true:=kr
theorem Kf:(170:TypeId)<prog.types.size:=MA kr
theorem KO:prog.keyTypeAt 2 170=true:=kr
theorem uB:Maps.Keyed prog 170:=Maps.Keyed.of_law (deep_law_laid I4 (m:=2) om Kf KO AW)
theorem Ie:prog.keyTypeAt (prog.types.size+1) 170=true:=kr
theorem vP:prog.cellsOf 170=2:=kr
theorem Iu:prog.cellsOf 3=1:=kr
def idV (s q:Int):Value:=.agg #[KW s,KW q]
theorem EL (w:World) {s q:Int} (z:(Lit.int .i64 s).wf=true) (D:(Lit.int .i64 q).wf=true):∃l,keyOf prog 170 (idV s q)=some l :=
 ⟨_,(keyOf_asKey (H:=Unit) (enc:=fun _=>()) (w:=w) (base:=0) (sp:=fun _=>true) (held:=true) (d:=.agg [.lit (.int .i64 s),.lit (.int .i64 q)]) (ps:=[]) Ie AW (by have h:=vP;simp[idV,Value.formed,underlying170];exact h.symm)
  ⟨3,by have h:=vP;simp[idV,DataW.trod,Value.cells,underlying170,underlying3,Iu,z,D];exact h.symm⟩).1⟩
def BK:Value->Option (DataW Unit × List MemPlace)
 | .bool true=>some (.lit (.bool true),[])
 | _=>none
theorem vY {v:Value} {y:DataW Unit × List MemPlace} (h:BK v=some y):v=.bool true:=by
 unfold BK at h
 split at h
 ·rfl
 ·cases h
def Seen (w:World) (b n:Nat) (pre:List Evt):Prop:=∃D,w.ownsMap prog 170 BK b n D /\
 ∀(x:Evt) l,keyOf prog 170 (idV x.src x.sq)=some l->Maps.has D l=pre.any (dA x)
theorem Seen.kept {w w':World} {b n:Nat} {pre:List Evt} (h:Seen w b n pre) {row:Option Nat} (F:w.grownBy w' row) (z:some b≠row):Seen w' b n pre:=by
 obtain⟨D,G,I⟩:=h;exact⟨D,G.kept F z,I⟩
theorem Seen.lt {w:World} {b n:Nat} {pre:List Evt} (h:Seen w b n pre):b<w.heap.size:=by
 obtain⟨D,z,_⟩:=h;exact z.lt
theorem Seen.below {w w':World} {b n:Nat} {pre:List Evt} (h:Seen w b n pre) (z:KY w w'):Seen w' b n pre :=
 h.kept (bx z none) jS
theorem C3 (w:World):Seen (w.alloc (.map #[] 0)) w.heap.size 0 [] :=
 ⟨_,World.ownsMap_made w _ _ _,fun _ _ _=>rfl⟩
theorem kt {x:Evt} (h:bV x=true):(Lit.int .i64 x.src).wf=true/\(Lit.int .i64 x.sq).wf=true:=by
 unfold bV at h;rw[Ly]at h;exact⟨WalkArith.wf_i64 om,WalkArith.wf_i64 om⟩
theorem Js (w:World):(zeroValue 4).run prog w=.ok (.bool false) w:=kr
theorem Seen.look {w:World} {b n:Nat} {pre:List Evt} (h:Seen w b n pre) {x:Evt} (J:bV x=true) :
  (Instr.lookup 167 (.map (some b)) (idV x.src x.sq) false).run prog w=.ok (.bool (pre.any (dA x))) w:=by
 obtain⟨D,⟨es,clock,Z,F,_,rfl⟩,h2⟩:=h;obtain⟨l,O⟩:=EL w (kt J).1 (kt J).2;have I:=h2 x l O;rcases Maps.fit_look false uB underlying167 (Js w) Z F O with ⟨z,_,G⟩|⟨e0,y,_,_,z,hRv,G,_⟩
 ·rw[Maps.has_false_of_atKey G]at I;rw[<-I];exact z
 ·rw[Maps.has_true_of_atKey G]at I;rw[<-I];have:=vY hRv;rw[this]at z;exact z
theorem Seen.store {w:World} {b n:Nat} {pre:List Evt} (h:Seen w b n pre) {x:Evt} (G:bV x=true) (Z:n<maxLen) :
  ∃w',(Instr.mapUpdate 167 (.map (some b)) (idV x.src x.sq) (.bool true)).run prog w=.ok () w'/\Seen w' b (n+1) (pre++[x])/\w.grownBy w' (some b):=by
 obtain⟨D,I,h2⟩:=h;obtain⟨l,F⟩:=EL w (kt G).1 (kt G).2;obtain⟨w',z,r1,r2⟩:=I.update uB underlying167 Z F (val:=.bool true) (d:=.lit (.bool true)) (ps:=[]) rfl;refine⟨w',z,⟨_,r1,fun y m hm=>?_⟩,r2⟩;have O:=h2 y m hm;rw[List.any_append,List.any_cons,List.any_nil,Bool.or_false,<-O]
 by_cases e:m=l
 ·subst e;have:=uB.inj hm F;unfold idV at this;simp only[Value.agg.injEq,Array.mk.injEq,LS,Value.int.injEq,true_and,LV]at this;rw[Maps.has_put_same I.isMap (uB.key hm)];simp[dA,this.1,this.2]
 ·rw[Maps.has_put_other e];have ht:dA y x=false:=by
   unfold dA;rw[LG];rintro⟨J,e2⟩;rw[J,e2]at hm;exact e (LK (hm.symm.trans F))
  rw[ht,Bool.or_false]
theorem dK (w:World) {ops:Array Oper} {rest:List Oper} {o:Oper} {a:Act} {Q:Exit->Act->World->Prop}
  (J:o.guard=none) (m x:Operand) (D:o.op=Op.lookup 167 m x false) (b n:Nat) (pre:List Evt) (y:Evt)
  (hm:a.eval m=.map (some b)) (z:Seen w b n pre) (I:a.eval x=idV y.src y.sq) (hy:bV y=true)
  (G:wpList prog ops Q rest (a.put o.dst (.bool (pre.any (dA y)))) w):wpList prog ops Q (o::rest) a w:=by
 refine wpList_plain J fun K' F=>?_
 have h:=z.look hy;unfold Oper.wp;simp[execOp,D,hm,I,h,Result.andThen];exact F _ _ G
theorem ib (w:World) {ops:Array Oper} {rest:List Oper} {o:Oper} {a:Act} {Q:Exit->Act->World->Prop}
  (O:o.guard=none) (m x v:Operand) (D:o.op=Op.mapUpdate 167 m x v) (b n:Nat) (pre:List Evt) (y:Evt)
  (hm:a.eval m=.map (some b)) (z:Seen w b n pre) (I:a.eval x=idV y.src y.sq) (hv:a.eval v=.bool true) (hy:bV y=true) (J:n<maxLen)
  (G:∀w',Seen w' b (n+1) (pre++[y])->w.grownBy w' (some b)->wpList prog ops Q rest (a.put o.dst undef) w'):wpList prog ops Q (o::rest) a w:=by
 refine wpList_plain O fun K' F=>?_
 obtain⟨w',h,r1,Z⟩:=z.store hy J;unfold Oper.wp;simp[execOp,D,hm,I,hv,h,Result.andThen];exact F _ _ (G w' r1 Z)
section
theorem lL {α:Type} {l:List α} {k:Nat} (hk:k<=l.length):(l.take k).getLast?=gi l k:=by
 cases k with
 | zero=>rfl
 | succ k =>
  have h:k<l.length:=by omega
  rw[aX (K9 h),List.getLast?_concat];exact (K9 h).symm
section
variable {l : List Evt} {k : Nat} {x : Evt} {E e : Int}
theorem gQ (D:l[k]?=some x) (h:cN (l.take k) (l.drop k)=E) (he:evE (l.take k) x=e) (h0:e≠0):e=E:=by
 obtain⟨z,rfl⟩:=List.getElem?_eq_some_iff.1 D;rw[Lr z,cN,K6 (by rw[he];exact h0),he]at h;exact h
theorem uD (D:l[k]?=some x) (h:cN (l.take k) (l.drop k)=E) (he:evE (l.take k) x=0):cN (l.take (k+1)) (l.drop (k+1))=E:=by
 have z:=D;obtain⟨F,rfl⟩:=List.getElem?_eq_some_iff.1 D;rw[Lr F,cN,K7 he]at h;rw[aX z];exact h
theorem Br (hk:l.length<=k) (h:cN (l.take k) (l.drop k)=E):0=E:=by
 rw[Nz hk,cN]at h;exact h
theorem Jp {pre:List Evt} (h:bV x=false):evE pre x=2:=K7 h
theorem Fy {p:Evt} (h:bV x=true) (hk:k<=l.length) (h0:k≠0) (hp:l[k-1]?=some p) (hr:0<=bJ (bK p) (bK x)):evE (l.take k) x=14:=by
 unfold evE;rw[K6 (by simp[h]),K7];unfold gY;rw[lL hk,kE h0 hp]
 simpa using hr
theorem vB {p:Evt} (hk:k<=l.length) (h0:k≠0) (hp:l[k-1]?=some p) (hr:bJ (bK p) (bK x)<0):gY (l.take k) x=false:=by
 unfold gY;rw[lL hk,kE h0 hp]
 simpa using hr
theorem qj (h0:k=0):gY (l.take k) x=false:=by subst h0;rfl
theorem Ey {pre:List Evt} (h:bV x=true) (D:gY pre x=false) (z:pre.any (dA x)=true):evE pre x=7:=by
 unfold evE;rw[K6 (by simp[h]),K6 (by simp[D]),K7 z]
theorem AJ {pre:List Evt} (h:bV x=true) (D:gY pre x=false) (z:pre.any (dA x)=false):evE pre x=0:=by
 unfold evE;rw[K6 (by simp[h]),K6 (by simp[D]),K6 (by simp[z])]
end
theorem gA (l:List Evt) (v:Value) (w:World) (hl:bm w v l) :
  KZ 48 #[v] w (KW (bC l)):=by
 unfold bC;obtain⟨A,c,rfl,h1,h2,y'⟩:=hl;have hn:=ax h1 h2;have HL:=jD y';clear y' h1 h2
 by_cases hm:4096<l.length
 ·rw[K7 hm];have J':(4096:Int)<(l.length:Int):=by omega
  go_enter func48,ntmps48;go_wp2;go_ret;exact⟨rfl,jB⟩
 rw[K6 hm];have J':¬(4096:Int)<(l.length:Int):=by omega
 have F':=@run_makeMap prog;have HM:=jD hm;clear hm;go_enter func48,ntmps48;go_wp2_with fail
 go_loopw [12] (fun i wr=>∃k:Nat,k<=l.length/\i=KW k/\Hid (cN (l.take k) (l.drop k)=cN [] l/\Seen wr w.heap.size k (l.take k))/\KY w wr/\w.heap.size<wr.heap.size) (fun i _=>l.length-(intOf i).toNat)
 case atStart=>exact⟨0,Lb _,rfl,jD ⟨rfl,C3 w⟩,jB,by simp⟩
 case round =>
  clear F';obtain⟨k,hk,rfl,hi,hb,M'⟩:=hrel
  by_cases x':k<l.length
  ·have D':(k:Int)<(l.length:Int):=by omega
   obtain⟨b,o,rfl,vv,E',c0,c1,c2,c3,c4⟩:=HL.out k l[k] (K9 x');replace c0:=aa hb c0;replace c1:=aa hb c1;replace c2:=aa hb c2;replace c3:=aa hb c3;replace c4:=aa hb c4;obtain⟨A1,cx,rfl,-⟩:=E';have A':b<wr.heap.size:=K8 wr ⟨b,_,none⟩ c0;have z':b≠wr.heap.size:=by omega
   have k':wr.heap.size≠b:=by omega
   have D:=jD (K9 x');obtain⟨x,hx⟩:=jF (l[k]);rw[<-hx]at D c0 c1 c2 c3 c4;clear hx;have J:∀W,Calls prog 97 #[.agg #[KW x.src,KW x.sq,KW x.ty,KW x.tm,.slice A1 x.vals.length cx]] W fun e w'=>e=.returned (.bool (bV x))/\Gr W w':=fun W=>uA x A1 _ cx W _ rfl
   by_cases hp:bV x=false
   ·have HP:=jD hp;rw[hp]at J;have J:=jD J;clear hp;go_wp2_with (go_at_call 97;refine (J.out _).mono ?_;rintro e w3 ⟨rfl,G'⟩);go_ret;exact⟨cd (gQ D.out hi.out.1 (Jp HP.out) dc),ab hb (ab (ag _ _) G'.below)⟩
   rw[M9]at hp;rw[hp]at J;have J:=jD J;have HP:=jD hp;clear hp
   by_cases d':k=0
   ·have j':Hid (gY (l.take k) x=false):=jD (qj d');have d1:decide (0<k)=false:=by simp[d']
    have d2:decide ((0:Int)<(k:Int))=false:=by simp[d']
    clear d';go_wp2_with fail;refine aw fun W9 Z=>?_
    have y0:KX W9 wr.heap.size 0 (KW x.src):=jG Z;have y1:KX W9 wr.heap.size 1 (KW x.sq):=jG Z;have y2:KX W9 wr.heap.size 2 (KW x.ty):=jG Z;have y3:KX W9 wr.heap.size 3 (KW x.tm):=jG Z;have y4:KX W9 wr.heap.size 4 (.slice A1 x.vals.length cx):=jG Z;have g':KY wr W9:=gb Z;have f':wr.heap.size<W9.heap.size:=by rw[Z];simp
    clear Z;refine (J.out _).mono ?_;rintro e w4 ⟨rfl,z⟩;replace z:=z.below;have a':=ab g' z;have l':wr.heap.size<w4.heap.size:=Ll f' z.size;replace y0:=aa z y0;replace y1:=aa z y1;replace y2:=aa z y2;replace y3:=aa z y3;replace y4:=aa z y4;have u':=jD (hi.out.2.below a');have O:=jD (ab hb a');clear g' f' z a' c0 c1 c2 c3 c4 z' k' A';go_wp2_with fail
    refine bF (fun W=>W.cell? ⟨wr.heap.size,0,none⟩=some (KW x.src)/\W.cell? ⟨wr.heap.size,1,none⟩=some (KW x.sq)/\W.cell? ⟨wr.heap.size,2,none⟩=some (KW x.ty)/\W.cell? ⟨wr.heap.size,3,none⟩=some (KW x.tm)/\W.cell? ⟨wr.heap.size,4,none⟩=some (.slice A1 x.vals.length cx)) (by repeat (first|exact aG _ _ _|exact aH|refine aN ?_ ?_)) kr kr ?hF ?_;(case hF=>(first|exact⟨‹_›,‹_›⟩|(go_simp;done)|(simp[*];done)|(repeat' (first|(refine And.intro ?_ ?_)|(go_simp;done)|exact aa (aJ (La _ _) _) (by assumption)|assumption))));intro p' n';have hG:Hid (Grows (fun W=>W.cell? ⟨wr.heap.size,0,none⟩=some (KW x.src)/\W.cell? ⟨wr.heap.size,1,none⟩=some (KW x.sq)/\W.cell? ⟨wr.heap.size,2,none⟩=some (KW x.ty)/\W.cell? ⟨wr.heap.size,3,none⟩=some (KW x.tm)/\W.cell? ⟨wr.heap.size,4,none⟩=some (.slice A1 x.vals.length cx))):=(by repeat (first|exact aG _ _ _|exact aH|refine aN ?_ ?_));(repeat (go_big_quiet_step (fail)));clear hG n' p';refine wpQuiet_nil ?_;rintro wq ⟨⟨w',I,q'⟩,rfl⟩;obtain⟨z0,z1,z2,z3,z4⟩:=q';have b':=jD (u'.out.below I);have h':=jD (ab O.out I);have m':wr.heap.size<wq.heap.size:=Ll l' I.size;clear I y0 y1 y2 y3 y4
    by_cases G:(l.take k).any (dA x)=true
    ·have F:=jD G;clear G;go_wp2_with (first|(go_at_call 99;refine (lW _ _ _ _ _ _ _ _).mono ?_;rintro e w6 ⟨rfl,h⟩)|(at_lookup;refine dK _ rfl _ _ rfl w.heap.size k (l.take k) x rfl (b'.out.below h.below) rfl HP.out ?_;rw[F.out]));go_ret;exact⟨cd (gQ D.out hi.out.1 (Ey HP.out j'.out F.out) dc),ab h'.out h.below⟩
    ·rw[Bool.not_eq_true]at G;have F:=jD G;clear G;go_wp2_with (first|(go_at_call 99;refine (lW _ _ _ _ _ _ _ _).mono ?_;rintro e w6 ⟨rfl,h⟩)|(at_lookup;refine dK _ rfl _ _ rfl w.heap.size k (l.take k) x rfl (b'.out.below h.below) rfl HP.out ?_;rw[F.out];have s':=jD (b'.out.below h.below);have e':=jD (ab h'.out h.below);replace z0:=aa h.below z0;replace z1:=aa h.below z1;replace z2:=aa h.below z2;replace z3:=aa h.below z3;replace z4:=aa h.below z4;have C':=Ll m' h.below.size;clear h)|(at_mapUpdate;refine ib _ rfl _ _ _ rfl w.heap.size k (l.take k) x rfl (s'.out.below h.below) rfl rfl HP.out (by unfold maxLen;omega) ?_;intro w7 r' i'))
     go_roundw
     case rel =>
      refine⟨k+1,by omega,by go_num,jD ⟨uD D.out hi.out.1 (AJ HP.out j'.out F.out),by rw[aX D.out];exact r'⟩,?_,?_⟩
      ·exact (ab e'.out h.below).trans (am i' (ab e'.out h.below).size (fun g hg=>by injection hg with hg;omega))
      ·have:=i'.size;have:=h.below.size;omega
     case measure=>simp[intOf];omega
   ·have N':(0:Int)<=(k:Int)-1:=by omega
    have L':(k:Int)-1<(l.length:Int):=by omega
    have d1:decide (0<k)=true:=by simp;omega
    have d2:decide ((0:Int)<(k:Int))=true:=by simp;omega
    have HK:=jD d';clear d';obtain⟨_,_,B',vp,I',p0,p1,p2,p3,p4⟩:=HL.out (k-1) l[k-1] (K9 om);simp only[Nn,Addr.mk.injEq,LV]at B';obtain⟨rfl,rfl⟩:=B';obtain⟨A2,cp,rfl,-⟩:=I';have c':=jD (K9 (l:=l) (i:=k-1) om);obtain⟨p,hp⟩:=jF (l[k-1]);rw[<-hp]at p0 p1 p2 p3 p4 c';clear hp;obtain⟨r,hr⟩:=jE (bJ (bK p) (bK x));have HR:=jD hr;have H':Hid (∀W,KZ 98 #[.agg #[KW p.src,KW p.sq,KW p.ty,KW p.tm,.slice A2 p.vals.length cp],.agg #[KW x.src,KW x.sq,KW x.ty,KW x.tm,.slice A1 x.vals.length cx]] W (KW r)):=jD fun W=>(C4 p x A2 A1 _ cp _ cx W).mono (fun e w' ⟨h1,h2⟩=>⟨h1.trans (by rw[hr]),h2.below⟩)
    clear hr;go_wp2_with fail;refine aw fun W9 Z=>?_
    have y0:KX W9 wr.heap.size 0 (KW x.src):=jG Z;have y1:KX W9 wr.heap.size 1 (KW x.sq):=jG Z;have y2:KX W9 wr.heap.size 2 (KW x.ty):=jG Z;have y3:KX W9 wr.heap.size 3 (KW x.tm):=jG Z;have y4:KX W9 wr.heap.size 4 (.slice A1 x.vals.length cx):=jG Z;have g':KY wr W9:=gb Z;have f':wr.heap.size<W9.heap.size:=by rw[Z];simp
    clear Z;refine (J.out _).mono ?_;rintro e w4 ⟨rfl,z⟩;replace z:=z.below;have a':=ab g' z;have l':wr.heap.size<w4.heap.size:=Ll f' z.size;replace y0:=aa z y0;replace y1:=aa z y1;replace y2:=aa z y2;replace y3:=aa z y3;replace y4:=aa z y4;have u':=jD (hi.out.2.below a');have O:=jD (ab hb a');clear g' f' z a' c0 c1 c2 c3 c4 z' k' A';replace p0:=aa O.out p0;replace p1:=aa O.out p1;replace p2:=aa O.out p2;replace p3:=aa O.out p3;replace p4:=aa O.out p4;go_wp2_with fail
    refine bF (fun W=>W.cell? ⟨wr.heap.size,0,none⟩=some (KW x.src)/\W.cell? ⟨wr.heap.size,1,none⟩=some (KW x.sq)/\W.cell? ⟨wr.heap.size,2,none⟩=some (KW x.ty)/\W.cell? ⟨wr.heap.size,3,none⟩=some (KW x.tm)/\W.cell? ⟨wr.heap.size,4,none⟩=some (.slice A1 x.vals.length cx)/\W.cell? ⟨b,o+(k-1)*5,none⟩=some (KW p.src)/\W.cell? ⟨b,o+(k-1)*5+1,none⟩=some (KW p.sq)/\W.cell? ⟨b,o+(k-1)*5+2,none⟩=some (KW p.ty)/\W.cell? ⟨b,o+(k-1)*5+3,none⟩=some (KW p.tm)/\W.cell? ⟨b,o+(k-1)*5+4,none⟩=some (.slice A2 p.vals.length cp)) (by repeat (first|exact aG _ _ _|exact aH|refine aN ?_ ?_)) kr kr ?hF ?_;(case hF=>(first|exact⟨‹_›,‹_›⟩|(go_simp;done)|(simp[*];done)|(repeat' (first|(refine And.intro ?_ ?_)|(go_simp;done)|exact aa (aJ (La _ _) _) (by assumption)|assumption))));intro p' n';have hG:Hid (Grows (fun W=>W.cell? ⟨wr.heap.size,0,none⟩=some (KW x.src)/\W.cell? ⟨wr.heap.size,1,none⟩=some (KW x.sq)/\W.cell? ⟨wr.heap.size,2,none⟩=some (KW x.ty)/\W.cell? ⟨wr.heap.size,3,none⟩=some (KW x.tm)/\W.cell? ⟨wr.heap.size,4,none⟩=some (.slice A1 x.vals.length cx)/\W.cell? ⟨b,o+(k-1)*5,none⟩=some (KW p.src)/\W.cell? ⟨b,o+(k-1)*5+1,none⟩=some (KW p.sq)/\W.cell? ⟨b,o+(k-1)*5+2,none⟩=some (KW p.ty)/\W.cell? ⟨b,o+(k-1)*5+3,none⟩=some (KW p.tm)/\W.cell? ⟨b,o+(k-1)*5+4,none⟩=some (.slice A2 p.vals.length cp))):=(by repeat (first|exact aG _ _ _|exact aH|refine aN ?_ ?_));(repeat (go_big_quiet_step ((go_at_call 98;exact fj hG (H'.out _)))));clear hG n' p';refine wpQuiet_nil ?_;rintro wq ⟨⟨w',I,q'⟩,rfl⟩
    by_cases t':0<=r
    ·have d3:decide (0<=r)=true:=jQ t';go_wp2;go_ret;exact⟨cd (gQ D.out hi.out.1 (Fy HP.out hk HK.out c'.out (by rw[HR.out];exact t')) dc),ab O.out I⟩
    ·have d3:decide (0<=r)=false:=jQ t';have j':Hid (gY (l.take k) x=false):=jD (vB hk HK.out c'.out (by rw[HR.out];omega));clear p0 p1 p2 p3 p4;obtain⟨z0,z1,z2,z3,z4,-⟩:=q';have b':=jD (u'.out.below I);have h':=jD (ab O.out I);have m':wr.heap.size<wq.heap.size:=Ll l' I.size;clear I y0 y1 y2 y3 y4
     by_cases G:(l.take k).any (dA x)=true
     ·have F:=jD G;clear G;go_wp2_with (first|(go_at_call 99;refine (lW _ _ _ _ _ _ _ _).mono ?_;rintro e w6 ⟨rfl,h⟩)|(at_lookup;refine dK _ rfl _ _ rfl w.heap.size k (l.take k) x rfl (b'.out.below h.below) rfl HP.out ?_;rw[F.out]));go_ret;exact⟨cd (gQ D.out hi.out.1 (Ey HP.out j'.out F.out) dc),ab h'.out h.below⟩
     ·rw[Bool.not_eq_true]at G;have F:=jD G;clear G;go_wp2_with (first|(go_at_call 99;refine (lW _ _ _ _ _ _ _ _).mono ?_;rintro e w6 ⟨rfl,h⟩)|(at_lookup;refine dK _ rfl _ _ rfl w.heap.size k (l.take k) x rfl (b'.out.below h.below) rfl HP.out ?_;rw[F.out];have s':=jD (b'.out.below h.below);have e':=jD (ab h'.out h.below);replace z0:=aa h.below z0;replace z1:=aa h.below z1;replace z2:=aa h.below z2;replace z3:=aa h.below z3;replace z4:=aa h.below z4;have C':=Ll m' h.below.size;clear h)|(at_mapUpdate;refine ib _ rfl _ _ _ rfl w.heap.size k (l.take k) x rfl (s'.out.below h.below) rfl rfl HP.out (by unfold maxLen;omega) ?_;intro w7 r' i'))
      go_roundw
      case rel =>
       refine⟨k+1,by omega,by go_num,jD ⟨uD D.out hi.out.1 (AJ HP.out j'.out F.out),by rw[aX D.out];exact r'⟩,?_,?_⟩
       ·exact (ab e'.out h.below).trans (am i' (ab e'.out h.below).size (fun g hg=>by injection hg with hg;omega))
       ·have:=i'.size;have:=h.below.size;omega
      case measure=>simp[intOf];omega
  ·have D':¬(k:Int)<(l.length:Int):=by omega
   go_wp2;go_ret;exact⟨cd (Br om hi.out.1),hb⟩
end
end Go.Proofs.YtokconodddedhaaGreatDoor
