/- Part. -/
import Derived.Test.YteemngnialjaiaaGreatDoorQ02
import Derived.Laws.StructEq
import Derived.Shelf.SlicesE.Kit
import Derived.Handy
set_option maxRecDepth 100000
set_option maxHeartbeats 16000000
set_option linter.unusedVariables false
set_option linter.unusedSimpArgs false
namespace Go.Proofs.YteemngnialjaiaaGreatDoor
open Go.Proofs.Tryz Go.RowKit
variable {a b:Bnd}{p:Prop}
theorem nE(s q y t:Int)(A:Option Addr)(n c:Nat)(w:World):Calls prog 108 #[.agg #[OB s,OB q,OB y,OB t,.slice A n c]] w fun e w'=>e=.returned (.agg #[OB t,OB s,OB q])/\Gr w w':=by
 go_enter func108,ntmps108;go_wp2
 go_returns
 exact⟨rfl,jC⟩
theorem Hg(s q y t:Int)(A:Option Addr)(n c:Nat)(w:World):Calls prog 79 #[.agg #[OB s,OB q,OB y,OB t,.slice A n c]] w fun e w'=>e=.returned (.agg #[OB t,OB s,OB q])/\Gr w w':=by
 go_enter func79,ntmps79;go_wp2
 go_returns
 exact⟨rfl,jC⟩
theorem mH(s q y t:Int)(A:Option Addr)(n c:Nat)(w:World):Calls prog 71 #[.agg #[OB s,OB q,OB y,OB t,.slice A n c]] w fun e w'=>e=.returned (.agg #[OB s,OB q])/\Gr w w':=by
 go_enter func71,ntmps71;go_wp2
 go_returns
 exact⟨rfl,jC⟩
def wQ(a b:Bnd):Bool:=a.t==b.t&&(a.s==b.s&&a.n==b.n)
theorem lL:dA a b=0↔a.t=b.t/\a.s=b.s/\a.n=b.n:=by
 unfold dA;rw[ik,ik,iA,iA,iA,and_assoc]
theorem E7:wQ a b=decide (dA a b=0):=by
 rw[Qc,OW,lL];simp[wQ]
theorem JX(a b:Bnd)(W:World):(binOp .eql 80 (EU a) (EU b)).run prog W=.ok (.bool (wQ a b)) W:=by
 have Z:=underlying3;have a3:=Tryz.isAgg3;have z3:=Tryz.sizeOf3;have I:prog.underlying 80=some (.struct (prog.fieldsOf 80)):=kr;have hp:prog.stoodInHeld 80=false:=kr;unfold EU;rw[run_eql_struct,show (10000:Nat)=9999+1 from rfl,RF W 9999 80 _ _ I hp];simp only[Program.fieldsOf,underlying80]
 go_simp
 by_cases h1:a.t=b.t<;>by_cases h:a.s=b.s<;>by_cases J:a.n=b.n<;>simp[wQ,h1,h,J]
theorem D5(a b:Evt)(A B:Option Addr)(n c m d:Nat)(w:World) :
  Calls prog 70 #[cM a (.slice A n c),cM b (.slice B m d)] w fun e w'=>e=.returned (OB (dA (dC a) (dC b)))/\Gr w w':=by
 obtain⟨r,hr⟩:=jE (wQ (dC a) (dC b));have he:∀W,(binOp .eql 80 (EU (dC a)) (EU (dC b))).run prog W=.ok (.bool r) W:=fun W=>by rw[JX,hr]
 unfold EU dC at he;rw[E7]at hr
 cases r
 ·clear hr;unfold dA dC;unfold cM;go_enter func70,ntmps70;go_wp2_with fail
  refine bV fun w2 Z=>?_;have h:Hid ((fun w'=>w'.cell? ⟨w.heap.size,0,none⟩=some (OB a.src)/\w'.cell? ⟨w.heap.size,1,none⟩=some (OB a.sq)/\w'.cell? ⟨w.heap.size,2,none⟩=some (OB a.ty)/\w'.cell? ⟨w.heap.size,3,none⟩=some (OB a.tm)/\w'.cell? ⟨w.heap.size,4,none⟩=some (.slice A n c)/\w'.cell? ⟨w.heap.size+1,0,none⟩=some (OB b.src)/\w'.cell? ⟨w.heap.size+1,1,none⟩=some (OB b.sq)/\w'.cell? ⟨w.heap.size+1,2,none⟩=some (OB b.ty)/\w'.cell? ⟨w.heap.size+1,3,none⟩=some (OB b.tm)/\w'.cell? ⟨w.heap.size+1,4,none⟩=some (.slice B m d)) w2):=jD (by subst Z;(first|exact⟨‹_›,‹_›⟩|(go_simp;done)|(simp[*];done)));have I:Hid (Grows (fun w'=>w'.cell? ⟨w.heap.size,0,none⟩=some (OB a.src)/\w'.cell? ⟨w.heap.size,1,none⟩=some (OB a.sq)/\w'.cell? ⟨w.heap.size,2,none⟩=some (OB a.ty)/\w'.cell? ⟨w.heap.size,3,none⟩=some (OB a.tm)/\w'.cell? ⟨w.heap.size,4,none⟩=some (.slice A n c)/\w'.cell? ⟨w.heap.size+1,0,none⟩=some (OB b.src)/\w'.cell? ⟨w.heap.size+1,1,none⟩=some (OB b.sq)/\w'.cell? ⟨w.heap.size+1,2,none⟩=some (OB b.ty)/\w'.cell? ⟨w.heap.size+1,3,none⟩=some (OB b.tm)/\w'.cell? ⟨w.heap.size+1,4,none⟩=some (.slice B m d))):=(by repeat (first|exact aN _ _ _|exact aM|refine aT ?_ ?_));have a':Gr w w2:=(by subst Z;exact jC);clear Z;have J:=h.out;go_region_held3 (fun w'=>w'.cell? ⟨w.heap.size,0,none⟩=some (OB a.src)/\w'.cell? ⟨w.heap.size,1,none⟩=some (OB a.sq)/\w'.cell? ⟨w.heap.size,2,none⟩=some (OB a.ty)/\w'.cell? ⟨w.heap.size,3,none⟩=some (OB a.tm)/\w'.cell? ⟨w.heap.size,4,none⟩=some (.slice A n c)/\w'.cell? ⟨w.heap.size+1,0,none⟩=some (OB b.src)/\w'.cell? ⟨w.heap.size+1,1,none⟩=some (OB b.sq)/\w'.cell? ⟨w.heap.size+1,2,none⟩=some (OB b.ty)/\w'.cell? ⟨w.heap.size+1,3,none⟩=some (OB b.tm)/\w'.cell? ⟨w.heap.size+1,4,none⟩=some (.slice B m d)) (with_reducible exact I.out.to (Gr.below (by repeat (first|with_reducible exact Gr.refl _|assumption|with_reducible refine Gr.drew ?_|with_reducible refine Gr.alloc ?_ _|with_reducible refine Gr.trans ?_ (by assumption)))) h.out) ((go_at_call 108;refine (nE _ _ _ _ _ _ _ _).mono ?_;rintro e w3 ⟨rfl,c'⟩))
  all_goals
   rename_i hK
   clear he;go_wp2_with fail;have d':Gr w w3:=jC;clear h I J a';obtain⟨f0,f1,f2,f3,f4,f5,f6,f7,f8,f9⟩:=hK;have f':=Gr.refl w3
   have h:Hid ((fun w'=>w'.cell? ⟨w.heap.size,0,none⟩=some (OB a.src)/\w'.cell? ⟨w.heap.size,1,none⟩=some (OB a.sq)/\w'.cell? ⟨w.heap.size,2,none⟩=some (OB a.ty)/\w'.cell? ⟨w.heap.size,3,none⟩=some (OB a.tm)/\w'.cell? ⟨w.heap.size,4,none⟩=some (.slice A n c)/\w'.cell? ⟨w.heap.size+1,0,none⟩=some (OB b.src)/\w'.cell? ⟨w.heap.size+1,1,none⟩=some (OB b.sq)/\w'.cell? ⟨w.heap.size+1,2,none⟩=some (OB b.ty)/\w'.cell? ⟨w.heap.size+1,3,none⟩=some (OB b.tm)/\w'.cell? ⟨w.heap.size+1,4,none⟩=some (.slice B m d)) w3):=jD (by (first|exact⟨‹_›,‹_›⟩|(go_simp;done)|(simp[*];done)));have I:Hid (Grows (fun w'=>w'.cell? ⟨w.heap.size,0,none⟩=some (OB a.src)/\w'.cell? ⟨w.heap.size,1,none⟩=some (OB a.sq)/\w'.cell? ⟨w.heap.size,2,none⟩=some (OB a.ty)/\w'.cell? ⟨w.heap.size,3,none⟩=some (OB a.tm)/\w'.cell? ⟨w.heap.size,4,none⟩=some (.slice A n c)/\w'.cell? ⟨w.heap.size+1,0,none⟩=some (OB b.src)/\w'.cell? ⟨w.heap.size+1,1,none⟩=some (OB b.sq)/\w'.cell? ⟨w.heap.size+1,2,none⟩=some (OB b.ty)/\w'.cell? ⟨w.heap.size+1,3,none⟩=some (OB b.tm)/\w'.cell? ⟨w.heap.size+1,4,none⟩=some (.slice B m d))):=(by repeat (first|exact aN _ _ _|exact aM|refine aT ?_ ?_));have J:=h.out;go_region_held3 (fun w'=>w'.cell? ⟨w.heap.size,0,none⟩=some (OB a.src)/\w'.cell? ⟨w.heap.size,1,none⟩=some (OB a.sq)/\w'.cell? ⟨w.heap.size,2,none⟩=some (OB a.ty)/\w'.cell? ⟨w.heap.size,3,none⟩=some (OB a.tm)/\w'.cell? ⟨w.heap.size,4,none⟩=some (.slice A n c)/\w'.cell? ⟨w.heap.size+1,0,none⟩=some (OB b.src)/\w'.cell? ⟨w.heap.size+1,1,none⟩=some (OB b.sq)/\w'.cell? ⟨w.heap.size+1,2,none⟩=some (OB b.ty)/\w'.cell? ⟨w.heap.size+1,3,none⟩=some (OB b.tm)/\w'.cell? ⟨w.heap.size+1,4,none⟩=some (.slice B m d)) (with_reducible exact I.out.to (Gr.below (by repeat (first|with_reducible exact Gr.refl _|assumption|with_reducible refine Gr.drew ?_|with_reducible refine Gr.alloc ?_ _|with_reducible refine Gr.trans ?_ (by assumption)))) h.out) (first|(go_at_call 62;refine (ge _ _ _).mono ?_;rintro e w' ⟨rfl,rfl⟩)|(go_at_call 60;refine (yV _ (bC a.tm b.tm) (bC a.src b.src) (bC a.sq b.sq) _ ?_ ?_ ?_).mono ?_;(go_simp);(go_simp);(go_simp);rintro e w' ⟨rfl,rfl⟩))
   all_goals
    go_wp2;go_ret;exact⟨rfl,d'.trans jC⟩
 ·have h0:dA (dC a) (dC b)=0:=jQ hr;rw[h0];clear hr h0;unfold cM;go_enter func70,ntmps70;go_wp2_with fail
  refine bV fun w2 Z=>?_;have h:Hid ((fun w'=>w'.cell? ⟨w.heap.size,0,none⟩=some (OB a.src)/\w'.cell? ⟨w.heap.size,1,none⟩=some (OB a.sq)/\w'.cell? ⟨w.heap.size,2,none⟩=some (OB a.ty)/\w'.cell? ⟨w.heap.size,3,none⟩=some (OB a.tm)/\w'.cell? ⟨w.heap.size,4,none⟩=some (.slice A n c)/\w'.cell? ⟨w.heap.size+1,0,none⟩=some (OB b.src)/\w'.cell? ⟨w.heap.size+1,1,none⟩=some (OB b.sq)/\w'.cell? ⟨w.heap.size+1,2,none⟩=some (OB b.ty)/\w'.cell? ⟨w.heap.size+1,3,none⟩=some (OB b.tm)/\w'.cell? ⟨w.heap.size+1,4,none⟩=some (.slice B m d)) w2):=jD (by subst Z;(first|exact⟨‹_›,‹_›⟩|(go_simp;done)|(simp[*];done)));have I:Hid (Grows (fun w'=>w'.cell? ⟨w.heap.size,0,none⟩=some (OB a.src)/\w'.cell? ⟨w.heap.size,1,none⟩=some (OB a.sq)/\w'.cell? ⟨w.heap.size,2,none⟩=some (OB a.ty)/\w'.cell? ⟨w.heap.size,3,none⟩=some (OB a.tm)/\w'.cell? ⟨w.heap.size,4,none⟩=some (.slice A n c)/\w'.cell? ⟨w.heap.size+1,0,none⟩=some (OB b.src)/\w'.cell? ⟨w.heap.size+1,1,none⟩=some (OB b.sq)/\w'.cell? ⟨w.heap.size+1,2,none⟩=some (OB b.ty)/\w'.cell? ⟨w.heap.size+1,3,none⟩=some (OB b.tm)/\w'.cell? ⟨w.heap.size+1,4,none⟩=some (.slice B m d))):=(by repeat (first|exact aN _ _ _|exact aM|refine aT ?_ ?_));have a':Gr w w2:=(by subst Z;exact jC);clear Z;have J:=h.out;go_region_held3 (fun w'=>w'.cell? ⟨w.heap.size,0,none⟩=some (OB a.src)/\w'.cell? ⟨w.heap.size,1,none⟩=some (OB a.sq)/\w'.cell? ⟨w.heap.size,2,none⟩=some (OB a.ty)/\w'.cell? ⟨w.heap.size,3,none⟩=some (OB a.tm)/\w'.cell? ⟨w.heap.size,4,none⟩=some (.slice A n c)/\w'.cell? ⟨w.heap.size+1,0,none⟩=some (OB b.src)/\w'.cell? ⟨w.heap.size+1,1,none⟩=some (OB b.sq)/\w'.cell? ⟨w.heap.size+1,2,none⟩=some (OB b.ty)/\w'.cell? ⟨w.heap.size+1,3,none⟩=some (OB b.tm)/\w'.cell? ⟨w.heap.size+1,4,none⟩=some (.slice B m d)) (with_reducible exact I.out.to (Gr.below (by repeat (first|with_reducible exact Gr.refl _|assumption|with_reducible refine Gr.drew ?_|with_reducible refine Gr.alloc ?_ _|with_reducible refine Gr.trans ?_ (by assumption)))) h.out) ((go_at_call 108;refine (nE _ _ _ _ _ _ _ _).mono ?_;rintro e w3 ⟨rfl,c'⟩))
  all_goals
   clear he;go_wp2;go_ret;exact⟨rfl,jC⟩
theorem uai(h:p:=by
  go_enter func69,ntmps69;go_wp2;go_ret;exact⟨by simp[*]<;>omega,jC⟩):p:=h
theorem tT(x:Evt)(A:Option Addr)(n c:Nat)(w:World)(u:Value)(hu:u=.slice A n c):Calls prog 69 #[cM x u] w fun e w'=>e=.returned (.bool (bY x))/\Gr w w':=by
 subst hu;unfold cM bY;obtain⟨s,q,y,t,vs⟩:=x;simp only
 by_cases h1:0<=t
 ·by_cases h:t<=1099511627776
  ·by_cases Z:0<=s
   ·by_cases I:s<8
    ·by_cases J:0<=q
     ·by_cases h6:q<=1099511627776 <;>
      ·go_enter func69,ntmps69;go_wp2;go_ret;exact⟨by simp[*],jC⟩
     ·exact uai
    ·exact uai
   ·exact uai
  ·exact uai
 ·exact uai
theorem uaj(h:p:=by
  go_enter func77,ntmps77;go_wp2;go_ret;exact⟨by simp[*]<;>omega,jC⟩):p:=h
theorem uv(x:Evt)(A:Option Addr)(n c:Nat)(w:World)(u:Value)(hu:u=.slice A n c):Calls prog 77 #[cM x u] w fun e w'=>e=.returned (.bool (bY x))/\Gr w w':=by
 subst hu;unfold cM bY;obtain⟨s,q,y,t,vs⟩:=x;simp only
 by_cases h1:0<=t
 ·by_cases h:t<=1099511627776
  ·by_cases Z:0<=s
   ·by_cases I:s<8
    ·by_cases J:0<=q
     ·by_cases h6:q<=1099511627776 <;>
      ·go_enter func77,ntmps77;go_wp2;go_ret;exact⟨by simp[*],jC⟩
     ·exact uaj
    ·exact uaj
   ·exact uaj
  ·exact uaj
 ·exact uaj
end Go.Proofs.YteemngnialjaiaaGreatDoor
