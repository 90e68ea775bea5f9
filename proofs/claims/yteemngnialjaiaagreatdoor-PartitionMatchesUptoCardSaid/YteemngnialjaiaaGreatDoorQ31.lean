/- Part. -/
import Derived.Test.YteemngnialjaiaaGreatDoorQ26
set_option maxRecDepth 100000
set_option maxHeartbeats 16000000
set_option linter.unusedVariables false
set_option linter.unusedSimpArgs false
namespace Go.Proofs.YteemngnialjaiaaGreatDoor
open Go.Proofs.Tryz Go.RowKit
variable {X c:Nat}{A:Option Addr}{t0:ByteArray}
def iZ(op:Int):Bool:=decide (op=5\/op=9)
abbrev P14(W:World)(X:Nat)(A:Option Addr)(c:Nat)(Ac:Option Addr)(nc cc n:Nat)(op ty vr sc sp J Z I h k0 n0:Int)(t0:ByteArray):Prop:=W.cell? ⟨X,0,none⟩=some (OB op)/\W.cell? ⟨X,1,none⟩=some (.slice A n c)/\W.cell? ⟨X,2,none⟩=some (OB ty)/\W.cell? ⟨X,3,none⟩=some (OB vr)/\W.cell? ⟨X,4,none⟩=some (OB sc)/\W.cell? ⟨X,5,none⟩=some (OB sp)/\W.cell? ⟨X,6,none⟩=some (OB J)/\W.cell? ⟨X,7,none⟩=some (.slice Ac nc cc)/\W.cell? ⟨X,8,none⟩=some (OB Z)/\W.cell? ⟨X,9,none⟩=some (OB I)/\W.cell? ⟨X,10,none⟩=some (OB h)/\W.cell? ⟨X,11,none⟩=some (OB k0)/\W.cell? ⟨X,12,none⟩=some (OB n0)/\W.cell? ⟨X,13,none⟩=some (.string t0)
theorem P14.stays{w W:World}{Ac:Option Addr}{nc cc n:Nat}{op ty vr sc sp a' c' Z J k0 n0:Int}(h:P14 w X A c Ac nc cc n op ty vr sc sp a' c' Z J k0 n0 t0)(I:OD w W):P14 W X A c Ac nc cc n op ty vr sc sp a' c' Z J k0 n0 t0:=by
 obtain⟨y0,y1,y2,y3,y4,y5,y6,y7,y8,y9,d',h',g',f'⟩:=h;exact⟨aa I y0,aa I y1,aa I y2,aa I y3,aa I y4,aa I y5,aa I y6,aa I y7,aa I y8,aa I y9,aa I d',aa I h',aa I g',aa I f'⟩
end Go.Proofs.YteemngnialjaiaaGreatDoor
