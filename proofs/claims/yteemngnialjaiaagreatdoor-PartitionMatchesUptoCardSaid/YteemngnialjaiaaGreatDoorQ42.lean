/- Part. -/
import Derived.Shelf.Strings.OnBuilder
import Derived.Shelf.LaysM
import Derived.Shelf.Strconv.Itoa3
import Derived.Shelf.Strings.Shaped
import Derived.Test.YteemngnialjaiaaGreatDoorQ04
set_option maxRecDepth 100000
set_option maxHeartbeats 16000000
set_option linter.unusedVariables false
set_option linter.unusedSimpArgs false
namespace Go.Proofs
section
open Go.Shelf
def Tryz.laysM144_ren:Go.Shelf.Ren:=⟨fun|144=>265|143=>318|219=>350|217=>373|225=>374|224=>375|267=>376|266=>393|314=>394|n=>n,fun|9=>9|4=>4|3=>3|5=>5|46=>131|146=>401|51=>193|n=>n,fun|1=>2|n=>n⟩
theorem Tryz.laysM144:Go.Proofs.LaysM.n144 Tryz.prog Tryz.laysM144_ren:={
 mixed:=by kernel_rfl
 f143:=Tryz.func318.trans (congrArg some (by kernel_rfl))
 f144:=Tryz.func265.trans (congrArg some (by kernel_rfl))
 f217:=Tryz.func373.trans (congrArg some (by kernel_rfl))
 f219:=Tryz.func350.trans (congrArg some (by kernel_rfl))
 f224:=Tryz.func375.trans (congrArg some (by kernel_rfl))
 f225:=Tryz.func374.trans (congrArg some (by kernel_rfl))
 f266:=Tryz.func393.trans (congrArg some (by kernel_rfl))
 f267:=Tryz.func376.trans (congrArg some (by kernel_rfl))
 f314:=Tryz.func394.trans (congrArg some (by kernel_rfl))
 t3:=Tryz.underlying3
 a3:=Tryz.isAgg3
 z3:=Tryz.sizeOf3
 v3:=Tryz.zeroValue3
 t4:=Tryz.underlying4
 a4:=Tryz.isAgg4
 z4:=Tryz.sizeOf4
 v4:=Tryz.zeroValue4
 t5:=Tryz.underlying5
 a5:=Tryz.isAgg5
 z5:=Tryz.sizeOf5
 v5:=Tryz.zeroValue5
 t9:=Tryz.underlying9
 a9:=Tryz.isAgg9
 z9:=Tryz.sizeOf9
 v9:=Tryz.zeroValue9
 t46:=Tryz.underlying131
 a46:=Tryz.isAgg131
 z46:=Tryz.sizeOf131
 v46:=Tryz.zeroValue131
 t51:=Tryz.underlying193
 a51:=Tryz.isAgg193
 z51:=Tryz.sizeOf193
 v51:=Tryz.zeroValue193
 t146:=Tryz.underlying401
 a146:=Tryz.isAgg401
 z146:=Tryz.sizeOf401
 v146:=Tryz.zeroValue401
 g1:=by kernel_rfl
 i3:=by kernel_rfl
 i4:=by kernel_rfl
 i5:=by kernel_rfl
 i9:=by kernel_rfl
 i46:=by kernel_rfl
 i51:=by kernel_rfl
 i146:=by kernel_rfl
 m1:=by kernel_rfl
 s1_3:=fun w h=>Go.Proofs.cell_of_shapedOpen_int (zero:=#[.int .i64 0]) (t:=3) h (of_decide_eq_true (by kernel_rfl)) (by kernel_rfl) rfl (by kernel_rfl) (by kernel_rfl) Tryz.underlying3 }
end
end Go.Proofs
namespace Go.Proofs.YteemngnialjaiaaGreatDoor
open Go.Proofs.Tryz Go.RowKit
def Lx(w:World):Prop:=Tab w/\∃m:Int,w.cell? ⟨2,0,none⟩=some (OB m)
theorem Lx.stays{w w':World}(h:Lx w)(I:OD w w'):Lx w':=⟨h.1.stays I,h.2.imp fun _ hm=>aa I hm⟩
end Go.Proofs.YteemngnialjaiaaGreatDoor
