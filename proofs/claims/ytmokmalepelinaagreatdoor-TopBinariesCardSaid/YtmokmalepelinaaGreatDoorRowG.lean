import Derived.Test.YtmokmalepelinaaGreatDoorChecked
import Derived.Test.YtmokmalepelinaaGreatDoorRows
import Derived.SevenTiedAt
import Derived.KernelRfl
namespace Go.Proofs.YtmokmalepelinaaGreatDoor.topBinaries
open Go.ChangeShapes Go.WideShapes
theorem goes:false=Rows.topBinariesRow.goesBy Tryz.prog:=by kernel_rfl
end Go.Proofs.YtmokmalepelinaaGreatDoor.topBinaries
