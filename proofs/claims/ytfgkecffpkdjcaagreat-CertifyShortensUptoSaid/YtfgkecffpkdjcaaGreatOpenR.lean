/- How rational numbers that came in are opened. -/
import Derived.Test.YtfgkecffpkdjcaaGreatOpen
namespace Go.Proofs.YtfgkecffpkdjcaaGreat
open Go.ChangeShapes Go.WideShapes Go.ChangeAt Go.RowKit Go.Joins Gm
section
variable {H:Type} {enc:TypeId × Value→H} {W:World}
theorem cells_rat:Tryz.prog.cellsOf 36 = 3:=by kernel_rfl
theorem cells_int:Tryz.prog.cellsOf 34 = 2:=by kernel_rfl
theorem cells_sl:Tryz.prog.cellsOf 32 = 1:=by kernel_rfl
theorem cells_bo:Tryz.prog.cellsOf 4 = 1:=by kernel_rfl
end
end Go.Proofs.YtfgkecffpkdjcaaGreat
