/- How rational numbers that came in are opened. -/
import Derived.Test.YtfgkecffpkdjcaaGreatOpen
namespace Go.Proofs.YtfgkecffpkdjcaaGreat
open Go.ChangeShapes Go.WideShapes Go.ChangeAt Go.RowKit Go.Joins Gm
section
variable {H:Type} {enc:TypeId × Value→H} {W:World}
end
end Go.Proofs.YtfgkecffpkdjcaaGreat
