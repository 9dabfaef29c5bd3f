/- Package certify and its reference by the executor: Optimal, AtLeast, Infeasible, Unbounded. -/
import Derived.Test.YtfgkecffpkdjcaaGreatVO
import Derived.Test.YtfgkecffpkdjcaaGreatVX
namespace Go.Proofs.YtfgkecffpkdjcaaGreat
open Go.RowKit Gm Go.Vx
end Go.Proofs.YtfgkecffpkdjcaaGreat
