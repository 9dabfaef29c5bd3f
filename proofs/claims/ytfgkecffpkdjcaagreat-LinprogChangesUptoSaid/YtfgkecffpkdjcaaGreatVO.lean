/- Reference 11 by the executor: Feasible. -/
import Derived.Test.YtfgkecffpkdjcaaGreatVN
namespace Go.Proofs.YtfgkecffpkdjcaaGreat
open Go.RowKit Gm Go.Vx
end Go.Proofs.YtfgkecffpkdjcaaGreat
