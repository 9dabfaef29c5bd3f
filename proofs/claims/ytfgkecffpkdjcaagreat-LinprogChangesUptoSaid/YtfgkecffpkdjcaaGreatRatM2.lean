/- RatE RatF RatI in one text. -/
import Derived.Test.YtfgkecffpkdjcaaGreatRatM1
namespace Go.Proofs.YtfgkecffpkdjcaaGreat
open Go.RowKit Gm
/- Contracts of rational.floor, Floor. -/
/- Contracts of rational.Floor, Round. -/
/- Contracts of rational.Size, Round. -/
theorem FromInt_o (v o:Int) (w:World) (h1:-9223372036854775808≤v) (h2:v≤9223372036854775807) (h:v = o):Calls Tryz.prog 136 #[.int .i64 v] w (RetInt w o):=by
 subst h;exact FromInt_c v w h1 h2
end Go.Proofs.YtfgkecffpkdjcaaGreat
