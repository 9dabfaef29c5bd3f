/- The sizes of programs without costs and of candidates. -/
import Derived.Test.YtfgkecffpkdjcaaGreatLZ
import Derived.Test.YtfgkecffpkdjcaaGreatVH
namespace Go.Proofs.YtfgkecffpkdjcaaGreat
open Go.RowKit Gm Go.Vx
theorem PB.up {p:Prg} {K L:Nat} (h:PB p K) (hL:L≤16777216):PB p L:=⟨h.c,h.r,h.e,hL⟩
end Go.Proofs.YtfgkecffpkdjcaaGreat
