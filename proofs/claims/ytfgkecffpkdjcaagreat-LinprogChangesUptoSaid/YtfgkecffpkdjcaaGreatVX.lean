/- Approx: Simplest; the checks of law05; RoundTrip and Monotone. -/
import Derived.Test.YtfgkecffpkdjcaaGreatVP
namespace Go.Proofs.YtfgkecffpkdjcaaGreat
open Go.RowKit Gm Go.Vx
theorem _root_.Go.Vx.Rob.sz {own:Nat→Prop} {w:World} {q:Rat} {K:Nat} {x:Value} (h:Rob own w (rAv q K) [x]):Sz q K:=by
 obtain ⟨us,e,hu⟩:=h.here
 obtain ⟨b,s,t,_,hi⟩:=cons_nil hu
 exact hi.sz
end Go.Proofs.YtfgkecffpkdjcaaGreat
