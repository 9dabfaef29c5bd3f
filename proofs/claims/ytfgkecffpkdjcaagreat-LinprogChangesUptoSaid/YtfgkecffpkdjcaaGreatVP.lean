/- Package approx by the executor. -/
import Derived.Test.YtfgkecffpkdjcaaGreatVQ
import Derived.Test.YtfgkecffpkdjcaaGreatMA
namespace Go.Proofs.YtfgkecffpkdjcaaGreat
open Go.RowKit Gm Go.Vx
theorem cv_step {l:List Int} {j:Nat} (h:j < l.length):cv (l.drop j) = (l.getD j 0 * (cv (l.drop (j + 1))).1 + (cv (l.drop (j + 1))).2,(cv (l.drop (j + 1))).1):=by
 rw [List.drop_eq_getElem_cons h,List.getD_eq_getElem?_getD,List.getElem?_eq_getElem h];rfl
structure FcOk (l:List Int) (K M:Nat):Prop where
 ok:fok l
 len:l.length≤1073741824
 K:K + M≤268435456
 one:1≤M
 sz:∀ j,SzI (cv (l.drop j)).1 M
theorem FcOk.den {l:List Int} {K M:Nat} (h:FcOk l K M) (j:Nat) (hj:j < l.length):SzI (cv (l.drop j)).2 M:=by
 rw [cv_step hj];exact h.sz (j + 1)
end Go.Proofs.YtfgkecffpkdjcaaGreat
