/- Reference 11 by the executor: Feasible. -/
import Derived.Test.YtfgkecffpkdjcaaGreatVN
namespace Go.Proofs.YtfgkecffpkdjcaaGreat
open Go.RowKit Gm Go.Vx
theorem made_app {f:Nat→Rat} {M k:Nat} {q:Rat} {M':Nat} (hq:q = f k) (hM:M'≤M∨Sz q M):∀ i,i < k + 1→fitC (madeC f M i) (if i < k then madeC f M i else nthp .nil [.cons (.ratC q M') .nil] (i - k)):=by
 intro i hi
 by_cases h:i < k
 ·rw [if_pos h];exact And.intro (And.intro rfl (.inl (Nat.le_refl _))) True.intro
 ·have e:i = k:=by omega
  subst e
  rw [if_neg h,Nat.sub_self]
  exact And.intro (And.intro hq hM) True.intro
theorem sone (r:Rat):(sgn r.num == 1) = pb (0 < r):=by
 rw [← sgt,Bool.eq_iff_iff,beq_iff_eq,decide_eq_true_iff]
 unfold sgn;split <;> (try split) <;> omega
theorem smone (r:Rat):(sgn r.num == -1) = pb (r < 0):=by
 rw [← slt,Bool.eq_iff_iff,beq_iff_eq,decide_eq_true_iff]
 unfold sgn;split <;> (try split) <;> omega
end Go.Proofs.YtfgkecffpkdjcaaGreat
