/- Contracts of package natural: the shift to the left. -/
import Derived.Test.YtaeidephegnkdaaNatP
namespace Go.Proofs.Ytaeidephegnkdaa
open Go.RowKit Gm

theorem shl_all (V n d s : Nat) (hd : n / 32 = d) (hs : n % 32 = s) : V * 2 ^ n = Ba ^ d * (V * 2 ^ s) := by
  rw [pow_split n, hd, hs]; grind

/-- s[d:] of a row -/
theorem slice_from (g N d m : Nat) (h : d < N) (hm : N - d = m) (u : World) : (Instr.sliceAt 22 (.slice (some ⟨g, 0, none⟩) N N) (some (.int .i64 (d : Int))) none none).run Try.prog u = .ok (.slice (some ⟨g, d, none⟩) m m) u := by
  subst hm
  have i1 : ¬ N = d := by omega
  go_simp
  intro hc
  omega

set_option maxRecDepth 100000 in
set_option maxHeartbeats 400000 in
theorem ShiftRight_no (A : Option Addr) (xs : List Nat) (c : Nat) (n : Int) (w : World) (hn : n < 0) :
    Calls Try.prog 124 #[.slice A xs.length c, .int .i64 n] w (RetNoB w) := by
  go_enter Try.func124, Try.ntmps124
  go_wp2
  go_ret2
  exact ⟨rfl, Below.refl _ _⟩
section
variable (A : Option Addr) (xs : List Nat) (c : Nat) (w : World) (m s n K : Nat)
theorem ShiftRight_n (ha : Lim w A c xs) (hs : xs.length ≤ K) (hm : val xs = m) (h : m / 2 ^ n = s) (hn : n ≤ 9223372036854775807) (hK : K ≤ 70368744177664) :
    Calls Try.prog 124 #[.slice A xs.length c, .int .i64 (n : Int)] w (RetNatOk w s) := by
  subst hm h; exact ShiftRight_c A xs c n w ha (by omega) hn
end
theorem nb_pow (n : Nat) : nb (2 ^ n) = n + 1 := nb_eq (Nat.le_refl _) (Nat.pow_lt_pow_right (by decide) (by omega))
theorem shl_sz {m n s k : Nat} (hm : (limbs m).length ≤ k) (h : m * 2 ^ n = s) (hn : n ≤ 255) : (limbs s).length ≤ k + 8 := by
  have h2 : (limbs (2 ^ n)).length ≤ 8 := limbs_length_lt (by
    rw [Ba_pow]; exact Nat.pow_lt_pow_right (by decide) (by omega))
  subst h
  have := limbs_mul_le m (2 ^ n)
  omega
end Go.Proofs.Ytaeidephegnkdaa
