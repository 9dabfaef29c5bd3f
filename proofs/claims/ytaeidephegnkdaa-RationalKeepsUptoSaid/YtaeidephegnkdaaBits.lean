/- Contracts of math/bits: Len32, LeadingZeros32. The number of binary digits, plain. -/
import Derived.Test.YtaeidephegnkdaaMB
import Derived.Test.YtaeidephegnkdaaLen
import Derived.Lib.BitFns
namespace Gm
/-- the number of binary digits -/
def nb (n : Nat) : Nat := if n = 0 then 0 else nb (n / 2) + 1
termination_by n
decreasing_by omega
theorem nb_zero : nb 0 = 0 := by rw [nb]; simp
theorem nb_pos {n : Nat} (h : n ≠ 0) : nb n = nb (n / 2) + 1 := by rw [nb]; simp [h]
theorem nb_lt (n : Nat) : n < 2 ^ nb n := by
  induction n using Nat.strongRecOn with
  | ind n ih =>
    by_cases h : n = 0
    · subst h; simp [nb_zero]
    · rw [nb_pos h, Nat.pow_succ]
      have := ih (n / 2) (by omega)
      omega
theorem nb_ge {n : Nat} (h : n ≠ 0) : 2 ^ (nb n - 1) ≤ n := by
  induction n using Nat.strongRecOn with
  | ind n ih =>
    rw [nb_pos h, Nat.add_sub_cancel]
    by_cases h2 : n / 2 = 0
    · rw [h2, nb_zero]; simp; omega
    · have h3 := ih (n / 2) (by omega) h2
      have h4 : 1 ≤ nb (n / 2) := by rw [nb_pos h2]; omega
      obtain ⟨k, hk⟩ : ∃ k, nb (n / 2) = k + 1 := ⟨nb (n / 2) - 1, by omega⟩
      rw [hk] at h3 ⊢
      rw [Nat.add_sub_cancel] at h3
      rw [Nat.pow_succ]
      omega
theorem nb_le {n k : Nat} (h : n < 2 ^ k) : nb n ≤ k := by
  by_cases hn : n = 0
  · subst hn; simp [nb_zero]
  · have h1 := nb_ge hn
    have h2 : 2 ^ (nb n - 1) < 2 ^ k := by omega
    have := (Nat.pow_lt_pow_iff_right (by decide)).1 h2
    omega
theorem nb_gt {n k : Nat} (h : 2 ^ k ≤ n) : k < nb n := by
  have h1 := nb_lt n
  have h2 : 2 ^ k < 2 ^ nb n := by omega
  exact (Nat.pow_lt_pow_iff_right (by decide)).1 h2
theorem nb_eq {n k : Nat} (h : 2 ^ k ≤ n) (h2 : n < 2 ^ (k + 1)) : nb n = k + 1 := by
  have := nb_gt h
  have := nb_le h2
  omega
theorem nb_bitLenAux (f n : Nat) (h : n < 2 ^ f) : Go.Lib.bitLenAux f n = nb n := by
  induction f generalizing n with
  | zero =>
    have : n = 0 := by simpa using h
    subst this; rw [nb_zero]; rfl
  | succ f ih =>
    by_cases h0 : n = 0
    · subst h0; rw [nb_zero]; simp [Go.Lib.bitLenAux]
    · rw [nb_pos h0, ← ih (n / 2) (by rw [Nat.pow_succ] at h; omega)]
      simp [Go.Lib.bitLenAux, h0]; omega
theorem nb_bitLen (n : Nat) (h : n < 4294967296) : Go.Lib.bitLen n = nb n := nb_bitLenAux 64 n (Nat.lt_trans h (by decide))
theorem nb_mono {m n : Nat} (h : m ≤ n) : nb m ≤ nb n := nb_le (Nat.lt_of_le_of_lt h (nb_lt n))
theorem nb_eq_zero {n : Nat} : nb n = 0 ↔ n = 0 := by
  constructor
  · intro h
    rcases Nat.eq_zero_or_pos n with h1 | h1
    · exact h1
    · rw [nb_pos (by omega)] at h; omega
  · rintro rfl; exact nb_zero
end Gm
namespace Go.Proofs.Ytaeidephegnkdaa
open Go.RowKit Gm

theorem Len32_n (x : Nat) (w : World) (h : x < 4294967296) :
    Calls Try.prog 114 #[.int .u32 (x : Int)] w fun e w' => e = .returned (.int .i64 ((nb x : Nat) : Int)) ∧ w = w' := by
  refine (Len32_c (x : Int) w (by omega) (by omega)).mono ?_
  rintro e w' ⟨rfl, rfl⟩
  exact ⟨by rw [Int.toNat_natCast, nb_bitLen x h], rfl⟩
theorem LeadingZeros32_n (x : Nat) (w : World) (h : x < 4294967296) :
    Calls Try.prog 120 #[.int .u32 (x : Int)] w fun e w' => e = .returned (.int .i64 ((32 - nb x : Nat) : Int)) ∧ w = w' := by
  have l : nb x ≤ 32 := nb_le (by omega)
  go_enter Try.func120, Try.ntmps120
  go_wp2_with fail
  refine (Len32_n x w h).mono ?_
  rintro e w' ⟨rfl, rfl⟩
  have e8 : (32 : Int) - ((nb x : Nat) : Int) = ((32 - nb x : Nat) : Int) := by omega
  have E8 := Lib.hid e8
  clear e8
  go_wp2_with fail
  go_ret
  exact ⟨by rw [← E8.out]; rfl, rfl⟩
end Go.Proofs.Ytaeidephegnkdaa
