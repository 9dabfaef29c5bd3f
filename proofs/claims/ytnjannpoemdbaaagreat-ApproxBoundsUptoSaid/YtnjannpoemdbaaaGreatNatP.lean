/- Contracts of package natural: the number of binary digits; numbers of 64 bits with named results. -/
import Derived.Test.YtnjannpoemdbaaaGreatMD2
namespace Gm
theorem Ba_pow (k : Nat) : Ba ^ k = 2 ^ (32 * k) := by rw [Nat.pow_mul]; rfl
/-- the binary digits of a list by its top limb -/
theorem nb_val {us : List Nat} {m : Nat} (h : Lb us) (hl : us.length = m + 1) (h0 : us[m]?.getD 0 ≠ 0) : nb (val us) = 32 * m + nb (us[m]?.getD 0) := by
  have hs := val_split (xs := us) (i := m) (by omega)
  rw [List.drop_of_length_le (show us.length ≤ m + 1 by omega)] at hs
  simp only [val, Nat.mul_zero, Nat.add_zero] at hs
  have hlow := val_take_lt h m
  generalize us[m]?.getD 0 = x at *
  have h1 := nb_lt x
  have h2 := nb_ge h0
  have h4 : 1 ≤ nb x := by
    rcases Nat.eq_zero_or_pos (nb x) with h | h
    · exact absurd (nb_eq_zero.1 h) h0
    · exact h
  obtain ⟨k, hk⟩ : ∃ k, nb x = k + 1 := ⟨nb x - 1, by omega⟩
  rw [hk] at h1 h2 ⊢
  rw [Nat.add_sub_cancel] at h2
  rw [← Nat.add_assoc]
  apply nb_eq
  · rw [Nat.pow_add, ← Ba_pow, hs]
    have := Nat.mul_le_mul_left (Ba ^ m) h2
    omega
  · rw [Nat.add_assoc, Nat.pow_add, ← Ba_pow, hs]
    have := Nat.mul_le_mul_left (Ba ^ m) (show x + 1 ≤ 2 ^ (k + 1) from h1)
    rw [Nat.mul_add, Nat.mul_one] at this
    omega
end Gm
namespace Go.Proofs.YtnjannpoemdbaaaGreat
open Go.RowKit Gm

section
variable (A : Option Addr) (xs : List Nat) (c : Nat) (w : World) (m : Nat) (K : Nat)
/-- what Uint64 returns -/
def RetU (w : World) (v : Int) (b : Bool) (e : Ending) (w' : World) : Prop := e = .returned (.tuple #[.int .u64 v, .bool b]) ∧ Below w.heap.size w w'
theorem U64Y_n (ha : Lim w A c xs) (hm : val xs = m) (h : m < Ba * Ba) : Calls Tryz.prog 80 #[.slice A xs.length c] w (RetU w (m : Int) true) := by
  subst hm
  refine (Uint64_yes A xs c w ha h).mono ?_
  rintro e w' ⟨rfl, rfl⟩
  exact ⟨rfl, Below.refl _ _⟩
theorem U64N_n (ha : Lim w A c xs) (hm : val xs = m) (h : Ba * Ba ≤ m) : Calls Tryz.prog 80 #[.slice A xs.length c] w (RetU w 0 false) := by
  subst hm
  refine (Uint64_no A xs c w ha h).mono ?_
  rintro e w' ⟨rfl, rfl⟩
  exact ⟨rfl, Below.refl _ _⟩
theorem rU64Y_n (K : Nat) (ha : Lim w A c xs) (hs : xs.length ≤ K) (hm : val xs = m) (h : m < Ba * Ba) (hK : K ≤ 70368744177664) : Calls Tryz.prog 88 #[.slice A xs.length c] w (RetU w (m : Int) true) := by
  subst hm
  exact rUint64_yes A xs c w ha (by omega) h
theorem rU64N_n (K : Nat) (ha : Lim w A c xs) (hs : xs.length ≤ K) (hm : val xs = m) (h : Ba * Ba ≤ m) (hK : K ≤ 70368744177664) : Calls Tryz.prog 88 #[.slice A xs.length c] w (RetU w 0 false) := by
  subst hm
  exact rUint64_no A xs c w ha (by omega) h
end
theorem cmpN_flip (a b : Nat) : cmpN b a = - cmpN a b := by unfold cmpN; split <;> split <;> (try split) <;> (try split) <;> omega
theorem cmpN_addr {a b c s t : Nat} (h1 : a + c = s) (h2 : b + c = t) : cmpN s t = cmpN a b := by subst h1 h2; unfold cmpN; split <;> split <;> (try split) <;> (try split) <;> omega
theorem cmpN_mulr {a b c s t : Nat} (h0 : 0 < c) (h1 : a * c = s) (h2 : b * c = t) : cmpN s t = cmpN a b := by
  subst h1 h2
  unfold cmpN
  simp only [Nat.mul_lt_mul_right h0]
end Go.Proofs.YtnjannpoemdbaaaGreat
