/- Contracts of package natural: the number of binary digits; numbers of 64 bits with named results. -/
import Derived.Test.YtaeidephegnkdaaMD2
namespace Gm
theorem Ba_pow (k : Nat) : Ba ^ k = 2 ^ (32 * k) := by rw [Nat.pow_mul]; rfl
/-- the binary digits of a list by its top limb -/
theorem nb_val {us : List Nat} {m : Nat} (h : Lb us) (hl : us.length = m + 1) (h0 : us[m]?.getD 0 ≠ 0) : nb (val us) = 32 * m + nb (us[m]?.getD 0) := by
  have hs := val_split (xs := us) (i := m) (by omega)
  rw [List.drop_of_length_le (show us.length ≤ m + 1 by omega)] at hs
  simp only [val, Nat.mul_zero, Nat.add_zero] at hs
  have hlow := val_take_lt h m
  generalize us[m]?.getD 0 = x at *
  have h1 := nb_lt x
  have h2 := nb_ge h0
  have h4 : 1 ≤ nb x := by
    rcases Nat.eq_zero_or_pos (nb x) with h | h
    · exact absurd (nb_eq_zero.1 h) h0
    · exact h
  obtain ⟨k, hk⟩ : ∃ k, nb x = k + 1 := ⟨nb x - 1, by omega⟩
  rw [hk] at h1 h2 ⊢
  rw [Nat.add_sub_cancel] at h2
  rw [← Nat.add_assoc]
  apply nb_eq
  · rw [Nat.pow_add, ← Ba_pow, hs]
    have := Nat.mul_le_mul_left (Ba ^ m) h2
    omega
  · rw [Nat.add_assoc, Nat.pow_add, ← Ba_pow, hs]
    have := Nat.mul_le_mul_left (Ba ^ m) (show x + 1 ≤ 2 ^ (k + 1) from h1)
    rw [Nat.mul_add, Nat.mul_one] at this
    omega
end Gm
namespace Go.Proofs.Ytaeidephegnkdaa
open Go.RowKit Gm

set_option maxHeartbeats 400000 in
theorem Bits_c (A : Option Addr) (xs : List Nat) (c : Nat) (w : World) (h : Lim w A c xs) (hs : xs.length ≤ 70368744177664) :
    Calls Try.prog 100 #[.slice A xs.length c] w fun e w' => e = .returned (.int .i64 ((nb (val xs) : Nat) : Int)) ∧ w = w' := by
  have la := limbs_length_le h.lb
  by_cases h0 : val xs = 0
  · have hl : (limbs (val xs)).length = 0 := by rw [h0, limbs_zero]; rfl
    have HN := Lib.hid (show nb (val xs) = 0 by rw [h0, nb_zero])
    have HL := Lib.hid hl
    clear hl h0
    go_enter Try.func100, Try.ntmps100
    go_wp2_with fail
    refine (cut_c _ _ _ _ h).mono ?_
    rintro e w' ⟨rfl, rfl⟩
    rw [HL.out]
    go_wp2_with fail
    go_ret
    exact ⟨by rw [HN.out]; rfl, rfl⟩
  · have htop := limbs_last h0
    have hp : 0 < (limbs (val xs)).length := List.length_pos_iff.2 (fun e => h0 (limbs_eq_nil.1 e))
    have hc := h.cut
    have EV := val_limbs (val xs)
    have hb := Lb_limbs (val xs)
    obtain ⟨us, eus⟩ : ∃ us, limbs (val xs) = us := ⟨_, rfl⟩
    rw [eus] at htop hp hc EV hb la
    obtain ⟨m, em⟩ : ∃ m, us.length = m + 1 := ⟨us.length - 1, by omega⟩
    rw [em, Nat.add_sub_cancel] at htop
    have hn := nb_val hb em htop
    rw [EV] at hn
    obtain ⟨b, o, rfl, hbl, hcell⟩ := hc.at_ (by omega)
    have hx := hcell m (by omega)
    have bx : us[m]?.getD 0 < 4294967296 := hb.get m
    obtain ⟨x, ex⟩ : ∃ x, us[m]?.getD 0 = x := ⟨_, rfl⟩
    rw [ex] at hx bx hn
    have hnx : nb x ≤ 32 := nb_le bx
    have hm : m ≤ 70368744177664 := by omega
    have EM := Lib.hid (show (limbs (val xs)).length = m + 1 by rw [eus, em])
    have HN := Lib.hid hn
    have hne : (((m : Int) + 1) == 0) = false := by rw [beq_eq_false_iff_ne]; omega
    clear eus em htop hn ex hcell EV hc hp la
    go_enter Try.func100, Try.ntmps100
    go_wp2_with fail
    refine (cut_c _ _ _ _ h).mono ?_
    rintro e w' ⟨rfl, rfl⟩
    rw [EM.out]
    go_wp2_with fail
    refine (Len32_n x _ bx).mono ?_
    rintro e w' ⟨rfl, rfl⟩
    generalize nb x = y at *
    go_wp2_with fail
    go_ret
    exact ⟨by rw [HN.out]; exact congrArg (fun z => Ending.returned (.int .i64 z)) (by omega), rfl⟩

section
variable (A : Option Addr) (xs : List Nat) (c : Nat) (w : World) (m : Nat) (K : Nat)
theorem Bits_n (y : Nat) (K : Nat) (ha : Lim w A c xs) (hs : xs.length ≤ K) (hm : val xs = m) (h : nb m = y) (hK : K ≤ 70368744177664) :
    Calls Try.prog 100 #[.slice A xs.length c] w (RetI w (y : Int)) := by
  subst hm h
  refine (Bits_c A xs c w ha (by omega)).mono ?_
  rintro e w' ⟨rfl, rfl⟩
  exact ⟨rfl, Below.refl _ _⟩
/-- what Uint64 returns -/
def RetU (w : World) (v : Int) (b : Bool) (e : Ending) (w' : World) : Prop := e = .returned (.tuple #[.int .u64 v, .bool b]) ∧ Below w.heap.size w w'
theorem U64Y_n (ha : Lim w A c xs) (hm : val xs = m) (h : m < Ba * Ba) : Calls Try.prog 90 #[.slice A xs.length c] w (RetU w (m : Int) true) := by
  subst hm
  refine (Uint64_yes A xs c w ha h).mono ?_
  rintro e w' ⟨rfl, rfl⟩
  exact ⟨rfl, Below.refl _ _⟩
theorem U64N_n (ha : Lim w A c xs) (hm : val xs = m) (h : Ba * Ba ≤ m) : Calls Try.prog 90 #[.slice A xs.length c] w (RetU w 0 false) := by
  subst hm
  refine (Uint64_no A xs c w ha h).mono ?_
  rintro e w' ⟨rfl, rfl⟩
  exact ⟨rfl, Below.refl _ _⟩
theorem rU64Y_n (K : Nat) (ha : Lim w A c xs) (hs : xs.length ≤ K) (hm : val xs = m) (h : m < Ba * Ba) (hK : K ≤ 70368744177664) : Calls Try.prog 115 #[.slice A xs.length c] w (RetU w (m : Int) true) := by
  subst hm
  exact rUint64_yes A xs c w ha (by omega) h
theorem rU64N_n (K : Nat) (ha : Lim w A c xs) (hs : xs.length ≤ K) (hm : val xs = m) (h : Ba * Ba ≤ m) (hK : K ≤ 70368744177664) : Calls Try.prog 115 #[.slice A xs.length c] w (RetU w 0 false) := by
  subst hm
  exact rUint64_no A xs c w ha (by omega) h
end
theorem cmpN_flip (a b : Nat) : cmpN b a = - cmpN a b := by unfold cmpN; split <;> split <;> (try split) <;> (try split) <;> omega
theorem cmpN_addr {a b c s t : Nat} (h1 : a + c = s) (h2 : b + c = t) : cmpN s t = cmpN a b := by subst h1 h2; unfold cmpN; split <;> split <;> (try split) <;> (try split) <;> omega
theorem cmpN_mulr {a b c s t : Nat} (h0 : 0 < c) (h1 : a * c = s) (h2 : b * c = t) : cmpN s t = cmpN a b := by
  subst h1 h2
  unfold cmpN
  simp only [Nat.mul_lt_mul_right h0]
end Go.Proofs.Ytaeidephegnkdaa
