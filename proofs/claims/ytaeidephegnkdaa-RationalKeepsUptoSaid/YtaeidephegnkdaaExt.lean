/- The extended Euclidean algorithm: what its rounds keep, and what holds at its end. Plain arithmetic. -/
import Derived.Test.YtaeidephegnkdaaArith
namespace Go.Proofs.Ytaeidephegnkdaa

def Opp (x z : Int) : Prop := (0 ≤ x ∧ z ≤ 0) ∨ (x ≤ 0 ∧ 0 ≤ z)
structure Ex (A B M N : Nat) (x z : Int) : Prop where
  g : Nat.gcd M N = Nat.gcd A B
  xb : x.natAbs ≤ 1 ∨ x.natAbs ≤ B
  zb : z.natAbs ≤ B
  m0 : 0 < A → 0 < M
  mb : M ≤ A ∨ M ≤ B
  nb : N ≤ B
  ex : ∃ y t : Int, (A : Int) * x + B * y = M ∧ (A : Int) * z + B * t = N ∧ Opp x z ∧ Opp y t ∧ M * z.natAbs + N * x.natAbs = B ∧ M * t.natAbs + N * y.natAbs = A ∧ (N = 0 → 0 < A → 0 < B → x.natAbs * M ≤ B ∧ y.natAbs * M ≤ A)
theorem Ex.start (A B : Nat) : Ex A B A B 1 0 :=
  ⟨rfl, .inl (by decide), Nat.zero_le _, id, .inl (Nat.le_refl _), Nat.le_refl _, 0, 1, by omega, by omega, .inl (by omega), .inr (by omega), by simp, by simp, fun h1 _ h2 => absurd h1 (by omega)⟩
theorem opp_step {x z : Int} (h : Opp x z) (q : Nat) : Opp z (x - q * z) ∧ (x - q * z).natAbs = x.natAbs + q * z.natAbs := by
  have hw : ((q : Int) * z).natAbs = q * z.natAbs := by rw [Int.natAbs_mul, Int.natAbs_natCast]
  have h1 : 0 ≤ z → 0 ≤ (q : Int) * z := fun hz => Int.mul_nonneg (Int.natCast_nonneg q) hz
  have h2 : z ≤ 0 → (q : Int) * z ≤ 0 := fun hz => by
    have := Int.mul_nonneg (Int.natCast_nonneg q) (show 0 ≤ -z by omega)
    rw [Int.mul_neg] at this
    omega
  rw [← hw]
  generalize (q : Int) * z = v at h1 h2 ⊢
  unfold Opp at h ⊢
  omega
theorem Ex.step {A B M N : Nat} {x z : Int} (h : Ex A B M N x z) (hN : 0 < N) : Ex A B N (M % N) z (x - ((M / N : Nat) : Int) * z) := by
  obtain ⟨y, t, e1, e2, o1, o2, e3, e4, _⟩ := h.ex
  have hqr := Nat.div_add_mod M N
  have hr := Nat.mod_lt M hN
  have hm0 := h.m0
  have hg : Nat.gcd N (M % N) = Nat.gcd A B := by rw [← h.g, Nat.gcd_comm M N, Nat.gcd_rec N M, Nat.gcd_comm]
  have hdv : M % N = 0 → 0 < M → N ≤ M := fun h1 h2 => Nat.le_of_dvd h2 (Nat.dvd_of_mod_eq_zero h1)
  have hzb := h.zb
  have hnb := h.nb
  clear h
  generalize M / N = q at hqr ⊢
  generalize M % N = r at hqr hg hr hdv ⊢
  obtain ⟨o3, n3⟩ := opp_step o1 q
  obtain ⟨o4, n4⟩ := opp_step o2 q
  have k3 : N * (x - (q : Int) * z).natAbs + r * z.natAbs = B := by
    rw [n3, ← e3, ← hqr]
    simp only [Nat.mul_add, Nat.add_mul, Nat.mul_assoc]
    omega
  have k4 : N * (y - (q : Int) * t).natAbs + r * t.natAbs = A := by
    rw [n4, ← e4, ← hqr]
    simp only [Nat.mul_add, Nat.add_mul, Nat.mul_assoc]
    omega
  have k2 : (A : Int) * (x - (q : Int) * z) + B * (y - (q : Int) * t) = r := by
    have j1 : (A : Int) * ((q : Int) * z) + B * ((q : Int) * t) = N * q := by
      rw [Int.mul_comm (N : Int), ← e2, Int.mul_add, Int.mul_left_comm (A : Int) q z, Int.mul_left_comm (B : Int) q t]
    have j2 : (N : Int) * q + r = M := by rw [← hqr, Int.natCast_add, Int.natCast_mul]
    rw [Int.mul_sub, Int.mul_sub]
    omega
  refine ⟨hg, .inr hzb, ?_, fun _ => hN, .inr hnb, by omega, t, _, e2, k2, o3, o4, k3, k4, fun h1 h2 h3 => ?_⟩
  · exact Nat.le_trans (Nat.le_mul_of_pos_left _ hN) (by omega)
  · have hle := hdv h1 (hm0 h2)
    constructor
    · have := Nat.mul_le_mul_left z.natAbs hle
      rw [Nat.mul_comm z.natAbs M] at this
      omega
    · have := Nat.mul_le_mul_left t.natAbs hle
      rw [Nat.mul_comm t.natAbs M] at this
      omega
/-- the greatest common divisor and its coefficients -/
structure Bz (a b g x y : Int) : Prop where
  gg : ((Nat.gcd a.natAbs b.natAbs : Nat) : Int) = g
  e : a * x + b * y = g
  b0 : b = 0 → y = 0 ∧ x.natAbs ≤ 1
  a0 : b ≠ 0 → a = 0 → x = 0 ∧ y.natAbs = 1
  bd : a ≠ 0 → b ≠ 0 → x.natAbs * g.natAbs ≤ b.natAbs ∧ y.natAbs * g.natAbs ≤ a.natAbs
theorem Ex.fin {a b : Int} {M : Nat} {x z : Int} (h : Ex a.natAbs b.natAbs M 0 x z) (u v : Int) (hu : (a = 0 ∧ u = 0) ∨ (a < 0 ∧ u = -x) ∨ (0 < a ∧ u = x)) (hv : (b = 0 ∧ v = 0) ∨ (b ≠ 0 ∧ ((M : Int) - ((a.natAbs : Nat) : Int) * x) / b = v)) : Bz a b M u v := by
  obtain ⟨y, t, e1, _, _, _, _, _, hbd⟩ := h.ex
  have hg : M = Nat.gcd a.natAbs b.natAbs := by rw [← h.g, Nat.gcd_zero_right]
  have hxb := h.xb
  have hau : a * u = ((a.natAbs : Nat) : Int) * x := by
    rcases hu with ⟨rfl, rfl⟩ | ⟨h1, rfl⟩ | ⟨h1, rfl⟩
    · simp
    · rw [show ((a.natAbs : Nat) : Int) = -a by omega, Int.neg_mul, Int.mul_neg]
    · rw [show ((a.natAbs : Nat) : Int) = a by omega]
  have hun : a ≠ 0 → u.natAbs = x.natAbs := fun h0 => by omega
  have hbv : b ≠ 0 → b * v = ((b.natAbs : Nat) : Int) * y ∧ v.natAbs = y.natAbs := fun h0 => by
    obtain ⟨h1, _⟩ | ⟨_, hv⟩ := hv
    · exact absurd h1 h0
    · have e2 : (M : Int) - ((a.natAbs : Nat) : Int) * x = ((b.natAbs : Nat) : Int) * y := by omega
      rw [e2] at hv
      rcases Int.lt_or_gt_of_ne h0 with hn | hp
      · have e3 : ((b.natAbs : Nat) : Int) = -b := by omega
        rw [e3, show -b * y = b * -y by rw [Int.neg_mul, Int.mul_neg], Int.mul_ediv_cancel_left _ h0] at hv
        subst hv
        rw [e3, Int.neg_mul, Int.mul_neg]
        exact ⟨rfl, by omega⟩
      · have e3 : ((b.natAbs : Nat) : Int) = b := by omega
        rw [e3, Int.mul_ediv_cancel_left _ h0] at hv
        subst hv
        rw [e3]
        exact ⟨rfl, rfl⟩
  refine ⟨by rw [hg], ?_, ?_, ?_, ?_⟩
  · by_cases h0 : b = 0
    · subst h0
      rw [hau, Int.zero_mul, Int.add_zero, ← e1]
      simp
    · rw [hau, (hbv h0).1]; exact e1
  · intro h0
    subst h0
    refine ⟨by omega, ?_⟩
    simp at hxb
    omega
  · intro h0 h1
    subst h1
    refine ⟨by omega, ?_⟩
    rw [(hbv h0).2]
    have hM : M = b.natAbs := by rw [hg]; simp
    have hB : 0 < b.natAbs := by omega
    have e3 : ((b.natAbs : Nat) : Int) * y = ((b.natAbs : Nat) : Int) * 1 := by
      simp at e1
      rw [hM] at e1
      omega
    have := Int.eq_of_mul_eq_mul_left (show ((b.natAbs : Nat) : Int) ≠ 0 by omega) e3
    omega
  · intro h0 h1
    obtain ⟨k1, k2⟩ := hbd rfl (by omega) (by omega)
    rw [hun h0, (hbv h1).2, Int.natAbs_natCast]
    exact ⟨k1, k2⟩
end Go.Proofs.Ytaeidephegnkdaa
