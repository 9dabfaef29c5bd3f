/- Approx: Simplest; the checks of law05; RoundTrip and Monotone. -/
import Derived.Test.YtfgkecffpkdjcaaGreatVP
namespace Go.Proofs.YtfgkecffpkdjcaaGreat
open Go.RowKit Gm Go.Vx

theorem mul_den (z : Rat) : z * ((z.den : Int) : Rat) = (z.num : Rat) := by
  have hd : ((z.den : Int) : Rat) ≠ 0 := fun e => z.den_nz (by have := Rat.intCast_eq_zero_iff.1 e; omega)
  have h : z = (z.num : Rat) / ((z.den : Int) : Rat) := by rw [← Rat.divInt_eq_div, Rat.num_divInt_den]
  generalize ((z.den : Int) : Rat) = D at *
  generalize (z.num : Rat) = N at *
  rw [h]; grind
theorem bel_ex (a : Rat) : ∀ k : Nat, ∃ x, IsBelow a ((k : Int) + 1) x := by
  intro k
  induction k with
  | zero =>
    refine ⟨(a.floor : Rat), Rat.floor_le a, by simp, fun y hy hd => ?_⟩
    have h1 : y.den = 1 := by have := y.den_pos; omega
    have h2 : y = (y.num : Rat) := Rat.ext rfl (by rw [h1]; rfl)
    rw [h2] at hy ⊢
    exact Rat.intCast_le_intCast.2 (Rat.le_floor_iff.2 hy)
  | succ k ih =>
    obtain ⟨x, h1, h2, h3⟩ := ih
    have hd : (0 : Rat) < (((k : Int) + 2 : Int) : Rat) := Rat.intCast_pos.2 (by omega)
    have hfl := Rat.floor_le (a * (((k : Int) + 2 : Int) : Rat))
    generalize hn : (a * (((k : Int) + 2 : Int) : Rat)).floor = n at hfl
    have hy1 : Rat.divInt n ((k : Int) + 2) ≤ a := by
      rw [Rat.divInt_eq_div]
      refine Rat.not_lt.1 fun h => ?_
      rw [Rat.lt_div_iff hd] at h
      exact absurd h (Rat.not_lt.2 hfl)
    have hy2 : ((Rat.divInt n ((k : Int) + 2)).den : Int) ≤ (k : Int) + 2 := dI_den_le (by omega)
    have hy3 : ∀ z, z ≤ a → (z.den : Int) = (k : Int) + 2 → z ≤ Rat.divInt n ((k : Int) + 2) := by
      intro z hz hzd
      rw [Rat.divInt_eq_div]
      refine Rat.not_lt.1 fun h => ?_
      rw [Rat.div_lt_iff hd] at h
      have e := mul_den z
      rw [hzd] at e
      rw [e, Rat.intCast_lt_intCast, ← hn] at h
      have h5 : (z.num : Rat) ≤ a * (((k : Int) + 2 : Int) : Rat) := by
        rw [← e]; exact Rat.mul_le_mul_of_nonneg_right hz (Rat.le_of_lt hd)
      have := Rat.le_floor_iff.2 h5
      omega
    rcases Rat.le_total (a := x) (b := Rat.divInt n ((k : Int) + 2)) with hc | hc
    · refine ⟨_, hy1, by omega, fun z hz hzd => ?_⟩
      by_cases hzk : (z.den : Int) = (k : Int) + 2
      · exact hy3 z hz hzk
      · exact Rat.le_trans (h3 z hz (by omega)) hc
    · refine ⟨x, h1, by omega, fun z hz hzd => ?_⟩
      by_cases hzk : (z.den : Int) = (k : Int) + 2
      · exact Rat.le_trans (hy3 z hz hzk) hc
      · exact h3 z hz (by omega)
theorem bel_ok (a : Rat) {M : Int} (h : 1 ≤ M) : IsBelow a M (bel a M) := by
  obtain ⟨x, hx⟩ := bel_ex a (M - 1).toNat
  rw [show (((M - 1).toNat : Int) + 1) = M by omega] at hx
  rw [bel_eq hx]; exact hx
theorem abv_ok (a : Rat) {M : Int} (h : 1 ≤ M) : IsAbove a M (abv a M) := by
  have hx := (bel_ok (-a) h).neg
  rw [abv_eq hx]; exact hx
theorem _root_.Go.Vx.Rob.sz {own : Nat → Prop} {w : World} {q : Rat} {K : Nat} {x : Value} (h : Rob own w (rAv q K) [x]) : Sz q K := by
  obtain ⟨us, e, hu⟩ := h.here
  obtain ⟨b, s, t, _, hi⟩ := cons_nil hu
  exact hi.sz
end Go.Proofs.YtfgkecffpkdjcaaGreat
