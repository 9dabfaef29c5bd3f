/- Rounding: package rational and reference 03 by the executor. -/
import Derived.Test.YtnjannpoemdbaaaGreatVQ
namespace Go.Proofs.YtnjannpoemdbaaaGreat
open Go.RowKit Gm Go.Vx

/-- the nearest integer, of two the even one -/
def rnd (q : Rat) : Int := if 0 < cmpR (2 * (q + -(q.floor : Rat))) 1 ∨ (cmpR (2 * (q + -(q.floor : Rat))) 1 = 0 ∧ q.floor % 2 = 1) then q.floor + 1 else q.floor
theorem rest_eq (N : Int) {D : Nat} (hD : D ≠ 0) : mkRat N D + -((mkRat N D).floor : Rat) = ((N % (D : Int) : Int) : Rat) / ((D : Int) : Rat) := by
  have h0 : ((D : Int) : Rat) ≠ 0 := fun e => hD (by have := Rat.intCast_eq_zero_iff.1 e; omega)
  rw [mkRat_floor hD, ← Rat.divInt_ofNat, Rat.divInt_eq_div]
  have := Int.mul_ediv_add_emod N D
  have e : (N : Rat) = ((D : Int) : Rat) * ((N / (D : Int) : Int) : Rat) + ((N % (D : Int) : Int) : Rat) := by rw [← Rat.intCast_mul, ← Rat.intCast_add, this]
  rw [e]
  grind
theorem cmp_rest (N : Int) {D : Nat} (hD : D ≠ 0) : cmpR (2 * (mkRat N D + -((mkRat N D).floor : Rat))) 1 = cmpI (N % (D : Int) + N % (D : Int)) D := by
  have hp : (0 : Rat) < ((D : Int) : Rat) := Rat.intCast_pos.2 (by omega)
  rw [rest_eq N hD]
  generalize N % (D : Int) = r
  have e : (2 : Rat) * ((r : Rat) / ((D : Int) : Rat)) = ((r + r : Int) : Rat) / ((D : Int) : Rat) := by rw [Rat.intCast_add]; grind
  rw [e]
  unfold cmpR cmpI
  have a1 : ((r + r : Int) : Rat) / ((D : Int) : Rat) < 1 ↔ r + r < (D : Int) := by rw [Rat.div_lt_iff hp, Rat.one_mul, Rat.intCast_lt_intCast]
  have a2 : 1 < ((r + r : Int) : Rat) / ((D : Int) : Rat) ↔ (D : Int) < r + r := by rw [Rat.lt_div_iff hp, Rat.one_mul, Rat.intCast_lt_intCast]
  simp only [a1, a2]
theorem limb_odd (n : Int) : (0 < (limbs n.natAbs).length ∧ ((limbs n.natAbs)[0]?.getD 0) % 2 = 1) ↔ n % 2 = 1 := by
  by_cases h : n.natAbs = 0
  · rw [h, limbs_zero]; simp; omega
  · rw [limbs_pos h]
    simp
    have : n.natAbs % Ba % 2 = n.natAbs % 2 := Nat.mod_mod_of_dvd _ (by decide)
    rw [this]; omega
theorem rob_sz {own : Nat → Prop} {w : World} {q : Rat} {K : Nat} {x : Value} (h : Rob own w (rAv q K) [x]) : Sz q K := by
  obtain ⟨us, e, hu⟩ := h.here
  obtain ⟨b, s, t, _, hi⟩ := cons_nil hu
  exact hi.sz
theorem rnd_near (q : Rat) : (q + -(rnd q : Rat)) * (q + -(rnd q : Rat)) ≤ mkRat 1 4 := by
  have e4 : mkRat 1 4 = 1 / 4 := by rw [Rat.mkRat_eq_div]; rfl
  have h0 := Rat.floor_le q
  have h1 : q - 1 < (q.floor : Rat) := Rat.lt_floor
  have key : -(1/2 : Rat) ≤ q + -(rnd q : Rat) ∧ q + -(rnd q : Rat) ≤ 1/2 := by
    unfold rnd
    split
    · rename_i h
      have h2 : 1 ≤ 2 * (q + -(q.floor : Rat)) := by
        rcases h with h | ⟨h, _⟩
        · exact Rat.le_of_lt (cmpR_gt.1 h)
        · exact Rat.not_lt.1 fun hh => by have := cmpR_lt.2 hh; omega
      rw [Rat.intCast_add]
      simp only [Rat.intCast_one] at *
      constructor <;> grind
    · rename_i h
      have h2 : 2 * (q + -(q.floor : Rat)) ≤ 1 := Rat.not_lt.1 fun hh => h (.inl (cmpR_gt.2 hh))
      constructor <;> grind
  rw [e4]
  have h5 := Rat.mul_nonneg (show (0 : Rat) ≤ 1/2 - (q + -(rnd q : Rat)) by grind) (show (0 : Rat) ≤ 1/2 + (q + -(rnd q : Rat)) by grind)
  grind
set_option smartUnfolding false in
set_option maxRecDepth 100000 in
theorem rWh_x (m : Int) (K : Nat) (hz : SzI m K) (hK : K ≤ 1073741824) : fnOk ⟨TT, specsOf [rIFromInt_s, rMake_s]⟩ Tryz.f14 [nAv m K] (qAv (m : Rat) (K + 3)) := by
  have e : mkRat m 1 = (m : Rat) := Rat.mkRat_one m
  have hs : Sz (mkRat m 1) (K + 3) := Sz.mono (sz_mk (d := 1) hz (szi_nat (n := (1 : Nat)) (by decide))) (by omega)
  (repeat ((conv => whnf); refine And.intro (by first | omega | exact ⟨by omega, trivial⟩ | exact ⟨by omega, by omega⟩ | rfl | exact And.intro rfl (by omega)) ?_)) <;> try (conv => whnf)
  refine ⟨((m : Rat), K + 3), ⟨by omega, by omega, e, by rw [← e]; exact hs⟩, ?_⟩
  (repeat ((conv => whnf); refine And.intro (by first | omega | exact ⟨by omega, trivial⟩ | exact ⟨by omega, by omega⟩ | rfl | exact And.intro rfl (by omega)) ?_)) <;> try (conv => whnf)
  all_goals (repeat' first | exact True.intro | exact rfl | apply And.intro | assumption | omega | (exact Or.inr (by assumption)) | (refine congrArg (Value.int IntKind.i64) ?_; omega))

set_option maxRecDepth 100000 in
def rWh_s : PSpec Tryz.prog := ⟨14, spZ (fun _ K => K ≤ 1073741824) (fun m K => qAv (m : Rat) (K + 3)), spZ_fn (fn := Tryz.f14) (ctx_ok TT_ok [rIFromInt_s, rMake_s]) mixed_ok (by kernel_rfl) (fun m K hz _ hK => rWh_x m K hz hK), by kernel_rfl⟩

end Go.Proofs.YtnjannpoemdbaaaGreat
