/- Reference 05: Below, Above; ApproxBounds by the executor. -/
import Derived.Test.YtnjannpoemdbaaaGreatVX
import Derived.Test.YtnjannpoemdbaaaGreatVU
namespace Go.Proofs.YtnjannpoemdbaaaGreat
open Go.RowKit Gm Go.Vx

theorem fl_ge (a : Rat) : -(a.num.natAbs : Int) ≤ a.floor := by
  refine Rat.le_floor_iff.2 ?_
  rw [Rat.le_iff]
  show -(a.num.natAbs : Int) * (a.den : Int) ≤ a.num * 1
  have h1 := a.den_pos
  have h2 : (a.num.natAbs : Int) * 1 ≤ (a.num.natAbs : Int) * (a.den : Int) := Int.mul_le_mul_of_nonneg_left (by omega) (Int.natCast_nonneg _)
  rw [Int.neg_mul]
  generalize (a.num.natAbs : Int) * (a.den : Int) = z at *
  omega
theorem fl_sz {a v : Rat} {K : Nat} {D : Int} (hz : Sz a K) (h1 : (a.floor : Rat) ≤ v) (h2 : v ≤ a) (h3 : (v.den : Int) ≤ D) (hD : D ≤ 1048576) : Sz v (K + 1) := by
  have hd : (limbs v.den).length ≤ 1 := limbs_length_lt (by rw [Nat.pow_one, Ba_eq]; omega)
  refine ⟨?_, by omega⟩
  have hu : v.num * (a.den : Int) ≤ a.num * (v.den : Int) := (Rat.le_iff _ _).1 h2
  have hl : a.floor * (v.den : Int) ≤ v.num * 1 := (Rat.le_iff _ _).1 h1
  have hf := fl_ge a
  have hp := a.den_pos
  have hq := v.den_pos
  have k1 : a.num * (v.den : Int) ≤ (a.num.natAbs : Int) * (v.den : Int) := Int.mul_le_mul_of_nonneg_right (by omega) (by omega)
  have k2 : -(a.num.natAbs : Int) * (v.den : Int) ≤ a.floor * (v.den : Int) := Int.mul_le_mul_of_nonneg_right hf (by omega)
  rw [Int.neg_mul] at k2
  have k3 : 0 ≤ v.num → v.num * 1 ≤ v.num * (a.den : Int) := fun h => Int.mul_le_mul_of_nonneg_left (by omega) h
  have k4 : 0 ≤ (a.num.natAbs : Int) * (v.den : Int) := Int.mul_nonneg (by omega) (by omega)
  have k5 : v.num.natAbs ≤ a.num.natAbs * v.den := by
    have e : ((a.num.natAbs * v.den : Nat) : Int) = (a.num.natAbs : Int) * (v.den : Int) := Int.natCast_mul _ _
    generalize (a.num.natAbs : Int) * (v.den : Int) = z at *
    generalize a.num.natAbs * v.den = zz at *
    generalize a.num * (v.den : Int) = z2 at *
    generalize a.floor * (v.den : Int) = z3 at *
    generalize v.num * (a.den : Int) = z4 at *
    by_cases h : 0 ≤ v.num
    · have := k3 h; omega
    · omega
  refine Nat.le_trans (limbs_mono k5) (Nat.le_trans (limbs_mul_le _ _) ?_)
  have := hz.1
  omega
theorem bel_sz {a : Rat} {K : Nat} {D : Int} (hz : Sz a K) (h1 : 1 ≤ D) (hD : D ≤ 1048576) : Sz (bel a D) (K + 1) := by
  have hb := bel_ok a h1
  exact fl_sz hz (hb.2.2 _ (Rat.floor_le a) (by show ((1 : Nat) : Int) ≤ D; omega)) hb.1 hb.2.1 hD
theorem bel_one (a : Rat) : (a.floor : Rat) = bel a 1 := by
  refine (bel_eq ⟨Rat.floor_le a, by simp, fun y hy hd => ?_⟩).symm
  have h1 : y.den = 1 := by have := y.den_pos; omega
  have h2 : y = (y.num : Rat) := Rat.ext rfl (by rw [h1]; rfl)
  rw [h2] at hy ⊢
  exact Rat.intCast_le_intCast.2 (Rat.le_floor_iff.2 hy)
theorem maxQ_cases (r s : Rat) : (maxQ r s = r ∧ s ≤ r) ∨ (maxQ r s = s ∧ r ≤ s) := by
  unfold maxQ
  split
  · rename_i h
    exact .inl ⟨rfl, Rat.not_lt.1 fun hh => by have := cmpR_lt.2 hh; omega⟩
  · rename_i h
    refine .inr ⟨rfl, Rat.not_lt.1 fun hh => ?_⟩
    have := cmpR_gt.2 hh; omega
/-- the best number with the denominator d -/
theorem bel_y (a : Rat) {d : Int} (hd : 1 ≤ d) : Rat.divInt (a * (d : Rat)).floor d ≤ a ∧ ((Rat.divInt (a * (d : Rat)).floor d).den : Int) ≤ d ∧ (a.floor : Rat) ≤ Rat.divInt (a * (d : Rat)).floor d ∧ ∀ z, z ≤ a → (z.den : Int) = d → z ≤ Rat.divInt (a * (d : Rat)).floor d := by
  have hd0 : (0 : Rat) < (d : Rat) := Rat.intCast_pos.2 (by omega)
  have hfl := Rat.floor_le (a * (d : Rat))
  generalize hn : (a * (d : Rat)).floor = n at hfl
  refine ⟨?_, dI_den_le (by omega), ?_, ?_⟩
  · rw [Rat.divInt_eq_div]
    refine Rat.not_lt.1 fun h => ?_
    rw [Rat.lt_div_iff hd0] at h
    exact absurd h (Rat.not_lt.2 hfl)
  · rw [Rat.divInt_eq_div]
    refine Rat.not_lt.1 fun h => ?_
    rw [Rat.div_lt_iff hd0, ← Rat.intCast_mul, Rat.intCast_lt_intCast, ← hn] at h
    have h5 : ((a.floor * d : Int) : Rat) ≤ a * (d : Rat) := by
      rw [Rat.intCast_mul]; exact Rat.mul_le_mul_of_nonneg_right (Rat.floor_le a) (Rat.le_of_lt hd0)
    have := Rat.le_floor_iff.2 h5
    omega
  · intro z hz hzd
    rw [Rat.divInt_eq_div]
    refine Rat.not_lt.1 fun h => ?_
    rw [Rat.div_lt_iff hd0] at h
    have e := mul_den z
    rw [hzd] at e
    rw [e, Rat.intCast_lt_intCast, ← hn] at h
    have h5 : (z.num : Rat) ≤ a * (d : Rat) := by
      rw [← e]; exact Rat.mul_le_mul_of_nonneg_right hz (Rat.le_of_lt hd0)
    have := Rat.le_floor_iff.2 h5
    omega
theorem bel_step (a : Rat) (k : Nat) : maxQ (bel a ((k : Int) + 1)) (Rat.divInt (a * (((k : Int) + 2 : Int) : Rat)).floor ((k : Int) + 2)) = bel a ((k : Int) + 2) := by
  have hb := bel_ok a (M := (k : Int) + 1) (by omega)
  have hy := bel_y a (d := (k : Int) + 2) (by omega)
  have hb1 := hb.2.1
  have hy1 := hy.2.1
  refine (bel_eq ?_).symm
  rcases maxQ_cases (bel a ((k : Int) + 1)) (Rat.divInt (a * (((k : Int) + 2 : Int) : Rat)).floor ((k : Int) + 2)) with ⟨e, hc⟩ | ⟨e, hc⟩
  · rw [e]
    refine ⟨hb.1, by omega, fun z hz hzd => ?_⟩
    by_cases hzk : (z.den : Int) = (k : Int) + 2
    · exact Rat.le_trans (hy.2.2.2 z hz hzk) hc
    · exact hb.2.2 z hz (by omega)
  · rw [e]
    refine ⟨hy.1, by omega, fun z hz hzd => ?_⟩
    by_cases hzk : (z.den : Int) = (k : Int) + 2
    · exact hy.2.2.2 z hz hzk
    · exact Rat.le_trans (hb.2.2 z hz (by omega)) hc
theorem bel_y_sz {a : Rat} {K : Nat} {d : Int} (hz : Sz a K) (hd : 1 ≤ d) (hD : d ≤ 1048576) : Sz (Rat.divInt (a * (d : Rat)).floor d) (K + 1) := by
  have hy := bel_y a hd
  exact fl_sz hz hy.2.2.1 hy.1 hy.2.1 hD
theorem sz_neg {q : Rat} {K : Nat} (h : Sz q K) : Sz (-q) K := by
  unfold Sz at *; rw [Rat.neg_num, Rat.neg_den, Int.natAbs_neg]; exact h
theorem abv_bel' {q : Rat} {d : Int} (hd : 1 ≤ d) : abv q d = -(bel (-q) d) := abv_eq (bel_ok (-q) hd).neg
set_option smartUnfolding false in
set_option maxRecDepth 100000 in
theorem rbel_x (q : Rat) (K : Nat) (D : Int) (g : Bool) (hz : Sz q K) (hg : g = true ↔ 1 ≤ D) (hD : D ≤ 1048576) (hK : K ≤ 1048576) : fnOk ⟨TT, specsOf [rRFloor_s, rWh_s, rRFromInt_s, rRMul_s, rIFromInt_s, rMake_s, rRMax_s]⟩ Tryz.f6 [rAv q K, .val (.int .i64 D)] (optAv (bel q D) (K + 1) g) := by
  cases g with
  | false =>
    have h0 : ¬ 1 ≤ D := fun h => by have := hg.2 h; cases this
    (repeat ((conv=>whnf);refine And.intro (by first|omega|exact True.intro|rfl|(constructor<;>first|omega|rfl|exact True.intro)|(dsimp only;omega)) ?_))<;>try (conv=>whnf)
    refine And.intro (fun _ => ?_) (fun h => absurd (of_decide_eq_false h) (by omega))
    (repeat ((conv=>whnf);refine And.intro (by first|omega|exact True.intro|rfl|(constructor<;>first|omega|rfl|exact True.intro)|(dsimp only;omega)) ?_))<;>try (conv=>whnf)
    all_goals (repeat' first|exact True.intro|exact rfl|apply And.intro|assumption|omega|exact Or.inr (by assumption)|(refine congrArg (Value.int .i64) ?_;omega))
  | true =>
    have h1 : 1 ≤ D := hg.1 rfl
    (repeat ((conv=>whnf);refine And.intro (by first|omega|exact True.intro|rfl|(constructor<;>first|omega|rfl|exact True.intro)|(dsimp only;omega)) ?_))<;>try (conv=>whnf)
    refine And.intro (fun h => absurd (of_decide_eq_true h) (by omega)) (fun _ => ?_)
    have e1 := bel_one q
    (repeat ((conv=>whnf);refine And.intro (by first|omega|exact True.intro|rfl|(constructor<;>first|omega|rfl|exact True.intro)|(dsimp only;omega)) ?_))<;>try (conv=>whnf)
    refine ⟨⟨Nat, fun k => (k : Int) + 1 ≤ D, fun k => [.slot 7 (.val (.int .i64 ((k : Int) + 2))), .obj 6 (.cons (.ratC (bel q ((k : Int) + 1)) (K + 1)) .nil)], fun k => (D - k).toNat, 0⟩, 0, by omega, ?_⟩
    have z1 := bel_sz (D := 1) hz (by omega) (by omega)
    have z0 : Sz (q.floor : Rat) (K + 1) := by rw [e1]; exact z1
    conv => whnf
    refine And.intro ?_ ?_
    · all_goals (repeat' first|exact True.intro|exact rfl|apply And.intro|assumption|omega|exact Or.inr (by assumption)|(refine congrArg (Value.int .i64) ?_;omega))
    conv => whnf
    rintro k h2
    (repeat ((conv=>whnf);refine And.intro (by first|omega|exact True.intro|rfl|(constructor<;>first|omega|rfl|exact True.intro)|(dsimp only;omega)) ?_))<;>try (conv=>whnf)
    refine And.intro (fun h5 => ?_) (fun h5 => ?_)
    · have h6 : (k : Int) + 2 ≤ D := of_decide_eq_true h5
      have w1 : IntKind.i64.wrap ((k : Int) + 2 + 1) = (k : Int) + 2 + 1 := w64 (by omega) (by omega)
      have z2 := bel_y_sz (d := (k : Int) + 2) hz (by omega) (by omega)
      have z3 := bel_sz (D := (k : Int) + 2) hz (by omega) (by omega)
      have e2 := bel_step q k
      have e3 : mkRat (q * mkRat ((k : Int) + 2) 1).floor ((k : Int) + 2).toNat = Rat.divInt (q * (((k : Int) + 2 : Int) : Rat)).floor ((k : Int) + 2) := by
        rw [Rat.mkRat_one, show ((k : Int) + 2).toNat = k + 2 by omega]
        exact (Rat.divInt_ofNat _ (k + 2)).symm
      (repeat ((conv=>whnf);refine And.intro (by first|omega|exact True.intro|rfl|(constructor<;>first|omega|rfl|exact True.intro)|(dsimp only;omega)) ?_))<;>try (conv=>whnf)
      refine ⟨(Rat.divInt (q * (((k : Int) + 2 : Int) : Rat)).floor ((k : Int) + 2), K + 1), ⟨by omega, by omega, e3, z2⟩, ?_⟩
      (repeat ((conv=>whnf);refine And.intro (by first|omega|exact True.intro|rfl|(constructor<;>first|omega|rfl|exact True.intro)|(dsimp only;omega)) ?_))<;>try (conv=>whnf)
      refine ⟨k + 1, (show ((k + 1 : Nat) : Int) + 1 ≤ D by omega), (show (D - ((k + 1 : Nat) : Int)).toNat < (D - (k : Int)).toNat by omega), ?_⟩
      conv => whnf
      all_goals (repeat' first|exact True.intro|exact rfl|apply And.intro|assumption|omega|exact Or.inr (by assumption)|(refine congrArg (Value.int .i64) ?_;omega))
      exact Or.inr (show Sz (maxQ (bel q ((k : Int) + 1)) (Rat.divInt (q * (((k : Int) + 2 : Int) : Rat)).floor ((k : Int) + 2))) (K + 1) from by rw [e2]; exact z3)
    · have h6 : ¬ (k : Int) + 2 ≤ D := of_decide_eq_false h5
      obtain rfl : D = (k : Int) + 1 := by omega
      (repeat ((conv=>whnf);refine And.intro (by first|omega|exact True.intro|rfl|(constructor<;>first|omega|rfl|exact True.intro)|(dsimp only;omega)) ?_))<;>try (conv=>whnf)
      all_goals (repeat' first|exact True.intro|exact rfl|apply And.intro|assumption|omega|exact Or.inr (by assumption)|(refine congrArg (Value.int .i64) ?_;omega))

set_option maxRecDepth 100000 in
noncomputable def rbel_s : PSpec Tryz.prog := ⟨6, ghSpec (((Rat × Int) × Nat) × Bool) (fun | (((c0, c1), c2), _) => [rAv c0 c2, .val (.int .i64 c1)]) (fun | (((c0, c1), c2), c3) => Sz c0 c2 ∧ (c3 = true ↔ 1 ≤ c1) ∧ c1 ≤ 1048576 ∧ c2 ≤ 1048576) (fun | (((c0, c1), c2), c3) => optAv (bel c0 c1) (c2 + 1) c3), ghSpec_ok (fn := Tryz.f6) (ctx_ok TT_ok [rRFloor_s, rWh_s, rRFromInt_s, rRMul_s, rIFromInt_s, rMake_s, rRMax_s]) mixed_ok (by kernel_rfl) (fun | (((c0, c1), c2), c3), hp => rbel_x c0 c2 c1 c3 hp.1 hp.2.1 hp.2.2.1 hp.2.2.2), by kernel_rfl⟩

set_option smartUnfolding false in
set_option maxRecDepth 100000 in
theorem rabv_x (q : Rat) (K : Nat) (D : Int) (g : Bool) (hz : Sz q K) (hg : g = true ↔ 1 ≤ D) (hD : D ≤ 1048576) (hK : K ≤ 1048576) : fnOk ⟨TT, specsOf [rRNeg_s, rbel_s]⟩ Tryz.f8 [rAv q K, .val (.int .i64 D)] (optAv (abv q D) (K + 1) g) := by
  cases g with
  | false =>
    (repeat ((conv=>whnf);refine And.intro (by first|omega|exact True.intro|rfl|(constructor<;>first|omega|rfl|exact True.intro)|(dsimp only;omega)) ?_))<;>try (conv=>whnf)
    refine ⟨(((-q, D), K), false), ⟨⟨sz_neg hz, hg, hD, hK⟩, And.intro (And.intro (And.intro rfl (.inl (Nat.le_refl K))) True.intro) (And.intro rfl True.intro)⟩, ?_⟩
    (repeat ((conv=>whnf);refine And.intro (by first|omega|exact True.intro|rfl|(constructor<;>first|omega|rfl|exact True.intro)|(dsimp only;omega)) ?_))<;>try (conv=>whnf)
    all_goals (repeat' first|exact True.intro|exact rfl|apply And.intro|assumption|omega|exact Or.inr (by assumption)|(refine congrArg (Value.int .i64) ?_;omega))
  | true =>
    have e1 := abv_bel' (q := q) (hg.1 rfl)
    (repeat ((conv=>whnf);refine And.intro (by first|omega|exact True.intro|rfl|(constructor<;>first|omega|rfl|exact True.intro)|(dsimp only;omega)) ?_))<;>try (conv=>whnf)
    refine ⟨(((-q, D), K), true), ⟨⟨sz_neg hz, hg, hD, hK⟩, And.intro (And.intro (And.intro rfl (.inl (Nat.le_refl K))) True.intro) (And.intro rfl True.intro)⟩, ?_⟩
    (repeat ((conv=>whnf);refine And.intro (by first|omega|exact True.intro|rfl|(constructor<;>first|omega|rfl|exact True.intro)|(dsimp only;omega)) ?_))<;>try (conv=>whnf)
    all_goals (repeat' first|exact True.intro|exact rfl|apply And.intro|assumption|omega|exact Or.inr (by assumption)|(refine congrArg (Value.int .i64) ?_;omega))
    exact e1.symm

set_option maxRecDepth 100000 in
noncomputable def rabv_s : PSpec Tryz.prog := ⟨8, ghSpec (((Rat × Int) × Nat) × Bool) (fun | (((c0, c1), c2), _) => [rAv c0 c2, .val (.int .i64 c1)]) (fun | (((c0, c1), c2), c3) => Sz c0 c2 ∧ (c3 = true ↔ 1 ≤ c1) ∧ c1 ≤ 1048576 ∧ c2 ≤ 1048576) (fun | (((c0, c1), c2), c3) => optAv (abv c0 c1) (c2 + 1) c3), ghSpec_ok (fn := Tryz.f8) (ctx_ok TT_ok [rRNeg_s, rbel_s]) mixed_ok (by kernel_rfl) (fun | (((c0, c1), c2), c3), hp => rabv_x c0 c2 c1 c3 hp.1 hp.2.1 hp.2.2.1 hp.2.2.2), by kernel_rfl⟩

set_option smartUnfolding false in
set_option maxRecDepth 100000 in
theorem bnds_x (q : Rat) (K : Nat) (m : Int) (hz : Sz q K) (hK : K ≤ 1048576) (hm : -128 ≤ m ∧ m ≤ 127) : fnOk ⟨TT, specsOf [rIFromInt_s, below_s, rbel_s, above_s, rabv_s, awake5_s, rREq_s]⟩ Tryz.f3 [rAv q K, .val (.int .i8 m)] (.val (.bool true)) := by
  have w1 : IntKind.i64.wrap m = m := w64 (by omega) (by omega)
  have hM : IntKind.i64.wrap m ≤ 1048576 := by rw [w1]; omega
  obtain ⟨g, hg⟩ : ∃ g : Bool, g = true ↔ 1 ≤ IntKind.i64.wrap m := ⟨decide (1 ≤ IntKind.i64.wrap m), decide_eq_true_iff⟩
  (repeat ((conv=>whnf);refine And.intro (by first|omega|exact True.intro|rfl|(constructor<;>first|omega|rfl|exact True.intro)|(dsimp only;omega)) ?_))<;>try (conv=>whnf)
  refine ⟨g, ⟨by omega, by omega, by omega, hg.1, hg.2⟩, ?_⟩
  cases g with
  | false =>
    (repeat ((conv=>whnf);refine And.intro (by first|omega|exact True.intro|rfl|(constructor<;>first|omega|rfl|exact True.intro)|(dsimp only;omega)) ?_))<;>try (conv=>whnf)
    refine ⟨(((q, IntKind.i64.wrap m), K), false), ⟨⟨hz, hg, hM, hK⟩, And.intro (And.intro (And.intro rfl (Nat.le_refl K)) True.intro) (And.intro rfl True.intro)⟩, ?_⟩
    (repeat ((conv=>whnf);refine And.intro (by first|omega|exact True.intro|rfl|(constructor<;>first|omega|rfl|exact True.intro)|(dsimp only;omega)) ?_))<;>try (conv=>whnf)
    refine ⟨false, ⟨by omega, by omega, by omega, hg.1, hg.2⟩, ?_⟩
    (repeat ((conv=>whnf);refine And.intro (by first|omega|exact True.intro|rfl|(constructor<;>first|omega|rfl|exact True.intro)|(dsimp only;omega)) ?_))<;>try (conv=>whnf)
    refine ⟨(((q, IntKind.i64.wrap m), K), false), ⟨⟨hz, hg, hM, hK⟩, And.intro (And.intro (And.intro rfl (Nat.le_refl K)) True.intro) (And.intro rfl True.intro)⟩, ?_⟩
    (repeat ((conv=>whnf);refine And.intro (by first|omega|exact True.intro|rfl|(constructor<;>first|omega|rfl|exact True.intro)|(dsimp only;omega)) ?_))<;>try (conv=>whnf)
    (repeat' (first | (refine And.intro (fun h => ?_) (fun _ => ?_); focus (exfalso; revert h; first | decide | (simp; done))) | (refine And.intro (fun _ => ?_) (fun h => ?_); rotate_left; focus (exfalso; revert h; first | decide | (simp; done))) | ((conv => whnf); refine And.intro (by first|omega|exact True.intro|rfl|(constructor<;>first|omega|rfl|exact True.intro)|(dsimp only;omega)) ?_) | fail))<;>try (conv => whnf)
    all_goals (repeat' first|exact True.intro|exact rfl|apply And.intro|assumption|omega|exact Or.inr (by assumption)|(refine congrArg (Value.int .i64) ?_;omega))
  | true =>
    (repeat ((conv=>whnf);refine And.intro (by first|omega|exact True.intro|rfl|(constructor<;>first|omega|rfl|exact True.intro)|(dsimp only;omega)) ?_))<;>try (conv=>whnf)
    refine ⟨(((q, IntKind.i64.wrap m), K), true), ⟨⟨hz, hg, hM, hK⟩, And.intro (And.intro (And.intro rfl (Nat.le_refl K)) True.intro) (And.intro rfl True.intro)⟩, ?_⟩
    (repeat ((conv=>whnf);refine And.intro (by first|omega|exact True.intro|rfl|(constructor<;>first|omega|rfl|exact True.intro)|(dsimp only;omega)) ?_))<;>try (conv=>whnf)
    refine ⟨true, ⟨by omega, by omega, by omega, hg.1, hg.2⟩, ?_⟩
    (repeat ((conv=>whnf);refine And.intro (by first|omega|exact True.intro|rfl|(constructor<;>first|omega|rfl|exact True.intro)|(dsimp only;omega)) ?_))<;>try (conv=>whnf)
    refine ⟨(((q, IntKind.i64.wrap m), K), true), ⟨⟨hz, hg, hM, hK⟩, And.intro (And.intro (And.intro rfl (Nat.le_refl K)) True.intro) (And.intro rfl True.intro)⟩, ?_⟩
    (repeat ((conv=>whnf);refine And.intro (by first|omega|exact True.intro|rfl|(constructor<;>first|omega|rfl|exact True.intro)|(dsimp only;omega)) ?_))<;>try (conv=>whnf)
    (repeat' (first | (refine And.intro (fun h => ?_) (fun _ => ?_); focus (exfalso; revert h; first | decide | (simp; done))) | (refine And.intro (fun _ => ?_) (fun h => ?_); rotate_left; focus (exfalso; revert h; first | decide | (simp; done))) | ((conv => whnf); refine And.intro (by first|omega|exact True.intro|rfl|(constructor<;>first|omega|rfl|exact True.intro)|(dsimp only;omega)) ?_) | fail))<;>try (conv => whnf)
    exact congrArg Value.bool (decide_eq_true rfl)

set_option maxRecDepth 100000 in
theorem bnds_walk (p0 : Bool) (A0 : Option Addr) (xs0 : List Nat) (c0 : Nat) (B0 : Option Addr) (ys0 : List Nat) (d0 : Nat) (a1 : Int) (w : World) (h0 : Lim w A0 c0 xs0) (g0 : Lim w B0 d0 ys0) (k0 : xs0.length ≤ 1048576) (l0 : ys0.length ≤ 1048576) (e1 : -128 ≤ a1 ∧ a1 ≤ 127) :
    Calls Tryz.prog 3 #[.agg #[.bool p0, .slice A0 xs0.length c0, .slice B0 ys0.length d0], .int .i8 a1] w (RetB w true) :=
  call_b (fn_ok (own := fun _ => False) (ctx_ok TT_ok [rIFromInt_s, below_s, rbel_s, above_s, rabv_s, awake5_s, rREq_s]) mixed_ok (fn := Tryz.f3) (by kernel_rfl) (bnds_x _ 1048576 a1 (rob_sz (rob_rat p0 h0 g0 k0 l0 (by decide))) (Nat.le_refl _) e1) (fun _ h => h.elim) (.cons (rob_rat p0 h0 g0 k0 l0 (by decide)) (.cons (fun _ _ => rfl) .nil)))
end Go.Proofs.YtnjannpoemdbaaaGreat
