/- Approx: Simplest; the checks of law05; RoundTrip and Monotone. -/
import Derived.Test.YtnjannpoemdbaaaGreatVP
namespace Go.Proofs.YtnjannpoemdbaaaGreat
open Go.RowKit Gm Go.Vx

theorem sim_neg {lo hi : Rat} (h0 : hi < 0) (hle : lo ≤ hi) : -sim (-hi) (-lo) = sim lo hi := by
  have hb := best_neg (sim_pos (lo := -hi) (hi := -lo) (by grind) (by grind))
  rw [Rat.neg_neg, Rat.neg_neg] at hb
  exact (sim_eq hb).symm
theorem sim_zero {lo hi : Rat} (h0 : ¬ 0 < lo) (h1 : ¬ hi < 0) : sim lo hi = 0 := sim_eq (best_zero (Rat.not_lt.1 h0) (Rat.not_lt.1 h1))
theorem sim_best {lo hi : Rat} (hle : lo ≤ hi) : Best lo hi (sim lo hi) := by
  by_cases h0 : 0 < lo
  · exact sim_pos h0 hle
  · by_cases h1 : hi < 0
    · rw [← sim_neg h1 hle]
      have hb := best_neg (sim_pos (lo := -hi) (hi := -lo) (by grind) (by grind))
      rw [Rat.neg_neg, Rat.neg_neg] at hb
      exact hb
    · rw [sim_zero h0 h1]; exact best_zero (Rat.not_lt.1 h0) (Rat.not_lt.1 h1)
theorem mk01 : mkRat 0 1 = 0 := rfl
theorem cf415 : cfq (mkRat 415 93) = [4, 2, 6, 7] := by
  show cf 415 93 = _
  rw [cf_pos _ (by decide), show ((415 : Int) % ((93 : Nat) : Int)).toNat = 43 from rfl, cf_pos _ (by decide), show ((((93 : Nat) : Int)) % ((43 : Nat) : Int)).toNat = 7 from rfl, cf_pos _ (by decide), show ((((43 : Nat) : Int)) % ((7 : Nat) : Int)).toNat = 1 from rfl, cf_pos _ (by decide), show ((((7 : Nat) : Int)) % ((1 : Nat) : Int)).toNat = 0 from rfl, cf_zero]
  rfl
theorem sim310 : sim (mkRat 3 10) (mkRat 2 5) = mkRat 1 3 := by
  refine sim_eq ⟨by decide, by decide, fun y h1 h2 => ?_⟩
  rw [Rat.le_iff] at h1 h2
  have e1 : (mkRat 3 10).num = 3 ∧ (mkRat 3 10).den = 10 := ⟨by decide, by decide⟩
  have e2 : (mkRat 2 5).num = 2 ∧ (mkRat 2 5).den = 5 := ⟨by decide, by decide⟩
  have e3 : (mkRat 1 3).num = 1 ∧ (mkRat 1 3).den = 3 := ⟨by decide, by decide⟩
  rw [e1.1, e1.2] at h1
  rw [e2.1, e2.2] at h2
  rw [e3.1, e3.2]
  have h5 := y.den_pos
  have h6 : y.den = 1 ∨ y.den = 2 ∨ 3 ≤ y.den := by omega
  rcases h6 with h6 | h6 | h6
  · rw [h6] at h1 h2; omega
  · rw [h6] at h1 h2; omega
  · omega
theorem nb355 : IsBelow (mkRat 355 113) 10 (mkRat 25 8) ∧ IsAbove (mkRat 355 113) 10 (mkRat 22 7) := by
  have h := Gm.neighbors (a := mkRat 355 113) (M := 10) (p := 25) (s := 8) (p' := 22) (s' := 7) (by decide) (by decide) (by decide) (by decide) (by decide) (by decide) (by decide) (by decide)
  exact h
theorem lit4 : ∀ i, i < ([4, 2, 6, 7] : List Int).length → fitC (zl [4, 2, 6, 7] 5 i) (nthp .nil [.cons (.intC 4 2) .nil, .cons (.intC 2 2) .nil, .cons (.intC 6 2) .nil, .cons (.intC 7 2) .nil] i) := by
  intro i hi
  rcases i with _ | _ | _ | _ | i
  · exact And.intro (And.intro rfl (.inl (by omega))) True.intro
  · exact And.intro (And.intro rfl (.inl (by omega))) True.intro
  · exact And.intro (And.intro rfl (.inl (by omega))) True.intro
  · exact And.intro (And.intro rfl (.inl (by omega))) True.intro
  · simp at hi; omega
theorem mul_den (z : Rat) : z * ((z.den : Int) : Rat) = (z.num : Rat) := by
  have hd : ((z.den : Int) : Rat) ≠ 0 := fun e => z.den_nz (by have := Rat.intCast_eq_zero_iff.1 e; omega)
  have h : z = (z.num : Rat) / ((z.den : Int) : Rat) := by rw [← Rat.divInt_eq_div, Rat.num_divInt_den]
  generalize ((z.den : Int) : Rat) = D at *
  generalize (z.num : Rat) = N at *
  rw [h]; grind
theorem bel_ex (a : Rat) : ∀ k : Nat, ∃ x, IsBelow a ((k : Int) + 1) x := by
  intro k
  induction k with
  | zero =>
    refine ⟨(a.floor : Rat), Rat.floor_le a, by simp, fun y hy hd => ?_⟩
    have h1 : y.den = 1 := by have := y.den_pos; omega
    have h2 : y = (y.num : Rat) := Rat.ext rfl (by rw [h1]; rfl)
    rw [h2] at hy ⊢
    exact Rat.intCast_le_intCast.2 (Rat.le_floor_iff.2 hy)
  | succ k ih =>
    obtain ⟨x, h1, h2, h3⟩ := ih
    have hd : (0 : Rat) < (((k : Int) + 2 : Int) : Rat) := Rat.intCast_pos.2 (by omega)
    have hfl := Rat.floor_le (a * (((k : Int) + 2 : Int) : Rat))
    generalize hn : (a * (((k : Int) + 2 : Int) : Rat)).floor = n at hfl
    have hy1 : Rat.divInt n ((k : Int) + 2) ≤ a := by
      rw [Rat.divInt_eq_div]
      refine Rat.not_lt.1 fun h => ?_
      rw [Rat.lt_div_iff hd] at h
      exact absurd h (Rat.not_lt.2 hfl)
    have hy2 : ((Rat.divInt n ((k : Int) + 2)).den : Int) ≤ (k : Int) + 2 := dI_den_le (by omega)
    have hy3 : ∀ z, z ≤ a → (z.den : Int) = (k : Int) + 2 → z ≤ Rat.divInt n ((k : Int) + 2) := by
      intro z hz hzd
      rw [Rat.divInt_eq_div]
      refine Rat.not_lt.1 fun h => ?_
      rw [Rat.div_lt_iff hd] at h
      have e := mul_den z
      rw [hzd] at e
      rw [e, Rat.intCast_lt_intCast, ← hn] at h
      have h5 : (z.num : Rat) ≤ a * (((k : Int) + 2 : Int) : Rat) := by
        rw [← e]; exact Rat.mul_le_mul_of_nonneg_right hz (Rat.le_of_lt hd)
      have := Rat.le_floor_iff.2 h5
      omega
    rcases Rat.le_total (a := x) (b := Rat.divInt n ((k : Int) + 2)) with hc | hc
    · refine ⟨_, hy1, by omega, fun z hz hzd => ?_⟩
      by_cases hzk : (z.den : Int) = (k : Int) + 2
      · exact hy3 z hz hzk
      · exact Rat.le_trans (h3 z hz (by omega)) hc
    · refine ⟨x, h1, by omega, fun z hz hzd => ?_⟩
      by_cases hzk : (z.den : Int) = (k : Int) + 2
      · exact Rat.le_trans (hy3 z hz hzk) hc
      · exact h3 z hz (by omega)
theorem bel_ok (a : Rat) {M : Int} (h : 1 ≤ M) : IsBelow a M (bel a M) := by
  obtain ⟨x, hx⟩ := bel_ex a (M - 1).toNat
  rw [show (((M - 1).toNat : Int) + 1) = M by omega] at hx
  rw [bel_eq hx]; exact hx
theorem abv_ok (a : Rat) {M : Int} (h : 1 ≤ M) : IsAbove a M (abv a M) := by
  have hx := (bel_ok (-a) h).neg
  rw [abv_eq hx]; exact hx
theorem rt_fc {a : Rat} {K : Nat} (hz : Sz a K) (hK : K ≤ 1048576) : FcOk (cfq a) K (K + 1) := by
  have h1 := hz.one
  have hl := cfq_len hz
  refine ⟨fok_cfq a, by omega, by omega, by omega, fun j => ?_⟩
  rcases Nat.eq_zero_or_pos j with rfl | hj
  · rw [List.drop_zero, cv_cfq]; exact szi_le (m := a.num.natAbs) (Nat.le_refl _) (Nat.le_trans hz.1 (Nat.le_succ K))
  · have := cv_drop_le a (cfq a).length hj
    rw [List.take_length] at this
    exact szi_le (m := a.den) (by omega) (Nat.le_trans hz.2 (Nat.le_succ K))
theorem cfq_pos (a : Rat) {i : Nat} (h1 : 1 ≤ i) (hi : i < (cfq a).length) : 1 ≤ (cfq a).getD i 0 ∧ (i + 1 = (cfq a).length → 2 ≤ (cfq a).getD i 0) := by
  obtain ⟨p, l⟩ := cfq_drop a h1
  have e : (cfq a).drop i = (cfq a)[i] :: (cfq a).drop (i + 1) := List.drop_eq_getElem_cons hi
  have eg : (cfq a).getD i 0 = (cfq a)[i] := by rw [List.getD_eq_getElem?_getD, List.getElem?_eq_getElem hi]; rfl
  rw [eg]
  refine ⟨p _ (by rw [e]; exact List.mem_cons_self), fun hN => l _ ?_⟩
  rw [e, List.drop_of_length_le (by omega)]; rfl
theorem _root_.Go.Vx.Rob.sz {own : Nat → Prop} {w : World} {q : Rat} {K : Nat} {x : Value} (h : Rob own w (rAv q K) [x]) : Sz q K := by
  obtain ⟨us, e, hu⟩ := h.here
  obtain ⟨b, s, t, _, hi⟩ := cons_nil hu
  exact hi.sz
set_option maxRecDepth 100000 in
noncomputable def simpP_s : PSpec Tryz.prog := ⟨48, spQQ (fun m K n L => K + L ≤ 2097152 ∧ 0 < m ∧ m ≤ n) (fun m K n L => qAv (sim m n) (K + L)), spQQ_fn (fn := Tryz.f48) (ctx_ok TT_ok [RFI_s, RFloor_s, RSub_s, RSign_s, RCmp_s, IFromInt_s, IAdd_s, RInv_s, fromc_s]) mixed_ok (by kernel_rfl) (fun m K n L hz hy _ hp => simpP_x m K n L hz hy hp.1 hp.2.1 hp.2.2), by kernel_rfl⟩

set_option smartUnfolding false in
set_option maxRecDepth 100000 in
theorem simp_x (lo : Rat) (K : Nat) (hi : Rat) (L : Nat) (g : Bool) (hK : K + L ≤ 2097152) (hL : 1 ≤ K) (hg : g = true ↔ lo ≤ hi) : fnOk ⟨TT, specsOf [RCmp_s, RSign_s, simpP_s, RNeg_s, RFI_s]⟩ Tryz.f23 [rAv lo K, rAv hi L] (optAv (sim lo hi) (K + L + 2) g) := by
  cases g with
  | false =>
    have h0 : ¬ lo ≤ hi := fun h => by have := hg.2 h; cases this
    (repeat ((conv => whnf); refine And.intro (by first | omega | exact ⟨by omega, trivial⟩ | exact ⟨by omega, by omega⟩ | rfl | exact And.intro rfl (by omega)) ?_)) <;> try (conv => whnf)
    refine And.intro (fun h1 => ?_) (fun h1 => ?_)
    · (repeat ((conv => whnf); refine And.intro (by first | omega | exact ⟨by omega, trivial⟩ | exact ⟨by omega, by omega⟩ | rfl | exact And.intro rfl (by omega)) ?_)) <;> try (conv => whnf)
      all_goals (repeat' first | exact True.intro | exact rfl | apply And.intro | assumption | omega | (exact Or.inr (by assumption)) | (refine congrArg (Value.int IntKind.i64) ?_; omega))
    · exact absurd (cmpR_gt.2 (Rat.not_le.1 h0)) (of_decide_eq_false h1)
  | true =>
    have h0 : lo ≤ hi := hg.1 rfl
    (repeat ((conv => whnf); refine And.intro (by first | omega | exact ⟨by omega, trivial⟩ | exact ⟨by omega, by omega⟩ | rfl | exact And.intro rfl (by omega)) ?_)) <;> try (conv => whnf)
    refine And.intro (fun h1 => ?_) (fun h1 => ?_)
    · exact absurd (cmpR_gt.1 (of_decide_eq_true h1)) (Rat.not_lt.2 h0)
    (repeat ((conv => whnf); refine And.intro (by first | omega | exact ⟨by omega, trivial⟩ | exact ⟨by omega, by omega⟩ | rfl | exact And.intro rfl (by omega)) ?_)) <;> try (conv => whnf)
    refine And.intro (fun h2 => ?_) (fun h2 => ?_)
    · have h3 : 0 < lo := sgn_pos.1 (of_decide_eq_true h2)
      conv => whnf
      refine And.intro ⟨by omega, by omega, h3, h0⟩ ?_
      (repeat ((conv => whnf); refine And.intro (by first | omega | exact ⟨by omega, trivial⟩ | exact ⟨by omega, by omega⟩ | rfl | exact And.intro rfl (by omega)) ?_)) <;> try (conv => whnf)
      all_goals (repeat' first | exact True.intro | exact rfl | apply And.intro | assumption | omega | (exact Or.inr (by assumption)) | (refine congrArg (Value.int IntKind.i64) ?_; omega))
    have h3 : ¬ 0 < lo := fun h => absurd (sgn_pos.2 h) (of_decide_eq_false h2)
    (repeat ((conv => whnf); refine And.intro (by first | omega | exact ⟨by omega, trivial⟩ | exact ⟨by omega, by omega⟩ | rfl | exact And.intro rfl (by omega)) ?_)) <;> try (conv => whnf)
    refine And.intro (fun h4 => ?_) (fun h4 => ?_)
    · have h5 : hi < 0 := sgn_neg.1 (of_decide_eq_true h4)
      (repeat ((conv => whnf); refine And.intro (by first | omega | exact ⟨by omega, trivial⟩ | exact ⟨by omega, by omega⟩ | rfl | exact And.intro rfl (by omega)) ?_)) <;> try (conv => whnf)
      refine And.intro ⟨by omega, by omega, by grind, by grind⟩ ?_
      (repeat ((conv => whnf); refine And.intro (by first | omega | exact ⟨by omega, trivial⟩ | exact ⟨by omega, by omega⟩ | rfl | exact And.intro rfl (by omega)) ?_)) <;> try (conv => whnf)
      exact And.intro (And.intro (And.intro (sim_neg h5 h0) (.inl (by omega))) True.intro) (And.intro rfl True.intro)
    have h5 : ¬ hi < 0 := fun h => absurd (sgn_neg.2 h) (of_decide_eq_false h4)
    (repeat ((conv => whnf); refine And.intro (by first | omega | exact ⟨by omega, trivial⟩ | exact ⟨by omega, by omega⟩ | rfl | exact And.intro rfl (by omega)) ?_)) <;> try (conv => whnf)
    exact And.intro (And.intro (And.intro (mk01.trans (sim_zero h3 h5).symm) (.inl (by omega))) True.intro) (And.intro rfl True.intro)

set_option maxRecDepth 100000 in
noncomputable def simp_s : PSpec Tryz.prog := ⟨23, spQQg (fun m K n L (g : Bool) => K + L ≤ 2097152 ∧ 1 ≤ K ∧ (g = true ↔ m ≤ n)) (fun m K n L g => optAv (sim m n) (K + L + 2) g), spQQg_fn (fn := Tryz.f23) (ctx_ok TT_ok [RCmp_s, RSign_s, simpP_s, RNeg_s, RFI_s]) mixed_ok (by kernel_rfl) (fun m K n L g _ _ hp => simp_x m K n L g hp.1 hp.2.1 hp.2.2), by kernel_rfl⟩

set_option smartUnfolding false in
set_option maxRecDepth 100000 in
theorem ints_x (l : List Int) (K : Nat) (hl : l.length ≤ 1073741824) (hK : K ≤ 67108864) : fnOk ⟨TT, specsOf [rIEq_s]⟩ Tryz.f24 [zlAv l K, zlAv l K] (.kb true) := by
  (repeat ((conv => whnf); refine And.intro (by first | omega | exact ⟨by omega, trivial⟩ | exact ⟨by omega, by omega⟩ | rfl | exact And.intro rfl (by omega)) ?_)) <;> try (conv => whnf)
  refine And.intro (fun h1 => ?_) (fun h1 => ?_)
  · exact absurd h1 (by simp)
  (repeat ((conv => whnf); refine And.intro (by first | omega | exact ⟨by omega, trivial⟩ | exact ⟨by omega, by omega⟩ | rfl | exact And.intro rfl (by omega)) ?_)) <;> try (conv => whnf)
  refine ⟨⟨Nat, fun i => i ≤ l.length, fun i => [.slot 5 (.val (.int .i64 (i : Int)))], fun i => l.length - i, 0⟩, 0, Nat.zero_le _, ?_⟩
  conv => whnf
  refine And.intro ?_ ?_
  · all_goals (repeat' first | exact True.intro | exact rfl | apply And.intro | assumption | omega | (exact Or.inr (by assumption)) | (refine congrArg (Value.int IntKind.i64) ?_; omega))
  conv => whnf
  rintro i hi
  have w1 : IntKind.i64.wrap ((i : Int) + 1) = (i : Int) + 1 := w64 (by omega) (by omega)
  (repeat ((conv => whnf); refine And.intro (by first | omega | exact ⟨by omega, trivial⟩ | exact ⟨by omega, by omega⟩ | rfl | exact And.intro rfl (by omega)) ?_)) <;> try (conv => whnf)
  refine And.intro (fun h2 => ?_) (fun h2 => ?_)
  · have h3 : (i : Int) < (l.length : Int) := of_decide_eq_true h2
    (repeat ((conv => whnf); refine And.intro (by first | omega | exact ⟨by omega, trivial⟩ | exact ⟨by omega, by omega⟩ | rfl | exact And.intro rfl (by omega)) ?_)) <;> try (conv => whnf)
    refine And.intro (fun h4 => ?_) (fun h4 => ?_)
    · exact absurd h4 (by simp)
    (repeat ((conv => whnf); refine And.intro (by first | omega | exact ⟨by omega, trivial⟩ | exact ⟨by omega, by omega⟩ | rfl | exact And.intro rfl (by omega)) ?_)) <;> try (conv => whnf)
    refine ⟨i + 1, by omega, (show l.length - (i + 1) < l.length - i by omega), ?_⟩
    conv => whnf
    all_goals (repeat' first | exact True.intro | exact rfl | apply And.intro | assumption | omega | (exact Or.inr (by assumption)) | (refine congrArg (Value.int IntKind.i64) ?_; omega))
  · (repeat ((conv => whnf); refine And.intro (by first | omega | exact ⟨by omega, trivial⟩ | exact ⟨by omega, by omega⟩ | rfl | exact And.intro rfl (by omega)) ?_)) <;> try (conv => whnf)
    all_goals (repeat' first | exact True.intro | exact rfl | apply And.intro | assumption | omega | (exact Or.inr (by assumption)) | (refine congrArg (Value.int IntKind.i64) ?_; omega))

set_option maxRecDepth 100000 in
noncomputable def ints_s : PSpec Tryz.prog := ⟨24, ghSpec (List Int × Nat) (fun g => [zlAv g.1 g.2, zlAv g.1 g.2]) (fun g => g.1.length ≤ 1073741824 ∧ g.2 ≤ 67108864) (fun _ => .kb true), ghSpec_ok (fn := Tryz.f24) (ctx_ok TT_ok [rIEq_s]) mixed_ok (by kernel_rfl) (fun g hp => ints_x g.1 g.2 hp.1 hp.2), by kernel_rfl⟩

set_option smartUnfolding false in
set_option maxRecDepth 100000 in
theorem awake5_x  : fnOk ⟨TT, specsOf [rROf_s, cont_s, simp_s, rIFromInt_s, below_s, above_s, ints_s, rREq_s]⟩ Tryz.f9 [] (.kb true) := by
  (repeat ((conv => whnf); refine And.intro (by first | omega | exact ⟨by omega, trivial⟩ | exact ⟨by omega, by omega⟩ | rfl | exact And.intro rfl (by omega)) ?_)) <;> try (conv => whnf)
  refine ⟨true, ⟨by omega, by omega, by omega, by simp; decide⟩, ?_⟩
  (repeat ((conv => whnf); refine And.intro (by first | omega | exact ⟨by omega, trivial⟩ | exact ⟨by omega, by omega⟩ | rfl | exact And.intro rfl (by omega)) ?_)) <;> try (conv => whnf)
  refine ⟨true, ⟨by omega, by omega, by omega, by simp⟩, ?_⟩
  (repeat ((conv => whnf); refine And.intro (by first | omega | exact ⟨by omega, trivial⟩ | exact ⟨by omega, by omega⟩ | rfl | exact And.intro rfl (by omega)) ?_)) <;> try (conv => whnf)
  refine ⟨true, ⟨by omega, by omega, by omega, by simp⟩, ?_⟩
  have eLn : (cfq (mkRat 415 (Int.toNat 93))).length = ([4, 2, 6, 7] : List Int).length := by
    show (cfq (mkRat 415 93)).length = _
    rw [cf415]
  have hz1 : ∀ i, i < ([4, 2, 6, 7] : List Int).length → fitC (zl [4, 2, 6, 7] 5 i) (zl (cfq (mkRat 415 (Int.toNat 93))) 5 i) := by
    show ∀ i, i < ([4, 2, 6, 7] : List Int).length → fitC (zl [4, 2, 6, 7] 5 i) (zl (cfq (mkRat 415 93)) 5 i)
    rw [cf415]; exact zl_refl _ (Nat.le_refl 5)
  (repeat ((conv => whnf); refine And.intro (by first | omega | exact ⟨by omega, trivial⟩ | exact ⟨by omega, by omega⟩ | rfl | exact And.intro rfl (by omega)) ?_)) <;> try (conv => whnf)
  refine ⟨([4, 2, 6, 7], 5), ⟨⟨by decide, by decide⟩, ?_⟩, ?_⟩
  · all_goals (repeat' first | exact True.intro | exact rfl | apply And.intro | assumption | omega | (exact Or.inr (by assumption)) | (refine congrArg (Value.int IntKind.i64) ?_; omega))
    exact lit4
  (repeat ((conv => whnf); refine And.intro (by first | omega | exact ⟨by omega, trivial⟩ | exact ⟨by omega, by omega⟩ | rfl | exact And.intro rfl (by omega)) ?_)) <;> try (conv => whnf)
  refine And.intro (fun _ => ?_) (fun hh => absurd sim310 (of_decide_eq_false hh))
  (repeat ((conv => whnf); refine And.intro (by first | omega | exact ⟨by omega, trivial⟩ | exact ⟨by omega, by omega⟩ | rfl | exact And.intro rfl (by omega)) ?_)) <;> try (conv => whnf)
  refine And.intro (fun _ => ?_) (fun hh => absurd (bel_eq nb355.1) (of_decide_eq_false hh))
  (repeat ((conv => whnf); refine And.intro (by first | omega | exact ⟨by omega, trivial⟩ | exact ⟨by omega, by omega⟩ | rfl | exact And.intro rfl (by omega)) ?_)) <;> try (conv => whnf)
  exact decide_eq_true (abv_eq nb355.2)

set_option maxRecDepth 100000 in
def awake5_s : PSpec Tryz.prog := ⟨9, sp0 (.kb true), sp0_ok fun _ _ ho => fn_ok (ctx_ok TT_ok [rROf_s, cont_s, simp_s, rIFromInt_s, below_s, above_s, ints_s, rREq_s]) mixed_ok (fn := Tryz.f9) (by kernel_rfl) awake5_x ho .nil, by kernel_rfl⟩

end Go.Proofs.YtnjannpoemdbaaaGreat
