/- ApproxSimpler and ApproxEnclose by the executor. -/
import Derived.Test.YtaeidephegnkdaaVX
namespace Go.Proofs.Ytaeidephegnkdaa
open Go.RowKit Gm Go.Vx

theorem cmpR_lt {r s : Rat} : cmpR r s < 0 ↔ r < s := by
  unfold cmpR
  by_cases h1 : r < s
  · rw [if_pos h1]; exact ⟨fun _ => h1, fun _ => by omega⟩
  · rw [if_neg h1]
    by_cases h2 : s < r
    · rw [if_pos h2]; exact ⟨fun h => by omega, fun h => absurd h h1⟩
    · rw [if_neg h2]; exact ⟨fun h => by omega, fun h => absurd h h1⟩
theorem cmpZ_gt {m n : Int} : 0 < cmpI m n ↔ n < m := by unfold cmpI; split <;> (try split) <;> omega
theorem cmpZ_eq {m n : Int} : cmpI m n = 0 ↔ m = n := by unfold cmpI; split <;> (try split) <;> omega
theorem rIAbs_w {w : World} {b s : Value} {m : Int} {K : Nat} {q : Int} (h : IsInt w b s m K) (hK : K ≤ 1099511627776) (e : (m.natAbs : Int) = q) : Calls Try.prog 13 #[.agg #[b, s]] w (RetZ w q) := by
  obtain ⟨p, A, xs, c, rfl, rfl, ha, hs, hm⟩ := h
  have e2 : ((val xs : Nat) : Int) = q := by rw [← e, ← hm]; unfold iv; split <;> simp
  exact e2 ▸ (rAbs_c p A xs c w ha (by omega)).mono fun _ _ h => h.z
def rIAbs_s : PSpec Try.prog := ⟨13, spZ (fun _ _ => True) (fun m K => zAv (m.natAbs : Int) K), spZ_ok fun _ _ _ _ _ _ ho h1 z1 hK _ => CallOk.z ho (szi_abs z1 (by simp)) (rIAbs_w h1 (bb_le hK) rfl), by kernel_rfl⟩
set_option smartUnfolding false in
set_option maxRecDepth 100000 in
theorem simpler_x (lo hi ot : Rat) (K : Nat) (h1K : 1 ≤ K) (hK : K ≤ 1048576) : fnOk ⟨TT, specsOf [simp_s, rRCmp_s, awake5_s, rREq_s, rRNorm_s, rICmp_s, rIAbs_s]⟩ Try.f3 [rAv lo K, rAv hi K, rAv ot K] (.val (.bool true)) := by
  by_cases hle : lo ≤ hi
  · (repeat ((conv => whnf); refine And.intro (by first | omega | exact ⟨by omega, trivial⟩ | exact ⟨by omega, by omega⟩ | rfl | exact And.intro rfl (by omega)) ?_)) <;> try (conv => whnf)
    refine ⟨true, ⟨by omega, by omega, by omega, by simp [hle]⟩, ?_⟩
    (repeat ((conv => whnf); refine And.intro (by first | omega | exact ⟨by omega, trivial⟩ | exact ⟨by omega, by omega⟩ | rfl | exact And.intro rfl (by omega)) ?_)) <;> try (conv => whnf)
    refine ⟨true, ⟨by omega, by omega, by omega, by simp⟩, ?_⟩
    have hb := sim_best hle
    have hb1 := sim_best (Rat.le_refl (a := lo))
    have e1 : sim lo lo = lo := Rat.le_antisymm hb1.2.1 hb1.1
    (repeat ((conv => whnf); refine And.intro (by first | omega | exact ⟨by omega, trivial⟩ | exact ⟨by omega, by omega⟩ | rfl | exact And.intro rfl (by omega)) ?_)) <;> try (conv => whnf)
    refine And.intro (fun h1 => absurd (cmpR_gt.1 (of_decide_eq_true h1)) (Rat.not_lt.2 hb.1)) (fun _ => ?_)
    (repeat ((conv => whnf); refine And.intro (by first | omega | exact ⟨by omega, trivial⟩ | exact ⟨by omega, by omega⟩ | rfl | exact And.intro rfl (by omega)) ?_)) <;> try (conv => whnf)
    refine And.intro (fun h1 => absurd (cmpR_gt.1 (of_decide_eq_true h1)) (Rat.not_lt.2 hb.2.1)) (fun _ => ?_)
    (repeat ((conv => whnf); refine And.intro (by first | omega | exact ⟨by omega, trivial⟩ | exact ⟨by omega, by omega⟩ | rfl | exact And.intro rfl (by omega)) ?_)) <;> try (conv => whnf)
    refine And.intro (fun h3 => absurd h3 (by rw [decide_eq_true e1]; decide)) (fun _ => ?_)
    (repeat ((conv => whnf); refine And.intro (by first | omega | exact ⟨by omega, trivial⟩ | exact ⟨by omega, by omega⟩ | rfl | exact And.intro rfl (by omega)) ?_)) <;> try (conv => whnf)
    refine And.intro (fun h4 => ?_) (fun h4 => ?_)
    · (repeat ((conv => whnf); refine And.intro (by first | omega | exact ⟨by omega, trivial⟩ | exact ⟨by omega, by omega⟩ | rfl | exact And.intro rfl (by omega)) ?_)) <;> try (conv => whnf)
      all_goals (repeat' first | exact True.intro | exact rfl | apply And.intro | assumption | omega | (exact Or.inr (by assumption)) | (refine congrArg (Value.int IntKind.i64) ?_; omega))
    (repeat ((conv => whnf); refine And.intro (by first | omega | exact ⟨by omega, trivial⟩ | exact ⟨by omega, by omega⟩ | rfl | exact And.intro rfl (by omega)) ?_)) <;> try (conv => whnf)
    refine And.intro (fun h5 => ?_) (fun h5 => ?_)
    · (repeat ((conv => whnf); refine And.intro (by first | omega | exact ⟨by omega, trivial⟩ | exact ⟨by omega, by omega⟩ | rfl | exact And.intro rfl (by omega)) ?_)) <;> try (conv => whnf)
      all_goals (repeat' first | exact True.intro | exact rfl | apply And.intro | assumption | omega | (exact Or.inr (by assumption)) | (refine congrArg (Value.int IntKind.i64) ?_; omega))
    have h6 := hb.2.2 ot (Rat.not_lt.1 fun h => absurd (cmpR_lt.2 h) (of_decide_eq_false h4)) (Rat.not_lt.1 fun h => absurd (cmpR_gt.2 h) (of_decide_eq_false h5))
    (repeat ((conv => whnf); refine And.intro (by first | omega | exact ⟨by omega, trivial⟩ | exact ⟨by omega, by omega⟩ | rfl | exact And.intro rfl (by omega)) ?_)) <;> try (conv => whnf)
    refine And.intro (fun h7 => ?_) (fun h7 => ?_)
    · (repeat ((conv => whnf); refine And.intro (by first | omega | exact ⟨by omega, trivial⟩ | exact ⟨by omega, by omega⟩ | rfl | exact And.intro rfl (by omega)) ?_)) <;> try (conv => whnf)
      all_goals (repeat' first | exact True.intro | exact rfl | apply And.intro | assumption | omega | (exact Or.inr (by assumption)) | (refine congrArg (Value.int IntKind.i64) ?_; omega))
    have h8 : ((sim lo hi).den : Int) = ot.den := by
      have := of_decide_eq_false h7
      rw [cmpZ_lt] at this
      omega
    (repeat ((conv => whnf); refine And.intro (by first | omega | exact ⟨by omega, trivial⟩ | exact ⟨by omega, by omega⟩ | rfl | exact And.intro rfl (by omega)) ?_)) <;> try (conv => whnf)
    refine And.intro (fun h9 => ?_) (fun h9 => absurd ((beq_iff_eq.2 (cmpZ_eq.2 h8)).symm.trans h9) (by decide))
    (repeat ((conv => whnf); refine And.intro (by first | omega | exact ⟨by omega, trivial⟩ | exact ⟨by omega, by omega⟩ | rfl | exact And.intro rfl (by omega)) ?_)) <;> try (conv => whnf)
    exact congrArg Value.bool (decide_eq_true (cmpZ_le.2 (by omega)))
  · (repeat ((conv => whnf); refine And.intro (by first | omega | exact ⟨by omega, trivial⟩ | exact ⟨by omega, by omega⟩ | rfl | exact And.intro rfl (by omega)) ?_)) <;> try (conv => whnf)
    refine ⟨false, ⟨by omega, by omega, by omega, by simp [hle]⟩, ?_⟩
    (repeat ((conv => whnf); refine And.intro (by first | omega | exact ⟨by omega, trivial⟩ | exact ⟨by omega, by omega⟩ | rfl | exact And.intro rfl (by omega)) ?_)) <;> try (conv => whnf)
    refine And.intro (fun h1 => ?_) (fun h1 => absurd (cmpR_gt.2 (Rat.not_le.1 hle)) (of_decide_eq_false h1))
    (repeat ((conv => whnf); refine And.intro (by first | omega | exact ⟨by omega, trivial⟩ | exact ⟨by omega, by omega⟩ | rfl | exact And.intro rfl (by omega)) ?_)) <;> try (conv => whnf)
    all_goals (repeat' first | exact True.intro | exact rfl | apply And.intro | assumption | omega | (exact Or.inr (by assumption)) | (refine congrArg (Value.int IntKind.i64) ?_; omega))

set_option smartUnfolding false in
set_option maxRecDepth 100000 in
theorem encl_x (a : Rat) (m : Int) (ot : Rat) (K : Nat) (h1K : 1 ≤ K) (hK : K ≤ 1048576) : fnOk ⟨TT, specsOf [below_s, above_s, rICmp_s, rIFromInt_s, awake5_s, rRCmp_s, rRNorm_s]⟩ Try.f4 [rAv a K, nAv m K, rAv ot K] (.val (.bool true)) := by
  by_cases hm : 1 ≤ m
  · (repeat ((conv => whnf); refine And.intro (by first | omega | exact ⟨by omega, trivial⟩ | exact ⟨by omega, by omega⟩ | rfl | exact And.intro rfl (by omega)) ?_)) <;> try (conv => whnf)
    refine ⟨true, ⟨by omega, by omega, by omega, by simp [hm]⟩, ?_⟩
    (repeat ((conv => whnf); refine And.intro (by first | omega | exact ⟨by omega, trivial⟩ | exact ⟨by omega, by omega⟩ | rfl | exact And.intro rfl (by omega)) ?_)) <;> try (conv => whnf)
    refine ⟨true, ⟨by omega, by omega, by omega, by simp [hm]⟩, ?_⟩
    have hB := bel_ok a (M := m) (by omega)
    have hA := abv_ok a (M := m) (by omega)
    (repeat ((conv => whnf); refine And.intro (by first | omega | exact ⟨by omega, trivial⟩ | exact ⟨by omega, by omega⟩ | rfl | exact And.intro rfl (by omega)) ?_)) <;> try (conv => whnf)
    refine And.intro (fun h1 => absurd (cmpZ_lt.1 (of_decide_eq_true h1)) (by omega)) (fun _ => ?_)
    (repeat ((conv => whnf); refine And.intro (by first | omega | exact ⟨by omega, trivial⟩ | exact ⟨by omega, by omega⟩ | rfl | exact And.intro rfl (by omega)) ?_)) <;> try (conv => whnf)
    refine And.intro (fun h1 => absurd (cmpR_gt.1 (of_decide_eq_true h1)) (Rat.not_lt.2 hB.1)) (fun _ => ?_)
    (repeat ((conv => whnf); refine And.intro (by first | omega | exact ⟨by omega, trivial⟩ | exact ⟨by omega, by omega⟩ | rfl | exact And.intro rfl (by omega)) ?_)) <;> try (conv => whnf)
    refine And.intro (fun h1 => absurd (cmpR_gt.1 (of_decide_eq_true h1)) (Rat.not_lt.2 hA.1)) (fun _ => ?_)
    (repeat ((conv => whnf); refine And.intro (by first | omega | exact ⟨by omega, trivial⟩ | exact ⟨by omega, by omega⟩ | rfl | exact And.intro rfl (by omega)) ?_)) <;> try (conv => whnf)
    refine And.intro (fun h1 => absurd (cmpZ_gt.1 (of_decide_eq_true h1)) (by have := hB.2.1; omega)) (fun _ => ?_)
    (repeat ((conv => whnf); refine And.intro (by first | omega | exact ⟨by omega, trivial⟩ | exact ⟨by omega, by omega⟩ | rfl | exact And.intro rfl (by omega)) ?_)) <;> try (conv => whnf)
    refine And.intro (fun h1 => absurd (cmpZ_gt.1 (of_decide_eq_true h1)) (by have := hA.2.1; omega)) (fun _ => ?_)
    (repeat ((conv => whnf); refine And.intro (by first | omega | exact ⟨by omega, trivial⟩ | exact ⟨by omega, by omega⟩ | rfl | exact And.intro rfl (by omega)) ?_)) <;> try (conv => whnf)
    refine And.intro (fun h4 => ?_) (fun h4 => ?_)
    · (repeat ((conv => whnf); refine And.intro (by first | omega | exact ⟨by omega, trivial⟩ | exact ⟨by omega, by omega⟩ | rfl | exact And.intro rfl (by omega)) ?_)) <;> try (conv => whnf)
      all_goals (repeat' first | exact True.intro | exact rfl | apply And.intro | assumption | omega | (exact Or.inr (by assumption)) | (refine congrArg (Value.int IntKind.i64) ?_; omega))
    (repeat ((conv => whnf); refine And.intro (by first | omega | exact ⟨by omega, trivial⟩ | exact ⟨by omega, by omega⟩ | rfl | exact And.intro rfl (by omega)) ?_)) <;> try (conv => whnf)
    refine And.intro (fun h5 => ?_) (fun h5 => ?_)
    · (repeat ((conv => whnf); refine And.intro (by first | omega | exact ⟨by omega, trivial⟩ | exact ⟨by omega, by omega⟩ | rfl | exact And.intro rfl (by omega)) ?_)) <;> try (conv => whnf)
      all_goals (repeat' first | exact True.intro | exact rfl | apply And.intro | assumption | omega | (exact Or.inr (by assumption)) | (refine congrArg (Value.int IntKind.i64) ?_; omega))
    have h6 : m < (ot.den : Int) := by
      refine Int.not_le.1 fun h => ?_
      have h7 : bel a m < ot := Rat.not_le.1 fun hh => of_decide_eq_false h4 (by rw [← Int.not_lt, cmpR_gt]; exact Rat.not_lt.2 hh)
      have h8 : ot < abv a m := Rat.not_le.1 fun hh => of_decide_eq_false h5 (by show 0 ≤ _; rw [← Int.not_lt, cmpR_lt]; exact Rat.not_lt.2 hh)
      rcases Rat.le_total (a := ot) (b := a) with hc | hc
      · exact absurd h7 (Rat.not_lt.2 (hB.2.2 ot hc h))
      · exact absurd h8 (Rat.not_lt.2 (hA.2.2 ot hc h))
    (repeat ((conv => whnf); refine And.intro (by first | omega | exact ⟨by omega, trivial⟩ | exact ⟨by omega, by omega⟩ | rfl | exact And.intro rfl (by omega)) ?_)) <;> try (conv => whnf)
    exact congrArg Value.bool (decide_eq_true (cmpZ_gt.2 h6))
  · (repeat ((conv => whnf); refine And.intro (by first | omega | exact ⟨by omega, trivial⟩ | exact ⟨by omega, by omega⟩ | rfl | exact And.intro rfl (by omega)) ?_)) <;> try (conv => whnf)
    refine ⟨false, ⟨by omega, by omega, by omega, by simp [hm]⟩, ?_⟩
    (repeat ((conv => whnf); refine And.intro (by first | omega | exact ⟨by omega, trivial⟩ | exact ⟨by omega, by omega⟩ | rfl | exact And.intro rfl (by omega)) ?_)) <;> try (conv => whnf)
    refine ⟨false, ⟨by omega, by omega, by omega, by simp [hm]⟩, ?_⟩
    (repeat ((conv => whnf); refine And.intro (by first | omega | exact ⟨by omega, trivial⟩ | exact ⟨by omega, by omega⟩ | rfl | exact And.intro rfl (by omega)) ?_)) <;> try (conv => whnf)
    refine And.intro (fun h1 => ?_) (fun h1 => absurd (cmpZ_lt.2 (by omega)) (of_decide_eq_false h1))
    (repeat ((conv => whnf); refine And.intro (by first | omega | exact ⟨by omega, trivial⟩ | exact ⟨by omega, by omega⟩ | rfl | exact And.intro rfl (by omega)) ?_)) <;> try (conv => whnf)
    all_goals (repeat' first | exact True.intro | exact rfl | apply And.intro | assumption | omega | (exact Or.inr (by assumption)) | (refine congrArg (Value.int IntKind.i64) ?_; omega))

set_option maxRecDepth 100000 in
theorem simpler_walk (p0 : Bool) (A0 : Option Addr) (xs0 : List Nat) (c0 : Nat) (B0 : Option Addr) (ys0 : List Nat) (d0 : Nat) (p1 : Bool) (A1 : Option Addr) (xs1 : List Nat) (c1 : Nat) (B1 : Option Addr) (ys1 : List Nat) (d1 : Nat) (p2 : Bool) (A2 : Option Addr) (xs2 : List Nat) (c2 : Nat) (B2 : Option Addr) (ys2 : List Nat) (d2 : Nat) (w : World) (h0 : Lim w A0 c0 xs0) (g0 : Lim w B0 d0 ys0) (h1 : Lim w A1 c1 xs1) (g1 : Lim w B1 d1 ys1) (h2 : Lim w A2 c2 xs2) (g2 : Lim w B2 d2 ys2) (k0 : xs0.length ≤ 1048576) (l0 : ys0.length ≤ 1048576) (k1 : xs1.length ≤ 1048576) (l1 : ys1.length ≤ 1048576) (k2 : xs2.length ≤ 1048576) (l2 : ys2.length ≤ 1048576)  :
    Calls Try.prog 3 #[.agg #[.bool p0, .slice A0 xs0.length c0, .slice B0 ys0.length d0], .agg #[.bool p1, .slice A1 xs1.length c1, .slice B1 ys1.length d1], .agg #[.bool p2, .slice A2 xs2.length c2, .slice B2 ys2.length d2]] w (RetB w true) :=
  call_b (fn_ok (own := fun _ => False) (ctx_ok TT_ok [simp_s, rRCmp_s, awake5_s, rREq_s, rRNorm_s, rICmp_s, rIAbs_s]) mixed_ok (fn := Try.f3) (by kernel_rfl) (simpler_x _ _ _ 1048576 (by decide) (Nat.le_refl _)) (fun _ h => h.elim) (.cons (rob_rat p0 h0 g0 k0 l0 (by decide)) (.cons (rob_rat p1 h1 g1 k1 l1 (by decide)) (.cons (rob_rat p2 h2 g2 k2 l2 (by decide)) .nil))))

set_option maxRecDepth 100000 in
theorem encl_walk (p0 : Bool) (A0 : Option Addr) (xs0 : List Nat) (c0 : Nat) (B0 : Option Addr) (ys0 : List Nat) (d0 : Nat) (p1 : Bool) (A1 : Option Addr) (xs1 : List Nat) (c1 : Nat) (p2 : Bool) (A2 : Option Addr) (xs2 : List Nat) (c2 : Nat) (B2 : Option Addr) (ys2 : List Nat) (d2 : Nat) (w : World) (h0 : Lim w A0 c0 xs0) (g0 : Lim w B0 d0 ys0) (h1 : Lim w A1 c1 xs1) (h2 : Lim w A2 c2 xs2) (g2 : Lim w B2 d2 ys2) (k0 : xs0.length ≤ 1048576) (l0 : ys0.length ≤ 1048576) (k1 : xs1.length ≤ 1048576) (k2 : xs2.length ≤ 1048576) (l2 : ys2.length ≤ 1048576)  :
    Calls Try.prog 4 #[.agg #[.bool p0, .slice A0 xs0.length c0, .slice B0 ys0.length d0], .agg #[.bool p1, .slice A1 xs1.length c1], .agg #[.bool p2, .slice A2 xs2.length c2, .slice B2 ys2.length d2]] w (RetB w true) :=
  call_b (fn_ok (own := fun _ => False) (ctx_ok TT_ok [below_s, above_s, rICmp_s, rIFromInt_s, awake5_s, rRCmp_s, rRNorm_s]) mixed_ok (fn := Try.f4) (by kernel_rfl) (encl_x _ _ _ 1048576 (by decide) (Nat.le_refl _)) (fun _ h => h.elim) (.cons (rob_rat p0 h0 g0 k0 l0 (by decide)) (.cons (rob_int p1 h1 k1) (.cons (rob_rat p2 h2 g2 k2 l2 (by decide)) .nil))))
end Go.Proofs.Ytaeidephegnkdaa
