/- RationalOrder by the executor: it returns true. -/
import Derived.Test.YtdcofnjekdkifaaVR
namespace Go.Proofs.Ytdcofnjekdkifaa
open Go.RowKit Gm Go.Vx

theorem cmpR_neg (r s : Rat) : cmpR s r = -cmpR r s := by
  unfold cmpR
  by_cases h1 : r < s
  · rw [if_pos h1, if_neg (Rat.not_lt.2 (Rat.le_of_lt h1)), if_pos h1]; rfl
  · rw [if_neg h1]
    by_cases h2 : s < r
    · rw [if_pos h2, if_neg h1, if_pos h2]
    · rw [if_neg h2, if_neg h1, if_neg h2]; rfl
theorem cmpR_add (r s t : Rat) : cmpR (r + t) (s + t) = cmpR r s := by
  unfold cmpR
  simp only [Rat.add_lt_add_right]
theorem rat_pos {t : Rat} (h : 0 < sgn t.num) : 0 < t := by
  rw [Rat.lt_iff]
  show 0 * (t.den : Int) < t.num * 1
  unfold sgn at h
  split at h <;> (try split at h) <;> omega
theorem cmpR_mul {t : Rat} (r s : Rat) (h : 0 < sgn t.num) : cmpR (r * t) (s * t) = cmpR r s := by
  unfold cmpR
  simp only [Rat.mul_lt_mul_right (rat_pos h)]
theorem cmpR_le {r s : Rat} : cmpR r s ≤ 0 ↔ r ≤ s := decide_eq_decide.1 (cmp_le r s)
theorem cmpR_bd (r s : Rat) : -1 ≤ cmpR r s ∧ cmpR r s ≤ 1 := by
  unfold cmpR
  split <;> (try split) <;> omega
def awake3_s : PSpec Try.prog := ⟨11, sp0 (.kb true), sp0_ok fun _ w _ => show CallOk _ _ _ _ _ (.val (.bool true)) from CallOk.b (awake3_c w), by kernel_rfl⟩
set_option smartUnfolding false in
set_option maxRecDepth 100000 in
theorem rorder_x (a b c : Rat) (K : Nat) (hK : K ≤ 1048576) : fnOk ⟨TT, specsOf [awake3_s, RCmp_s, RAdd_s, RSub_s, RSign_s, RMul_s]⟩ Try.f7 [rAv a K, rAv b K, rAv c K] (.val (.bool true)) := by
  have hb := cmpR_bd a b
  have e1 : IntKind.i64.wrap (0 - cmpR a b) = -cmpR a b := by
    have h3 : cmpR a b = -1 ∨ cmpR a b = 0 ∨ cmpR a b = 1 := by omega
    rcases h3 with h3 | h3 | h3 <;> rw [h3] <;> rfl
  (repeat ((conv => whnf); refine And.intro (by first | omega | exact ⟨by omega, trivial⟩ | exact ⟨by omega, by omega⟩ | rfl | exact And.intro rfl (by omega)) ?_)) <;> try (conv => whnf)
  refine And.intro (fun h1 => ?_) (fun h1 => ?_)
  · rw [e1, cmpR_neg a b] at h1; simp at h1
  (repeat ((conv => whnf); refine And.intro (by first | omega | exact ⟨by omega, trivial⟩ | exact ⟨by omega, by omega⟩ | rfl | exact And.intro rfl (by omega)) ?_)) <;> try (conv => whnf)
  refine And.intro (fun h2 => ?_) (fun h2 => ?_)
  · rw [cmpR_add] at h2; simp at h2
  (repeat ((conv => whnf); refine And.intro (by first | omega | exact ⟨by omega, trivial⟩ | exact ⟨by omega, by omega⟩ | rfl | exact And.intro rfl (by omega)) ?_)) <;> try (conv => whnf)
  refine And.intro (fun h3 => ?_) (fun h3 => ?_)
  · rw [sgn_sub] at h3; simp at h3
  (repeat ((conv => whnf); refine And.intro (by first | omega | exact ⟨by omega, trivial⟩ | exact ⟨by omega, by omega⟩ | rfl | exact And.intro rfl (by omega)) ?_)) <;> try (conv => whnf)
  refine And.intro (fun h4 => ?_) (fun h4 => ?_)
  · (repeat ((conv => whnf); refine And.intro (by first | omega | exact ⟨by omega, trivial⟩ | exact ⟨by omega, by omega⟩ | rfl | exact And.intro rfl (by omega)) ?_)) <;> try (conv => whnf)
    refine And.intro (fun h5 => ?_) (fun h5 => ?_)
    · rw [cmpR_mul a b (of_decide_eq_true h4)] at h5; simp at h5
    · (repeat ((conv => whnf); refine And.intro (by first | omega | exact ⟨by omega, trivial⟩ | exact ⟨by omega, by omega⟩ | rfl | exact And.intro rfl (by omega)) ?_)) <;> try (conv => whnf)
      refine And.intro (fun h6 => ?_) (fun h6 => ?_)
      · (repeat ((conv => whnf); refine And.intro (by first | omega | exact ⟨by omega, trivial⟩ | exact ⟨by omega, by omega⟩ | rfl | exact And.intro rfl (by omega)) ?_)) <;> try (conv => whnf)
        all_goals first | done | exact True.intro | rfl
      · (repeat ((conv => whnf); refine And.intro (by first | omega | exact ⟨by omega, trivial⟩ | exact ⟨by omega, by omega⟩ | rfl | exact And.intro rfl (by omega)) ?_)) <;> try (conv => whnf)
        refine And.intro (fun h7 => ?_) (fun h7 => ?_)
        · (repeat ((conv => whnf); refine And.intro (by first | omega | exact ⟨by omega, trivial⟩ | exact ⟨by omega, by omega⟩ | rfl | exact And.intro rfl (by omega)) ?_)) <;> try (conv => whnf)
          all_goals first | done | exact True.intro | rfl
        · (repeat ((conv => whnf); refine And.intro (by first | omega | exact ⟨by omega, trivial⟩ | exact ⟨by omega, by omega⟩ | rfl | exact And.intro rfl (by omega)) ?_)) <;> try (conv => whnf)
          exact congrArg Value.bool (decide_eq_true (cmpR_le.2 (Rat.le_trans (cmpR_le.1 (Int.not_lt.1 (of_decide_eq_false h6))) (cmpR_le.1 (Int.not_lt.1 (of_decide_eq_false h7))))))
  · (repeat ((conv => whnf); refine And.intro (by first | omega | exact ⟨by omega, trivial⟩ | exact ⟨by omega, by omega⟩ | rfl | exact And.intro rfl (by omega)) ?_)) <;> try (conv => whnf)
    refine And.intro (fun h6 => ?_) (fun h6 => ?_)
    · (repeat ((conv => whnf); refine And.intro (by first | omega | exact ⟨by omega, trivial⟩ | exact ⟨by omega, by omega⟩ | rfl | exact And.intro rfl (by omega)) ?_)) <;> try (conv => whnf)
      all_goals first | done | exact True.intro | rfl
    · (repeat ((conv => whnf); refine And.intro (by first | omega | exact ⟨by omega, trivial⟩ | exact ⟨by omega, by omega⟩ | rfl | exact And.intro rfl (by omega)) ?_)) <;> try (conv => whnf)
      refine And.intro (fun h7 => ?_) (fun h7 => ?_)
      · (repeat ((conv => whnf); refine And.intro (by first | omega | exact ⟨by omega, trivial⟩ | exact ⟨by omega, by omega⟩ | rfl | exact And.intro rfl (by omega)) ?_)) <;> try (conv => whnf)
        all_goals first | done | exact True.intro | rfl
      · (repeat ((conv => whnf); refine And.intro (by first | omega | exact ⟨by omega, trivial⟩ | exact ⟨by omega, by omega⟩ | rfl | exact And.intro rfl (by omega)) ?_)) <;> try (conv => whnf)
        exact congrArg Value.bool (decide_eq_true (cmpR_le.2 (Rat.le_trans (cmpR_le.1 (Int.not_lt.1 (of_decide_eq_false h6))) (cmpR_le.1 (Int.not_lt.1 (of_decide_eq_false h7))))))

set_option maxRecDepth 100000 in
theorem rorder_walk (p0 : Bool) (A0 : Option Addr) (xs0 : List Nat) (c0 : Nat) (B0 : Option Addr) (ys0 : List Nat) (d0 : Nat) (p1 : Bool) (A1 : Option Addr) (xs1 : List Nat) (c1 : Nat) (B1 : Option Addr) (ys1 : List Nat) (d1 : Nat) (p2 : Bool) (A2 : Option Addr) (xs2 : List Nat) (c2 : Nat) (B2 : Option Addr) (ys2 : List Nat) (d2 : Nat) (w : World) (h0 : Lim w A0 c0 xs0) (g0 : Lim w B0 d0 ys0) (h1 : Lim w A1 c1 xs1) (g1 : Lim w B1 d1 ys1) (h2 : Lim w A2 c2 xs2) (g2 : Lim w B2 d2 ys2) (k0 : xs0.length ≤ 1048576) (l0 : ys0.length ≤ 1048576) (k1 : xs1.length ≤ 1048576) (l1 : ys1.length ≤ 1048576) (k2 : xs2.length ≤ 1048576) (l2 : ys2.length ≤ 1048576) :
    Calls Try.prog 7 #[.agg #[.bool p0, .slice A0 xs0.length c0, .slice B0 ys0.length d0], .agg #[.bool p1, .slice A1 xs1.length c1, .slice B1 ys1.length d1], .agg #[.bool p2, .slice A2 xs2.length c2, .slice B2 ys2.length d2]] w (RetB w true) :=
  call_b (fn_ok (own := fun _ => False) (ctx_ok TT_ok [awake3_s, RCmp_s, RAdd_s, RSub_s, RSign_s, RMul_s]) mixed_ok (fn := Try.f7) (by kernel_rfl) (rorder_x _ _ _ 1048576 (Nat.le_refl _)) (fun _ h => h.elim) (.cons (rob_rat p0 h0 g0 k0 l0 (by decide)) (.cons (rob_rat p1 h1 g1 k1 l1 (by decide)) (.cons (rob_rat p2 h2 g2 k2 l2 (by decide)) .nil))))
end Go.Proofs.Ytdcofnjekdkifaa
