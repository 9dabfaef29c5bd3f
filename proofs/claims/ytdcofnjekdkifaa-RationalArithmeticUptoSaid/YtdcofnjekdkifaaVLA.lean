/- RationalArithmetic by the executor: it returns true. -/
import Derived.Test.YtdcofnjekdkifaaVQ
namespace Go.Proofs.Ytdcofnjekdkifaa
open Go.RowKit Gm Go.Vx

theorem mk11 : mkRat 1 1 = 1 := rfl
def awake3_s : PSpec Try.prog := ⟨8, sp0 (.kb true), sp0_ok fun _ w _ => show CallOk _ _ _ _ _ (.val (.bool true)) from CallOk.b (awake3_c w), by kernel_rfl⟩
theorem one_div (a : Rat) : mkRat 1 1 * a⁻¹ = a⁻¹ := by rw [mk11, Rat.one_mul]
set_option smartUnfolding false in
set_option maxRecDepth 100000 in
theorem rarith_x (a b : Rat) (K : Nat) (hK : K ≤ 1048576) (g1 g2 : Bool) (h1 : g1 = true ↔ b ≠ 0) (h2 : g2 = true ↔ a ≠ 0) : fnOk ⟨TT, specsOf [awake3_s, RDiv_s, rRDiv_s, RInv_s, rRFromInt_s, rREq_s, RNeg_s, rRNeg_s, RAdd_s, rRAdd_s, RSub_s, rRSub_s, RMul_s, rRMul_s]⟩ Try.f4 [rAv a K, rAv b K] (.val (.bool true)) := by
  cases g1 with
  | false => cases g2 with
    | false =>
      (repeat ((conv => whnf); refine And.intro (by first | omega | exact ⟨by omega, trivial⟩ | exact ⟨by omega, by omega⟩ | rfl | exact And.intro rfl (by omega)) ?_)) <;> try (conv => whnf)
      refine ⟨false, ⟨by omega, by omega, h1⟩, ?_⟩
      (repeat ((conv => whnf); refine And.intro (by first | omega | exact ⟨by omega, trivial⟩ | exact ⟨by omega, by omega⟩ | rfl | exact And.intro rfl (by omega)) ?_)) <;> try (conv => whnf)
      refine ⟨false, ⟨by omega, by omega, h1⟩, ?_⟩
      (repeat ((conv => whnf); refine And.intro (by first | omega | exact ⟨by omega, trivial⟩ | exact ⟨by omega, by omega⟩ | rfl | exact And.intro rfl (by omega)) ?_)) <;> try (conv => whnf)
      refine ⟨false, ⟨by omega, h2⟩, ?_⟩
      (repeat ((conv => whnf); refine And.intro (by first | omega | exact ⟨by omega, trivial⟩ | exact ⟨by omega, by omega⟩ | rfl | exact And.intro rfl (by omega)) ?_)) <;> try (conv => whnf)
      refine ⟨false, ⟨by omega, by omega, h2⟩, ?_⟩
      (repeat ((conv => whnf); refine And.intro (by first | omega | exact ⟨by omega, trivial⟩ | exact ⟨by omega, by omega⟩ | rfl | exact And.intro rfl (by omega)) ?_)) <;> try (conv => whnf)
      refine And.intro (fun hh => absurd hh (by decide)) (fun _ => ?_)
      (repeat ((conv => whnf); refine And.intro (by first | omega | exact ⟨by omega, trivial⟩ | exact ⟨by omega, by omega⟩ | rfl | exact And.intro rfl (by omega)) ?_)) <;> try (conv => whnf)
      refine And.intro (fun hh => absurd hh (by decide)) (fun _ => ?_)
      (repeat ((conv => whnf); refine And.intro (by first | omega | exact ⟨by omega, trivial⟩ | exact ⟨by omega, by omega⟩ | rfl | exact And.intro rfl (by omega)) ?_)) <;> try (conv => whnf)
      refine And.intro (fun _ => ?_) (fun hh => absurd hh (by simp))
      (repeat ((conv => whnf); refine And.intro (by first | omega | exact ⟨by omega, trivial⟩ | exact ⟨by omega, by omega⟩ | rfl | exact And.intro rfl (by omega)) ?_)) <;> try (conv => whnf)
      refine And.intro (fun _ => ?_) (fun hh => absurd hh (by simp))
      (repeat ((conv => whnf); refine And.intro (by first | omega | exact ⟨by omega, trivial⟩ | exact ⟨by omega, by omega⟩ | rfl | exact And.intro rfl (by omega)) ?_)) <;> try (conv => whnf)
      refine And.intro (fun _ => ?_) (fun hh => absurd hh (by simp))
      (repeat ((conv => whnf); refine And.intro (by first | omega | exact ⟨by omega, trivial⟩ | exact ⟨by omega, by omega⟩ | rfl | exact And.intro rfl (by omega)) ?_)) <;> try (conv => whnf)
      exact congrArg Value.bool (by simp)
    | true =>
      (repeat ((conv => whnf); refine And.intro (by first | omega | exact ⟨by omega, trivial⟩ | exact ⟨by omega, by omega⟩ | rfl | exact And.intro rfl (by omega)) ?_)) <;> try (conv => whnf)
      refine ⟨false, ⟨by omega, by omega, h1⟩, ?_⟩
      (repeat ((conv => whnf); refine And.intro (by first | omega | exact ⟨by omega, trivial⟩ | exact ⟨by omega, by omega⟩ | rfl | exact And.intro rfl (by omega)) ?_)) <;> try (conv => whnf)
      refine ⟨false, ⟨by omega, by omega, h1⟩, ?_⟩
      (repeat ((conv => whnf); refine And.intro (by first | omega | exact ⟨by omega, trivial⟩ | exact ⟨by omega, by omega⟩ | rfl | exact And.intro rfl (by omega)) ?_)) <;> try (conv => whnf)
      refine ⟨true, ⟨by omega, h2⟩, ?_⟩
      (repeat ((conv => whnf); refine And.intro (by first | omega | exact ⟨by omega, trivial⟩ | exact ⟨by omega, by omega⟩ | rfl | exact And.intro rfl (by omega)) ?_)) <;> try (conv => whnf)
      refine ⟨true, ⟨by omega, by omega, h2⟩, ?_⟩
      (repeat ((conv => whnf); refine And.intro (by first | omega | exact ⟨by omega, trivial⟩ | exact ⟨by omega, by omega⟩ | rfl | exact And.intro rfl (by omega)) ?_)) <;> try (conv => whnf)
      refine And.intro (fun hh => absurd hh (by decide)) (fun _ => ?_)
      (repeat ((conv => whnf); refine And.intro (by first | omega | exact ⟨by omega, trivial⟩ | exact ⟨by omega, by omega⟩ | rfl | exact And.intro rfl (by omega)) ?_)) <;> try (conv => whnf)
      refine And.intro (fun hh => absurd hh (by decide)) (fun _ => ?_)
      (repeat ((conv => whnf); refine And.intro (by first | omega | exact ⟨by omega, trivial⟩ | exact ⟨by omega, by omega⟩ | rfl | exact And.intro rfl (by omega)) ?_)) <;> try (conv => whnf)
      refine And.intro (fun hh => absurd hh (by simp [one_div])) (fun _ => ?_)
      (repeat ((conv => whnf); refine And.intro (by first | omega | exact ⟨by omega, trivial⟩ | exact ⟨by omega, by omega⟩ | rfl | exact And.intro rfl (by omega)) ?_)) <;> try (conv => whnf)
      refine And.intro (fun _ => ?_) (fun hh => absurd hh (by simp))
      (repeat ((conv => whnf); refine And.intro (by first | omega | exact ⟨by omega, trivial⟩ | exact ⟨by omega, by omega⟩ | rfl | exact And.intro rfl (by omega)) ?_)) <;> try (conv => whnf)
      refine And.intro (fun _ => ?_) (fun hh => absurd hh (by simp))
      (repeat ((conv => whnf); refine And.intro (by first | omega | exact ⟨by omega, trivial⟩ | exact ⟨by omega, by omega⟩ | rfl | exact And.intro rfl (by omega)) ?_)) <;> try (conv => whnf)
      refine And.intro (fun _ => ?_) (fun hh => absurd hh (by simp))
      (repeat ((conv => whnf); refine And.intro (by first | omega | exact ⟨by omega, trivial⟩ | exact ⟨by omega, by omega⟩ | rfl | exact And.intro rfl (by omega)) ?_)) <;> try (conv => whnf)
      exact congrArg Value.bool (by simp)
  | true => cases g2 with
    | false =>
      (repeat ((conv => whnf); refine And.intro (by first | omega | exact ⟨by omega, trivial⟩ | exact ⟨by omega, by omega⟩ | rfl | exact And.intro rfl (by omega)) ?_)) <;> try (conv => whnf)
      refine ⟨true, ⟨by omega, by omega, h1⟩, ?_⟩
      (repeat ((conv => whnf); refine And.intro (by first | omega | exact ⟨by omega, trivial⟩ | exact ⟨by omega, by omega⟩ | rfl | exact And.intro rfl (by omega)) ?_)) <;> try (conv => whnf)
      refine ⟨true, ⟨by omega, by omega, h1⟩, ?_⟩
      (repeat ((conv => whnf); refine And.intro (by first | omega | exact ⟨by omega, trivial⟩ | exact ⟨by omega, by omega⟩ | rfl | exact And.intro rfl (by omega)) ?_)) <;> try (conv => whnf)
      refine ⟨false, ⟨by omega, h2⟩, ?_⟩
      (repeat ((conv => whnf); refine And.intro (by first | omega | exact ⟨by omega, trivial⟩ | exact ⟨by omega, by omega⟩ | rfl | exact And.intro rfl (by omega)) ?_)) <;> try (conv => whnf)
      refine ⟨false, ⟨by omega, by omega, h2⟩, ?_⟩
      (repeat ((conv => whnf); refine And.intro (by first | omega | exact ⟨by omega, trivial⟩ | exact ⟨by omega, by omega⟩ | rfl | exact And.intro rfl (by omega)) ?_)) <;> try (conv => whnf)
      refine And.intro (fun hh => absurd hh (by decide)) (fun _ => ?_)
      (repeat ((conv => whnf); refine And.intro (by first | omega | exact ⟨by omega, trivial⟩ | exact ⟨by omega, by omega⟩ | rfl | exact And.intro rfl (by omega)) ?_)) <;> try (conv => whnf)
      refine And.intro (fun hh => absurd hh (by decide)) (fun _ => ?_)
      (repeat ((conv => whnf); refine And.intro (by first | omega | exact ⟨by omega, trivial⟩ | exact ⟨by omega, by omega⟩ | rfl | exact And.intro rfl (by omega)) ?_)) <;> try (conv => whnf)
      refine And.intro (fun hh => absurd hh (by simp)) (fun _ => ?_)
      (repeat ((conv => whnf); refine And.intro (by first | omega | exact ⟨by omega, trivial⟩ | exact ⟨by omega, by omega⟩ | rfl | exact And.intro rfl (by omega)) ?_)) <;> try (conv => whnf)
      refine And.intro (fun _ => ?_) (fun hh => absurd hh (by simp))
      (repeat ((conv => whnf); refine And.intro (by first | omega | exact ⟨by omega, trivial⟩ | exact ⟨by omega, by omega⟩ | rfl | exact And.intro rfl (by omega)) ?_)) <;> try (conv => whnf)
      refine And.intro (fun _ => ?_) (fun hh => absurd hh (by simp))
      (repeat ((conv => whnf); refine And.intro (by first | omega | exact ⟨by omega, trivial⟩ | exact ⟨by omega, by omega⟩ | rfl | exact And.intro rfl (by omega)) ?_)) <;> try (conv => whnf)
      refine And.intro (fun _ => ?_) (fun hh => absurd hh (by simp))
      (repeat ((conv => whnf); refine And.intro (by first | omega | exact ⟨by omega, trivial⟩ | exact ⟨by omega, by omega⟩ | rfl | exact And.intro rfl (by omega)) ?_)) <;> try (conv => whnf)
      exact congrArg Value.bool (by simp)
    | true =>
      (repeat ((conv => whnf); refine And.intro (by first | omega | exact ⟨by omega, trivial⟩ | exact ⟨by omega, by omega⟩ | rfl | exact And.intro rfl (by omega)) ?_)) <;> try (conv => whnf)
      refine ⟨true, ⟨by omega, by omega, h1⟩, ?_⟩
      (repeat ((conv => whnf); refine And.intro (by first | omega | exact ⟨by omega, trivial⟩ | exact ⟨by omega, by omega⟩ | rfl | exact And.intro rfl (by omega)) ?_)) <;> try (conv => whnf)
      refine ⟨true, ⟨by omega, by omega, h1⟩, ?_⟩
      (repeat ((conv => whnf); refine And.intro (by first | omega | exact ⟨by omega, trivial⟩ | exact ⟨by omega, by omega⟩ | rfl | exact And.intro rfl (by omega)) ?_)) <;> try (conv => whnf)
      refine ⟨true, ⟨by omega, h2⟩, ?_⟩
      (repeat ((conv => whnf); refine And.intro (by first | omega | exact ⟨by omega, trivial⟩ | exact ⟨by omega, by omega⟩ | rfl | exact And.intro rfl (by omega)) ?_)) <;> try (conv => whnf)
      refine ⟨true, ⟨by omega, by omega, h2⟩, ?_⟩
      (repeat ((conv => whnf); refine And.intro (by first | omega | exact ⟨by omega, trivial⟩ | exact ⟨by omega, by omega⟩ | rfl | exact And.intro rfl (by omega)) ?_)) <;> try (conv => whnf)
      refine And.intro (fun hh => absurd hh (by decide)) (fun _ => ?_)
      (repeat ((conv => whnf); refine And.intro (by first | omega | exact ⟨by omega, trivial⟩ | exact ⟨by omega, by omega⟩ | rfl | exact And.intro rfl (by omega)) ?_)) <;> try (conv => whnf)
      refine And.intro (fun hh => absurd hh (by decide)) (fun _ => ?_)
      (repeat ((conv => whnf); refine And.intro (by first | omega | exact ⟨by omega, trivial⟩ | exact ⟨by omega, by omega⟩ | rfl | exact And.intro rfl (by omega)) ?_)) <;> try (conv => whnf)
      refine And.intro (fun hh => absurd hh (by simp)) (fun _ => ?_)
      (repeat ((conv => whnf); refine And.intro (by first | omega | exact ⟨by omega, trivial⟩ | exact ⟨by omega, by omega⟩ | rfl | exact And.intro rfl (by omega)) ?_)) <;> try (conv => whnf)
      refine And.intro (fun hh => absurd hh (by simp [one_div])) (fun _ => ?_)
      (repeat ((conv => whnf); refine And.intro (by first | omega | exact ⟨by omega, trivial⟩ | exact ⟨by omega, by omega⟩ | rfl | exact And.intro rfl (by omega)) ?_)) <;> try (conv => whnf)
      refine And.intro (fun _ => ?_) (fun hh => absurd hh (by simp))
      (repeat ((conv => whnf); refine And.intro (by first | omega | exact ⟨by omega, trivial⟩ | exact ⟨by omega, by omega⟩ | rfl | exact And.intro rfl (by omega)) ?_)) <;> try (conv => whnf)
      refine And.intro (fun _ => ?_) (fun hh => absurd hh (by simp))
      (repeat ((conv => whnf); refine And.intro (by first | omega | exact ⟨by omega, trivial⟩ | exact ⟨by omega, by omega⟩ | rfl | exact And.intro rfl (by omega)) ?_)) <;> try (conv => whnf)
      refine And.intro (fun _ => ?_) (fun hh => absurd hh (by simp))
      (repeat ((conv => whnf); refine And.intro (by first | omega | exact ⟨by omega, trivial⟩ | exact ⟨by omega, by omega⟩ | rfl | exact And.intro rfl (by omega)) ?_)) <;> try (conv => whnf)
      exact congrArg Value.bool (by simp)

set_option maxRecDepth 100000 in
theorem rarith_walk (p0 : Bool) (A0 : Option Addr) (xs0 : List Nat) (c0 : Nat) (B0 : Option Addr) (ys0 : List Nat) (d0 : Nat) (p1 : Bool) (A1 : Option Addr) (xs1 : List Nat) (c1 : Nat) (B1 : Option Addr) (ys1 : List Nat) (d1 : Nat) (w : World) (h0 : Lim w A0 c0 xs0) (g0 : Lim w B0 d0 ys0) (h1 : Lim w A1 c1 xs1) (g1 : Lim w B1 d1 ys1) (k0 : xs0.length ≤ 1048576) (l0 : ys0.length ≤ 1048576) (k1 : xs1.length ≤ 1048576) (l1 : ys1.length ≤ 1048576)  :
    Calls Try.prog 4 #[.agg #[.bool p0, .slice A0 xs0.length c0, .slice B0 ys0.length d0], .agg #[.bool p1, .slice A1 xs1.length c1, .slice B1 ys1.length d1]] w (RetB w true) :=
  call_b (fn_ok (own := fun _ => False) (ctx_ok TT_ok [awake3_s, RDiv_s, rRDiv_s, RInv_s, rRFromInt_s, rREq_s, RNeg_s, rRNeg_s, RAdd_s, rRAdd_s, RSub_s, rRSub_s, RMul_s, rRMul_s]) mixed_ok (fn := Try.f4) (by kernel_rfl) (rarith_x _ _ 1048576 (Nat.le_refl _) (decide (_ ≠ 0)) (decide (_ ≠ 0)) (decide_eq_true_iff) (decide_eq_true_iff)) (fun _ h => h.elim) (.cons (rob_rat p0 h0 g0 k0 l0 (by decide)) (.cons (rob_rat p1 h1 g1 k1 l1 (by decide)) .nil)))
end Go.Proofs.Ytdcofnjekdkifaa
