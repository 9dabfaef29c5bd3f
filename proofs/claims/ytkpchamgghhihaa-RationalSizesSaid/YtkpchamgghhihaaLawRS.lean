/- The walk of the statement RationalSizes: it returns true. -/
import Derived.Test.YtkpchamgghhihaaRatM4
namespace Go.Proofs.Ytkpchamgghhihaa
open Go.RowKit Gm

theorem nb_mul_le (x y : Nat) : nb (x * y) ≤ nb x + nb y := by
  refine nb_le ?_
  rw [Nat.pow_add]
  have h1 := nb_lt x
  have h2 := nb_lt y
  exact Nat.mul_lt_mul'' h1 h2
theorem rat_mul_le (r s : Rat) : (r * s).num.natAbs ≤ r.num.natAbs * s.num.natAbs ∧ (r * s).den ≤ r.den * s.den := by
  have h : r * s = mkRat (r.num * s.num) (r.den * s.den) := by
    conv => lhs; rw [← Rat.mkRat_self r, ← Rat.mkRat_self s]
    exact Rat.mkRat_mul_mkRat _ _ _ _
  rw [h]
  refine ⟨?_, mkRat_den_le _ (Nat.mul_ne_zero r.den_nz s.den_nz)⟩
  rw [← Int.natAbs_mul]
  exact mkRat_num_le _ _
theorem rsz_mul (r s : Rat) : rsz (r * s) ≤ rsz r + rsz s := by
  obtain ⟨h1, h2⟩ := rat_mul_le r s
  unfold rsz
  have k1 := Nat.le_trans (nb_mono h1) (nb_mul_le _ _)
  have k2 := Nat.le_trans (nb_mono h2) (nb_mul_le _ _)
  omega

set_option maxRecDepth 100000 in
set_option maxHeartbeats 4000000 in
theorem rsizes_walk (p0 : Bool) (A0 : Option Addr) (xs0 : List Nat) (c0 : Nat) (B0 : Option Addr) (ys0 : List Nat) (d0 : Nat) (p1 : Bool) (A1 : Option Addr) (xs1 : List Nat) (c1 : Nat) (B1 : Option Addr) (ys1 : List Nat) (d1 : Nat) (w : World) (h0 : Lim w A0 c0 xs0) (g0 : Lim w B0 d0 ys0) (h1 : Lim w A1 c1 xs1) (g1 : Lim w B1 d1 ys1) (k0 : xs0.length ≤ 35184372087808) (l0 : ys0.length ≤ 35184372087808) (k1 : xs1.length ≤ 35184372087808) (l1 : ys1.length ≤ 35184372087808) :
    Calls Try.prog 8 #[.agg #[.bool p0, .slice A0 xs0.length c0, .slice B0 ys0.length d0], .agg #[.bool p1, .slice A1 xs1.length c1, .slice B1 ys1.length d1]] w (RetB w true) := by
  obtain ⟨r, er⟩ : ∃ r, rv p0 xs0 ys0 = r := ⟨_, rfl⟩
  obtain ⟨s, es⟩ : ∃ r, rv p1 xs1 ys1 = r := ⟨_, rfl⟩
  obtain ⟨t, et⟩ : ∃ t, r * s = t := ⟨_, rfl⟩
  obtain ⟨m, em⟩ : ∃ m, rsz r = m := ⟨_, rfl⟩
  obtain ⟨n, en⟩ : ∃ m, rsz s = m := ⟨_, rfl⟩
  obtain ⟨k, ek⟩ : ∃ m, rsz t = m := ⟨_, rfl⟩
  have zr : (limbs r.num.natAbs).length ≤ 35184372087808 := by rw [← er]; exact rv_num_sz h0.lb k0
  have zr' : (limbs r.den).length ≤ 35184372087808 := by rw [← er]; exact rv_den_sz g0.lb l0 (by omega)
  have zs : (limbs s.num.natAbs).length ≤ 35184372087808 := by rw [← es]; exact rv_num_sz h1.lb k1
  have zs' : (limbs s.den).length ≤ 35184372087808 := by rw [← es]; exact rv_den_sz g1.lb l1 (by omega)
  have zt : (limbs t.num.natAbs).length ≤ 70368744175616 := by
    rw [← et]
    refine Nat.le_trans (limbs_mono (rat_mul_le r s).1) ?_
    have := limbs_mul_le r.num.natAbs s.num.natAbs
    omega
  have zt' : (limbs t.den).length ≤ 70368744175616 := by
    rw [← et]
    refine Nat.le_trans (limbs_mono (rat_mul_le r s).2) ?_
    have := limbs_mul_le r.den s.den
    omega
  have hle : k ≤ m + n := by rw [← ek, ← et, ← em, ← en]; exact rsz_mul r s
  have bm : m ≤ 2251799813619712 := by
    rw [← em]; unfold rsz
    have := nb_limbs_le zr
    have := nb_limbs_le zr'
    omega
  have bn : n ≤ 2251799813619712 := by
    rw [← en]; unfold rsz
    have := nb_limbs_le zs
    have := nb_limbs_le zs'
    omega
  obtain ⟨mn, emn⟩ : ∃ x : Nat, m + n = x := ⟨_, rfl⟩
  have hdec : decide ((k : Int) ≤ (mn : Int)) = true := by rw [decide_eq_true_eq]; omega
  have hle2 : (k : Int) ≤ (mn : Int) := by omega
  have esum : ((m : Int) + (n : Int)) = (mn : Int) := by omega
  have w1 : IntKind.i64.wrap ((m : Int) + (n : Int)) = (mn : Int) := by rw [esum]; exact IntWalk.i64_in _ (by omega)
  have WSUM := Lib.hid w1
  clear w1
  have w2 : wrap64 ((m : Int) + (n : Int)) = (mn : Int) := by rw [esum]; exact IntWalk.wrap64_in _ ⟨by omega, by omega⟩
  have WSUM2 := Lib.hid w2
  clear w2 esum
  have ER := Lib.hid er
  have ES := Lib.hid es
  have ET := Lib.hid et
  have EM := Lib.hid em
  have EN := Lib.hid en
  have EK := Lib.hid ek
  clear er es et em en ek hle emn
  obtain ⟨W, hW, hbW, hsz, i0, i1⟩ := rbox2 w p0 p1 (.slice A0 xs0.length c0) (.slice B0 ys0.length d0) (.slice A1 xs1.length c1) (.slice B1 ys1.length d1)
  have j0 := i0.lt
  have j1 := i1.lt
  obtain ⟨x0, x1, x2, _, _, _⟩ := id i0
  obtain ⟨y0, y1, y2, _, _, _⟩ := id i1
  have HW := Lib.hid hW
  clear hW hsz
  replace h0 := h0.below hbW
  replace g0 := g0.below hbW
  replace h1 := h1.below hbW
  replace g1 := g1.below hbW
  have tk0 : True := trivial
  have tk1 : True := trivial
  have tk2 : True := trivial
  go_enter Try.func8, Try.ntmps8
  go_wp2_with fail
  rw [HW.out]
  have hBel : Below W.heap.size W W.drew := (Below.refl _ _).drew
  have wsum := WSUM.out
  go_region_held3 (fun w' => w'.cell? ⟨w.heap.size, 0, none⟩ = some (.bool p0) ∧ w'.cell? ⟨w.heap.size, 1, none⟩ = some (.slice A0 xs0.length c0) ∧ w'.cell? ⟨w.heap.size, 2, none⟩ = some (.slice B0 ys0.length d0) ∧ w'.cell? ⟨w.heap.size + 1, 0, none⟩ = some (.bool p1) ∧ w'.cell? ⟨w.heap.size + 1, 1, none⟩ = some (.slice A1 xs1.length c1) ∧ w'.cell? ⟨w.heap.size + 1, 2, none⟩ = some (.slice B1 ys1.length d1))
    (first | (with_reducible exact ⟨cellB hBel j0 x0, cellB hBel j0 x1, cellB hBel j0 x2, cellB hBel j1 y0, cellB hBel j1 y1, cellB hBel j1 y2⟩) | go_keep)
    (first
      | (go_at_call 40; refine (awake3_c _).mono ?_; rintro e v0 ⟨rfl, b0⟩; replace hBel := hBel.trans (b0.mono hBel.size))
      | (go_at_call 44; have _t := tk0; clear tk0; refine (RSize_c p0 A0 B0 xs0 ys0 c0 d0 _ r m 35184372087808 ?_ ?_ k0 l0 (by decide) (by decide) ER.out EM.out).mono ?_; exact h0.below hBel; exact g0.below hBel; rintro e v1 ⟨rfl, b1⟩; replace hBel := hBel.trans (b1.mono hBel.size))
      | (go_at_call 45; refine (rRSize_c p0 A0 B0 xs0 ys0 c0 d0 _ r m 35184372087808 ?_ ?_ k0 l0 (by decide) (by decide) ER.out EM.out).mono ?_; exact h0.below hBel; exact g0.below hBel; rintro e v2 ⟨rfl, b2⟩; replace hBel := hBel.trans (b2.mono hBel.size))
      | (go_at_call 46; refine (RMul_c p0 p1 A0 B0 A1 B1 xs0 ys0 xs1 ys1 c0 d0 c1 d1 _ r s t 35184372087808 ?_ ?_ ?_ ?_ k0 l0 k1 l1 (by decide) (by decide) ER.out ES.out ET.out).mono ?_; exact h0.below hBel; exact g0.below hBel; exact h1.below hBel; exact g1.below hBel; rintro e v3 ⟨A3, c3, B3, d3, rfl, r3, q3, b3⟩; replace hBel := hBel.trans (b3.mono hBel.size))
      | (go_at_call 44; have _t := tk1; clear tk1; refine (RSize_c _ A3 B3 (limbs t.num.natAbs) (limbs t.den) c3 d3 _ t k 70368744175616 ?_ ?_ zt zt' (by decide) (by decide) (rv_canon t) EK.out).mono ?_; exact r3.lim; exact q3.lim; rintro e v4 ⟨rfl, b4⟩; replace hBel := hBel.trans (b4.mono hBel.size))
      | (go_at_call 44; have _t := tk2; clear tk2; refine (RSize_c p0 A0 B0 xs0 ys0 c0 d0 _ r m 35184372087808 ?_ ?_ k0 l0 (by decide) (by decide) ER.out EM.out).mono ?_; exact h0.below hBel; exact g0.below hBel; rintro e v5 ⟨rfl, b5⟩; replace hBel := hBel.trans (b5.mono hBel.size))
      | (go_at_call 44; refine (RSize_c p1 A1 B1 xs1 ys1 c1 d1 _ s n 35184372087808 ?_ ?_ k1 l1 (by decide) (by decide) ES.out EN.out).mono ?_; exact h1.below hBel; exact g1.below hBel; rintro e v6 ⟨rfl, b6⟩; replace hBel := hBel.trans (b6.mono hBel.size)))
  rename_i hHeld
  clear hHeld
  go_wp2_with fail
  go_ret
  exact ⟨rfl, hbW.trans (hBel.mono hbW.size)⟩
end Go.Proofs.Ytkpchamgghhihaa
