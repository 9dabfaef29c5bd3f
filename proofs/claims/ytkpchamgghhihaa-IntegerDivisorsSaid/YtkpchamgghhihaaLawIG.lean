/- The walk of the statement IntegerDivisors: it returns true. -/
import Derived.Test.YtkpchamgghhihaaPair
namespace Go.Proofs.Ytkpchamgghhihaa
open Go.RowKit Gm

set_option maxRecDepth 100000 in
set_option maxHeartbeats 4000000 in
theorem idivisors_walk (p0 : Bool) (A0 : Option Addr) (xs0 : List Nat) (c0 : Nat) (p1 : Bool) (A1 : Option Addr) (xs1 : List Nat) (c1 : Nat) (p2 : Bool) (A2 : Option Addr) (xs2 : List Nat) (c2 : Nat) (w : World) (h0 : Lim w A0 c0 xs0) (h1 : Lim w A1 c1 xs1) (h2 : Lim w A2 c2 xs2) (k0 : xs0.length ≤ 35184372087808) (k1 : xs1.length ≤ 35184372087808) (k2 : xs2.length ≤ 35184372087808) :
    Calls Try.prog 4 #[.agg #[.bool p0, .slice A0 xs0.length c0], .agg #[.bool p1, .slice A1 xs1.length c1], .agg #[.bool p2, .slice A2 xs2.length c2]] w (RetB w true) := by
  obtain ⟨a, ea⟩ : ∃ s, iv p0 xs0 = s := ⟨_, rfl⟩
  obtain ⟨b, eb⟩ : ∃ s, iv p1 xs1 = s := ⟨_, rfl⟩
  obtain ⟨d, ed⟩ : ∃ s, iv p2 xs2 = s := ⟨_, rfl⟩
  have za : (limbs a.natAbs).length ≤ 35184372087808 := by rw [← ea]; exact iv_len h0.lb k0
  have zb : (limbs b.natAbs).length ≤ 35184372087808 := by rw [← eb]; exact iv_len h1.lb k1
  have zd : (limbs d.natAbs).length ≤ 35184372087808 := by rw [← ed]; exact iv_len h2.lb k2
  obtain ⟨x, ex⟩ : ∃ s, a * d = s := ⟨_, rfl⟩
  obtain ⟨y, ey⟩ : ∃ s, b * d = s := ⟨_, rfl⟩
  have zx := imul_sz (j := 70368744175616) za zd ex (by omega)
  have zy := imul_sz (j := 70368744175616) zb zd ey (by omega)
  obtain ⟨g, eg⟩ : ∃ s : Int, ((Nat.gcd x.natAbs y.natAbs : Nat) : Int) = s := ⟨_, rfl⟩
  have zg : (limbs g.natAbs).length ≤ 70368744175616 := by rw [← eg, Int.natAbs_natCast]; exact gcd_sz zx zy rfl (Nat.le_refl _)
  have er : d ≠ 0 → g % d = 0 := fun _ => by
    apply Int.emod_eq_zero_of_dvd
    rw [← eg, ← Int.natAbs_dvd, Int.natCast_dvd_natCast]
    apply Nat.dvd_gcd
    · rw [← ex, Int.natAbs_mul]; exact Nat.dvd_mul_left _ _
    · rw [← ey, Int.natAbs_mul]; exact Nat.dvd_mul_left _ _
  have eg0 : d = 0 → g = 0 := fun h => by
    subst h
    rw [Int.mul_zero] at ex ey
    subst ex ey
    rw [← eg]; rfl
  obtain ⟨o, eo⟩ : ∃ o, decide (d ≠ 0) = o := ⟨_, rfl⟩
  have Eo := Lib.hid eo
  clear eo
  have Ea := Lib.hid ea
  have Eb := Lib.hid eb
  have Ed := Lib.hid ed
  have Ex := Lib.hid ex
  have Ey := Lib.hid ey
  have Eg := Lib.hid eg
  have Er := Lib.hid er
  have EG0 := Lib.hid eg0
  clear ea eb ed ex ey eg er eg0
  have tk0 : True := trivial
  have tk1 : True := trivial
  go_enter Try.func4, Try.ntmps4
  go_upto_region 1 with fail
  obtain ⟨W, hW, hbW, hsz, cf0, cf1, cf2, cf3, cf4, cf5⟩ := boxes3 w p0 p1 p2 (.slice A0 xs0.length c0) (.slice A1 xs1.length c1) (.slice A2 xs2.length c2)
  rw [hW]
  clear hW
  have j0 : w.heap.size < W.heap.size := by omega
  have j1 : w.heap.size + 1 < W.heap.size := by omega
  have j2 : w.heap.size + 1 + 1 < W.heap.size := by omega
  clear hsz
  replace h0 := h0.below hbW
  replace h1 := h1.below hbW
  replace h2 := h2.below hbW
  have hBel : Below W.heap.size W W.drew := (Below.refl _ _).drew
  go_cut [7, 8] (fun s7 s8 wx => ∃ g7 g8 Ax cx Ay cy, s7 = .pointer (some ⟨g7, 0, none⟩) ∧ s8 = .pointer (some ⟨g8, 0, none⟩) ∧ IntAt wx g7 (decide (x < 0)) (.slice Ax (limbs x.natAbs).length cx) ∧ IntAt wx g8 (decide (y < 0)) (.slice Ay (limbs y.natAbs).length cy) ∧ Lim wx Ax cx (limbs x.natAbs) ∧ Lim wx Ay cy (limbs y.natAbs) ∧ Below W.heap.size W wx)
  case first =>
    go_region_held3 (fun w' => w'.cell? ⟨w.heap.size, 0, none⟩ = some (.bool p0) ∧ w'.cell? ⟨w.heap.size, 1, none⟩ = some (.slice A0 xs0.length c0) ∧ w'.cell? ⟨w.heap.size + 1, 0, none⟩ = some (.bool p1) ∧ w'.cell? ⟨w.heap.size + 1, 1, none⟩ = some (.slice A1 xs1.length c1) ∧ w'.cell? ⟨w.heap.size + 1 + 1, 0, none⟩ = some (.bool p2) ∧ w'.cell? ⟨w.heap.size + 1 + 1, 1, none⟩ = some (.slice A2 xs2.length c2))
      (first | (with_reducible exact ⟨cellB hBel j0 cf0, cellB hBel j0 cf1, cellB hBel j1 cf2, cellB hBel j1 cf3, cellB hBel j2 cf4, cellB hBel j2 cf5⟩) | (refine ⟨cellB (W := W) ?_ j0 cf0, cellB (W := W) ?_ j0 cf1, cellB (W := W) ?_ j1 cf2, cellB (W := W) ?_ j1 cf3, cellB (W := W) ?_ j2 cf4, cellB (W := W) ?_ j2 cf5⟩ <;> (first | with_reducible exact hBel | with_reducible exact Below.al1 hBel _ | with_reducible exact (Below.al1 (Below.refl _ _) _).drew | with_reducible exact (Below.al1 (Below.al1 (Below.refl _ _) _) _).drew | with_reducible exact Below.al1 (Below.al1 hBel _) _ | with_reducible exact Below.st2 hBel (by omega) _ _ | with_reducible exact Below.st2 (Below.al1 hBel _) (by omega) _ _ | with_reducible exact Below.al1 (Below.st2 hBel (by omega) _ _) _ | with_reducible exact Below.st2 (Below.al1 (Below.al1 hBel _) _) (by omega) _ _ | with_reducible exact Below.st2 (Below.st2 hBel (by omega) _ _) (by omega) _ _ | with_reducible exact Below.st2 (Below.st2 (Below.al1 hBel _) (by omega) _ _) (by omega) _ _ | with_reducible exact Below.st2 (Below.st2 (Below.al1 (Below.al1 hBel _) _) (by omega) _ _) (by omega) _ _ | with_reducible exact Below.st2 (Below.al1 (Below.st2 hBel (by omega) _ _) _) (by omega) _ _ | with_reducible exact Below.st2 (Below.al1 (Below.st2 (Below.al1 hBel _) (by omega) _ _) _) (by omega) _ _ | with_reducible exact Below.al1 (Below.st2 (Below.al1 hBel _) (by omega) _ _) _)))
      (first
        | (go_at_call 25; have _t := tk0; clear tk0; refine (IMul_n p0 p2 A0 A2 xs0 xs2 c0 c2 _ a d x 35184372087808 35184372087808 ?_ ?_ k0 k2 Ea.out Ed.out Ex.out (by omega)).mono ?_; (with_reducible refine h0.below ?_; (first | with_reducible exact hBel | with_reducible exact Below.al1 hBel _ | with_reducible exact (Below.al1 (Below.refl _ _) _).drew | with_reducible exact (Below.al1 (Below.al1 (Below.refl _ _) _) _).drew | with_reducible exact Below.al1 (Below.al1 hBel _) _ | with_reducible exact Below.st2 hBel (by omega) _ _ | with_reducible exact Below.st2 (Below.al1 hBel _) (by omega) _ _ | with_reducible exact Below.al1 (Below.st2 hBel (by omega) _ _) _ | with_reducible exact Below.st2 (Below.al1 (Below.al1 hBel _) _) (by omega) _ _ | with_reducible exact Below.st2 (Below.st2 hBel (by omega) _ _) (by omega) _ _ | with_reducible exact Below.st2 (Below.st2 (Below.al1 hBel _) (by omega) _ _) (by omega) _ _ | with_reducible exact Below.st2 (Below.st2 (Below.al1 (Below.al1 hBel _) _) (by omega) _ _) (by omega) _ _ | with_reducible exact Below.st2 (Below.al1 (Below.st2 hBel (by omega) _ _) _) (by omega) _ _ | with_reducible exact Below.st2 (Below.al1 (Below.st2 (Below.al1 hBel _) (by omega) _ _) _) (by omega) _ _ | with_reducible exact Below.al1 (Below.st2 (Below.al1 hBel _) (by omega) _ _) _)); (with_reducible refine h2.below ?_; (first | with_reducible exact hBel | with_reducible exact Below.al1 hBel _ | with_reducible exact (Below.al1 (Below.refl _ _) _).drew | with_reducible exact (Below.al1 (Below.al1 (Below.refl _ _) _) _).drew | with_reducible exact Below.al1 (Below.al1 hBel _) _ | with_reducible exact Below.st2 hBel (by omega) _ _ | with_reducible exact Below.st2 (Below.al1 hBel _) (by omega) _ _ | with_reducible exact Below.al1 (Below.st2 hBel (by omega) _ _) _ | with_reducible exact Below.st2 (Below.al1 (Below.al1 hBel _) _) (by omega) _ _ | with_reducible exact Below.st2 (Below.st2 hBel (by omega) _ _) (by omega) _ _ | with_reducible exact Below.st2 (Below.st2 (Below.al1 hBel _) (by omega) _ _) (by omega) _ _ | with_reducible exact Below.st2 (Below.st2 (Below.al1 (Below.al1 hBel _) _) (by omega) _ _) (by omega) _ _ | with_reducible exact Below.st2 (Below.al1 (Below.st2 hBel (by omega) _ _) _) (by omega) _ _ | with_reducible exact Below.st2 (Below.al1 (Below.st2 (Below.al1 hBel _) (by omega) _ _) _) (by omega) _ _ | with_reducible exact Below.al1 (Below.st2 (Below.al1 hBel _) (by omega) _ _) _)); rintro e w1 ⟨Ax, cx, rfl, rx, b1⟩; have hBel' : Below W.heap.size W w1 := bel_call (by (first | with_reducible exact hBel | with_reducible exact Below.al1 hBel _ | with_reducible exact (Below.al1 (Below.refl _ _) _).drew | with_reducible exact (Below.al1 (Below.al1 (Below.refl _ _) _) _).drew | with_reducible exact Below.al1 (Below.al1 hBel _) _ | with_reducible exact Below.st2 hBel (by omega) _ _ | with_reducible exact Below.st2 (Below.al1 hBel _) (by omega) _ _ | with_reducible exact Below.al1 (Below.st2 hBel (by omega) _ _) _ | with_reducible exact Below.st2 (Below.al1 (Below.al1 hBel _) _) (by omega) _ _ | with_reducible exact Below.st2 (Below.st2 hBel (by omega) _ _) (by omega) _ _ | with_reducible exact Below.st2 (Below.st2 (Below.al1 hBel _) (by omega) _ _) (by omega) _ _ | with_reducible exact Below.st2 (Below.st2 (Below.al1 (Below.al1 hBel _) _) (by omega) _ _) (by omega) _ _ | with_reducible exact Below.st2 (Below.al1 (Below.st2 hBel (by omega) _ _) _) (by omega) _ _ | with_reducible exact Below.st2 (Below.al1 (Below.st2 (Below.al1 hBel _) (by omega) _ _) _) (by omega) _ _ | with_reducible exact Below.al1 (Below.st2 (Below.al1 hBel _) (by omega) _ _) _)) b1; have z1 := b1.size; (try simp at z1); have q1 := hBel'.size; (try (have y1 : W.heap.size < w1.heap.size := by omega)); (try (have y2 : W.heap.size + 1 < w1.heap.size := by omega)); (try (have s1 : IntAt w1 W.heap.size false (.slice none 0 0) := (IntAt.new W.drew false (.slice none 0 0)).keep b1; obtain ⟨s1a, s1b, s1c, s1d⟩ := id s1)); (try (have s1 : IntAt w1 W.heap.size false (.slice none 0 0) := ((IntAt.new W.drew false (.slice none 0 0)).alloc _).keep b1; obtain ⟨s1a, s1b, s1c, s1d⟩ := id s1)); (try (have s2 : IntAt w1 (W.heap.size + 1) false (.slice none 0 0) := (IntAt.new2 W.drew _ false (.slice none 0 0)).keep b1; obtain ⟨s2a, s2b, s2c, s2d⟩ := id s2)); clear hBel; have hBel := hBel'; clear hBel')
        | (go_at_call 25; have _t := tk1; clear tk1; refine (IMul_n p1 p2 A1 A2 xs1 xs2 c1 c2 _ b d y 35184372087808 35184372087808 ?_ ?_ k1 k2 Eb.out Ed.out Ey.out (by omega)).mono ?_; (with_reducible refine h1.below ?_; (first | with_reducible exact hBel | with_reducible exact Below.al1 hBel _ | with_reducible exact (Below.al1 (Below.refl _ _) _).drew | with_reducible exact (Below.al1 (Below.al1 (Below.refl _ _) _) _).drew | with_reducible exact Below.al1 (Below.al1 hBel _) _ | with_reducible exact Below.st2 hBel (by omega) _ _ | with_reducible exact Below.st2 (Below.al1 hBel _) (by omega) _ _ | with_reducible exact Below.al1 (Below.st2 hBel (by omega) _ _) _ | with_reducible exact Below.st2 (Below.al1 (Below.al1 hBel _) _) (by omega) _ _ | with_reducible exact Below.st2 (Below.st2 hBel (by omega) _ _) (by omega) _ _ | with_reducible exact Below.st2 (Below.st2 (Below.al1 hBel _) (by omega) _ _) (by omega) _ _ | with_reducible exact Below.st2 (Below.st2 (Below.al1 (Below.al1 hBel _) _) (by omega) _ _) (by omega) _ _ | with_reducible exact Below.st2 (Below.al1 (Below.st2 hBel (by omega) _ _) _) (by omega) _ _ | with_reducible exact Below.st2 (Below.al1 (Below.st2 (Below.al1 hBel _) (by omega) _ _) _) (by omega) _ _ | with_reducible exact Below.al1 (Below.st2 (Below.al1 hBel _) (by omega) _ _) _)); (with_reducible refine h2.below ?_; (first | with_reducible exact hBel | with_reducible exact Below.al1 hBel _ | with_reducible exact (Below.al1 (Below.refl _ _) _).drew | with_reducible exact (Below.al1 (Below.al1 (Below.refl _ _) _) _).drew | with_reducible exact Below.al1 (Below.al1 hBel _) _ | with_reducible exact Below.st2 hBel (by omega) _ _ | with_reducible exact Below.st2 (Below.al1 hBel _) (by omega) _ _ | with_reducible exact Below.al1 (Below.st2 hBel (by omega) _ _) _ | with_reducible exact Below.st2 (Below.al1 (Below.al1 hBel _) _) (by omega) _ _ | with_reducible exact Below.st2 (Below.st2 hBel (by omega) _ _) (by omega) _ _ | with_reducible exact Below.st2 (Below.st2 (Below.al1 hBel _) (by omega) _ _) (by omega) _ _ | with_reducible exact Below.st2 (Below.st2 (Below.al1 (Below.al1 hBel _) _) (by omega) _ _) (by omega) _ _ | with_reducible exact Below.st2 (Below.al1 (Below.st2 hBel (by omega) _ _) _) (by omega) _ _ | with_reducible exact Below.st2 (Below.al1 (Below.st2 (Below.al1 hBel _) (by omega) _ _) _) (by omega) _ _ | with_reducible exact Below.al1 (Below.st2 (Below.al1 hBel _) (by omega) _ _) _)); rintro e w2 ⟨Ay, cy, rfl, ry, b2⟩; have hBel' : Below W.heap.size W w2 := bel_call (by (first | with_reducible exact hBel | with_reducible exact Below.al1 hBel _ | with_reducible exact (Below.al1 (Below.refl _ _) _).drew | with_reducible exact (Below.al1 (Below.al1 (Below.refl _ _) _) _).drew | with_reducible exact Below.al1 (Below.al1 hBel _) _ | with_reducible exact Below.st2 hBel (by omega) _ _ | with_reducible exact Below.st2 (Below.al1 hBel _) (by omega) _ _ | with_reducible exact Below.al1 (Below.st2 hBel (by omega) _ _) _ | with_reducible exact Below.st2 (Below.al1 (Below.al1 hBel _) _) (by omega) _ _ | with_reducible exact Below.st2 (Below.st2 hBel (by omega) _ _) (by omega) _ _ | with_reducible exact Below.st2 (Below.st2 (Below.al1 hBel _) (by omega) _ _) (by omega) _ _ | with_reducible exact Below.st2 (Below.st2 (Below.al1 (Below.al1 hBel _) _) (by omega) _ _) (by omega) _ _ | with_reducible exact Below.st2 (Below.al1 (Below.st2 hBel (by omega) _ _) _) (by omega) _ _ | with_reducible exact Below.st2 (Below.al1 (Below.st2 (Below.al1 hBel _) (by omega) _ _) _) (by omega) _ _ | with_reducible exact Below.al1 (Below.st2 (Below.al1 hBel _) (by omega) _ _) _)) b2; have ly := ry.lim; have lx : Lim w2 Ax cx (limbs x.natAbs) := (by first | with_reducible exact rx.lim.below b2 | with_reducible exact (rx.lim.below (bel1 _ _)).below b2 | with_reducible exact ((rx.lim.below (bel1 _ _)).below (bel1 _ _)).below b2); have z2 := b2.size; (try simp at z2); have q2 := hBel'.size; (try (have y3 : W.heap.size < w2.heap.size := by omega)); (try (have y4 : W.heap.size + 1 < w2.heap.size := by omega)); (try (have y5 : w1.heap.size < w2.heap.size := by omega)); (try (have y6 : w1.heap.size + 1 < w2.heap.size := by omega)); (try (have v1 : IntAt w2 W.heap.size false (.slice none 0 0) := s1.keep b2; obtain ⟨v1a, v1b, v1c, v1d⟩ := id v1)); (try (have v1 : IntAt w2 W.heap.size false (.slice none 0 0) := (s1.alloc _).keep b2; obtain ⟨v1a, v1b, v1c, v1d⟩ := id v1)); (try (have v2 : IntAt w2 (W.heap.size + 1) false (.slice none 0 0) := s2.keep b2; obtain ⟨v2a, v2b, v2c, v2d⟩ := id v2)); (try (have v3 : IntAt w2 w1.heap.size false (.slice none 0 0) := (IntAt.new w1 false (.slice none 0 0)).keep b2; obtain ⟨v3a, v3b, v3c, v3d⟩ := id v3)); (try (have v3 : IntAt w2 w1.heap.size false (.slice none 0 0) := ((IntAt.new w1 false (.slice none 0 0)).alloc _).keep b2; obtain ⟨v3a, v3b, v3c, v3d⟩ := id v3)); (try (have v4 : IntAt w2 (w1.heap.size + 1) false (.slice none 0 0) := (IntAt.new2 w1 _ false (.slice none 0 0)).keep b2; obtain ⟨v4a, v4b, v4c, v4d⟩ := id v4)); clear hBel; have hBel := hBel'; clear hBel'))
    all_goals (go_wp2_with fail; go_meet; refine ⟨_, _, Ax, cx, Ay, cy, rfl, rfl, ?_, ?_, ?_, ?_, ?_⟩)
    all_goals (first | (with_reducible refine IntAt.mk ?_ ?_ ?_ ?_ <;> (go_simp; done)) | (first | with_reducible exact hBel | with_reducible exact Below.al1 hBel _ | with_reducible exact (Below.al1 (Below.refl _ _) _).drew | with_reducible exact (Below.al1 (Below.al1 (Below.refl _ _) _) _).drew | with_reducible exact Below.al1 (Below.al1 hBel _) _ | with_reducible exact Below.st2 hBel (by omega) _ _ | with_reducible exact Below.st2 (Below.al1 hBel _) (by omega) _ _ | with_reducible exact Below.al1 (Below.st2 hBel (by omega) _ _) _ | with_reducible exact Below.st2 (Below.al1 (Below.al1 hBel _) _) (by omega) _ _ | with_reducible exact Below.st2 (Below.st2 hBel (by omega) _ _) (by omega) _ _ | with_reducible exact Below.st2 (Below.st2 (Below.al1 hBel _) (by omega) _ _) (by omega) _ _ | with_reducible exact Below.st2 (Below.st2 (Below.al1 (Below.al1 hBel _) _) (by omega) _ _) (by omega) _ _ | with_reducible exact Below.st2 (Below.al1 (Below.st2 hBel (by omega) _ _) _) (by omega) _ _ | with_reducible exact Below.st2 (Below.al1 (Below.st2 (Below.al1 hBel _) (by omega) _ _) _) (by omega) _ _ | with_reducible exact Below.al1 (Below.st2 (Below.al1 hBel _) (by omega) _ _) _) | ((repeat (first | with_reducible refine Lim.below ?_ (bel1 _ _) | (with_reducible refine Lim.store_s ?_ ?_; rotate_left; focus (go_simp; done)) | (with_reducible refine Lim.store_b ?_ ?_; rotate_left; focus (go_simp; done)))); first | with_reducible exact lx | with_reducible exact ly))
  case rest =>
    obtain ⟨g7, g8, Ax, cx, Ay, cy, rfl, rfl, i7, i8, lx, ly, hB⟩ := hcut
    clear hBel tk0 tk1
    have r4 := cellB hB j2 cf4
    have r5 := cellB hB j2 cf5
    have j2' : w.heap.size + 1 + 1 < wc.heap.size := Nat.lt_of_lt_of_le j2 hB.size
    replace h2 := h2.below hB
    have hend : Below w.heap.size w wc := hbW.trans (hB.mono hbW.size)
    clear cf0 cf1 cf2 cf3 cf4 cf5 h0 h1 hB hbW j0 j1 j2
    obtain ⟨i7l, i7a, i7b, i7c⟩ := id i7
    obtain ⟨i8l, i8a, i8b, i8c⟩ := id i8
    have l7 := i7.lt
    have l8 := i8.lt
    have tk0 : True := trivial
    have tk1 : True := trivial
    have hBel : Below wc.heap.size wc wc.drew := (Below.refl _ _).drew
    go_upto_region 2 with fail
    go_cut [9, 10, 11] (fun s9 s10 s11 wz => s11 = .bool o ∧ ∃ g10 Ar cr, s10 = .pointer (some ⟨g10, 0, none⟩) ∧ cr ≤ 9223372036854775807 ∧ IntAt wz g10 false (.slice Ar 0 cr) ∧ Below wc.heap.size wc wz)
    case first =>
      go_region_held3 (fun w' => w'.cell? ⟨g7, 0, none⟩ = some (.bool (decide (x < 0))) ∧ w'.cell? ⟨g7, 1, none⟩ = some (.slice Ax (limbs x.natAbs).length cx) ∧ w'.cell? ⟨g8, 0, none⟩ = some (.bool (decide (y < 0))) ∧ w'.cell? ⟨g8, 1, none⟩ = some (.slice Ay (limbs y.natAbs).length cy) ∧ w'.cell? ⟨w.heap.size + 1 + 1, 0, none⟩ = some (.bool p2) ∧ w'.cell? ⟨w.heap.size + 1 + 1, 1, none⟩ = some (.slice A2 xs2.length c2))
        (first | (with_reducible exact ⟨cellB hBel l7 i7l, cellB hBel l7 i7a, cellB hBel l8 i8l, cellB hBel l8 i8a, cellB hBel j2' r4, cellB hBel j2' r5⟩) | (refine ⟨cellB (W := wc) ?_ l7 i7l, cellB (W := wc) ?_ l7 i7a, cellB (W := wc) ?_ l8 i8l, cellB (W := wc) ?_ l8 i8a, cellB (W := wc) ?_ j2' r4, cellB (W := wc) ?_ j2' r5⟩ <;> (first | with_reducible exact hBel | with_reducible exact Below.al1 hBel _ | with_reducible exact (Below.al1 (Below.refl _ _) _).drew | with_reducible exact (Below.al1 (Below.al1 (Below.refl _ _) _) _).drew | with_reducible exact Below.al1 (Below.al1 hBel _) _ | with_reducible exact Below.st2 hBel (by omega) _ _ | with_reducible exact Below.st2 (Below.al1 hBel _) (by omega) _ _ | with_reducible exact Below.al1 (Below.st2 hBel (by omega) _ _) _ | with_reducible exact Below.st2 (Below.al1 (Below.al1 hBel _) _) (by omega) _ _ | with_reducible exact Below.st2 (Below.st2 hBel (by omega) _ _) (by omega) _ _ | with_reducible exact Below.st2 (Below.st2 (Below.al1 hBel _) (by omega) _ _) (by omega) _ _ | with_reducible exact Below.st2 (Below.st2 (Below.al1 (Below.al1 hBel _) _) (by omega) _ _) (by omega) _ _ | with_reducible exact Below.st2 (Below.al1 (Below.st2 hBel (by omega) _ _) _) (by omega) _ _ | with_reducible exact Below.st2 (Below.al1 (Below.st2 (Below.al1 hBel _) (by omega) _ _) _) (by omega) _ _ | with_reducible exact Below.al1 (Below.st2 (Below.al1 hBel _) (by omega) _ _) _)))
        (first
          | (go_at_call 27; have _t := tk0; clear tk0; refine (IGCD_n (decide (x < 0)) (decide (y < 0)) Ax Ay (limbs x.natAbs) (limbs y.natAbs) cx cy _ x y g 70368744175616 70368744175616 ?_ ?_ zx zy (iv_canon x) (iv_canon y) Eg.out (by omega) (by omega)).mono ?_; (with_reducible refine lx.below ?_; (first | with_reducible exact hBel | with_reducible exact Below.al1 hBel _ | with_reducible exact (Below.al1 (Below.refl _ _) _).drew | with_reducible exact (Below.al1 (Below.al1 (Below.refl _ _) _) _).drew | with_reducible exact Below.al1 (Below.al1 hBel _) _ | with_reducible exact Below.st2 hBel (by omega) _ _ | with_reducible exact Below.st2 (Below.al1 hBel _) (by omega) _ _ | with_reducible exact Below.al1 (Below.st2 hBel (by omega) _ _) _ | with_reducible exact Below.st2 (Below.al1 (Below.al1 hBel _) _) (by omega) _ _ | with_reducible exact Below.st2 (Below.st2 hBel (by omega) _ _) (by omega) _ _ | with_reducible exact Below.st2 (Below.st2 (Below.al1 hBel _) (by omega) _ _) (by omega) _ _ | with_reducible exact Below.st2 (Below.st2 (Below.al1 (Below.al1 hBel _) _) (by omega) _ _) (by omega) _ _ | with_reducible exact Below.st2 (Below.al1 (Below.st2 hBel (by omega) _ _) _) (by omega) _ _ | with_reducible exact Below.st2 (Below.al1 (Below.st2 (Below.al1 hBel _) (by omega) _ _) _) (by omega) _ _ | with_reducible exact Below.al1 (Below.st2 (Below.al1 hBel _) (by omega) _ _) _)); (with_reducible refine ly.below ?_; (first | with_reducible exact hBel | with_reducible exact Below.al1 hBel _ | with_reducible exact (Below.al1 (Below.refl _ _) _).drew | with_reducible exact (Below.al1 (Below.al1 (Below.refl _ _) _) _).drew | with_reducible exact Below.al1 (Below.al1 hBel _) _ | with_reducible exact Below.st2 hBel (by omega) _ _ | with_reducible exact Below.st2 (Below.al1 hBel _) (by omega) _ _ | with_reducible exact Below.al1 (Below.st2 hBel (by omega) _ _) _ | with_reducible exact Below.st2 (Below.al1 (Below.al1 hBel _) _) (by omega) _ _ | with_reducible exact Below.st2 (Below.st2 hBel (by omega) _ _) (by omega) _ _ | with_reducible exact Below.st2 (Below.st2 (Below.al1 hBel _) (by omega) _ _) (by omega) _ _ | with_reducible exact Below.st2 (Below.st2 (Below.al1 (Below.al1 hBel _) _) (by omega) _ _) (by omega) _ _ | with_reducible exact Below.st2 (Below.al1 (Below.st2 hBel (by omega) _ _) _) (by omega) _ _ | with_reducible exact Below.st2 (Below.al1 (Below.st2 (Below.al1 hBel _) (by omega) _ _) _) (by omega) _ _ | with_reducible exact Below.al1 (Below.st2 (Below.al1 hBel _) (by omega) _ _) _)); rintro e w1 ⟨Ag, cg, rfl, rg, b1⟩; have hBel' : Below wc.heap.size wc w1 := bel_call (by (first | with_reducible exact hBel | with_reducible exact Below.al1 hBel _ | with_reducible exact (Below.al1 (Below.refl _ _) _).drew | with_reducible exact (Below.al1 (Below.al1 (Below.refl _ _) _) _).drew | with_reducible exact Below.al1 (Below.al1 hBel _) _ | with_reducible exact Below.st2 hBel (by omega) _ _ | with_reducible exact Below.st2 (Below.al1 hBel _) (by omega) _ _ | with_reducible exact Below.al1 (Below.st2 hBel (by omega) _ _) _ | with_reducible exact Below.st2 (Below.al1 (Below.al1 hBel _) _) (by omega) _ _ | with_reducible exact Below.st2 (Below.st2 hBel (by omega) _ _) (by omega) _ _ | with_reducible exact Below.st2 (Below.st2 (Below.al1 hBel _) (by omega) _ _) (by omega) _ _ | with_reducible exact Below.st2 (Below.st2 (Below.al1 (Below.al1 hBel _) _) (by omega) _ _) (by omega) _ _ | with_reducible exact Below.st2 (Below.al1 (Below.st2 hBel (by omega) _ _) _) (by omega) _ _ | with_reducible exact Below.st2 (Below.al1 (Below.st2 (Below.al1 hBel _) (by omega) _ _) _) (by omega) _ _ | with_reducible exact Below.al1 (Below.st2 (Below.al1 hBel _) (by omega) _ _) _)) b1; have z1 := b1.size; (try simp at z1); have q1 := hBel'.size; (try (have y1 : wc.heap.size < w1.heap.size := by omega)); (try (have y2 : wc.heap.size + 1 < w1.heap.size := by omega)); (try (have s1 : IntAt w1 wc.heap.size false (.slice none 0 0) := (IntAt.new wc.drew false (.slice none 0 0)).keep b1; obtain ⟨s1a, s1b, s1c, s1d⟩ := id s1)); (try (have s1 : IntAt w1 wc.heap.size false (.slice none 0 0) := ((IntAt.new wc.drew false (.slice none 0 0)).alloc _).keep b1; obtain ⟨s1a, s1b, s1c, s1d⟩ := id s1)); (try (have s2 : IntAt w1 (wc.heap.size + 1) false (.slice none 0 0) := (IntAt.new2 wc.drew _ false (.slice none 0 0)).keep b1; obtain ⟨s2a, s2b, s2c, s2d⟩ := id s2)); clear hBel; have hBel := hBel'; clear hBel')
          | (go_at_call 26; have _t := tk1; clear tk1; refine (IDivMod_rem0 (decide (g < 0)) p2 Ag A2 (limbs g.natAbs) xs2 cg c2 _ g d o 70368744175616 35184372087808 ?_ ?_ zg k2 (iv_canon g) Ed.out Er.out Eo.out (by omega) (by omega)).mono ?_; (first | with_reducible exact rg.lim | with_reducible exact rg.lim.below (bel1 _ _) | with_reducible exact (rg.lim.below (bel1 _ _)).below (bel1 _ _)); (with_reducible refine h2.below ?_; (first | with_reducible exact hBel | with_reducible exact Below.al1 hBel _ | with_reducible exact (Below.al1 (Below.refl _ _) _).drew | with_reducible exact (Below.al1 (Below.al1 (Below.refl _ _) _) _).drew | with_reducible exact Below.al1 (Below.al1 hBel _) _ | with_reducible exact Below.st2 hBel (by omega) _ _ | with_reducible exact Below.st2 (Below.al1 hBel _) (by omega) _ _ | with_reducible exact Below.al1 (Below.st2 hBel (by omega) _ _) _ | with_reducible exact Below.st2 (Below.al1 (Below.al1 hBel _) _) (by omega) _ _ | with_reducible exact Below.st2 (Below.st2 hBel (by omega) _ _) (by omega) _ _ | with_reducible exact Below.st2 (Below.st2 (Below.al1 hBel _) (by omega) _ _) (by omega) _ _ | with_reducible exact Below.st2 (Below.st2 (Below.al1 (Below.al1 hBel _) _) (by omega) _ _) (by omega) _ _ | with_reducible exact Below.st2 (Below.al1 (Below.st2 hBel (by omega) _ _) _) (by omega) _ _ | with_reducible exact Below.st2 (Below.al1 (Below.st2 (Below.al1 hBel _) (by omega) _ _) _) (by omega) _ _ | with_reducible exact Below.al1 (Below.st2 (Below.al1 hBel _) (by omega) _ _) _)); rintro e w2 ⟨bq, Aq, nq, cq, Ar, cr, rfl, hcr, b2⟩; have hBel' : Below wc.heap.size wc w2 := bel_call (by (first | with_reducible exact hBel | with_reducible exact Below.al1 hBel _ | with_reducible exact (Below.al1 (Below.refl _ _) _).drew | with_reducible exact (Below.al1 (Below.al1 (Below.refl _ _) _) _).drew | with_reducible exact Below.al1 (Below.al1 hBel _) _ | with_reducible exact Below.st2 hBel (by omega) _ _ | with_reducible exact Below.st2 (Below.al1 hBel _) (by omega) _ _ | with_reducible exact Below.al1 (Below.st2 hBel (by omega) _ _) _ | with_reducible exact Below.st2 (Below.al1 (Below.al1 hBel _) _) (by omega) _ _ | with_reducible exact Below.st2 (Below.st2 hBel (by omega) _ _) (by omega) _ _ | with_reducible exact Below.st2 (Below.st2 (Below.al1 hBel _) (by omega) _ _) (by omega) _ _ | with_reducible exact Below.st2 (Below.st2 (Below.al1 (Below.al1 hBel _) _) (by omega) _ _) (by omega) _ _ | with_reducible exact Below.st2 (Below.al1 (Below.st2 hBel (by omega) _ _) _) (by omega) _ _ | with_reducible exact Below.st2 (Below.al1 (Below.st2 (Below.al1 hBel _) (by omega) _ _) _) (by omega) _ _ | with_reducible exact Below.al1 (Below.st2 (Below.al1 hBel _) (by omega) _ _) _)) b2; have z2 := b2.size; (try simp at z2); have q2 := hBel'.size; (try (have y3 : wc.heap.size < w2.heap.size := by omega)); (try (have y4 : wc.heap.size + 1 < w2.heap.size := by omega)); (try (have y5 : w1.heap.size < w2.heap.size := by omega)); (try (have y6 : w1.heap.size + 1 < w2.heap.size := by omega)); (try (have v1 : IntAt w2 wc.heap.size false (.slice none 0 0) := s1.keep b2; obtain ⟨v1a, v1b, v1c, v1d⟩ := id v1)); (try (have v1 : IntAt w2 wc.heap.size false (.slice none 0 0) := (s1.alloc _).keep b2; obtain ⟨v1a, v1b, v1c, v1d⟩ := id v1)); (try (have v2 : IntAt w2 (wc.heap.size + 1) false (.slice none 0 0) := s2.keep b2; obtain ⟨v2a, v2b, v2c, v2d⟩ := id v2)); (try (have v3 : IntAt w2 w1.heap.size false (.slice none 0 0) := (IntAt.new w1 false (.slice none 0 0)).keep b2; obtain ⟨v3a, v3b, v3c, v3d⟩ := id v3)); (try (have v3 : IntAt w2 w1.heap.size false (.slice none 0 0) := ((IntAt.new w1 false (.slice none 0 0)).alloc _).keep b2; obtain ⟨v3a, v3b, v3c, v3d⟩ := id v3)); (try (have v4 : IntAt w2 (w1.heap.size + 1) false (.slice none 0 0) := (IntAt.new2 w1 _ false (.slice none 0 0)).keep b2; obtain ⟨v4a, v4b, v4c, v4d⟩ := id v4)); clear hBel; have hBel := hBel'; clear hBel'))
      all_goals (go_wp2_with fail; go_meet; refine ⟨rfl, _, Ar, cr, rfl, hcr, ?_, ?_⟩)
      all_goals (first | (with_reducible refine IntAt.mk ?_ ?_ ?_ ?_ <;> (go_simp; done)) | (first | with_reducible exact hBel | with_reducible exact Below.al1 hBel _ | with_reducible exact (Below.al1 (Below.refl _ _) _).drew | with_reducible exact (Below.al1 (Below.al1 (Below.refl _ _) _) _).drew | with_reducible exact Below.al1 (Below.al1 hBel _) _ | with_reducible exact Below.st2 hBel (by omega) _ _ | with_reducible exact Below.st2 (Below.al1 hBel _) (by omega) _ _ | with_reducible exact Below.al1 (Below.st2 hBel (by omega) _ _) _ | with_reducible exact Below.st2 (Below.al1 (Below.al1 hBel _) _) (by omega) _ _ | with_reducible exact Below.st2 (Below.st2 hBel (by omega) _ _) (by omega) _ _ | with_reducible exact Below.st2 (Below.st2 (Below.al1 hBel _) (by omega) _ _) (by omega) _ _ | with_reducible exact Below.st2 (Below.st2 (Below.al1 (Below.al1 hBel _) _) (by omega) _ _) (by omega) _ _ | with_reducible exact Below.st2 (Below.al1 (Below.st2 hBel (by omega) _ _) _) (by omega) _ _ | with_reducible exact Below.st2 (Below.al1 (Below.st2 (Below.al1 hBel _) (by omega) _ _) _) (by omega) _ _ | with_reducible exact Below.al1 (Below.st2 (Below.al1 hBel _) (by omega) _ _) _))
    case rest =>
      obtain ⟨rfl, g10, Ar, cr, rfl, hcr, i10, hB⟩ := hcut
      clear hBel tk0 tk1
      rename_i wd
      obtain ⟨a10, b10, _, _⟩ := id i10
      have e0 := cellB hB l7 i7l
      have e1 := cellB hB l7 i7a
      have e2 := cellB hB l8 i8l
      have e3 := cellB hB l8 i8a
      have e4 := cellB hB j2' r4
      have e5 := cellB hB j2' r5
      have m7 := Nat.lt_of_lt_of_le l7 hB.size
      have m8 := Nat.lt_of_lt_of_le l8 hB.size
      replace lx := lx.below hB
      replace ly := ly.below hB
      replace h2 := h2.below hB
      replace hend := hend.trans (hB.mono hend.size)
      clear i7l i7a i7b i7c i8l i8a i8b i8c r4 r5 i7 i8 j2' hB i10 l7 l8
      cases o with
      | true =>
        go_wp2_with fail
        refine (Sign_c false Ar [] cr _ (Lim.empty _ _ hcr)).mono ?_
        rintro e w3 ⟨rfl, b3⟩
        have es : sgn (iv false []) = 0 := by decide
        rw [es]
        clear es
        go_wp2_with fail
        refine (awake2_c _).mono ?_
        rintro e w4 ⟨rfl, b4⟩
        go_wp2_with fail
        go_ret
        exact ⟨rfl, hend.trans ((b3.trans (b4.mono b3.size)).mono hend.size)⟩
      | false =>
        have hd : d = 0 := by have := Eo.out; simpa using this
        have hg : g = 0 := EG0.out hd
        have es : sgn (iv p2 xs2) = 0 := by rw [Ed.out, hd]; decide
        have HG := Lib.hid hg
        have ES := Lib.hid es
        clear hd hg es
        go_wp2_with fail
        refine (Sign_c p2 A2 xs2 c2 _ h2).mono ?_
        rintro e w3 ⟨rfl, b3⟩
        rw [ES.out]
        have f0 := cellB b3 m7 e0
        have f1 := cellB b3 m7 e1
        have f2 := cellB b3 m8 e2
        have f3 := cellB b3 m8 e3
        clear e0 e1 e2 e3 e4 e5 a10 b10
        go_wp2_with fail
        refine (IGCD_n (decide (x < 0)) (decide (y < 0)) Ax Ay (limbs x.natAbs) (limbs y.natAbs) cx cy _ x y g 70368744175616 70368744175616 (lx.below b3) (ly.below b3) zx zy (iv_canon x) (iv_canon y) Eg.out (by omega) (by omega)).mono ?_
        rintro e w4 ⟨Ag, cg, rfl, rg, b4⟩
        go_wp2_with fail
        refine (Sign_k g 0 Ag cg _ rg.lim (by rw [HG.out]; decide)).mono ?_
        rintro e w5 ⟨rfl, b5⟩
        go_wp2_with fail
        refine (awake2_c _).mono ?_
        rintro e w6 ⟨rfl, b6⟩
        have b46 := b4.trans ((b5.trans (b6.mono b5.size)).mono b4.size)
        go_wp2_with fail
        go_ret
        exact ⟨rfl, hend.trans ((b3.trans (b46.mono b3.size)).mono hend.size)⟩
end Go.Proofs.Ytkpchamgghhihaa
