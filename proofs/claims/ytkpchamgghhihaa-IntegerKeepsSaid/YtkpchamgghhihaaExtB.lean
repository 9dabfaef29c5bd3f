/- The contract of integer.Extended: the greatest common divisor and its coefficients. -/
import Derived.Test.YtkpchamgghhihaaExtA
namespace Go.Proofs.Ytkpchamgghhihaa
open Go.RowKit Gm

set_option maxRecDepth 100000 in
set_option maxHeartbeats 40000000 in
theorem Extended_c (p q : Bool) (A B : Option Addr) (xs ys : List Nat) (c d : Nat) (w : World) (ha : Lim w A c xs) (hb : Lim w B d ys) (hs : xs.length ≤ 35184372087808) (ht : ys.length ≤ 35184372087808) :
    Calls Try.prog 30 #[.agg #[.bool p, .slice A xs.length c], .agg #[.bool q, .slice B ys.length d]] w (RetExt w (iv p xs) (iv q ys)) := by
  obtain ⟨a, ea⟩ : ∃ s, iv p xs = s := ⟨_, rfl⟩
  obtain ⟨b, eb⟩ : ∃ s, iv q ys = s := ⟨_, rfl⟩
  have za : (limbs a.natAbs).length ≤ 35184372087808 := by rw [← ea]; exact iv_len ha.lb hs
  have zb : (limbs b.natAbs).length ≤ 35184372087808 := by rw [← eb]; exact iv_len hb.lb ht
  rw [ea, eb]
  obtain ⟨a1, ea1⟩ : ∃ s : Int, ((a.natAbs : Nat) : Int) = s := ⟨_, rfl⟩
  obtain ⟨b1, eb1⟩ : ∃ s : Int, ((b.natAbs : Nat) : Int) = s := ⟨_, rfl⟩
  have Ea := Lib.hid ea
  have Eb := Lib.hid eb
  have Ea1 := Lib.hid ea1
  have Eb1 := Lib.hid eb1
  clear ea eb ea1 eb1
  have tk0 : True := trivial
  have tk1 : True := trivial
  go_enter Try.func30, Try.ntmps30
  go_upto_region 1 with fail
  obtain ⟨W, hW, hbW, hsz, ⟨cf0, cf1, cf2, cf3⟩, v4, v5, v6⟩ := boxes5 w p q (.slice A xs.length c) (.slice B ys.length d)
  rw [hW]
  clear hW
  have j0 : w.heap.size < W.heap.size := by omega
  have j1 : w.heap.size + 1 < W.heap.size := by omega
  have haW := ha.below hbW
  have hbW' := hb.below hbW
  have hBel : Below W.heap.size W W.drew := (Below.refl _ _).drew
  go_cut [7, 8] (fun s7 s8 wx => ∃ g7 g8 Ax cx Ay cy, s7 = .pointer (some ⟨g7, 0, none⟩) ∧ s8 = .pointer (some ⟨g8, 0, none⟩) ∧ IntAt wx g7 (decide (a1 < 0)) (.slice Ax (limbs a1.natAbs).length cx) ∧ IntAt wx g8 (decide (b1 < 0)) (.slice Ay (limbs b1.natAbs).length cy) ∧ Own W.heap.size wx Ax cx (limbs a1.natAbs) ∧ Own W.heap.size wx Ay cy (limbs b1.natAbs) ∧ Below W.heap.size W wx ∧ W.heap.size ≤ g7 ∧ W.heap.size ≤ g8 ∧ g7 ≠ g8)
  case first =>
    clear v4 v5 v6 ha hb hsz
    go_region_held3 (fun w' => w'.cell? ⟨w.heap.size, 0, none⟩ = some (.bool p) ∧ w'.cell? ⟨w.heap.size, 1, none⟩ = some (.slice A xs.length c) ∧ w'.cell? ⟨w.heap.size + 1, 0, none⟩ = some (.bool q) ∧ w'.cell? ⟨w.heap.size + 1, 1, none⟩ = some (.slice B ys.length d))
      (first | (with_reducible exact ⟨cellB hBel j0 cf0, cellB hBel j0 cf1, cellB hBel j1 cf2, cellB hBel j1 cf3⟩) | (refine ⟨cellB (W := W) ?_ j0 cf0, cellB (W := W) ?_ j0 cf1, cellB (W := W) ?_ j1 cf2, cellB (W := W) ?_ j1 cf3⟩ <;> (first | with_reducible exact hBel | with_reducible exact Below.al1 hBel _ | with_reducible exact (Below.al1 (Below.refl _ _) _).drew | with_reducible exact (Below.al1 (Below.al1 (Below.refl _ _) _) _).drew | with_reducible exact Below.al1 (Below.al1 hBel _) _ | with_reducible exact Below.st2 hBel (by omega) _ _ | with_reducible exact Below.st2 (Below.al1 hBel _) (by omega) _ _ | with_reducible exact Below.al1 (Below.st2 hBel (by omega) _ _) _ | with_reducible exact Below.st2 (Below.al1 (Below.al1 hBel _) _) (by omega) _ _ | with_reducible exact Below.st2 (Below.st2 hBel (by omega) _ _) (by omega) _ _ | with_reducible exact Below.st2 (Below.st2 (Below.al1 hBel _) (by omega) _ _) (by omega) _ _ | with_reducible exact Below.st2 (Below.st2 (Below.al1 (Below.al1 hBel _) _) (by omega) _ _) (by omega) _ _ | with_reducible exact Below.st2 (Below.al1 (Below.st2 hBel (by omega) _ _) _) (by omega) _ _ | with_reducible exact Below.st2 (Below.al1 (Below.st2 (Below.al1 hBel _) (by omega) _ _) _) (by omega) _ _ | with_reducible exact Below.al1 (Below.st2 (Below.al1 hBel _) (by omega) _ _) _)))
      (first
        | (go_at_call 36; have _t := tk0; clear tk0; refine (IAbs_n p A xs c _ a a1 35184372087808 ?_ hs Ea.out Ea1.out (by omega)).mono ?_; (with_reducible refine haW.below ?_; (first | with_reducible exact hBel | with_reducible exact Below.al1 hBel _ | with_reducible exact (Below.al1 (Below.refl _ _) _).drew | with_reducible exact (Below.al1 (Below.al1 (Below.refl _ _) _) _).drew | with_reducible exact Below.al1 (Below.al1 hBel _) _ | with_reducible exact Below.st2 hBel (by omega) _ _ | with_reducible exact Below.st2 (Below.al1 hBel _) (by omega) _ _ | with_reducible exact Below.al1 (Below.st2 hBel (by omega) _ _) _ | with_reducible exact Below.st2 (Below.al1 (Below.al1 hBel _) _) (by omega) _ _ | with_reducible exact Below.st2 (Below.st2 hBel (by omega) _ _) (by omega) _ _ | with_reducible exact Below.st2 (Below.st2 (Below.al1 hBel _) (by omega) _ _) (by omega) _ _ | with_reducible exact Below.st2 (Below.st2 (Below.al1 (Below.al1 hBel _) _) (by omega) _ _) (by omega) _ _ | with_reducible exact Below.st2 (Below.al1 (Below.st2 hBel (by omega) _ _) _) (by omega) _ _ | with_reducible exact Below.st2 (Below.al1 (Below.st2 (Below.al1 hBel _) (by omega) _ _) _) (by omega) _ _ | with_reducible exact Below.al1 (Below.st2 (Below.al1 hBel _) (by omega) _ _) _)); rintro e w1 ⟨Ax, cx, rfl, rx, bb1⟩; have rx' := rx.mono (lo' := W.heap.size) (Below.size (w := W) (B := W.heap.size) (by (first | with_reducible exact hBel | with_reducible exact Below.al1 hBel _ | with_reducible exact (Below.al1 (Below.refl _ _) _).drew | with_reducible exact (Below.al1 (Below.al1 (Below.refl _ _) _) _).drew | with_reducible exact Below.al1 (Below.al1 hBel _) _ | with_reducible exact Below.st2 hBel (by omega) _ _ | with_reducible exact Below.st2 (Below.al1 hBel _) (by omega) _ _ | with_reducible exact Below.al1 (Below.st2 hBel (by omega) _ _) _ | with_reducible exact Below.st2 (Below.al1 (Below.al1 hBel _) _) (by omega) _ _ | with_reducible exact Below.st2 (Below.st2 hBel (by omega) _ _) (by omega) _ _ | with_reducible exact Below.st2 (Below.st2 (Below.al1 hBel _) (by omega) _ _) (by omega) _ _ | with_reducible exact Below.st2 (Below.st2 (Below.al1 (Below.al1 hBel _) _) (by omega) _ _) (by omega) _ _ | with_reducible exact Below.st2 (Below.al1 (Below.st2 hBel (by omega) _ _) _) (by omega) _ _ | with_reducible exact Below.st2 (Below.al1 (Below.st2 (Below.al1 hBel _) (by omega) _ _) _) (by omega) _ _ | with_reducible exact Below.al1 (Below.st2 (Below.al1 hBel _) (by omega) _ _) _))); clear rx; have hBel' : Below W.heap.size W w1 := bel_call (by (first | with_reducible exact hBel | with_reducible exact Below.al1 hBel _ | with_reducible exact (Below.al1 (Below.refl _ _) _).drew | with_reducible exact (Below.al1 (Below.al1 (Below.refl _ _) _) _).drew | with_reducible exact Below.al1 (Below.al1 hBel _) _ | with_reducible exact Below.st2 hBel (by omega) _ _ | with_reducible exact Below.st2 (Below.al1 hBel _) (by omega) _ _ | with_reducible exact Below.al1 (Below.st2 hBel (by omega) _ _) _ | with_reducible exact Below.st2 (Below.al1 (Below.al1 hBel _) _) (by omega) _ _ | with_reducible exact Below.st2 (Below.st2 hBel (by omega) _ _) (by omega) _ _ | with_reducible exact Below.st2 (Below.st2 (Below.al1 hBel _) (by omega) _ _) (by omega) _ _ | with_reducible exact Below.st2 (Below.st2 (Below.al1 (Below.al1 hBel _) _) (by omega) _ _) (by omega) _ _ | with_reducible exact Below.st2 (Below.al1 (Below.st2 hBel (by omega) _ _) _) (by omega) _ _ | with_reducible exact Below.st2 (Below.al1 (Below.st2 (Below.al1 hBel _) (by omega) _ _) _) (by omega) _ _ | with_reducible exact Below.al1 (Below.st2 (Below.al1 hBel _) (by omega) _ _) _)) bb1; have z1 := bb1.size; (try simp at z1); have q1 := hBel'.size; (try (have y1 : W.heap.size < w1.heap.size := by omega)); (try (have y2 : W.heap.size + 1 < w1.heap.size := by omega)); (try (have s1 : IntAt w1 W.heap.size false (.slice none 0 0) := (IntAt.new W.drew false (.slice none 0 0)).keep bb1; obtain ⟨s1a, s1b, s1c, s1d⟩ := id s1)); (try (have s1 : IntAt w1 W.heap.size false (.slice none 0 0) := ((IntAt.new W.drew false (.slice none 0 0)).alloc _).keep bb1; obtain ⟨s1a, s1b, s1c, s1d⟩ := id s1)); (try (have s2 : IntAt w1 (W.heap.size + 1) false (.slice none 0 0) := (IntAt.new2 W.drew _ false (.slice none 0 0)).keep bb1; obtain ⟨s2a, s2b, s2c, s2d⟩ := id s2)); clear hBel; have hBel := hBel'; clear hBel')
        | (go_at_call 36; have _t := tk1; clear tk1; refine (IAbs_n q B ys d _ b b1 35184372087808 ?_ ht Eb.out Eb1.out (by omega)).mono ?_; (with_reducible refine hbW'.below ?_; (first | with_reducible exact hBel | with_reducible exact Below.al1 hBel _ | with_reducible exact (Below.al1 (Below.refl _ _) _).drew | with_reducible exact (Below.al1 (Below.al1 (Below.refl _ _) _) _).drew | with_reducible exact Below.al1 (Below.al1 hBel _) _ | with_reducible exact Below.st2 hBel (by omega) _ _ | with_reducible exact Below.st2 (Below.al1 hBel _) (by omega) _ _ | with_reducible exact Below.al1 (Below.st2 hBel (by omega) _ _) _ | with_reducible exact Below.st2 (Below.al1 (Below.al1 hBel _) _) (by omega) _ _ | with_reducible exact Below.st2 (Below.st2 hBel (by omega) _ _) (by omega) _ _ | with_reducible exact Below.st2 (Below.st2 (Below.al1 hBel _) (by omega) _ _) (by omega) _ _ | with_reducible exact Below.st2 (Below.st2 (Below.al1 (Below.al1 hBel _) _) (by omega) _ _) (by omega) _ _ | with_reducible exact Below.st2 (Below.al1 (Below.st2 hBel (by omega) _ _) _) (by omega) _ _ | with_reducible exact Below.st2 (Below.al1 (Below.st2 (Below.al1 hBel _) (by omega) _ _) _) (by omega) _ _ | with_reducible exact Below.al1 (Below.st2 (Below.al1 hBel _) (by omega) _ _) _)); rintro e w2 ⟨Ay, cy, rfl, ry, b2⟩; have hBel' : Below W.heap.size W w2 := bel_call (by (first | with_reducible exact hBel | with_reducible exact Below.al1 hBel _ | with_reducible exact (Below.al1 (Below.refl _ _) _).drew | with_reducible exact (Below.al1 (Below.al1 (Below.refl _ _) _) _).drew | with_reducible exact Below.al1 (Below.al1 hBel _) _ | with_reducible exact Below.st2 hBel (by omega) _ _ | with_reducible exact Below.st2 (Below.al1 hBel _) (by omega) _ _ | with_reducible exact Below.al1 (Below.st2 hBel (by omega) _ _) _ | with_reducible exact Below.st2 (Below.al1 (Below.al1 hBel _) _) (by omega) _ _ | with_reducible exact Below.st2 (Below.st2 hBel (by omega) _ _) (by omega) _ _ | with_reducible exact Below.st2 (Below.st2 (Below.al1 hBel _) (by omega) _ _) (by omega) _ _ | with_reducible exact Below.st2 (Below.st2 (Below.al1 (Below.al1 hBel _) _) (by omega) _ _) (by omega) _ _ | with_reducible exact Below.st2 (Below.al1 (Below.st2 hBel (by omega) _ _) _) (by omega) _ _ | with_reducible exact Below.st2 (Below.al1 (Below.st2 (Below.al1 hBel _) (by omega) _ _) _) (by omega) _ _ | with_reducible exact Below.al1 (Below.st2 (Below.al1 hBel _) (by omega) _ _) _)) b2; have oy := ry.mono (lo' := W.heap.size) (Below.size (w := W) (B := W.heap.size) (by (first | with_reducible exact hBel | with_reducible exact Below.al1 hBel _ | with_reducible exact (Below.al1 (Below.refl _ _) _).drew | with_reducible exact (Below.al1 (Below.al1 (Below.refl _ _) _) _).drew | with_reducible exact Below.al1 (Below.al1 hBel _) _ | with_reducible exact Below.st2 hBel (by omega) _ _ | with_reducible exact Below.st2 (Below.al1 hBel _) (by omega) _ _ | with_reducible exact Below.al1 (Below.st2 hBel (by omega) _ _) _ | with_reducible exact Below.st2 (Below.al1 (Below.al1 hBel _) _) (by omega) _ _ | with_reducible exact Below.st2 (Below.st2 hBel (by omega) _ _) (by omega) _ _ | with_reducible exact Below.st2 (Below.st2 (Below.al1 hBel _) (by omega) _ _) (by omega) _ _ | with_reducible exact Below.st2 (Below.st2 (Below.al1 (Below.al1 hBel _) _) (by omega) _ _) (by omega) _ _ | with_reducible exact Below.st2 (Below.al1 (Below.st2 hBel (by omega) _ _) _) (by omega) _ _ | with_reducible exact Below.st2 (Below.al1 (Below.st2 (Below.al1 hBel _) (by omega) _ _) _) (by omega) _ _ | with_reducible exact Below.al1 (Below.st2 (Below.al1 hBel _) (by omega) _ _) _))); clear ry; have ox : Own W.heap.size w2 Ax cx (limbs a1.natAbs) := (by first | with_reducible exact rx'.below b2 | with_reducible exact (rx'.below (bel1 _ _)).below b2 | with_reducible exact ((rx'.below (bel1 _ _)).below (bel1 _ _)).below b2); have z2 := b2.size; (try simp at z2); have q2 := hBel'.size; (try (have y3 : W.heap.size < w2.heap.size := by omega)); (try (have y4 : W.heap.size + 1 < w2.heap.size := by omega)); (try (have y5 : w1.heap.size < w2.heap.size := by omega)); (try (have y6 : w1.heap.size + 1 < w2.heap.size := by omega)); (try (have v1 : IntAt w2 W.heap.size false (.slice none 0 0) := s1.keep b2; obtain ⟨v1a, v1b, v1c, v1d⟩ := id v1)); (try (have v1 : IntAt w2 W.heap.size false (.slice none 0 0) := (s1.alloc _).keep b2; obtain ⟨v1a, v1b, v1c, v1d⟩ := id v1)); (try (have v2 : IntAt w2 (W.heap.size + 1) false (.slice none 0 0) := s2.keep b2; obtain ⟨v2a, v2b, v2c, v2d⟩ := id v2)); (try (have v3 : IntAt w2 w1.heap.size false (.slice none 0 0) := (IntAt.new w1 false (.slice none 0 0)).keep b2; obtain ⟨v3a, v3b, v3c, v3d⟩ := id v3)); (try (have v3 : IntAt w2 w1.heap.size false (.slice none 0 0) := ((IntAt.new w1 false (.slice none 0 0)).alloc _).keep b2; obtain ⟨v3a, v3b, v3c, v3d⟩ := id v3)); (try (have v4 : IntAt w2 (w1.heap.size + 1) false (.slice none 0 0) := (IntAt.new2 w1 _ false (.slice none 0 0)).keep b2; obtain ⟨v4a, v4b, v4c, v4d⟩ := id v4)); clear hBel; have hBel := hBel'; clear hBel'))
    all_goals (go_wp2_with fail; go_meet; refine ⟨_, _, Ax, cx, Ay, cy, rfl, rfl, ?_, ?_, ?_, ?_, ?_, ?_, ?_, ?_⟩)
    all_goals (first | (with_reducible refine IntAt.mk ?_ ?_ ?_ ?_ <;> (go_simp; done)) | (first | with_reducible exact hBel | with_reducible exact Below.al1 hBel _ | with_reducible exact (Below.al1 (Below.refl _ _) _).drew | with_reducible exact (Below.al1 (Below.al1 (Below.refl _ _) _) _).drew | with_reducible exact Below.al1 (Below.al1 hBel _) _ | with_reducible exact Below.st2 hBel (by omega) _ _ | with_reducible exact Below.st2 (Below.al1 hBel _) (by omega) _ _ | with_reducible exact Below.al1 (Below.st2 hBel (by omega) _ _) _ | with_reducible exact Below.st2 (Below.al1 (Below.al1 hBel _) _) (by omega) _ _ | with_reducible exact Below.st2 (Below.st2 hBel (by omega) _ _) (by omega) _ _ | with_reducible exact Below.st2 (Below.st2 (Below.al1 hBel _) (by omega) _ _) (by omega) _ _ | with_reducible exact Below.st2 (Below.st2 (Below.al1 (Below.al1 hBel _) _) (by omega) _ _) (by omega) _ _ | with_reducible exact Below.st2 (Below.al1 (Below.st2 hBel (by omega) _ _) _) (by omega) _ _ | with_reducible exact Below.st2 (Below.al1 (Below.st2 (Below.al1 hBel _) (by omega) _ _) _) (by omega) _ _ | with_reducible exact Below.al1 (Below.st2 (Below.al1 hBel _) (by omega) _ _) _) | ((repeat (first | with_reducible refine Own.below ?_ (bel1 _ _) | (with_reducible refine Own.store_s ?_ ?_; rotate_left; focus (go_simp; done)) | (with_reducible refine Own.store_b ?_ ?_; rotate_left; focus (go_simp; done)))); first | with_reducible exact ox | with_reducible exact oy) | omega)
  case rest =>
    obtain ⟨g7, g8, Ax, cx, Ay, cy, rfl, rfl, i7, i8, o7, o8, hB, l7, l8, n78⟩ := hcut
    clear hBel tk0 tk1 haW hbW'
    have q7 : IV w.heap.size wc g7 a1 := ⟨Ax, cx, i7, o7.mono hbW.size⟩
    have q8 : IV w.heap.size wc g8 b1 := ⟨Ay, cy, i8, o8.mono hbW.size⟩
    have q4 : IV w.heap.size wc (w.heap.size + 1 + 1) 0 := IV.zero (v4.keep hB)
    have q6 : IV w.heap.size wc (w.heap.size + 1 + 1 + 1 + 1) 0 := IV.zero (v6.keep hB)
    have q5 : IntAt wc (w.heap.size + 1 + 1 + 1) false (.slice none 0 0) := v5.keep hB
    have lw : w.heap.size + 5 ≤ wc.heap.size := by have := hB.size; omega
    have l7' : w.heap.size + 5 ≤ g7 := by omega
    have l8' : w.heap.size + 5 ≤ g8 := by omega
    have m7 := i7.lt
    have m8 := i8.lt
    have hWB : Below (w.heap.size + 2) W wc := hB.mono (by omega)
    clear i7 i8 o7 o8 hB l7 l8 v4 v5 v6 hsz j0 j1
    go_wp2_with fail
    refine (FromInt_c 1 _ (by omega) (by omega)).mono ?_
    rintro e w1 ⟨A1, c1, rfl, r1, bb1⟩
    go_wp2_with fail
    refine (FromInt_c 0 _ (by omega) (by omega)).mono ?_
    rintro e w2 ⟨A2, c2, rfl, r2, bb2⟩
    have b12 := bb1.trans (bb2.mono bb1.size)
    have q5' := q5.keep b12
    obtain ⟨q5a, q5b, q5c, q5d⟩ := id q5'
    have k5 : w.heap.size + 1 + 1 + 1 < w2.heap.size := by have := b12.size; omega
    have hst : SE W w.heap.size g7 g8 w2.heap.size a1 b1 1 0 0 (((w2.setCell ⟨w.heap.size + 1 + 1 + 1, 0, none⟩ (.bool false)).setCell ⟨w.heap.size + 1 + 1 + 1, 1, none⟩ (.slice A1 (limbs 1).length c1)).alloc (.cells #[.bool false, .slice A2 (limbs 0).length c2] 38)) := by
      have u5 := IV.put' (lo := w.heap.size) 1 q5' ((r1.below bb2).mono (by omega)) (b1 := false) (l := (limbs 1).length) rfl rfl
      refine ⟨?_, ?_, ?_, ?_, ?_, ?_, ?_⟩
      · exact ((q7.below b12).far (by omega) q5' _ _).below (bel1 _ _)
      · exact ((q8.below b12).far (by omega) q5' _ _).below (bel1 _ _)
      · exact u5.below (bel1 _ _)
      · have o2 := (r2.put q5' false (.slice A1 (limbs 1).length c1)).mono (lo' := w.heap.size) (by have := bb1.size; omega)
        have h9 := IV.new (0 : Int) (b1 := false) (l := (limbs 0).length) o2 rfl rfl
        simpa using h9
      · exact ((q4.below b12).far (by omega) q5' _ _).below (bel1 _ _)
      · exact ((q6.below b12).far (by omega) q5' _ _).below (bel1 _ _)
      · exact (below_put2 (hWB.trans (b12.mono (by omega))) (by omega) _ _).alloc (by simp; omega) _
    have lw2 : wc.heap.size ≤ w2.heap.size := b12.size
    clear bb1 bb2 b12 r1 r2 q4 q6 q7 q8 q5 q5' hWB
    go_wp2_with fail
    obtain ⟨wl, hwl⟩ : ∃ wl, ((w2.setCell ⟨w.heap.size + 1 + 1 + 1, 0, none⟩ (.bool false)).setCell ⟨w.heap.size + 1 + 1 + 1, 1, none⟩ (.slice A1 (limbs 1).length c1)).alloc (.cells #[.bool false, .slice A2 (limbs 0).length c2] 38) = wl := ⟨_, rfl⟩
    obtain ⟨g9, hg9⟩ : ∃ g9, w2.heap.size = g9 := ⟨_, rfl⟩
    rw [hwl, hg9] at hst
    rw [hwl, hg9]
    have l9 : wc.heap.size ≤ g9 := by omega
    clear hwl hg9 lw2 q5a q5b q5c q5d k5
    go_loopg [10] (b.natAbs) (fun k _ wr => ∃ M N x z, N = k ∧ Ex a.natAbs b.natAbs M N x z ∧ SE W w.heap.size g7 g8 g9 M N x z 0 wr)
    case atStart => exact ⟨a.natAbs, b.natAbs, 1, 0, rfl, Ex.start _ _, by rw [Ea1.out, Eb1.out]; exact hst⟩
    case round =>
      clear hst
      obtain ⟨M, N, x, z, rfl, hE, hS⟩ := hrel
      obtain ⟨m, em⟩ : ∃ m : Int, (M : Int) = m := ⟨_, rfl⟩
      obtain ⟨n, en⟩ : ∃ n : Int, (N : Int) = n := ⟨_, rfl⟩
      rw [em, en] at hS
      have zm : (limbs m.natAbs).length ≤ 35184372087808 := by rw [← em, Int.natAbs_natCast]; rcases hE.mb with h | h <;> exact Nat.le_trans (limbs_mono h) (by assumption)
      have zn : (limbs n.natAbs).length ≤ 35184372087808 := by rw [← en, Int.natAbs_natCast]; exact Nat.le_trans (limbs_mono hE.nb) zb
      have zx : (limbs x.natAbs).length ≤ 35184372087808 := by
        rcases hE.xb with h | h
        · exact Nat.le_trans (limbs_mono h) (by rw [limbs_lit' [1] (by decide) (by decide)]; decide)
        · exact Nat.le_trans (limbs_mono h) zb
      have zz : (limbs z.natAbs).length ≤ 35184372087808 := Nat.le_trans (limbs_mono hE.zb) zb
      obtain ⟨A7, c7, i7, o7⟩ := hS.v7
      obtain ⟨A8, c8, i8, o8⟩ := hS.v8
      obtain ⟨i7a, i7b, i7c, i7d⟩ := id i7
      obtain ⟨i8a, i8b, i8c, i8d⟩ := id i8
      have l9r : g9 < wr.heap.size := by obtain ⟨_, _, i9, _⟩ := hS.v9; exact i9.lt
      have lwr : wc.heap.size < wr.heap.size := by omega
      rcases Nat.eq_zero_or_pos N with hN | hN
      · subst hN
        have HE := Lib.hid hE
        have EM := Lib.hid em
        have hn0 : n = 0 := by rw [← en]; rfl
        subst hn0
        clear em en hE
        go_wp2_with fail
        refine (Sign_k 0 0 A8 c8 _ o8.lim (by decide)).mono ?_
        rintro e w3 ⟨rfl, b3⟩
        go_wp2_with fail
        refine (FromInt_c 0 _ (by omega) (by omega)).mono ?_
        rintro e w4 ⟨A6, c6, rfl, r6, b4⟩
        have b34 := b3.trans (b4.mono b3.size)
        have lw4 := b34.size
        have hS4 := hS.below b34 (by omega)
        obtain ⟨Az, cz, iz, _⟩ := hS4.v6
        obtain ⟨iza, izb, izc, izd⟩ := id iz
        have hS5 := hS4.m6 l7' l8' (by omega) 0 (r6.mono (by have := b3.size; omega)) (b1 := false) (l := (limbs 0).length) rfl rfl
        obtain ⟨w5, hw5⟩ : ∃ w5, (w4.setCell ⟨w.heap.size + 1 + 1 + 1 + 1, 0, none⟩ (.bool false)).setCell ⟨w.heap.size + 1 + 1 + 1 + 1, 1, none⟩ (.slice A6 (limbs 0).length c6) = w5 := ⟨_, rfl⟩
        rw [hw5] at hS5
        have h3a := cellB hS5.bl (show w.heap.size + 1 < w.heap.size + 2 by omega) cf2
        have h3b := cellB hS5.bl (show w.heap.size + 1 < w.heap.size + 2 by omega) cf3
        have hb5 : Lim w5 B d ys := hb.below (hbW.trans ((hS5.bl).mono (by omega)))
        clear hS hS4 b3 b4 b34 i7 i8 o7 o8 i7a i7b i7c i7d i8a i8b i8c i8d iz r6
        go_wp2_with fail
        refine (Sign_c q B ys d _ hb5).mono ?_
        rintro e w6 ⟨rfl, b6⟩
        rw [Eb.out]
        have lw5 : w.heap.size + 5 ≤ w5.heap.size := by obtain ⟨_, _, i, _⟩ := hS5.v7; have := i.lt; omega
        have hT := hS5.below b6 (by omega)
        clear hS5 h3a h3b hb5 b6 iza izb izc izd hw5
        by_cases hb0 : b = 0
        · rw [show sgn b = 0 by rw [hb0]; decide]
          obtain ⟨V, eV⟩ : ∃ V : Int, 0 = V := ⟨_, rfl⟩
          have hT' : SE W w.heap.size g7 g8 g9 m 0 x z V w6 := by rw [← eV]; exact hT
          have HV := Lib.hid (show (b = 0 ∧ V = 0) ∨ (b ≠ 0 ∧ ((M : Int) - ((a.natAbs : Nat) : Int) * x) / b = V) from .inl ⟨hb0, eV.symm⟩)
          clear hT eV
          have hT := hT'
          clear hT'
          obtain ⟨s2a, s2b⟩ : w6.cell? ⟨w.heap.size, 0, none⟩ = some (.bool p) ∧ w6.cell? ⟨w.heap.size, 1, none⟩ = some (.slice A xs.length c) := ⟨cellB hT.bl (by omega) cf0, cellB hT.bl (by omega) cf1⟩
          have haT : Lim w6 A c xs := ha.below (hbW.trans ((hT.bl).mono (by omega)))
          have lT : w.heap.size + 5 ≤ w6.heap.size := by obtain ⟨_, _, i, _⟩ := hT.v7; have := i.lt; omega
          go_wp2_with fail
          refine (Sign_c p A xs c _ haT).mono ?_
          rintro e wU ⟨rfl, bU⟩
          rw [Ea.out]
          have hU := hT.below bU (by omega)
          have lU : w.heap.size + 5 ≤ wU.heap.size := Nat.le_trans lT bU.size
          clear hT s2a s2b haT bU
          rcases Int.lt_trichotomy a 0 with ha0 | ha0 | ha0
          · rw [show sgn a = -1 by unfold sgn; split <;> (try split) <;> omega]
            obtain ⟨X, eX⟩ : ∃ X : Int, -x = X := ⟨_, rfl⟩
            have hz : Bz a b m X V := by rw [← EM.out, ← eX]; exact HE.out.fin _ _ (.inr (.inl ⟨ha0, rfl⟩)) HV.out
            have EX := Lib.hid eX
            clear eX
            obtain ⟨B5, d5, k5, q5⟩ := hU.v5
            obtain ⟨k5a, k5b, k5c, k5d⟩ := id k5
            go_wp2_with fail
            refine (INeg_n _ B5 (limbs x.natAbs) d5 _ x X 35184372087808 q5.lim zx (iv_canon x) EX.out (by omega)).mono ?_
            rintro e wV ⟨C5, f5, rfl, r5, bV⟩
            have hV := (hU.below bV (by omega)).m5 l7' l8' (by omega) X (r5.mono (by omega)) rfl rfl
            have l5 := k5.keep bV
            obtain ⟨l5a, l5b, l5c, l5d⟩ := id l5
            obtain ⟨wF, hwF⟩ : ∃ wF, (wV.setCell ⟨w.heap.size + 1 + 1 + 1, 0, none⟩ (.bool (decide (X < 0)))).setCell ⟨w.heap.size + 1 + 1 + 1, 1, none⟩ (.slice C5 (limbs X.natAbs).length f5) = wF := ⟨_, rfl⟩
            rw [hwF] at hV
            clear hU k5 k5a k5b k5c k5d q5 l5 r5 bV
            go_wp2_with fail
            try rw [hwF]
            clear hwF l5a l5b l5c l5d
            obtain ⟨A7, c7, i7, o7⟩ := hV.v7
            obtain ⟨A5, c5, i5, o5⟩ := hV.v5
            obtain ⟨A6, c6, i6, o6⟩ := hV.v6
            obtain ⟨A4, c4, i4, o4⟩ := hV.v4
            have HRET := Lib.hid (ext_ret i4 i5 i6 o7 o5 o6 (hbW.trans (hV.bl.mono (by omega))) hz)
            obtain ⟨i7a, i7b, i7c, i7d⟩ := id i7
            obtain ⟨i5a, i5b, i5c, i5d⟩ := id i5
            obtain ⟨i6a, i6b, i6c, i6d⟩ := id i6
            obtain ⟨i4a, i4b, i4c, i4d⟩ := id i4
            clear hV i7 i5 i6 i4 o7 o5 o6 o4
            go_region
            go_wp2_with fail
            exact bodyPost_ret (v := .tuple #[.agg #[.bool (decide (m < 0)), .slice A7 (limbs m.natAbs).length c7], .agg #[.bool (decide (X < 0)), .slice A5 (limbs X.natAbs).length c5], .agg #[.bool (decide (V < 0)), .slice A6 (limbs V.natAbs).length c6]]) (by simp [results, Try.results30, go_sem, i4a, i4b, i5a, i5b, i6a, i6b]) rfl HRET.out
          · rw [show sgn a = 0 by rw [ha0]; decide]
            obtain ⟨X, eX⟩ : ∃ X : Int, X = 0 := ⟨_, rfl⟩
            have hz : Bz a b m X V := by rw [← EM.out, eX]; exact HE.out.fin _ _ (.inl ⟨ha0, rfl⟩) HV.out
            obtain ⟨B5, d5, k5, q5⟩ := hU.v5
            obtain ⟨k5a, k5b, k5c, k5d⟩ := id k5
            go_wp2_with fail
            refine (FromInt_c 0 _ (by omega) (by omega)).mono ?_
            rintro e wV ⟨C5, f5, rfl, r5, bV⟩
            have hV := (hU.below bV (by omega)).m5 l7' l8' (by omega) X (b1 := false) (l := (limbs 0).length) (by rw [eX]; exact r5.mono (by omega)) (by rw [eX]; rfl) (by rw [eX]; rfl)
            have l5 := k5.keep bV
            obtain ⟨l5a, l5b, l5c, l5d⟩ := id l5
            obtain ⟨wF, hwF⟩ : ∃ wF, (wV.setCell ⟨w.heap.size + 1 + 1 + 1, 0, none⟩ (.bool false)).setCell ⟨w.heap.size + 1 + 1 + 1, 1, none⟩ (.slice C5 (limbs 0).length f5) = wF := ⟨_, rfl⟩
            rw [hwF] at hV
            clear hU k5 k5a k5b k5c k5d q5 l5 r5 bV eX
            go_wp2_with fail
            try rw [hwF]
            clear hwF l5a l5b l5c l5d
            obtain ⟨A7, c7, i7, o7⟩ := hV.v7
            obtain ⟨A5, c5, i5, o5⟩ := hV.v5
            obtain ⟨A6, c6, i6, o6⟩ := hV.v6
            obtain ⟨A4, c4, i4, o4⟩ := hV.v4
            have HRET := Lib.hid (ext_ret i4 i5 i6 o7 o5 o6 (hbW.trans (hV.bl.mono (by omega))) hz)
            obtain ⟨i7a, i7b, i7c, i7d⟩ := id i7
            obtain ⟨i5a, i5b, i5c, i5d⟩ := id i5
            obtain ⟨i6a, i6b, i6c, i6d⟩ := id i6
            obtain ⟨i4a, i4b, i4c, i4d⟩ := id i4
            clear hV i7 i5 i6 i4 o7 o5 o6 o4
            go_region
            go_wp2_with fail
            exact bodyPost_ret (v := .tuple #[.agg #[.bool (decide (m < 0)), .slice A7 (limbs m.natAbs).length c7], .agg #[.bool (decide (X < 0)), .slice A5 (limbs X.natAbs).length c5], .agg #[.bool (decide (V < 0)), .slice A6 (limbs V.natAbs).length c6]]) (by simp [results, Try.results30, go_sem, i4a, i4b, i5a, i5b, i6a, i6b]) rfl HRET.out
          · rw [show sgn a = 1 by unfold sgn; split <;> (try split) <;> omega]
            obtain ⟨X, eX⟩ : ∃ X : Int, x = X := ⟨_, rfl⟩
            have hz : Bz a b m X V := by rw [← EM.out, ← eX]; exact HE.out.fin _ _ (.inr (.inr ⟨ha0, rfl⟩)) HV.out
            obtain ⟨wF, hwF⟩ : ∃ wF, wU = wF := ⟨_, rfl⟩
            rw [hwF, eX] at hU
            have hV := hU
            rw [hwF]
            clear hwF eX hU
            go_wp2_with fail
            obtain ⟨A7, c7, i7, o7⟩ := hV.v7
            obtain ⟨A5, c5, i5, o5⟩ := hV.v5
            obtain ⟨A6, c6, i6, o6⟩ := hV.v6
            obtain ⟨A4, c4, i4, o4⟩ := hV.v4
            have HRET := Lib.hid (ext_ret i4 i5 i6 o7 o5 o6 (hbW.trans (hV.bl.mono (by omega))) hz)
            obtain ⟨i7a, i7b, i7c, i7d⟩ := id i7
            obtain ⟨i5a, i5b, i5c, i5d⟩ := id i5
            obtain ⟨i6a, i6b, i6c, i6d⟩ := id i6
            obtain ⟨i4a, i4b, i4c, i4d⟩ := id i4
            clear hV i7 i5 i6 i4 o7 o5 o6 o4
            go_region
            go_wp2_with fail
            exact bodyPost_ret (v := .tuple #[.agg #[.bool (decide (m < 0)), .slice A7 (limbs m.natAbs).length c7], .agg #[.bool (decide (X < 0)), .slice A5 (limbs X.natAbs).length c5], .agg #[.bool (decide (V < 0)), .slice A6 (limbs V.natAbs).length c6]]) (by simp [results, Try.results30, go_sem, i4a, i4b, i5a, i5b, i6a, i6b]) rfl HRET.out
        · obtain ⟨sb, esb⟩ : ∃ s, sgn b = s := ⟨_, rfl⟩
          have hs1 : ¬ sb = 0 := by rw [← esb]; unfold sgn; split <;> (try split) <;> omega
          have hs2 : (sb != 0) = true := by simpa using hs1
          rw [esb]
          clear esb
          obtain ⟨P, eP⟩ : ∃ P : Int, a1 * x = P := ⟨_, rfl⟩
          obtain ⟨D, eD⟩ : ∃ D : Int, m - P = D := ⟨_, rfl⟩
          obtain ⟨V, eV⟩ : ∃ V : Int, D / b = V := ⟨_, rfl⟩
          obtain ⟨Y, eY⟩ : ∃ Y : Int, D % b = Y := ⟨_, rfl⟩
          have za1 : (limbs a1.natAbs).length ≤ 35184372087808 := by rw [← Ea1.out, Int.natAbs_natCast]; exact za
          have zP : (limbs P.natAbs).length ≤ 70368744175616 := imul_sz za1 zx eP (by omega)
          have zD : (limbs D.natAbs).length ≤ 70368744175617 := isub_sz zm zP eD (by omega) (by omega)
          have HV := Lib.hid (show (b = 0 ∧ V = 0) ∨ (b ≠ 0 ∧ ((M : Int) - ((a.natAbs : Nat) : Int) * x) / b = V) from .inr ⟨hb0, by rw [Ea1.out, EM.out, eP, eD]; exact eV⟩)
          have EP := Lib.hid eP
          have ED := Lib.hid eD
          have EV := Lib.hid eV
          have EY := Lib.hid eY
          clear eP eD eV eY
          obtain ⟨A7, c7, i7, o7⟩ := hT.v7
          obtain ⟨A5, c5, i5, o5⟩ := hT.v5
          obtain ⟨Aw, cw, iw, ow⟩ := hT.v6
          have i7a := i7.c0
          have i7b := i7.c1
          have i5a := i5.c0
          have i5b := i5.c1
          have s2a := cellB hT.bl (show w.heap.size < w.heap.size + 2 by omega) cf0
          have s2b := cellB hT.bl (show w.heap.size < w.heap.size + 2 by omega) cf1
          have s3a := cellB hT.bl (show w.heap.size + 1 < w.heap.size + 2 by omega) cf2
          have s3b := cellB hT.bl (show w.heap.size + 1 < w.heap.size + 2 by omega) cf3
          have ha6 : Lim w6 A c xs := ha.below (hbW.trans (hT.bl.mono (by omega)))
          have hb6 : Lim w6 B d ys := hb.below (hbW.trans (hT.bl.mono (by omega)))
          have p7 := i7.lt
          have p5 := i5.lt
          have p6 := iw.lt
          have p2 : w.heap.size < w6.heap.size := by omega
          have p3 : w.heap.size + 1 < w6.heap.size := by omega
          have f7 : g7 ≠ w.heap.size + 1 + 1 + 1 + 1 := by omega
          have f5 : w.heap.size + 1 + 1 + 1 ≠ w.heap.size + 1 + 1 + 1 + 1 := by omega
          have f2 : w.heap.size ≠ w.heap.size + 1 + 1 + 1 + 1 := by omega
          have f3 : w.heap.size + 1 ≠ w.heap.size + 1 + 1 + 1 + 1 := by omega
          have hBel : Below w6.heap.size w6 w6.drew := (Below.refl _ _).drew
          go_wp2_with fail
          go_region_held3 (fun w' => w'.cell? ⟨g7, 0, none⟩ = some (.bool (decide (m < 0))) ∧ w'.cell? ⟨g7, 1, none⟩ = some (.slice A7 (limbs m.natAbs).length c7) ∧ w'.cell? ⟨w.heap.size + 1 + 1 + 1, 0, none⟩ = some (.bool (decide (x < 0))) ∧ w'.cell? ⟨w.heap.size + 1 + 1 + 1, 1, none⟩ = some (.slice A5 (limbs x.natAbs).length c5) ∧ w'.cell? ⟨w.heap.size, 0, none⟩ = some (.bool p) ∧ w'.cell? ⟨w.heap.size, 1, none⟩ = some (.slice A xs.length c) ∧ w'.cell? ⟨w.heap.size + 1, 0, none⟩ = some (.bool q) ∧ w'.cell? ⟨w.heap.size + 1, 1, none⟩ = some (.slice B ys.length d))
            (first | (with_reducible exact ⟨cellB hBel p7 i7a, cellB hBel p7 i7b, cellB hBel p5 i5a, cellB hBel p5 i5b, cellB hBel p2 s2a, cellB hBel p2 s2b, cellB hBel p3 s3a, cellB hBel p3 s3b⟩) | (with_reducible exact ⟨(cellF2 f7 _ _).trans (cellB hBel p7 i7a), (cellF2 f7 _ _).trans (cellB hBel p7 i7b), (cellF2 f5 _ _).trans (cellB hBel p5 i5a), (cellF2 f5 _ _).trans (cellB hBel p5 i5b), (cellF2 f2 _ _).trans (cellB hBel p2 s2a), (cellF2 f2 _ _).trans (cellB hBel p2 s2b), (cellF2 f3 _ _).trans (cellB hBel p3 s3a), (cellF2 f3 _ _).trans (cellB hBel p3 s3b)⟩) | go_keep)
            (first
              | (go_at_call 36; refine (IAbs_n p A xs c _ a a1 35184372087808 ?_ hs Ea.out Ea1.out (by omega)).mono ?_; exact ha6.below hBel; rintro e w7 ⟨Ab, cb, rfl, rb, bb⟩; replace hBel := hBel.trans (bb.mono hBel.size))
              | (go_at_call 25; refine (IMul_n _ _ Ab A5 _ _ cb c5 _ a1 x P 35184372087808 35184372087808 ?_ ?_ za1 zx (iv_canon a1) (iv_canon x) EP.out (by omega)).mono ?_; exact rb.lim; exact o5.lim.below hBel; rintro e w8 ⟨Ap, cp, rfl, rp, bp⟩; replace hBel := hBel.trans (bp.mono hBel.size))
              | (go_at_call 38; refine (ISub_n _ _ A7 Ap _ _ c7 cp _ m P D 35184372087808 70368744175616 ?_ ?_ zm zP (iv_canon m) (iv_canon P) ED.out (by omega) (by omega)).mono ?_; exact o7.lim.below hBel; exact rp.lim; rintro e w9 ⟨Ad, cd, rfl, rd, bd⟩; replace hBel := hBel.trans (bd.mono hBel.size))
              | (go_at_call 26; refine (IDivMod_n _ _ Ad B _ ys cd d _ D b V Y 70368744175617 35184372087808 ?_ ?_ zD ht (iv_canon D) Eb.out hb0 EV.out EY.out (by omega) (by omega)).mono ?_; exact rd.lim; exact hb6.below hBel; rintro e wA ⟨Av, cv, Ay, cy, rfl, rv, ry, bv⟩; have ov := rv.mono (lo' := w.heap.size) (Nat.le_trans (show w.heap.size ≤ w6.heap.size by omega) hBel.size); have hBel' : Below w6.heap.size w6 wA := hBel.trans (bv.mono hBel.size); clear hBel; have hBel := hBel'; clear hBel'; obtain ⟨e6a, e6b, e6c, e6d⟩ := iw.keep hBel))
          rename_i hHeld
          clear hHeld
          have hT' := (hT.below hBel (by omega)).m6 l7' l8' (by omega) V ov rfl rfl
          obtain ⟨wT, hwT⟩ : ∃ wT, (wA.setCell ⟨w.heap.size + 1 + 1 + 1 + 1, 0, none⟩ (.bool (decide (V < 0)))).setCell ⟨w.heap.size + 1 + 1 + 1 + 1, 1, none⟩ (.slice Av (limbs V.natAbs).length cv) = wT := ⟨_, rfl⟩
          rw [hwT] at hT'
          try rw [hwT]
          clear hT i7 o7 i5 o5 iw ow i7a i7b i5a i5b s2a s2b s3a s3b ha6 hb6 p7 p5 p6 p2 p3 f7 f5 f2 f3 rv ry bv ov e6a e6b e6c e6d hBel hs1 hs2
          have hT := hT'
          clear hT' hwT
          obtain ⟨s2a, s2b⟩ : wT.cell? ⟨w.heap.size, 0, none⟩ = some (.bool p) ∧ wT.cell? ⟨w.heap.size, 1, none⟩ = some (.slice A xs.length c) := ⟨cellB hT.bl (by omega) cf0, cellB hT.bl (by omega) cf1⟩
          have haT : Lim wT A c xs := ha.below (hbW.trans ((hT.bl).mono (by omega)))
          have lT : w.heap.size + 5 ≤ wT.heap.size := by obtain ⟨_, _, i, _⟩ := hT.v7; have := i.lt; omega
          go_wp2_with fail
          refine (Sign_c p A xs c _ haT).mono ?_
          rintro e wU ⟨rfl, bU⟩
          rw [Ea.out]
          have hU := hT.below bU (by omega)
          have lU : w.heap.size + 5 ≤ wU.heap.size := Nat.le_trans lT bU.size
          clear hT s2a s2b haT bU
          rcases Int.lt_trichotomy a 0 with ha0 | ha0 | ha0
          · rw [show sgn a = -1 by unfold sgn; split <;> (try split) <;> omega]
            obtain ⟨X, eX⟩ : ∃ X : Int, -x = X := ⟨_, rfl⟩
            have hz : Bz a b m X V := by rw [← EM.out, ← eX]; exact HE.out.fin _ _ (.inr (.inl ⟨ha0, rfl⟩)) HV.out
            have EX := Lib.hid eX
            clear eX
            obtain ⟨B5, d5, k5, q5⟩ := hU.v5
            obtain ⟨k5a, k5b, k5c, k5d⟩ := id k5
            go_wp2_with fail
            refine (INeg_n _ B5 (limbs x.natAbs) d5 _ x X 35184372087808 q5.lim zx (iv_canon x) EX.out (by omega)).mono ?_
            rintro e wV ⟨C5, f5, rfl, r5, bV⟩
            have hV := (hU.below bV (by omega)).m5 l7' l8' (by omega) X (r5.mono (by omega)) rfl rfl
            have l5 := k5.keep bV
            obtain ⟨l5a, l5b, l5c, l5d⟩ := id l5
            obtain ⟨wF, hwF⟩ : ∃ wF, (wV.setCell ⟨w.heap.size + 1 + 1 + 1, 0, none⟩ (.bool (decide (X < 0)))).setCell ⟨w.heap.size + 1 + 1 + 1, 1, none⟩ (.slice C5 (limbs X.natAbs).length f5) = wF := ⟨_, rfl⟩
            rw [hwF] at hV
            clear hU k5 k5a k5b k5c k5d q5 l5 r5 bV
            go_wp2_with fail
            try rw [hwF]
            clear hwF l5a l5b l5c l5d
            obtain ⟨A7, c7, i7, o7⟩ := hV.v7
            obtain ⟨A5, c5, i5, o5⟩ := hV.v5
            obtain ⟨A6, c6, i6, o6⟩ := hV.v6
            obtain ⟨A4, c4, i4, o4⟩ := hV.v4
            have HRET := Lib.hid (ext_ret i4 i5 i6 o7 o5 o6 (hbW.trans (hV.bl.mono (by omega))) hz)
            obtain ⟨i7a, i7b, i7c, i7d⟩ := id i7
            obtain ⟨i5a, i5b, i5c, i5d⟩ := id i5
            obtain ⟨i6a, i6b, i6c, i6d⟩ := id i6
            obtain ⟨i4a, i4b, i4c, i4d⟩ := id i4
            clear hV i7 i5 i6 i4 o7 o5 o6 o4
            go_region
            go_wp2_with fail
            exact bodyPost_ret (v := .tuple #[.agg #[.bool (decide (m < 0)), .slice A7 (limbs m.natAbs).length c7], .agg #[.bool (decide (X < 0)), .slice A5 (limbs X.natAbs).length c5], .agg #[.bool (decide (V < 0)), .slice A6 (limbs V.natAbs).length c6]]) (by simp [results, Try.results30, go_sem, i4a, i4b, i5a, i5b, i6a, i6b]) rfl HRET.out
          · rw [show sgn a = 0 by rw [ha0]; decide]
            obtain ⟨X, eX⟩ : ∃ X : Int, X = 0 := ⟨_, rfl⟩
            have hz : Bz a b m X V := by rw [← EM.out, eX]; exact HE.out.fin _ _ (.inl ⟨ha0, rfl⟩) HV.out
            obtain ⟨B5, d5, k5, q5⟩ := hU.v5
            obtain ⟨k5a, k5b, k5c, k5d⟩ := id k5
            go_wp2_with fail
            refine (FromInt_c 0 _ (by omega) (by omega)).mono ?_
            rintro e wV ⟨C5, f5, rfl, r5, bV⟩
            have hV := (hU.below bV (by omega)).m5 l7' l8' (by omega) X (b1 := false) (l := (limbs 0).length) (by rw [eX]; exact r5.mono (by omega)) (by rw [eX]; rfl) (by rw [eX]; rfl)
            have l5 := k5.keep bV
            obtain ⟨l5a, l5b, l5c, l5d⟩ := id l5
            obtain ⟨wF, hwF⟩ : ∃ wF, (wV.setCell ⟨w.heap.size + 1 + 1 + 1, 0, none⟩ (.bool false)).setCell ⟨w.heap.size + 1 + 1 + 1, 1, none⟩ (.slice C5 (limbs 0).length f5) = wF := ⟨_, rfl⟩
            rw [hwF] at hV
            clear hU k5 k5a k5b k5c k5d q5 l5 r5 bV eX
            go_wp2_with fail
            try rw [hwF]
            clear hwF l5a l5b l5c l5d
            obtain ⟨A7, c7, i7, o7⟩ := hV.v7
            obtain ⟨A5, c5, i5, o5⟩ := hV.v5
            obtain ⟨A6, c6, i6, o6⟩ := hV.v6
            obtain ⟨A4, c4, i4, o4⟩ := hV.v4
            have HRET := Lib.hid (ext_ret i4 i5 i6 o7 o5 o6 (hbW.trans (hV.bl.mono (by omega))) hz)
            obtain ⟨i7a, i7b, i7c, i7d⟩ := id i7
            obtain ⟨i5a, i5b, i5c, i5d⟩ := id i5
            obtain ⟨i6a, i6b, i6c, i6d⟩ := id i6
            obtain ⟨i4a, i4b, i4c, i4d⟩ := id i4
            clear hV i7 i5 i6 i4 o7 o5 o6 o4
            go_region
            go_wp2_with fail
            exact bodyPost_ret (v := .tuple #[.agg #[.bool (decide (m < 0)), .slice A7 (limbs m.natAbs).length c7], .agg #[.bool (decide (X < 0)), .slice A5 (limbs X.natAbs).length c5], .agg #[.bool (decide (V < 0)), .slice A6 (limbs V.natAbs).length c6]]) (by simp [results, Try.results30, go_sem, i4a, i4b, i5a, i5b, i6a, i6b]) rfl HRET.out
          · rw [show sgn a = 1 by unfold sgn; split <;> (try split) <;> omega]
            obtain ⟨X, eX⟩ : ∃ X : Int, x = X := ⟨_, rfl⟩
            have hz : Bz a b m X V := by rw [← EM.out, ← eX]; exact HE.out.fin _ _ (.inr (.inr ⟨ha0, rfl⟩)) HV.out
            obtain ⟨wF, hwF⟩ : ∃ wF, wU = wF := ⟨_, rfl⟩
            rw [hwF, eX] at hU
            have hV := hU
            rw [hwF]
            clear hwF eX hU
            go_wp2_with fail
            obtain ⟨A7, c7, i7, o7⟩ := hV.v7
            obtain ⟨A5, c5, i5, o5⟩ := hV.v5
            obtain ⟨A6, c6, i6, o6⟩ := hV.v6
            obtain ⟨A4, c4, i4, o4⟩ := hV.v4
            have HRET := Lib.hid (ext_ret i4 i5 i6 o7 o5 o6 (hbW.trans (hV.bl.mono (by omega))) hz)
            obtain ⟨i7a, i7b, i7c, i7d⟩ := id i7
            obtain ⟨i5a, i5b, i5c, i5d⟩ := id i5
            obtain ⟨i6a, i6b, i6c, i6d⟩ := id i6
            obtain ⟨i4a, i4b, i4c, i4d⟩ := id i4
            clear hV i7 i5 i6 i4 o7 o5 o6 o4
            go_region
            go_wp2_with fail
            exact bodyPost_ret (v := .tuple #[.agg #[.bool (decide (m < 0)), .slice A7 (limbs m.natAbs).length c7], .agg #[.bool (decide (X < 0)), .slice A5 (limbs X.natAbs).length c5], .agg #[.bool (decide (V < 0)), .slice A6 (limbs V.natAbs).length c6]]) (by simp [results, Try.results30, go_sem, i4a, i4b, i5a, i5b, i6a, i6b]) rfl HRET.out
      · obtain ⟨Q, eQ⟩ : ∃ Q : Int, ((M / N : Nat) : Int) = Q := ⟨_, rfl⟩
        obtain ⟨R, eR⟩ : ∃ R : Int, ((M % N : Nat) : Int) = R := ⟨_, rfl⟩
        have hE' := hE.step hN
        have hlt := Nat.mod_lt M hN
        have EQ := Lib.hid eQ
        have ER := Lib.hid eR
        have EM := Lib.hid em
        have EN := Lib.hid en
        have n0 : 0 < n := by omega
        have zQ : (limbs Q.natAbs).length ≤ 35184372087808 := by rw [← eQ, Int.natAbs_natCast]; refine Nat.le_trans (limbs_mono (Nat.div_le_self M N)) ?_; rw [← em, Int.natAbs_natCast] at zm; exact zm
        clear eQ eR em en
        go_wp2_with fail
        refine (Sign_k n 1 A8 c8 _ o8.lim (by unfold sgn; split <;> (try split) <;> omega)).mono ?_
        rintro e w3 ⟨rfl, b3⟩
        obtain ⟨k7a, k7b, k7c, k7d⟩ := i7.keep b3
        obtain ⟨k8a, k8b, k8c, k8d⟩ := i8.keep b3
        go_wp2_with fail
        refine (IDivMod_n _ _ A7 A8 _ _ c7 c8 _ m n Q R 35184372087808 35184372087808 (o7.lim.below b3) (o8.lim.below b3) zm zn (iv_canon m) (iv_canon n) (by omega) (by rw [← EQ.out, ← EM.out, ← EN.out]; rfl) (by rw [← ER.out, ← EM.out, ← EN.out]; rfl) (by omega) (by omega)).mono ?_
        rintro e w4 ⟨A10, c10, A11, c11, rfl, r10, r11, b4⟩
        have b34 := b3.trans (b4.mono b3.size)
        have lw4 := b34.size
        obtain ⟨w5, hw5⟩ : ∃ w5, (w4.alloc (.cells #[.bool (decide (Q < 0)), .slice A10 (limbs Q.natAbs).length c10] 38)).alloc (.cells #[.bool (decide (R < 0)), .slice A11 (limbs R.natAbs).length c11] 38) = w5 := ⟨_, rfl⟩
        have hS5 : SE W w.heap.size g7 g8 g9 m n x z 0 w5 := by rw [← hw5]; exact hS.below (b34.trans ((bel2 _ _ _).mono b34.size)) (by omega)
        have h10 : IV w.heap.size w5 w4.heap.size Q := by rw [← hw5]; exact (IV.new Q (r10.mono (by have := b3.size; omega)) rfl rfl).below (bel1 _ _)
        have h11 : IV w.heap.size w5 (w4.heap.size + 1) R := by
          rw [← hw5]
          have h := IV.new (lo := w.heap.size) (w := w4.alloc (.cells #[.bool (decide (Q < 0)), .slice A10 (limbs Q.natAbs).length c10] 38)) R ((r11.below (bel1 _ _)).mono (by have := b3.size; omega)) rfl rfl
          simpa using h
        clear b3 b4 b34 r10 r11 hS i7 i8 o7 o8 i7a i7b i7c i7d i8a i8b i8c i8d
        go_wp2_with fail
        clear hw5 k7a k7b k7c k7d k8a k8b k8c k8d
        obtain ⟨g10, e10⟩ : ∃ g, w4.heap.size = g := ⟨_, rfl⟩
        obtain ⟨g11, e11⟩ : ∃ g, w4.heap.size + 1 = g := ⟨_, rfl⟩
        rw [e10] at h10
        rw [e11] at h11
        rw [e11, e10]
        have d1 : wr.heap.size ≤ g10 ∧ wr.heap.size ≤ g11 := by omega
        clear e10 e11 lw4
        obtain ⟨A7, c7, i7, o7⟩ := hS5.v7
        obtain ⟨A8, c8, i8, o8⟩ := hS5.v8
        obtain ⟨A11, c11, i11, o11⟩ := h11
        go_cut [29, 30] (fun _ _ wy => SE W w.heap.size g7 g8 g9 n R x z 0 wy ∧ IV w.heap.size wy g10 Q)
        case first =>
          obtain ⟨i7a, i7b, i7c, i7d⟩ := id i7
          obtain ⟨i8a, i8b, i8c, i8d⟩ := id i8
          obtain ⟨i11a, i11b, i11c, i11d⟩ := id i11
          go_region
          all_goals (go_wp2_with fail; go_meet)
          have m8' := i8.lt
          exact ⟨(hS5.m78 n78 l7' l8' (by omega) (by omega) o8 o11).below ((Below.refl _ _).drew) (by simp; omega), (h10.m78 i7 i8 n78 (by omega) (by omega)).below ((Below.refl _ _).drew)⟩
        case rest =>
          obtain ⟨hS6, h10'⟩ := hcut
          clear hS5 h10 i7 o7 i8 o8 i11 o11
          obtain ⟨A5, c5, i5, o5⟩ := hS6.v5
          obtain ⟨A9, c9, i9, o9⟩ := hS6.v9
          obtain ⟨A10, c10, i10, o10⟩ := h10'
          obtain ⟨i5a, i5b, i5c, i5d⟩ := id i5
          obtain ⟨i9a, i9b, i9c, i9d⟩ := id i9
          obtain ⟨i10a, i10b, i10c, i10d⟩ := id i10
          have m5 := i5.lt
          have m9 := i9.lt
          have m10 := i10.lt
          have n59 : w.heap.size + 1 + 1 + 1 ≠ g9 := by omega
          obtain ⟨P, eP⟩ : ∃ P : Int, Q * z = P := ⟨_, rfl⟩
          obtain ⟨Z, eZ⟩ : ∃ Z : Int, x - P = Z := ⟨_, rfl⟩
          have zP : (limbs P.natAbs).length ≤ 70368744175616 := imul_sz zQ zz eP (by omega)
          rw [EQ.out, eP, eZ] at hE'
          have EP := Lib.hid eP
          have EZ := Lib.hid eZ
          clear eP eZ
          go_wp2_with fail
          have l9' : w.heap.size + 5 ≤ g9 := by omega
          have n79 : g9 ≠ g7 := by omega
          have n89 : g9 ≠ g8 := by omega
          have lw6 : w.heap.size + 3 ≤ wc.heap.size := by omega
          have FINAL := Lib.hid (show ∀ wz, SE W w.heap.size g7 g8 g9 n R z Z 0 wz → ∃ M' N' x' z', N' = M % N ∧ Ex a.natAbs b.natAbs M' N' x' z' ∧ SE W w.heap.size g7 g8 g9 M' N' x' z' 0 wz from fun wz h => ⟨N, M % N, z, Z, rfl, hE', by rw [EN.out, ER.out]; exact h⟩)
          have HLT := Lib.hid hlt
          have hBel : Below wc.heap.size wc wc.drew := (Below.refl _ _).drew
          clear hE' hE zm zn zb za hs ht EQ ER EM EN n0 hlt lwr l9r hN d1 n78 m7 m8 lw l9 Ea Eb Ea1 Eb1 hbW cf0 cf1 cf2 cf3 ha hb m5 m9 m10 i5c i5d i9c i9d i10c i10d
          have n95 : g9 ≠ w.heap.size + 1 + 1 + 1 := Ne.symm n59
          go_region_with (first
              | (go_at_call 25; refine (IMul_n _ _ A10 A9 _ _ c10 c9 _ Q z P 35184372087808 35184372087808 ?_ ?_ zQ zz (iv_canon Q) (iv_canon z) EP.out (by decide)).mono ?_; exact o10.lim.below hBel; exact o9.lim.below hBel; rintro e w6 ⟨Ap, cp, rfl, rp, bp⟩; have hBel' : Below wc.heap.size wc w6 := hBel.trans (bp.mono hBel.size); clear hBel bp o10 i10a i10b i5a i5b i9a i9b; have hBel := hBel'; clear hBel'; have f5a := (i5.keep hBel).c0; have f5b := (i5.keep hBel).c1; have f9a := (i9.keep hBel).c0; have f9b := (i9.keep hBel).c1)
              | (go_at_call 38; refine (ISub_n _ _ A5 Ap _ _ c5 cp _ x P Z 35184372087808 70368744175616 ?_ ?_ zx zP (iv_canon x) (iv_canon P) EZ.out (by decide) (by decide)).mono ?_; exact o5.lim.below hBel; exact rp.lim; rintro e w7 ⟨Az, cz, rfl, rz, bz⟩; have oz := rz.mono (lo' := w.heap.size) (Nat.le_trans (Nat.le_trans (Nat.le_add_right _ 3) lw6) hBel.size); have hBel' : Below wc.heap.size wc w7 := hBel.trans (bz.mono hBel.size); clear hBel bz rz rp f5a f5b f9a f9b; have hBel := hBel'; clear hBel'; obtain ⟨e5a, e5b, e5c, e5d⟩ := i5.keep hBel; obtain ⟨e9a, e9b, e9c, e9d⟩ := i9.keep hBel))
          all_goals
            have hS7 := (hS6.below hBel (by omega)).m59 (R := Z) l7' l8' l9' n79 n89 (o9.below hBel) oz
            go_wp2_with fail
            go_roundg (M % N)
            case measure => exact HLT.out
            case rel => exact FINAL.out _ hS7
end Go.Proofs.Ytkpchamgghhihaa
