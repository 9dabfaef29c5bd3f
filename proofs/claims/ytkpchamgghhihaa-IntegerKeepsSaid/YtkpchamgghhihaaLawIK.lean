/- The walk of the statement IntegerKeeps: it returns true. -/
import Derived.Test.YtkpchamgghhihaaExtB
import Derived.Test.YtkpchamgghhihaaKeepI
namespace Go.Proofs.Ytkpchamgghhihaa
open Go.RowKit Gm

theorem boxes3j (w : World) (p q r : Bool) (u v t : Value) :
    ∃ W, ((w.alloc (.cells #[.bool p, u] 38)).alloc (.cells #[.bool q, v] 38)).alloc (.cells #[.bool r, t] 38) = W ∧ Below w.heap.size w W ∧ IntAt W w.heap.size p u ∧ IntAt W (w.heap.size + 1) q v ∧ IntAt W (w.heap.size + 1 + 1) r t := by
  refine ⟨_, rfl, (((Below.refl _ _).alloc (Nat.le_refl _) _).alloc (by simp) _).alloc (by simp; omega) _, ?_, ?_, ?_⟩
  · refine ⟨?_, ?_, ?_, ?_⟩ <;> go_simp
  · refine ⟨?_, ?_, ?_, ?_⟩ <;> go_simp
  · refine ⟨?_, ?_, ?_, ?_⟩ <;> go_simp
theorem Extended_any (p q : Bool) (A B : Option Addr) (xs ys : List Nat) (c d : Nat) (w : World) (ha : Lim w A c xs) (hb : Lim w B d ys) (hs : xs.length ≤ 35184372087808) (ht : ys.length ≤ 35184372087808) :
    Calls Try.prog 30 #[.agg #[.bool p, .slice A xs.length c], .agg #[.bool q, .slice B ys.length d]] w (fun e w' => ∃ b1 A1 n1 c1 b2 A2 n2 c2 b3 A3 n3 c3, e = .returned (.tuple #[.agg #[.bool b1, .slice A1 n1 c1], .agg #[.bool b2, .slice A2 n2 c2], .agg #[.bool b3, .slice A3 n3 c3]]) ∧ Wr w.heap.size w' A1 n1 ∧ Wr w.heap.size w' A2 n2 ∧ Wr w.heap.size w' A3 n3 ∧ Below w.heap.size w w') := by
  refine (Extended_c p q A B xs ys c d w ha hb hs ht).mono ?_
  rintro e w' ⟨g, x, y, A1, c1, A2, c2, A3, c3, rfl, r1, r2, r3, _, b⟩
  exact ⟨_, _, _, _, _, _, _, _, _, _, _, _, rfl, r1.wr, r2.wr, r3.wr, b⟩

set_option maxRecDepth 100000 in
set_option maxHeartbeats 8000000 in
theorem ikeeps_walk (p0 : Bool) (A0 : Option Addr) (xs0 : List Nat) (c0 : Nat) (p1 : Bool) (A1 : Option Addr) (xs1 : List Nat) (c1 : Nat) (w : World) (h0 : Lim w A0 c0 xs0) (h1 : Lim w A1 c1 xs1) (k0 : xs0.length ≤ 35184372087808) (k1 : xs1.length ≤ 35184372087808) :
    Calls Try.prog 6 #[.agg #[.bool p0, .slice A0 xs0.length c0], .agg #[.bool p1, .slice A1 xs1.length c1]] w (RetB w true) := by
  have tk0 : True := trivial
  have tk1 : True := trivial
  go_enter Try.func6, Try.ntmps6
  go_upto_region 1 with fail
  obtain ⟨W, hW, hbW, hsz, cf0, cf1, cf2, cf3⟩ := two_boxes w p0 p1 (.slice A0 xs0.length c0) (.slice A1 xs1.length c1)
  rw [hW]
  clear hW
  have j0 : w.heap.size < W.heap.size := by omega
  have j1 : w.heap.size + 1 < W.heap.size := by omega
  clear hsz
  replace h0 := h0.below hbW
  replace h1 := h1.below hbW
  have hBel : Below W.heap.size W W.drew := (Below.refl _ _).drew
  go_cut [5, 6] (fun s5 s6 wx => ∃ g5 g6 gx gy, s5 = .pointer (some ⟨g5, 0, none⟩) ∧ s6 = .pointer (some ⟨g6, 0, none⟩) ∧ IntAt wx g5 p0 (.slice (some ⟨gx, 0, none⟩) xs0.length (xs0.length + 3)) ∧ IntAt wx g6 p1 (.slice (some ⟨gy, 0, none⟩) xs1.length (xs1.length + 3)) ∧ Spared wx gx xs0 ∧ Spared wx gy xs1 ∧ Below W.heap.size W wx)
  case first =>
    go_region_held3 (fun w' => w'.cell? ⟨w.heap.size, 0, none⟩ = some (.bool p0) ∧ w'.cell? ⟨w.heap.size, 1, none⟩ = some (.slice A0 xs0.length c0) ∧ w'.cell? ⟨w.heap.size + 1, 0, none⟩ = some (.bool p1) ∧ w'.cell? ⟨w.heap.size + 1, 1, none⟩ = some (.slice A1 xs1.length c1))
      (first | (with_reducible exact ⟨cellB hBel j0 cf0, cellB hBel j0 cf1, cellB hBel j1 cf2, cellB hBel j1 cf3⟩) | (refine ⟨cellB (W := W) ?_ j0 cf0, cellB (W := W) ?_ j0 cf1, cellB (W := W) ?_ j1 cf2, cellB (W := W) ?_ j1 cf3⟩ <;> (first | with_reducible exact hBel | with_reducible exact Below.al1 hBel _ | with_reducible exact (Below.al1 (Below.refl _ _) _).drew | with_reducible exact (Below.al1 (Below.al1 (Below.refl _ _) _) _).drew | with_reducible exact Below.al1 (Below.al1 hBel _) _ | with_reducible exact Below.st2 hBel (by omega) _ _ | with_reducible exact Below.st2 (Below.al1 hBel _) (by omega) _ _ | with_reducible exact Below.al1 (Below.st2 hBel (by omega) _ _) _ | with_reducible exact Below.st2 (Below.al1 (Below.al1 hBel _) _) (by omega) _ _ | with_reducible exact Below.st2 (Below.st2 hBel (by omega) _ _) (by omega) _ _ | with_reducible exact Below.st2 (Below.st2 (Below.al1 hBel _) (by omega) _ _) (by omega) _ _ | with_reducible exact Below.st2 (Below.st2 (Below.al1 (Below.al1 hBel _) _) (by omega) _ _) (by omega) _ _ | with_reducible exact Below.st2 (Below.al1 (Below.st2 hBel (by omega) _ _) _) (by omega) _ _ | with_reducible exact Below.st2 (Below.al1 (Below.st2 (Below.al1 hBel _) (by omega) _ _) _) (by omega) _ _ | with_reducible exact Below.al1 (Below.st2 (Below.al1 hBel _) (by omega) _ _) _)))
      (first
        | (go_at_call 13; have _t := tk0; clear tk0; refine (Spare_c A0 xs0 c0 _ ?_ k0).mono ?_; (with_reducible refine h0.below ?_; (first | with_reducible exact hBel | with_reducible exact Below.al1 hBel _ | with_reducible exact (Below.al1 (Below.refl _ _) _).drew | with_reducible exact (Below.al1 (Below.al1 (Below.refl _ _) _) _).drew | with_reducible exact Below.al1 (Below.al1 hBel _) _ | with_reducible exact Below.st2 hBel (by omega) _ _ | with_reducible exact Below.st2 (Below.al1 hBel _) (by omega) _ _ | with_reducible exact Below.al1 (Below.st2 hBel (by omega) _ _) _ | with_reducible exact Below.st2 (Below.al1 (Below.al1 hBel _) _) (by omega) _ _ | with_reducible exact Below.st2 (Below.st2 hBel (by omega) _ _) (by omega) _ _ | with_reducible exact Below.st2 (Below.st2 (Below.al1 hBel _) (by omega) _ _) (by omega) _ _ | with_reducible exact Below.st2 (Below.st2 (Below.al1 (Below.al1 hBel _) _) (by omega) _ _) (by omega) _ _ | with_reducible exact Below.st2 (Below.al1 (Below.st2 hBel (by omega) _ _) _) (by omega) _ _ | with_reducible exact Below.st2 (Below.al1 (Below.st2 (Below.al1 hBel _) (by omega) _ _) _) (by omega) _ _ | with_reducible exact Below.al1 (Below.st2 (Below.al1 hBel _) (by omega) _ _) _)); rintro e w1 ⟨gx, rfl, _, sx, b1⟩; have hBel' : Below W.heap.size W w1 := bel_call (by (first | with_reducible exact hBel | with_reducible exact Below.al1 hBel _ | with_reducible exact (Below.al1 (Below.refl _ _) _).drew | with_reducible exact (Below.al1 (Below.al1 (Below.refl _ _) _) _).drew | with_reducible exact Below.al1 (Below.al1 hBel _) _ | with_reducible exact Below.st2 hBel (by omega) _ _ | with_reducible exact Below.st2 (Below.al1 hBel _) (by omega) _ _ | with_reducible exact Below.al1 (Below.st2 hBel (by omega) _ _) _ | with_reducible exact Below.st2 (Below.al1 (Below.al1 hBel _) _) (by omega) _ _ | with_reducible exact Below.st2 (Below.st2 hBel (by omega) _ _) (by omega) _ _ | with_reducible exact Below.st2 (Below.st2 (Below.al1 hBel _) (by omega) _ _) (by omega) _ _ | with_reducible exact Below.st2 (Below.st2 (Below.al1 (Below.al1 hBel _) _) (by omega) _ _) (by omega) _ _ | with_reducible exact Below.st2 (Below.al1 (Below.st2 hBel (by omega) _ _) _) (by omega) _ _ | with_reducible exact Below.st2 (Below.al1 (Below.st2 (Below.al1 hBel _) (by omega) _ _) _) (by omega) _ _ | with_reducible exact Below.al1 (Below.st2 (Below.al1 hBel _) (by omega) _ _) _)) b1; have z1 := b1.size; (try simp at z1); have q1 := hBel'.size; (try (have y1 : W.heap.size < w1.heap.size := by omega)); (try (have y2 : W.heap.size + 1 < w1.heap.size := by omega)); (try (have s1 : IntAt w1 W.heap.size false (.slice none 0 0) := (IntAt.new W.drew false (.slice none 0 0)).keep b1; obtain ⟨s1a, s1b, s1c, s1d⟩ := id s1)); (try (have s1 : IntAt w1 W.heap.size false (.slice none 0 0) := ((IntAt.new W.drew false (.slice none 0 0)).alloc _).keep b1; obtain ⟨s1a, s1b, s1c, s1d⟩ := id s1)); (try (have s2 : IntAt w1 (W.heap.size + 1) false (.slice none 0 0) := (IntAt.new2 W.drew _ false (.slice none 0 0)).keep b1; obtain ⟨s2a, s2b, s2c, s2d⟩ := id s2)); clear hBel; have hBel := hBel'; clear hBel')
        | (go_at_call 13; have _t := tk1; clear tk1; refine (Spare_c A1 xs1 c1 _ ?_ k1).mono ?_; (with_reducible refine h1.below ?_; (first | with_reducible exact hBel | with_reducible exact Below.al1 hBel _ | with_reducible exact (Below.al1 (Below.refl _ _) _).drew | with_reducible exact (Below.al1 (Below.al1 (Below.refl _ _) _) _).drew | with_reducible exact Below.al1 (Below.al1 hBel _) _ | with_reducible exact Below.st2 hBel (by omega) _ _ | with_reducible exact Below.st2 (Below.al1 hBel _) (by omega) _ _ | with_reducible exact Below.al1 (Below.st2 hBel (by omega) _ _) _ | with_reducible exact Below.st2 (Below.al1 (Below.al1 hBel _) _) (by omega) _ _ | with_reducible exact Below.st2 (Below.st2 hBel (by omega) _ _) (by omega) _ _ | with_reducible exact Below.st2 (Below.st2 (Below.al1 hBel _) (by omega) _ _) (by omega) _ _ | with_reducible exact Below.st2 (Below.st2 (Below.al1 (Below.al1 hBel _) _) (by omega) _ _) (by omega) _ _ | with_reducible exact Below.st2 (Below.al1 (Below.st2 hBel (by omega) _ _) _) (by omega) _ _ | with_reducible exact Below.st2 (Below.al1 (Below.st2 (Below.al1 hBel _) (by omega) _ _) _) (by omega) _ _ | with_reducible exact Below.al1 (Below.st2 (Below.al1 hBel _) (by omega) _ _) _)); rintro e w2 ⟨gy, rfl, _, sy, b2⟩; have hBel' : Below W.heap.size W w2 := bel_call (by (first | with_reducible exact hBel | with_reducible exact Below.al1 hBel _ | with_reducible exact (Below.al1 (Below.refl _ _) _).drew | with_reducible exact (Below.al1 (Below.al1 (Below.refl _ _) _) _).drew | with_reducible exact Below.al1 (Below.al1 hBel _) _ | with_reducible exact Below.st2 hBel (by omega) _ _ | with_reducible exact Below.st2 (Below.al1 hBel _) (by omega) _ _ | with_reducible exact Below.al1 (Below.st2 hBel (by omega) _ _) _ | with_reducible exact Below.st2 (Below.al1 (Below.al1 hBel _) _) (by omega) _ _ | with_reducible exact Below.st2 (Below.st2 hBel (by omega) _ _) (by omega) _ _ | with_reducible exact Below.st2 (Below.st2 (Below.al1 hBel _) (by omega) _ _) (by omega) _ _ | with_reducible exact Below.st2 (Below.st2 (Below.al1 (Below.al1 hBel _) _) (by omega) _ _) (by omega) _ _ | with_reducible exact Below.st2 (Below.al1 (Below.st2 hBel (by omega) _ _) _) (by omega) _ _ | with_reducible exact Below.st2 (Below.al1 (Below.st2 (Below.al1 hBel _) (by omega) _ _) _) (by omega) _ _ | with_reducible exact Below.al1 (Below.st2 (Below.al1 hBel _) (by omega) _ _) _)) b2; have sx' : Spared w2 gx xs0 := (by first | with_reducible exact sx.keep b2 | with_reducible exact (sx.keep (bel1 _ _)).keep b2 | with_reducible exact ((sx.keep (bel1 _ _)).keep (bel1 _ _)).keep b2); have z2 := b2.size; (try simp at z2); have q2 := hBel'.size; (try (have y3 : W.heap.size < w2.heap.size := by omega)); (try (have y4 : W.heap.size + 1 < w2.heap.size := by omega)); (try (have y5 : w1.heap.size < w2.heap.size := by omega)); (try (have y6 : w1.heap.size + 1 < w2.heap.size := by omega)); (try (have v1 : IntAt w2 W.heap.size false (.slice none 0 0) := s1.keep b2; obtain ⟨v1a, v1b, v1c, v1d⟩ := id v1)); (try (have v1 : IntAt w2 W.heap.size false (.slice none 0 0) := (s1.alloc _).keep b2; obtain ⟨v1a, v1b, v1c, v1d⟩ := id v1)); (try (have v2 : IntAt w2 (W.heap.size + 1) false (.slice none 0 0) := s2.keep b2; obtain ⟨v2a, v2b, v2c, v2d⟩ := id v2)); (try (have v3 : IntAt w2 w1.heap.size false (.slice none 0 0) := (IntAt.new w1 false (.slice none 0 0)).keep b2; obtain ⟨v3a, v3b, v3c, v3d⟩ := id v3)); (try (have v3 : IntAt w2 w1.heap.size false (.slice none 0 0) := ((IntAt.new w1 false (.slice none 0 0)).alloc _).keep b2; obtain ⟨v3a, v3b, v3c, v3d⟩ := id v3)); (try (have v4 : IntAt w2 (w1.heap.size + 1) false (.slice none 0 0) := (IntAt.new2 w1 _ false (.slice none 0 0)).keep b2; obtain ⟨v4a, v4b, v4c, v4d⟩ := id v4)); clear hBel; have hBel := hBel'; clear hBel'))
    all_goals (go_wp2_with fail; go_meet; refine ⟨_, _, gx, gy, rfl, rfl, ?_, ?_, ?_, ?_, ?_⟩)
    all_goals (first | (with_reducible refine IntAt.mk ?_ ?_ ?_ ?_ <;> (go_simp; done)) | (first | with_reducible exact hBel | with_reducible exact Below.al1 hBel _ | with_reducible exact (Below.al1 (Below.refl _ _) _).drew | with_reducible exact (Below.al1 (Below.al1 (Below.refl _ _) _) _).drew | with_reducible exact Below.al1 (Below.al1 hBel _) _ | with_reducible exact Below.st2 hBel (by omega) _ _ | with_reducible exact Below.st2 (Below.al1 hBel _) (by omega) _ _ | with_reducible exact Below.al1 (Below.st2 hBel (by omega) _ _) _ | with_reducible exact Below.st2 (Below.al1 (Below.al1 hBel _) _) (by omega) _ _ | with_reducible exact Below.st2 (Below.st2 hBel (by omega) _ _) (by omega) _ _ | with_reducible exact Below.st2 (Below.st2 (Below.al1 hBel _) (by omega) _ _) (by omega) _ _ | with_reducible exact Below.st2 (Below.st2 (Below.al1 (Below.al1 hBel _) _) (by omega) _ _) (by omega) _ _ | with_reducible exact Below.st2 (Below.al1 (Below.st2 hBel (by omega) _ _) _) (by omega) _ _ | with_reducible exact Below.st2 (Below.al1 (Below.st2 (Below.al1 hBel _) (by omega) _ _) _) (by omega) _ _ | with_reducible exact Below.al1 (Below.st2 (Below.al1 hBel _) (by omega) _ _) _) | ((repeat (first | with_reducible refine Spared.keep ?_ (bel1 _ _) | (with_reducible refine Spared.store_s ?_ ?_; rotate_left; focus (go_simp; done)) | (with_reducible refine Spared.store_b ?_ ?_; rotate_left; focus (go_simp; done)))); first | with_reducible exact sx' | with_reducible exact sy))
  case rest =>
    obtain ⟨g5, g6, gx, gy, rfl, rfl, i5, i6, sx, sy, hB⟩ := hcut
    clear hBel tk0 tk1
    have hend : Below w.heap.size w wc := hbW.trans (hB.mono hbW.size)
    replace cf0 := cellB hB j0 cf0
    replace cf1 := cellB hB j0 cf1
    replace cf2 := cellB hB j1 cf2
    replace cf3 := cellB hB j1 cf3
    replace j0 := Nat.lt_of_lt_of_le j0 hB.size
    replace j1 := Nat.lt_of_lt_of_le j1 hB.size
    replace h0 := h0.below hB
    replace h1 := h1.below hB
    have lx := sx.lim k0
    have ly := sy.lim k1
    clear hB hbW
    obtain ⟨i5a, i5b, _, _⟩ := id i5
    obtain ⟨i6a, i6b, _, _⟩ := id i6
    go_wp2_with fail
    refine (IDivMod_any p0 p1 _ _ xs0 xs1 _ _ _ lx ly k0 k1).mono ?_
    rintro e w1 ⟨bq, Aq, nq, cq, br, Ar, nr, cr, bo, rfl, rq, rr, bb1⟩
    obtain ⟨W1, hW1, hbW1, i7, i8⟩ := boxes2i w1 bq br (.slice Aq nq cq) (.slice Ar nr cr)
    have b01 : Below wc.heap.size wc W1 := bb1.trans (hbW1.mono bb1.size)
    replace rq := rq.below hbW1
    replace rr := rr.below hbW1
    clear i5a i5b i6a i6b
    obtain ⟨i5a, i5b, _, _⟩ := i5.keep b01
    obtain ⟨i6a, i6b, _, _⟩ := i6.keep b01
    clear bb1 hbW1
    go_wp2_with fail
    try rw [hW1]
    refine (Extended_any p0 p1 _ _ xs0 xs1 _ _ _ (lx.below b01) (ly.below b01) k0 k1).mono ?_
    rintro e w2 ⟨b1, Xa, xa, ya, b2, Xb, xb, yb, b3, Xc, xc, yc, rfl, r1, r2, r3, bb2⟩
    obtain ⟨W2, hW2, hbW2, i10, i11, i12⟩ := boxes3j w2 b1 b2 b3 (.slice Xa xa ya) (.slice Xb xb yb) (.slice Xc xc yc)
    have b12 : Below W1.heap.size W1 W2 := bb2.trans (hbW2.mono bb2.size)
    have b02 : Below wc.heap.size wc W2 := b01.trans (b12.mono b01.size)
    replace rq := rq.below b12
    replace rr := rr.below b12
    replace r1 := (r1.mono b01.size).below hbW2
    replace r2 := (r2.mono b01.size).below hbW2
    replace r3 := (r3.mono b01.size).below hbW2
    clear i5a i5b i6a i6b
    have i5' := i5
    have i6' := i6
    replace i5 := i5.keep b02
    replace i6 := i6.keep b02
    replace i7 := i7.keep b12
    replace i8 := i8.keep b12
    have lW2 := b02.size
    replace lx := lx.below b02
    replace ly := ly.below b02
    clear bb2 hbW2 b12 b01
    go_wp2_with fail
    try rw [hW2]
    clear hW1 hW2
    have m5 := i5.lt
    have i5a := i5.c0
    have i5b := i5.c1
    have m6 := i6.lt
    have i6a := i6.c0
    have i6b := i6.c1
    have m7 := i7.lt
    have i7a := i7.c0
    have i7b := i7.c1
    have m8 := i8.lt
    have i8a := i8.c0
    have i8b := i8.c1
    have m10 := i10.lt
    have i10a := i10.c0
    have i10b := i10.c1
    have m11 := i11.lt
    have i11a := i11.c0
    have i11b := i11.c1
    have m12 := i12.lt
    have i12a := i12.c0
    have i12b := i12.c1
    have tk3 : True := trivial
    have tk7 : True := trivial
    have hBel : Below W2.heap.size W2 W2.drew := (Below.refl _ _).drew
    go_region_held3 (fun w' => w'.cell? ⟨g5, 0, none⟩ = some (.bool p0) ∧ w'.cell? ⟨g5, 1, none⟩ = some (.slice (some ⟨gx, 0, none⟩) xs0.length (xs0.length + 3)) ∧ w'.cell? ⟨g6, 0, none⟩ = some (.bool p1) ∧ w'.cell? ⟨g6, 1, none⟩ = some (.slice (some ⟨gy, 0, none⟩) xs1.length (xs1.length + 3)) ∧ w'.cell? ⟨w1.heap.size, 0, none⟩ = some (.bool bq) ∧ w'.cell? ⟨w1.heap.size, 1, none⟩ = some (.slice Aq nq cq) ∧ w'.cell? ⟨w1.heap.size + 1, 0, none⟩ = some (.bool br) ∧ w'.cell? ⟨w1.heap.size + 1, 1, none⟩ = some (.slice Ar nr cr) ∧ w'.cell? ⟨w2.heap.size, 0, none⟩ = some (.bool b1) ∧ w'.cell? ⟨w2.heap.size, 1, none⟩ = some (.slice Xa xa ya) ∧ w'.cell? ⟨w2.heap.size + 1, 0, none⟩ = some (.bool b2) ∧ w'.cell? ⟨w2.heap.size + 1, 1, none⟩ = some (.slice Xb xb yb) ∧ w'.cell? ⟨w2.heap.size + 1 + 1, 0, none⟩ = some (.bool b3) ∧ w'.cell? ⟨w2.heap.size + 1 + 1, 1, none⟩ = some (.slice Xc xc yc))
        (first | (with_reducible exact ⟨cellB hBel m5 i5a, cellB hBel m5 i5b, cellB hBel m6 i6a, cellB hBel m6 i6b, cellB hBel m7 i7a, cellB hBel m7 i7b, cellB hBel m8 i8a, cellB hBel m8 i8b, cellB hBel m10 i10a, cellB hBel m10 i10b, cellB hBel m11 i11a, cellB hBel m11 i11b, cellB hBel m12 i12a, cellB hBel m12 i12b⟩) | (with_reducible exact ⟨cellB (bel_call hBel (bel1 _ _)) m5 i5a, cellB (bel_call hBel (bel1 _ _)) m5 i5b, cellB (bel_call hBel (bel1 _ _)) m6 i6a, cellB (bel_call hBel (bel1 _ _)) m6 i6b, cellB (bel_call hBel (bel1 _ _)) m7 i7a, cellB (bel_call hBel (bel1 _ _)) m7 i7b, cellB (bel_call hBel (bel1 _ _)) m8 i8a, cellB (bel_call hBel (bel1 _ _)) m8 i8b, cellB (bel_call hBel (bel1 _ _)) m10 i10a, cellB (bel_call hBel (bel1 _ _)) m10 i10b, cellB (bel_call hBel (bel1 _ _)) m11 i11a, cellB (bel_call hBel (bel1 _ _)) m11 i11b, cellB (bel_call hBel (bel1 _ _)) m12 i12a, cellB (bel_call hBel (bel1 _ _)) m12 i12b⟩) | go_keep)
        (first
          | (go_at_call 34; refine (INorm_any p0 _ xs0 _ _ ?_ k0).mono ?_; exact lx.below hBel; rintro e u0 ⟨e0, E0, n0, f0, rfl, q0, z0⟩; have s0 := q0.mono (lo' := wc.heap.size) (Nat.le_trans lW2 hBel.size); clear q0; have hBel' : Below W2.heap.size W2 u0 := hBel.trans (z0.mono hBel.size); clear hBel; have hBel := hBel'; clear hBel')
          | (go_at_call 35; refine (INeg_any p0 _ xs0 _ _ ?_ k0).mono ?_; exact lx.below hBel; rintro e u1 ⟨e1, E1, n1, f1, rfl, q1, z1⟩; have s1 := q1.mono (lo' := wc.heap.size) (Nat.le_trans lW2 hBel.size); clear q1; have hBel' : Below W2.heap.size W2 u1 := hBel.trans (z1.mono hBel.size); clear hBel; have hBel := hBel'; clear hBel')
          | (go_at_call 36; refine (IAbs_any p0 _ xs0 _ _ ?_ k0).mono ?_; exact lx.below hBel; rintro e u2 ⟨e2, E2, n2, f2, rfl, q2, z2⟩; have s2 := q2.mono (lo' := wc.heap.size) (Nat.le_trans lW2 hBel.size); clear q2; have hBel' : Below W2.heap.size W2 u2 := hBel.trans (z2.mono hBel.size); clear hBel; have hBel := hBel'; clear hBel')
          | (go_at_call 37; have _t := tk3; clear tk3; refine (IAdd_any p0 p1 _ _ xs0 xs1 _ _ _ ?_ ?_ k0 k1).mono ?_; exact lx.below hBel; exact ly.below hBel; rintro e u3 ⟨e3, E3, n3, f3, rfl, q3, z3⟩; have s3 := q3.mono (lo' := wc.heap.size) (Nat.le_trans lW2 hBel.size); clear q3; have hBel' : Below W2.heap.size W2 u3 := hBel.trans (z3.mono hBel.size); clear hBel; have hBel := hBel'; clear hBel')
          | (go_at_call 37; refine (IAdd_any p0 false _ none xs0 [] _ 0 _ ?_ ?_ k0 (by simp)).mono ?_; exact lx.below hBel; exact Lim.nil _ _; rintro e u4 ⟨e4, E4, n4, f4, rfl, q4, z4⟩; have s4 := q4.mono (lo' := wc.heap.size) (Nat.le_trans lW2 hBel.size); clear q4; have hBel' : Below W2.heap.size W2 u4 := hBel.trans (z4.mono hBel.size); clear hBel; have hBel := hBel'; clear hBel')
          | (go_at_call 38; refine (ISub_any p0 p1 _ _ xs0 xs1 _ _ _ ?_ ?_ k0 k1).mono ?_; exact lx.below hBel; exact ly.below hBel; rintro e u5 ⟨e5, E5, n5, f5, rfl, q5, z5⟩; have s5 := q5.mono (lo' := wc.heap.size) (Nat.le_trans lW2 hBel.size); clear q5; have hBel' : Below W2.heap.size W2 u5 := hBel.trans (z5.mono hBel.size); clear hBel; have hBel := hBel'; clear hBel')
          | (go_at_call 25; refine (IMul_any p0 p1 _ _ xs0 xs1 _ _ _ ?_ ?_ k0 k1).mono ?_; exact lx.below hBel; exact ly.below hBel; rintro e u6 ⟨e6, E6, n6, f6, rfl, q6, z6⟩; have s6 := q6.mono (lo' := wc.heap.size) (Nat.le_trans lW2 hBel.size); clear q6; have hBel' : Below W2.heap.size W2 u6 := hBel.trans (z6.mono hBel.size); clear hBel; have hBel := hBel'; clear hBel')
          | (go_at_call 27; have _t := tk7; clear tk7; refine (IGCD_any p0 p1 _ _ xs0 xs1 _ _ _ ?_ ?_ k0 k1).mono ?_; exact lx.below hBel; exact ly.below hBel; rintro e u7 ⟨e7, E7, n7, f7, rfl, q7, z7⟩; have s7 := q7.mono (lo' := wc.heap.size) (Nat.le_trans lW2 hBel.size); clear q7; have hBel' : Below W2.heap.size W2 u7 := hBel.trans (z7.mono hBel.size); clear hBel; have hBel := hBel'; clear hBel')
          | (go_at_call 27; refine (IGCD_any p0 false _ none xs0 [] _ 0 _ ?_ ?_ k0 (by simp)).mono ?_; exact lx.below hBel; exact Lim.nil _ _; rintro e u8 ⟨e8, E8, n8, f8, rfl, q8, z8⟩; have s8 := q8.mono (lo' := wc.heap.size) (Nat.le_trans lW2 hBel.size); clear q8; have hBel' : Below W2.heap.size W2 u8 := hBel.trans (z8.mono hBel.size); clear hBel; have hBel := hBel'; clear hBel'))
    rename_i hHeld
    clear hHeld
    have y8 := Below.refl u8.heap.size u8
    have y7 : Below u7.heap.size u7 u8 := z8.trans (y8.mono z8.size)
    have y6 : Below u6.heap.size u6 u8 := z7.trans (y7.mono z7.size)
    have y5 : Below u5.heap.size u5 u8 := z6.trans (y6.mono z6.size)
    have y4 : Below u4.heap.size u4 u8 := z5.trans (y5.mono z5.size)
    have y3 : Below u3.heap.size u3 u8 := z4.trans (y4.mono z4.size)
    have y2 : Below u2.heap.size u2 u8 := z3.trans (y3.mono z3.size)
    have y1 : Below u1.heap.size u1 u8 := z2.trans (y2.mono z2.size)
    have y0 : Below u0.heap.size u0 u8 := z1.trans (y1.mono z1.size)
    have o := outsI_lit u8 wc.heap.size [(e0, E0, n0, f0), (e1, E1, n1, f1), (e2, E2, n2, f2), (e3, E3, n3, f3), (e4, E4, n4, f4), (e5, E5, n5, f5), (e6, E6, n6, f6), (e7, E7, n7, f7), (e8, E8, n8, f8), (bq, Aq, nq, cq), (br, Ar, nr, cr), (b1, Xa, xa, ya), (b2, Xb, xb, yb), (b3, Xc, xc, yc)] 38 (by
      intro e he
      simp only [List.mem_cons, List.not_mem_nil, or_false] at he
      rcases he with rfl | rfl | rfl | rfl | rfl | rfl | rfl | rfl | rfl | rfl | rfl | rfl | rfl | rfl
      · exact s0.below y0
      · exact s1.below y1
      · exact s2.below y2
      · exact s3.below y3
      · exact s4.below y4
      · exact s5.below y5
      · exact s6.below y6
      · exact s7.below y7
      · exact s8.below y8
      · exact (rq.below hBel)
      · exact (rr.below hBel)
      · exact (r1.below hBel)
      · exact (r2.below hBel)
      · exact (r3.below hBel)
      )
    have b08 : Below wc.heap.size wc u8 := b02.trans (hBel.mono b02.size)
    have bL := b08.alloc b08.size (.cells ([(e0, E0, n0, f0), (e1, E1, n1, f1), (e2, E2, n2, f2), (e3, E3, n3, f3), (e4, E4, n4, f4), (e5, E5, n5, f5), (e6, E6, n6, f6), (e7, E7, n7, f7), (e8, E8, n8, f8), (bq, Aq, nq, cq), (br, Ar, nr, cr), (b1, Xa, xa, ya), (b2, Xb, xb, yb), (b3, Xc, xc, yc)].flatMap fun e : Bool × Option Addr × Nat × Nat => [Value.bool e.1, Value.slice e.2.1 e.2.2.1 e.2.2.2]).toArray 38)
    have hg : wc.heap.size ≤ u8.heap.size := b08.size
    have hgl : u8.heap.size < (u8.alloc (.cells ([(e0, E0, n0, f0), (e1, E1, n1, f1), (e2, E2, n2, f2), (e3, E3, n3, f3), (e4, E4, n4, f4), (e5, E5, n5, f5), (e6, E6, n6, f6), (e7, E7, n7, f7), (e8, E8, n8, f8), (bq, Aq, nq, cq), (br, Ar, nr, cr), (b1, Xa, xa, ya), (b2, Xb, xb, yb), (b3, Xc, xc, yc)].flatMap fun e : Bool × Option Addr × Nat × Nat => [Value.bool e.1, Value.slice e.2.1 e.2.2.1 e.2.2.2]).toArray 38)).heap.size := by simp
    simp only [List.flatMap_cons, List.flatMap_nil, List.length_cons, List.length_nil, List.cons_append, List.nil_append, List.append_nil] at o bL hgl
    clear s0 z0 y0 s1 z1 y1 s2 z2 y2 s3 z3 y3 s4 z4 y4 s5 z5 y5 s6 z6 y6 s7 z7 y7 s8 z8 y8 hBel b08 b02 lW2 lx ly rq rr r1 r2 r3 m5 i5a i5b i5 m6 i6a i6b i6 m7 i7a i7b i7 m8 i8a i8b i8 m10 i10a i10b i10 m11 i11a i11b i11 m12 i12a i12b i12
    obtain ⟨W3, hW3⟩ : ∃ W3, u8.alloc (.cells #[.bool e0, .slice E0 n0 f0, .bool e1, .slice E1 n1 f1, .bool e2, .slice E2 n2 f2, .bool e3, .slice E3 n3 f3, .bool e4, .slice E4 n4 f4, .bool e5, .slice E5 n5 f5, .bool e6, .slice E6 n6 f6, .bool e7, .slice E7 n7 f7, .bool e8, .slice E8 n8 f8, .bool bq, .slice Aq nq cq, .bool br, .slice Ar nr cr, .bool b1, .slice Xa xa ya, .bool b2, .slice Xb xb yb, .bool b3, .slice Xc xc yc] 38) = W3 := ⟨_, rfl⟩
    rw [hW3] at o bL hgl
    go_wp2_with fail
    try rw [hW3]
    clear hW3
    obtain ⟨g, eg⟩ : ∃ g, u8.heap.size = g := ⟨_, rfl⟩
    rw [eg] at o hg hgl ⊢
    clear eg
    go_loopw [72] (fun t wr => ∃ k : Nat, k ≤ 14 ∧ t = .int .i64 (k : Int) ∧ OutsI wc.heap.size g 14 wr k ∧ Below wc.heap.size wc wr ∧ g < wr.heap.size) (fun t _ => 14 - (intOf t).toNat)
    case atStart => exact ⟨0, by omega, rfl, o, bL, hgl⟩
    case round =>
      obtain ⟨k, hk, rfl, ho, hb, hgr⟩ := hrel
      by_cases hlt : k < 14
      · obtain ⟨b, A, n, c, hc0, hc1, hr, ha⟩ := ho k (Nat.le_refl _) hlt
        have i0 : (0 : Int) ≤ (k : Int) := by omega
        have i1 : (k : Int) < 14 := by omega
        rw [Nat.mul_comm] at hc0 hc1
        clear o bL hgl
        have hoA := ho.alloc hgr (.cells #[.bool b, .slice A n c] 38)
        have hrA := hr.below (bel1 wr (.cells #[.bool b, .slice A n c] 38))
        go_wp2_with fail
        refine (Wipe_c wc.heap.size A n c _ hrA g ha).mono ?_
        rintro e w13 ⟨rfl, hw⟩
        have hgw : g < w13.heap.size := by rw [hw.size]; simp; omega
        go_wp2_with fail
        go_roundw
        case rel => exact ⟨k + 1, by omega, by go_num, hoA.wiped hw, (hb.alloc hb.size _).trans hw.below, hgw⟩
        case measure => simp [intOf]; omega
      · obtain rfl : k = 14 := by omega
        clear o bL ho hgl
        go_wp2_with fail
        refine (awake2_c wr).mono ?_
        rintro e w13 ⟨rfl, b13⟩
        have b2 : Below wc.heap.size wc w13 := hb.trans (b13.mono hb.size)
        have t5 := (i5'.keep b2).c1
        have t2 := cellB b2 j0 cf1
        go_wp2_with fail
        refine (Kept_c A0 xs0 c0 gx w13 (sx.keep b2) (h0.below b2) k0).mono ?_
        rintro e w14 ⟨rfl, b14⟩
        have b3 : Below wc.heap.size wc w14 := b2.trans (b14.mono b2.size)
        have t6 := (i6'.keep b3).c1
        have t3 := cellB b3 j1 cf3
        clear t5 t2
        go_wp2_with fail
        refine (Kept_c A1 xs1 c1 gy w14 (sy.keep b3) (h1.below b3) k1).mono ?_
        rintro e w15 ⟨rfl, b15⟩
        have b4 : Below wc.heap.size wc w15 := b3.trans (b15.mono b3.size)
        go_wp2_with fail
        go_ret
        exact ⟨rfl, hend.trans (b4.mono hend.size)⟩
end Go.Proofs.Ytkpchamgghhihaa
