/- Contracts of the reference of layer 2: negation, absolute value, sums, differences, products. -/
import Derived.Test.YtkpchamgghhihaaIntW
import Derived.Test.YtkpchamgghhihaaRefD
namespace Go.Proofs.Ytkpchamgghhihaa
open Go.RowKit Gm

theorem iv_limbs (p : Bool) (n : Nat) : iv p (limbs n) = mkI p n := by rw [iv_eq, val_limbs]

set_option maxHeartbeats 400000 in
theorem rNeg_c (p : Bool) (A : Option Addr) (xs : List Nat) (c : Nat) (w : World) (ha : Lim w A c xs) (hs : xs.length ≤ 70368744177664) :
    Calls Try.prog 117 #[.agg #[.bool p, .slice A xs.length c]] w (RetInt w (- iv p xs)) := by
  have EV := Lib.hid (show iv (!p) xs = - iv p xs from iv_not p xs)
  go_enter Try.func117, Try.ntmps117
  go_wp2_with fail
  obtain ⟨W, hW, hbW, hsz, k, kr⟩ := boxes_ar w p (.slice A xs.length c)
  rw [hW]
  clear hW
  have hz : w.heap.size + 2 ≤ W.heap.size := by omega
  clear hsz
  refine (Make_c (!p) A xs c _ (ha.below hbW) hs).mono ?_
  rw [EV.out]
  rintro e w1 ⟨A1, c1, rfl, r3, bw1⟩
  generalize - iv p xs = z at *
  obtain ⟨m1, m2, m3, m4⟩ := keepR bw1 (show w.heap.size + 1 < W.heap.size by omega) kr
  have hret : RetInt w z (.returned (.agg #[.bool (decide (z < 0)), .slice A1 (limbs z.natAbs).length c1]))
      ((w1.setCell ⟨w.heap.size + 1, 0, none⟩ (.bool (decide (z < 0)))).setCell ⟨w.heap.size + 1, 1, none⟩ (.slice A1 (limbs z.natAbs).length c1)) :=
    ⟨A1, c1, rfl, (r3.put2 (show w.heap.size + 1 < W.heap.size by omega) _ _).mono (show w.heap.size ≤ W.heap.size by omega), below_put2 (hbW.trans (bw1.mono (show w.heap.size ≤ W.heap.size by omega))) (by omega) _ _⟩
  clear r3 bw1 hbW kr k
  go_wp2
  exact bodyPost_ret (v := .agg #[.bool (decide (z < 0)), .slice A1 (limbs z.natAbs).length c1]) (by simp [results, Try.results117, go_sem, m1, m2]) rfl hret

set_option maxHeartbeats 400000 in
theorem rAbs_c (p : Bool) (A : Option Addr) (xs : List Nat) (c : Nat) (w : World) (ha : Lim w A c xs) (hs : xs.length ≤ 70368744177664) :
    Calls Try.prog 85 #[.agg #[.bool p, .slice A xs.length c]] w (RetInt w (((val xs : Nat) : Int))) := by
  have EV := Lib.hid (show iv false xs = ((val xs : Nat) : Int) from rfl)
  go_enter Try.func85, Try.ntmps85
  go_wp2_with fail
  obtain ⟨W, hW, hbW, hsz, k, kr⟩ := boxes_ar w p (.slice A xs.length c)
  rw [hW]
  clear hW
  have hz : w.heap.size + 2 ≤ W.heap.size := by omega
  clear hsz
  refine (Make_c false A xs c _ (ha.below hbW) hs).mono ?_
  rw [EV.out]
  rintro e w1 ⟨A1, c1, rfl, r3, bw1⟩
  generalize ((val xs : Nat) : Int) = z at *
  obtain ⟨m1, m2, m3, m4⟩ := keepR bw1 (show w.heap.size + 1 < W.heap.size by omega) kr
  have hret : RetInt w z (.returned (.agg #[.bool (decide (z < 0)), .slice A1 (limbs z.natAbs).length c1]))
      ((w1.setCell ⟨w.heap.size + 1, 0, none⟩ (.bool (decide (z < 0)))).setCell ⟨w.heap.size + 1, 1, none⟩ (.slice A1 (limbs z.natAbs).length c1)) :=
    ⟨A1, c1, rfl, (r3.put2 (show w.heap.size + 1 < W.heap.size by omega) _ _).mono (show w.heap.size ≤ W.heap.size by omega), below_put2 (hbW.trans (bw1.mono (show w.heap.size ≤ W.heap.size by omega))) (by omega) _ _⟩
  clear r3 bw1 hbW kr k
  go_wp2
  exact bodyPost_ret (v := .agg #[.bool (decide (z < 0)), .slice A1 (limbs z.natAbs).length c1]) (by simp [results, Try.results85, go_sem, m1, m2]) rfl hret

theorem Make_n (p : Bool) (A : Option Addr) (xs : List Nat) (c : Nat) (w : World) (s : Int) (h : Lim w A c xs) (hs : xs.length ≤ 70368744177664) (he : iv p xs = s) :
    Calls Try.prog 79 #[.bool p, .slice A xs.length c] w (RetInt w s) := by
  subst he; exact Make_c p A xs c w h hs

set_option maxHeartbeats 1000000 in
theorem rIAdd_same (p : Bool) (A B : Option Addr) (xs ys : List Nat) (c d : Nat) (w : World) (ha : Lim w A c xs) (hb : Lim w B d ys) (hs : xs.length < 70368744177664) (ht : ys.length < 70368744177664) (hsz0 : (limbs (val xs + val ys)).length ≤ 70368744177664) :
    Calls Try.prog 83 #[.agg #[.bool p, .slice A xs.length c], .agg #[.bool p, .slice B ys.length d]] w (RetInt w (iv p xs + iv p ys)) := by
  have EV := Lib.hid (show iv p (limbs (val xs + val ys)) = iv p xs + iv p ys from (iv_limbs p _).trans (mkI_add p (val xs) (val ys)).symm)
  go_enter Try.func83, Try.ntmps83
  have hpp : (p == p) = true := by simp
  go_wp2_with fail
  obtain ⟨W, hW, hbW, hsz, k, kr⟩ := three_boxes w p p (.slice A xs.length c) (.slice B ys.length d)
  rw [hW]
  clear hW
  have hz : w.heap.size + 3 ≤ W.heap.size := by omega
  clear hsz
  obtain ⟨k1, k2, k3, k4⟩ := k
  go_wp2_with fail
  go_region_held3 (fun w' => w'.cell? ⟨w.heap.size, 0, none⟩ = some (.bool p) ∧ w'.cell? ⟨w.heap.size, 1, none⟩ = some (.slice A xs.length c) ∧ w'.cell? ⟨w.heap.size + 1, 0, none⟩ = some (.bool p) ∧ w'.cell? ⟨w.heap.size + 1, 1, none⟩ = some (.slice B ys.length d))
    (first | exact l1 | exact l2 | exact keep2 (below_put2 (Below.refl (w.heap.size + 1 + 1) w2) (Nat.le_refl _) _ _) (Nat.le_refl _) l2 | go_keep)
    (first
      | (go_at_call 110; refine (rAdd_c A B xs ys c d _ ?_ ?_ hs ht).mono ?_; exact ha.below (below_drewN hbW 1); exact hb.below (below_drewN hbW 1); rintro e w1 ⟨A1, c1, rfl, r3, bw1⟩; have l1 := keep2 bw1 (show w.heap.size + 2 ≤ W.heap.size by omega) ⟨k1, k2, k3, k4⟩)
      | (go_at_call 79; refine (Make_n p A1 (limbs (val xs + val ys)) c1 _ (iv p xs + iv p ys) r3.lim hsz0 EV.out).mono ?_; rintro e w2 ⟨A2, c2, rfl, r4, bw2⟩; have l2 := keep2 bw2 (Nat.le_trans (show w.heap.size + 2 ≤ W.heap.size by omega) bw1.size) l1; obtain ⟨m1, m2, m3, m4⟩ := keepR (N := w.heap.size + 1 + 1) bw2 (Nat.lt_of_lt_of_le (show w.heap.size + 1 + 1 < W.heap.size by omega) bw1.size) (keepR bw1 (show w.heap.size + 1 + 1 < W.heap.size by omega) kr)))
  have hbw : Below w.heap.size w w2 := ((below_drewN hbW 1).trans (bw1.mono (show w.heap.size ≤ W.heap.size by omega))).trans (bw2.mono (Nat.le_trans (show w.heap.size ≤ W.heap.size by omega) bw1.size))
  have hlw : w.heap.size + 1 + 1 < w1.heap.size := Nat.lt_of_lt_of_le (show w.heap.size + 1 + 1 < W.heap.size by omega) bw1.size
  generalize iv p xs + iv p ys = z at *
  have hret : RetInt w z (.returned (.agg #[.bool (decide (z < 0)), .slice A2 (limbs z.natAbs).length c2]))
      ((w2.setCell ⟨w.heap.size + 1 + 1, 0, none⟩ (.bool (decide (z < 0)))).setCell ⟨w.heap.size + 1 + 1, 1, none⟩ (.slice A2 (limbs z.natAbs).length c2)) :=
    ⟨A2, c2, rfl, (r4.put2 hlw _ _).mono (by omega), below_put2 hbw (by omega) _ _⟩
  clear hbw r3 r4 bw1 bw2 hbW kr l1 l2 k1 k2 k3 k4
  go_wp2
  exact bodyPost_ret (v := .agg #[.bool (decide (z < 0)), .slice A2 (limbs z.natAbs).length c2]) (by simp [results, Try.results83, go_sem, m1, m2]) rfl hret

set_option maxHeartbeats 1000000 in
theorem rIMul_c (p q : Bool) (A B : Option Addr) (xs ys : List Nat) (c d : Nat) (w : World) (ha : Lim w A c xs) (hb : Lim w B d ys) (hs : xs.length + ys.length ≤ 70368744177664) (hsz0 : (limbs (val xs * val ys)).length ≤ 70368744177664) :
    Calls Try.prog 54 #[.agg #[.bool p, .slice A xs.length c], .agg #[.bool q, .slice B ys.length d]] w (RetInt w (iv p xs * iv q ys)) := by
  have EV := Lib.hid (show iv (p != q) (limbs (val xs * val ys)) = iv p xs * iv q ys from (iv_limbs (p != q) _).trans (mkI_mul p q (val xs) (val ys)).symm)
  go_enter Try.func54, Try.ntmps54
  go_wp2_with fail
  obtain ⟨W, hW, hbW, hsz, k, kr⟩ := three_boxes w p q (.slice A xs.length c) (.slice B ys.length d)
  rw [hW]
  clear hW
  have hz : w.heap.size + 3 ≤ W.heap.size := by omega
  clear hsz
  obtain ⟨k1, k2, k3, k4⟩ := k
  go_wp2_with fail
  go_region_held3 (fun w' => w'.cell? ⟨w.heap.size, 0, none⟩ = some (.bool p) ∧ w'.cell? ⟨w.heap.size, 1, none⟩ = some (.slice A xs.length c) ∧ w'.cell? ⟨w.heap.size + 1, 0, none⟩ = some (.bool q) ∧ w'.cell? ⟨w.heap.size + 1, 1, none⟩ = some (.slice B ys.length d))
    (first | exact l1 | exact l2 | exact keep2 (below_put2 (Below.refl (w.heap.size + 1 + 1) w2) (Nat.le_refl _) _ _) (Nat.le_refl _) l2 | go_keep)
    (first
      | (go_at_call 96; refine (rMul_c A B xs ys c d _ ?_ ?_ hs).mono ?_; exact ha.below (below_drewN hbW 1); exact hb.below (below_drewN hbW 1); rintro e w1 ⟨A1, c1, rfl, r3, bw1⟩; have l1 := keep2 bw1 (show w.heap.size + 2 ≤ W.heap.size by omega) ⟨k1, k2, k3, k4⟩)
      | (go_at_call 79; refine (Make_n (p != q) A1 (limbs (val xs * val ys)) c1 _ (iv p xs * iv q ys) r3.lim hsz0 EV.out).mono ?_; rintro e w2 ⟨A2, c2, rfl, r4, bw2⟩; have l2 := keep2 bw2 (Nat.le_trans (show w.heap.size + 2 ≤ W.heap.size by omega) bw1.size) l1; obtain ⟨m1, m2, m3, m4⟩ := keepR (N := w.heap.size + 1 + 1) bw2 (Nat.lt_of_lt_of_le (show w.heap.size + 1 + 1 < W.heap.size by omega) bw1.size) (keepR bw1 (show w.heap.size + 1 + 1 < W.heap.size by omega) kr)))
  have hbw : Below w.heap.size w w2 := ((below_drewN hbW 1).trans (bw1.mono (show w.heap.size ≤ W.heap.size by omega))).trans (bw2.mono (Nat.le_trans (show w.heap.size ≤ W.heap.size by omega) bw1.size))
  have hlw : w.heap.size + 1 + 1 < w1.heap.size := Nat.lt_of_lt_of_le (show w.heap.size + 1 + 1 < W.heap.size by omega) bw1.size
  generalize iv p xs * iv q ys = z at *
  have hret : RetInt w z (.returned (.agg #[.bool (decide (z < 0)), .slice A2 (limbs z.natAbs).length c2]))
      ((w2.setCell ⟨w.heap.size + 1 + 1, 0, none⟩ (.bool (decide (z < 0)))).setCell ⟨w.heap.size + 1 + 1, 1, none⟩ (.slice A2 (limbs z.natAbs).length c2)) :=
    ⟨A2, c2, rfl, (r4.put2 hlw _ _).mono (by omega), below_put2 hbw (by omega) _ _⟩
  clear hbw r3 r4 bw1 bw2 hbW kr l1 l2 k1 k2 k3 k4
  go_wp2
  exact bodyPost_ret (v := .agg #[.bool (decide (z < 0)), .slice A2 (limbs z.natAbs).length c2]) (by simp [results, Try.results54, go_sem, m1, m2]) rfl hret

theorem rNeg_n (p : Bool) (A : Option Addr) (xs : List Nat) (c : Nat) (w : World) (m s : Int) (K : Nat) (ha : Lim w A c xs) (hs : xs.length ≤ K) (hm : iv p xs = m) (h : -m = s) (hK : K ≤ 70368744177664) :
    Calls Try.prog 117 #[.agg #[.bool p, .slice A xs.length c]] w (RetInt w s) := by
  have k := rNeg_c p A xs c w ha (by omega)
  rw [hm, h] at k; exact k
set_option maxHeartbeats 1000000 in
theorem rIAdd_ge (p : Bool) (A B : Option Addr) (xs ys : List Nat) (c d : Nat) (w : World) (ha : Lim w A c xs) (hb : Lim w B d ys) (hs : xs.length < 70368744177664) (ht : ys.length < 70368744177664) (hge : val ys ≤ val xs) :
    Calls Try.prog 83 #[.agg #[.bool p, .slice A xs.length c], .agg #[.bool (!p), .slice B ys.length d]] w (RetInt w (iv p xs + iv (!p) ys)) := by
  have hpp : (p == !p) = false := by cases p <;> rfl
  have EV := Lib.hid (show iv p (limbs (val xs - val ys)) = iv p xs + iv (!p) ys from (iv_limbs p _).trans (mkI_sub p hge).symm)
  have hsz0 : (limbs (val xs - val ys)).length ≤ 70368744177664 := by
    have h1 := limbs_length_le ha.lb
    have h2 := limbs_length_le hb.lb
    have h3 := limbs_mono (Nat.sub_le (val xs) (val ys))
    have h4 := limbs_mono (Nat.sub_le (val ys) (val xs))
    omega
  go_enter Try.func83, Try.ntmps83
  go_wp2_with fail
  obtain ⟨W, hW, hbW, hsz, k, kr⟩ := three_boxes w p (!p) (.slice A xs.length c) (.slice B ys.length d)
  rw [hW]
  clear hW
  have hz : w.heap.size + 3 ≤ W.heap.size := by omega
  clear hsz
  obtain ⟨k1, k2, k3, k4⟩ := k
  go_wp2_with fail
  refine (rSub_ok A B xs ys c d _ (ha.below hbW) (hb.below hbW) (Nat.le_of_lt hs) (Nat.le_of_lt ht) hge).mono ?_
  rintro e w1 ⟨A1, c1, rfl, r3, bW1⟩
  obtain ⟨l1, l2, l3, l4⟩ := keep2 bW1 (show w.heap.size + 2 ≤ W.heap.size by omega) ⟨k1, k2, k3, k4⟩
  go_wp2_with fail
  refine (Make_n p A1 (limbs (val xs - val ys)) c1 _ (iv p xs + iv (!p) ys) r3.lim hsz0 EV.out).mono ?_
  rintro e w2 ⟨A2, c2, rfl, r4, bw2⟩
  have hlw : w.heap.size + 1 + 1 < w1.heap.size := Nat.lt_of_lt_of_le (show w.heap.size + 1 + 1 < W.heap.size by omega) bW1.size
  obtain ⟨m1, m2, m3, m4⟩ := keepR (N := w.heap.size + 1 + 1) bw2 hlw (keepR bW1 (show w.heap.size + 1 + 1 < W.heap.size by omega) kr)
  have hbw : Below w.heap.size w w2 := (hbW.trans (bW1.mono (show w.heap.size ≤ W.heap.size by omega))).trans (bw2.mono (Nat.le_trans (show w.heap.size ≤ W.heap.size by omega) bW1.size))
  generalize iv p xs + iv (!p) ys = z at *
  have hret : RetInt w z (.returned (.agg #[.bool (decide (z < 0)), .slice A2 (limbs z.natAbs).length c2]))
      ((w2.setCell ⟨w.heap.size + 1 + 1, 0, none⟩ (.bool (decide (z < 0)))).setCell ⟨w.heap.size + 1 + 1, 1, none⟩ (.slice A2 (limbs z.natAbs).length c2)) :=
    ⟨A2, c2, rfl, (r4.put2 hlw _ _).mono (by omega), below_put2 hbw (by omega) _ _⟩
  clear hbw r3 r4 bW1 bw2 hbW kr l1 l2 l3 l4 k1 k2 k3 k4
  go_wp2
  exact bodyPost_ret (v := .agg #[.bool (decide (z < 0)), .slice A2 (limbs z.natAbs).length c2]) (by simp [results, Try.results83, go_sem, m1, m2]) rfl hret

set_option maxHeartbeats 1000000 in
theorem rIAdd_lt (p : Bool) (A B : Option Addr) (xs ys : List Nat) (c d : Nat) (w : World) (ha : Lim w A c xs) (hb : Lim w B d ys) (hs : xs.length < 70368744177664) (ht : ys.length < 70368744177664) (hlt : val xs < val ys) :
    Calls Try.prog 83 #[.agg #[.bool p, .slice A xs.length c], .agg #[.bool (!p), .slice B ys.length d]] w (RetInt w (iv p xs + iv (!p) ys)) := by
  have hpp : (p == !p) = false := by cases p <;> rfl
  have EV := Lib.hid (show iv (!p) (limbs (val ys - val xs)) = iv p xs + iv (!p) ys from (iv_limbs (!p) _).trans (mkI_sub' p (Nat.le_of_lt hlt)).symm)
  have hsz0 : (limbs (val ys - val xs)).length ≤ 70368744177664 := by
    have h1 := limbs_length_le ha.lb
    have h2 := limbs_length_le hb.lb
    have h3 := limbs_mono (Nat.sub_le (val xs) (val ys))
    have h4 := limbs_mono (Nat.sub_le (val ys) (val xs))
    omega
  go_enter Try.func83, Try.ntmps83
  go_wp2_with fail
  obtain ⟨W, hW, hbW, hsz, k, kr⟩ := three_boxes w p (!p) (.slice A xs.length c) (.slice B ys.length d)
  rw [hW]
  clear hW
  have hz : w.heap.size + 3 ≤ W.heap.size := by omega
  clear hsz
  obtain ⟨k1, k2, k3, k4⟩ := k
  go_wp2_with fail
  refine (rSub_no A B xs ys c d _ (ha.below hbW) (hb.below hbW) (Nat.le_of_lt hs) (Nat.le_of_lt ht) hlt).mono ?_
  rintro e w0 ⟨rfl, b0⟩
  obtain ⟨i1, i2, i3, i4⟩ := keep2 b0 (show w.heap.size + 2 ≤ W.heap.size by omega) ⟨k1, k2, k3, k4⟩
  go_wp2_with fail
  refine (rSub_ok B A ys xs d c _ ((hb.below hbW).below b0) ((ha.below hbW).below b0) (Nat.le_of_lt ht) (Nat.le_of_lt hs) (Nat.le_of_lt hlt)).mono ?_
  rintro e w1 ⟨A1, c1, rfl, r3, b1⟩
  have bW1 : Below W.heap.size W w1 := b0.trans (b1.mono b0.size)
  obtain ⟨l1, l2, l3, l4⟩ := keep2 bW1 (show w.heap.size + 2 ≤ W.heap.size by omega) ⟨k1, k2, k3, k4⟩
  clear i1 i2 i3 i4 b0 b1
  go_wp2_with fail
  refine (Make_n (!p) A1 (limbs (val ys - val xs)) c1 _ (iv p xs + iv (!p) ys) r3.lim hsz0 EV.out).mono ?_
  rintro e w2 ⟨A2, c2, rfl, r4, bw2⟩
  have hlw : w.heap.size + 1 + 1 < w1.heap.size := Nat.lt_of_lt_of_le (show w.heap.size + 1 + 1 < W.heap.size by omega) bW1.size
  obtain ⟨m1, m2, m3, m4⟩ := keepR (N := w.heap.size + 1 + 1) bw2 hlw (keepR bW1 (show w.heap.size + 1 + 1 < W.heap.size by omega) kr)
  have hbw : Below w.heap.size w w2 := (hbW.trans (bW1.mono (show w.heap.size ≤ W.heap.size by omega))).trans (bw2.mono (Nat.le_trans (show w.heap.size ≤ W.heap.size by omega) bW1.size))
  generalize iv p xs + iv (!p) ys = z at *
  have hret : RetInt w z (.returned (.agg #[.bool (decide (z < 0)), .slice A2 (limbs z.natAbs).length c2]))
      ((w2.setCell ⟨w.heap.size + 1 + 1, 0, none⟩ (.bool (decide (z < 0)))).setCell ⟨w.heap.size + 1 + 1, 1, none⟩ (.slice A2 (limbs z.natAbs).length c2)) :=
    ⟨A2, c2, rfl, (r4.put2 hlw _ _).mono (by omega), below_put2 hbw (by omega) _ _⟩
  clear hbw r3 r4 bW1 bw2 hbW kr l1 l2 l3 l4 k1 k2 k3 k4
  go_wp2
  exact bodyPost_ret (v := .agg #[.bool (decide (z < 0)), .slice A2 (limbs z.natAbs).length c2]) (by simp [results, Try.results83, go_sem, m1, m2]) rfl hret

/-- the sum of integers, by the reference -/
theorem rIAdd_c (p q : Bool) (A B : Option Addr) (xs ys : List Nat) (c d : Nat) (w : World) (ha : Lim w A c xs) (hb : Lim w B d ys) (hs : xs.length < 70368744177664) (ht : ys.length < 70368744177664) (hz : (limbs (val xs + val ys)).length ≤ 70368744177664) :
    Calls Try.prog 83 #[.agg #[.bool p, .slice A xs.length c], .agg #[.bool q, .slice B ys.length d]] w (RetInt w (iv p xs + iv q ys)) := by
  by_cases h : p = q
  · subst h; exact rIAdd_same p A B xs ys c d w ha hb hs ht hz
  · obtain rfl : q = !p := by cases p <;> cases q <;> simp_all
    rcases Nat.lt_or_ge (val xs) (val ys) with hl | hl
    · exact rIAdd_lt p A B xs ys c d w ha hb hs ht hl
    · exact rIAdd_ge p A B xs ys c d w ha hb hs ht hl

theorem rIAdd_m (p q : Bool) (A B : Option Addr) (xs ys : List Nat) (c d : Nat) (w : World) (s : Int) (ha : Lim w A c xs) (hb : Lim w B d ys) (hs : xs.length < 70368744177664) (ht : ys.length < 70368744177664) (hz : (limbs (val xs + val ys)).length ≤ 70368744177664) (h : iv p xs + iv q ys = s) :
    Calls Try.prog 83 #[.agg #[.bool p, .slice A xs.length c], .agg #[.bool q, .slice B ys.length d]] w (RetInt w s) := by
  subst h; exact rIAdd_c p q A B xs ys c d w ha hb hs ht hz

set_option maxHeartbeats 1000000 in
theorem rISub_c (p q : Bool) (A B : Option Addr) (xs ys : List Nat) (c d : Nat) (w : World) (ha : Lim w A c xs) (hb : Lim w B d ys) (hs : xs.length < 70368744177664) (ht : ys.length < 70368744177664) (hz : (limbs (val xs + val ys)).length ≤ 70368744177664) :
    Calls Try.prog 109 #[.agg #[.bool p, .slice A xs.length c], .agg #[.bool q, .slice B ys.length d]] w (RetInt w (iv p xs - iv q ys)) := by
  have ly := limbs_length_le hb.lb
  have en : (- iv q ys).natAbs = val ys := by rw [Int.natAbs_neg, iv_natAbs]
  obtain ⟨y, ey⟩ : ∃ y, - iv q ys = y := ⟨_, rfl⟩
  have es : iv p xs + iv (decide (y < 0)) (limbs y.natAbs) = iv p xs - iv q ys := by rw [iv_canon, ← ey, Int.sub_eq_add_neg]
  rw [ey] at en
  have lz : (limbs y.natAbs).length < 70368744177664 := by rw [en]; omega
  have hz2 : (limbs (val xs + val (limbs y.natAbs))).length ≤ 70368744177664 := by rw [val_limbs, en]; exact hz
  have EY := Lib.hid ey
  have ES := Lib.hid es
  clear ey es en
  go_enter Try.func109, Try.ntmps109
  go_wp2_with fail
  obtain ⟨W, hW, hbW, hsz, k, kr⟩ := three_boxes w p q (.slice A xs.length c) (.slice B ys.length d)
  rw [hW]
  clear hW
  have hzz : w.heap.size + 3 ≤ W.heap.size := by omega
  clear hsz
  obtain ⟨k1, k2, k3, k4⟩ := k
  go_region_held3 (fun w' => w'.cell? ⟨w.heap.size, 0, none⟩ = some (.bool p) ∧ w'.cell? ⟨w.heap.size, 1, none⟩ = some (.slice A xs.length c) ∧ w'.cell? ⟨w.heap.size + 1, 0, none⟩ = some (.bool q) ∧ w'.cell? ⟨w.heap.size + 1, 1, none⟩ = some (.slice B ys.length d))
    (first | exact l1 | exact l2 | exact keep2 (below_put2 (Below.refl (w.heap.size + 1 + 1) w2) (Nat.le_refl _) _ _) (Nat.le_refl _) l2 | go_keep)
    (first
      | (go_at_call 117; refine (rNeg_n q B ys d _ (iv q ys) y 70368744177664 ?_ (Nat.le_of_lt ht) rfl EY.out (Nat.le_refl _)).mono ?_; exact hb.below (below_drewN hbW 1); rintro e w1 ⟨A1, c1, rfl, r3, bw1⟩; have l1 := keep2 bw1 (show w.heap.size + 2 ≤ W.heap.size by omega) ⟨k1, k2, k3, k4⟩)
      | (go_at_call 83; refine (rIAdd_m p (decide (y < 0)) A A1 xs (limbs y.natAbs) c c1 _ (iv p xs - iv q ys) ?_ r3.lim hs lz hz2 ES.out).mono ?_; exact (ha.below (below_drewN hbW 1)).below bw1; rintro e w2 ⟨A2, c2, rfl, r4, bw2⟩; have l2 := keep2 bw2 (Nat.le_trans (show w.heap.size + 2 ≤ W.heap.size by omega) bw1.size) l1; obtain ⟨m1, m2, m3, m4⟩ := keepR (N := w.heap.size + 1 + 1) bw2 (Nat.lt_of_lt_of_le (show w.heap.size + 1 + 1 < W.heap.size by omega) bw1.size) (keepR bw1 (show w.heap.size + 1 + 1 < W.heap.size by omega) kr)))
  have hbw : Below w.heap.size w w2 := ((below_drewN hbW 1).trans (bw1.mono (show w.heap.size ≤ W.heap.size by omega))).trans (bw2.mono (Nat.le_trans (show w.heap.size ≤ W.heap.size by omega) bw1.size))
  have hlw : w.heap.size + 1 + 1 < w1.heap.size := Nat.lt_of_lt_of_le (show w.heap.size + 1 + 1 < W.heap.size by omega) bw1.size
  generalize iv p xs - iv q ys = z at *
  have hret : RetInt w z (.returned (.agg #[.bool (decide (z < 0)), .slice A2 (limbs z.natAbs).length c2]))
      ((w2.setCell ⟨w.heap.size + 1 + 1, 0, none⟩ (.bool (decide (z < 0)))).setCell ⟨w.heap.size + 1 + 1, 1, none⟩ (.slice A2 (limbs z.natAbs).length c2)) :=
    ⟨A2, c2, rfl, (r4.put2 hlw _ _).mono (by omega), below_put2 hbw (by omega) _ _⟩
  clear hbw r3 r4 bw1 bw2 hbW kr l1 l2 k1 k2 k3 k4
  go_wp2
  exact bodyPost_ret (v := .agg #[.bool (decide (z < 0)), .slice A2 (limbs z.natAbs).length c2]) (by simp [results, Try.results109, go_sem, m1, m2]) rfl hret

section
variable (p q : Bool) (A B : Option Addr) (xs ys : List Nat) (c d : Nat) (w : World) (m n s : Int) (K L : Nat)
theorem sum_len {xs ys : List Nat} {K L : Nat} (hx : Lb xs) (hy : Lb ys) (hs : xs.length ≤ K) (ht : ys.length ≤ L) (hK : K < 70368744177664) (hL : L < 70368744177664) : (limbs (val xs + val ys)).length ≤ 70368744177664 := by
  have h1 := limbs_length_le hx
  have h2 := limbs_length_le hy
  have h3 := limbs_add_le (k := 70368744177663) (show (limbs (val xs)).length ≤ _ by omega) (show (limbs (val ys)).length ≤ _ by omega)
  omega
theorem rIAdd_n (ha : Lim w A c xs) (hb : Lim w B d ys) (hs : xs.length ≤ K) (ht : ys.length ≤ L) (hm : iv p xs = m) (hn : iv q ys = n) (h : m + n = s) (hK : K < 70368744177664) (hL : L < 70368744177664) :
    Calls Try.prog 83 #[.agg #[.bool p, .slice A xs.length c], .agg #[.bool q, .slice B ys.length d]] w (RetInt w s) := by
  have k := rIAdd_c p q A B xs ys c d w ha hb (by omega) (by omega) (sum_len ha.lb hb.lb hs ht hK hL)
  rw [hm, hn, h] at k; exact k
theorem rISub_n (ha : Lim w A c xs) (hb : Lim w B d ys) (hs : xs.length ≤ K) (ht : ys.length ≤ L) (hm : iv p xs = m) (hn : iv q ys = n) (h : m - n = s) (hK : K < 70368744177664) (hL : L < 70368744177664) :
    Calls Try.prog 109 #[.agg #[.bool p, .slice A xs.length c], .agg #[.bool q, .slice B ys.length d]] w (RetInt w s) := by
  have k := rISub_c p q A B xs ys c d w ha hb (by omega) (by omega) (sum_len ha.lb hb.lb hs ht hK hL)
  rw [hm, hn, h] at k; exact k
theorem rIMul_n (ha : Lim w A c xs) (hb : Lim w B d ys) (hs : xs.length ≤ K) (ht : ys.length ≤ L) (hm : iv p xs = m) (hn : iv q ys = n) (h : m * n = s) (hK : K + L ≤ 70368744177664) :
    Calls Try.prog 54 #[.agg #[.bool p, .slice A xs.length c], .agg #[.bool q, .slice B ys.length d]] w (RetInt w s) := by
  have h1 := limbs_mul_le (val xs) (val ys)
  have h2 := limbs_length_le ha.lb
  have h3 := limbs_length_le hb.lb
  have k := rIMul_c p q A B xs ys c d w ha hb (by omega) (by omega)
  rw [hm, hn, h] at k; exact k
end
theorem IAbs_n (p : Bool) (A : Option Addr) (xs : List Nat) (c : Nat) (w : World) (m s : Int) (K : Nat) (ha : Lim w A c xs) (hs : xs.length ≤ K) (hm : iv p xs = m) (h : ((m.natAbs : Nat) : Int) = s) (hK : K ≤ 70368744177664) :
    Calls Try.prog 36 #[.agg #[.bool p, .slice A xs.length c]] w (RetInt w s) := by
  have k := IAbs_c p A xs c w ha (by omega)
  rw [← h, ← hm, iv_natAbs]; exact k
theorem rAbs_n (p : Bool) (A : Option Addr) (xs : List Nat) (c : Nat) (w : World) (m s : Int) (K : Nat) (ha : Lim w A c xs) (hs : xs.length ≤ K) (hm : iv p xs = m) (h : ((m.natAbs : Nat) : Int) = s) (hK : K ≤ 70368744177664) :
    Calls Try.prog 85 #[.agg #[.bool p, .slice A xs.length c]] w (RetInt w s) := by
  have k := rAbs_c p A xs c w ha (by omega)
  rw [← h, ← hm, iv_natAbs]; exact k
theorem iabs_sz {m s : Int} {k : Nat} (hm : (limbs m.natAbs).length ≤ k) (h : ((m.natAbs : Nat) : Int) = s) : (limbs s.natAbs).length ≤ k := by
  subst h; simpa using hm
theorem INorm_n (p : Bool) (A : Option Addr) (xs : List Nat) (c : Nat) (w : World) (s : Int) (K : Nat) (ha : Lim w A c xs) (hs : xs.length ≤ K) (hm : iv p xs = s) (hK : K ≤ 70368744177664) :
    Calls Try.prog 34 #[.agg #[.bool p, .slice A xs.length c]] w (RetInt w s) := by
  have k := INorm_c p A xs c w ha (by omega)
  rw [hm] at k; exact k
end Go.Proofs.Ytkpchamgghhihaa
