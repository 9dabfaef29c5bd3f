/- Contracts of package integer: products, negation, absolute value, canonical form. -/
import Derived.Test.YtkpchamgghhihaaNatF
import Derived.Test.YtkpchamgghhihaaIntC
namespace Go.Proofs.Ytkpchamgghhihaa
open Go.RowKit Gm

theorem mkI_mul (p q : Bool) (a b : Nat) : mkI p a * mkI q b = mkI (p != q) (a * b) := by
  unfold mkI; cases p <;> cases q <;> simp <;> grind

set_option maxHeartbeats 1000000 in
theorem IMul_c (p q : Bool) (A B : Option Addr) (xs ys : List Nat) (c d : Nat) (w : World) (ha : Lim w A c xs) (hb : Lim w B d ys) (hs : xs.length + ys.length ≤ 70368744177664) :
    Calls Try.prog 25 #[.agg #[.bool p, .slice A xs.length c], .agg #[.bool q, .slice B ys.length d]] w (RetInt w (iv p xs * iv q ys)) := by
  go_enter Try.func25, Try.ntmps25
  go_wp2_with fail
  obtain ⟨W, hW, hbW, hsz, k, kr⟩ := three_boxes w p q (.slice A xs.length c) (.slice B ys.length d)
  rw [hW]
  clear hW
  have hz : w.heap.size + 3 ≤ W.heap.size := by omega
  clear hsz
  obtain ⟨k1, k2, k3, k4⟩ := k
  go_wp2_with fail
  go_region_held3 (fun w' => w'.cell? ⟨w.heap.size, 0, none⟩ = some (.bool p) ∧ w'.cell? ⟨w.heap.size, 1, none⟩ = some (.slice A xs.length c) ∧ w'.cell? ⟨w.heap.size + 1, 0, none⟩ = some (.bool q) ∧ w'.cell? ⟨w.heap.size + 1, 1, none⟩ = some (.slice B ys.length d))
    (first | exact l1 | exact l2 | exact keep2 (below_put2 (Below.refl (w.heap.size + 1 + 1) w2) (Nat.le_refl _) _ _) (Nat.le_refl _) l2 | go_keep)
    (first
      | (go_at_call 20; refine (Mul_c A B xs ys c d _ ?_ ?_ hs).mono ?_; exact ha.below (below_drewN hbW 1); exact hb.below (below_drewN hbW 1); rintro e w1 ⟨A1, c1, rfl, r3, bw1⟩; have l1 := keep2 bw1 (show w.heap.size + 2 ≤ W.heap.size by omega) ⟨k1, k2, k3, k4⟩)
      | (go_at_call 76; refine (signed_c (p != q) A1 _ c1 _).mono ?_; rintro e w2 ⟨rfl, bw2⟩; have l2 := keep2 bw2 (Nat.le_trans (show w.heap.size + 2 ≤ W.heap.size by omega) bw1.size) l1; obtain ⟨m1, m2, m3, m4⟩ := keepR (N := w.heap.size + 1 + 1) bw2 (Nat.lt_of_lt_of_le (show w.heap.size + 1 + 1 < W.heap.size by omega) bw1.size) (keepR bw1 (show w.heap.size + 1 + 1 < W.heap.size by omega) kr)))
  have hbw : Below w.heap.size w w2 := ((below_drewN hbW 1).trans (bw1.mono (show w.heap.size ≤ W.heap.size by omega))).trans (bw2.mono (Nat.le_trans (show w.heap.size ≤ W.heap.size by omega) bw1.size))
  have hown := ((r3.below bw2).put2 (N := w.heap.size + 1 + 1) (show w.heap.size + 1 + 1 < W.heap.size by omega) (.bool ((p != q) && decide (0 < (limbs (val xs * val ys)).length))) (.slice A1 (limbs (val xs * val ys)).length c1)).mono (show w.heap.size ≤ W.heap.size by omega)
  have hret := ret_signed (mkI_mul p q (val xs) (val ys)) hown (below_put2 hbw (by omega) _ _)
  clear hown hbw r3 bw1 bw2 hbW kr l1 l2 k1 k2 k3 k4
  go_wp2
  exact bodyPost_ret (v := .agg #[.bool ((p != q) && decide (0 < (limbs (val xs * val ys)).length)), .slice A1 (limbs (val xs * val ys)).length c1]) (by simp [results, Try.results25, go_sem, m1, m2]) rfl hret

/-- a boxed integer and the box of the result -/
theorem boxes_ar (w : World) (p : Bool) (u : Value) :
    ∃ W, (w.alloc (.cells #[.bool p, u] 38)).alloc (.cells #[.bool false, .slice none 0 0] 38) = W ∧ Below w.heap.size w W ∧ W.heap.size = w.heap.size + 2 ∧
      (W.cell? ⟨w.heap.size, 0, none⟩ = some (.bool p) ∧ W.cell? ⟨w.heap.size, 1, none⟩ = some u) ∧
      (W.cell? ⟨w.heap.size + 1, 0, none⟩ = some (.bool false) ∧ W.cell? ⟨w.heap.size + 1, 1, none⟩ = some (.slice none 0 0) ∧ W.frozen? ⟨w.heap.size + 1, 0, none⟩ = false ∧ W.frozen? ⟨w.heap.size + 1, 1, none⟩ = false) := by
  refine ⟨_, rfl, ((Below.refl _ _).alloc (Nat.le_refl _) _).alloc (by simp) _, by simp, ?_, ?_⟩
  · refine ⟨?_, ?_⟩ <;> go_simp
  · refine ⟨?_, ?_, ?_, ?_⟩ <;> go_simp
theorem keep1 {B N : Nat} {W w1 : World} {u v : Value} (hb : Below B W w1) (hB : N < B)
    (h : W.cell? ⟨N, 0, none⟩ = some u ∧ W.cell? ⟨N, 1, none⟩ = some v) : w1.cell? ⟨N, 0, none⟩ = some u ∧ w1.cell? ⟨N, 1, none⟩ = some v :=
  ⟨(hb.cell (p := ⟨N, 0, none⟩) hB).trans h.1, (hb.cell (p := ⟨N, 1, none⟩) hB).trans h.2⟩

set_option maxHeartbeats 1000000 in
theorem INorm_c (p : Bool) (A : Option Addr) (xs : List Nat) (c : Nat) (w : World) (ha : Lim w A c xs) (hs : xs.length ≤ 70368744177664) :
    Calls Try.prog 34 #[.agg #[.bool p, .slice A xs.length c]] w (RetInt w (iv p xs)) := by
  go_enter Try.func34, Try.ntmps34
  go_wp2_with fail
  obtain ⟨W, hW, hbW, hsz, k, kr⟩ := boxes_ar w p (.slice A xs.length c)
  rw [hW]
  clear hW
  have hz : w.heap.size + 2 ≤ W.heap.size := by omega
  clear hsz
  obtain ⟨k1, k2⟩ := k
  go_region_held3 (fun w' => w'.cell? ⟨w.heap.size, 0, none⟩ = some (.bool p) ∧ w'.cell? ⟨w.heap.size, 1, none⟩ = some (.slice A xs.length c))
    (first | exact l1 | exact l2 | exact keep1 (below_put2 (Below.refl (w.heap.size + 1) w2) (Nat.le_refl _) _ _) (Nat.lt_succ_self _) l2 | go_keep)
    (first
      | (go_at_call 18; refine (Trim_c A xs c _ ?_ hs).mono ?_; exact ha.below (below_drewN hbW 1); rintro e w1 ⟨A1, c1, rfl, r3, bw1⟩; have l1 := keep1 bw1 (show w.heap.size < W.heap.size by omega) ⟨k1, k2⟩)
      | (go_at_call 76; refine (signed_c p A1 _ c1 _).mono ?_; rintro e w2 ⟨rfl, bw2⟩; have l2 := keep1 bw2 (Nat.lt_of_lt_of_le (show w.heap.size < W.heap.size by omega) bw1.size) l1; obtain ⟨m1, m2, m3, m4⟩ := keepR (N := w.heap.size + 1) bw2 (Nat.lt_of_lt_of_le (show w.heap.size + 1 < W.heap.size by omega) bw1.size) (keepR bw1 (show w.heap.size + 1 < W.heap.size by omega) kr)))
  have hbw : Below w.heap.size w w2 := ((below_drewN hbW 1).trans (bw1.mono (show w.heap.size ≤ W.heap.size by omega))).trans (bw2.mono (Nat.le_trans (show w.heap.size ≤ W.heap.size by omega) bw1.size))
  have hown := ((r3.below bw2).put2 (N := w.heap.size + 1) (show w.heap.size + 1 < W.heap.size by omega) (.bool (p && decide (0 < (limbs (val xs)).length))) (.slice A1 (limbs (val xs)).length c1)).mono (show w.heap.size ≤ W.heap.size by omega)
  have hret := ret_signed (n := iv p xs) rfl hown (below_put2 hbw (by omega) _ _)
  clear hown hbw r3 bw1 bw2 hbW kr l1 l2 k1 k2
  go_wp2
  exact bodyPost_ret (v := .agg #[.bool (p && decide (0 < (limbs (val xs)).length)), .slice A1 (limbs (val xs)).length c1]) (by simp [results, Try.results34, go_sem, m1, m2]) rfl hret

set_option maxHeartbeats 1000000 in
theorem INeg_c (p : Bool) (A : Option Addr) (xs : List Nat) (c : Nat) (w : World) (ha : Lim w A c xs) (hs : xs.length ≤ 70368744177664) :
    Calls Try.prog 35 #[.agg #[.bool p, .slice A xs.length c]] w (RetInt w (- iv p xs)) := by
  go_enter Try.func35, Try.ntmps35
  go_wp2_with fail
  obtain ⟨W, hW, hbW, hsz, k, kr⟩ := boxes_ar w p (.slice A xs.length c)
  rw [hW]
  clear hW
  have hz : w.heap.size + 2 ≤ W.heap.size := by omega
  clear hsz
  obtain ⟨k1, k2⟩ := k
  go_region_held3 (fun w' => w'.cell? ⟨w.heap.size, 0, none⟩ = some (.bool p) ∧ w'.cell? ⟨w.heap.size, 1, none⟩ = some (.slice A xs.length c))
    (first | exact l1 | exact l2 | exact keep1 (below_put2 (Below.refl (w.heap.size + 1) w2) (Nat.le_refl _) _ _) (Nat.lt_succ_self _) l2 | go_keep)
    (first
      | (go_at_call 18; refine (Trim_c A xs c _ ?_ hs).mono ?_; exact ha.below (below_drewN hbW 1); rintro e w1 ⟨A1, c1, rfl, r3, bw1⟩; have l1 := keep1 bw1 (show w.heap.size < W.heap.size by omega) ⟨k1, k2⟩)
      | (go_at_call 76; refine (signed_c (!p) A1 _ c1 _).mono ?_; rintro e w2 ⟨rfl, bw2⟩; have l2 := keep1 bw2 (Nat.lt_of_lt_of_le (show w.heap.size < W.heap.size by omega) bw1.size) l1; obtain ⟨m1, m2, m3, m4⟩ := keepR (N := w.heap.size + 1) bw2 (Nat.lt_of_lt_of_le (show w.heap.size + 1 < W.heap.size by omega) bw1.size) (keepR bw1 (show w.heap.size + 1 < W.heap.size by omega) kr)))
  have hbw : Below w.heap.size w w2 := ((below_drewN hbW 1).trans (bw1.mono (show w.heap.size ≤ W.heap.size by omega))).trans (bw2.mono (Nat.le_trans (show w.heap.size ≤ W.heap.size by omega) bw1.size))
  have hown := ((r3.below bw2).put2 (N := w.heap.size + 1) (show w.heap.size + 1 < W.heap.size by omega) (.bool (!p && decide (0 < (limbs (val xs)).length))) (.slice A1 (limbs (val xs)).length c1)).mono (show w.heap.size ≤ W.heap.size by omega)
  have hret := ret_signed (n := - iv p xs) (iv_not p xs).symm hown (below_put2 hbw (by omega) _ _)
  clear hown hbw r3 bw1 bw2 hbW kr l1 l2 k1 k2
  go_wp2
  exact bodyPost_ret (v := .agg #[.bool (!p && decide (0 < (limbs (val xs)).length)), .slice A1 (limbs (val xs)).length c1]) (by simp [results, Try.results35, go_sem, m1, m2]) rfl hret

set_option maxHeartbeats 1000000 in
theorem IAbs_c (p : Bool) (A : Option Addr) (xs : List Nat) (c : Nat) (w : World) (ha : Lim w A c xs) (hs : xs.length ≤ 70368744177664) :
    Calls Try.prog 36 #[.agg #[.bool p, .slice A xs.length c]] w (RetInt w (val xs : Nat)) := by
  go_enter Try.func36, Try.ntmps36
  go_wp2_with fail
  obtain ⟨W, hW, hbW, hsz, k, kr⟩ := boxes_ar w p (.slice A xs.length c)
  rw [hW]
  clear hW
  have hz : w.heap.size + 2 ≤ W.heap.size := by omega
  clear hsz
  refine (Trim_c A xs c _ (ha.below hbW) hs).mono ?_
  rintro e w1 ⟨A1, c1, rfl, r3, bw1⟩
  go_wp2_with fail
  refine (signed_c false A1 _ c1 _).mono ?_
  rintro e w2 ⟨rfl, bw2⟩
  obtain ⟨m1, m2, m3, m4⟩ := keepR (N := w.heap.size + 1) bw2 (Nat.lt_of_lt_of_le (show w.heap.size + 1 < W.heap.size by omega) bw1.size) (keepR bw1 (show w.heap.size + 1 < W.heap.size by omega) kr)
  have hbw : Below w.heap.size w w2 := (hbW.trans (bw1.mono (show w.heap.size ≤ W.heap.size by omega))).trans (bw2.mono (Nat.le_trans (show w.heap.size ≤ W.heap.size by omega) bw1.size))
  have hown := ((r3.below bw2).put2 (N := w.heap.size + 1) (show w.heap.size + 1 < W.heap.size by omega) (.bool (false && decide (0 < (limbs (val xs)).length))) (.slice A1 (limbs (val xs)).length c1)).mono (show w.heap.size ≤ W.heap.size by omega)
  have hret := ret_signed (p := false) (n := ((val xs : Nat) : Int)) rfl hown (below_put2 hbw (by omega) _ _)
  rw [Bool.false_and] at hret ⊢
  clear hown hbw r3 bw1 bw2 hbW kr k
  go_wp2
  exact bodyPost_ret (v := .agg #[.bool false, .slice A1 (limbs (val xs)).length c1]) (by simp [results, Try.results36, go_sem, m1, m2]) rfl hret

end Go.Proofs.Ytkpchamgghhihaa
