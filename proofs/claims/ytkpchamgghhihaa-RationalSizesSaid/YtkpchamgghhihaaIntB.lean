/- Contracts of package integer: sums and differences. -/
import Derived.Test.YtkpchamgghhihaaIntA
namespace Go.Proofs.Ytkpchamgghhihaa
open Go.RowKit Gm

/-- two boxed integers and the box of the result -/
theorem three_boxes (w : World) (p q : Bool) (u v : Value) :
    ∃ W, ((w.alloc (.cells #[.bool p, u] 38)).alloc (.cells #[.bool q, v] 38)).alloc (.cells #[.bool false, .slice none 0 0] 38) = W ∧ Below w.heap.size w W ∧ W.heap.size = w.heap.size + 3 ∧
      (W.cell? ⟨w.heap.size, 0, none⟩ = some (.bool p) ∧ W.cell? ⟨w.heap.size, 1, none⟩ = some u ∧ W.cell? ⟨w.heap.size + 1, 0, none⟩ = some (.bool q) ∧ W.cell? ⟨w.heap.size + 1, 1, none⟩ = some v) ∧
      (W.cell? ⟨w.heap.size + 1 + 1, 0, none⟩ = some (.bool false) ∧ W.cell? ⟨w.heap.size + 1 + 1, 1, none⟩ = some (.slice none 0 0) ∧ W.frozen? ⟨w.heap.size + 1 + 1, 0, none⟩ = false ∧ W.frozen? ⟨w.heap.size + 1 + 1, 1, none⟩ = false) := by
  refine ⟨_, rfl, (((Below.refl _ _).alloc (Nat.le_refl _) _).alloc (by simp) _).alloc (by simp; omega) _, by simp, ?_, ?_⟩
  · refine ⟨?_, ?_, ?_, ?_⟩ <;> go_simp
  · refine ⟨?_, ?_, ?_, ?_⟩ <;> go_simp
theorem keepR {B N : Nat} {W w1 : World} {x y : Value} (hb : Below B W w1) (hB : N < B)
    (h : W.cell? ⟨N, 0, none⟩ = some x ∧ W.cell? ⟨N, 1, none⟩ = some y ∧ W.frozen? ⟨N, 0, none⟩ = false ∧ W.frozen? ⟨N, 1, none⟩ = false) :
    w1.cell? ⟨N, 0, none⟩ = some x ∧ w1.cell? ⟨N, 1, none⟩ = some y ∧ w1.frozen? ⟨N, 0, none⟩ = false ∧ w1.frozen? ⟨N, 1, none⟩ = false :=
  ⟨(hb.cell (p := ⟨N, 0, none⟩) hB).trans h.1, (hb.cell (p := ⟨N, 1, none⟩) hB).trans h.2.1, (hb.frozen (p := ⟨N, 0, none⟩) hB).trans h.2.2.1, (hb.frozen (p := ⟨N, 1, none⟩) hB).trans h.2.2.2⟩

/-- the integer with a sign and a magnitude -/
def mkI (p : Bool) (m : Nat) : Int := if p then -(m : Int) else (m : Int)
theorem iv_eq (p : Bool) (xs : List Nat) : iv p xs = mkI p (val xs) := rfl
theorem mkI_natAbs (p : Bool) (m : Nat) : (mkI p m).natAbs = m := by unfold mkI; cases p <;> simp
theorem mkI_neg (p : Bool) (m : Nat) : decide (mkI p m < 0) = (p && decide (0 < (limbs m).length)) := by
  have h : 0 < (limbs m).length ↔ m ≠ 0 := by
    constructor
    · intro h h0; subst h0; rw [limbs_zero] at h; simp at h
    · intro h; exact List.length_pos_iff.2 (fun e => h (limbs_eq_nil.1 e))
  unfold mkI
  rw [Bool.eq_iff_iff]
  cases p <;> simp <;> first | omega | (rw [← List.length_pos_iff, h]; omega)
theorem mkI_add (p : Bool) (a b : Nat) : mkI p a + mkI p b = mkI p (a + b) := by unfold mkI; cases p <;> simp <;> omega
theorem mkI_sub (p : Bool) {a b : Nat} (h : b ≤ a) : mkI p a + mkI (!p) b = mkI p (a - b) := by unfold mkI; cases p <;> simp <;> omega
theorem mkI_sub' (p : Bool) {a b : Nat} (h : a ≤ b) : mkI p a + mkI (!p) b = mkI (!p) (b - a) := by unfold mkI; cases p <;> simp <;> omega

theorem ret_signed {w w' : World} {p : Bool} {m : Nat} {n : Int} {A : Option Addr} {c : Nat} (h : n = mkI p m) (ho : Own w.heap.size w' A c (limbs m)) (hb : Below w.heap.size w w') :
    RetInt w n (.returned (.agg #[.bool (p && decide (0 < (limbs m).length)), .slice A (limbs m).length c])) w' := by
  subst h
  refine ⟨A, c, ?_, ?_, hb⟩ <;> rw [mkI_natAbs]
  · rw [mkI_neg]
  · exact ho

theorem below_put2 {B N : Nat} {a w : World} (h : Below B a w) (hN : B ≤ N) (u v : Value) : Below B a ((w.setCell ⟨N, 0, none⟩ u).setCell ⟨N, 1, none⟩ v) :=
  (h.setCell (p := ⟨N, 0, none⟩) hN u).setCell (p := ⟨N, 1, none⟩) hN v
/-- the box of the result written: nothing else has turned -/
theorem Own.put2 {lo N : Nat} {w : World} {A : Option Addr} {c : Nat} {xs : List Nat} (h : Own lo w A c xs) (hN : N < lo) (u v : Value) : Own lo ((w.setCell ⟨N, 0, none⟩ u).setCell ⟨N, 1, none⟩ v) A c xs :=
  ⟨h.lb, h.cap, h.max, fun h0 => by
    obtain ⟨b, off, e, hl, hlt, hc⟩ := h.cells h0
    refine ⟨b, off, e, hl, by simpa [World.setCell] using hlt, fun k hk => ?_⟩
    have hne : b ≠ N := by omega
    have f : ((w.setCell ⟨N, 0, none⟩ u).setCell ⟨N, 1, none⟩ v).heap[b]? = w.heap[b]? := (Below.heap_setCell _ ⟨N, 1, none⟩ v b hne).trans (Below.heap_setCell w ⟨N, 0, none⟩ u b hne)
    refine ⟨(World.cell?_of_block (a := ⟨b, off + k, none⟩) f).trans (hc k hk).1, ?_⟩
    rw [← (hc k hk).2]
    unfold World.frozen?
    rw [show (Addr.mk b (off + k) none).block = b from rfl, f]⟩

set_option maxHeartbeats 1000000 in
theorem IAdd_same (p : Bool) (A B : Option Addr) (xs ys : List Nat) (c d : Nat) (w : World) (ha : Lim w A c xs) (hb : Lim w B d ys)
    (hs : xs.length < 70368744177664) (ht : ys.length < 70368744177664) :
    Calls Try.prog 37 #[.agg #[.bool p, .slice A xs.length c], .agg #[.bool p, .slice B ys.length d]] w (RetInt w (iv p xs + iv p ys)) := by
  have hpp : (p == p) = true := by simp
  go_enter Try.func37, Try.ntmps37
  go_wp2_with fail
  obtain ⟨W, hW, hbW, hsz, k, kr⟩ := three_boxes w p p (.slice A xs.length c) (.slice B ys.length d)
  rw [hW]
  clear hW
  have hz : w.heap.size + 3 ≤ W.heap.size := by omega
  clear hsz
  obtain ⟨k1, k2, k3, k4⟩ := k
  go_wp2_with fail
  go_region_held3 (fun w' => w'.cell? ⟨w.heap.size, 0, none⟩ = some (.bool p) ∧ w'.cell? ⟨w.heap.size, 1, none⟩ = some (.slice A xs.length c) ∧ w'.cell? ⟨w.heap.size + 1, 0, none⟩ = some (.bool p) ∧ w'.cell? ⟨w.heap.size + 1, 1, none⟩ = some (.slice B ys.length d))
    (first | exact l1 | exact l2 | exact keep2 (below_put2 (Below.refl (w.heap.size + 1 + 1) w2) (Nat.le_refl _) _ _) (Nat.le_refl _) l2 | go_keep)
    (first
      | (go_at_call 19; refine (Add_c A B xs ys c d _ ?_ ?_ hs ht).mono ?_; exact ha.below (below_drewN hbW 1); exact hb.below (below_drewN hbW 1); rintro e w1 ⟨A1, c1, rfl, r3, bw1⟩; have l1 := keep2 bw1 (show w.heap.size + 2 ≤ W.heap.size by omega) ⟨k1, k2, k3, k4⟩)
      | (go_at_call 76; refine (signed_c p A1 _ c1 _).mono ?_; rintro e w2 ⟨rfl, bw2⟩; have l2 := keep2 bw2 (Nat.le_trans (show w.heap.size + 2 ≤ W.heap.size by omega) bw1.size) l1; obtain ⟨m1, m2, m3, m4⟩ := keepR (N := w.heap.size + 1 + 1) bw2 (Nat.lt_of_lt_of_le (show w.heap.size + 1 + 1 < W.heap.size by omega) bw1.size) (keepR bw1 (show w.heap.size + 1 + 1 < W.heap.size by omega) kr)))
  have hbw : Below w.heap.size w w2 := ((below_drewN hbW 1).trans (bw1.mono (show w.heap.size ≤ W.heap.size by omega))).trans (bw2.mono (Nat.le_trans (show w.heap.size ≤ W.heap.size by omega) bw1.size))
  have hown := ((r3.below bw2).put2 (N := w.heap.size + 1 + 1) (show w.heap.size + 1 + 1 < W.heap.size by omega) (.bool (p && decide (0 < (limbs (val xs + val ys)).length))) (.slice A1 (limbs (val xs + val ys)).length c1)).mono (show w.heap.size ≤ W.heap.size by omega)
  have hret := ret_signed (mkI_add p (val xs) (val ys)) hown (below_put2 hbw (by omega) _ _)
  clear hown hbw r3 bw1 bw2 hbW kr l1 l2 k1 k2 k3 k4
  go_wp2
  exact bodyPost_ret (v := .agg #[.bool (p && decide (0 < (limbs (val xs + val ys)).length)), .slice A1 (limbs (val xs + val ys)).length c1]) (by simp [results, Try.results37, go_sem, m1, m2]) rfl hret


set_option maxHeartbeats 1000000 in
theorem IAdd_ge (p : Bool) (A B : Option Addr) (xs ys : List Nat) (c d : Nat) (w : World) (ha : Lim w A c xs) (hb : Lim w B d ys) (hs : xs.length ≤ 70368744177664) (hge : val ys ≤ val xs) :
    Calls Try.prog 37 #[.agg #[.bool p, .slice A xs.length c], .agg #[.bool (!p), .slice B ys.length d]] w (RetInt w (iv p xs + iv (!p) ys)) := by
  have hpp : (p == !p) = false := by cases p <;> rfl
  go_enter Try.func37, Try.ntmps37
  go_wp2_with fail
  obtain ⟨W, hW, hbW, hsz, k, kr⟩ := three_boxes w p (!p) (.slice A xs.length c) (.slice B ys.length d)
  rw [hW]
  clear hW
  have hz : w.heap.size + 3 ≤ W.heap.size := by omega
  clear hsz
  obtain ⟨k1, k2, k3, k4⟩ := k
  go_wp2_with fail
  refine (Sub_ok A B xs ys c d _ (ha.below hbW) (hb.below hbW) hs hge).mono ?_
  rintro e w1 ⟨A1, c1, rfl, r3, bw1⟩
  obtain ⟨l1, l2, l3, l4⟩ := keep2 bw1 (show w.heap.size + 2 ≤ W.heap.size by omega) ⟨k1, k2, k3, k4⟩
  go_wp2_with fail
  refine (signed_c p A1 _ c1 _).mono ?_
  rintro e w2 ⟨rfl, bw2⟩
  obtain ⟨m1, m2, m3, m4⟩ := keepR (N := w.heap.size + 1 + 1) bw2 (Nat.lt_of_lt_of_le (show w.heap.size + 1 + 1 < W.heap.size by omega) bw1.size) (keepR bw1 (show w.heap.size + 1 + 1 < W.heap.size by omega) kr)
  have hbw : Below w.heap.size w w2 := (hbW.trans (bw1.mono (show w.heap.size ≤ W.heap.size by omega))).trans (bw2.mono (Nat.le_trans (show w.heap.size ≤ W.heap.size by omega) bw1.size))
  have hown := ((r3.below bw2).put2 (N := w.heap.size + 1 + 1) (show w.heap.size + 1 + 1 < W.heap.size by omega) (.bool (p && decide (0 < (limbs (val xs - val ys)).length))) (.slice A1 (limbs (val xs - val ys)).length c1)).mono (show w.heap.size ≤ W.heap.size by omega)
  have hret := ret_signed (mkI_sub p hge) hown (below_put2 hbw (by omega) _ _)
  clear hown hbw r3 bw1 bw2 hbW kr l1 l2 l3 l4 k1 k2 k3 k4
  go_wp2
  exact bodyPost_ret (v := .agg #[.bool (p && decide (0 < (limbs (val xs - val ys)).length)), .slice A1 (limbs (val xs - val ys)).length c1]) (by simp [results, Try.results37, go_sem, m1, m2]) rfl hret

set_option maxHeartbeats 1000000 in
theorem IAdd_lt (p : Bool) (A B : Option Addr) (xs ys : List Nat) (c d : Nat) (w : World) (ha : Lim w A c xs) (hb : Lim w B d ys) (ht : ys.length ≤ 70368744177664) (hlt : val xs < val ys) :
    Calls Try.prog 37 #[.agg #[.bool p, .slice A xs.length c], .agg #[.bool (!p), .slice B ys.length d]] w (RetInt w (iv p xs + iv (!p) ys)) := by
  have hpp : (p == !p) = false := by cases p <;> rfl
  go_enter Try.func37, Try.ntmps37
  go_wp2_with fail
  obtain ⟨W, hW, hbW, hsz, k, kr⟩ := three_boxes w p (!p) (.slice A xs.length c) (.slice B ys.length d)
  rw [hW]
  clear hW
  have hz : w.heap.size + 3 ≤ W.heap.size := by omega
  clear hsz
  obtain ⟨k1, k2, k3, k4⟩ := k
  go_wp2_with fail
  refine (Sub_no A B xs ys c d _ (ha.below hbW) (hb.below hbW) hlt).mono ?_
  rintro e w' ⟨rfl, n, rfl⟩
  go_wp2_with fail
  refine (Sub_ok B A ys xs d c _ (hb.below (below_drewN hbW n)) (ha.below (below_drewN hbW n)) ht (Nat.le_of_lt hlt)).mono ?_
  rintro e w1 ⟨A1, c1, rfl, r3, bw1⟩
  obtain ⟨l1, l2, l3, l4⟩ := keep2 bw1 (show w.heap.size + 2 ≤ W.heap.size by omega) ⟨k1, k2, k3, k4⟩
  go_wp2_with fail
  refine (signed_c (!p) A1 _ c1 _).mono ?_
  rintro e w2 ⟨rfl, bw2⟩
  obtain ⟨m1, m2, m3, m4⟩ := keepR (N := w.heap.size + 1 + 1) bw2 (Nat.lt_of_lt_of_le (show w.heap.size + 1 + 1 < W.heap.size by omega) bw1.size) (keepR bw1 (show w.heap.size + 1 + 1 < W.heap.size by omega) kr)
  have hbw : Below w.heap.size w w2 := ((below_drewN hbW n).trans (bw1.mono (show w.heap.size ≤ W.heap.size by omega))).trans (bw2.mono (Nat.le_trans (show w.heap.size ≤ W.heap.size by omega) bw1.size))
  have hown := ((r3.below bw2).put2 (N := w.heap.size + 1 + 1) (show w.heap.size + 1 + 1 < W.heap.size by omega) (.bool (!p && decide (0 < (limbs (val ys - val xs)).length))) (.slice A1 (limbs (val ys - val xs)).length c1)).mono (show w.heap.size ≤ W.heap.size by omega)
  have hret := ret_signed (mkI_sub' p (Nat.le_of_lt hlt)) hown (below_put2 hbw (by omega) _ _)
  clear hown hbw r3 bw1 bw2 hbW kr l1 l2 l3 l4 k1 k2 k3 k4
  go_wp2
  exact bodyPost_ret (v := .agg #[.bool (!p && decide (0 < (limbs (val ys - val xs)).length)), .slice A1 (limbs (val ys - val xs)).length c1]) (by simp [results, Try.results37, go_sem, m1, m2]) rfl hret

/-- the sum of integers -/
theorem IAdd_c (p q : Bool) (A B : Option Addr) (xs ys : List Nat) (c d : Nat) (w : World) (ha : Lim w A c xs) (hb : Lim w B d ys)
    (hs : xs.length < 70368744177664) (ht : ys.length < 70368744177664) :
    Calls Try.prog 37 #[.agg #[.bool p, .slice A xs.length c], .agg #[.bool q, .slice B ys.length d]] w (RetInt w (iv p xs + iv q ys)) := by
  by_cases h : p = q
  · subst h; exact IAdd_same p A B xs ys c d w ha hb hs ht
  · obtain rfl : q = !p := by cases p <;> cases q <;> simp_all
    rcases Nat.lt_or_ge (val xs) (val ys) with hl | hl
    · exact IAdd_lt p A B xs ys c d w ha hb (by omega) hl
    · exact IAdd_ge p A B xs ys c d w ha hb (by omega) hl

theorem iv_not (q : Bool) (ys : List Nat) : iv (!q) ys = - iv q ys := by unfold iv; cases q <;> simp

set_option maxHeartbeats 1000000 in
theorem ISub_c (p q : Bool) (A B : Option Addr) (xs ys : List Nat) (c d : Nat) (w : World) (ha : Lim w A c xs) (hb : Lim w B d ys)
    (hs : xs.length < 70368744177664) (ht : ys.length < 70368744177664) :
    Calls Try.prog 38 #[.agg #[.bool p, .slice A xs.length c], .agg #[.bool q, .slice B ys.length d]] w (RetInt w (iv p xs - iv q ys)) := by
  go_enter Try.func38, Try.ntmps38
  go_wp2_with fail
  obtain ⟨W, hW, hbW, hsz, k, kr⟩ := three_boxes w p (!q) (.slice A xs.length c) (.slice B ys.length d)
  rw [hW]
  clear hW
  have hz : w.heap.size + 3 ≤ W.heap.size := by omega
  clear hsz
  refine (IAdd_c p (!q) A B xs ys c d _ (ha.below hbW) (hb.below hbW) hs ht).mono ?_
  rintro e w1 ⟨A1, c1, rfl, r3, bw1⟩
  obtain ⟨m1, m2, m3, m4⟩ := keepR bw1 (show w.heap.size + 1 + 1 < W.heap.size by omega) kr
  have hret : RetInt w (iv p xs - iv q ys) (.returned (.agg #[.bool (decide (iv p xs + iv (!q) ys < 0)), .slice A1 (limbs (iv p xs + iv (!q) ys).natAbs).length c1]))
      ((w1.setCell ⟨w.heap.size + 1 + 1, 0, none⟩ (.bool (decide (iv p xs + iv (!q) ys < 0)))).setCell ⟨w.heap.size + 1 + 1, 1, none⟩ (.slice A1 (limbs (iv p xs + iv (!q) ys).natAbs).length c1)) := by
    rw [Int.sub_eq_add_neg, ← iv_not]
    exact ⟨A1, c1, rfl, (r3.put2 (show w.heap.size + 1 + 1 < W.heap.size by omega) _ _).mono (show w.heap.size ≤ W.heap.size by omega), below_put2 (hbW.trans (bw1.mono (show w.heap.size ≤ W.heap.size by omega))) (by omega) _ _⟩
  clear r3 bw1 hbW kr k
  generalize iv p xs + iv (!q) ys = z at *
  go_wp2
  exact bodyPost_ret (v := .agg #[.bool (decide (z < 0)), .slice A1 (limbs z.natAbs).length c1]) (by simp [results, Try.results38, go_sem, m1, m2]) rfl hret

end Go.Proofs.Ytkpchamgghhihaa
