/- Contracts of package integer: sign, comparison. -/
import Derived.Test.YtkpchamgghhihaaNatE
namespace Go.Proofs.Ytkpchamgghhihaa
open Go.RowKit Gm

/-- the integer with a sign and limbs -/
def iv (neg : Bool) (xs : List Nat) : Int := if neg then -(val xs : Int) else (val xs : Int)

/-- what a function that computes an integer returns: the canonical form, in new memory -/
def RetInt (w : World) (n : Int) (e : Ending) (w' : World) : Prop :=
  ∃ A c, e = .returned (.agg #[.bool (decide (n < 0)), .slice A (limbs n.natAbs).length c]) ∧ Own w.heap.size w' A c (limbs n.natAbs) ∧ Below w.heap.size w w'
/-- what a function returns that only looks: a number of the language -/
def RetI (w : World) (n : Int) (e : Ending) (w' : World) : Prop := e = .returned (.int .i64 n) ∧ Below w.heap.size w w'

/-- the sign of an integer -/
def sgn (n : Int) : Int := if n < 0 then -1 else if 0 < n then 1 else 0
/-- the comparison of integers -/
def cmpI (m n : Int) : Int := if m < n then -1 else if n < m then 1 else 0

set_option maxHeartbeats 400000 in
theorem signed_c (neg : Bool) (A : Option Addr) (n c : Nat) (w : World) :
    Calls Try.prog 76 #[.bool neg, .slice A n c] w fun e w' => e = .returned (.agg #[.bool (neg && decide (0 < n)), .slice A n c]) ∧ Below w.heap.size w w' := by
  cases neg
  · go_enter Try.func76, Try.ntmps76
    go_wp2
    exact bodyPost_ret (v := .agg #[.bool false, .slice A n c]) (by simp [results, Try.results76, go_sem]) rfl ⟨rfl, (Below.refl _ _).alloc (Nat.le_refl _) _⟩
  · by_cases h : 0 < n
    · go_enter Try.func76, Try.ntmps76
      go_wp2
      exact bodyPost_ret (v := .agg #[.bool true, .slice A n c]) (by simp [results, Try.results76, go_sem]) rfl ⟨by simp [h], (Below.refl _ _).alloc (Nat.le_refl _) _⟩
    · have h' : ¬ (0 : Int) < (n : Int) := by omega
      go_enter Try.func76, Try.ntmps76
      go_wp2
      all_goals exact bodyPost_ret (v := .agg #[.bool false, .slice A n c]) (by simp [results, Try.results76, go_sem]) rfl ⟨by simp, (Below.refl _ _).alloc (Nat.le_refl _) _⟩

set_option maxHeartbeats 400000 in
theorem Sign_c (neg : Bool) (A : Option Addr) (xs : List Nat) (c : Nat) (w : World) (h : Lim w A c xs) :
    Calls Try.prog 28 #[.agg #[.bool neg, .slice A xs.length c]] w (RetI w (sgn (iv neg xs))) := by
  have hb1 : Below w.heap.size w (w.alloc (.cells #[.bool neg, .slice A xs.length c] 38)) := (Below.refl _ _).alloc (Nat.le_refl _) _
  have hs : sgn (iv neg xs) = if val xs = 0 then 0 else if neg then -1 else 1 := by
    unfold sgn iv
    cases neg <;> simp <;> (split <;> (try split) <;> (try split) <;> omega)
  have HS := Lib.hid hs
  clear hs
  have hv0 : val ([] : List Nat) = 0 := rfl
  rcases Nat.eq_zero_or_pos (val xs) with h0 | h0
  · have ec : cmpN (val xs) (val []) = 0 := cmpN_eq (by rw [h0, hv0])
    have EC := Lib.hid ec
    have H0 := Lib.hid h0
    clear ec h0 hv0
    go_enter Try.func28, Try.ntmps28
    go_wp2_with fail
    refine (Compare_c A none xs [] c 0 _ (h.below hb1) (Lim.nil _ _)).mono ?_
    rintro e w' ⟨rfl, n, rfl⟩
    rw [EC.out]
    go_wp2
    go_ret
    exact ⟨by rw [HS.out, if_pos H0.out]; rfl, below_drewN hb1 n⟩
  · have ec : cmpN (val xs) (val []) = 1 := cmpN_gt (by rw [hv0]; exact h0)
    have EC := Lib.hid ec
    clear ec hv0
    cases neg
    · go_enter Try.func28, Try.ntmps28
      go_wp2_with fail
      refine (Compare_c A none xs [] c 0 _ (h.below hb1) (Lim.nil _ _)).mono ?_
      rintro e w' ⟨rfl, n, rfl⟩
      rw [EC.out]
      go_wp2
      go_ret
      exact ⟨by rw [HS.out, if_neg (by omega)]; rfl, below_drewN hb1 n⟩
    · go_enter Try.func28, Try.ntmps28
      go_wp2_with fail
      refine (Compare_c A none xs [] c 0 _ (h.below hb1) (Lim.nil _ _)).mono ?_
      rintro e w' ⟨rfl, n, rfl⟩
      rw [EC.out]
      go_wp2
      go_ret
      exact ⟨by rw [HS.out, if_neg (by omega)]; rfl, below_drewN hb1 n⟩


/-- two boxed integers -/
theorem two_boxes (w : World) (p q : Bool) (u v : Value) :
    ∃ W, (w.alloc (.cells #[.bool p, u] 38)).alloc (.cells #[.bool q, v] 38) = W ∧ Below w.heap.size w W ∧ W.heap.size = w.heap.size + 2 ∧
      W.cell? ⟨w.heap.size, 0, none⟩ = some (.bool p) ∧ W.cell? ⟨w.heap.size, 1, none⟩ = some u ∧ W.cell? ⟨w.heap.size + 1, 0, none⟩ = some (.bool q) ∧ W.cell? ⟨w.heap.size + 1, 1, none⟩ = some v :=
  ⟨_, rfl, ((Below.refl _ _).alloc (Nat.le_refl _) _).alloc (by simp) _, by simp, by simp, by simp, by simp, by simp⟩
theorem keep2 {B N : Nat} {W w1 : World} {p q : Bool} {u v : Value} (hb : Below B W w1) (hB : N + 2 ≤ B)
    (h : W.cell? ⟨N, 0, none⟩ = some (.bool p) ∧ W.cell? ⟨N, 1, none⟩ = some u ∧ W.cell? ⟨N + 1, 0, none⟩ = some (.bool q) ∧ W.cell? ⟨N + 1, 1, none⟩ = some v) :
    w1.cell? ⟨N, 0, none⟩ = some (.bool p) ∧ w1.cell? ⟨N, 1, none⟩ = some u ∧ w1.cell? ⟨N + 1, 0, none⟩ = some (.bool q) ∧ w1.cell? ⟨N + 1, 1, none⟩ = some v :=
  ⟨(hb.cell (p := ⟨N, 0, none⟩) (by show N < B; omega)).trans h.1, (hb.cell (p := ⟨N, 1, none⟩) (by show N < B; omega)).trans h.2.1, (hb.cell (p := ⟨N + 1, 0, none⟩) (by show N + 1 < B; omega)).trans h.2.2.1, (hb.cell (p := ⟨N + 1, 1, none⟩) (by show N + 1 < B; omega)).trans h.2.2.2⟩

theorem cmpI_lt {m n : Int} (h : sgn m < sgn n) : cmpI m n = -1 := by
  unfold sgn at h; unfold cmpI; split at h <;> split at h <;> (try split at h) <;> (try split at h) <;> (rw [if_pos (by omega)])
theorem cmpI_gt {m n : Int} (h : sgn n < sgn m) : cmpI m n = 1 := by
  unfold sgn at h; unfold cmpI; split at h <;> split at h <;> (try split at h) <;> (try split at h) <;> (rw [if_neg (by omega), if_pos (by omega)])
theorem cmpI_neg {p q : Bool} {xs ys : List Nat} (h : sgn (iv p xs) = sgn (iv q ys)) (h0 : sgn (iv p xs) < 0) : cmpI (iv p xs) (iv q ys) = cmpN (val ys) (val xs) := by
  unfold sgn iv at *
  unfold cmpI cmpN
  cases p <;> cases q <;> simp at * <;> (repeat' split at h) <;> (repeat' split at h0) <;> (repeat' split) <;> omega
theorem cmpI_pos {p q : Bool} {xs ys : List Nat} (h : sgn (iv p xs) = sgn (iv q ys)) (h0 : ¬ sgn (iv p xs) < 0) : cmpI (iv p xs) (iv q ys) = cmpN (val xs) (val ys) := by
  unfold sgn iv at *
  unfold cmpI cmpN
  cases p <;> cases q <;> simp at * <;> (repeat' split at h) <;> (repeat' split at h0) <;> (repeat' split) <;> omega

set_option maxHeartbeats 1000000 in
theorem ICompare_c (p q : Bool) (A B : Option Addr) (xs ys : List Nat) (c d : Nat) (w : World) (ha : Lim w A c xs) (hb : Lim w B d ys) :
    Calls Try.prog 99 #[.agg #[.bool p, .slice A xs.length c], .agg #[.bool q, .slice B ys.length d]] w (RetI w (cmpI (iv p xs) (iv q ys))) := by
  go_enter Try.func99, Try.ntmps99
  go_wp2_with fail
  obtain ⟨W, hW, hbW, hsz, k1, k2, k3, k4⟩ := two_boxes w p q (.slice A xs.length c) (.slice B ys.length d)
  rw [hW]
  clear hW
  have HSZ := Lib.hid hsz
  have hz : w.heap.size + 2 ≤ W.heap.size := by omega
  clear hsz
  go_region_held3 (fun w' => w'.cell? ⟨w.heap.size, 0, none⟩ = some (.bool p) ∧ w'.cell? ⟨w.heap.size, 1, none⟩ = some (.slice A xs.length c) ∧ w'.cell? ⟨w.heap.size + 1, 0, none⟩ = some (.bool q) ∧ w'.cell? ⟨w.heap.size + 1, 1, none⟩ = some (.slice B ys.length d))
    (first | go_keep | exact l1 | exact l2)
    (first
      | (go_at_call_of 28 (Value.slice A xs.length c); refine (Sign_c p A xs c _ ?_).mono ?_; exact ha.below (below_drewN hbW 1); rintro e w1 ⟨rfl, bw1⟩; have l1 := keep2 bw1 hz ⟨k1, k2, k3, k4⟩)
      | (go_at_call_of 28 (Value.slice B ys.length d); refine (Sign_c q B ys d _ ?_).mono ?_; exact (hb.below (below_drewN hbW 1)).below bw1; rintro e w2 ⟨rfl, bw2⟩; have l2 := keep2 bw2 (Nat.le_trans hz bw1.size) l1))
  have hbw2 : Below w.heap.size w w2 := ((below_drewN hbW 1).trans (bw1.mono (show w.heap.size ≤ W.heap.size by omega))).trans (bw2.mono (Nat.le_trans (show w.heap.size ≤ W.heap.size by omega) bw1.size))
  replace ha := ha.below hbw2
  replace hb := hb.below hbw2
  obtain ⟨f1, f2, f3, f4⟩ := l2
  have T1 := Lib.hid (@cmpI_lt (iv p xs) (iv q ys))
  have T2 := Lib.hid (@cmpI_gt (iv p xs) (iv q ys))
  have T3 := Lib.hid (@cmpI_neg p q xs ys)
  have T4 := Lib.hid (@cmpI_pos p q xs ys)
  clear l1 bw1 bw2 k1 k2 k3 k4 hbW hz HSZ
  rename_i hHeld
  clear hHeld
  generalize sgn (iv p xs) = s at *
  generalize sgn (iv q ys) = t at *
  rcases Int.lt_trichotomy s t with h | h | h
  · go_wp2
    go_ret
    exact ⟨by rw [T1.out h]; rfl, hbw2⟩
  · by_cases h0 : s < 0
    · have T5 := Lib.hid (T3.out h h0)
      subst h
      go_wp2_with fail
      refine (Compare_c B A ys xs d c w2 hb ha ).mono ?_
      rintro e w' ⟨rfl, n, rfl⟩
      rw [← T5.out]
      go_wp2
      go_ret
      exact ⟨rfl, below_drewN hbw2 n⟩
    · have T5 := Lib.hid (T4.out h h0)
      subst h
      go_wp2_with fail
      refine (Compare_c A B xs ys c d w2 ha hb ).mono ?_
      rintro e w' ⟨rfl, n, rfl⟩
      rw [← T5.out]
      go_wp2
      go_ret
      exact ⟨rfl, below_drewN hbw2 n⟩
  · have h' : ¬ s < t := by omega
    go_wp2
    go_ret
    exact ⟨by rw [T2.out h]; rfl, hbw2⟩

end Go.Proofs.Ytkpchamgghhihaa
