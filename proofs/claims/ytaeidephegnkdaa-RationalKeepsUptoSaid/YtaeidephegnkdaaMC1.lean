/- IntA IntB RefA RefB IntC Awake2 LawIO IntD IntW in one text. -/
import Derived.Test.YtaeidephegnkdaaMB
namespace Go.Proofs.Ytaeidephegnkdaa
open Go.RowKit Gm
/- Contracts of package integer: sign, comparison. -/

/-- the integer with a sign and limbs -/
def iv (neg : Bool) (xs : List Nat) : Int := if neg then -(val xs : Int) else (val xs : Int)

/-- what a function that computes an integer returns: the canonical form, in new memory -/
def RetInt (w : World) (n : Int) (e : Ending) (w' : World) : Prop :=
  ∃ A c, e = .returned (.agg #[.bool (decide (n < 0)), .slice A (limbs n.natAbs).length c]) ∧ Own w.heap.size w' A c (limbs n.natAbs) ∧ Below w.heap.size w w'
/-- what a function returns that only looks: a number of the language -/
def RetI (w : World) (n : Int) (e : Ending) (w' : World) : Prop := e = .returned (.int .i64 n) ∧ Below w.heap.size w w'

/-- the sign of an integer -/
def sgn (n : Int) : Int := if n < 0 then -1 else if 0 < n then 1 else 0
/-- the comparison of integers -/
def cmpI (m n : Int) : Int := if m < n then -1 else if n < m then 1 else 0

set_option maxHeartbeats 400000 in
theorem signed_c (neg : Bool) (A : Option Addr) (n c : Nat) (w : World) :
    Calls Try.prog 96 #[.bool neg, .slice A n c] w fun e w' => e = .returned (.agg #[.bool (neg && decide (0 < n)), .slice A n c]) ∧ Below w.heap.size w w' := by
  cases neg
  · go_enter Try.func96, Try.ntmps96
    go_wp2
    exact bodyPost_ret (v := .agg #[.bool false, .slice A n c]) (by simp [results, Try.results96, go_sem]) rfl ⟨rfl, (Below.refl _ _).alloc (Nat.le_refl _) _⟩
  · by_cases h : 0 < n
    · go_enter Try.func96, Try.ntmps96
      go_wp2
      exact bodyPost_ret (v := .agg #[.bool true, .slice A n c]) (by simp [results, Try.results96, go_sem]) rfl ⟨by simp [h], (Below.refl _ _).alloc (Nat.le_refl _) _⟩
    · have h' : ¬ (0 : Int) < (n : Int) := by omega
      go_enter Try.func96, Try.ntmps96
      go_wp2
      all_goals exact bodyPost_ret (v := .agg #[.bool false, .slice A n c]) (by simp [results, Try.results96, go_sem]) rfl ⟨by simp, (Below.refl _ _).alloc (Nat.le_refl _) _⟩

set_option maxHeartbeats 400000 in
theorem Sign_c (neg : Bool) (A : Option Addr) (xs : List Nat) (c : Nat) (w : World) (h : Lim w A c xs) :
    Calls Try.prog 66 #[.agg #[.bool neg, .slice A xs.length c]] w (RetI w (sgn (iv neg xs))) := by
  have hb1 : Below w.heap.size w (w.alloc (.cells #[.bool neg, .slice A xs.length c] 24)) := (Below.refl _ _).alloc (Nat.le_refl _) _
  have hs : sgn (iv neg xs) = if val xs = 0 then 0 else if neg then -1 else 1 := by
    unfold sgn iv
    cases neg <;> simp <;> (split <;> (try split) <;> (try split) <;> omega)
  have HS := Lib.hid hs
  clear hs
  have hv0 : val ([] : List Nat) = 0 := rfl
  rcases Nat.eq_zero_or_pos (val xs) with h0 | h0
  · have ec : cmpN (val xs) (val []) = 0 := cmpN_eq (by rw [h0, hv0])
    have EC := Lib.hid ec
    have H0 := Lib.hid h0
    clear ec h0 hv0
    go_enter Try.func66, Try.ntmps66
    go_wp2_with fail
    refine (Compare_c A none xs [] c 0 _ (h.below hb1) (Lim.nil _ _)).mono ?_
    rintro e w' ⟨rfl, n, rfl⟩
    rw [EC.out]
    go_wp2
    go_ret
    exact ⟨by rw [HS.out, if_pos H0.out]; rfl, below_drewN hb1 n⟩
  · have ec : cmpN (val xs) (val []) = 1 := cmpN_gt (by rw [hv0]; exact h0)
    have EC := Lib.hid ec
    clear ec hv0
    cases neg
    · go_enter Try.func66, Try.ntmps66
      go_wp2_with fail
      refine (Compare_c A none xs [] c 0 _ (h.below hb1) (Lim.nil _ _)).mono ?_
      rintro e w' ⟨rfl, n, rfl⟩
      rw [EC.out]
      go_wp2
      go_ret
      exact ⟨by rw [HS.out, if_neg (by omega)]; rfl, below_drewN hb1 n⟩
    · go_enter Try.func66, Try.ntmps66
      go_wp2_with fail
      refine (Compare_c A none xs [] c 0 _ (h.below hb1) (Lim.nil _ _)).mono ?_
      rintro e w' ⟨rfl, n, rfl⟩
      rw [EC.out]
      go_wp2
      go_ret
      exact ⟨by rw [HS.out, if_neg (by omega)]; rfl, below_drewN hb1 n⟩


/-- two boxed integers -/
theorem two_boxes (w : World) (p q : Bool) (u v : Value) :
    ∃ W, (w.alloc (.cells #[.bool p, u] 24)).alloc (.cells #[.bool q, v] 24) = W ∧ Below w.heap.size w W ∧ W.heap.size = w.heap.size + 2 ∧
      W.cell? ⟨w.heap.size, 0, none⟩ = some (.bool p) ∧ W.cell? ⟨w.heap.size, 1, none⟩ = some u ∧ W.cell? ⟨w.heap.size + 1, 0, none⟩ = some (.bool q) ∧ W.cell? ⟨w.heap.size + 1, 1, none⟩ = some v :=
  ⟨_, rfl, ((Below.refl _ _).alloc (Nat.le_refl _) _).alloc (by simp) _, by simp, by simp, by simp, by simp, by simp⟩
theorem keep2 {B N : Nat} {W w1 : World} {p q : Bool} {u v : Value} (hb : Below B W w1) (hB : N + 2 ≤ B)
    (h : W.cell? ⟨N, 0, none⟩ = some (.bool p) ∧ W.cell? ⟨N, 1, none⟩ = some u ∧ W.cell? ⟨N + 1, 0, none⟩ = some (.bool q) ∧ W.cell? ⟨N + 1, 1, none⟩ = some v) :
    w1.cell? ⟨N, 0, none⟩ = some (.bool p) ∧ w1.cell? ⟨N, 1, none⟩ = some u ∧ w1.cell? ⟨N + 1, 0, none⟩ = some (.bool q) ∧ w1.cell? ⟨N + 1, 1, none⟩ = some v :=
  ⟨(hb.cell (p := ⟨N, 0, none⟩) (by show N < B; omega)).trans h.1, (hb.cell (p := ⟨N, 1, none⟩) (by show N < B; omega)).trans h.2.1, (hb.cell (p := ⟨N + 1, 0, none⟩) (by show N + 1 < B; omega)).trans h.2.2.1, (hb.cell (p := ⟨N + 1, 1, none⟩) (by show N + 1 < B; omega)).trans h.2.2.2⟩

theorem cmpI_lt {m n : Int} (h : sgn m < sgn n) : cmpI m n = -1 := by
  unfold sgn at h; unfold cmpI; split at h <;> split at h <;> (try split at h) <;> (try split at h) <;> (rw [if_pos (by omega)])
theorem cmpI_gt {m n : Int} (h : sgn n < sgn m) : cmpI m n = 1 := by
  unfold sgn at h; unfold cmpI; split at h <;> split at h <;> (try split at h) <;> (try split at h) <;> (rw [if_neg (by omega), if_pos (by omega)])
theorem cmpI_neg {p q : Bool} {xs ys : List Nat} (h : sgn (iv p xs) = sgn (iv q ys)) (h0 : sgn (iv p xs) < 0) : cmpI (iv p xs) (iv q ys) = cmpN (val ys) (val xs) := by
  unfold sgn iv at *
  unfold cmpI cmpN
  cases p <;> cases q <;> simp at * <;> (repeat' split at h) <;> (repeat' split at h0) <;> (repeat' split) <;> omega
theorem cmpI_pos {p q : Bool} {xs ys : List Nat} (h : sgn (iv p xs) = sgn (iv q ys)) (h0 : ¬ sgn (iv p xs) < 0) : cmpI (iv p xs) (iv q ys) = cmpN (val xs) (val ys) := by
  unfold sgn iv at *
  unfold cmpI cmpN
  cases p <;> cases q <;> simp at * <;> (repeat' split at h) <;> (repeat' split at h0) <;> (repeat' split) <;> omega

set_option maxHeartbeats 1000000 in
theorem ICompare_c (p q : Bool) (A B : Option Addr) (xs ys : List Nat) (c d : Nat) (w : World) (ha : Lim w A c xs) (hb : Lim w B d ys) :
    Calls Try.prog 68 #[.agg #[.bool p, .slice A xs.length c], .agg #[.bool q, .slice B ys.length d]] w (RetI w (cmpI (iv p xs) (iv q ys))) := by
  go_enter Try.func68, Try.ntmps68
  go_wp2_with fail
  obtain ⟨W, hW, hbW, hsz, k1, k2, k3, k4⟩ := two_boxes w p q (.slice A xs.length c) (.slice B ys.length d)
  rw [hW]
  clear hW
  have HSZ := Lib.hid hsz
  have hz : w.heap.size + 2 ≤ W.heap.size := by omega
  clear hsz
  go_region_held3 (fun w' => w'.cell? ⟨w.heap.size, 0, none⟩ = some (.bool p) ∧ w'.cell? ⟨w.heap.size, 1, none⟩ = some (.slice A xs.length c) ∧ w'.cell? ⟨w.heap.size + 1, 0, none⟩ = some (.bool q) ∧ w'.cell? ⟨w.heap.size + 1, 1, none⟩ = some (.slice B ys.length d))
    (first | go_keep | exact l1 | exact l2)
    (first
      | (go_at_call_of 66 (Value.slice A xs.length c); refine (Sign_c p A xs c _ ?_).mono ?_; exact ha.below (below_drewN hbW 1); rintro e w1 ⟨rfl, bw1⟩; have l1 := keep2 bw1 hz ⟨k1, k2, k3, k4⟩)
      | (go_at_call_of 66 (Value.slice B ys.length d); refine (Sign_c q B ys d _ ?_).mono ?_; exact (hb.below (below_drewN hbW 1)).below bw1; rintro e w2 ⟨rfl, bw2⟩; have l2 := keep2 bw2 (Nat.le_trans hz bw1.size) l1))
  have hbw2 : Below w.heap.size w w2 := ((below_drewN hbW 1).trans (bw1.mono (show w.heap.size ≤ W.heap.size by omega))).trans (bw2.mono (Nat.le_trans (show w.heap.size ≤ W.heap.size by omega) bw1.size))
  replace ha := ha.below hbw2
  replace hb := hb.below hbw2
  obtain ⟨f1, f2, f3, f4⟩ := l2
  have T1 := Lib.hid (@cmpI_lt (iv p xs) (iv q ys))
  have T2 := Lib.hid (@cmpI_gt (iv p xs) (iv q ys))
  have T3 := Lib.hid (@cmpI_neg p q xs ys)
  have T4 := Lib.hid (@cmpI_pos p q xs ys)
  clear l1 bw1 bw2 k1 k2 k3 k4 hbW hz HSZ
  rename_i hHeld
  clear hHeld
  generalize sgn (iv p xs) = s at *
  generalize sgn (iv q ys) = t at *
  rcases Int.lt_trichotomy s t with h | h | h
  · go_wp2
    go_ret
    exact ⟨by rw [T1.out h]; rfl, hbw2⟩
  · by_cases h0 : s < 0
    · have T5 := Lib.hid (T3.out h h0)
      subst h
      go_wp2_with fail
      refine (Compare_c B A ys xs d c w2 hb ha ).mono ?_
      rintro e w' ⟨rfl, n, rfl⟩
      rw [← T5.out]
      go_wp2
      go_ret
      exact ⟨rfl, below_drewN hbw2 n⟩
    · have T5 := Lib.hid (T4.out h h0)
      subst h
      go_wp2_with fail
      refine (Compare_c A B xs ys c d w2 ha hb ).mono ?_
      rintro e w' ⟨rfl, n, rfl⟩
      rw [← T5.out]
      go_wp2
      go_ret
      exact ⟨rfl, below_drewN hbw2 n⟩
  · have h' : ¬ s < t := by omega
    go_wp2
    go_ret
    exact ⟨by rw [T2.out h]; rfl, hbw2⟩


/- Contracts of package integer: sums and differences. -/

/-- two boxed integers and the box of the result -/
theorem three_boxes (w : World) (p q : Bool) (u v : Value) :
    ∃ W, ((w.alloc (.cells #[.bool p, u] 24)).alloc (.cells #[.bool q, v] 24)).alloc (.cells #[.bool false, .slice none 0 0] 24) = W ∧ Below w.heap.size w W ∧ W.heap.size = w.heap.size + 3 ∧
      (W.cell? ⟨w.heap.size, 0, none⟩ = some (.bool p) ∧ W.cell? ⟨w.heap.size, 1, none⟩ = some u ∧ W.cell? ⟨w.heap.size + 1, 0, none⟩ = some (.bool q) ∧ W.cell? ⟨w.heap.size + 1, 1, none⟩ = some v) ∧
      (W.cell? ⟨w.heap.size + 1 + 1, 0, none⟩ = some (.bool false) ∧ W.cell? ⟨w.heap.size + 1 + 1, 1, none⟩ = some (.slice none 0 0) ∧ W.frozen? ⟨w.heap.size + 1 + 1, 0, none⟩ = false ∧ W.frozen? ⟨w.heap.size + 1 + 1, 1, none⟩ = false) := by
  refine ⟨_, rfl, (((Below.refl _ _).alloc (Nat.le_refl _) _).alloc (by simp) _).alloc (by simp; omega) _, by simp, ?_, ?_⟩
  · refine ⟨?_, ?_, ?_, ?_⟩ <;> go_simp
  · refine ⟨?_, ?_, ?_, ?_⟩ <;> go_simp
theorem keepR {B N : Nat} {W w1 : World} {x y : Value} (hb : Below B W w1) (hB : N < B)
    (h : W.cell? ⟨N, 0, none⟩ = some x ∧ W.cell? ⟨N, 1, none⟩ = some y ∧ W.frozen? ⟨N, 0, none⟩ = false ∧ W.frozen? ⟨N, 1, none⟩ = false) :
    w1.cell? ⟨N, 0, none⟩ = some x ∧ w1.cell? ⟨N, 1, none⟩ = some y ∧ w1.frozen? ⟨N, 0, none⟩ = false ∧ w1.frozen? ⟨N, 1, none⟩ = false :=
  ⟨(hb.cell (p := ⟨N, 0, none⟩) hB).trans h.1, (hb.cell (p := ⟨N, 1, none⟩) hB).trans h.2.1, (hb.frozen (p := ⟨N, 0, none⟩) hB).trans h.2.2.1, (hb.frozen (p := ⟨N, 1, none⟩) hB).trans h.2.2.2⟩

/-- the integer with a sign and a magnitude -/
def mkI (p : Bool) (m : Nat) : Int := if p then -(m : Int) else (m : Int)
theorem iv_eq (p : Bool) (xs : List Nat) : iv p xs = mkI p (val xs) := rfl
theorem mkI_natAbs (p : Bool) (m : Nat) : (mkI p m).natAbs = m := by unfold mkI; cases p <;> simp
theorem mkI_neg (p : Bool) (m : Nat) : decide (mkI p m < 0) = (p && decide (0 < (limbs m).length)) := by
  have h : 0 < (limbs m).length ↔ m ≠ 0 := by
    constructor
    · intro h h0; subst h0; rw [limbs_zero] at h; simp at h
    · intro h; exact List.length_pos_iff.2 (fun e => h (limbs_eq_nil.1 e))
  unfold mkI
  rw [Bool.eq_iff_iff]
  cases p <;> simp <;> first | omega | (rw [← List.length_pos_iff, h]; omega)
theorem mkI_add (p : Bool) (a b : Nat) : mkI p a + mkI p b = mkI p (a + b) := by unfold mkI; cases p <;> simp <;> omega
theorem mkI_sub (p : Bool) {a b : Nat} (h : b ≤ a) : mkI p a + mkI (!p) b = mkI p (a - b) := by unfold mkI; cases p <;> simp <;> omega
theorem mkI_sub' (p : Bool) {a b : Nat} (h : a ≤ b) : mkI p a + mkI (!p) b = mkI (!p) (b - a) := by unfold mkI; cases p <;> simp <;> omega

theorem ret_signed {w w' : World} {p : Bool} {m : Nat} {n : Int} {A : Option Addr} {c : Nat} (h : n = mkI p m) (ho : Own w.heap.size w' A c (limbs m)) (hb : Below w.heap.size w w') :
    RetInt w n (.returned (.agg #[.bool (p && decide (0 < (limbs m).length)), .slice A (limbs m).length c])) w' := by
  subst h
  refine ⟨A, c, ?_, ?_, hb⟩ <;> rw [mkI_natAbs]
  · rw [mkI_neg]
  · exact ho

theorem below_put2 {B N : Nat} {a w : World} (h : Below B a w) (hN : B ≤ N) (u v : Value) : Below B a ((w.setCell ⟨N, 0, none⟩ u).setCell ⟨N, 1, none⟩ v) :=
  (h.setCell (p := ⟨N, 0, none⟩) hN u).setCell (p := ⟨N, 1, none⟩) hN v
/-- the box of the result written: nothing else has turned -/
theorem Own.put2 {lo N : Nat} {w : World} {A : Option Addr} {c : Nat} {xs : List Nat} (h : Own lo w A c xs) (hN : N < lo) (u v : Value) : Own lo ((w.setCell ⟨N, 0, none⟩ u).setCell ⟨N, 1, none⟩ v) A c xs :=
  ⟨h.lb, h.cap, h.max, fun h0 => by
    obtain ⟨b, off, e, hl, hlt, hc⟩ := h.cells h0
    refine ⟨b, off, e, hl, by simpa [World.setCell] using hlt, fun k hk => ?_⟩
    have hne : b ≠ N := by omega
    have f : ((w.setCell ⟨N, 0, none⟩ u).setCell ⟨N, 1, none⟩ v).heap[b]? = w.heap[b]? := (Below.heap_setCell _ ⟨N, 1, none⟩ v b hne).trans (Below.heap_setCell w ⟨N, 0, none⟩ u b hne)
    refine ⟨(World.cell?_of_block (a := ⟨b, off + k, none⟩) f).trans (hc k hk).1, ?_⟩
    rw [← (hc k hk).2]
    unfold World.frozen?
    rw [show (Addr.mk b (off + k) none).block = b from rfl, f]⟩

set_option maxHeartbeats 1000000 in
theorem IAdd_same (p : Bool) (A B : Option Addr) (xs ys : List Nat) (c d : Nat) (w : World) (ha : Lim w A c xs) (hb : Lim w B d ys)
    (hs : xs.length < 70368744177664) (ht : ys.length < 70368744177664) :
    Calls Try.prog 62 #[.agg #[.bool p, .slice A xs.length c], .agg #[.bool p, .slice B ys.length d]] w (RetInt w (iv p xs + iv p ys)) := by
  have hpp : (p == p) = true := by simp
  go_enter Try.func62, Try.ntmps62
  go_wp2_with fail
  obtain ⟨W, hW, hbW, hsz, k, kr⟩ := three_boxes w p p (.slice A xs.length c) (.slice B ys.length d)
  rw [hW]
  clear hW
  have hz : w.heap.size + 3 ≤ W.heap.size := by omega
  clear hsz
  obtain ⟨k1, k2, k3, k4⟩ := k
  go_wp2_with fail
  go_region_held3 (fun w' => w'.cell? ⟨w.heap.size, 0, none⟩ = some (.bool p) ∧ w'.cell? ⟨w.heap.size, 1, none⟩ = some (.slice A xs.length c) ∧ w'.cell? ⟨w.heap.size + 1, 0, none⟩ = some (.bool p) ∧ w'.cell? ⟨w.heap.size + 1, 1, none⟩ = some (.slice B ys.length d))
    (first | exact l1 | exact l2 | exact keep2 (below_put2 (Below.refl (w.heap.size + 1 + 1) w2) (Nat.le_refl _) _ _) (Nat.le_refl _) l2 | go_keep)
    (first
      | (go_at_call 98; refine (Add_c A B xs ys c d _ ?_ ?_ hs ht).mono ?_; exact ha.below (below_drewN hbW 1); exact hb.below (below_drewN hbW 1); rintro e w1 ⟨A1, c1, rfl, r3, bw1⟩; have l1 := keep2 bw1 (show w.heap.size + 2 ≤ W.heap.size by omega) ⟨k1, k2, k3, k4⟩)
      | (go_at_call 96; refine (signed_c p A1 _ c1 _).mono ?_; rintro e w2 ⟨rfl, bw2⟩; have l2 := keep2 bw2 (Nat.le_trans (show w.heap.size + 2 ≤ W.heap.size by omega) bw1.size) l1; obtain ⟨m1, m2, m3, m4⟩ := keepR (N := w.heap.size + 1 + 1) bw2 (Nat.lt_of_lt_of_le (show w.heap.size + 1 + 1 < W.heap.size by omega) bw1.size) (keepR bw1 (show w.heap.size + 1 + 1 < W.heap.size by omega) kr)))
  have hbw : Below w.heap.size w w2 := ((below_drewN hbW 1).trans (bw1.mono (show w.heap.size ≤ W.heap.size by omega))).trans (bw2.mono (Nat.le_trans (show w.heap.size ≤ W.heap.size by omega) bw1.size))
  have hown := ((r3.below bw2).put2 (N := w.heap.size + 1 + 1) (show w.heap.size + 1 + 1 < W.heap.size by omega) (.bool (p && decide (0 < (limbs (val xs + val ys)).length))) (.slice A1 (limbs (val xs + val ys)).length c1)).mono (show w.heap.size ≤ W.heap.size by omega)
  have hret := ret_signed (mkI_add p (val xs) (val ys)) hown (below_put2 hbw (by omega) _ _)
  clear hown hbw r3 bw1 bw2 hbW kr l1 l2 k1 k2 k3 k4
  go_wp2
  exact bodyPost_ret (v := .agg #[.bool (p && decide (0 < (limbs (val xs + val ys)).length)), .slice A1 (limbs (val xs + val ys)).length c1]) (by simp [results, Try.results62, go_sem, m1, m2]) rfl hret


set_option maxHeartbeats 1000000 in
theorem IAdd_ge (p : Bool) (A B : Option Addr) (xs ys : List Nat) (c d : Nat) (w : World) (ha : Lim w A c xs) (hb : Lim w B d ys) (hs : xs.length ≤ 70368744177664) (hge : val ys ≤ val xs) :
    Calls Try.prog 62 #[.agg #[.bool p, .slice A xs.length c], .agg #[.bool (!p), .slice B ys.length d]] w (RetInt w (iv p xs + iv (!p) ys)) := by
  have hpp : (p == !p) = false := by cases p <;> rfl
  go_enter Try.func62, Try.ntmps62
  go_wp2_with fail
  obtain ⟨W, hW, hbW, hsz, k, kr⟩ := three_boxes w p (!p) (.slice A xs.length c) (.slice B ys.length d)
  rw [hW]
  clear hW
  have hz : w.heap.size + 3 ≤ W.heap.size := by omega
  clear hsz
  obtain ⟨k1, k2, k3, k4⟩ := k
  go_wp2_with fail
  refine (Sub_ok A B xs ys c d _ (ha.below hbW) (hb.below hbW) hs hge).mono ?_
  rintro e w1 ⟨A1, c1, rfl, r3, bw1⟩
  obtain ⟨l1, l2, l3, l4⟩ := keep2 bw1 (show w.heap.size + 2 ≤ W.heap.size by omega) ⟨k1, k2, k3, k4⟩
  go_wp2_with fail
  refine (signed_c p A1 _ c1 _).mono ?_
  rintro e w2 ⟨rfl, bw2⟩
  obtain ⟨m1, m2, m3, m4⟩ := keepR (N := w.heap.size + 1 + 1) bw2 (Nat.lt_of_lt_of_le (show w.heap.size + 1 + 1 < W.heap.size by omega) bw1.size) (keepR bw1 (show w.heap.size + 1 + 1 < W.heap.size by omega) kr)
  have hbw : Below w.heap.size w w2 := (hbW.trans (bw1.mono (show w.heap.size ≤ W.heap.size by omega))).trans (bw2.mono (Nat.le_trans (show w.heap.size ≤ W.heap.size by omega) bw1.size))
  have hown := ((r3.below bw2).put2 (N := w.heap.size + 1 + 1) (show w.heap.size + 1 + 1 < W.heap.size by omega) (.bool (p && decide (0 < (limbs (val xs - val ys)).length))) (.slice A1 (limbs (val xs - val ys)).length c1)).mono (show w.heap.size ≤ W.heap.size by omega)
  have hret := ret_signed (mkI_sub p hge) hown (below_put2 hbw (by omega) _ _)
  clear hown hbw r3 bw1 bw2 hbW kr l1 l2 l3 l4 k1 k2 k3 k4
  go_wp2
  exact bodyPost_ret (v := .agg #[.bool (p && decide (0 < (limbs (val xs - val ys)).length)), .slice A1 (limbs (val xs - val ys)).length c1]) (by simp [results, Try.results62, go_sem, m1, m2]) rfl hret

set_option maxHeartbeats 1000000 in
theorem IAdd_lt (p : Bool) (A B : Option Addr) (xs ys : List Nat) (c d : Nat) (w : World) (ha : Lim w A c xs) (hb : Lim w B d ys) (ht : ys.length ≤ 70368744177664) (hlt : val xs < val ys) :
    Calls Try.prog 62 #[.agg #[.bool p, .slice A xs.length c], .agg #[.bool (!p), .slice B ys.length d]] w (RetInt w (iv p xs + iv (!p) ys)) := by
  have hpp : (p == !p) = false := by cases p <;> rfl
  go_enter Try.func62, Try.ntmps62
  go_wp2_with fail
  obtain ⟨W, hW, hbW, hsz, k, kr⟩ := three_boxes w p (!p) (.slice A xs.length c) (.slice B ys.length d)
  rw [hW]
  clear hW
  have hz : w.heap.size + 3 ≤ W.heap.size := by omega
  clear hsz
  obtain ⟨k1, k2, k3, k4⟩ := k
  go_wp2_with fail
  refine (Sub_no A B xs ys c d _ (ha.below hbW) (hb.below hbW) hlt).mono ?_
  rintro e w' ⟨rfl, n, rfl⟩
  go_wp2_with fail
  refine (Sub_ok B A ys xs d c _ (hb.below (below_drewN hbW n)) (ha.below (below_drewN hbW n)) ht (Nat.le_of_lt hlt)).mono ?_
  rintro e w1 ⟨A1, c1, rfl, r3, bw1⟩
  obtain ⟨l1, l2, l3, l4⟩ := keep2 bw1 (show w.heap.size + 2 ≤ W.heap.size by omega) ⟨k1, k2, k3, k4⟩
  go_wp2_with fail
  refine (signed_c (!p) A1 _ c1 _).mono ?_
  rintro e w2 ⟨rfl, bw2⟩
  obtain ⟨m1, m2, m3, m4⟩ := keepR (N := w.heap.size + 1 + 1) bw2 (Nat.lt_of_lt_of_le (show w.heap.size + 1 + 1 < W.heap.size by omega) bw1.size) (keepR bw1 (show w.heap.size + 1 + 1 < W.heap.size by omega) kr)
  have hbw : Below w.heap.size w w2 := ((below_drewN hbW n).trans (bw1.mono (show w.heap.size ≤ W.heap.size by omega))).trans (bw2.mono (Nat.le_trans (show w.heap.size ≤ W.heap.size by omega) bw1.size))
  have hown := ((r3.below bw2).put2 (N := w.heap.size + 1 + 1) (show w.heap.size + 1 + 1 < W.heap.size by omega) (.bool (!p && decide (0 < (limbs (val ys - val xs)).length))) (.slice A1 (limbs (val ys - val xs)).length c1)).mono (show w.heap.size ≤ W.heap.size by omega)
  have hret := ret_signed (mkI_sub' p (Nat.le_of_lt hlt)) hown (below_put2 hbw (by omega) _ _)
  clear hown hbw r3 bw1 bw2 hbW kr l1 l2 l3 l4 k1 k2 k3 k4
  go_wp2
  exact bodyPost_ret (v := .agg #[.bool (!p && decide (0 < (limbs (val ys - val xs)).length)), .slice A1 (limbs (val ys - val xs)).length c1]) (by simp [results, Try.results62, go_sem, m1, m2]) rfl hret

/-- the sum of integers -/
theorem IAdd_c (p q : Bool) (A B : Option Addr) (xs ys : List Nat) (c d : Nat) (w : World) (ha : Lim w A c xs) (hb : Lim w B d ys)
    (hs : xs.length < 70368744177664) (ht : ys.length < 70368744177664) :
    Calls Try.prog 62 #[.agg #[.bool p, .slice A xs.length c], .agg #[.bool q, .slice B ys.length d]] w (RetInt w (iv p xs + iv q ys)) := by
  by_cases h : p = q
  · subst h; exact IAdd_same p A B xs ys c d w ha hb hs ht
  · obtain rfl : q = !p := by cases p <;> cases q <;> simp_all
    rcases Nat.lt_or_ge (val xs) (val ys) with hl | hl
    · exact IAdd_lt p A B xs ys c d w ha hb (by omega) hl
    · exact IAdd_ge p A B xs ys c d w ha hb (by omega) hl

theorem iv_not (q : Bool) (ys : List Nat) : iv (!q) ys = - iv q ys := by unfold iv; cases q <;> simp

set_option maxHeartbeats 1000000 in
theorem ISub_c (p q : Bool) (A B : Option Addr) (xs ys : List Nat) (c d : Nat) (w : World) (ha : Lim w A c xs) (hb : Lim w B d ys)
    (hs : xs.length < 70368744177664) (ht : ys.length < 70368744177664) :
    Calls Try.prog 87 #[.agg #[.bool p, .slice A xs.length c], .agg #[.bool q, .slice B ys.length d]] w (RetInt w (iv p xs - iv q ys)) := by
  go_enter Try.func87, Try.ntmps87
  go_wp2_with fail
  obtain ⟨W, hW, hbW, hsz, k, kr⟩ := three_boxes w p (!q) (.slice A xs.length c) (.slice B ys.length d)
  rw [hW]
  clear hW
  have hz : w.heap.size + 3 ≤ W.heap.size := by omega
  clear hsz
  refine (IAdd_c p (!q) A B xs ys c d _ (ha.below hbW) (hb.below hbW) hs ht).mono ?_
  rintro e w1 ⟨A1, c1, rfl, r3, bw1⟩
  obtain ⟨m1, m2, m3, m4⟩ := keepR bw1 (show w.heap.size + 1 + 1 < W.heap.size by omega) kr
  have hret : RetInt w (iv p xs - iv q ys) (.returned (.agg #[.bool (decide (iv p xs + iv (!q) ys < 0)), .slice A1 (limbs (iv p xs + iv (!q) ys).natAbs).length c1]))
      ((w1.setCell ⟨w.heap.size + 1 + 1, 0, none⟩ (.bool (decide (iv p xs + iv (!q) ys < 0)))).setCell ⟨w.heap.size + 1 + 1, 1, none⟩ (.slice A1 (limbs (iv p xs + iv (!q) ys).natAbs).length c1)) := by
    rw [Int.sub_eq_add_neg, ← iv_not]
    exact ⟨A1, c1, rfl, (r3.put2 (show w.heap.size + 1 + 1 < W.heap.size by omega) _ _).mono (show w.heap.size ≤ W.heap.size by omega), below_put2 (hbW.trans (bw1.mono (show w.heap.size ≤ W.heap.size by omega))) (by omega) _ _⟩
  clear r3 bw1 hbW kr k
  generalize iv p xs + iv (!q) ys = z at *
  go_wp2
  exact bodyPost_ret (v := .agg #[.bool (decide (z < 0)), .slice A1 (limbs z.natAbs).length c1]) (by simp [results, Try.results87, go_sem, m1, m2]) rfl hret


/- Contracts of the reference of layer 1: the canonical list, equality, numbers of 64 bits. -/

/-- append onto an empty slice without capacity -/
theorem append_run {w1 : World} {g c : Nat} {A : Option Addr} {xs : List Nat} (hx : Lim w1 A c xs) (hs : xs.length ≤ 70368744177664) (ty : TypeId) :
    ∃ A' c' w2, (Builtin.append_ #[22, 22] ty #[.slice (some ⟨g, 0, none⟩) 0 0, .slice A xs.length c]).run Try.prog w1 = .ok (.slice A' xs.length c') w2 ∧ Own w1.heap.size w2 A' c' xs ∧ Below w1.heap.size w1 w2 := by
  obtain ⟨i0, hi, hz0, hz1, hz2⟩ := info_parts info_u32
  rcases Nat.eq_zero_or_pos xs.length with h0 | h0
  · obtain rfl : xs = [] := List.eq_nil_of_length_eq_zero h0
    refine ⟨some ⟨g, 0, none⟩, 0, w1, ?_, Own.nil _ _ _, Below.refl _ _⟩
    cases A <;> simp [Builtin.append_, run_underlying Try.underlying22, sizeOf, typeInfo, hi, Builtin.lenOf, Builtin.firstCells, loadCells, loadCellsFrom, storeCells]
  · obtain ⟨ad, rfl, hsrc⟩ := cells_of_row hx h0
    have h := run_append_grow (P := Try.prog) w1 22 ty 40 i0 (.int .u32 0) Try.underlying22 hi hz0 ⟨g, 0, none⟩ 0 0 [] (by simp) (by simp) ad xs.length c (xs.map fun x => Value.int .u32 ((x : Nat) : Int)) (by simp [hz1]) hsrc
      (by omega) (by omega) (by rw [Nat.zero_add, nextslicecap_zero h0, hz2]; omega)
    rw [Nat.zero_add] at h
    refine ⟨_, _, _, h, ?_, ?_⟩
    · have hge := grownCap_ge w1 xs.length 0 40
      refine ⟨hx.lb, hge, grownCap_le_maxLen w1 xs.length 0 40 (by simp only [maxLen]; omega), fun _ => ⟨w1.heap.size, 0, rfl, Nat.le_refl _, by simp, fun k hk => ⟨?_, ?_⟩⟩⟩
      · rw [Nat.zero_add]
        have hb := heap_alloc_new w1.drew (.cells (([] : List Value).toArray ++ (xs.map fun x => Value.int .u32 ((x : Nat) : Int)).toArray ++ Builtin.zeroCells (Value.int IntKind.u32 0).cells (grownCap w1 xs.length 0 40 - xs.length)) 40)
        have e := cell_of_row _ _ k _ _ _ hb
        refine e.trans ?_
        rw [Array.getElem?_append_left (by simp; exact hk)]
        simp [List.getElem?_eq_getElem hk]
      · have hb := heap_alloc_new w1.drew (.cells (([] : List Value).toArray ++ (xs.map fun x => Value.int .u32 ((x : Nat) : Int)).toArray ++ Builtin.zeroCells (Value.int IntKind.u32 0).cells (grownCap w1 xs.length 0 40 - xs.length)) 40)
        unfold World.frozen?
        rw [show (Addr.mk w1.heap.size (0 + k) none).block = w1.drew.heap.size from rfl, hb]
        simp
    · exact ((Below.refl _ _).drew).alloc (Nat.le_refl _) _
/-- the same as a law of the walk -/
theorem wpList_app {w : World} {ops : Array Oper} {rest : List Oper} {o : Oper} {a : Act} {Q : Exit → Act → World → Prop} (hgd : o.guard = none) (s x : Operand)
    (ho : o.op = .call { callee := .builtin .append, args := #[s, x], argTypes := #[22, 22] }) (g n c : Nat) (A : Option Addr) (xs : List Nat)
    (hs : a.eval s = .slice (some ⟨g, 0, none⟩) 0 0) (hx : a.eval x = .slice A n c) (hn : xs.length = n) (hl : Lim w A c xs) (hm : xs.length ≤ 70368744177664)
    (h : ∀ A' c' w2, Own w.heap.size w2 A' c' xs → Below w.heap.size w w2 → wpList Try.prog ops Q rest (a.put o.dst (.slice A' n c')) w2) : wpList Try.prog ops Q (o :: rest) a w := by
  subst hn
  refine wpList_plain hgd fun K hK => ?_
  obtain ⟨A', c', w2, hrun, h1, h2⟩ := append_run (g := g) hl hm o.type
  unfold Oper.wp execOp
  simp only [ho, resolve, invoke, builtin, Sem.run_bind, Sem.run_pure, Result.andThen_ok, List.map_toArray, List.map_cons, List.map_nil, hs, hx, hrun]
  exact hK _ _ (h A' c' w2 h1 h2)

set_option maxHeartbeats 400000 in
theorem rTrim_c (A : Option Addr) (xs : List Nat) (c : Nat) (w : World) (h : Lim w A c xs) (hs : xs.length ≤ 70368744177664) :
    Calls Try.prog 86 #[.slice A xs.length c] w (RetNat w (val xs)) := by
  have hc := h.cap
  have hm := h.max
  go_enter Try.func86, Try.ntmps86
  go_wp2
  go_loop [3] (fun t => ∃ n : Nat, n ≤ xs.length ∧ t = .int .i64 n ∧ val (xs.drop n) = 0) (fun t => (intOf t).toNat)
  case atStart => exact ⟨xs.length, Nat.le_refl _, rfl, by simp [val]⟩
  case round =>
    obtain ⟨n, hn, rfl, hv⟩ := hrel
    have HV := Lib.hid hv
    clear hv
    rcases Nat.eq_zero_or_pos n with rfl | hp
    · have hl : (limbs (val xs)).length = 0 := by rw [← take_canon h.lb hn HV.out (.inl rfl)]; simp
      have HL := Lib.hid hl
      clear hl
      have hb0 : Below w.heap.size w (w.alloc (.cells #[] 40)) := (Below.refl _ _).alloc (Nat.le_refl _) _
      have hl2 := h.cut.below hb0
      have hs2 : (limbs (val xs)).length ≤ 70368744177664 := by rw [HL.out]; omega
      go_wp2_with (at_builtin; refine wpList_app rfl (.tmp 18) (.tmp 21) rfl w.heap.size _ c A (limbs (val xs)) rfl rfl HL.out hl2 hs2 ?_; intro A' c' w2 hown hbel)
      go_ret
      exact ⟨A', c', by rw [HL.out]; rfl, hown.mono (by simp), hb0.trans (hbel.mono (by simp))⟩
    · obtain ⟨m, rfl⟩ : ∃ m, n = m + 1 := ⟨n - 1, by omega⟩
      have hLb := h.lb
      obtain ⟨b, off, rfl, hb, hcell⟩ := h.at_ (by omega)
      have hx := hcell m (by omega)
      clear hcell
      obtain ⟨x, ex⟩ : ∃ x, xs[m]?.getD 0 = x := ⟨_, rfl⟩
      rw [ex] at hx
      have EX := Lib.hid ex
      clear ex
      by_cases h0 : x = 0
      · subst h0
        clear h
        go_wp2
        go_round
        case rel => exact ⟨m, by omega, by go_num, val_drop_step (by omega) HV.out EX.out⟩
        case measure => simp [intOf]
      · have hb0 : ((x : Int) == 0) = false := by simp; omega
        have hl : (limbs (val xs)).length = m + 1 := by
          rw [← take_canon hLb hn HV.out (.inr (by simp only [Nat.add_sub_cancel]; rw [EX.out]; exact h0))]; simp; omega
        have HL := Lib.hid hl
        clear hl
        have hb1 : Below w.heap.size w (w.alloc (.cells #[] 40)) := (Below.refl _ _).alloc (Nat.le_refl _) _
        have hl2 := h.cut.below hb1
        have hs2 : (limbs (val xs)).length ≤ 70368744177664 := by rw [HL.out]; omega
        clear h
        go_wp2_with (at_builtin; refine wpList_app rfl (.tmp 18) (.tmp 21) rfl w.heap.size _ c _ (limbs (val xs)) rfl rfl HL.out hl2 hs2 ?_; intro A' c' w2 hown hbel)
        go_ret
        exact ⟨A', c', by rw [HL.out]; rfl, hown.mono (by simp), hb1.trans (hbel.mono (by simp))⟩

theorem take_ext {xs ys : List Nat} {k : Nat} (h : xs.take k = ys.take k) (hx : k < xs.length) (hy : k < ys.length) (he : xs[k]?.getD 0 = ys[k]?.getD 0) : xs.take (k + 1) = ys.take (k + 1) := by
  rw [List.take_succ_eq_append_getElem hx, List.take_succ_eq_append_getElem hy, h]
  rw [List.getElem?_eq_getElem hx, List.getElem?_eq_getElem hy] at he
  have he' : xs[k] = ys[k] := by simpa using he
  rw [he']

/-- what a test returns -/
def RetB (w : World) (b : Bool) (e : Ending) (w' : World) : Prop := e = .returned (.bool b) ∧ Below w.heap.size w w'

set_option maxHeartbeats 400000 in
theorem rEqual_c (A B : Option Addr) (xs ys : List Nat) (c d : Nat) (w : World) (ha : Lim w A c xs) (hb : Lim w B d ys) (hs : xs.length ≤ 70368744177664) (ht : ys.length ≤ 70368744177664) :
    Calls Try.prog 49 #[.slice A xs.length c, .slice B ys.length d] w fun e w' => e = .returned (.bool (decide (xs = ys))) ∧ ∃ n, w' = w.drewN n := by
  go_enter Try.func49, Try.ntmps49
  by_cases hne : xs.length = ys.length
  · have hb1 : ((xs.length : Int) != (ys.length : Int)) = false := by simp [hne]
    have HN := Lib.hid hne
    clear hne
    go_wp2_with fail
    go_loopw [5] (fun t wr => ∃ k : Nat, k ≤ xs.length ∧ t = .int .i64 (k : Int) ∧ xs.take k = ys.take k ∧ ∃ n, wr = w.drewN n) (fun t _ => xs.length - (intOf t).toNat)
    case atStart => exact ⟨0, Nat.zero_le _, rfl, by simp, 0, rfl⟩
    case round =>
      obtain ⟨k, hk, rfl, hv, n, rfl⟩ := hrel
      have HV := Lib.hid hv
      clear hv
      by_cases hlt : k < xs.length
      · have e2 := HN.out
        have hm2 : k < ys.length := by omega
        clear e2
        obtain ⟨b1, o1, rfl, hb1', hc1⟩ := ha.at_ (by omega)
        obtain ⟨b2, o2, rfl, hb2', hc2⟩ := hb.at_ (by omega)
        have hx := hc1 k (by omega)
        have hy := hc2 k (by omega)
        clear hc1 hc2 ha hb
        obtain ⟨x, ex⟩ : ∃ x, xs[k]?.getD 0 = x := ⟨_, rfl⟩
        obtain ⟨y, ey⟩ : ∃ y, ys[k]?.getD 0 = y := ⟨_, rfl⟩
        rw [ex] at hx
        rw [ey] at hy
        have EX := Lib.hid ex
        have EY := Lib.hid ey
        clear ex ey
        have i0 : (0 : Int) ≤ (k : Int) := by omega
        have i1 : (k : Int) < xs.length := by omega
        have i2 : (k : Int) < ys.length := by omega
        by_cases hxy : x = y
        · subst hxy
          go_wp2
          go_quiet (fail)
          go_wp2
          go_roundw
          case rel => exact ⟨k + 1, by omega, by go_num, take_ext HV.out hlt hm2 (by rw [EX.out, EY.out]), _, rfl⟩
          case measure => simp [intOf]; omega
        · have hxb : ((x : Int) != (y : Int)) = true := by simp; omega
          go_wp2
          go_quiet (fail)
          go_wp2
          go_ret
          refine ⟨?_, _, World.drewN_drewN _ _ _⟩
          have : xs ≠ ys := by rintro rfl; exact hxy (EX.out.symm.trans EY.out)
          simp [this]
      · have hk2 : ¬ ((k : Int) < (xs.length : Int)) := by omega
        go_wp2
        go_ret
        refine ⟨?_, n, rfl⟩
        have : xs = ys := by
          have e1 := HV.out
          rw [List.take_of_length_le (by omega), List.take_of_length_le (by rw [← HN.out]; omega)] at e1
          exact e1
        simp [this]
  · have hb1 : ((xs.length : Int) != (ys.length : Int)) = true := by simp; omega
    go_wp2_with fail
    go_ret
    refine ⟨?_, 0, rfl⟩
    have : xs ≠ ys := by rintro rfl; exact hne rfl
    simp [this]

set_option maxHeartbeats 400000 in
theorem rFromUint64_c (v : Nat) (w : World) (hv : v < Ba * Ba) :
    Calls Try.prog 55 #[.int .u64 (v : Int)] w (RetNat w v) := by
  have h1 : (v : Int) < 18446744073709551616 := by have : Ba * Ba = 18446744073709551616 := by decide
                                                   omega
  go_enter Try.func55, Try.ntmps55
  go_wp2_with fail
  have hr : Row (w.alloc (.cells #[.int .u32 ((v : Int) % 4294967296), .int .u32 ((v : Int) / 4294967296)] 40)) w.heap.size [v % Ba, v / Ba] := Row.new w [v % Ba, v / Ba]
  have hb : Below w.heap.size w (w.alloc (.cells #[.int .u32 ((v : Int) % 4294967296), .int .u32 ((v : Int) / 4294967296)] 40)) := (Below.refl _ _).alloc (Nat.le_refl _) _
  refine (rTrim_c _ [v % Ba, v / Ba] 2 _ (hr.own (Lb_two hv) (Nat.le_refl _) (by simp)).lim (by simp)).mono ?_
  rintro e w' ⟨A', c', rfl, r3, r4⟩
  rw [val_two] at r3 ⊢
  go_wp2
  go_ret
  exact ⟨A', c', rfl, r3.mono (by simp), hb.trans (r4.mono (by simp))⟩


/- Contracts of the reference of layer 2: canonical integers, equality, numbers of the language. -/

/-- the box of the result -/
theorem one_box (w : World) (u v : Value) :
    ∃ W, w.alloc (.cells #[u, v] 24) = W ∧ Below w.heap.size w W ∧ W.heap.size = w.heap.size + 1 ∧
      (W.cell? ⟨w.heap.size, 0, none⟩ = some u ∧ W.cell? ⟨w.heap.size, 1, none⟩ = some v ∧ W.frozen? ⟨w.heap.size, 0, none⟩ = false ∧ W.frozen? ⟨w.heap.size, 1, none⟩ = false) := by
  refine ⟨_, rfl, (Below.refl _ _).alloc (Nat.le_refl _) _, by simp, ?_⟩
  refine ⟨?_, ?_, ?_, ?_⟩ <;> go_simp

set_option maxHeartbeats 400000 in
theorem Make_c (p : Bool) (A : Option Addr) (xs : List Nat) (c : Nat) (w : World) (h : Lim w A c xs) (hs : xs.length ≤ 70368744177664) :
    Calls Try.prog 53 #[.bool p, .slice A xs.length c] w (RetInt w (iv p xs)) := by
  go_enter Try.func53, Try.ntmps53
  go_wp2_with fail
  obtain ⟨W, hW, hbW, hsz, kr⟩ := one_box w (.bool false) (.slice none 0 0)
  rw [hW]
  clear hW
  have hz : w.heap.size + 1 ≤ W.heap.size := by omega
  clear hsz
  refine (rTrim_c A xs c _ (h.below hbW) hs).mono ?_
  rintro e w1 ⟨A1, c1, rfl, r3, bw1⟩
  obtain ⟨m1, m2, m3, m4⟩ := keepR bw1 (show w.heap.size < W.heap.size by omega) kr
  have hbw : Below w.heap.size w w1 := hbW.trans (bw1.mono (show w.heap.size ≤ W.heap.size by omega))
  have hret := fun u => @ret_signed w _ p (val xs) (iv p xs) A1 c1 rfl ((r3.put2 (N := w.heap.size) (show w.heap.size < W.heap.size by omega) u (.slice A1 (limbs (val xs)).length c1)).mono (show w.heap.size ≤ W.heap.size by omega)) (below_put2 hbw (Nat.le_refl _) _ _)
  have HR := Lib.hid hret
  clear hret hbw r3 bw1 hbW kr h hs
  generalize (limbs (val xs)).length = n at *
  cases p
  · go_wp2
    exact bodyPost_ret (v := .agg #[.bool false, .slice A1 n c1]) (by simp [results, Try.results53, go_sem, m1, m2]) rfl (HR.out (.bool false))
  · by_cases h : 0 < n
    · have hd : (true && decide (0 < n)) = true := by simp [h]
      have HR2 := HR.out (.bool true)
      rw [hd] at HR2
      have HR3 := Lib.hid HR2
      clear HR2 hd
      go_wp2
      exact bodyPost_ret (v := .agg #[.bool true, .slice A1 n c1]) (by simp [results, Try.results53, go_sem, m1, m2]) rfl HR3.out
    · have h' : ¬ (0 : Int) < (n : Int) := by omega
      have hd : (true && decide (0 < n)) = false := by simp; omega
      have HR2 := HR.out (.bool false)
      rw [hd] at HR2
      have HR3 := Lib.hid HR2
      clear HR2 hd
      go_wp2
      all_goals exact bodyPost_ret (v := .agg #[.bool false, .slice A1 n c1]) (by simp [results, Try.results53, go_sem, m1, m2]) rfl HR3.out

set_option maxHeartbeats 400000 in
theorem rIEqual_c (p q : Bool) (A B : Option Addr) (xs ys : List Nat) (c d : Nat) (w : World) (ha : Lim w A c xs) (hb : Lim w B d ys) (hs : xs.length ≤ 70368744177664) (ht : ys.length ≤ 70368744177664) :
    Calls Try.prog 35 #[.agg #[.bool p, .slice A xs.length c], .agg #[.bool q, .slice B ys.length d]] w (RetB w (decide (p = q ∧ xs = ys))) := by
  by_cases h : p = q
  · subst h
    have hpp : (p == p) = true := by simp
    have he : decide (p = p ∧ xs = ys) = decide (xs = ys) := by simp
    rw [he]
    clear he
    go_enter Try.func35, Try.ntmps35
    go_wp2_with fail
    obtain ⟨W, hW, hbW, hsz, k1, k2, k3, k4⟩ := two_boxes w p p (.slice A xs.length c) (.slice B ys.length d)
    rw [hW]
    clear hW hsz
    refine (rEqual_c A B xs ys c d _ (ha.below hbW) (hb.below hbW) hs ht).mono ?_
    rintro e w' ⟨rfl, n, rfl⟩
    go_wp2
    go_ret
    exact ⟨rfl, below_drewN hbW n⟩
  · have hpp : (p == q) = false := by simp [h]
    have he : decide (p = q ∧ xs = ys) = false := by simp [h]
    rw [he]
    clear he
    go_enter Try.func35, Try.ntmps35
    go_wp2
    go_ret
    exact ⟨rfl, ((Below.refl _ _).alloc (Nat.le_refl _) _).alloc (by simp) _⟩

set_option maxHeartbeats 400000 in
theorem rFromInt_c (v : Int) (w : World) (h1 : -9223372036854775808 ≤ v) (h2 : v ≤ 9223372036854775807) :
    Calls Try.prog 16 #[.int .i64 v] w (RetInt w v) := by
  have hB : Ba * Ba = 18446744073709551616 := by decide
  obtain ⟨W, hW, hbW, hsz, kr⟩ := one_box w (.bool false) (.slice none 0 0)
  have hz : w.heap.size + 1 ≤ W.heap.size := by omega
  clear hsz
  have HW := Lib.hid hW
  clear hW
  by_cases h0 : v < 0
  · obtain ⟨m, hm⟩ : ∃ m : Nat, -v = (m : Int) := ⟨(-v).toNat, by omega⟩
    have hm2 : m < Ba * Ba := by omega
    have HM := Lib.hid hm
    clear hm hB
    have hl := Nat.le_trans (limbs_two.2 hm2) (show 2 ≤ 70368744177664 by omega)
    go_enter Try.func16, Try.ntmps16
    go_wp2_with fail
    rw [HW.out, show (-(v + 1) + 1) = (m : Int) from by have := HM.out; omega]
    refine (rFromUint64_c m _ hm2).mono ?_
    rintro e w1 ⟨A1, c1, rfl, r3, bw1⟩
    obtain ⟨m1, m2, m3, m4⟩ := keepR bw1 (show w.heap.size < W.heap.size by omega) kr
    go_wp2_with fail
    refine (Make_c true A1 (limbs m) c1 _ r3.lim hl).mono ?_
    rintro e w2 ⟨A2, c2, rfl, q3, bw2⟩
    obtain ⟨n1, n2, n3, n4⟩ := keepR bw2 (Nat.lt_of_lt_of_le (show w.heap.size < W.heap.size by omega) bw1.size) ⟨m1, m2, m3, m4⟩
    have ev : iv true (limbs m) = v := by unfold iv; rw [val_limbs]; have := HM.out; simp; omega
    rw [ev] at q3 ⊢
    have hret : RetInt w v (.returned (.agg #[.bool (decide (v < 0)), .slice A2 (limbs v.natAbs).length c2])) ((w2.setCell ⟨w.heap.size, 0, none⟩ (.bool (decide (v < 0)))).setCell ⟨w.heap.size, 1, none⟩ (.slice A2 (limbs v.natAbs).length c2)) :=
      ⟨A2, c2, rfl, (q3.put2 (Nat.lt_of_lt_of_le (show w.heap.size < W.heap.size by omega) bw1.size) _ _).mono (Nat.le_trans (show w.heap.size ≤ W.heap.size by omega) bw1.size), below_put2 ((hbW.trans (bw1.mono (show w.heap.size ≤ W.heap.size by omega))).trans (bw2.mono (Nat.le_trans (show w.heap.size ≤ W.heap.size by omega) bw1.size))) (Nat.le_refl _) _ _⟩
    clear ev q3 r3 bw1 bw2 hbW kr m1 m2 m3 m4
    have hd : decide (v < 0) = true := by simp; omega
    rw [hd] at hret ⊢
    clear hd
    go_wp2
    exact bodyPost_ret (v := .agg #[.bool true, .slice A2 (limbs v.natAbs).length c2]) (by simp [results, Try.results16, go_sem, n1, n2]) rfl hret
  · obtain ⟨m, hm⟩ : ∃ m : Nat, v = (m : Int) := ⟨v.toNat, by omega⟩
    have hm2 : m < Ba * Ba := by omega
    have HM := Lib.hid hm
    clear hm hB
    have hl := Nat.le_trans (limbs_two.2 hm2) (show 2 ≤ 70368744177664 by omega)
    go_enter Try.func16, Try.ntmps16
    go_wp2_with fail
    rw [HW.out, show v = (m : Int) from by have := HM.out; omega]
    refine (rFromUint64_c m _ hm2).mono ?_
    rintro e w1 ⟨A1, c1, rfl, r3, bw1⟩
    obtain ⟨m1, m2, m3, m4⟩ := keepR bw1 (show w.heap.size < W.heap.size by omega) kr
    go_wp2_with fail
    refine (Make_c false A1 (limbs m) c1 _ r3.lim hl).mono ?_
    rintro e w2 ⟨A2, c2, rfl, q3, bw2⟩
    obtain ⟨n1, n2, n3, n4⟩ := keepR bw2 (Nat.lt_of_lt_of_le (show w.heap.size < W.heap.size by omega) bw1.size) ⟨m1, m2, m3, m4⟩
    have ev : iv false (limbs m) = v := by unfold iv; rw [val_limbs]; have := HM.out; simp; omega
    rw [ev] at q3 ⊢
    have hret : RetInt w v (.returned (.agg #[.bool (decide (v < 0)), .slice A2 (limbs v.natAbs).length c2])) ((w2.setCell ⟨w.heap.size, 0, none⟩ (.bool (decide (v < 0)))).setCell ⟨w.heap.size, 1, none⟩ (.slice A2 (limbs v.natAbs).length c2)) :=
      ⟨A2, c2, rfl, (q3.put2 (Nat.lt_of_lt_of_le (show w.heap.size < W.heap.size by omega) bw1.size) _ _).mono (Nat.le_trans (show w.heap.size ≤ W.heap.size by omega) bw1.size), below_put2 ((hbW.trans (bw1.mono (show w.heap.size ≤ W.heap.size by omega))).trans (bw2.mono (Nat.le_trans (show w.heap.size ≤ W.heap.size by omega) bw1.size))) (Nat.le_refl _) _ _⟩
    clear ev q3 r3 bw1 bw2 hbW kr m1 m2 m3 m4
    have hd : decide (v < 0) = false := by simp; omega
    rw [hd] at hret ⊢
    clear hd
    go_wp2
    exact bodyPost_ret (v := .agg #[.bool false, .slice A2 (limbs v.natAbs).length c2]) (by simp [results, Try.results16, go_sem, n1, n2]) rfl hret


/- Contracts of package integer: division, from a contract of the division of naturals. -/

/-- two boxed integers and the boxes of two results -/
theorem four_boxes (w : World) (p q : Bool) (u v : Value) :
    ∃ W, (((w.alloc (.cells #[.bool p, u] 24)).alloc (.cells #[.bool q, v] 24)).alloc (.cells #[.bool false, .slice none 0 0] 24)).alloc (.cells #[.bool false, .slice none 0 0] 24) = W ∧ Below w.heap.size w W ∧ W.heap.size = w.heap.size + 4 ∧
      (W.cell? ⟨w.heap.size, 0, none⟩ = some (.bool p) ∧ W.cell? ⟨w.heap.size, 1, none⟩ = some u ∧ W.cell? ⟨w.heap.size + 1, 0, none⟩ = some (.bool q) ∧ W.cell? ⟨w.heap.size + 1, 1, none⟩ = some v) ∧
      (W.cell? ⟨w.heap.size + 1 + 1, 0, none⟩ = some (.bool false) ∧ W.cell? ⟨w.heap.size + 1 + 1, 1, none⟩ = some (.slice none 0 0) ∧ W.frozen? ⟨w.heap.size + 1 + 1, 0, none⟩ = false ∧ W.frozen? ⟨w.heap.size + 1 + 1, 1, none⟩ = false) ∧
      (W.cell? ⟨w.heap.size + 1 + 1 + 1, 0, none⟩ = some (.bool false) ∧ W.cell? ⟨w.heap.size + 1 + 1 + 1, 1, none⟩ = some (.slice none 0 0) ∧ W.frozen? ⟨w.heap.size + 1 + 1 + 1, 0, none⟩ = false ∧ W.frozen? ⟨w.heap.size + 1 + 1 + 1, 1, none⟩ = false) := by
  refine ⟨_, rfl, ((((Below.refl _ _).alloc (Nat.le_refl _) _).alloc (by simp) _).alloc (by simp; omega) _).alloc (by simp; omega) _, by simp, ?_, ?_, ?_⟩
  · refine ⟨?_, ?_, ?_, ?_⟩ <;> go_simp
  · refine ⟨?_, ?_, ?_, ?_⟩ <;> go_simp
  · refine ⟨?_, ?_, ?_, ?_⟩ <;> go_simp

/-- what the division of integers returns -/
def RetDivI (w : World) (q r : Int) (e : Ending) (w' : World) : Prop :=
  ∃ A c B d, e = .returned (.tuple #[.agg #[.bool (decide (q < 0)), .slice A (limbs q.natAbs).length c], .agg #[.bool (decide (r < 0)), .slice B (limbs r.natAbs).length d], .bool true]) ∧
    Own w.heap.size w' A c (limbs q.natAbs) ∧ Own w.heap.size w' B d (limbs r.natAbs) ∧ Below w.heap.size w w'

theorem ret_signed2 {w w' : World} {p : Bool} {m n : Nat} {q r : Int} {A B : Option Addr} {c d : Nat} (hq : q = mkI p m) (hr : r = mkI false n) (ho : Own w.heap.size w' A c (limbs m)) (hp : Own w.heap.size w' B d (limbs n)) (hb : Below w.heap.size w w') :
    RetDivI w q r (.returned (.tuple #[.agg #[.bool (p && decide (0 < (limbs m).length)), .slice A (limbs m).length c], .agg #[.bool (false && decide (0 < (limbs n).length)), .slice B (limbs n).length d], .bool true])) w' := by
  subst hq hr
  refine ⟨A, c, B, d, ?_, ?_, ?_, hb⟩
  · rw [mkI_natAbs, mkI_natAbs, mkI_neg, mkI_neg]
  · rw [mkI_natAbs]; exact ho
  · rw [mkI_natAbs]; exact hp

theorem euclid {a b q r : Int} (h : r + b * q = a) (h0 : 0 ≤ r) (h1 : r < b.natAbs) : a / b = q ∧ a % b = r := by
  rcases Int.lt_trichotomy b 0 with hb | hb | hb
  · have h2 : a / (-b) = -q ∧ a % (-b) = r := (Int.ediv_emod_unique (by omega)).2 ⟨by rw [← h]; grind, h0, by omega⟩
    rw [Int.ediv_neg, Int.emod_neg] at h2
    exact ⟨by omega, h2.2⟩
  · subst hb; simp at h1; omega
  · exact (Int.ediv_emod_unique hb).2 ⟨by rw [← h], h0, by omega⟩
theorem ediv_mk (p q : Bool) {a b : Nat} (hb : b ≠ 0) (h : p = false ∨ a % b = 0) : mkI p a / mkI q b = mkI (p != q) (a / b) ∧ mkI p a % mkI q b = mkI false (a % b) := by
  have h1 := Nat.div_add_mod a b
  have h2 := Nat.mod_lt a (Nat.pos_of_ne_zero hb)
  generalize a / b = m at *
  generalize a % b = n at *
  subst h1
  apply euclid
  · cases p <;> cases q <;> simp [mkI] at * <;> grind
  · simp [mkI]
  · cases q <;> simp [mkI] <;> omega
theorem ediv_mk' (q : Bool) {a b : Nat} (hb : b ≠ 0) (h : a % b ≠ 0) : mkI true a / mkI q b = mkI (true != q) (a / b + 1) ∧ mkI true a % mkI q b = mkI false (b - a % b) := by
  have h1 := Nat.div_add_mod a b
  have h2 := Nat.mod_lt a (Nat.pos_of_ne_zero hb)
  generalize a / b = m at *
  generalize a % b = n at *
  subst h1
  have e : ((b - n : Nat) : Int) = b - n := by omega
  apply euclid
  · cases q <;> simp [mkI, e] at * <;> grind
  · simp [mkI]
  · cases q <;> simp [mkI] <;> omega

theorem Own.put4 {lo N M : Nat} {w : World} {A : Option Addr} {c : Nat} {xs : List Nat} (h : Own lo w A c xs) (hN : N < lo) (hM : M < lo) (u v x y : Value) : Own lo ((((w.setCell ⟨N, 0, none⟩ u).setCell ⟨N, 1, none⟩ v).setCell ⟨M, 0, none⟩ x).setCell ⟨M, 1, none⟩ y) A c xs :=
  (h.put2 hN u v).put2 hM x y

set_option maxHeartbeats 1000000 in
theorem IDivMod_plain (p q : Bool) (A B : Option Addr) (xs ys : List Nat) (c d : Nat) (w : World) (h0 : val ys ≠ 0)
    (H : ∀ W, Below w.heap.size w W → Calls Try.prog 95 #[.slice A xs.length c, .slice B ys.length d] W (RetDiv W (val xs / val ys) (val xs % val ys))) (hp : p = false ∨ val xs % val ys = 0) :
    Calls Try.prog 82 #[.agg #[.bool p, .slice A xs.length c], .agg #[.bool q, .slice B ys.length d]] w (RetDivI w (iv p xs / iv q ys) (iv p xs % iv q ys)) := by
  have HE := Lib.hid (ediv_mk p q h0 hp)
  have hcase : p = false ∨ (limbs (val xs % val ys)).length = 0 := by
    rcases hp with h | h
    · exact .inl h
    · right; rw [h, limbs_zero]; rfl
  clear hp
  go_enter Try.func82, Try.ntmps82
  go_wp2_with fail
  obtain ⟨W, hW, hbW, hsz, k, kr, ks⟩ := four_boxes w p q (.slice A xs.length c) (.slice B ys.length d)
  rw [hW]
  clear hW
  have hz : w.heap.size + 4 ≤ W.heap.size := by omega
  clear hsz
  refine (H W hbW).mono ?_
  rintro e w1 ⟨A1, c1, A2, c2, rfl, r1, r2, bw1⟩
  obtain ⟨l1, l2, l3, l4⟩ := keep2 bw1 (show w.heap.size + 2 ≤ W.heap.size by omega) k
  have g2 := keepR bw1 (show w.heap.size + 1 + 1 < W.heap.size by omega) kr
  have g3 := keepR bw1 (show w.heap.size + 1 + 1 + 1 < W.heap.size by omega) ks
  have hz1 := bw1.size
  generalize hq : val xs / val ys = m at *
  generalize hr : val xs % val ys = n at *
  clear hq hr H k kr ks
  obtain ⟨nn, hnn⟩ : ∃ nn, (limbs n).length = nn := ⟨_, rfl⟩
  have hc2 : p = false ∨ ¬ (0 : Int) < (nn : Int) := by
    rcases hcase with h | h
    · exact .inl h
    · right; omega
  clear hcase
  have fin : ∀ (w2 w3 : World), Below w1.heap.size w1 w2 → Below w2.heap.size w2 w3 → ∀ b : Bool, b = (p != q) → 
      RetDivI w (iv p xs / iv q ys) (iv p xs % iv q ys) (.returned (.tuple #[.agg #[.bool (b && decide (0 < (limbs m).length)), .slice A1 (limbs m).length c1], .agg #[.bool (false && decide (0 < nn)), .slice A2 nn c2], .bool true]))
        ((((w3.setCell ⟨w.heap.size + 1 + 1, 0, none⟩ (.bool (b && decide (0 < (limbs m).length)))).setCell ⟨w.heap.size + 1 + 1, 1, none⟩ (.slice A1 (limbs m).length c1)).setCell ⟨w.heap.size + 1 + 1 + 1, 0, none⟩ (.bool (false && decide (0 < nn)))).setCell ⟨w.heap.size + 1 + 1 + 1, 1, none⟩ (.slice A2 nn c2)) := by
    intro w2 w3 b2 b3 b hb
    subst hb hnn
    have hlw : w.heap.size ≤ W.heap.size := by omega
    have b13 : Below w1.heap.size w1 w3 := b2.trans (b3.mono b2.size)
    exact ret_signed2 HE.out.1 HE.out.2 (((r1.below b13).put4 (by omega) (by omega) _ _ _ _).mono hlw) (((r2.below b13).put4 (by omega) (by omega) _ _ _ _).mono hlw)
      (below_put2 (below_put2 ((hbW.trans (bw1.mono hlw)).trans (b13.mono (Nat.le_trans hlw hz1))) (by omega) _ _) (by omega) _ _)
  have FIN := Lib.hid fin
  clear fin
  rw [hnn]
  clear hnn HE r1 r2 hbW
  have fin2 : ∀ (w2 w3 : World), Below w1.heap.size w1 w2 → Below w2.heap.size w2 w3 →
      (w3.cell? ⟨w.heap.size + 1 + 1, 0, none⟩ = some (.bool false) ∧ w3.cell? ⟨w.heap.size + 1 + 1, 1, none⟩ = some (.slice none 0 0) ∧ w3.frozen? ⟨w.heap.size + 1 + 1, 0, none⟩ = false ∧ w3.frozen? ⟨w.heap.size + 1 + 1, 1, none⟩ = false) ∧
      (w3.cell? ⟨w.heap.size + 1 + 1 + 1, 0, none⟩ = some (.bool false) ∧ w3.cell? ⟨w.heap.size + 1 + 1 + 1, 1, none⟩ = some (.slice none 0 0) ∧ w3.frozen? ⟨w.heap.size + 1 + 1 + 1, 0, none⟩ = false ∧ w3.frozen? ⟨w.heap.size + 1 + 1 + 1, 1, none⟩ = false) := by
    intro w2 w3 b2 b3
    have b13 : Below w1.heap.size w1 w3 := b2.trans (b3.mono b2.size)
    exact ⟨keepR b13 (by omega) g2, keepR b13 (by omega) g3⟩
  have FIN2 := Lib.hid fin2
  clear fin2 g2 g3 hz hz1 bw1
  generalize (limbs m).length = mm at *
  cases p
  · clear hc2
    go_wp2_with fail
    refine (signed_c q A1 mm c1 _).mono ?_
    rintro e w2 ⟨rfl, b2⟩
    go_wp2_with fail
    refine (signed_c false A2 nn c2 _).mono ?_
    rintro e w3 ⟨rfl, b3⟩
    obtain ⟨⟨x1, x2, x3, x4⟩, y1, y2, y3, y4⟩ := FIN2.out w2 w3 b2 b3
    have hret := FIN.out w2 w3 b2 b3 q (by cases q <;> rfl)
    rw [Bool.false_and] at hret
    go_wp2
    exact bodyPost_ret (v := .tuple #[.agg #[.bool (q && decide (0 < mm)), .slice A1 mm c1], .agg #[.bool false, .slice A2 nn c2], .bool true]) (by simp [results, Try.results82, go_sem, x1, x2, y1, y2]) rfl hret
  · have hc3 : ¬ (0 : Int) < (nn : Int) := by
      rcases hc2 with h | h
      · cases h
      · exact h
    clear hc2
    go_wp2_with fail
    refine (signed_c (!q) A1 mm c1 _).mono ?_
    rintro e w2 ⟨rfl, b2⟩
    go_wp2_with fail
    refine (signed_c false A2 nn c2 _).mono ?_
    rintro e w3 ⟨rfl, b3⟩
    obtain ⟨⟨x1, x2, x3, x4⟩, y1, y2, y3, y4⟩ := FIN2.out w2 w3 b2 b3
    have hret := FIN.out w2 w3 b2 b3 (!q) (by cases q <;> rfl)
    rw [Bool.false_and] at hret
    go_wp2
    exact bodyPost_ret (v := .tuple #[.agg #[.bool ((!q) && decide (0 < mm)), .slice A1 mm c1], .agg #[.bool false, .slice A2 nn c2], .bool true]) (by simp [results, Try.results82, go_sem, x1, x2, y1, y2]) rfl hret

set_option maxHeartbeats 1000000 in
theorem IDivMod_adj (q : Bool) (A B : Option Addr) (xs ys : List Nat) (c d : Nat) (w : World) (ha : Lim w A c xs) (hb : Lim w B d ys) (hs : xs.length < 70368744177664) (ht : ys.length ≤ 70368744177664) (h0 : val ys ≠ 0)
    (H : ∀ W, Below w.heap.size w W → Calls Try.prog 95 #[.slice A xs.length c, .slice B ys.length d] W (RetDiv W (val xs / val ys) (val xs % val ys))) (hp : val xs % val ys ≠ 0) :
    Calls Try.prog 82 #[.agg #[.bool true, .slice A xs.length c], .agg #[.bool q, .slice B ys.length d]] w (RetDivI w (iv true xs / iv q ys) (iv true xs % iv q ys)) := by
  have HE := Lib.hid (ediv_mk' q h0 hp)
  have hn : 0 < (limbs (val xs % val ys)).length := List.length_pos_iff.2 (fun e => hp (limbs_eq_nil.1 e))
  have hn' : (0 : Int) < ((limbs (val xs % val ys)).length : Int) := by omega
  have hml : (limbs (val xs / val ys)).length < 70368744177664 := by
    have h1 := limbs_mono (Nat.div_le_self (val xs) (val ys))
    have h2 := limbs_length_le ha.lb
    omega
  have hle : val (limbs (val xs % val ys)) ≤ val ys := by
    rw [val_limbs]; exact Nat.le_of_lt (Nat.mod_lt _ (Nat.pos_of_ne_zero h0))
  go_enter Try.func82, Try.ntmps82
  go_wp2_with fail
  obtain ⟨W, hW, hbW, hsz, k, kr, ks⟩ := four_boxes w true q (.slice A xs.length c) (.slice B ys.length d)
  rw [hW]
  clear hW
  have hz : w.heap.size + 4 ≤ W.heap.size := by omega
  clear hsz
  refine (H W hbW).mono ?_
  rintro e w1 ⟨A1, c1, A2, c2, rfl, r1, r2, bw1⟩
  obtain ⟨l1, l2, l3, l4⟩ := keep2 bw1 (show w.heap.size + 2 ≤ W.heap.size by omega) k
  go_wp2_with fail
  have hrow : Row (w1.alloc (.cells #[.int .u32 1] 40)) w1.heap.size [1] := Row.new w1 [1]
  have hb1 : Below w1.heap.size w1 (w1.alloc (.cells #[.int .u32 1] 40)) := (Below.refl _ _).alloc (Nat.le_refl _) _
  refine (Add_c A1 (some ⟨w1.heap.size, 0, none⟩) (limbs (val xs / val ys)) [1] c1 1 _ (r1.lim.below hb1) (hrow.own (Lb_cons (by decide) Lb_nil) (Nat.le_refl _) (by simp)).lim hml (by simp)).mono ?_
  rintro e w2 ⟨A3, c3, rfl, r3, bw2⟩
  have e1 : val (limbs (val xs / val ys)) + val [1] = val xs / val ys + 1 := by rw [val_limbs]; rfl
  rw [e1] at r3 ⊢
  have b12 : Below w1.heap.size w1 w2 := hb1.trans (bw2.mono (by simp))
  obtain ⟨l5, l6, l7, l8⟩ := keep2 b12 (Nat.le_trans (show w.heap.size + 2 ≤ W.heap.size by omega) bw1.size) ⟨l1, l2, l3, l4⟩
  have bW2 : Below W.heap.size W w2 := bw1.trans (b12.mono bw1.size)
  have bw02 : Below w.heap.size w w2 := hbW.trans (bW2.mono (show w.heap.size ≤ W.heap.size by omega))
  clear hrow hb1 bw2
  go_wp2_with fail
  refine (Sub_ok B A2 ys (limbs (val xs % val ys)) d c2 _ (hb.below bw02) (r2.lim.below b12) ht hle).mono ?_
  rintro e w3 ⟨A4, c4, rfl, r4, bw3⟩
  rw [val_limbs] at r4 ⊢
  obtain ⟨l1', l2', l3', l4'⟩ := keep2 bw3 (Nat.le_trans (show w.heap.size + 2 ≤ W.heap.size by omega) bW2.size) ⟨l5, l6, l7, l8⟩
  have r3' := r3.below bw3
  have bW3 : Below W.heap.size W w3 := bW2.trans (bw3.mono bW2.size)
  have g2 := keepR bW3 (show w.heap.size + 1 + 1 < W.heap.size by omega) kr
  have g3 := keepR bW3 (show w.heap.size + 1 + 1 + 1 < W.heap.size by omega) ks
  have fin : ∀ (w4 w5 : World), Below w3.heap.size w3 w4 → Below w4.heap.size w4 w5 → ∀ b : Bool, b = (true != q) →
      RetDivI w (iv true xs / iv q ys) (iv true xs % iv q ys) (.returned (.tuple #[.agg #[.bool (b && decide (0 < (limbs (val xs / val ys + 1)).length)), .slice A3 (limbs (val xs / val ys + 1)).length c3], .agg #[.bool (false && decide (0 < (limbs (val ys - val xs % val ys)).length)), .slice A4 (limbs (val ys - val xs % val ys)).length c4], .bool true]))
        ((((w5.setCell ⟨w.heap.size + 1 + 1, 0, none⟩ (.bool (b && decide (0 < (limbs (val xs / val ys + 1)).length)))).setCell ⟨w.heap.size + 1 + 1, 1, none⟩ (.slice A3 (limbs (val xs / val ys + 1)).length c3)).setCell ⟨w.heap.size + 1 + 1 + 1, 0, none⟩ (.bool (false && decide (0 < (limbs (val ys - val xs % val ys)).length)))).setCell ⟨w.heap.size + 1 + 1 + 1, 1, none⟩ (.slice A4 (limbs (val ys - val xs % val ys)).length c4)) := by
    intro w4 w5 b4 b5 b hb'
    subst hb'
    have hlw : w.heap.size ≤ W.heap.size := by omega
    have b35 : Below w3.heap.size w3 w5 := b4.trans (b5.mono b4.size)
    have hz1 := bw1.size
    have hz2 := b12.size
    have hzz : W.heap.size ≤ w2.heap.size := bW2.size
    exact ret_signed2 HE.out.1 HE.out.2 (((r3'.below b35).put4 (by simp; omega) (by simp; omega) _ _ _ _).mono (by simp; omega)) (((r4.below b35).put4 (by omega) (by omega) _ _ _ _).mono (by omega))
      (below_put2 (below_put2 ((hbW.trans (bW3.mono hlw)).trans (b35.mono (Nat.le_trans hlw bW3.size))) (by omega) _ _) (by omega) _ _)
  have FIN := Lib.hid fin
  clear fin HE r1 r2 r3 r3' r4 hbW hb ha bw02
  have fin2 : ∀ (w4 w5 : World), Below w3.heap.size w3 w4 → Below w4.heap.size w4 w5 →
      (w5.cell? ⟨w.heap.size + 1 + 1, 0, none⟩ = some (.bool false) ∧ w5.cell? ⟨w.heap.size + 1 + 1, 1, none⟩ = some (.slice none 0 0) ∧ w5.frozen? ⟨w.heap.size + 1 + 1, 0, none⟩ = false ∧ w5.frozen? ⟨w.heap.size + 1 + 1, 1, none⟩ = false) ∧
      (w5.cell? ⟨w.heap.size + 1 + 1 + 1, 0, none⟩ = some (.bool false) ∧ w5.cell? ⟨w.heap.size + 1 + 1 + 1, 1, none⟩ = some (.slice none 0 0) ∧ w5.frozen? ⟨w.heap.size + 1 + 1 + 1, 0, none⟩ = false ∧ w5.frozen? ⟨w.heap.size + 1 + 1 + 1, 1, none⟩ = false) := by
    intro w4 w5 b4 b5
    have b35 : Below w3.heap.size w3 w5 := b4.trans (b5.mono b4.size)
    have hz3 := bW3.size
    exact ⟨keepR b35 (by omega) g2, keepR b35 (by omega) g3⟩
  have FIN2 := Lib.hid fin2
  clear fin2 g2 g3 bw1 bw3 b12 bW2 bW3 k kr ks l1 l2 l3 l4 l5 l6 l7 l8 H hn hn' hml hle hp e1
  generalize (limbs (val xs / val ys + 1)).length = mm at *
  generalize (limbs (val ys - val xs % val ys)).length = nn at *
  generalize (limbs (val xs / val ys)).length = m1 at *
  generalize (limbs (val xs % val ys)).length = n1 at *
  go_wp2_with fail
  refine (signed_c (!q) A3 mm c3 _).mono ?_
  rintro e w4 ⟨rfl, b4⟩
  go_wp2_with fail
  refine (signed_c false A4 nn c4 _).mono ?_
  rintro e w5 ⟨rfl, b5⟩
  obtain ⟨⟨x1, x2, x3, x4⟩, y1, y2, y3, y4⟩ := FIN2.out w4 w5 b4 b5
  have hret := FIN.out w4 w5 b4 b5 (!q) (by cases q <;> rfl)
  rw [Bool.false_and] at hret
  go_wp2
  exact bodyPost_ret (v := .tuple #[.agg #[.bool (!q && decide (0 < mm)), .slice A3 mm c3], .agg #[.bool false, .slice A4 nn c4], .bool true]) (by simp [results, Try.results82, go_sem, x1, x2, y1, y2]) rfl hret

/-- the Euclidean division of integers -/
theorem IDivMod_c (p q : Bool) (A B : Option Addr) (xs ys : List Nat) (c d : Nat) (w : World) (ha : Lim w A c xs) (hb : Lim w B d ys) (hs : xs.length < 70368744177664) (ht : ys.length ≤ 70368744177664) (h0 : val ys ≠ 0)
    (H : ∀ W, Below w.heap.size w W → Calls Try.prog 95 #[.slice A xs.length c, .slice B ys.length d] W (RetDiv W (val xs / val ys) (val xs % val ys))) :
    Calls Try.prog 82 #[.agg #[.bool p, .slice A xs.length c], .agg #[.bool q, .slice B ys.length d]] w (RetDivI w (iv p xs / iv q ys) (iv p xs % iv q ys)) := by
  by_cases h : p = false ∨ val xs % val ys = 0
  · exact IDivMod_plain p q A B xs ys c d w h0 H h
  · obtain rfl : p = true := by cases p <;> simp_all
    exact IDivMod_adj q A B xs ys c d w ha hb hs ht h0 H (fun e => h (.inr e))


/- The sanity check of layer 2's statements returns true. -/

theorem iv_canon (n : Int) : iv (decide (n < 0)) (limbs n.natAbs) = n := by
  unfold iv; rw [val_limbs]
  by_cases h : n < 0 <;> simp [h] <;> omega
theorem limbs_small {n : Nat} (h : n < Ba * Ba) : (limbs n).length < 70368744177664 := Nat.lt_of_le_of_lt (limbs_two.2 h) (by omega)

theorem cellB {B b o : Nat} {W w' : World} {v : Value} (hb : Below B W w') (hlt : b < B) (h : W.cell? ⟨b, o, none⟩ = some v) : w'.cell? ⟨b, o, none⟩ = some v :=
  (hb.cell (p := ⟨b, o, none⟩) hlt).trans h

/-- the division of small canonical integers -/
theorem IDivMod_sm (m n q r : Int) (A B : Option Addr) (c d : Nat) (w : World) (ha : Lim w A c (limbs m.natAbs)) (hb : Lim w B d (limbs n.natAbs)) (hm : m.natAbs < Ba * Ba) (h0 : n ≠ 0) (hle : n.natAbs ≤ m.natAbs) (hq : m / n = q) (hr : m % n = r) :
    Calls Try.prog 82 #[.agg #[.bool (decide (m < 0)), .slice A (limbs m.natAbs).length c], .agg #[.bool (decide (n < 0)), .slice B (limbs n.natAbs).length d]] w (RetDivI w q r) := by
  have h := IDivMod_c (decide (m < 0)) (decide (n < 0)) A B (limbs m.natAbs) (limbs n.natAbs) c d w ha hb (limbs_small hm) (Nat.le_of_lt (limbs_small (Nat.lt_of_le_of_lt hle hm))) (by rw [val_limbs]; omega)
    (fun W hW => DivMod_small A B (limbs m.natAbs) (limbs n.natAbs) c d W (ha.below hW) (hb.below hW) (by rw [val_limbs]; omega) (by rw [val_limbs, val_limbs]; exact hle) (by rw [val_limbs]; exact hm))
  rw [iv_canon, iv_canon, hq, hr] at h
  exact h

/-- equal canonical integers -/
theorem rIEq_c (n : Int) (A B : Option Addr) (c d : Nat) (w : World) (ha : Lim w A c (limbs n.natAbs)) (hb : Lim w B d (limbs n.natAbs)) (hs : (limbs n.natAbs).length ≤ 70368744177664) :
    Calls Try.prog 35 #[.agg #[.bool (decide (n < 0)), .slice A (limbs n.natAbs).length c], .agg #[.bool (decide (n < 0)), .slice B (limbs n.natAbs).length d]] w (RetB w true) := by
  have h := rIEqual_c (decide (n < 0)) (decide (n < 0)) A B (limbs n.natAbs) (limbs n.natAbs) c d w ha hb hs hs
  simpa using h


/- The walk of the statement IntegerOrder: it returns true. -/

theorem limbs_add_le {a b k : Nat} (ha : (limbs a).length ≤ k) (hb : (limbs b).length ≤ k) : (limbs (a + b)).length ≤ k + 1 := by
  have h1 := val_lt (Lb_limbs a)
  have h2 := val_lt (Lb_limbs b)
  rw [val_limbs] at h1 h2
  have h3 : Ba ^ (limbs a).length ≤ Ba ^ k := Nat.pow_le_pow_right Ba_pos ha
  have h4 : Ba ^ (limbs b).length ≤ Ba ^ k := Nat.pow_le_pow_right Ba_pos hb
  have h5 : Ba ^ (k + 1) = Ba ^ k * Ba := Nat.pow_succ ..
  have h6 : Ba ^ k * 2 ≤ Ba ^ k * Ba := Nat.mul_le_mul_left _ (by decide)
  exact limbs_length_lt (by omega)
theorem iv_natAbs (p : Bool) (xs : List Nat) : (iv p xs).natAbs = val xs := mkI_natAbs p (val xs)
/-- the size of a sum -/
theorem isum_le {m n : Int} {k : Nat} (hm : (limbs m.natAbs).length ≤ k) (hn : (limbs n.natAbs).length ≤ k) : (limbs (m + n).natAbs).length ≤ k + 1 :=
  Nat.le_trans (limbs_mono (Int.natAbs_add_le m n)) (limbs_add_le hm hn)
theorem isub_le {m n : Int} {k : Nat} (hm : (limbs m.natAbs).length ≤ k) (hn : (limbs n.natAbs).length ≤ k) : (limbs (m - n).natAbs).length ≤ k + 1 := by
  rw [Int.sub_eq_add_neg]
  exact isum_le hm (by rw [Int.natAbs_neg]; exact hn)
theorem iv_len {p : Bool} {xs : List Nat} {k : Nat} (h : Lb xs) (hl : xs.length ≤ k) : (limbs (iv p xs).natAbs).length ≤ k := by
  rw [iv_natAbs]; exact Nat.le_trans (limbs_length_le h) hl

/-- contracts at canonical arguments, with a named result -/
theorem Sign_k (n r : Int) (A : Option Addr) (c : Nat) (w : World) (h : Lim w A c (limbs n.natAbs)) (hr : sgn n = r) :
    Calls Try.prog 66 #[.agg #[.bool (decide (n < 0)), .slice A (limbs n.natAbs).length c]] w (RetI w r) := by
  have k := Sign_c (decide (n < 0)) A (limbs n.natAbs) c w h
  rw [iv_canon, hr] at k
  exact k
theorem ICompare_k (m n r : Int) (A B : Option Addr) (c d : Nat) (w : World) (ha : Lim w A c (limbs m.natAbs)) (hb : Lim w B d (limbs n.natAbs)) (hr : cmpI m n = r) :
    Calls Try.prog 68 #[.agg #[.bool (decide (m < 0)), .slice A (limbs m.natAbs).length c], .agg #[.bool (decide (n < 0)), .slice B (limbs n.natAbs).length d]] w (RetI w r) := by
  have k := ICompare_c (decide (m < 0)) (decide (n < 0)) A B (limbs m.natAbs) (limbs n.natAbs) c d w ha hb
  rw [iv_canon, iv_canon, hr] at k
  exact k
theorem ICompare_e (p q : Bool) (r : Int) (A B : Option Addr) (xs ys : List Nat) (c d : Nat) (w : World) (ha : Lim w A c xs) (hb : Lim w B d ys) (hr : cmpI (iv p xs) (iv q ys) = r) :
    Calls Try.prog 68 #[.agg #[.bool p, .slice A xs.length c], .agg #[.bool q, .slice B ys.length d]] w (RetI w r) := by
  have k := ICompare_c p q A B xs ys c d w ha hb
  rw [hr] at k
  exact k

theorem cmpI_sgn (m n : Int) : sgn (m - n) = cmpI m n := by unfold sgn cmpI; split <;> split <;> (try split) <;> (try split) <;> omega
theorem cmpI_flip (m n : Int) : cmpI n m = - cmpI m n := by unfold cmpI; split <;> split <;> (try split) <;> (try split) <;> omega
theorem cmpI_shift (m n k : Int) : cmpI (m + k) (n + k) = cmpI m n := by unfold cmpI; split <;> split <;> (try split) <;> (try split) <;> omega
theorem cmpI_bd (m n : Int) : -1 ≤ cmpI m n ∧ cmpI m n ≤ 1 := by unfold cmpI; split <;> (try split) <;> omega
theorem cmpI_trans {m n k : Int} (h1 : ¬ 0 < cmpI m n) (h2 : ¬ 0 < cmpI n k) : cmpI m k ≤ 0 := by
  unfold cmpI at *; split <;> (try split) <;> (repeat' split at h1) <;> (repeat' split at h2) <;> omega

/-- three boxed integers -/
theorem boxes3 (w : World) (p q r : Bool) (u v t : Value) :
    ∃ W, ((w.alloc (.cells #[.bool p, u] 24)).alloc (.cells #[.bool q, v] 24)).alloc (.cells #[.bool r, t] 24) = W ∧ Below w.heap.size w W ∧ W.heap.size = w.heap.size + 3 ∧
      W.cell? ⟨w.heap.size, 0, none⟩ = some (.bool p) ∧ W.cell? ⟨w.heap.size, 1, none⟩ = some u ∧ W.cell? ⟨w.heap.size + 1, 0, none⟩ = some (.bool q) ∧ W.cell? ⟨w.heap.size + 1, 1, none⟩ = some v ∧
      W.cell? ⟨w.heap.size + 1 + 1, 0, none⟩ = some (.bool r) ∧ W.cell? ⟨w.heap.size + 1 + 1, 1, none⟩ = some t := by
  refine ⟨_, rfl, (((Below.refl _ _).alloc (Nat.le_refl _) _).alloc (by simp) _).alloc (by simp; omega) _, by simp, ?_⟩
  refine ⟨?_, ?_, ?_, ?_, ?_, ?_⟩ <;> go_simp


/- Contracts of package integer: products, negation, absolute value, canonical form. -/

theorem mkI_mul (p q : Bool) (a b : Nat) : mkI p a * mkI q b = mkI (p != q) (a * b) := by
  unfold mkI; cases p <;> cases q <;> simp <;> grind

set_option maxHeartbeats 1000000 in
theorem IMul_c (p q : Bool) (A B : Option Addr) (xs ys : List Nat) (c d : Nat) (w : World) (ha : Lim w A c xs) (hb : Lim w B d ys) (hs : xs.length + ys.length ≤ 70368744177664) :
    Calls Try.prog 63 #[.agg #[.bool p, .slice A xs.length c], .agg #[.bool q, .slice B ys.length d]] w (RetInt w (iv p xs * iv q ys)) := by
  go_enter Try.func63, Try.ntmps63
  go_wp2_with fail
  obtain ⟨W, hW, hbW, hsz, k, kr⟩ := three_boxes w p q (.slice A xs.length c) (.slice B ys.length d)
  rw [hW]
  clear hW
  have hz : w.heap.size + 3 ≤ W.heap.size := by omega
  clear hsz
  obtain ⟨k1, k2, k3, k4⟩ := k
  go_wp2_with fail
  go_region_held3 (fun w' => w'.cell? ⟨w.heap.size, 0, none⟩ = some (.bool p) ∧ w'.cell? ⟨w.heap.size, 1, none⟩ = some (.slice A xs.length c) ∧ w'.cell? ⟨w.heap.size + 1, 0, none⟩ = some (.bool q) ∧ w'.cell? ⟨w.heap.size + 1, 1, none⟩ = some (.slice B ys.length d))
    (first | exact l1 | exact l2 | exact keep2 (below_put2 (Below.refl (w.heap.size + 1 + 1) w2) (Nat.le_refl _) _ _) (Nat.le_refl _) l2 | go_keep)
    (first
      | (go_at_call 64; refine (Mul_c A B xs ys c d _ ?_ ?_ hs).mono ?_; exact ha.below (below_drewN hbW 1); exact hb.below (below_drewN hbW 1); rintro e w1 ⟨A1, c1, rfl, r3, bw1⟩; have l1 := keep2 bw1 (show w.heap.size + 2 ≤ W.heap.size by omega) ⟨k1, k2, k3, k4⟩)
      | (go_at_call 96; refine (signed_c (p != q) A1 _ c1 _).mono ?_; rintro e w2 ⟨rfl, bw2⟩; have l2 := keep2 bw2 (Nat.le_trans (show w.heap.size + 2 ≤ W.heap.size by omega) bw1.size) l1; obtain ⟨m1, m2, m3, m4⟩ := keepR (N := w.heap.size + 1 + 1) bw2 (Nat.lt_of_lt_of_le (show w.heap.size + 1 + 1 < W.heap.size by omega) bw1.size) (keepR bw1 (show w.heap.size + 1 + 1 < W.heap.size by omega) kr)))
  have hbw : Below w.heap.size w w2 := ((below_drewN hbW 1).trans (bw1.mono (show w.heap.size ≤ W.heap.size by omega))).trans (bw2.mono (Nat.le_trans (show w.heap.size ≤ W.heap.size by omega) bw1.size))
  have hown := ((r3.below bw2).put2 (N := w.heap.size + 1 + 1) (show w.heap.size + 1 + 1 < W.heap.size by omega) (.bool ((p != q) && decide (0 < (limbs (val xs * val ys)).length))) (.slice A1 (limbs (val xs * val ys)).length c1)).mono (show w.heap.size ≤ W.heap.size by omega)
  have hret := ret_signed (mkI_mul p q (val xs) (val ys)) hown (below_put2 hbw (by omega) _ _)
  clear hown hbw r3 bw1 bw2 hbW kr l1 l2 k1 k2 k3 k4
  go_wp2
  exact bodyPost_ret (v := .agg #[.bool ((p != q) && decide (0 < (limbs (val xs * val ys)).length)), .slice A1 (limbs (val xs * val ys)).length c1]) (by simp [results, Try.results63, go_sem, m1, m2]) rfl hret

/-- a boxed integer and the box of the result -/
theorem boxes_ar (w : World) (p : Bool) (u : Value) :
    ∃ W, (w.alloc (.cells #[.bool p, u] 24)).alloc (.cells #[.bool false, .slice none 0 0] 24) = W ∧ Below w.heap.size w W ∧ W.heap.size = w.heap.size + 2 ∧
      (W.cell? ⟨w.heap.size, 0, none⟩ = some (.bool p) ∧ W.cell? ⟨w.heap.size, 1, none⟩ = some u) ∧
      (W.cell? ⟨w.heap.size + 1, 0, none⟩ = some (.bool false) ∧ W.cell? ⟨w.heap.size + 1, 1, none⟩ = some (.slice none 0 0) ∧ W.frozen? ⟨w.heap.size + 1, 0, none⟩ = false ∧ W.frozen? ⟨w.heap.size + 1, 1, none⟩ = false) := by
  refine ⟨_, rfl, ((Below.refl _ _).alloc (Nat.le_refl _) _).alloc (by simp) _, by simp, ?_, ?_⟩
  · refine ⟨?_, ?_⟩ <;> go_simp
  · refine ⟨?_, ?_, ?_, ?_⟩ <;> go_simp
theorem keep1 {B N : Nat} {W w1 : World} {u v : Value} (hb : Below B W w1) (hB : N < B)
    (h : W.cell? ⟨N, 0, none⟩ = some u ∧ W.cell? ⟨N, 1, none⟩ = some v) : w1.cell? ⟨N, 0, none⟩ = some u ∧ w1.cell? ⟨N, 1, none⟩ = some v :=
  ⟨(hb.cell (p := ⟨N, 0, none⟩) hB).trans h.1, (hb.cell (p := ⟨N, 1, none⟩) hB).trans h.2⟩

set_option maxHeartbeats 1000000 in
theorem INorm_c (p : Bool) (A : Option Addr) (xs : List Nat) (c : Nat) (w : World) (ha : Lim w A c xs) (hs : xs.length ≤ 70368744177664) :
    Calls Try.prog 92 #[.agg #[.bool p, .slice A xs.length c]] w (RetInt w (iv p xs)) := by
  go_enter Try.func92, Try.ntmps92
  go_wp2_with fail
  obtain ⟨W, hW, hbW, hsz, k, kr⟩ := boxes_ar w p (.slice A xs.length c)
  rw [hW]
  clear hW
  have hz : w.heap.size + 2 ≤ W.heap.size := by omega
  clear hsz
  obtain ⟨k1, k2⟩ := k
  go_region_held3 (fun w' => w'.cell? ⟨w.heap.size, 0, none⟩ = some (.bool p) ∧ w'.cell? ⟨w.heap.size, 1, none⟩ = some (.slice A xs.length c))
    (first | exact l1 | exact l2 | exact keep1 (below_put2 (Below.refl (w.heap.size + 1) w2) (Nat.le_refl _) _ _) (Nat.lt_succ_self _) l2 | go_keep)
    (first
      | (go_at_call 93; refine (Trim_c A xs c _ ?_ hs).mono ?_; exact ha.below (below_drewN hbW 1); rintro e w1 ⟨A1, c1, rfl, r3, bw1⟩; have l1 := keep1 bw1 (show w.heap.size < W.heap.size by omega) ⟨k1, k2⟩)
      | (go_at_call 96; refine (signed_c p A1 _ c1 _).mono ?_; rintro e w2 ⟨rfl, bw2⟩; have l2 := keep1 bw2 (Nat.lt_of_lt_of_le (show w.heap.size < W.heap.size by omega) bw1.size) l1; obtain ⟨m1, m2, m3, m4⟩ := keepR (N := w.heap.size + 1) bw2 (Nat.lt_of_lt_of_le (show w.heap.size + 1 < W.heap.size by omega) bw1.size) (keepR bw1 (show w.heap.size + 1 < W.heap.size by omega) kr)))
  have hbw : Below w.heap.size w w2 := ((below_drewN hbW 1).trans (bw1.mono (show w.heap.size ≤ W.heap.size by omega))).trans (bw2.mono (Nat.le_trans (show w.heap.size ≤ W.heap.size by omega) bw1.size))
  have hown := ((r3.below bw2).put2 (N := w.heap.size + 1) (show w.heap.size + 1 < W.heap.size by omega) (.bool (p && decide (0 < (limbs (val xs)).length))) (.slice A1 (limbs (val xs)).length c1)).mono (show w.heap.size ≤ W.heap.size by omega)
  have hret := ret_signed (n := iv p xs) rfl hown (below_put2 hbw (by omega) _ _)
  clear hown hbw r3 bw1 bw2 hbW kr l1 l2 k1 k2
  go_wp2
  exact bodyPost_ret (v := .agg #[.bool (p && decide (0 < (limbs (val xs)).length)), .slice A1 (limbs (val xs)).length c1]) (by simp [results, Try.results92, go_sem, m1, m2]) rfl hret

set_option maxHeartbeats 1000000 in
theorem INeg_c (p : Bool) (A : Option Addr) (xs : List Nat) (c : Nat) (w : World) (ha : Lim w A c xs) (hs : xs.length ≤ 70368744177664) :
    Calls Try.prog 60 #[.agg #[.bool p, .slice A xs.length c]] w (RetInt w (- iv p xs)) := by
  go_enter Try.func60, Try.ntmps60
  go_wp2_with fail
  obtain ⟨W, hW, hbW, hsz, k, kr⟩ := boxes_ar w p (.slice A xs.length c)
  rw [hW]
  clear hW
  have hz : w.heap.size + 2 ≤ W.heap.size := by omega
  clear hsz
  obtain ⟨k1, k2⟩ := k
  go_region_held3 (fun w' => w'.cell? ⟨w.heap.size, 0, none⟩ = some (.bool p) ∧ w'.cell? ⟨w.heap.size, 1, none⟩ = some (.slice A xs.length c))
    (first | exact l1 | exact l2 | exact keep1 (below_put2 (Below.refl (w.heap.size + 1) w2) (Nat.le_refl _) _ _) (Nat.lt_succ_self _) l2 | go_keep)
    (first
      | (go_at_call 93; refine (Trim_c A xs c _ ?_ hs).mono ?_; exact ha.below (below_drewN hbW 1); rintro e w1 ⟨A1, c1, rfl, r3, bw1⟩; have l1 := keep1 bw1 (show w.heap.size < W.heap.size by omega) ⟨k1, k2⟩)
      | (go_at_call 96; refine (signed_c (!p) A1 _ c1 _).mono ?_; rintro e w2 ⟨rfl, bw2⟩; have l2 := keep1 bw2 (Nat.lt_of_lt_of_le (show w.heap.size < W.heap.size by omega) bw1.size) l1; obtain ⟨m1, m2, m3, m4⟩ := keepR (N := w.heap.size + 1) bw2 (Nat.lt_of_lt_of_le (show w.heap.size + 1 < W.heap.size by omega) bw1.size) (keepR bw1 (show w.heap.size + 1 < W.heap.size by omega) kr)))
  have hbw : Below w.heap.size w w2 := ((below_drewN hbW 1).trans (bw1.mono (show w.heap.size ≤ W.heap.size by omega))).trans (bw2.mono (Nat.le_trans (show w.heap.size ≤ W.heap.size by omega) bw1.size))
  have hown := ((r3.below bw2).put2 (N := w.heap.size + 1) (show w.heap.size + 1 < W.heap.size by omega) (.bool (!p && decide (0 < (limbs (val xs)).length))) (.slice A1 (limbs (val xs)).length c1)).mono (show w.heap.size ≤ W.heap.size by omega)
  have hret := ret_signed (n := - iv p xs) (iv_not p xs).symm hown (below_put2 hbw (by omega) _ _)
  clear hown hbw r3 bw1 bw2 hbW kr l1 l2 k1 k2
  go_wp2
  exact bodyPost_ret (v := .agg #[.bool (!p && decide (0 < (limbs (val xs)).length)), .slice A1 (limbs (val xs)).length c1]) (by simp [results, Try.results60, go_sem, m1, m2]) rfl hret


/- Contracts with named results, for the walks of the statements: integers. -/

set_option maxHeartbeats 400000 in
theorem rNorm_c (p : Bool) (A : Option Addr) (xs : List Nat) (c : Nat) (w : World) (ha : Lim w A c xs) (hs : xs.length ≤ 70368744177664) :
    Calls Try.prog 84 #[.agg #[.bool p, .slice A xs.length c]] w (RetInt w (iv p xs)) := by
  go_enter Try.func84, Try.ntmps84
  go_wp2_with fail
  obtain ⟨W, hW, hbW, hsz, k, kr⟩ := boxes_ar w p (.slice A xs.length c)
  rw [hW]
  clear hW
  have hz : w.heap.size + 2 ≤ W.heap.size := by omega
  clear hsz
  refine (Make_c p A xs c _ (ha.below hbW) hs).mono ?_
  rintro e w1 ⟨A1, c1, rfl, r3, bw1⟩
  obtain ⟨m1, m2, m3, m4⟩ := keepR bw1 (show w.heap.size + 1 < W.heap.size by omega) kr
  have hret : RetInt w (iv p xs) (.returned (.agg #[.bool (decide (iv p xs < 0)), .slice A1 (limbs (iv p xs).natAbs).length c1]))
      ((w1.setCell ⟨w.heap.size + 1, 0, none⟩ (.bool (decide (iv p xs < 0)))).setCell ⟨w.heap.size + 1, 1, none⟩ (.slice A1 (limbs (iv p xs).natAbs).length c1)) :=
    ⟨A1, c1, rfl, (r3.put2 (show w.heap.size + 1 < W.heap.size by omega) _ _).mono (show w.heap.size ≤ W.heap.size by omega), below_put2 (hbW.trans (bw1.mono (show w.heap.size ≤ W.heap.size by omega))) (by omega) _ _⟩
  clear r3 bw1 hbW kr k
  generalize iv p xs = z at *
  go_wp2
  exact bodyPost_ret (v := .agg #[.bool (decide (z < 0)), .slice A1 (limbs z.natAbs).length c1]) (by simp [results, Try.results84, go_sem, m1, m2]) rfl hret

section
variable (p q : Bool) (A B : Option Addr) (xs ys : List Nat) (c d : Nat) (w : World) (m n s : Int) (K L : Nat)
theorem IAdd_n (ha : Lim w A c xs) (hb : Lim w B d ys) (hs : xs.length ≤ K) (ht : ys.length ≤ L) (hm : iv p xs = m) (hn : iv q ys = n) (h : m + n = s) (hK : K < 70368744177664) (hL : L < 70368744177664) :
    Calls Try.prog 62 #[.agg #[.bool p, .slice A xs.length c], .agg #[.bool q, .slice B ys.length d]] w (RetInt w s) := by
  have k := IAdd_c p q A B xs ys c d w ha hb (by omega) (by omega)
  rw [hm, hn, h] at k; exact k
theorem ISub_n (ha : Lim w A c xs) (hb : Lim w B d ys) (hs : xs.length ≤ K) (ht : ys.length ≤ L) (hm : iv p xs = m) (hn : iv q ys = n) (h : m - n = s) (hK : K < 70368744177664) (hL : L < 70368744177664) :
    Calls Try.prog 87 #[.agg #[.bool p, .slice A xs.length c], .agg #[.bool q, .slice B ys.length d]] w (RetInt w s) := by
  have k := ISub_c p q A B xs ys c d w ha hb (by omega) (by omega)
  rw [hm, hn, h] at k; exact k
theorem IMul_n (ha : Lim w A c xs) (hb : Lim w B d ys) (hs : xs.length ≤ K) (ht : ys.length ≤ L) (hm : iv p xs = m) (hn : iv q ys = n) (h : m * n = s) (hK : K + L ≤ 70368744177664) :
    Calls Try.prog 63 #[.agg #[.bool p, .slice A xs.length c], .agg #[.bool q, .slice B ys.length d]] w (RetInt w s) := by
  have k := IMul_c p q A B xs ys c d w ha hb (by omega)
  rw [hm, hn, h] at k; exact k
theorem INeg_n (ha : Lim w A c xs) (hs : xs.length ≤ K) (hm : iv p xs = m) (h : -m = s) (hK : K ≤ 70368744177664) :
    Calls Try.prog 60 #[.agg #[.bool p, .slice A xs.length c]] w (RetInt w s) := by
  have k := INeg_c p A xs c w ha (by omega)
  rw [hm, h] at k; exact k
theorem rNorm_n (ha : Lim w A c xs) (hs : xs.length ≤ K) (hm : iv p xs = s) (hK : K ≤ 70368744177664) :
    Calls Try.prog 84 #[.agg #[.bool p, .slice A xs.length c]] w (RetInt w s) := by
  have k := rNorm_c p A xs c w ha (by omega)
  rw [hm] at k; exact k
end
theorem rFromInt_n (v s : Int) (w : World) (h1 : -9223372036854775808 ≤ v) (h2 : v ≤ 9223372036854775807) (h : v = s) : Calls Try.prog 16 #[.int .i64 v] w (RetInt w s) := by
  subst h; exact rFromInt_c v w h1 h2
/-- sizes -/
theorem isum_sz {m n s : Int} {k l j : Nat} (hm : (limbs m.natAbs).length ≤ k) (hn : (limbs n.natAbs).length ≤ l) (h : m + n = s) (hk : k + 1 ≤ j) (hl : l + 1 ≤ j) : (limbs s.natAbs).length ≤ j := by
  subst h
  have : (limbs (m + n).natAbs).length ≤ (j - 1) + 1 := isum_le (by omega) (by omega)
  omega
theorem isub_sz {m n s : Int} {k l j : Nat} (hm : (limbs m.natAbs).length ≤ k) (hn : (limbs n.natAbs).length ≤ l) (h : m - n = s) (hk : k + 1 ≤ j) (hl : l + 1 ≤ j) : (limbs s.natAbs).length ≤ j := by
  subst h
  have : (limbs (m - n).natAbs).length ≤ (j - 1) + 1 := isub_le (by omega) (by omega)
  omega
theorem limbs_mul_le (a b : Nat) : (limbs (a * b)).length ≤ (limbs a).length + (limbs b).length := by
  have h1 := val_lt (Lb_limbs a)
  have h2 := val_lt (Lb_limbs b)
  rw [val_limbs] at h1 h2
  apply limbs_length_lt
  rw [Nat.pow_add]
  rcases Nat.eq_zero_or_pos (Ba ^ (limbs b).length) with h | h
  · omega
  · exact Nat.mul_lt_mul_of_lt_of_le h1 (Nat.le_of_lt h2) h
theorem imul_sz {m n s : Int} {k l j : Nat} (hm : (limbs m.natAbs).length ≤ k) (hn : (limbs n.natAbs).length ≤ l) (h : m * n = s) (hk : k + l ≤ j) : (limbs s.natAbs).length ≤ j := by
  subst h
  rw [Int.natAbs_mul]
  have := limbs_mul_le m.natAbs n.natAbs
  omega
theorem ineg_sz {m s : Int} {k : Nat} (hm : (limbs m.natAbs).length ≤ k) (h : -m = s) : (limbs s.natAbs).length ≤ k := by
  subst h; rw [Int.natAbs_neg]; exact hm

end Go.Proofs.Ytaeidephegnkdaa
