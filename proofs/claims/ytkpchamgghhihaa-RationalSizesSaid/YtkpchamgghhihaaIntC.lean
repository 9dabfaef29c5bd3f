/- Contracts of package integer: division, from a contract of the division of naturals. -/
import Derived.Test.YtkpchamgghhihaaRefB
namespace Go.Proofs.Ytkpchamgghhihaa
open Go.RowKit Gm

/-- two boxed integers and the boxes of two results -/
theorem four_boxes (w : World) (p q : Bool) (u v : Value) :
    ∃ W, (((w.alloc (.cells #[.bool p, u] 38)).alloc (.cells #[.bool q, v] 38)).alloc (.cells #[.bool false, .slice none 0 0] 38)).alloc (.cells #[.bool false, .slice none 0 0] 38) = W ∧ Below w.heap.size w W ∧ W.heap.size = w.heap.size + 4 ∧
      (W.cell? ⟨w.heap.size, 0, none⟩ = some (.bool p) ∧ W.cell? ⟨w.heap.size, 1, none⟩ = some u ∧ W.cell? ⟨w.heap.size + 1, 0, none⟩ = some (.bool q) ∧ W.cell? ⟨w.heap.size + 1, 1, none⟩ = some v) ∧
      (W.cell? ⟨w.heap.size + 1 + 1, 0, none⟩ = some (.bool false) ∧ W.cell? ⟨w.heap.size + 1 + 1, 1, none⟩ = some (.slice none 0 0) ∧ W.frozen? ⟨w.heap.size + 1 + 1, 0, none⟩ = false ∧ W.frozen? ⟨w.heap.size + 1 + 1, 1, none⟩ = false) ∧
      (W.cell? ⟨w.heap.size + 1 + 1 + 1, 0, none⟩ = some (.bool false) ∧ W.cell? ⟨w.heap.size + 1 + 1 + 1, 1, none⟩ = some (.slice none 0 0) ∧ W.frozen? ⟨w.heap.size + 1 + 1 + 1, 0, none⟩ = false ∧ W.frozen? ⟨w.heap.size + 1 + 1 + 1, 1, none⟩ = false) := by
  refine ⟨_, rfl, ((((Below.refl _ _).alloc (Nat.le_refl _) _).alloc (by simp) _).alloc (by simp; omega) _).alloc (by simp; omega) _, by simp, ?_, ?_, ?_⟩
  · refine ⟨?_, ?_, ?_, ?_⟩ <;> go_simp
  · refine ⟨?_, ?_, ?_, ?_⟩ <;> go_simp
  · refine ⟨?_, ?_, ?_, ?_⟩ <;> go_simp

/-- what the division of integers returns -/
def RetDivI (w : World) (q r : Int) (e : Ending) (w' : World) : Prop :=
  ∃ A c B d, e = .returned (.tuple #[.agg #[.bool (decide (q < 0)), .slice A (limbs q.natAbs).length c], .agg #[.bool (decide (r < 0)), .slice B (limbs r.natAbs).length d], .bool true]) ∧
    Own w.heap.size w' A c (limbs q.natAbs) ∧ Own w.heap.size w' B d (limbs r.natAbs) ∧ Below w.heap.size w w'

theorem ret_signed2 {w w' : World} {p : Bool} {m n : Nat} {q r : Int} {A B : Option Addr} {c d : Nat} (hq : q = mkI p m) (hr : r = mkI false n) (ho : Own w.heap.size w' A c (limbs m)) (hp : Own w.heap.size w' B d (limbs n)) (hb : Below w.heap.size w w') :
    RetDivI w q r (.returned (.tuple #[.agg #[.bool (p && decide (0 < (limbs m).length)), .slice A (limbs m).length c], .agg #[.bool (false && decide (0 < (limbs n).length)), .slice B (limbs n).length d], .bool true])) w' := by
  subst hq hr
  refine ⟨A, c, B, d, ?_, ?_, ?_, hb⟩
  · rw [mkI_natAbs, mkI_natAbs, mkI_neg, mkI_neg]
  · rw [mkI_natAbs]; exact ho
  · rw [mkI_natAbs]; exact hp

theorem euclid {a b q r : Int} (h : r + b * q = a) (h0 : 0 ≤ r) (h1 : r < b.natAbs) : a / b = q ∧ a % b = r := by
  rcases Int.lt_trichotomy b 0 with hb | hb | hb
  · have h2 : a / (-b) = -q ∧ a % (-b) = r := (Int.ediv_emod_unique (by omega)).2 ⟨by rw [← h]; grind, h0, by omega⟩
    rw [Int.ediv_neg, Int.emod_neg] at h2
    exact ⟨by omega, h2.2⟩
  · subst hb; simp at h1; omega
  · exact (Int.ediv_emod_unique hb).2 ⟨by rw [← h], h0, by omega⟩
theorem ediv_mk (p q : Bool) {a b : Nat} (hb : b ≠ 0) (h : p = false ∨ a % b = 0) : mkI p a / mkI q b = mkI (p != q) (a / b) ∧ mkI p a % mkI q b = mkI false (a % b) := by
  have h1 := Nat.div_add_mod a b
  have h2 := Nat.mod_lt a (Nat.pos_of_ne_zero hb)
  generalize a / b = m at *
  generalize a % b = n at *
  subst h1
  apply euclid
  · cases p <;> cases q <;> simp [mkI] at * <;> grind
  · simp [mkI]
  · cases q <;> simp [mkI] <;> omega
theorem ediv_mk' (q : Bool) {a b : Nat} (hb : b ≠ 0) (h : a % b ≠ 0) : mkI true a / mkI q b = mkI (true != q) (a / b + 1) ∧ mkI true a % mkI q b = mkI false (b - a % b) := by
  have h1 := Nat.div_add_mod a b
  have h2 := Nat.mod_lt a (Nat.pos_of_ne_zero hb)
  generalize a / b = m at *
  generalize a % b = n at *
  subst h1
  have e : ((b - n : Nat) : Int) = b - n := by omega
  apply euclid
  · cases q <;> simp [mkI, e] at * <;> grind
  · simp [mkI]
  · cases q <;> simp [mkI] <;> omega

theorem Own.put4 {lo N M : Nat} {w : World} {A : Option Addr} {c : Nat} {xs : List Nat} (h : Own lo w A c xs) (hN : N < lo) (hM : M < lo) (u v x y : Value) : Own lo ((((w.setCell ⟨N, 0, none⟩ u).setCell ⟨N, 1, none⟩ v).setCell ⟨M, 0, none⟩ x).setCell ⟨M, 1, none⟩ y) A c xs :=
  (h.put2 hN u v).put2 hM x y

set_option maxHeartbeats 1000000 in
theorem IDivMod_plain (p q : Bool) (A B : Option Addr) (xs ys : List Nat) (c d : Nat) (w : World) (h0 : val ys ≠ 0)
    (H : ∀ W, Below w.heap.size w W → Calls Try.prog 14 #[.slice A xs.length c, .slice B ys.length d] W (RetDiv W (val xs / val ys) (val xs % val ys))) (hp : p = false ∨ val xs % val ys = 0) :
    Calls Try.prog 26 #[.agg #[.bool p, .slice A xs.length c], .agg #[.bool q, .slice B ys.length d]] w (RetDivI w (iv p xs / iv q ys) (iv p xs % iv q ys)) := by
  have HE := Lib.hid (ediv_mk p q h0 hp)
  have hcase : p = false ∨ (limbs (val xs % val ys)).length = 0 := by
    rcases hp with h | h
    · exact .inl h
    · right; rw [h, limbs_zero]; rfl
  clear hp
  go_enter Try.func26, Try.ntmps26
  go_wp2_with fail
  obtain ⟨W, hW, hbW, hsz, k, kr, ks⟩ := four_boxes w p q (.slice A xs.length c) (.slice B ys.length d)
  rw [hW]
  clear hW
  have hz : w.heap.size + 4 ≤ W.heap.size := by omega
  clear hsz
  refine (H W hbW).mono ?_
  rintro e w1 ⟨A1, c1, A2, c2, rfl, r1, r2, bw1⟩
  obtain ⟨l1, l2, l3, l4⟩ := keep2 bw1 (show w.heap.size + 2 ≤ W.heap.size by omega) k
  have g2 := keepR bw1 (show w.heap.size + 1 + 1 < W.heap.size by omega) kr
  have g3 := keepR bw1 (show w.heap.size + 1 + 1 + 1 < W.heap.size by omega) ks
  have hz1 := bw1.size
  generalize hq : val xs / val ys = m at *
  generalize hr : val xs % val ys = n at *
  clear hq hr H k kr ks
  obtain ⟨nn, hnn⟩ : ∃ nn, (limbs n).length = nn := ⟨_, rfl⟩
  have hc2 : p = false ∨ ¬ (0 : Int) < (nn : Int) := by
    rcases hcase with h | h
    · exact .inl h
    · right; omega
  clear hcase
  have fin : ∀ (w2 w3 : World), Below w1.heap.size w1 w2 → Below w2.heap.size w2 w3 → ∀ b : Bool, b = (p != q) → 
      RetDivI w (iv p xs / iv q ys) (iv p xs % iv q ys) (.returned (.tuple #[.agg #[.bool (b && decide (0 < (limbs m).length)), .slice A1 (limbs m).length c1], .agg #[.bool (false && decide (0 < nn)), .slice A2 nn c2], .bool true]))
        ((((w3.setCell ⟨w.heap.size + 1 + 1, 0, none⟩ (.bool (b && decide (0 < (limbs m).length)))).setCell ⟨w.heap.size + 1 + 1, 1, none⟩ (.slice A1 (limbs m).length c1)).setCell ⟨w.heap.size + 1 + 1 + 1, 0, none⟩ (.bool (false && decide (0 < nn)))).setCell ⟨w.heap.size + 1 + 1 + 1, 1, none⟩ (.slice A2 nn c2)) := by
    intro w2 w3 b2 b3 b hb
    subst hb hnn
    have hlw : w.heap.size ≤ W.heap.size := by omega
    have b13 : Below w1.heap.size w1 w3 := b2.trans (b3.mono b2.size)
    exact ret_signed2 HE.out.1 HE.out.2 (((r1.below b13).put4 (by omega) (by omega) _ _ _ _).mono hlw) (((r2.below b13).put4 (by omega) (by omega) _ _ _ _).mono hlw)
      (below_put2 (below_put2 ((hbW.trans (bw1.mono hlw)).trans (b13.mono (Nat.le_trans hlw hz1))) (by omega) _ _) (by omega) _ _)
  have FIN := Lib.hid fin
  clear fin
  rw [hnn]
  clear hnn HE r1 r2 hbW
  have fin2 : ∀ (w2 w3 : World), Below w1.heap.size w1 w2 → Below w2.heap.size w2 w3 →
      (w3.cell? ⟨w.heap.size + 1 + 1, 0, none⟩ = some (.bool false) ∧ w3.cell? ⟨w.heap.size + 1 + 1, 1, none⟩ = some (.slice none 0 0) ∧ w3.frozen? ⟨w.heap.size + 1 + 1, 0, none⟩ = false ∧ w3.frozen? ⟨w.heap.size + 1 + 1, 1, none⟩ = false) ∧
      (w3.cell? ⟨w.heap.size + 1 + 1 + 1, 0, none⟩ = some (.bool false) ∧ w3.cell? ⟨w.heap.size + 1 + 1 + 1, 1, none⟩ = some (.slice none 0 0) ∧ w3.frozen? ⟨w.heap.size + 1 + 1 + 1, 0, none⟩ = false ∧ w3.frozen? ⟨w.heap.size + 1 + 1 + 1, 1, none⟩ = false) := by
    intro w2 w3 b2 b3
    have b13 : Below w1.heap.size w1 w3 := b2.trans (b3.mono b2.size)
    exact ⟨keepR b13 (by omega) g2, keepR b13 (by omega) g3⟩
  have FIN2 := Lib.hid fin2
  clear fin2 g2 g3 hz hz1 bw1
  generalize (limbs m).length = mm at *
  cases p
  · clear hc2
    go_wp2_with fail
    refine (signed_c q A1 mm c1 _).mono ?_
    rintro e w2 ⟨rfl, b2⟩
    go_wp2_with fail
    refine (signed_c false A2 nn c2 _).mono ?_
    rintro e w3 ⟨rfl, b3⟩
    obtain ⟨⟨x1, x2, x3, x4⟩, y1, y2, y3, y4⟩ := FIN2.out w2 w3 b2 b3
    have hret := FIN.out w2 w3 b2 b3 q (by cases q <;> rfl)
    rw [Bool.false_and] at hret
    go_wp2
    exact bodyPost_ret (v := .tuple #[.agg #[.bool (q && decide (0 < mm)), .slice A1 mm c1], .agg #[.bool false, .slice A2 nn c2], .bool true]) (by simp [results, Try.results26, go_sem, x1, x2, y1, y2]) rfl hret
  · have hc3 : ¬ (0 : Int) < (nn : Int) := by
      rcases hc2 with h | h
      · cases h
      · exact h
    clear hc2
    go_wp2_with fail
    refine (signed_c (!q) A1 mm c1 _).mono ?_
    rintro e w2 ⟨rfl, b2⟩
    go_wp2_with fail
    refine (signed_c false A2 nn c2 _).mono ?_
    rintro e w3 ⟨rfl, b3⟩
    obtain ⟨⟨x1, x2, x3, x4⟩, y1, y2, y3, y4⟩ := FIN2.out w2 w3 b2 b3
    have hret := FIN.out w2 w3 b2 b3 (!q) (by cases q <;> rfl)
    rw [Bool.false_and] at hret
    go_wp2
    exact bodyPost_ret (v := .tuple #[.agg #[.bool ((!q) && decide (0 < mm)), .slice A1 mm c1], .agg #[.bool false, .slice A2 nn c2], .bool true]) (by simp [results, Try.results26, go_sem, x1, x2, y1, y2]) rfl hret

set_option maxHeartbeats 1000000 in
theorem IDivMod_adj (q : Bool) (A B : Option Addr) (xs ys : List Nat) (c d : Nat) (w : World) (ha : Lim w A c xs) (hb : Lim w B d ys) (hs : xs.length < 70368744177664) (ht : ys.length ≤ 70368744177664) (h0 : val ys ≠ 0)
    (H : ∀ W, Below w.heap.size w W → Calls Try.prog 14 #[.slice A xs.length c, .slice B ys.length d] W (RetDiv W (val xs / val ys) (val xs % val ys))) (hp : val xs % val ys ≠ 0) :
    Calls Try.prog 26 #[.agg #[.bool true, .slice A xs.length c], .agg #[.bool q, .slice B ys.length d]] w (RetDivI w (iv true xs / iv q ys) (iv true xs % iv q ys)) := by
  have HE := Lib.hid (ediv_mk' q h0 hp)
  have hn : 0 < (limbs (val xs % val ys)).length := List.length_pos_iff.2 (fun e => hp (limbs_eq_nil.1 e))
  have hn' : (0 : Int) < ((limbs (val xs % val ys)).length : Int) := by omega
  have hml : (limbs (val xs / val ys)).length < 70368744177664 := by
    have h1 := limbs_mono (Nat.div_le_self (val xs) (val ys))
    have h2 := limbs_length_le ha.lb
    omega
  have hle : val (limbs (val xs % val ys)) ≤ val ys := by
    rw [val_limbs]; exact Nat.le_of_lt (Nat.mod_lt _ (Nat.pos_of_ne_zero h0))
  go_enter Try.func26, Try.ntmps26
  go_wp2_with fail
  obtain ⟨W, hW, hbW, hsz, k, kr, ks⟩ := four_boxes w true q (.slice A xs.length c) (.slice B ys.length d)
  rw [hW]
  clear hW
  have hz : w.heap.size + 4 ≤ W.heap.size := by omega
  clear hsz
  refine (H W hbW).mono ?_
  rintro e w1 ⟨A1, c1, A2, c2, rfl, r1, r2, bw1⟩
  obtain ⟨l1, l2, l3, l4⟩ := keep2 bw1 (show w.heap.size + 2 ≤ W.heap.size by omega) k
  go_wp2_with fail
  have hrow : Row (w1.alloc (.cells #[.int .u32 1] 24)) w1.heap.size [1] := Row.new w1 [1]
  have hb1 : Below w1.heap.size w1 (w1.alloc (.cells #[.int .u32 1] 24)) := (Below.refl _ _).alloc (Nat.le_refl _) _
  refine (Add_c A1 (some ⟨w1.heap.size, 0, none⟩) (limbs (val xs / val ys)) [1] c1 1 _ (r1.lim.below hb1) (hrow.own (Lb_cons (by decide) Lb_nil) (Nat.le_refl _) (by simp)).lim hml (by simp)).mono ?_
  rintro e w2 ⟨A3, c3, rfl, r3, bw2⟩
  have e1 : val (limbs (val xs / val ys)) + val [1] = val xs / val ys + 1 := by rw [val_limbs]; rfl
  rw [e1] at r3 ⊢
  have b12 : Below w1.heap.size w1 w2 := hb1.trans (bw2.mono (by simp))
  obtain ⟨l5, l6, l7, l8⟩ := keep2 b12 (Nat.le_trans (show w.heap.size + 2 ≤ W.heap.size by omega) bw1.size) ⟨l1, l2, l3, l4⟩
  have bW2 : Below W.heap.size W w2 := bw1.trans (b12.mono bw1.size)
  have bw02 : Below w.heap.size w w2 := hbW.trans (bW2.mono (show w.heap.size ≤ W.heap.size by omega))
  clear hrow hb1 bw2
  go_wp2_with fail
  refine (Sub_ok B A2 ys (limbs (val xs % val ys)) d c2 _ (hb.below bw02) (r2.lim.below b12) ht hle).mono ?_
  rintro e w3 ⟨A4, c4, rfl, r4, bw3⟩
  rw [val_limbs] at r4 ⊢
  obtain ⟨l1', l2', l3', l4'⟩ := keep2 bw3 (Nat.le_trans (show w.heap.size + 2 ≤ W.heap.size by omega) bW2.size) ⟨l5, l6, l7, l8⟩
  have r3' := r3.below bw3
  have bW3 : Below W.heap.size W w3 := bW2.trans (bw3.mono bW2.size)
  have g2 := keepR bW3 (show w.heap.size + 1 + 1 < W.heap.size by omega) kr
  have g3 := keepR bW3 (show w.heap.size + 1 + 1 + 1 < W.heap.size by omega) ks
  have fin : ∀ (w4 w5 : World), Below w3.heap.size w3 w4 → Below w4.heap.size w4 w5 → ∀ b : Bool, b = (true != q) →
      RetDivI w (iv true xs / iv q ys) (iv true xs % iv q ys) (.returned (.tuple #[.agg #[.bool (b && decide (0 < (limbs (val xs / val ys + 1)).length)), .slice A3 (limbs (val xs / val ys + 1)).length c3], .agg #[.bool (false && decide (0 < (limbs (val ys - val xs % val ys)).length)), .slice A4 (limbs (val ys - val xs % val ys)).length c4], .bool true]))
        ((((w5.setCell ⟨w.heap.size + 1 + 1, 0, none⟩ (.bool (b && decide (0 < (limbs (val xs / val ys + 1)).length)))).setCell ⟨w.heap.size + 1 + 1, 1, none⟩ (.slice A3 (limbs (val xs / val ys + 1)).length c3)).setCell ⟨w.heap.size + 1 + 1 + 1, 0, none⟩ (.bool (false && decide (0 < (limbs (val ys - val xs % val ys)).length)))).setCell ⟨w.heap.size + 1 + 1 + 1, 1, none⟩ (.slice A4 (limbs (val ys - val xs % val ys)).length c4)) := by
    intro w4 w5 b4 b5 b hb'
    subst hb'
    have hlw : w.heap.size ≤ W.heap.size := by omega
    have b35 : Below w3.heap.size w3 w5 := b4.trans (b5.mono b4.size)
    have hz1 := bw1.size
    have hz2 := b12.size
    have hzz : W.heap.size ≤ w2.heap.size := bW2.size
    exact ret_signed2 HE.out.1 HE.out.2 (((r3'.below b35).put4 (by simp; omega) (by simp; omega) _ _ _ _).mono (by simp; omega)) (((r4.below b35).put4 (by omega) (by omega) _ _ _ _).mono (by omega))
      (below_put2 (below_put2 ((hbW.trans (bW3.mono hlw)).trans (b35.mono (Nat.le_trans hlw bW3.size))) (by omega) _ _) (by omega) _ _)
  have FIN := Lib.hid fin
  clear fin HE r1 r2 r3 r3' r4 hbW hb ha bw02
  have fin2 : ∀ (w4 w5 : World), Below w3.heap.size w3 w4 → Below w4.heap.size w4 w5 →
      (w5.cell? ⟨w.heap.size + 1 + 1, 0, none⟩ = some (.bool false) ∧ w5.cell? ⟨w.heap.size + 1 + 1, 1, none⟩ = some (.slice none 0 0) ∧ w5.frozen? ⟨w.heap.size + 1 + 1, 0, none⟩ = false ∧ w5.frozen? ⟨w.heap.size + 1 + 1, 1, none⟩ = false) ∧
      (w5.cell? ⟨w.heap.size + 1 + 1 + 1, 0, none⟩ = some (.bool false) ∧ w5.cell? ⟨w.heap.size + 1 + 1 + 1, 1, none⟩ = some (.slice none 0 0) ∧ w5.frozen? ⟨w.heap.size + 1 + 1 + 1, 0, none⟩ = false ∧ w5.frozen? ⟨w.heap.size + 1 + 1 + 1, 1, none⟩ = false) := by
    intro w4 w5 b4 b5
    have b35 : Below w3.heap.size w3 w5 := b4.trans (b5.mono b4.size)
    have hz3 := bW3.size
    exact ⟨keepR b35 (by omega) g2, keepR b35 (by omega) g3⟩
  have FIN2 := Lib.hid fin2
  clear fin2 g2 g3 bw1 bw3 b12 bW2 bW3 k kr ks l1 l2 l3 l4 l5 l6 l7 l8 H hn hn' hml hle hp e1
  generalize (limbs (val xs / val ys + 1)).length = mm at *
  generalize (limbs (val ys - val xs % val ys)).length = nn at *
  generalize (limbs (val xs / val ys)).length = m1 at *
  generalize (limbs (val xs % val ys)).length = n1 at *
  go_wp2_with fail
  refine (signed_c (!q) A3 mm c3 _).mono ?_
  rintro e w4 ⟨rfl, b4⟩
  go_wp2_with fail
  refine (signed_c false A4 nn c4 _).mono ?_
  rintro e w5 ⟨rfl, b5⟩
  obtain ⟨⟨x1, x2, x3, x4⟩, y1, y2, y3, y4⟩ := FIN2.out w4 w5 b4 b5
  have hret := FIN.out w4 w5 b4 b5 (!q) (by cases q <;> rfl)
  rw [Bool.false_and] at hret
  go_wp2
  exact bodyPost_ret (v := .tuple #[.agg #[.bool (!q && decide (0 < mm)), .slice A3 mm c3], .agg #[.bool false, .slice A4 nn c4], .bool true]) (by simp [results, Try.results26, go_sem, x1, x2, y1, y2]) rfl hret

/-- the Euclidean division of integers -/
theorem IDivMod_c (p q : Bool) (A B : Option Addr) (xs ys : List Nat) (c d : Nat) (w : World) (ha : Lim w A c xs) (hb : Lim w B d ys) (hs : xs.length < 70368744177664) (ht : ys.length ≤ 70368744177664) (h0 : val ys ≠ 0)
    (H : ∀ W, Below w.heap.size w W → Calls Try.prog 14 #[.slice A xs.length c, .slice B ys.length d] W (RetDiv W (val xs / val ys) (val xs % val ys))) :
    Calls Try.prog 26 #[.agg #[.bool p, .slice A xs.length c], .agg #[.bool q, .slice B ys.length d]] w (RetDivI w (iv p xs / iv q ys) (iv p xs % iv q ys)) := by
  by_cases h : p = false ∨ val xs % val ys = 0
  · exact IDivMod_plain p q A B xs ys c d w h0 H h
  · obtain rfl : p = true := by cases p <;> simp_all
    exact IDivMod_adj q A B xs ys c d w ha hb hs ht h0 H (fun e => h (.inr e))

end Go.Proofs.Ytkpchamgghhihaa
