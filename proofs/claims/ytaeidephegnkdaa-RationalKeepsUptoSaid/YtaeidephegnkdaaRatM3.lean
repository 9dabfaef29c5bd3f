/- RatG RatH in one text. -/
import Derived.Test.YtaeidephegnkdaaRatM2
namespace Go.Proofs.Ytaeidephegnkdaa
open Go.RowKit Gm
/- Contract of rational.Mul. -/

theorem small_any (p : Bool) (A B : Option Addr) (xs ys : List Nat) (c d : Nat) (w : World) (ha : Lim w A c xs) (hb : Lim w B d ys) :
    Calls Try.prog 56 #[.agg #[.bool p, .slice A xs.length c, .slice B ys.length d]] w fun e w' => ∃ n d o, e = .returned (.tuple #[.int .i64 n, .int .i64 d, .bool o]) ∧ (o = true → Sm p xs ys n d) ∧ Below w.heap.size w w' := by
  by_cases h : val xs ≤ 2147483647 ∧ val ys ≤ 2147483647
  · refine (small_yes p A B xs ys c d w ha hb h).mono ?_
    rintro e w' ⟨n, q, hs, rfl, b⟩
    exact ⟨n, q, true, rfl, fun _ => hs, b⟩
  · refine (small_no p A B xs ys c d w ha hb h).mono ?_
    rintro e w' ⟨rfl, b⟩
    exact ⟨0, 0, false, rfl, fun h => (by cases h), b⟩
theorem rbox2r (w : World) (p q : Bool) (u v s t : Value) :
    ∃ W, ((w.alloc (.cells #[.bool p, u, v] 26)).alloc (.cells #[.bool q, s, t] 26)).alloc (.cells #[.bool false, .slice none 0 0, .slice none 0 0] 26) = W ∧ Below w.heap.size w W ∧ W.heap.size = w.heap.size + 3 ∧ RatAt W w.heap.size p u v ∧ RatAt W (w.heap.size + 1) q s t ∧ RatAt W (w.heap.size + 1 + 1) false (.slice none 0 0) (.slice none 0 0) := by
  refine ⟨_, rfl, (((Below.refl _ _).alloc (Nat.le_refl _) _).alloc (by simp) _).alloc (by simp; omega) _, by simp, ?_, ?_, ?_⟩
  · refine ⟨?_, ?_, ?_, ?_, ?_, ?_⟩ <;> go_simp
  · refine ⟨?_, ?_, ?_, ?_, ?_, ?_⟩ <;> go_simp
  · refine ⟨?_, ?_, ?_, ?_, ?_, ?_⟩ <;> go_simp
theorem rbox2 (w : World) (p q : Bool) (u v s t : Value) :
    ∃ W, (w.alloc (.cells #[.bool p, u, v] 26)).alloc (.cells #[.bool q, s, t] 26) = W ∧ Below w.heap.size w W ∧ W.heap.size = w.heap.size + 2 ∧ RatAt W w.heap.size p u v ∧ RatAt W (w.heap.size + 1) q s t := by
  refine ⟨_, rfl, ((Below.refl _ _).alloc (Nat.le_refl _) _).alloc (by simp) _, by simp, ?_, ?_⟩
  · refine ⟨?_, ?_, ?_, ?_, ?_, ?_⟩ <;> go_simp
  · refine ⟨?_, ?_, ?_, ?_, ?_, ?_⟩ <;> go_simp
theorem abs_mul_le {a b : Int} {A B : Int} (h1 : -A ≤ a) (h2 : a ≤ A) (h3 : -B ≤ b) (h4 : b ≤ B) (hA : 0 ≤ A) (hB : 0 ≤ B) : -(A * B) ≤ a * b ∧ a * b ≤ A * B := by
  have h : (a * b).natAbs ≤ (A * B).natAbs := by
    rw [Int.natAbs_mul, Int.natAbs_mul]; exact Nat.mul_le_mul (by omega) (by omega)
  have hp := Int.mul_nonneg hA hB
  omega
theorem Sm.mul {p q : Bool} {xs ys us vs : List Nat} {n d m e : Int} (h : Sm p xs ys n d) (k : Sm q us vs m e) : -4611686014132420609 ≤ n * m ∧ n * m ≤ 4611686014132420609 ∧ 1 ≤ d * e ∧ d * e ≤ 4611686014132420609 ∧ mkRat (n * m) (d * e).toNat = rv p xs ys * rv q us vs := by
  obtain ⟨h1, h2, h3, h4, h5⟩ := h
  obtain ⟨k1, k2, k3, k4, k5⟩ := k
  obtain ⟨a1, a2⟩ := abs_mul_le (A := 2147483647) (B := 2147483647) (by omega) h2 (by omega) k2 (by omega) (by omega)
  obtain ⟨b1, b2⟩ := abs_mul_le (a := d) (b := e) (A := 2147483647) (B := 2147483647) (by omega) h4 (by omega) k4 (by omega) (by omega)
  have c1 : 0 < d * e := Int.mul_pos (by omega) (by omega)
  refine ⟨by omega, by omega, by omega, by omega, ?_⟩
  rw [← h5, ← k5, Rat.mkRat_mul_mkRat, Int.toNat_mul (by omega) (by omega)]

set_option maxRecDepth 100000 in
set_option maxHeartbeats 2000000 in
theorem RMul_c (p q : Bool) (A B C E : Option Addr) (xs ys us vs : List Nat) (c d f g : Nat) (w : World) (r s t : Rat) (K : Nat) (ha : Lim w A c xs) (hb : Lim w B d ys) (hc : Lim w C f us) (he : Lim w E g vs) (k1 : xs.length ≤ K) (k2 : ys.length ≤ K) (k3 : us.length ≤ K) (k4 : vs.length ≤ K) (h1 : 1 ≤ K) (hK : K ≤ 35184372088830) (hr : rv p xs ys = r) (hs : rv q us vs = s) (ht : r * s = t) :
    Calls Try.prog 25 #[.agg #[.bool p, .slice A xs.length c, .slice B ys.length d], .agg #[.bool q, .slice C us.length f, .slice E vs.length g]] w (RetRat w t) := by
  obtain ⟨W, hW, hbW, hsz, i2, i3, i4⟩ := rbox2r w p q (.slice A xs.length c) (.slice B ys.length d) (.slice C us.length f) (.slice E vs.length g)
  have j2 := i2.lt
  have j3 := i3.lt
  have j4 := i4.lt
  obtain ⟨x0, x1, x2, _, _, _⟩ := id i2
  obtain ⟨y0, y1, y2, _, _, _⟩ := id i3
  have HW := Lib.hid hW
  have HR := Lib.hid hr
  have HS := Lib.hid hs
  have HT := Lib.hid ht
  clear hW hsz hr hs ht
  replace ha := ha.below hbW
  replace hb := hb.below hbW
  replace hc := hc.below hbW
  replace he := he.below hbW
  go_enter Try.func25, Try.ntmps25
  go_wp2_with fail
  rw [HW.out]
  refine (small_any p A B xs ys c d _ ha hb).mono ?_
  rintro e w1 ⟨n1, d1, o1, rfl, sm1, b1⟩
  clear y0 y1 y2 x0 x1 x2
  obtain ⟨y0, y1, y2, _, _, _⟩ := i3.keep b1
  have SM1 := Lib.hid sm1
  clear sm1
  go_wp2_with fail
  refine (small_any q C E us vs f g _ (hc.below b1) (he.below b1)).mono ?_
  rintro e w2 ⟨n2, d2, o2, rfl, sm2, b2⟩
  have SM2 := Lib.hid sm2
  clear sm2 y0 y1 y2
  have b02 := b1.trans (b2.mono b1.size)
  replace ha := ha.below b02
  replace hb := hb.below b02
  replace hc := hc.below b02
  replace he := he.below b02
  replace i2 := i2.keep b02
  replace i3 := i3.keep b02
  replace i4 := i4.keep b02
  have hb2 := hbW.trans (b02.mono hbW.size)
  clear b1 b2 b02 hbW j2 j3 j4
  have j2 := i2.lt
  have j3 := i3.lt
  have j4 := i4.lt
  cases o1 with
  | false =>
    obtain ⟨x0, x1, x2, _, _, _⟩ := id i2
    go_wp2_with fail
    refine (parts_c p A B xs ys c d _ r K ha hb k1 k2 h1 HR.out).mono ?_
    rintro e w3 ⟨p', A', xs', c', B', ys', d', rfl, la, lb, e1, e2, e3, e4, b3⟩
    have v11 := IntAt.new w3 p' (.slice A' xs'.length c')
    have bo := bel1 w3 (.cells #[.bool p', .slice A' xs'.length c'] 24)
    obtain ⟨w4, hw4⟩ : ∃ w4, w3.alloc (.cells #[.bool p', .slice A' xs'.length c'] 24) = w4 := ⟨_, rfl⟩
    rw [hw4] at v11 bo
    have b24 := b3.trans (bo.mono b3.size)
    have la4 := la.below bo
    have lb4 := lb.below bo
    replace i3 := i3.keep b24
    replace i4 := i4.keep b24
    replace hc := hc.below b24
    replace he := he.below b24
    replace hb2 := hb2.trans (b24.mono hb2.size)
    clear x0 x1 x2 la lb b3 bo b24 i2 ha hb
    obtain ⟨y0, y1, y2, _, _, _⟩ := id i3
    have j3' := i3.lt
    go_wp2_with fail
    refine (parts_c q C E us vs f g _ s K hc he k3 k4 h1 HS.out).mono ?_
    rintro e w5 ⟨q', C', us', f', E', vs', g', rfl, lc, le, g1, g2, g3, g4, b5⟩
    have v13 := IntAt.new w5 q' (.slice C' us'.length f')
    have bo := bel1 w5 (.cells #[.bool q', .slice C' us'.length f'] 24)
    obtain ⟨w6, hw6⟩ : ∃ w6, w5.alloc (.cells #[.bool q', .slice C' us'.length f'] 24) = w6 := ⟨_, rfl⟩
    rw [hw6] at v13 bo
    have b46 := b5.trans (bo.mono b5.size)
    have la6 := la4.below b46
    have lb6 := lb4.below b46
    have lc6 := lc.below bo
    have le6 := le.below bo
    have v11' := v11.keep b46
    replace i4 := i4.keep b46
    replace hb2 := hb2.trans (b46.mono hb2.size)
    clear y0 y1 y2 la4 lb4 lc le v11 b5 bo b46 i3 hc he
    obtain ⟨x0, x1, _, _⟩ := id v11'
    obtain ⟨y0, y1, _, _⟩ := id v13
    have m1 := v11'.lt
    have m3 := v13.lt
    obtain ⟨N, eN⟩ : ∃ N : Int, iv p' xs' * iv q' us' = N := ⟨_, rfl⟩
    obtain ⟨D, eD⟩ : ∃ D : Nat, val ys' * val vs' = D := ⟨_, rfl⟩
    have zN : (limbs N.natAbs).length ≤ 70368744177660 := imul_sz (iv_len la6.lb e1) (iv_len lc6.lb g1) eN (by omega)
    have zD : (limbs D).length ≤ 70368744177660 := nmul_sz (Nat.le_trans (limbs_length_le lb6.lb) e2) (Nat.le_trans (limbs_length_le le6.lb) g2) eD (by omega)
    have hD : D ≠ 0 := by rw [← eD]; exact Nat.mul_ne_zero e3 g3
    have hm : mkRat N D = t := by rw [← eN, ← eD, ← HT.out, ← e4, ← g4]; exact (Rat.mkRat_mul_mkRat _ _ _ _).symm
    have EN := Lib.hid eN
    have ED := Lib.hid eD
    have HM := Lib.hid hm
    clear eN eD hm
    go_wp2_with fail
    refine (IMul_n p' q' A' C' xs' us' c' f' _ _ _ N K K la6 lc6 e1 g1 rfl rfl EN.out (by omega)).mono ?_
    rintro e w7 ⟨A7, c7, rfl, r7, b7⟩
    go_wp2_with fail
    refine (Mul_n B' E' ys' vs' d' g' _ _ _ D K K (lb6.below b7) (le6.below b7) e2 g2 rfl rfl ED.out (by omega)).mono ?_
    rintro e w8 ⟨A8, c8, rfl, r8, b8⟩
    go_wp2_with fail
    refine (lowest_c _ A7 A8 (limbs N.natAbs) (limbs D) c7 c8 _ t 70368744177660 (r7.lim.below b8) r8.lim zN zD (Nat.le_refl _) (by rw [val_limbs]; exact hD) (by unfold rv; rw [iv_canon, val_limbs]; exact HM.out)).mono ?_
    rintro e w9 ⟨A3, c3, B3, d3, rfl, r1, r2, b9⟩
    have b68 := b7.trans (b8.mono b7.size)
    have b69 := b68.trans (b9.mono b68.size)
    have t4 := i4.keep b69
    obtain ⟨z0, z1, z2, z3, z4, z5⟩ := id t4
    have HRET := Lib.hid (ret_move (W := w8) t4 (by omega) r1 r2 (Nat.le_trans hb2.size b68.size) (hb2.trans (b69.mono hb2.size)))
    clear r1 r2 r7 r8 b7 b8 b9 b68 b69 t4
    go_wp2_with fail
    exact bodyPost_ret (v := .agg #[.bool (decide (t.num < 0)), .slice A3 (limbs t.num.natAbs).length c3, .slice B3 (limbs t.den).length d3]) (by simp [results, Try.results25, go_sem, z0, z1, z2]) rfl HRET.out
  | true =>
    cases o2 with
    | false =>
      obtain ⟨x0, x1, x2, _, _, _⟩ := id i2
      go_wp2_with fail
      refine (parts_c p A B xs ys c d _ r K ha hb k1 k2 h1 HR.out).mono ?_
      rintro e w3 ⟨p', A', xs', c', B', ys', d', rfl, la, lb, e1, e2, e3, e4, b3⟩
      have v11 := IntAt.new w3 p' (.slice A' xs'.length c')
      have bo := bel1 w3 (.cells #[.bool p', .slice A' xs'.length c'] 24)
      obtain ⟨w4, hw4⟩ : ∃ w4, w3.alloc (.cells #[.bool p', .slice A' xs'.length c'] 24) = w4 := ⟨_, rfl⟩
      rw [hw4] at v11 bo
      have b24 := b3.trans (bo.mono b3.size)
      have la4 := la.below bo
      have lb4 := lb.below bo
      replace i3 := i3.keep b24
      replace i4 := i4.keep b24
      replace hc := hc.below b24
      replace he := he.below b24
      replace hb2 := hb2.trans (b24.mono hb2.size)
      clear x0 x1 x2 la lb b3 bo b24 i2 ha hb
      obtain ⟨y0, y1, y2, _, _, _⟩ := id i3
      have j3' := i3.lt
      go_wp2_with fail
      refine (parts_c q C E us vs f g _ s K hc he k3 k4 h1 HS.out).mono ?_
      rintro e w5 ⟨q', C', us', f', E', vs', g', rfl, lc, le, g1, g2, g3, g4, b5⟩
      have v13 := IntAt.new w5 q' (.slice C' us'.length f')
      have bo := bel1 w5 (.cells #[.bool q', .slice C' us'.length f'] 24)
      obtain ⟨w6, hw6⟩ : ∃ w6, w5.alloc (.cells #[.bool q', .slice C' us'.length f'] 24) = w6 := ⟨_, rfl⟩
      rw [hw6] at v13 bo
      have b46 := b5.trans (bo.mono b5.size)
      have la6 := la4.below b46
      have lb6 := lb4.below b46
      have lc6 := lc.below bo
      have le6 := le.below bo
      have v11' := v11.keep b46
      replace i4 := i4.keep b46
      replace hb2 := hb2.trans (b46.mono hb2.size)
      clear y0 y1 y2 la4 lb4 lc le v11 b5 bo b46 i3 hc he
      obtain ⟨x0, x1, _, _⟩ := id v11'
      obtain ⟨y0, y1, _, _⟩ := id v13
      have m1 := v11'.lt
      have m3 := v13.lt
      obtain ⟨N, eN⟩ : ∃ N : Int, iv p' xs' * iv q' us' = N := ⟨_, rfl⟩
      obtain ⟨D, eD⟩ : ∃ D : Nat, val ys' * val vs' = D := ⟨_, rfl⟩
      have zN : (limbs N.natAbs).length ≤ 70368744177660 := imul_sz (iv_len la6.lb e1) (iv_len lc6.lb g1) eN (by omega)
      have zD : (limbs D).length ≤ 70368744177660 := nmul_sz (Nat.le_trans (limbs_length_le lb6.lb) e2) (Nat.le_trans (limbs_length_le le6.lb) g2) eD (by omega)
      have hD : D ≠ 0 := by rw [← eD]; exact Nat.mul_ne_zero e3 g3
      have hm : mkRat N D = t := by rw [← eN, ← eD, ← HT.out, ← e4, ← g4]; exact (Rat.mkRat_mul_mkRat _ _ _ _).symm
      have EN := Lib.hid eN
      have ED := Lib.hid eD
      have HM := Lib.hid hm
      clear eN eD hm
      go_wp2_with fail
      refine (IMul_n p' q' A' C' xs' us' c' f' _ _ _ N K K la6 lc6 e1 g1 rfl rfl EN.out (by omega)).mono ?_
      rintro e w7 ⟨A7, c7, rfl, r7, b7⟩
      go_wp2_with fail
      refine (Mul_n B' E' ys' vs' d' g' _ _ _ D K K (lb6.below b7) (le6.below b7) e2 g2 rfl rfl ED.out (by omega)).mono ?_
      rintro e w8 ⟨A8, c8, rfl, r8, b8⟩
      go_wp2_with fail
      refine (lowest_c _ A7 A8 (limbs N.natAbs) (limbs D) c7 c8 _ t 70368744177660 (r7.lim.below b8) r8.lim zN zD (Nat.le_refl _) (by rw [val_limbs]; exact hD) (by unfold rv; rw [iv_canon, val_limbs]; exact HM.out)).mono ?_
      rintro e w9 ⟨A3, c3, B3, d3, rfl, r1, r2, b9⟩
      have b68 := b7.trans (b8.mono b7.size)
      have b69 := b68.trans (b9.mono b68.size)
      have t4 := i4.keep b69
      obtain ⟨z0, z1, z2, z3, z4, z5⟩ := id t4
      have HRET := Lib.hid (ret_move (W := w8) t4 (by omega) r1 r2 (Nat.le_trans hb2.size b68.size) (hb2.trans (b69.mono hb2.size)))
      clear r1 r2 r7 r8 b7 b8 b9 b68 b69 t4
      go_wp2_with fail
      exact bodyPost_ret (v := .agg #[.bool (decide (t.num < 0)), .slice A3 (limbs t.num.natAbs).length c3, .slice B3 (limbs t.den).length d3]) (by simp [results, Try.results25, go_sem, z0, z1, z2]) rfl HRET.out
    | true =>
      obtain ⟨a1, a2, a3, a4, a5⟩ := (SM1.out rfl).mul (SM2.out rfl)
      obtain ⟨P, eP⟩ : ∃ P, n1 * n2 = P := ⟨_, rfl⟩
      obtain ⟨Q, eQ⟩ : ∃ Q, d1 * d2 = Q := ⟨_, rfl⟩
      rw [eP, eQ] at a5
      rw [eP] at a1 a2
      rw [eQ] at a3 a4
      have f1 : wrap64 (n1 * n2) = P := by rw [eP]; exact IntWalk.wrap64_in _ ⟨by omega, by omega⟩
      have f2 : wrap64 (d1 * d2) = Q := by rw [eQ]; exact IntWalk.wrap64_in _ ⟨by omega, by omega⟩
      have f1' : IntKind.i64.wrap (n1 * n2) = P := by rw [eP]; exact IntWalk.i64_in _ (by omega)
      have f2' : IntKind.i64.wrap (d1 * d2) = Q := by rw [eQ]; exact IntWalk.i64_in _ (by omega)
      have HA := Lib.hid a5
      clear eP eQ a5
      go_wp2_with fail
      refine (quotient_i P Q _ t (by omega) (by omega) a3 (by omega) (by rw [HA.out, HR.out, HS.out]; exact HT.out)).mono ?_
      rintro e w3 ⟨A3, c3, B3, d3, rfl, r1, r2, b3⟩
      have t4 := i4.keep b3
      obtain ⟨z0, z1, z2, z3, z4, z5⟩ := id t4
      have HRET := Lib.hid (ret_move (W := w2) t4 (by omega) r1 r2 hb2.size (hb2.trans (b3.mono hb2.size)))
      clear r1 r2 b3 t4
      go_wp2_with fail
      exact bodyPost_ret (v := .agg #[.bool (decide (t.num < 0)), .slice A3 (limbs t.num.natAbs).length c3, .slice B3 (limbs t.den).length d3]) (by simp [results, Try.results25, go_sem, z0, z1, z2]) rfl HRET.out

/- Contract of rational.Add. -/

theorem cellF3 {w : World} {N o M : Nat} (h : N ≠ M) (u v s : Value) : (((w.setCell ⟨M, 0, none⟩ u).setCell ⟨M, 1, none⟩ v).setCell ⟨M, 2, none⟩ s).cell? ⟨N, o, none⟩ = w.cell? ⟨N, o, none⟩ := by
  rw [World.cell?_setCell_other (h := by intro e; injection e with e; exact h e.symm), cellF2 h]
theorem mkRat_add_same (n m : Int) {d : Nat} (h : d ≠ 0) : mkRat n d + mkRat m d = mkRat (n + m) d := by
  rw [Rat.mkRat_add_mkRat _ _ h h, ← Int.add_mul, Rat.mkRat_mul_right h]
theorem sgn_zero {r : Rat} : sgn r.num = 0 ↔ r = 0 := by
  rw [← Rat.num_eq_zero]
  unfold sgn
  split <;> (try split) <;> omega
theorem Sm.add {p q : Bool} {xs ys us vs : List Nat} {n d m e : Int} (h : Sm p xs ys n d) (k : Sm q us vs m e) : (-4611686014132420609 ≤ n * e ∧ n * e ≤ 4611686014132420609) ∧ (-4611686014132420609 ≤ m * d ∧ m * d ≤ 4611686014132420609) ∧ (1 ≤ d * e ∧ d * e ≤ 4611686014132420609) ∧ mkRat (n * e + m * d) (d * e).toNat = rv p xs ys + rv q us vs := by
  obtain ⟨h1, h2, h3, h4, h5⟩ := h
  obtain ⟨k1, k2, k3, k4, k5⟩ := k
  obtain ⟨a1, a2⟩ := abs_mul_le (a := n) (b := e) (A := 2147483647) (B := 2147483647) (by omega) h2 (by omega) k4 (by omega) (by omega)
  obtain ⟨c1, c2⟩ := abs_mul_le (a := m) (b := d) (A := 2147483647) (B := 2147483647) (by omega) k2 (by omega) h4 (by omega) (by omega)
  obtain ⟨b1, b2⟩ := abs_mul_le (a := d) (b := e) (A := 2147483647) (B := 2147483647) (by omega) h4 (by omega) k4 (by omega) (by omega)
  have c3 : 0 < d * e := Int.mul_pos (by omega) (by omega)
  refine ⟨⟨by omega, by omega⟩, ⟨by omega, by omega⟩, ⟨by omega, by omega⟩, ?_⟩
  rw [← h5, ← k5, Rat.mkRat_add_mkRat _ _ (by omega) (by omega), Int.toNat_mul (by omega) (by omega), show ((d.toNat : Nat) : Int) = d by omega, show ((e.toNat : Nat) : Int) = e by omega]

set_option maxRecDepth 100000 in
set_option maxHeartbeats 8000000 in
theorem RAdd_c (p q : Bool) (A B C E : Option Addr) (xs ys us vs : List Nat) (c d f g : Nat) (w : World) (r s t : Rat) (K : Nat) (ha : Lim w A c xs) (hb : Lim w B d ys) (hc : Lim w C f us) (he : Lim w E g vs) (k1 : xs.length ≤ K) (k2 : ys.length ≤ K) (k3 : us.length ≤ K) (k4 : vs.length ≤ K) (h1 : 1 ≤ K) (hK : K ≤ 35184372088800) (hr : rv p xs ys = r) (hs : rv q us vs = s) (ht : r + s = t) :
    Calls Try.prog 23 #[.agg #[.bool p, .slice A xs.length c, .slice B ys.length d], .agg #[.bool q, .slice C us.length f, .slice E vs.length g]] w (RetRat w t) := by
  obtain ⟨W, hW, hbW, hsz, i2, i3, i4⟩ := rbox2r w p q (.slice A xs.length c) (.slice B ys.length d) (.slice C us.length f) (.slice E vs.length g)
  have j2 := i2.lt
  have j3 := i3.lt
  have j4 := i4.lt
  obtain ⟨x0, x1, x2, _, _, _⟩ := id i2
  have HW := Lib.hid hW
  have HR := Lib.hid hr
  have HS := Lib.hid hs
  have HT := Lib.hid ht
  clear hW hsz hr hs ht
  replace ha := ha.below hbW
  replace hb := hb.below hbW
  replace hc := hc.below hbW
  replace he := he.below hbW
  go_enter Try.func23, Try.ntmps23
  go_wp2_with fail
  rw [HW.out]
  obtain ⟨sr, er⟩ : ∃ x, sgn r.num = x := ⟨_, rfl⟩
  obtain ⟨ss, es⟩ : ∃ x, sgn s.num = x := ⟨_, rfl⟩
  refine (RSign_c p A B xs ys c d _ r sr ha hb HR.out er).mono ?_
  rintro e w1 ⟨rfl, b1⟩
  replace i2 := i2.keep b1
  replace i3 := i3.keep b1
  replace i4 := i4.keep b1
  replace ha := ha.below b1
  replace hb := hb.below b1
  replace hc := hc.below b1
  replace he := he.below b1
  have hb1 := hbW.trans (b1.mono hbW.size)
  clear x0 x1 x2 b1 hbW j2 j3 j4
  have j2 := i2.lt
  have j3 := i3.lt
  have j4 := i4.lt
  obtain ⟨y0, y1, y2, _, _, _⟩ := id i3
  by_cases hr0 : sr = 0
  · have hrz : s = t := by rw [← HT.out, sgn_zero.1 (er.trans hr0), Rat.zero_add]
    have HZ := Lib.hid (HS.out.trans hrz)
    clear hrz er es
    go_wp2_with fail
    refine (RNorm_c q C E us vs f g _ t K hc he k3 k4 h1 (by omega) HZ.out).mono ?_
    rintro e w3 ⟨A3, c3, B3, d3, rfl, r1, r2, b3⟩
    have t4 := i4.keep b3
    obtain ⟨z0, z1, z2, z3, z4, z5⟩ := id t4
    have HRET := Lib.hid (ret_move (W := w1) t4 (by omega) r1 r2 hb1.size (hb1.trans (b3.mono hb1.size)))
    clear r1 r2 b3 t4
    go_wp2_with fail
    exact bodyPost_ret (v := .agg #[.bool (decide (t.num < 0)), .slice A3 (limbs t.num.natAbs).length c3, .slice B3 (limbs t.den).length d3]) (by simp [results, Try.results23, go_sem, z0, z1, z2]) rfl HRET.out
  have ER := Lib.hid er
  clear er
  go_wp2_with fail
  refine (RSign_c q C E us vs f g _ s ss hc he HS.out es).mono ?_
  rintro e w2 ⟨rfl, b2⟩
  replace i2 := i2.keep b2
  replace i3 := i3.keep b2
  replace i4 := i4.keep b2
  replace ha := ha.below b2
  replace hb := hb.below b2
  replace hc := hc.below b2
  replace he := he.below b2
  have hb2 := hb1.trans (b2.mono hb1.size)
  clear y0 y1 y2 b2 hb1 j2 j3 j4
  have j2 := i2.lt
  have j3 := i3.lt
  have j4 := i4.lt
  obtain ⟨x0, x1, x2, _, _, _⟩ := id i2
  by_cases hs0 : ss = 0
  · have hrz : r = t := by rw [← HT.out, sgn_zero.1 (es.trans hs0), Rat.add_zero]
    have HZ := Lib.hid (HR.out.trans hrz)
    clear hrz es
    go_wp2_with fail
    refine (RNorm_c p A B xs ys c d _ t K ha hb k1 k2 h1 (by omega) HZ.out).mono ?_
    rintro e w3 ⟨A3, c3, B3, d3, rfl, r1, r2, b3⟩
    have t4 := i4.keep b3
    obtain ⟨z0, z1, z2, z3, z4, z5⟩ := id t4
    have HRET := Lib.hid (ret_move (W := w2) t4 (by omega) r1 r2 hb2.size (hb2.trans (b3.mono hb2.size)))
    clear r1 r2 b3 t4
    go_wp2_with fail
    exact bodyPost_ret (v := .agg #[.bool (decide (t.num < 0)), .slice A3 (limbs t.num.natAbs).length c3, .slice B3 (limbs t.den).length d3]) (by simp [results, Try.results23, go_sem, z0, z1, z2]) rfl HRET.out
  clear es
  go_wp2_with fail
  refine (small_any p A B xs ys c d _ ha hb).mono ?_
  rintro e u1 ⟨n1, d1, o1, rfl, sm1, b1⟩
  clear x0 x1 x2
  obtain ⟨y0, y1, y2, _, _, _⟩ := i3.keep b1
  have SM1 := Lib.hid sm1
  clear sm1
  go_wp2_with fail
  refine (small_any q C E us vs f g _ (hc.below b1) (he.below b1)).mono ?_
  rintro e u2 ⟨n2, d2, o2, rfl, sm2, b2⟩
  have SM2 := Lib.hid sm2
  clear sm2 y0 y1 y2
  have b02 := b1.trans (b2.mono b1.size)
  replace ha := ha.below b02
  replace hb := hb.below b02
  replace hc := hc.below b02
  replace he := he.below b02
  replace i2 := i2.keep b02
  replace i3 := i3.keep b02
  replace i4 := i4.keep b02
  replace hb2 := hb2.trans (b02.mono hb2.size)
  clear b1 b2 b02 j2 j3 j4 hr0 hs0
  have j2 := i2.lt
  have j3 := i3.lt
  have j4 := i4.lt
  cases o1 with
  | false =>
    obtain ⟨x0, x1, x2, _, _, _⟩ := id i2
    go_wp2_with fail
    refine (parts_c p A B xs ys c d _ r K ha hb k1 k2 h1 HR.out).mono ?_
    rintro e w3 ⟨p', A', xs', c', B', ys', d', rfl, la, lb, e1, e2, e3, e4, b3⟩
    have v11 := IntAt.new w3 p' (.slice A' xs'.length c')
    have bo := bel1 w3 (.cells #[.bool p', .slice A' xs'.length c'] 24)
    obtain ⟨w4, hw4⟩ : ∃ w4, w3.alloc (.cells #[.bool p', .slice A' xs'.length c'] 24) = w4 := ⟨_, rfl⟩
    rw [hw4] at v11 bo
    have b24 := b3.trans (bo.mono b3.size)
    have la4 := la.below bo
    have lb4 := lb.below bo
    replace i3 := i3.keep b24
    replace i4 := i4.keep b24
    replace hc := hc.below b24
    replace he := he.below b24
    replace hb2 := hb2.trans (b24.mono hb2.size)
    clear x0 x1 x2 la lb b3 bo b24 i2 ha hb
    obtain ⟨y0, y1, y2, _, _, _⟩ := id i3
    have j3' := i3.lt
    go_wp2_with fail
    refine (parts_c q C E us vs f g _ s K hc he k3 k4 h1 HS.out).mono ?_
    rintro e w5 ⟨q', C', us', f', E', vs', g', rfl, lc, le, g1, g2, g3, g4, b5⟩
    have v13 := IntAt.new w5 q' (.slice C' us'.length f')
    have bo := bel1 w5 (.cells #[.bool q', .slice C' us'.length f'] 24)
    obtain ⟨w6, hw6⟩ : ∃ w6, w5.alloc (.cells #[.bool q', .slice C' us'.length f'] 24) = w6 := ⟨_, rfl⟩
    rw [hw6] at v13 bo
    have b46 := b5.trans (bo.mono b5.size)
    have la6 := la4.below b46
    have lb6 := lb4.below b46
    have lc6 := lc.below bo
    have le6 := le.below bo
    have v11' := v11.keep b46
    replace i4 := i4.keep b46
    replace hb2 := hb2.trans (b46.mono hb2.size)
    clear y0 y1 y2 la4 lb4 lc le v11 b5 bo b46 i3 hc he
    obtain ⟨x0, x1, _, _⟩ := id v11'
    obtain ⟨y0, y1, _, _⟩ := id v13
    have m1 := v11'.lt
    have m3 := v13.lt
    clear SM1 SM2
    obtain ⟨cm, ecm⟩ : ∃ x, cmpN (val ys') (val vs') = x := ⟨_, rfl⟩
    go_wp2_with fail
    refine (Compare_n B' E' ys' vs' d' g' _ _ _ cm lb6 le6 rfl rfl ecm).mono ?_
    rintro e w7 ⟨rfl, b7⟩
    clear hw4 hw6
    replace la6 := la6.below b7
    replace lb6 := lb6.below b7
    replace lc6 := lc6.below b7
    replace le6 := le6.below b7
    replace v11' := v11'.keep b7
    replace v13 := v13.keep b7
    replace i4 := i4.keep b7
    replace hb2 := hb2.trans (b7.mono hb2.size)
    clear x0 x1 y0 y1 m1 m3 b7
    obtain ⟨x0, x1, _, _⟩ := id v11'
    obtain ⟨y0, y1, _, _⟩ := id v13
    have m1 := v11'.lt
    have m3 := v13.lt
    have m44 := i4.lt
    by_cases hcm : cm = 0
    · have hev : val ys' = val vs' := by
        rw [← ecm] at hcm
        unfold cmpN at hcm
        split at hcm
        · omega
        · split at hcm <;> omega
      obtain ⟨N, eN⟩ : ∃ N : Int, iv p' xs' + iv q' us' = N := ⟨_, rfl⟩
      have zN : (limbs N.natAbs).length ≤ 70368744177660 := isum_sz (iv_len la6.lb e1) (iv_len lc6.lb g1) eN (by omega) (by omega)
      have hm : mkRat N (val ys') = t := by rw [← eN, ← HT.out, ← e4, ← g4]; unfold rv; rw [← hev]; exact (mkRat_add_same _ _ e3).symm
      have EN := Lib.hid eN
      have HM := Lib.hid hm
      clear eN hm hev ecm
      go_wp2_with fail
      refine (IAdd_n p' q' A' C' xs' us' c' f' _ _ _ N K K la6 lc6 e1 g1 rfl rfl EN.out (by omega) (by omega)).mono ?_
      rintro e w8 ⟨A7, c7, rfl, r7, b8⟩
      go_wp2_with fail
      refine (lowest_c _ A7 B' (limbs N.natAbs) ys' c7 d' _ t 70368744177660 r7.lim (lb6.below b8) zN (by omega) (Nat.le_refl _) e3 (by unfold rv; rw [iv_canon]; exact HM.out)).mono ?_
      rintro e w9 ⟨A3, c3, B3, d3, rfl, r1, r2, b9⟩
      have b89 := b8.trans (b9.mono b8.size)
      have t4 := i4.keep b89
      obtain ⟨z0, z1, z2, z3, z4, z5⟩ := id t4
      have HRET := Lib.hid (ret_move (W := w8) t4 (by omega) r1 r2 (Nat.le_trans hb2.size b8.size) (hb2.trans (b89.mono hb2.size)))
      clear r1 r2 t4
      go_wp2_with fail
      exact bodyPost_ret (v := .agg #[.bool (decide (t.num < 0)), .slice A3 (limbs t.num.natAbs).length c3, .slice B3 (limbs t.den).length d3]) (by simp [results, Try.results23, go_sem, z0, z1, z2]) rfl HRET.out
    · clear ecm
      obtain ⟨N1, eN1⟩ : ∃ N : Int, iv p' xs' * iv false vs' = N := ⟨_, rfl⟩
      obtain ⟨N2, eN2⟩ : ∃ N : Int, iv q' us' * iv false ys' = N := ⟨_, rfl⟩
      obtain ⟨N, eN⟩ : ∃ N : Int, N1 + N2 = N := ⟨_, rfl⟩
      obtain ⟨D, eD⟩ : ∃ D : Nat, val ys' * val vs' = D := ⟨_, rfl⟩
      have z1 : (limbs N1.natAbs).length ≤ 70368744177650 := imul_sz (iv_len la6.lb e1) (iv_len le6.lb g2) eN1 (by omega)
      have z2 : (limbs N2.natAbs).length ≤ 70368744177650 := imul_sz (iv_len lc6.lb g1) (iv_len lb6.lb e2) eN2 (by omega)
      have zN : (limbs N.natAbs).length ≤ 70368744177660 := isum_sz z1 z2 eN (by omega) (by omega)
      have zD : (limbs D).length ≤ 70368744177660 := nmul_sz (Nat.le_trans (limbs_length_le lb6.lb) e2) (Nat.le_trans (limbs_length_le le6.lb) g2) eD (by omega)
      have hD : D ≠ 0 := by rw [← eD]; exact Nat.mul_ne_zero e3 g3
      have hm : mkRat N D = t := by
        rw [← eN, ← eN1, ← eN2, ← eD, ← HT.out, ← e4, ← g4]
        unfold rv
        rw [Rat.mkRat_add_mkRat _ _ e3 g3]
        rfl
      have E1 := Lib.hid eN1
      have E2 := Lib.hid eN2
      have EN := Lib.hid eN
      have ED := Lib.hid eD
      have HM := Lib.hid hm
      clear eN1 eN2 eN eD hm
      have tk0 : True := trivial
      go_upto_region 13 with fail
      have hBel : Below w7.heap.size w7 w7.drew := (Below.refl _ _).drew
      go_cut [15] (fun s15 wx => ∃ g15 Ax cx, s15 = .pointer (some ⟨g15, 0, none⟩) ∧ IntAt wx g15 (decide (N < 0)) (.slice Ax (limbs N.natAbs).length cx) ∧ Lim wx Ax cx (limbs N.natAbs) ∧ Below w7.heap.size w7 wx ∧ w7.heap.size ≤ g15)
      case first =>
        clear HT HM HR HS hb2 i4 ED zD hD hcm
        go_region_held3 (fun w' => w'.cell? ⟨w3.heap.size, 0, none⟩ = some (.bool p') ∧ w'.cell? ⟨w3.heap.size, 1, none⟩ = some (.slice A' xs'.length c') ∧ w'.cell? ⟨w5.heap.size, 0, none⟩ = some (.bool q') ∧ w'.cell? ⟨w5.heap.size, 1, none⟩ = some (.slice C' us'.length f'))
          (first | (with_reducible exact ⟨cellB hBel m1 x0, cellB hBel m1 x1, cellB hBel m3 y0, cellB hBel m3 y1⟩) | (refine ⟨cellB (W := w7) ?_ m1 x0, cellB (W := w7) ?_ m1 x1, cellB (W := w7) ?_ m3 y0, cellB (W := w7) ?_ m3 y1⟩ <;> (first | with_reducible exact hBel | with_reducible exact Below.al1 hBel _ | with_reducible exact (Below.al1 (Below.refl _ _) _).drew | with_reducible exact (Below.al1 (Below.al1 (Below.refl _ _) _) _).drew | with_reducible exact Below.al1 (Below.al1 hBel _) _ | with_reducible exact Below.st2 hBel (by omega) _ _ | with_reducible exact Below.st2 (Below.al1 hBel _) (by omega) _ _ | with_reducible exact Below.al1 (Below.st2 hBel (by omega) _ _) _ | with_reducible exact Below.st2 (Below.al1 (Below.al1 hBel _) _) (by omega) _ _ | with_reducible exact Below.st2 (Below.st2 hBel (by omega) _ _) (by omega) _ _ | with_reducible exact Below.st2 (Below.st2 (Below.al1 hBel _) (by omega) _ _) (by omega) _ _ | with_reducible exact Below.st2 (Below.st2 (Below.al1 (Below.al1 hBel _) _) (by omega) _ _) (by omega) _ _ | with_reducible exact Below.st2 (Below.al1 (Below.st2 hBel (by omega) _ _) _) (by omega) _ _ | with_reducible exact Below.st2 (Below.al1 (Below.st2 (Below.al1 hBel _) (by omega) _ _) _) (by omega) _ _ | with_reducible exact Below.al1 (Below.st2 (Below.al1 hBel _) (by omega) _ _) _)))
          (first
            | (go_at_call 63; have _t := tk0; clear tk0; refine (IMul_n p' false A' E' xs' vs' c' g' _ _ _ N1 K K ?_ ?_ e1 g2 rfl rfl E1.out (by omega)).mono ?_; (with_reducible refine la6.below ?_; (first | with_reducible exact hBel | with_reducible exact Below.al1 hBel _ | with_reducible exact (Below.al1 (Below.refl _ _) _).drew | with_reducible exact (Below.al1 (Below.al1 (Below.refl _ _) _) _).drew | with_reducible exact Below.al1 (Below.al1 hBel _) _ | with_reducible exact Below.st2 hBel (by omega) _ _ | with_reducible exact Below.st2 (Below.al1 hBel _) (by omega) _ _ | with_reducible exact Below.al1 (Below.st2 hBel (by omega) _ _) _ | with_reducible exact Below.st2 (Below.al1 (Below.al1 hBel _) _) (by omega) _ _ | with_reducible exact Below.st2 (Below.st2 hBel (by omega) _ _) (by omega) _ _ | with_reducible exact Below.st2 (Below.st2 (Below.al1 hBel _) (by omega) _ _) (by omega) _ _ | with_reducible exact Below.st2 (Below.st2 (Below.al1 (Below.al1 hBel _) _) (by omega) _ _) (by omega) _ _ | with_reducible exact Below.st2 (Below.al1 (Below.st2 hBel (by omega) _ _) _) (by omega) _ _ | with_reducible exact Below.st2 (Below.al1 (Below.st2 (Below.al1 hBel _) (by omega) _ _) _) (by omega) _ _ | with_reducible exact Below.al1 (Below.st2 (Below.al1 hBel _) (by omega) _ _) _)); (with_reducible refine le6.below ?_; (first | with_reducible exact hBel | with_reducible exact Below.al1 hBel _ | with_reducible exact (Below.al1 (Below.refl _ _) _).drew | with_reducible exact (Below.al1 (Below.al1 (Below.refl _ _) _) _).drew | with_reducible exact Below.al1 (Below.al1 hBel _) _ | with_reducible exact Below.st2 hBel (by omega) _ _ | with_reducible exact Below.st2 (Below.al1 hBel _) (by omega) _ _ | with_reducible exact Below.al1 (Below.st2 hBel (by omega) _ _) _ | with_reducible exact Below.st2 (Below.al1 (Below.al1 hBel _) _) (by omega) _ _ | with_reducible exact Below.st2 (Below.st2 hBel (by omega) _ _) (by omega) _ _ | with_reducible exact Below.st2 (Below.st2 (Below.al1 hBel _) (by omega) _ _) (by omega) _ _ | with_reducible exact Below.st2 (Below.st2 (Below.al1 (Below.al1 hBel _) _) (by omega) _ _) (by omega) _ _ | with_reducible exact Below.st2 (Below.al1 (Below.st2 hBel (by omega) _ _) _) (by omega) _ _ | with_reducible exact Below.st2 (Below.al1 (Below.st2 (Below.al1 hBel _) (by omega) _ _) _) (by omega) _ _ | with_reducible exact Below.al1 (Below.st2 (Below.al1 hBel _) (by omega) _ _) _)); rintro e v1 ⟨B1, h1', rfl, r1, s1⟩; have hBel' : Below w7.heap.size w7 v1 := bel_call (by (first | with_reducible exact hBel | with_reducible exact Below.al1 hBel _ | with_reducible exact (Below.al1 (Below.refl _ _) _).drew | with_reducible exact (Below.al1 (Below.al1 (Below.refl _ _) _) _).drew | with_reducible exact Below.al1 (Below.al1 hBel _) _ | with_reducible exact Below.st2 hBel (by omega) _ _ | with_reducible exact Below.st2 (Below.al1 hBel _) (by omega) _ _ | with_reducible exact Below.al1 (Below.st2 hBel (by omega) _ _) _ | with_reducible exact Below.st2 (Below.al1 (Below.al1 hBel _) _) (by omega) _ _ | with_reducible exact Below.st2 (Below.st2 hBel (by omega) _ _) (by omega) _ _ | with_reducible exact Below.st2 (Below.st2 (Below.al1 hBel _) (by omega) _ _) (by omega) _ _ | with_reducible exact Below.st2 (Below.st2 (Below.al1 (Below.al1 hBel _) _) (by omega) _ _) (by omega) _ _ | with_reducible exact Below.st2 (Below.al1 (Below.st2 hBel (by omega) _ _) _) (by omega) _ _ | with_reducible exact Below.st2 (Below.al1 (Below.st2 (Below.al1 hBel _) (by omega) _ _) _) (by omega) _ _ | with_reducible exact Below.al1 (Below.st2 (Below.al1 hBel _) (by omega) _ _) _)) s1; have q1 := hBel'.size; have z1' := s1.size; (try simp at z1'); (try (have i1 : IntAt v1 w7.heap.size false (.slice none 0 0) := (IntAt.new w7.drew false (.slice none 0 0)).keep s1; obtain ⟨i1a, i1b, i1c, i1d⟩ := id i1)); clear hBel; have hBel := hBel'; clear hBel')
            | (go_at_call 63; refine (IMul_n q' false C' B' us' ys' f' d' _ _ _ N2 K K ?_ ?_ g1 e2 rfl rfl E2.out (by omega)).mono ?_; (with_reducible refine lc6.below ?_; (first | with_reducible exact hBel | with_reducible exact Below.al1 hBel _ | with_reducible exact (Below.al1 (Below.refl _ _) _).drew | with_reducible exact (Below.al1 (Below.al1 (Below.refl _ _) _) _).drew | with_reducible exact Below.al1 (Below.al1 hBel _) _ | with_reducible exact Below.st2 hBel (by omega) _ _ | with_reducible exact Below.st2 (Below.al1 hBel _) (by omega) _ _ | with_reducible exact Below.al1 (Below.st2 hBel (by omega) _ _) _ | with_reducible exact Below.st2 (Below.al1 (Below.al1 hBel _) _) (by omega) _ _ | with_reducible exact Below.st2 (Below.st2 hBel (by omega) _ _) (by omega) _ _ | with_reducible exact Below.st2 (Below.st2 (Below.al1 hBel _) (by omega) _ _) (by omega) _ _ | with_reducible exact Below.st2 (Below.st2 (Below.al1 (Below.al1 hBel _) _) (by omega) _ _) (by omega) _ _ | with_reducible exact Below.st2 (Below.al1 (Below.st2 hBel (by omega) _ _) _) (by omega) _ _ | with_reducible exact Below.st2 (Below.al1 (Below.st2 (Below.al1 hBel _) (by omega) _ _) _) (by omega) _ _ | with_reducible exact Below.al1 (Below.st2 (Below.al1 hBel _) (by omega) _ _) _)); (with_reducible refine lb6.below ?_; (first | with_reducible exact hBel | with_reducible exact Below.al1 hBel _ | with_reducible exact (Below.al1 (Below.refl _ _) _).drew | with_reducible exact (Below.al1 (Below.al1 (Below.refl _ _) _) _).drew | with_reducible exact Below.al1 (Below.al1 hBel _) _ | with_reducible exact Below.st2 hBel (by omega) _ _ | with_reducible exact Below.st2 (Below.al1 hBel _) (by omega) _ _ | with_reducible exact Below.al1 (Below.st2 hBel (by omega) _ _) _ | with_reducible exact Below.st2 (Below.al1 (Below.al1 hBel _) _) (by omega) _ _ | with_reducible exact Below.st2 (Below.st2 hBel (by omega) _ _) (by omega) _ _ | with_reducible exact Below.st2 (Below.st2 (Below.al1 hBel _) (by omega) _ _) (by omega) _ _ | with_reducible exact Below.st2 (Below.st2 (Below.al1 (Below.al1 hBel _) _) (by omega) _ _) (by omega) _ _ | with_reducible exact Below.st2 (Below.al1 (Below.st2 hBel (by omega) _ _) _) (by omega) _ _ | with_reducible exact Below.st2 (Below.al1 (Below.st2 (Below.al1 hBel _) (by omega) _ _) _) (by omega) _ _ | with_reducible exact Below.al1 (Below.st2 (Below.al1 hBel _) (by omega) _ _) _)); rintro e v2 ⟨B2, h2', rfl, r2, s2⟩; have hBel' : Below w7.heap.size w7 v2 := bel_call (by (first | with_reducible exact hBel | with_reducible exact Below.al1 hBel _ | with_reducible exact (Below.al1 (Below.refl _ _) _).drew | with_reducible exact (Below.al1 (Below.al1 (Below.refl _ _) _) _).drew | with_reducible exact Below.al1 (Below.al1 hBel _) _ | with_reducible exact Below.st2 hBel (by omega) _ _ | with_reducible exact Below.st2 (Below.al1 hBel _) (by omega) _ _ | with_reducible exact Below.al1 (Below.st2 hBel (by omega) _ _) _ | with_reducible exact Below.st2 (Below.al1 (Below.al1 hBel _) _) (by omega) _ _ | with_reducible exact Below.st2 (Below.st2 hBel (by omega) _ _) (by omega) _ _ | with_reducible exact Below.st2 (Below.st2 (Below.al1 hBel _) (by omega) _ _) (by omega) _ _ | with_reducible exact Below.st2 (Below.st2 (Below.al1 (Below.al1 hBel _) _) (by omega) _ _) (by omega) _ _ | with_reducible exact Below.st2 (Below.al1 (Below.st2 hBel (by omega) _ _) _) (by omega) _ _ | with_reducible exact Below.st2 (Below.al1 (Below.st2 (Below.al1 hBel _) (by omega) _ _) _) (by omega) _ _ | with_reducible exact Below.al1 (Below.st2 (Below.al1 hBel _) (by omega) _ _) _)) s2; have q2 := hBel'.size; have z2' := s2.size; (try simp at z2'); have l1 : Lim v2 B1 h1' (limbs N1.natAbs) := (by first | with_reducible exact r1.lim.below s2 | with_reducible exact (r1.lim.below (bel1 _ _)).below s2); (try (have i2 : IntAt v2 w7.heap.size false (.slice none 0 0) := i1.keep s2; obtain ⟨i2a, i2b, i2c, i2d⟩ := id i2)); (try (have i3 : IntAt v2 v1.heap.size false (.slice none 0 0) := (IntAt.new v1 false (.slice none 0 0)).keep s2; obtain ⟨i3a, i3b, i3c, i3d⟩ := id i3)); clear hBel; have hBel := hBel'; clear hBel')
            | (go_at_call 62; refine (IAdd_n _ _ B1 B2 (limbs N1.natAbs) (limbs N2.natAbs) h1' h2' _ N1 N2 N 70368744177650 70368744177650 ?_ ?_ z1 z2 (iv_canon N1) (iv_canon N2) EN.out (by omega) (by omega)).mono ?_; (first | with_reducible exact l1 | with_reducible exact l1.below (bel1 _ _)); (first | with_reducible exact r2.lim | with_reducible exact r2.lim.below (bel1 _ _)); rintro e v3 ⟨B3, h3', rfl, r3, s3⟩; have hBel' : Below w7.heap.size w7 v3 := bel_call (by (first | with_reducible exact hBel | with_reducible exact Below.al1 hBel _ | with_reducible exact (Below.al1 (Below.refl _ _) _).drew | with_reducible exact (Below.al1 (Below.al1 (Below.refl _ _) _) _).drew | with_reducible exact Below.al1 (Below.al1 hBel _) _ | with_reducible exact Below.st2 hBel (by omega) _ _ | with_reducible exact Below.st2 (Below.al1 hBel _) (by omega) _ _ | with_reducible exact Below.al1 (Below.st2 hBel (by omega) _ _) _ | with_reducible exact Below.st2 (Below.al1 (Below.al1 hBel _) _) (by omega) _ _ | with_reducible exact Below.st2 (Below.st2 hBel (by omega) _ _) (by omega) _ _ | with_reducible exact Below.st2 (Below.st2 (Below.al1 hBel _) (by omega) _ _) (by omega) _ _ | with_reducible exact Below.st2 (Below.st2 (Below.al1 (Below.al1 hBel _) _) (by omega) _ _) (by omega) _ _ | with_reducible exact Below.st2 (Below.al1 (Below.st2 hBel (by omega) _ _) _) (by omega) _ _ | with_reducible exact Below.st2 (Below.al1 (Below.st2 (Below.al1 hBel _) (by omega) _ _) _) (by omega) _ _ | with_reducible exact Below.al1 (Below.st2 (Below.al1 hBel _) (by omega) _ _) _)) s3; have q3 := hBel'.size; have z3' := s3.size; (try simp at z3'); have l3 := r3.lim; (try (have i4 : IntAt v3 w7.heap.size false (.slice none 0 0) := i2.keep s3; obtain ⟨i4a, i4b, i4c, i4d⟩ := id i4)); (try (have i5 : IntAt v3 v1.heap.size false (.slice none 0 0) := i3.keep s3; obtain ⟨i5a, i5b, i5c, i5d⟩ := id i5)); (try (have i6 : IntAt v3 v2.heap.size false (.slice none 0 0) := (IntAt.new v2 false (.slice none 0 0)).keep s3; obtain ⟨i6a, i6b, i6c, i6d⟩ := id i6)); clear hBel; have hBel := hBel'; clear hBel'))
        all_goals (go_wp2_with fail; go_meet; refine ⟨_, B3, h3', rfl, ?_, ?_, ?_, ?_⟩)
        all_goals (first | (with_reducible refine IntAt.mk ?_ ?_ ?_ ?_ <;> (go_simp; done)) | (first | with_reducible exact hBel | with_reducible exact Below.al1 hBel _ | with_reducible exact (Below.al1 (Below.refl _ _) _).drew | with_reducible exact (Below.al1 (Below.al1 (Below.refl _ _) _) _).drew | with_reducible exact Below.al1 (Below.al1 hBel _) _ | with_reducible exact Below.st2 hBel (by omega) _ _ | with_reducible exact Below.st2 (Below.al1 hBel _) (by omega) _ _ | with_reducible exact Below.al1 (Below.st2 hBel (by omega) _ _) _ | with_reducible exact Below.st2 (Below.al1 (Below.al1 hBel _) _) (by omega) _ _ | with_reducible exact Below.st2 (Below.st2 hBel (by omega) _ _) (by omega) _ _ | with_reducible exact Below.st2 (Below.st2 (Below.al1 hBel _) (by omega) _ _) (by omega) _ _ | with_reducible exact Below.st2 (Below.st2 (Below.al1 (Below.al1 hBel _) _) (by omega) _ _) (by omega) _ _ | with_reducible exact Below.st2 (Below.al1 (Below.st2 hBel (by omega) _ _) _) (by omega) _ _ | with_reducible exact Below.st2 (Below.al1 (Below.st2 (Below.al1 hBel _) (by omega) _ _) _) (by omega) _ _ | with_reducible exact Below.al1 (Below.st2 (Below.al1 hBel _) (by omega) _ _) _) | ((repeat (first | with_reducible refine Lim.below ?_ (bel1 _ _) | (with_reducible refine Lim.store_s ?_ ?_; rotate_left; focus (go_simp; done)) | (with_reducible refine Lim.store_b ?_ ?_; rotate_left; focus (go_simp; done)))); first | with_reducible exact l3) | omega)
      case rest =>
        obtain ⟨g15, Ax, cx, rfl, i15, l15, hB, hg15⟩ := hcut
        clear hBel tk0
        replace lb6 := lb6.below hB
        replace le6 := le6.below hB
        replace i4 := i4.keep hB
        replace hb2 := hb2.trans (hB.mono hb2.size)
        have m15 := i15.lt
        have c15 := i15.c0
        have c16 := i15.c1
        have m4 := i4.lt
        have n15 : g15 ≠ w.heap.size + 1 + 1 := by omega
        clear x0 x1 y0 y1 la6 lc6 v11' v13 hB
        have hBel : Below wc.heap.size wc wc.drew := (Below.refl _ _).drew
        go_wp2_with fail
        go_region_held3 (fun w' => w'.cell? ⟨g15, 0, none⟩ = some (.bool (decide (N < 0))) ∧ w'.cell? ⟨g15, 1, none⟩ = some (.slice Ax (limbs N.natAbs).length cx))
          (first | (with_reducible exact ⟨cellB hBel m15 c15, cellB hBel m15 c16⟩) | (with_reducible exact ⟨(cellF3 n15 _ _ _).trans (cellB hBel m15 c15), (cellF3 n15 _ _ _).trans (cellB hBel m15 c16)⟩) | go_keep)
          (first
            | (go_at_call 64; refine (Mul_n B' E' ys' vs' d' g' _ _ _ D K K ?_ ?_ e2 g2 rfl rfl ED.out (by omega)).mono ?_; exact lb6.below hBel; exact le6.below hBel; rintro e v1 ⟨B1, h1', rfl, r1, s1⟩; replace hBel := hBel.trans (s1.mono hBel.size))
            | (go_at_call 58; refine (lowest_c _ Ax B1 (limbs N.natAbs) (limbs D) cx h1' _ t 70368744177660 ?_ ?_ zN zD (Nat.le_refl _) (by rw [val_limbs]; exact hD) (by unfold rv; rw [iv_canon, val_limbs]; exact HM.out)).mono ?_; exact l15.below hBel; exact r1.lim; rintro e v2 ⟨A3, c3, B3, d3, rfl, r2, r3, s2⟩; have o2 := r2.mono (lo' := w.heap.size) (Nat.le_trans hb2.size hBel.size); have o3 := r3.mono (lo' := w.heap.size) (Nat.le_trans hb2.size hBel.size); have hBel' : Below wc.heap.size wc v2 := hBel.trans (s2.mono hBel.size); clear hBel; have hBel := hBel'; clear hBel'; have t4 := i4.keep hBel; obtain ⟨z0, z1', z2', z3, z4, z5⟩ := id t4))
        rename_i hHeld
        clear hHeld
        have HRET := Lib.hid (ret_rat (w := w) t4 (by omega) o2 o3 (hb2.trans (hBel.mono hb2.size)))
        clear r2 r3 o2 o3 t4 hBel
        go_wp2_with fail
        exact bodyPost_ret (v := .agg #[.bool (decide (t.num < 0)), .slice A3 (limbs t.num.natAbs).length c3, .slice B3 (limbs t.den).length d3]) (by simp [results, Try.results23, go_sem, z0, z1', z2']) rfl HRET.out
  | true =>
    cases o2 with
    | false =>
      obtain ⟨x0, x1, x2, _, _, _⟩ := id i2
      go_wp2_with fail
      refine (parts_c p A B xs ys c d _ r K ha hb k1 k2 h1 HR.out).mono ?_
      rintro e w3 ⟨p', A', xs', c', B', ys', d', rfl, la, lb, e1, e2, e3, e4, b3⟩
      have v11 := IntAt.new w3 p' (.slice A' xs'.length c')
      have bo := bel1 w3 (.cells #[.bool p', .slice A' xs'.length c'] 24)
      obtain ⟨w4, hw4⟩ : ∃ w4, w3.alloc (.cells #[.bool p', .slice A' xs'.length c'] 24) = w4 := ⟨_, rfl⟩
      rw [hw4] at v11 bo
      have b24 := b3.trans (bo.mono b3.size)
      have la4 := la.below bo
      have lb4 := lb.below bo
      replace i3 := i3.keep b24
      replace i4 := i4.keep b24
      replace hc := hc.below b24
      replace he := he.below b24
      replace hb2 := hb2.trans (b24.mono hb2.size)
      clear x0 x1 x2 la lb b3 bo b24 i2 ha hb
      obtain ⟨y0, y1, y2, _, _, _⟩ := id i3
      have j3' := i3.lt
      go_wp2_with fail
      refine (parts_c q C E us vs f g _ s K hc he k3 k4 h1 HS.out).mono ?_
      rintro e w5 ⟨q', C', us', f', E', vs', g', rfl, lc, le, g1, g2, g3, g4, b5⟩
      have v13 := IntAt.new w5 q' (.slice C' us'.length f')
      have bo := bel1 w5 (.cells #[.bool q', .slice C' us'.length f'] 24)
      obtain ⟨w6, hw6⟩ : ∃ w6, w5.alloc (.cells #[.bool q', .slice C' us'.length f'] 24) = w6 := ⟨_, rfl⟩
      rw [hw6] at v13 bo
      have b46 := b5.trans (bo.mono b5.size)
      have la6 := la4.below b46
      have lb6 := lb4.below b46
      have lc6 := lc.below bo
      have le6 := le.below bo
      have v11' := v11.keep b46
      replace i4 := i4.keep b46
      replace hb2 := hb2.trans (b46.mono hb2.size)
      clear y0 y1 y2 la4 lb4 lc le v11 b5 bo b46 i3 hc he
      obtain ⟨x0, x1, _, _⟩ := id v11'
      obtain ⟨y0, y1, _, _⟩ := id v13
      have m1 := v11'.lt
      have m3 := v13.lt
      clear SM1 SM2
      obtain ⟨cm, ecm⟩ : ∃ x, cmpN (val ys') (val vs') = x := ⟨_, rfl⟩
      go_wp2_with fail
      refine (Compare_n B' E' ys' vs' d' g' _ _ _ cm lb6 le6 rfl rfl ecm).mono ?_
      rintro e w7 ⟨rfl, b7⟩
      clear hw4 hw6
      replace la6 := la6.below b7
      replace lb6 := lb6.below b7
      replace lc6 := lc6.below b7
      replace le6 := le6.below b7
      replace v11' := v11'.keep b7
      replace v13 := v13.keep b7
      replace i4 := i4.keep b7
      replace hb2 := hb2.trans (b7.mono hb2.size)
      clear x0 x1 y0 y1 m1 m3 b7
      obtain ⟨x0, x1, _, _⟩ := id v11'
      obtain ⟨y0, y1, _, _⟩ := id v13
      have m1 := v11'.lt
      have m3 := v13.lt
      have m44 := i4.lt
      by_cases hcm : cm = 0
      · have hev : val ys' = val vs' := by
          rw [← ecm] at hcm
          unfold cmpN at hcm
          split at hcm
          · omega
          · split at hcm <;> omega
        obtain ⟨N, eN⟩ : ∃ N : Int, iv p' xs' + iv q' us' = N := ⟨_, rfl⟩
        have zN : (limbs N.natAbs).length ≤ 70368744177660 := isum_sz (iv_len la6.lb e1) (iv_len lc6.lb g1) eN (by omega) (by omega)
        have hm : mkRat N (val ys') = t := by rw [← eN, ← HT.out, ← e4, ← g4]; unfold rv; rw [← hev]; exact (mkRat_add_same _ _ e3).symm
        have EN := Lib.hid eN
        have HM := Lib.hid hm
        clear eN hm hev ecm
        go_wp2_with fail
        refine (IAdd_n p' q' A' C' xs' us' c' f' _ _ _ N K K la6 lc6 e1 g1 rfl rfl EN.out (by omega) (by omega)).mono ?_
        rintro e w8 ⟨A7, c7, rfl, r7, b8⟩
        go_wp2_with fail
        refine (lowest_c _ A7 B' (limbs N.natAbs) ys' c7 d' _ t 70368744177660 r7.lim (lb6.below b8) zN (by omega) (Nat.le_refl _) e3 (by unfold rv; rw [iv_canon]; exact HM.out)).mono ?_
        rintro e w9 ⟨A3, c3, B3, d3, rfl, r1, r2, b9⟩
        have b89 := b8.trans (b9.mono b8.size)
        have t4 := i4.keep b89
        obtain ⟨z0, z1, z2, z3, z4, z5⟩ := id t4
        have HRET := Lib.hid (ret_move (W := w8) t4 (by omega) r1 r2 (Nat.le_trans hb2.size b8.size) (hb2.trans (b89.mono hb2.size)))
        clear r1 r2 t4
        go_wp2_with fail
        exact bodyPost_ret (v := .agg #[.bool (decide (t.num < 0)), .slice A3 (limbs t.num.natAbs).length c3, .slice B3 (limbs t.den).length d3]) (by simp [results, Try.results23, go_sem, z0, z1, z2]) rfl HRET.out
      · clear ecm
        obtain ⟨N1, eN1⟩ : ∃ N : Int, iv p' xs' * iv false vs' = N := ⟨_, rfl⟩
        obtain ⟨N2, eN2⟩ : ∃ N : Int, iv q' us' * iv false ys' = N := ⟨_, rfl⟩
        obtain ⟨N, eN⟩ : ∃ N : Int, N1 + N2 = N := ⟨_, rfl⟩
        obtain ⟨D, eD⟩ : ∃ D : Nat, val ys' * val vs' = D := ⟨_, rfl⟩
        have z1 : (limbs N1.natAbs).length ≤ 70368744177650 := imul_sz (iv_len la6.lb e1) (iv_len le6.lb g2) eN1 (by omega)
        have z2 : (limbs N2.natAbs).length ≤ 70368744177650 := imul_sz (iv_len lc6.lb g1) (iv_len lb6.lb e2) eN2 (by omega)
        have zN : (limbs N.natAbs).length ≤ 70368744177660 := isum_sz z1 z2 eN (by omega) (by omega)
        have zD : (limbs D).length ≤ 70368744177660 := nmul_sz (Nat.le_trans (limbs_length_le lb6.lb) e2) (Nat.le_trans (limbs_length_le le6.lb) g2) eD (by omega)
        have hD : D ≠ 0 := by rw [← eD]; exact Nat.mul_ne_zero e3 g3
        have hm : mkRat N D = t := by
          rw [← eN, ← eN1, ← eN2, ← eD, ← HT.out, ← e4, ← g4]
          unfold rv
          rw [Rat.mkRat_add_mkRat _ _ e3 g3]
          rfl
        have E1 := Lib.hid eN1
        have E2 := Lib.hid eN2
        have EN := Lib.hid eN
        have ED := Lib.hid eD
        have HM := Lib.hid hm
        clear eN1 eN2 eN eD hm
        have tk0 : True := trivial
        go_upto_region 13 with fail
        have hBel : Below w7.heap.size w7 w7.drew := (Below.refl _ _).drew
        go_cut [15] (fun s15 wx => ∃ g15 Ax cx, s15 = .pointer (some ⟨g15, 0, none⟩) ∧ IntAt wx g15 (decide (N < 0)) (.slice Ax (limbs N.natAbs).length cx) ∧ Lim wx Ax cx (limbs N.natAbs) ∧ Below w7.heap.size w7 wx ∧ w7.heap.size ≤ g15)
        case first =>
          clear HT HM HR HS hb2 i4 ED zD hD hcm
          go_region_held3 (fun w' => w'.cell? ⟨w3.heap.size, 0, none⟩ = some (.bool p') ∧ w'.cell? ⟨w3.heap.size, 1, none⟩ = some (.slice A' xs'.length c') ∧ w'.cell? ⟨w5.heap.size, 0, none⟩ = some (.bool q') ∧ w'.cell? ⟨w5.heap.size, 1, none⟩ = some (.slice C' us'.length f'))
            (first | (with_reducible exact ⟨cellB hBel m1 x0, cellB hBel m1 x1, cellB hBel m3 y0, cellB hBel m3 y1⟩) | (refine ⟨cellB (W := w7) ?_ m1 x0, cellB (W := w7) ?_ m1 x1, cellB (W := w7) ?_ m3 y0, cellB (W := w7) ?_ m3 y1⟩ <;> (first | with_reducible exact hBel | with_reducible exact Below.al1 hBel _ | with_reducible exact (Below.al1 (Below.refl _ _) _).drew | with_reducible exact (Below.al1 (Below.al1 (Below.refl _ _) _) _).drew | with_reducible exact Below.al1 (Below.al1 hBel _) _ | with_reducible exact Below.st2 hBel (by omega) _ _ | with_reducible exact Below.st2 (Below.al1 hBel _) (by omega) _ _ | with_reducible exact Below.al1 (Below.st2 hBel (by omega) _ _) _ | with_reducible exact Below.st2 (Below.al1 (Below.al1 hBel _) _) (by omega) _ _ | with_reducible exact Below.st2 (Below.st2 hBel (by omega) _ _) (by omega) _ _ | with_reducible exact Below.st2 (Below.st2 (Below.al1 hBel _) (by omega) _ _) (by omega) _ _ | with_reducible exact Below.st2 (Below.st2 (Below.al1 (Below.al1 hBel _) _) (by omega) _ _) (by omega) _ _ | with_reducible exact Below.st2 (Below.al1 (Below.st2 hBel (by omega) _ _) _) (by omega) _ _ | with_reducible exact Below.st2 (Below.al1 (Below.st2 (Below.al1 hBel _) (by omega) _ _) _) (by omega) _ _ | with_reducible exact Below.al1 (Below.st2 (Below.al1 hBel _) (by omega) _ _) _)))
            (first
              | (go_at_call 63; have _t := tk0; clear tk0; refine (IMul_n p' false A' E' xs' vs' c' g' _ _ _ N1 K K ?_ ?_ e1 g2 rfl rfl E1.out (by omega)).mono ?_; (with_reducible refine la6.below ?_; (first | with_reducible exact hBel | with_reducible exact Below.al1 hBel _ | with_reducible exact (Below.al1 (Below.refl _ _) _).drew | with_reducible exact (Below.al1 (Below.al1 (Below.refl _ _) _) _).drew | with_reducible exact Below.al1 (Below.al1 hBel _) _ | with_reducible exact Below.st2 hBel (by omega) _ _ | with_reducible exact Below.st2 (Below.al1 hBel _) (by omega) _ _ | with_reducible exact Below.al1 (Below.st2 hBel (by omega) _ _) _ | with_reducible exact Below.st2 (Below.al1 (Below.al1 hBel _) _) (by omega) _ _ | with_reducible exact Below.st2 (Below.st2 hBel (by omega) _ _) (by omega) _ _ | with_reducible exact Below.st2 (Below.st2 (Below.al1 hBel _) (by omega) _ _) (by omega) _ _ | with_reducible exact Below.st2 (Below.st2 (Below.al1 (Below.al1 hBel _) _) (by omega) _ _) (by omega) _ _ | with_reducible exact Below.st2 (Below.al1 (Below.st2 hBel (by omega) _ _) _) (by omega) _ _ | with_reducible exact Below.st2 (Below.al1 (Below.st2 (Below.al1 hBel _) (by omega) _ _) _) (by omega) _ _ | with_reducible exact Below.al1 (Below.st2 (Below.al1 hBel _) (by omega) _ _) _)); (with_reducible refine le6.below ?_; (first | with_reducible exact hBel | with_reducible exact Below.al1 hBel _ | with_reducible exact (Below.al1 (Below.refl _ _) _).drew | with_reducible exact (Below.al1 (Below.al1 (Below.refl _ _) _) _).drew | with_reducible exact Below.al1 (Below.al1 hBel _) _ | with_reducible exact Below.st2 hBel (by omega) _ _ | with_reducible exact Below.st2 (Below.al1 hBel _) (by omega) _ _ | with_reducible exact Below.al1 (Below.st2 hBel (by omega) _ _) _ | with_reducible exact Below.st2 (Below.al1 (Below.al1 hBel _) _) (by omega) _ _ | with_reducible exact Below.st2 (Below.st2 hBel (by omega) _ _) (by omega) _ _ | with_reducible exact Below.st2 (Below.st2 (Below.al1 hBel _) (by omega) _ _) (by omega) _ _ | with_reducible exact Below.st2 (Below.st2 (Below.al1 (Below.al1 hBel _) _) (by omega) _ _) (by omega) _ _ | with_reducible exact Below.st2 (Below.al1 (Below.st2 hBel (by omega) _ _) _) (by omega) _ _ | with_reducible exact Below.st2 (Below.al1 (Below.st2 (Below.al1 hBel _) (by omega) _ _) _) (by omega) _ _ | with_reducible exact Below.al1 (Below.st2 (Below.al1 hBel _) (by omega) _ _) _)); rintro e v1 ⟨B1, h1', rfl, r1, s1⟩; have hBel' : Below w7.heap.size w7 v1 := bel_call (by (first | with_reducible exact hBel | with_reducible exact Below.al1 hBel _ | with_reducible exact (Below.al1 (Below.refl _ _) _).drew | with_reducible exact (Below.al1 (Below.al1 (Below.refl _ _) _) _).drew | with_reducible exact Below.al1 (Below.al1 hBel _) _ | with_reducible exact Below.st2 hBel (by omega) _ _ | with_reducible exact Below.st2 (Below.al1 hBel _) (by omega) _ _ | with_reducible exact Below.al1 (Below.st2 hBel (by omega) _ _) _ | with_reducible exact Below.st2 (Below.al1 (Below.al1 hBel _) _) (by omega) _ _ | with_reducible exact Below.st2 (Below.st2 hBel (by omega) _ _) (by omega) _ _ | with_reducible exact Below.st2 (Below.st2 (Below.al1 hBel _) (by omega) _ _) (by omega) _ _ | with_reducible exact Below.st2 (Below.st2 (Below.al1 (Below.al1 hBel _) _) (by omega) _ _) (by omega) _ _ | with_reducible exact Below.st2 (Below.al1 (Below.st2 hBel (by omega) _ _) _) (by omega) _ _ | with_reducible exact Below.st2 (Below.al1 (Below.st2 (Below.al1 hBel _) (by omega) _ _) _) (by omega) _ _ | with_reducible exact Below.al1 (Below.st2 (Below.al1 hBel _) (by omega) _ _) _)) s1; have q1 := hBel'.size; have z1' := s1.size; (try simp at z1'); (try (have i1 : IntAt v1 w7.heap.size false (.slice none 0 0) := (IntAt.new w7.drew false (.slice none 0 0)).keep s1; obtain ⟨i1a, i1b, i1c, i1d⟩ := id i1)); clear hBel; have hBel := hBel'; clear hBel')
              | (go_at_call 63; refine (IMul_n q' false C' B' us' ys' f' d' _ _ _ N2 K K ?_ ?_ g1 e2 rfl rfl E2.out (by omega)).mono ?_; (with_reducible refine lc6.below ?_; (first | with_reducible exact hBel | with_reducible exact Below.al1 hBel _ | with_reducible exact (Below.al1 (Below.refl _ _) _).drew | with_reducible exact (Below.al1 (Below.al1 (Below.refl _ _) _) _).drew | with_reducible exact Below.al1 (Below.al1 hBel _) _ | with_reducible exact Below.st2 hBel (by omega) _ _ | with_reducible exact Below.st2 (Below.al1 hBel _) (by omega) _ _ | with_reducible exact Below.al1 (Below.st2 hBel (by omega) _ _) _ | with_reducible exact Below.st2 (Below.al1 (Below.al1 hBel _) _) (by omega) _ _ | with_reducible exact Below.st2 (Below.st2 hBel (by omega) _ _) (by omega) _ _ | with_reducible exact Below.st2 (Below.st2 (Below.al1 hBel _) (by omega) _ _) (by omega) _ _ | with_reducible exact Below.st2 (Below.st2 (Below.al1 (Below.al1 hBel _) _) (by omega) _ _) (by omega) _ _ | with_reducible exact Below.st2 (Below.al1 (Below.st2 hBel (by omega) _ _) _) (by omega) _ _ | with_reducible exact Below.st2 (Below.al1 (Below.st2 (Below.al1 hBel _) (by omega) _ _) _) (by omega) _ _ | with_reducible exact Below.al1 (Below.st2 (Below.al1 hBel _) (by omega) _ _) _)); (with_reducible refine lb6.below ?_; (first | with_reducible exact hBel | with_reducible exact Below.al1 hBel _ | with_reducible exact (Below.al1 (Below.refl _ _) _).drew | with_reducible exact (Below.al1 (Below.al1 (Below.refl _ _) _) _).drew | with_reducible exact Below.al1 (Below.al1 hBel _) _ | with_reducible exact Below.st2 hBel (by omega) _ _ | with_reducible exact Below.st2 (Below.al1 hBel _) (by omega) _ _ | with_reducible exact Below.al1 (Below.st2 hBel (by omega) _ _) _ | with_reducible exact Below.st2 (Below.al1 (Below.al1 hBel _) _) (by omega) _ _ | with_reducible exact Below.st2 (Below.st2 hBel (by omega) _ _) (by omega) _ _ | with_reducible exact Below.st2 (Below.st2 (Below.al1 hBel _) (by omega) _ _) (by omega) _ _ | with_reducible exact Below.st2 (Below.st2 (Below.al1 (Below.al1 hBel _) _) (by omega) _ _) (by omega) _ _ | with_reducible exact Below.st2 (Below.al1 (Below.st2 hBel (by omega) _ _) _) (by omega) _ _ | with_reducible exact Below.st2 (Below.al1 (Below.st2 (Below.al1 hBel _) (by omega) _ _) _) (by omega) _ _ | with_reducible exact Below.al1 (Below.st2 (Below.al1 hBel _) (by omega) _ _) _)); rintro e v2 ⟨B2, h2', rfl, r2, s2⟩; have hBel' : Below w7.heap.size w7 v2 := bel_call (by (first | with_reducible exact hBel | with_reducible exact Below.al1 hBel _ | with_reducible exact (Below.al1 (Below.refl _ _) _).drew | with_reducible exact (Below.al1 (Below.al1 (Below.refl _ _) _) _).drew | with_reducible exact Below.al1 (Below.al1 hBel _) _ | with_reducible exact Below.st2 hBel (by omega) _ _ | with_reducible exact Below.st2 (Below.al1 hBel _) (by omega) _ _ | with_reducible exact Below.al1 (Below.st2 hBel (by omega) _ _) _ | with_reducible exact Below.st2 (Below.al1 (Below.al1 hBel _) _) (by omega) _ _ | with_reducible exact Below.st2 (Below.st2 hBel (by omega) _ _) (by omega) _ _ | with_reducible exact Below.st2 (Below.st2 (Below.al1 hBel _) (by omega) _ _) (by omega) _ _ | with_reducible exact Below.st2 (Below.st2 (Below.al1 (Below.al1 hBel _) _) (by omega) _ _) (by omega) _ _ | with_reducible exact Below.st2 (Below.al1 (Below.st2 hBel (by omega) _ _) _) (by omega) _ _ | with_reducible exact Below.st2 (Below.al1 (Below.st2 (Below.al1 hBel _) (by omega) _ _) _) (by omega) _ _ | with_reducible exact Below.al1 (Below.st2 (Below.al1 hBel _) (by omega) _ _) _)) s2; have q2 := hBel'.size; have z2' := s2.size; (try simp at z2'); have l1 : Lim v2 B1 h1' (limbs N1.natAbs) := (by first | with_reducible exact r1.lim.below s2 | with_reducible exact (r1.lim.below (bel1 _ _)).below s2); (try (have i2 : IntAt v2 w7.heap.size false (.slice none 0 0) := i1.keep s2; obtain ⟨i2a, i2b, i2c, i2d⟩ := id i2)); (try (have i3 : IntAt v2 v1.heap.size false (.slice none 0 0) := (IntAt.new v1 false (.slice none 0 0)).keep s2; obtain ⟨i3a, i3b, i3c, i3d⟩ := id i3)); clear hBel; have hBel := hBel'; clear hBel')
              | (go_at_call 62; refine (IAdd_n _ _ B1 B2 (limbs N1.natAbs) (limbs N2.natAbs) h1' h2' _ N1 N2 N 70368744177650 70368744177650 ?_ ?_ z1 z2 (iv_canon N1) (iv_canon N2) EN.out (by omega) (by omega)).mono ?_; (first | with_reducible exact l1 | with_reducible exact l1.below (bel1 _ _)); (first | with_reducible exact r2.lim | with_reducible exact r2.lim.below (bel1 _ _)); rintro e v3 ⟨B3, h3', rfl, r3, s3⟩; have hBel' : Below w7.heap.size w7 v3 := bel_call (by (first | with_reducible exact hBel | with_reducible exact Below.al1 hBel _ | with_reducible exact (Below.al1 (Below.refl _ _) _).drew | with_reducible exact (Below.al1 (Below.al1 (Below.refl _ _) _) _).drew | with_reducible exact Below.al1 (Below.al1 hBel _) _ | with_reducible exact Below.st2 hBel (by omega) _ _ | with_reducible exact Below.st2 (Below.al1 hBel _) (by omega) _ _ | with_reducible exact Below.al1 (Below.st2 hBel (by omega) _ _) _ | with_reducible exact Below.st2 (Below.al1 (Below.al1 hBel _) _) (by omega) _ _ | with_reducible exact Below.st2 (Below.st2 hBel (by omega) _ _) (by omega) _ _ | with_reducible exact Below.st2 (Below.st2 (Below.al1 hBel _) (by omega) _ _) (by omega) _ _ | with_reducible exact Below.st2 (Below.st2 (Below.al1 (Below.al1 hBel _) _) (by omega) _ _) (by omega) _ _ | with_reducible exact Below.st2 (Below.al1 (Below.st2 hBel (by omega) _ _) _) (by omega) _ _ | with_reducible exact Below.st2 (Below.al1 (Below.st2 (Below.al1 hBel _) (by omega) _ _) _) (by omega) _ _ | with_reducible exact Below.al1 (Below.st2 (Below.al1 hBel _) (by omega) _ _) _)) s3; have q3 := hBel'.size; have z3' := s3.size; (try simp at z3'); have l3 := r3.lim; (try (have i4 : IntAt v3 w7.heap.size false (.slice none 0 0) := i2.keep s3; obtain ⟨i4a, i4b, i4c, i4d⟩ := id i4)); (try (have i5 : IntAt v3 v1.heap.size false (.slice none 0 0) := i3.keep s3; obtain ⟨i5a, i5b, i5c, i5d⟩ := id i5)); (try (have i6 : IntAt v3 v2.heap.size false (.slice none 0 0) := (IntAt.new v2 false (.slice none 0 0)).keep s3; obtain ⟨i6a, i6b, i6c, i6d⟩ := id i6)); clear hBel; have hBel := hBel'; clear hBel'))
          all_goals (go_wp2_with fail; go_meet; refine ⟨_, B3, h3', rfl, ?_, ?_, ?_, ?_⟩)
          all_goals (first | (with_reducible refine IntAt.mk ?_ ?_ ?_ ?_ <;> (go_simp; done)) | (first | with_reducible exact hBel | with_reducible exact Below.al1 hBel _ | with_reducible exact (Below.al1 (Below.refl _ _) _).drew | with_reducible exact (Below.al1 (Below.al1 (Below.refl _ _) _) _).drew | with_reducible exact Below.al1 (Below.al1 hBel _) _ | with_reducible exact Below.st2 hBel (by omega) _ _ | with_reducible exact Below.st2 (Below.al1 hBel _) (by omega) _ _ | with_reducible exact Below.al1 (Below.st2 hBel (by omega) _ _) _ | with_reducible exact Below.st2 (Below.al1 (Below.al1 hBel _) _) (by omega) _ _ | with_reducible exact Below.st2 (Below.st2 hBel (by omega) _ _) (by omega) _ _ | with_reducible exact Below.st2 (Below.st2 (Below.al1 hBel _) (by omega) _ _) (by omega) _ _ | with_reducible exact Below.st2 (Below.st2 (Below.al1 (Below.al1 hBel _) _) (by omega) _ _) (by omega) _ _ | with_reducible exact Below.st2 (Below.al1 (Below.st2 hBel (by omega) _ _) _) (by omega) _ _ | with_reducible exact Below.st2 (Below.al1 (Below.st2 (Below.al1 hBel _) (by omega) _ _) _) (by omega) _ _ | with_reducible exact Below.al1 (Below.st2 (Below.al1 hBel _) (by omega) _ _) _) | ((repeat (first | with_reducible refine Lim.below ?_ (bel1 _ _) | (with_reducible refine Lim.store_s ?_ ?_; rotate_left; focus (go_simp; done)) | (with_reducible refine Lim.store_b ?_ ?_; rotate_left; focus (go_simp; done)))); first | with_reducible exact l3) | omega)
        case rest =>
          obtain ⟨g15, Ax, cx, rfl, i15, l15, hB, hg15⟩ := hcut
          clear hBel tk0
          replace lb6 := lb6.below hB
          replace le6 := le6.below hB
          replace i4 := i4.keep hB
          replace hb2 := hb2.trans (hB.mono hb2.size)
          have m15 := i15.lt
          have c15 := i15.c0
          have c16 := i15.c1
          have m4 := i4.lt
          have n15 : g15 ≠ w.heap.size + 1 + 1 := by omega
          clear x0 x1 y0 y1 la6 lc6 v11' v13 hB
          have hBel : Below wc.heap.size wc wc.drew := (Below.refl _ _).drew
          go_wp2_with fail
          go_region_held3 (fun w' => w'.cell? ⟨g15, 0, none⟩ = some (.bool (decide (N < 0))) ∧ w'.cell? ⟨g15, 1, none⟩ = some (.slice Ax (limbs N.natAbs).length cx))
            (first | (with_reducible exact ⟨cellB hBel m15 c15, cellB hBel m15 c16⟩) | (with_reducible exact ⟨(cellF3 n15 _ _ _).trans (cellB hBel m15 c15), (cellF3 n15 _ _ _).trans (cellB hBel m15 c16)⟩) | go_keep)
            (first
              | (go_at_call 64; refine (Mul_n B' E' ys' vs' d' g' _ _ _ D K K ?_ ?_ e2 g2 rfl rfl ED.out (by omega)).mono ?_; exact lb6.below hBel; exact le6.below hBel; rintro e v1 ⟨B1, h1', rfl, r1, s1⟩; replace hBel := hBel.trans (s1.mono hBel.size))
              | (go_at_call 58; refine (lowest_c _ Ax B1 (limbs N.natAbs) (limbs D) cx h1' _ t 70368744177660 ?_ ?_ zN zD (Nat.le_refl _) (by rw [val_limbs]; exact hD) (by unfold rv; rw [iv_canon, val_limbs]; exact HM.out)).mono ?_; exact l15.below hBel; exact r1.lim; rintro e v2 ⟨A3, c3, B3, d3, rfl, r2, r3, s2⟩; have o2 := r2.mono (lo' := w.heap.size) (Nat.le_trans hb2.size hBel.size); have o3 := r3.mono (lo' := w.heap.size) (Nat.le_trans hb2.size hBel.size); have hBel' : Below wc.heap.size wc v2 := hBel.trans (s2.mono hBel.size); clear hBel; have hBel := hBel'; clear hBel'; have t4 := i4.keep hBel; obtain ⟨z0, z1', z2', z3, z4, z5⟩ := id t4))
          rename_i hHeld
          clear hHeld
          have HRET := Lib.hid (ret_rat (w := w) t4 (by omega) o2 o3 (hb2.trans (hBel.mono hb2.size)))
          clear r2 r3 o2 o3 t4 hBel
          go_wp2_with fail
          exact bodyPost_ret (v := .agg #[.bool (decide (t.num < 0)), .slice A3 (limbs t.num.natAbs).length c3, .slice B3 (limbs t.den).length d3]) (by simp [results, Try.results23, go_sem, z0, z1', z2']) rfl HRET.out
    | true =>
      obtain ⟨⟨a1, a2⟩, ⟨a3, a4⟩, ⟨a5, a6⟩, a7⟩ := (SM1.out rfl).add (SM2.out rfl)
      obtain ⟨P, eP⟩ : ∃ P, n1 * d2 = P := ⟨_, rfl⟩
      obtain ⟨R, eR⟩ : ∃ P, n2 * d1 = P := ⟨_, rfl⟩
      obtain ⟨Q, eQ⟩ : ∃ Q, d1 * d2 = Q := ⟨_, rfl⟩
      obtain ⟨Y, eY⟩ : ∃ Y, P + R = Y := ⟨_, rfl⟩
      rw [eP, eR, eQ, eY] at a7
      rw [eP] at a1 a2
      rw [eR] at a3 a4
      rw [eQ] at a5 a6
      have f1 : wrap64 (n1 * d2) = P := by rw [eP]; exact IntWalk.wrap64_in _ ⟨by omega, by omega⟩
      have f2 : wrap64 (d1 * d2) = Q := by rw [eQ]; exact IntWalk.wrap64_in _ ⟨by omega, by omega⟩
      have f3 : wrap64 (n2 * d1) = R := by rw [eR]; exact IntWalk.wrap64_in _ ⟨by omega, by omega⟩
      have f4 : wrap64 (P + R) = Y := by rw [eY]; exact IntWalk.wrap64_in _ ⟨by omega, by omega⟩
      have f1' : IntKind.i64.wrap (n1 * d2) = P := by rw [eP]; exact IntWalk.i64_in _ (by omega)
      have f2' : IntKind.i64.wrap (d1 * d2) = Q := by rw [eQ]; exact IntWalk.i64_in _ (by omega)
      have f3' : IntKind.i64.wrap (n2 * d1) = R := by rw [eR]; exact IntWalk.i64_in _ (by omega)
      have f4' : IntKind.i64.wrap (P + R) = Y := by rw [eY]; exact IntWalk.i64_in _ (by omega)
      have HA := Lib.hid a7
      have y1 : -9223372036854775807 ≤ Y ∧ Y ≤ 9223372036854775807 := by omega
      clear eP eQ eR a7
      go_wp2_with fail
      first
        | refine (quotient_i Y Q _ t y1.1 y1.2 a5 (by omega) (by rw [HA.out, HR.out, HS.out]; exact HT.out)).mono ?_
        | (rw [eY]; refine (quotient_i Y Q _ t y1.1 y1.2 a5 (by omega) (by rw [HA.out, HR.out, HS.out]; exact HT.out)).mono ?_)
      rintro e w3 ⟨A3, c3, B3, d3, rfl, r1, r2, b3⟩
      have t4 := i4.keep b3
      obtain ⟨z0, z1, z2, z3, z4, z5⟩ := id t4
      have HRET := Lib.hid (ret_move (W := u2) t4 (by omega) r1 r2 hb2.size (hb2.trans (b3.mono hb2.size)))
      clear r1 r2 b3 t4
      go_wp2_with fail
      exact bodyPost_ret (v := .agg #[.bool (decide (t.num < 0)), .slice A3 (limbs t.num.natAbs).length c3, .slice B3 (limbs t.den).length d3]) (by simp [results, Try.results23, go_sem, z0, z1, z2]) rfl HRET.out

end Go.Proofs.Ytaeidephegnkdaa
