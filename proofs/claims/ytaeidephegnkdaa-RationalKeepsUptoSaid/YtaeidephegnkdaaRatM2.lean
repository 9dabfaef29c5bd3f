/- RatE RatF RatI in one text. -/
import Derived.Test.YtaeidephegnkdaaRatM1
namespace Go.Proofs.Ytaeidephegnkdaa
open Go.RowKit Gm
/- Contracts of rational.floor, Floor. -/

theorem mkRat_floor {n : Int} {D : Nat} (h : D ≠ 0) : (mkRat n D).floor = n / (D : Int) := by
  obtain ⟨h1, h2⟩ := mkRat_parts (n := n) h
  rw [Rat.floor_def, h1, h2]
  have hg : 0 < Nat.gcd n.natAbs D := Nat.gcd_pos_of_pos_right _ (Nat.pos_of_ne_zero h)
  have hd1 : ((Nat.gcd n.natAbs D : Nat) : Int) ∣ n := by
    rw [← Int.dvd_natAbs]; exact Int.natCast_dvd_natCast.2 (Nat.gcd_dvd_left _ _)
  have hd2 : Nat.gcd n.natAbs D ∣ D := Nat.gcd_dvd_right _ _
  obtain ⟨k, hk⟩ := hd1
  obtain ⟨m, hm⟩ := hd2
  generalize Nat.gcd n.natAbs D = g at hg hk hm
  subst hk
  subst hm
  rw [Int.mul_ediv_cancel_left _ (by omega), Nat.mul_div_cancel_left _ hg, Int.natCast_mul, Int.mul_ediv_mul_of_pos _ _ (by omega)]

/-- what floor returns -/
def RetFloor (w : World) (r : Rat) (K : Nat) (e : Ending) (w' : World) : Prop :=
  ∃ (n : Int) (D : Nat) (A : Option Addr) (c : Nat) (B : Option Addr) (d : Nat) (C : Option Addr) (ys : List Nat) (f : Nat), e = .returned (.tuple #[.agg #[.bool (decide (n / (D : Int) < 0)), .slice A (limbs (n / (D : Int)).natAbs).length c], .agg #[.bool (decide (n % (D : Int) < 0)), .slice B (limbs (n % (D : Int)).natAbs).length d], .agg #[.bool false, .slice C ys.length f]]) ∧
    Own w.heap.size w' A c (limbs (n / (D : Int)).natAbs) ∧ Own w.heap.size w' B d (limbs (n % (D : Int)).natAbs) ∧ Lim w' C f ys ∧ ys.length ≤ K ∧ (limbs n.natAbs).length ≤ K ∧ val ys = D ∧ D ≠ 0 ∧ mkRat n D = r ∧ Below w.heap.size w w'
theorem rbox1iii (w : World) (p : Bool) (u v : Value) :
    ∃ W, (((w.alloc (.cells #[.bool p, u, v] 26)).alloc (.cells #[.bool false, .slice none 0 0] 24)).alloc (.cells #[.bool false, .slice none 0 0] 24)).alloc (.cells #[.bool false, .slice none 0 0] 24) = W ∧ Below w.heap.size w W ∧ W.heap.size = w.heap.size + 4 ∧ RatAt W w.heap.size p u v ∧ IntAt W (w.heap.size + 1) false (.slice none 0 0) ∧ IntAt W (w.heap.size + 1 + 1) false (.slice none 0 0) ∧ IntAt W (w.heap.size + 1 + 1 + 1) false (.slice none 0 0) := by
  refine ⟨_, rfl, ((((Below.refl _ _).alloc (Nat.le_refl _) _).alloc (by simp) _).alloc (by simp; omega) _).alloc (by simp; omega) _, by simp, ?_, ?_, ?_, ?_⟩
  · refine ⟨?_, ?_, ?_, ?_, ?_, ?_⟩ <;> go_simp
  · refine ⟨?_, ?_, ?_, ?_⟩ <;> go_simp
  · refine ⟨?_, ?_, ?_, ?_⟩ <;> go_simp
  · refine ⟨?_, ?_, ?_, ?_⟩ <;> go_simp

set_option maxRecDepth 100000 in
set_option maxHeartbeats 2000000 in
theorem floor_c (p : Bool) (A B : Option Addr) (xs ys : List Nat) (c d : Nat) (w : World) (r : Rat) (K : Nat) (ha : Lim w A c xs) (hb : Lim w B d ys) (hs : xs.length ≤ K) (ht : ys.length ≤ K) (h1 : 1 ≤ K) (hK : K ≤ 70368744177660) (hr : rv p xs ys = r) :
    Calls Try.prog 65 #[.agg #[.bool p, .slice A xs.length c, .slice B ys.length d]] w (RetFloor w r K) := by
  obtain ⟨W, hW, hbW, hsz, i1, i2, i3, i4⟩ := rbox1iii w p (.slice A xs.length c) (.slice B ys.length d)
  have j1 := i1.lt
  have j2 := i2.lt
  have j3 := i3.lt
  have j4 := i4.lt
  obtain ⟨x0, x1, x2, _, _, _⟩ := id i1
  have HW := Lib.hid hW
  have HR := Lib.hid hr
  clear hW hsz hr
  replace ha := ha.below hbW
  replace hb := hb.below hbW
  go_enter Try.func65, Try.ntmps65
  go_wp2_with fail
  rw [HW.out]
  refine (parts_c p A B xs ys c d _ r K ha hb hs ht h1 HR.out).mono ?_
  rintro e w1 ⟨q, A', xs', c', B', ys', d', rfl, la, lb, hs', ht', hne, hrv, b1⟩
  obtain ⟨n, en⟩ : ∃ n, iv q xs' = n := ⟨_, rfl⟩
  obtain ⟨D, eD⟩ : ∃ D, val ys' = D := ⟨_, rfl⟩
  have zn : (limbs n.natAbs).length ≤ K := by rw [← en]; exact iv_len la.lb hs'
  unfold rv at hrv
  rw [en, eD] at hrv
  rw [eD] at hne
  obtain ⟨Q, eQ⟩ : ∃ Q : Int, n / (D : Int) = Q := ⟨_, rfl⟩
  obtain ⟨S, eS⟩ : ∃ S : Int, n % (D : Int) = S := ⟨_, rfl⟩
  have EN := Lib.hid en
  have ED := Lib.hid eD
  have EQ := Lib.hid eQ
  have ES := Lib.hid eS
  have HV := Lib.hid hrv
  clear en eD eQ eS hrv x0 x1 x2
  have u2 := i2.keep b1
  have u3 := i3.keep b1
  have u4 := i4.keep b1
  obtain ⟨z0, z1, z2, z3⟩ := id u4
  have m4 := u4.lt
  have hb1 := hbW.trans (b1.mono hbW.size)
  -- the variables num and den
  have la1 := (la.put u4 false (.slice B' ys'.length d')).below (bel1 _ (.cells #[.bool q, .slice A' xs'.length c'] 24))
  have lb1 := (lb.put u4 false (.slice B' ys'.length d')).below (bel1 _ (.cells #[.bool q, .slice A' xs'.length c'] 24))
  have v2 := (u2.far (M := w.heap.size + 1 + 1 + 1) (by omega) (.bool false) (.slice B' ys'.length d')).alloc (.cells #[.bool q, .slice A' xs'.length c'] 24)
  have v3 := (u3.far (M := w.heap.size + 1 + 1 + 1) (by omega) (.bool false) (.slice B' ys'.length d')).alloc (.cells #[.bool q, .slice A' xs'.length c'] 24)
  have v4 := (u4.put false (.slice B' ys'.length d')).alloc (.cells #[.bool q, .slice A' xs'.length c'] 24)
  have v5 := IntAt.new ((w1.setCell ⟨w.heap.size + 1 + 1 + 1, 0, none⟩ (.bool false)).setCell ⟨w.heap.size + 1 + 1 + 1, 1, none⟩ (.slice B' ys'.length d')) q (.slice A' xs'.length c')
  have e5 : ((w1.setCell ⟨w.heap.size + 1 + 1 + 1, 0, none⟩ (.bool false)).setCell ⟨w.heap.size + 1 + 1 + 1, 1, none⟩ (.slice B' ys'.length d')).heap.size = w1.heap.size := by simp
  rw [e5] at v5
  have hb2 := below_put2 hb1 (show w.heap.size ≤ w.heap.size + 1 + 1 + 1 by omega) (.bool false) (.slice B' ys'.length d')
  have hb3 := hb2.alloc hb2.size (.cells #[.bool q, .slice A' xs'.length c'] 24)
  obtain ⟨w2, hw2⟩ : ∃ w2, ((w1.setCell ⟨w.heap.size + 1 + 1 + 1, 0, none⟩ (.bool false)).setCell ⟨w.heap.size + 1 + 1 + 1, 1, none⟩ (.slice B' ys'.length d')).alloc (.cells #[.bool q, .slice A' xs'.length c'] 24) = w2 := ⟨_, rfl⟩
  rw [hw2] at la1 lb1 v2 v3 v4 v5 hb3
  clear la lb u2 u3 u4 b1 hb1 hb2 e5 i1 i2 i3 i4
  obtain ⟨a0, a1, _, _⟩ := id v5
  obtain ⟨b0, b1, _, _⟩ := id v4
  have l5 := v5.lt
  have l4 := v4.lt
  go_wp2_with fail
  refine (IDivMod_n q false A' B' xs' ys' c' d' _ n (D : Int) Q S K K la1 lb1 hs' ht' EN.out (by unfold iv; rw [ED.out]; rfl) (by omega) EQ.out ES.out (by omega) (by omega)).mono ?_
  rintro e w3 ⟨A6, c6, A7, c7, rfl, r6, r7, b3⟩
  clear hw2 a0 a1 b0 b1 z0 z1 z2 z3
  have u2 := v2.keep b3
  have u3 := v3.keep b3
  have u4 := v4.keep b3
  have lb2 := lb1.below b3
  have o6 := r6.mono (lo' := w.heap.size) hb3.size
  have o7 := r7.mono (lo' := w.heap.size) hb3.size
  have hb4 := hb3.trans (b3.mono hb3.size)
  obtain ⟨x0, x1, x2, x3⟩ := id u2
  obtain ⟨y0, y1, y2, y3⟩ := id u3
  have n2 := u2.lt
  have n3 := u3.lt
  have n4 := u4.lt
  have t2 := (u2.put (decide (Q < 0)) (.slice A6 (limbs Q.natAbs).length c6)).far (M := w.heap.size + 1 + 1) (by omega) (.bool (decide (S < 0))) (.slice A7 (limbs S.natAbs).length c7)
  have u3' := u3.far (M := w.heap.size + 1) (by omega) (.bool (decide (Q < 0))) (.slice A6 (limbs Q.natAbs).length c6)
  have t3 := u3'.put (decide (S < 0)) (.slice A7 (limbs S.natAbs).length c7)
  have t4 := (u4.far (M := w.heap.size + 1) (by omega) (.bool (decide (Q < 0))) (.slice A6 (limbs Q.natAbs).length c6)).far (M := w.heap.size + 1 + 1) (by omega) (.bool (decide (S < 0))) (.slice A7 (limbs S.natAbs).length c7)
  have p6 := (o6.put u2 (decide (Q < 0)) (.slice A6 (limbs Q.natAbs).length c6)).put u3' (decide (S < 0)) (.slice A7 (limbs S.natAbs).length c7)
  have p7 := (o7.put u2 (decide (Q < 0)) (.slice A6 (limbs Q.natAbs).length c6)).put u3' (decide (S < 0)) (.slice A7 (limbs S.natAbs).length c7)
  have pb := (lb2.put u2 (decide (Q < 0)) (.slice A6 (limbs Q.natAbs).length c6)).put u3' (decide (S < 0)) (.slice A7 (limbs S.natAbs).length c7)
  have hb5 := below_put2 (below_put2 hb4 (show w.heap.size ≤ w.heap.size + 1 by omega) (.bool (decide (Q < 0))) (.slice A6 (limbs Q.natAbs).length c6)) (show w.heap.size ≤ w.heap.size + 1 + 1 by omega) (.bool (decide (S < 0))) (.slice A7 (limbs S.natAbs).length c7)
  obtain ⟨w4, hw4⟩ : ∃ w4, (((w3.setCell ⟨w.heap.size + 1, 0, none⟩ (.bool (decide (Q < 0)))).setCell ⟨w.heap.size + 1, 1, none⟩ (.slice A6 (limbs Q.natAbs).length c6)).setCell ⟨w.heap.size + 1 + 1, 0, none⟩ (.bool (decide (S < 0)))).setCell ⟨w.heap.size + 1 + 1, 1, none⟩ (.slice A7 (limbs S.natAbs).length c7) = w4 := ⟨_, rfl⟩
  rw [hw4] at t2 t3 t4 p6 p7 pb hb5
  clear u2 u3 u4 u3' lb2 o6 o7 r6 r7 b3 hb4 v2 v3 v4 v5 lb1 la1 hb3
  go_wp2_with fail
  try rw [hw4]
  clear hw4 x0 x1 x2 x3 y0 y1 y2 y3
  obtain ⟨x0, x1, x2, x3⟩ := id t2
  obtain ⟨y0, y1, y2, y3⟩ := id t3
  obtain ⟨z0, z1, z2, z3⟩ := id t4
  have f3 := t3.far (M := w.heap.size + 1) (by omega) (.bool (decide (Q < 0))) (.slice A6 (limbs Q.natAbs).length c6)
  have f4 := (t4.far (M := w.heap.size + 1) (by omega) (.bool (decide (Q < 0))) (.slice A6 (limbs Q.natAbs).length c6)).far (M := w.heap.size + 1 + 1) (by omega) (.bool (decide (S < 0))) (.slice A7 (limbs S.natAbs).length c7)
  have g6 := (((p6.put t2 (decide (Q < 0)) (.slice A6 (limbs Q.natAbs).length c6)).put f3 (decide (S < 0)) (.slice A7 (limbs S.natAbs).length c7)).put f4 false (.slice B' ys'.length d')).drewN 1
  have g7 := (((p7.put t2 (decide (Q < 0)) (.slice A6 (limbs Q.natAbs).length c6)).put f3 (decide (S < 0)) (.slice A7 (limbs S.natAbs).length c7)).put f4 false (.slice B' ys'.length d')).drewN 1
  have gb := (((pb.put t2 (decide (Q < 0)) (.slice A6 (limbs Q.natAbs).length c6)).put f3 (decide (S < 0)) (.slice A7 (limbs S.natAbs).length c7)).put f4 false (.slice B' ys'.length d')).drewN 1
  have hb6 := (below_put2 (below_put2 (below_put2 hb5 (show w.heap.size ≤ w.heap.size + 1 by omega) (.bool (decide (Q < 0))) (.slice A6 (limbs Q.natAbs).length c6)) (show w.heap.size ≤ w.heap.size + 1 + 1 by omega) (.bool (decide (S < 0))) (.slice A7 (limbs S.natAbs).length c7)) (show w.heap.size ≤ w.heap.size + 1 + 1 + 1 by omega) (.bool false) (.slice B' ys'.length d')).drew
  have HRET := Lib.hid (show RetFloor w r K (.returned (.tuple #[.agg #[.bool (decide (Q < 0)), .slice A6 (limbs Q.natAbs).length c6], .agg #[.bool (decide (S < 0)), .slice A7 (limbs S.natAbs).length c7], .agg #[.bool false, .slice B' ys'.length d']])) _ from ⟨n, D, A6, c6, A7, c7, B', ys', d', by rw [EQ.out, ES.out], by rw [EQ.out]; exact g6, by rw [ES.out]; exact g7, gb, ht', zn, ED.out, hne, HV.out, hb6⟩)
  clear f3 f4 g6 g7 gb hb6 t2 t3 t4 p6 p7 pb hb5
  go_region
  go_wp2_with fail
  exact bodyPost_ret (v := .tuple #[.agg #[.bool (decide (Q < 0)), .slice A6 (limbs Q.natAbs).length c6], .agg #[.bool (decide (S < 0)), .slice A7 (limbs S.natAbs).length c7], .agg #[.bool false, .slice B' ys'.length d']]) (by simp [results, Try.results65, go_sem, x0, x1, y0, y1, z0, z1]) rfl HRET.out

/- Contracts of rational.Floor, Round. -/

theorem rbox1I (w : World) (p : Bool) (u v : Value) :
    ∃ W, (w.alloc (.cells #[.bool p, u, v] 26)).alloc (.cells #[.bool false, .slice none 0 0] 24) = W ∧ Below w.heap.size w W ∧ W.heap.size = w.heap.size + 2 ∧ RatAt W w.heap.size p u v ∧ IntAt W (w.heap.size + 1) false (.slice none 0 0) := rbox1i w p u v
theorem boxes3k (w : World) (p q r : Bool) (u v t : Value) :
    ∃ W, ((w.alloc (.cells #[.bool p, u] 24)).alloc (.cells #[.bool q, v] 24)).alloc (.cells #[.bool r, t] 24) = W ∧ Below w.heap.size w W ∧ IntAt W w.heap.size p u ∧ IntAt W (w.heap.size + 1) q v ∧ IntAt W (w.heap.size + 1 + 1) r t := by
  refine ⟨_, rfl, (((Below.refl _ _).alloc (Nat.le_refl _) _).alloc (by simp) _).alloc (by simp; omega) _, ?_, ?_, ?_⟩
  · refine ⟨?_, ?_, ?_, ?_⟩ <;> go_simp
  · refine ⟨?_, ?_, ?_, ?_⟩ <;> go_simp
  · refine ⟨?_, ?_, ?_, ?_⟩ <;> go_simp
/-- an integer that was returned, stored into the result -/
theorem ret_int {w w1 : World} {n : Int} {N : Nat} {b : Bool} {B : Option Addr} {m k : Nat} {A : Option Addr} {c : Nat} (hN : IntAt w1 N b (.slice B m k)) (hl : w.heap.size ≤ N) (o : Own w.heap.size w1 A c (limbs n.natAbs)) (hb : Below w.heap.size w w1) :
    RetInt w n (.returned (.agg #[.bool (decide (n < 0)), .slice A (limbs n.natAbs).length c])) ((w1.setCell ⟨N, 0, none⟩ (.bool (decide (n < 0)))).setCell ⟨N, 1, none⟩ (.slice A (limbs n.natAbs).length c)) :=
  ⟨A, c, rfl, o.put hN _ _, below_put2 hb hl _ _⟩

set_option maxRecDepth 100000 in
set_option maxHeartbeats 1000000 in
theorem RFloor_c (p : Bool) (A B : Option Addr) (xs ys : List Nat) (c d : Nat) (w : World) (r : Rat) (s : Int) (K : Nat) (ha : Lim w A c xs) (hb : Lim w B d ys) (hs : xs.length ≤ K) (ht : ys.length ≤ K) (h1 : 1 ≤ K) (hK : K ≤ 70368744177660) (hr : rv p xs ys = r) (hf : r.floor = s) :
    Calls Try.prog 30 #[.agg #[.bool p, .slice A xs.length c, .slice B ys.length d]] w (RetInt w s) := by
  obtain ⟨W, hW, hbW, hsz, i1, i2⟩ := rbox1I w p (.slice A xs.length c) (.slice B ys.length d)
  have j1 := i1.lt
  have j2 := i2.lt
  obtain ⟨x0, x1, x2, _, _, _⟩ := id i1
  have HW := Lib.hid hW
  have HR := Lib.hid hr
  clear hW hsz hr
  replace ha := ha.below hbW
  replace hb := hb.below hbW
  go_enter Try.func30, Try.ntmps30
  go_wp2_with fail
  rw [HW.out]
  refine (floor_c p A B xs ys c d _ r K ha hb hs ht h1 hK HR.out).mono ?_
  rintro e w1 ⟨n, D, A1, c1, A2, c2, A3, ys3, c3, rfl, r1, r2, l3, z3, zn, ev, hD, hm, b1⟩
  have es : n / (D : Int) = s := by rw [← hf, ← hm]; exact (mkRat_floor hD).symm
  obtain ⟨S, eS⟩ : ∃ S : Int, n % (D : Int) = S := ⟨_, rfl⟩
  rw [es] at r1 ⊢
  rw [eS] at r2 ⊢
  clear es eS hm ev hf
  obtain ⟨W2, hW2, hbW2, k3, k4, k5⟩ := boxes3k w1 (decide (s < 0)) (decide (S < 0)) false (.slice A1 (limbs s.natAbs).length c1) (.slice A2 (limbs S.natAbs).length c2) (.slice A3 ys3.length c3)
  have b2 := b1.trans (hbW2.mono b1.size)
  have t2 := i2.keep b2
  have o1 := (r1.below hbW2).mono (lo' := w.heap.size) hbW.size
  have hb2 := hbW.trans (b2.mono hbW.size)
  obtain ⟨q0, q1, q2, q3⟩ := id t2
  obtain ⟨m0, m1, _, _⟩ := id k3
  have l2 := t2.lt
  have l3' := k3.lt
  have HRET := Lib.hid (ret_int (w := w) t2 (by omega) o1 hb2)
  clear r1 r2 b1 hbW2 b2 t2 o1 hb2 k3 k4 k5
  go_wp2_with fail
  exact bodyPost_ret (v := .agg #[.bool (decide (s < 0)), .slice A1 (limbs s.natAbs).length c1]) (by simp [results, Try.results30, go_sem, q0, q1]) rfl HRET.out

/- Contracts of rational.Size, Round. -/

theorem nb_limbs_le {n K : Nat} (h : (limbs n).length ≤ K) : nb n ≤ 32 * K := by
  have := nb_len (Lb_limbs n)
  rw [val_limbs] at this
  omega
/-- the number of bits of a rational number -/
def rsz (r : Rat) : Nat := nb r.num.natAbs + nb r.den
set_option maxRecDepth 100000 in
set_option maxHeartbeats 1000000 in
theorem RSize_c (p : Bool) (A B : Option Addr) (xs ys : List Nat) (c d : Nat) (w : World) (r : Rat) (s K : Nat) (ha : Lim w A c xs) (hb : Lim w B d ys) (hs : xs.length ≤ K) (ht : ys.length ≤ K) (h1 : 1 ≤ K) (hK : K ≤ 70368744177660) (hr : rv p xs ys = r) (hz : rsz r = s) :
    Calls Try.prog 69 #[.agg #[.bool p, .slice A xs.length c, .slice B ys.length d]] w (RetI w (s : Int)) := by
  obtain ⟨W, hW, hbW, hsz, i1⟩ := rbox1 w p (.slice A xs.length c) (.slice B ys.length d)
  have j1 := i1.lt
  obtain ⟨x0, x1, x2, _, _, _⟩ := id i1
  have zn : (limbs r.num.natAbs).length ≤ K := by rw [← hr]; exact rv_num_sz ha.lb hs
  have zd : (limbs r.den).length ≤ K := by rw [← hr]; exact rv_den_sz hb.lb ht h1
  obtain ⟨b1, e1⟩ : ∃ b, nb r.num.natAbs = b := ⟨_, rfl⟩
  obtain ⟨b2, e2⟩ : ∃ b, nb r.den = b := ⟨_, rfl⟩
  have hsum : b1 + b2 = s := by rw [← hz, ← e1, ← e2]; rfl
  have l1 : b1 ≤ 32 * K := by rw [← e1]; exact nb_limbs_le zn
  have l2 : b2 ≤ 32 * K := by rw [← e2]; exact nb_limbs_le zd
  have HW := Lib.hid hW
  have HR := Lib.hid hr
  have E1 := Lib.hid e1
  have E2 := Lib.hid e2
  clear hW hsz hr e1 e2 hz
  replace ha := ha.below hbW
  replace hb := hb.below hbW
  go_enter Try.func69, Try.ntmps69
  go_wp2_with fail
  rw [HW.out]
  refine (RNorm_c p A B xs ys c d _ r K ha hb hs ht h1 hK HR.out).mono ?_
  rintro e w1 ⟨A1, c1, B1, d1, rfl, r1, r2, s1⟩
  have i3 := RatAt.new w1 (decide (r.num < 0)) (.slice A1 (limbs r.num.natAbs).length c1) (.slice B1 (limbs r.den).length d1)
  have bo := bel1 w1 (.cells #[.bool (decide (r.num < 0)), .slice A1 (limbs r.num.natAbs).length c1, .slice B1 (limbs r.den).length d1] 26)
  obtain ⟨w2, hw2⟩ : ∃ w2, w1.alloc (.cells #[.bool (decide (r.num < 0)), .slice A1 (limbs r.num.natAbs).length c1, .slice B1 (limbs r.den).length d1] 26) = w2 := ⟨_, rfl⟩
  rw [hw2] at i3 bo
  have o1 := r1.lim.below bo
  have o2 := r2.lim.below bo
  have b02 := s1.trans (bo.mono s1.size)
  have hend := hbW.trans (b02.mono hbW.size)
  have m3 := i3.lt
  have y1 := i3.c1
  have y2 := i3.c2
  clear x0 x1 x2 r1 r2 s1 bo b02 hbW i1 ha hb
  have wsum : IntKind.i64.wrap ((b1 : Int) + (b2 : Int)) = (s : Int) := by rw [show ((b1 : Int) + (b2 : Int)) = (s : Int) by omega]; exact IntWalk.i64_in _ (by omega)
  have wsum' : wrap64 ((b1 : Int) + (b2 : Int)) = (s : Int) := by rw [show ((b1 : Int) + (b2 : Int)) = (s : Int) by omega]; exact IntWalk.wrap64_in _ ⟨by omega, by omega⟩
  have HSUM := Lib.hid hsum
  have tk0 : True := trivial
  clear hsum
  go_wp2_with fail
  try rw [hw2]
  clear hw2
  have hBel : Below w2.heap.size w2 w2.drew := (Below.refl _ _).drew
  go_region_held3 (fun w' => w'.cell? ⟨w1.heap.size, 1, none⟩ = some (.slice A1 (limbs r.num.natAbs).length c1) ∧ w'.cell? ⟨w1.heap.size, 2, none⟩ = some (.slice B1 (limbs r.den).length d1))
    (first | (with_reducible exact ⟨cellB hBel m3 y1, cellB hBel m3 y2⟩) | go_keep)
    (first
      | (go_at_call 100; have _t := tk0; clear tk0; refine (Bits_n A1 (limbs r.num.natAbs) c1 _ r.num.natAbs b1 K ?_ zn (val_limbs _) E1.out (by omega)).mono ?_; exact o1.below hBel; rintro e v1 ⟨rfl, t1⟩; replace hBel := hBel.trans (t1.mono hBel.size))
      | (go_at_call 100; refine (Bits_n B1 (limbs r.den) d1 _ r.den b2 K ?_ zd (val_limbs _) E2.out (by omega)).mono ?_; exact o2.below hBel; rintro e v2 ⟨rfl, t2⟩; replace hBel := hBel.trans (t2.mono hBel.size)))
  rename_i hHeld
  clear hHeld
  go_wp2_with fail
  go_ret
  exact ⟨by first | rfl | rw [wsum] | rw [wsum'], hend.trans (hBel.mono hend.size)⟩
/-- the nearest integer of n / D, of two the even one -/
def rndI (n : Int) (D : Nat) : Int := if (D : Int) < n % (D : Int) + n % (D : Int) ∨ ((D : Int) = n % (D : Int) + n % (D : Int) ∧ (n / (D : Int)).natAbs % 2 = 1) then n / (D : Int) + 1 else n / (D : Int)
theorem FromInt_o (v o : Int) (w : World) (h1 : -9223372036854775808 ≤ v) (h2 : v ≤ 9223372036854775807) (h : v = o) : Calls Try.prog 67 #[.int .i64 v] w (RetInt w o) := by
  subst h; exact FromInt_c v w h1 h2
def rrnd (r : Rat) : Int := rndI r.num r.den
theorem limb0_even (n : Nat) : (limbs n)[0]?.getD 0 % 2 = n % 2 := by
  have hv := val_limbs n
  cases hl : limbs n with
  | nil => rw [hl] at hv; rw [← hv]; rfl
  | cons x l =>
    rw [hl] at hv
    have e : val (x :: l) = x + Ba * val l := rfl
    have e2 : Ba = 2 * 2147483648 := rfl
    rw [← hv, e, e2, Nat.mul_assoc]
    simp
theorem rndI_mk {n : Int} {D : Nat} (h : D ≠ 0) : rndI n D = rrnd (mkRat n D) := by
  obtain ⟨h1, h2⟩ := mkRat_parts (n := n) h
  unfold rrnd rndI
  rw [h1, h2]
  have hg : 0 < Nat.gcd n.natAbs D := Nat.gcd_pos_of_pos_right _ (Nat.pos_of_ne_zero h)
  have hd1 : ((Nat.gcd n.natAbs D : Nat) : Int) ∣ n := by
    rw [← Int.dvd_natAbs]; exact Int.natCast_dvd_natCast.2 (Nat.gcd_dvd_left _ _)
  have hd2 : Nat.gcd n.natAbs D ∣ D := Nat.gcd_dvd_right _ _
  obtain ⟨k, hk⟩ := hd1
  obtain ⟨m, hm⟩ := hd2
  generalize Nat.gcd n.natAbs D = g at hg hk hm
  subst hk
  subst hm
  rw [Int.mul_ediv_cancel_left _ (by omega), Nat.mul_div_cancel_left _ hg, Int.natCast_mul, Int.mul_ediv_mul_of_pos _ _ (by omega), Int.mul_emod_mul_of_pos _ _ (by omega), ← Int.mul_add]
  have e1 : ((g : Int) * (m : Int) < (g : Int) * (k % (m : Int) + k % (m : Int))) ↔ ((m : Int) < k % (m : Int) + k % (m : Int)) := Int.mul_lt_mul_left (by omega)
  have e2 : ((g : Int) * (m : Int) = (g : Int) * (k % (m : Int) + k % (m : Int))) ↔ ((m : Int) = k % (m : Int) + k % (m : Int)) := ⟨fun h => Int.eq_of_mul_eq_mul_left (by omega) h, fun h => by rw [← h]⟩
  simp only [e1, e2]

set_option maxRecDepth 100000 in
set_option maxHeartbeats 2000000 in
theorem RRound_c (p : Bool) (A B : Option Addr) (xs ys : List Nat) (c d : Nat) (w : World) (r : Rat) (s : Int) (K : Nat) (ha : Lim w A c xs) (hb : Lim w B d ys) (hs : xs.length ≤ K) (ht : ys.length ≤ K) (h1 : 1 ≤ K) (hK : K ≤ 70368744177650) (hr : rv p xs ys = r) (hf : rrnd r = s) :
    Calls Try.prog 32 #[.agg #[.bool p, .slice A xs.length c, .slice B ys.length d]] w (RetInt w s) := by
  obtain ⟨W, hW, hbW, hsz, i1, i2⟩ := rbox1I w p (.slice A xs.length c) (.slice B ys.length d)
  have j1 := i1.lt
  have j2 := i2.lt
  obtain ⟨x0, x1, x2, _, _, _⟩ := id i1
  have HW := Lib.hid hW
  have HR := Lib.hid hr
  clear hW hsz hr
  replace ha := ha.below hbW
  replace hb := hb.below hbW
  go_enter Try.func32, Try.ntmps32
  go_wp2_with fail
  rw [HW.out]
  refine (floor_c p A B xs ys c d _ r K ha hb hs ht h1 (by omega) HR.out).mono ?_
  rintro e w1 ⟨n, D, A1, c1, A2, c2, A3, ys3, c3, rfl, r1, r2, l3, z3, zn, ev, hD, hm, b1⟩
  have es : rndI n D = s := by rw [← hf, ← hm]; exact rndI_mk hD
  obtain ⟨Q, eQ⟩ : ∃ Q : Int, n / (D : Int) = Q := ⟨_, rfl⟩
  obtain ⟨S, eS⟩ : ∃ S : Int, n % (D : Int) = S := ⟨_, rfl⟩
  have zQ : (limbs Q.natAbs).length ≤ K := by rw [← eQ]; exact Nat.le_trans (limbs_mono (Int.natAbs_ediv_le_natAbs _ _)) zn
  have zS : (limbs S.natAbs).length ≤ K := by
    rw [← eS]
    refine Nat.le_trans (limbs_mono (n := D) ?_) (by rw [← ev]; exact Nat.le_trans (limbs_length_le l3.lb) z3)
    have h5 := Int.emod_nonneg n (show (D : Int) ≠ 0 by omega)
    have h6 := Int.emod_lt_of_pos n (show (0 : Int) < (D : Int) by omega)
    omega
  unfold rndI at es
  rw [eQ, eS] at es
  rw [eQ] at r1 ⊢
  rw [eS] at r2 ⊢
  obtain ⟨T, eT⟩ : ∃ T : Int, S + S = T := ⟨_, rfl⟩
  rw [eT] at es
  obtain ⟨cm, ecm⟩ : ∃ x, cmpI T (iv false ys3) = x := ⟨_, rfl⟩
  have hcm : (0 < cm ↔ (D : Int) < T) ∧ (cm = 0 ↔ (D : Int) = T) := by
    have hv : iv false ys3 = (D : Int) := by unfold iv; rw [ev]; rfl
    rw [← ecm, hv]; unfold cmpI; split <;> (try split) <;> omega
  have ET := Lib.hid eT
  have ECM := Lib.hid ecm
  clear eQ eS hm ev hf eT ecm
  obtain ⟨W2, hW2, hbW2, k3, k4, k5⟩ := boxes3k w1 (decide (Q < 0)) (decide (S < 0)) false (.slice A1 (limbs Q.natAbs).length c1) (.slice A2 (limbs S.natAbs).length c2) (.slice A3 ys3.length c3)
  have jw1 : w.heap.size + 1 < w1.heap.size := Nat.lt_of_lt_of_le j2 b1.size
  have b2 := b1.trans (hbW2.mono b1.size)
  have t2 := i2.keep b2
  have o1 := (r1.below hbW2).mono (lo' := w.heap.size) hbW.size
  have lq := r2.lim.below hbW2
  have ld := l3.below hbW2
  have hb2 := hbW.trans (b2.mono hbW.size)
  obtain ⟨u0, u1, _, _⟩ := id k3
  obtain ⟨v0, v1, _, _⟩ := id k4
  obtain ⟨y0, y1, _, _⟩ := id k5
  have m3 := k3.lt
  have m4 := k4.lt
  have m5 := k5.lt
  clear r1 r2 b1 hbW2 b2 l3 x0 x1 x2 i1 i2 ha hb hbW
  go_wp2_with fail
  try rw [hW2]
  clear hW2
  have hBel : Below W2.heap.size W2 W2.drew := (Below.refl _ _).drew
  go_region_held3 (fun w' => w'.cell? ⟨w1.heap.size + 1, 0, none⟩ = some (.bool (decide (S < 0))) ∧ w'.cell? ⟨w1.heap.size + 1, 1, none⟩ = some (.slice A2 (limbs S.natAbs).length c2) ∧ w'.cell? ⟨w1.heap.size + 1 + 1, 0, none⟩ = some (.bool false) ∧ w'.cell? ⟨w1.heap.size + 1 + 1, 1, none⟩ = some (.slice A3 ys3.length c3))
    (first | (with_reducible exact ⟨cellB hBel m4 v0, cellB hBel m4 v1, cellB hBel m5 y0, cellB hBel m5 y1⟩) | go_keep)
    (first
      | (go_at_call 62; refine (IAdd_n _ _ A2 A2 (limbs S.natAbs) (limbs S.natAbs) c2 c2 _ S S T K K ?_ ?_ zS zS (iv_canon S) (iv_canon S) ET.out (by omega) (by omega)).mono ?_; exact lq.below hBel; exact lq.below hBel; rintro e w3 ⟨A4, c4, rfl, r4, b4⟩; replace hBel := hBel.trans (b4.mono hBel.size))
      | (go_at_call 68; refine (ICompare_e _ false cm A4 A3 (limbs T.natAbs) ys3 c4 c3 _ ?_ ?_ (by rw [iv_canon]; exact ECM.out)).mono ?_; exact r4.lim; exact ld.below hBel; rintro e w4 ⟨rfl, b5⟩; have hBel' : Below W2.heap.size W2 w4 := hBel.trans (b5.mono hBel.size); clear hBel; have hBel := hBel'; clear hBel'))
  rename_i hHeld
  clear hHeld
  have t2' := t2.keep hBel
  have k3' := k3.keep hBel
  have o1' := o1.below hBel
  have hb4 := hb2.trans (hBel.mono hb2.size)
  clear u0 u1 v0 v1 y0 y1 r4 b4 b5 lq ld
  obtain ⟨u0, u1, _, _⟩ := id k3'
  obtain ⟨z0, z1, z2, z3⟩ := id t2'
  have n2 := t2'.lt
  have n3 := k3'.lt
  obtain ⟨od, eod⟩ : ∃ b : Bool, decide (Q.natAbs % 2 = 1) = b := ⟨_, rfl⟩
  obtain ⟨o, eo⟩ : ∃ o : Int, 1 = o := ⟨_, rfl⟩
  have zo : (limbs o.natAbs).length ≤ K := by rw [← eo]; exact Nat.le_trans (Nat.le_of_eq limbs1_len) h1
  have EO := Lib.hid eo
  have EOD := Lib.hid eod
  have n23 : w1.heap.size ≠ w.heap.size + 1 := by omega
  clear eo eod hBel
  go_upto_region 3 with fail
  go_cut [7] (fun s7 wx => s7 = .bool od ∧ wx = w4)
  case first =>
    by_cases hl : (limbs Q.natAbs).length = 0
    · have hq : Q.natAbs = 0 := by
        have := List.eq_nil_of_length_eq_zero hl
        exact limbs_eq_nil.1 this
      have hod : od = false := by rw [← EOD.out, hq]; rfl
      have hl2 : ((limbs Q.natAbs).length : Int) = 0 := by omega
      have HOD := Lib.hid hod
      clear hq hl hod
      go_wp2_with fail
      go_meet
      exact ⟨by rw [HOD.out], rfl⟩
    · obtain ⟨bg, og, eA, _, hbg, hcg⟩ := o1'.cells (by omega)
      have hc0 := (hcg 0 (by omega)).1
      rw [Nat.add_zero] at hc0
      obtain ⟨x, ex⟩ : ∃ x, (limbs Q.natAbs)[0]?.getD 0 = x := ⟨_, rfl⟩
      rw [ex] at hc0
      have hp := limb0_even Q.natAbs
      rw [ex] at hp
      have hl2 : (0 : Int) < ((limbs Q.natAbs).length : Int) := by omega
      have hmod : (x : Int).tmod 2 = ((x % 2 : Nat) : Int) := by rw [Int.tmod_eq_emod_of_nonneg (by omega)]; rfl
      have hbeq : (((x % 2 : Nat) : Int) == 1) = od := by
        rw [← EOD.out, ← hp]
        by_cases h : x % 2 = 1
        · rw [decide_eq_true h, h]; rfl
        · rw [decide_eq_false h, beq_eq_false_iff_ne]; omega
      obtain ⟨y, ey⟩ : ∃ y, x % 2 = y := ⟨_, rfl⟩
      rw [ey] at hmod hbeq
      subst eA
      clear hcg hl hp ex ey EOD
      go_wp2_with fail
      go_meet
      exact ⟨rfl, rfl⟩
  case rest =>
    obtain ⟨rfl, rfl⟩ := hcut
    have hBel : Below wc.heap.size wc wc.drew := (Below.refl _ _).drew
    rcases Int.lt_trichotomy cm 0 with hc | hc | hc
    · have ESS := Lib.hid (show Q = s by rw [← es, if_neg (by omega)])
      clear es hcm EOD
      have HRET := Lib.hid (ret_int (w := w) t2' (by omega) o1' hb4)
      go_wp2_with fail
      rw [← ESS.out]
      exact bodyPost_ret (v := .agg #[.bool (decide (Q < 0)), .slice A1 (limbs Q.natAbs).length c1]) (by simp [results, Try.results32, go_sem, z0, z1]) rfl HRET.out
    · cases od with
      | true =>
        have hodd : Q.natAbs % 2 = 1 := by have := EOD.out; simpa using this
        have ESS := Lib.hid (show Q + o = s by rw [← es, if_pos (.inr ⟨hcm.2.1 hc, hodd⟩), EO.out])
        clear es hcm EOD hodd
        go_wp2_with fail
        go_region_held3 (fun w' => w'.cell? ⟨w1.heap.size, 0, none⟩ = some (.bool (decide (Q < 0))) ∧ w'.cell? ⟨w1.heap.size, 1, none⟩ = some (.slice A1 (limbs Q.natAbs).length c1))
          (first | (with_reducible exact ⟨cellB hBel n3 u0, cellB hBel n3 u1⟩) | (with_reducible exact ⟨(cellF2 n23 _ _).trans (cellB hBel n3 u0), (cellF2 n23 _ _).trans (cellB hBel n3 u1)⟩) | go_keep)
          (first
            | (go_at_call 67; refine (FromInt_o 1 o _ (by omega) (by omega) EO.out).mono ?_; rintro e v1 ⟨B1, f1, rfl, q1, s1⟩; replace hBel := hBel.trans (s1.mono hBel.size))
            | (go_at_call 62; refine (IAdd_n _ _ A1 B1 (limbs Q.natAbs) (limbs o.natAbs) c1 f1 _ Q o s K K ?_ ?_ zQ zo (iv_canon Q) (iv_canon o) ESS.out (by omega) (by omega)).mono ?_; exact o1'.lim.below hBel; exact q1.lim; rintro e v2 ⟨B2, f2, rfl, q2, s2⟩; have p2 := q2.mono (lo' := w.heap.size) (Nat.le_trans hb4.size hBel.size); have hBel' : Below wc.heap.size wc v2 := hBel.trans (s2.mono hBel.size); clear hBel; have hBel := hBel'; clear hBel'; have t6 := t2'.keep hBel; obtain ⟨a0, a1, a2, a3⟩ := id t6))
        rename_i hHeld
        clear hHeld
        have HRET := Lib.hid (ret_int (w := w) t6 (by omega) p2 (hb4.trans (hBel.mono hb4.size)))
        clear q1 q2 s1 s2 p2 t6
        go_wp2_with fail
        exact bodyPost_ret (v := .agg #[.bool (decide (s < 0)), .slice B2 (limbs s.natAbs).length f2]) (by simp [results, Try.results32, go_sem, a0, a1]) rfl HRET.out
      | false =>
        have hodd : ¬ Q.natAbs % 2 = 1 := by have := EOD.out; simpa using this
        have ESS := Lib.hid (show Q = s by rw [← es, if_neg (by omega)])
        clear es hcm EOD hodd
        have HRET := Lib.hid (ret_int (w := w) t2' (by omega) o1' hb4)
        go_wp2_with fail
        rw [← ESS.out]
        exact bodyPost_ret (v := .agg #[.bool (decide (Q < 0)), .slice A1 (limbs Q.natAbs).length c1]) (by simp [results, Try.results32, go_sem, z0, z1]) rfl HRET.out
    · have ESS := Lib.hid (show Q + o = s by rw [← es, if_pos (.inl (hcm.1.1 hc)), EO.out])
      clear es hcm EOD
      go_wp2_with fail
      go_region_held3 (fun w' => w'.cell? ⟨w1.heap.size, 0, none⟩ = some (.bool (decide (Q < 0))) ∧ w'.cell? ⟨w1.heap.size, 1, none⟩ = some (.slice A1 (limbs Q.natAbs).length c1))
        (first | (with_reducible exact ⟨cellB hBel n3 u0, cellB hBel n3 u1⟩) | (with_reducible exact ⟨(cellF2 n23 _ _).trans (cellB hBel n3 u0), (cellF2 n23 _ _).trans (cellB hBel n3 u1)⟩) | go_keep)
        (first
          | (go_at_call 67; refine (FromInt_o 1 o _ (by omega) (by omega) EO.out).mono ?_; rintro e v1 ⟨B1, f1, rfl, q1, s1⟩; replace hBel := hBel.trans (s1.mono hBel.size))
          | (go_at_call 62; refine (IAdd_n _ _ A1 B1 (limbs Q.natAbs) (limbs o.natAbs) c1 f1 _ Q o s K K ?_ ?_ zQ zo (iv_canon Q) (iv_canon o) ESS.out (by omega) (by omega)).mono ?_; exact o1'.lim.below hBel; exact q1.lim; rintro e v2 ⟨B2, f2, rfl, q2, s2⟩; have p2 := q2.mono (lo' := w.heap.size) (Nat.le_trans hb4.size hBel.size); have hBel' : Below wc.heap.size wc v2 := hBel.trans (s2.mono hBel.size); clear hBel; have hBel := hBel'; clear hBel'; have t6 := t2'.keep hBel; obtain ⟨a0, a1, a2, a3⟩ := id t6))
      rename_i hHeld
      clear hHeld
      have HRET := Lib.hid (ret_int (w := w) t6 (by omega) p2 (hb4.trans (hBel.mono hb4.size)))
      clear q1 q2 s1 s2 p2 t6
      go_wp2_with fail
      exact bodyPost_ret (v := .agg #[.bool (decide (s < 0)), .slice B2 (limbs s.natAbs).length f2]) (by simp [results, Try.results32, go_sem, a0, a1]) rfl HRET.out

end Go.Proofs.Ytaeidephegnkdaa
