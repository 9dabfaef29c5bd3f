/- RatE RatF RatI in one text. -/
import Derived.Test.YtnjannpoemdbaaaGreatRatM1
namespace Go.Proofs.YtnjannpoemdbaaaGreat
open Go.RowKit Gm
/- Contracts of rational.floor, Floor. -/

theorem mkRat_floor {n : Int} {D : Nat} (h : D ≠ 0) : (mkRat n D).floor = n / (D : Int) := by
  obtain ⟨h1, h2⟩ := mkRat_parts (n := n) h
  rw [Rat.floor_def, h1, h2]
  have hg : 0 < Nat.gcd n.natAbs D := Nat.gcd_pos_of_pos_right _ (Nat.pos_of_ne_zero h)
  have hd1 : ((Nat.gcd n.natAbs D : Nat) : Int) ∣ n := by
    rw [← Int.dvd_natAbs]; exact Int.natCast_dvd_natCast.2 (Nat.gcd_dvd_left _ _)
  have hd2 : Nat.gcd n.natAbs D ∣ D := Nat.gcd_dvd_right _ _
  obtain ⟨k, hk⟩ := hd1
  obtain ⟨m, hm⟩ := hd2
  generalize Nat.gcd n.natAbs D = g at hg hk hm
  subst hk
  subst hm
  rw [Int.mul_ediv_cancel_left _ (by omega), Nat.mul_div_cancel_left _ hg, Int.natCast_mul, Int.mul_ediv_mul_of_pos _ _ (by omega)]

/-- what floor returns -/
def RetFloor (w : World) (r : Rat) (K : Nat) (e : Ending) (w' : World) : Prop :=
  ∃ (n : Int) (D : Nat) (A : Option Addr) (c : Nat) (B : Option Addr) (d : Nat) (C : Option Addr) (ys : List Nat) (f : Nat), e = .returned (.tuple #[.agg #[.bool (decide (n / (D : Int) < 0)), .slice A (limbs (n / (D : Int)).natAbs).length c], .agg #[.bool (decide (n % (D : Int) < 0)), .slice B (limbs (n % (D : Int)).natAbs).length d], .agg #[.bool false, .slice C ys.length f]]) ∧
    Own w.heap.size w' A c (limbs (n / (D : Int)).natAbs) ∧ Own w.heap.size w' B d (limbs (n % (D : Int)).natAbs) ∧ Lim w' C f ys ∧ ys.length ≤ K ∧ (limbs n.natAbs).length ≤ K ∧ val ys = D ∧ D ≠ 0 ∧ mkRat n D = r ∧ Below w.heap.size w w'
theorem rbox1iii (w : World) (p : Bool) (u v : Value) :
    ∃ W, (((w.alloc (.cells #[.bool p, u, v] 26)).alloc (.cells #[.bool false, .slice none 0 0] 24)).alloc (.cells #[.bool false, .slice none 0 0] 24)).alloc (.cells #[.bool false, .slice none 0 0] 24) = W ∧ Below w.heap.size w W ∧ W.heap.size = w.heap.size + 4 ∧ RatAt W w.heap.size p u v ∧ IntAt W (w.heap.size + 1) false (.slice none 0 0) ∧ IntAt W (w.heap.size + 1 + 1) false (.slice none 0 0) ∧ IntAt W (w.heap.size + 1 + 1 + 1) false (.slice none 0 0) := by
  refine ⟨_, rfl, ((((Below.refl _ _).alloc (Nat.le_refl _) _).alloc (by simp) _).alloc (by simp; omega) _).alloc (by simp; omega) _, by simp, ?_, ?_, ?_, ?_⟩
  · refine ⟨?_, ?_, ?_, ?_, ?_, ?_⟩ <;> go_simp
  · refine ⟨?_, ?_, ?_, ?_⟩ <;> go_simp
  · refine ⟨?_, ?_, ?_, ?_⟩ <;> go_simp
  · refine ⟨?_, ?_, ?_, ?_⟩ <;> go_simp

set_option maxRecDepth 100000 in
set_option maxHeartbeats 2000000 in
theorem floor_c (p : Bool) (A B : Option Addr) (xs ys : List Nat) (c d : Nat) (w : World) (r : Rat) (K : Nat) (ha : Lim w A c xs) (hb : Lim w B d ys) (hs : xs.length ≤ K) (ht : ys.length ≤ K) (h1 : 1 ≤ K) (hK : K ≤ 70368744177660) (hr : rv p xs ys = r) :
    Calls Tryz.prog 96 #[.agg #[.bool p, .slice A xs.length c, .slice B ys.length d]] w (RetFloor w r K) := by
  obtain ⟨W, hW, hbW, hsz, i1, i2, i3, i4⟩ := rbox1iii w p (.slice A xs.length c) (.slice B ys.length d)
  have j1 := i1.lt
  have j2 := i2.lt
  have j3 := i3.lt
  have j4 := i4.lt
  obtain ⟨x0, x1, x2, _, _, _⟩ := id i1
  have HW := Lib.hid hW
  have HR := Lib.hid hr
  clear hW hsz hr
  replace ha := ha.below hbW
  replace hb := hb.below hbW
  go_enter Tryz.func96, Tryz.ntmps96
  go_wp2_with fail
  rw [HW.out]
  refine (parts_c p A B xs ys c d _ r K ha hb hs ht h1 HR.out).mono ?_
  rintro e w1 ⟨q, A', xs', c', B', ys', d', rfl, la, lb, hs', ht', hne, hrv, b1⟩
  obtain ⟨n, en⟩ : ∃ n, iv q xs' = n := ⟨_, rfl⟩
  obtain ⟨D, eD⟩ : ∃ D, val ys' = D := ⟨_, rfl⟩
  have zn : (limbs n.natAbs).length ≤ K := by rw [← en]; exact iv_len la.lb hs'
  unfold rv at hrv
  rw [en, eD] at hrv
  rw [eD] at hne
  obtain ⟨Q, eQ⟩ : ∃ Q : Int, n / (D : Int) = Q := ⟨_, rfl⟩
  obtain ⟨S, eS⟩ : ∃ S : Int, n % (D : Int) = S := ⟨_, rfl⟩
  have EN := Lib.hid en
  have ED := Lib.hid eD
  have EQ := Lib.hid eQ
  have ES := Lib.hid eS
  have HV := Lib.hid hrv
  clear en eD eQ eS hrv x0 x1 x2
  have u2 := i2.keep b1
  have u3 := i3.keep b1
  have u4 := i4.keep b1
  obtain ⟨z0, z1, z2, z3⟩ := id u4
  have m4 := u4.lt
  have hb1 := hbW.trans (b1.mono hbW.size)
  -- the variables num and den
  have la1 := (la.put u4 false (.slice B' ys'.length d')).below (bel1 _ (.cells #[.bool q, .slice A' xs'.length c'] 24))
  have lb1 := (lb.put u4 false (.slice B' ys'.length d')).below (bel1 _ (.cells #[.bool q, .slice A' xs'.length c'] 24))
  have v2 := (u2.far (M := w.heap.size + 1 + 1 + 1) (by omega) (.bool false) (.slice B' ys'.length d')).alloc (.cells #[.bool q, .slice A' xs'.length c'] 24)
  have v3 := (u3.far (M := w.heap.size + 1 + 1 + 1) (by omega) (.bool false) (.slice B' ys'.length d')).alloc (.cells #[.bool q, .slice A' xs'.length c'] 24)
  have v4 := (u4.put false (.slice B' ys'.length d')).alloc (.cells #[.bool q, .slice A' xs'.length c'] 24)
  have v5 := IntAt.new ((w1.setCell ⟨w.heap.size + 1 + 1 + 1, 0, none⟩ (.bool false)).setCell ⟨w.heap.size + 1 + 1 + 1, 1, none⟩ (.slice B' ys'.length d')) q (.slice A' xs'.length c')
  have e5 : ((w1.setCell ⟨w.heap.size + 1 + 1 + 1, 0, none⟩ (.bool false)).setCell ⟨w.heap.size + 1 + 1 + 1, 1, none⟩ (.slice B' ys'.length d')).heap.size = w1.heap.size := by simp
  rw [e5] at v5
  have hb2 := below_put2 hb1 (show w.heap.size ≤ w.heap.size + 1 + 1 + 1 by omega) (.bool false) (.slice B' ys'.length d')
  have hb3 := hb2.alloc hb2.size (.cells #[.bool q, .slice A' xs'.length c'] 24)
  obtain ⟨w2, hw2⟩ : ∃ w2, ((w1.setCell ⟨w.heap.size + 1 + 1 + 1, 0, none⟩ (.bool false)).setCell ⟨w.heap.size + 1 + 1 + 1, 1, none⟩ (.slice B' ys'.length d')).alloc (.cells #[.bool q, .slice A' xs'.length c'] 24) = w2 := ⟨_, rfl⟩
  rw [hw2] at la1 lb1 v2 v3 v4 v5 hb3
  clear la lb u2 u3 u4 b1 hb1 hb2 e5 i1 i2 i3 i4
  obtain ⟨a0, a1, _, _⟩ := id v5
  obtain ⟨b0, b1, _, _⟩ := id v4
  have l5 := v5.lt
  have l4 := v4.lt
  go_wp2_with fail
  refine (IDivMod_n q false A' B' xs' ys' c' d' _ n (D : Int) Q S K K la1 lb1 hs' ht' EN.out (by unfold iv; rw [ED.out]; rfl) (by omega) EQ.out ES.out (by omega) (by omega)).mono ?_
  rintro e w3 ⟨A6, c6, A7, c7, rfl, r6, r7, b3⟩
  clear hw2 a0 a1 b0 b1 z0 z1 z2 z3
  have u2 := v2.keep b3
  have u3 := v3.keep b3
  have u4 := v4.keep b3
  have lb2 := lb1.below b3
  have o6 := r6.mono (lo' := w.heap.size) hb3.size
  have o7 := r7.mono (lo' := w.heap.size) hb3.size
  have hb4 := hb3.trans (b3.mono hb3.size)
  obtain ⟨x0, x1, x2, x3⟩ := id u2
  obtain ⟨y0, y1, y2, y3⟩ := id u3
  have n2 := u2.lt
  have n3 := u3.lt
  have n4 := u4.lt
  have t2 := (u2.put (decide (Q < 0)) (.slice A6 (limbs Q.natAbs).length c6)).far (M := w.heap.size + 1 + 1) (by omega) (.bool (decide (S < 0))) (.slice A7 (limbs S.natAbs).length c7)
  have u3' := u3.far (M := w.heap.size + 1) (by omega) (.bool (decide (Q < 0))) (.slice A6 (limbs Q.natAbs).length c6)
  have t3 := u3'.put (decide (S < 0)) (.slice A7 (limbs S.natAbs).length c7)
  have t4 := (u4.far (M := w.heap.size + 1) (by omega) (.bool (decide (Q < 0))) (.slice A6 (limbs Q.natAbs).length c6)).far (M := w.heap.size + 1 + 1) (by omega) (.bool (decide (S < 0))) (.slice A7 (limbs S.natAbs).length c7)
  have p6 := (o6.put u2 (decide (Q < 0)) (.slice A6 (limbs Q.natAbs).length c6)).put u3' (decide (S < 0)) (.slice A7 (limbs S.natAbs).length c7)
  have p7 := (o7.put u2 (decide (Q < 0)) (.slice A6 (limbs Q.natAbs).length c6)).put u3' (decide (S < 0)) (.slice A7 (limbs S.natAbs).length c7)
  have pb := (lb2.put u2 (decide (Q < 0)) (.slice A6 (limbs Q.natAbs).length c6)).put u3' (decide (S < 0)) (.slice A7 (limbs S.natAbs).length c7)
  have hb5 := below_put2 (below_put2 hb4 (show w.heap.size ≤ w.heap.size + 1 by omega) (.bool (decide (Q < 0))) (.slice A6 (limbs Q.natAbs).length c6)) (show w.heap.size ≤ w.heap.size + 1 + 1 by omega) (.bool (decide (S < 0))) (.slice A7 (limbs S.natAbs).length c7)
  obtain ⟨w4, hw4⟩ : ∃ w4, (((w3.setCell ⟨w.heap.size + 1, 0, none⟩ (.bool (decide (Q < 0)))).setCell ⟨w.heap.size + 1, 1, none⟩ (.slice A6 (limbs Q.natAbs).length c6)).setCell ⟨w.heap.size + 1 + 1, 0, none⟩ (.bool (decide (S < 0)))).setCell ⟨w.heap.size + 1 + 1, 1, none⟩ (.slice A7 (limbs S.natAbs).length c7) = w4 := ⟨_, rfl⟩
  rw [hw4] at t2 t3 t4 p6 p7 pb hb5
  clear u2 u3 u4 u3' lb2 o6 o7 r6 r7 b3 hb4 v2 v3 v4 v5 lb1 la1 hb3
  go_wp2_with fail
  try rw [hw4]
  clear hw4 x0 x1 x2 x3 y0 y1 y2 y3
  obtain ⟨x0, x1, x2, x3⟩ := id t2
  obtain ⟨y0, y1, y2, y3⟩ := id t3
  obtain ⟨z0, z1, z2, z3⟩ := id t4
  have f3 := t3.far (M := w.heap.size + 1) (by omega) (.bool (decide (Q < 0))) (.slice A6 (limbs Q.natAbs).length c6)
  have f4 := (t4.far (M := w.heap.size + 1) (by omega) (.bool (decide (Q < 0))) (.slice A6 (limbs Q.natAbs).length c6)).far (M := w.heap.size + 1 + 1) (by omega) (.bool (decide (S < 0))) (.slice A7 (limbs S.natAbs).length c7)
  have g6 := (((p6.put t2 (decide (Q < 0)) (.slice A6 (limbs Q.natAbs).length c6)).put f3 (decide (S < 0)) (.slice A7 (limbs S.natAbs).length c7)).put f4 false (.slice B' ys'.length d')).drewN 1
  have g7 := (((p7.put t2 (decide (Q < 0)) (.slice A6 (limbs Q.natAbs).length c6)).put f3 (decide (S < 0)) (.slice A7 (limbs S.natAbs).length c7)).put f4 false (.slice B' ys'.length d')).drewN 1
  have gb := (((pb.put t2 (decide (Q < 0)) (.slice A6 (limbs Q.natAbs).length c6)).put f3 (decide (S < 0)) (.slice A7 (limbs S.natAbs).length c7)).put f4 false (.slice B' ys'.length d')).drewN 1
  have hb6 := (below_put2 (below_put2 (below_put2 hb5 (show w.heap.size ≤ w.heap.size + 1 by omega) (.bool (decide (Q < 0))) (.slice A6 (limbs Q.natAbs).length c6)) (show w.heap.size ≤ w.heap.size + 1 + 1 by omega) (.bool (decide (S < 0))) (.slice A7 (limbs S.natAbs).length c7)) (show w.heap.size ≤ w.heap.size + 1 + 1 + 1 by omega) (.bool false) (.slice B' ys'.length d')).drew
  have HRET := Lib.hid (show RetFloor w r K (.returned (.tuple #[.agg #[.bool (decide (Q < 0)), .slice A6 (limbs Q.natAbs).length c6], .agg #[.bool (decide (S < 0)), .slice A7 (limbs S.natAbs).length c7], .agg #[.bool false, .slice B' ys'.length d']])) _ from ⟨n, D, A6, c6, A7, c7, B', ys', d', by rw [EQ.out, ES.out], by rw [EQ.out]; exact g6, by rw [ES.out]; exact g7, gb, ht', zn, ED.out, hne, HV.out, hb6⟩)
  clear f3 f4 g6 g7 gb hb6 t2 t3 t4 p6 p7 pb hb5
  go_region
  go_wp2_with fail
  exact bodyPost_ret (v := .tuple #[.agg #[.bool (decide (Q < 0)), .slice A6 (limbs Q.natAbs).length c6], .agg #[.bool (decide (S < 0)), .slice A7 (limbs S.natAbs).length c7], .agg #[.bool false, .slice B' ys'.length d']]) (by simp [results, Tryz.results96, go_sem, x0, x1, y0, y1, z0, z1]) rfl HRET.out

/- Contracts of rational.Floor, Round. -/

theorem rbox1I (w : World) (p : Bool) (u v : Value) :
    ∃ W, (w.alloc (.cells #[.bool p, u, v] 26)).alloc (.cells #[.bool false, .slice none 0 0] 24) = W ∧ Below w.heap.size w W ∧ W.heap.size = w.heap.size + 2 ∧ RatAt W w.heap.size p u v ∧ IntAt W (w.heap.size + 1) false (.slice none 0 0) := rbox1i w p u v
theorem boxes3k (w : World) (p q r : Bool) (u v t : Value) :
    ∃ W, ((w.alloc (.cells #[.bool p, u] 24)).alloc (.cells #[.bool q, v] 24)).alloc (.cells #[.bool r, t] 24) = W ∧ Below w.heap.size w W ∧ IntAt W w.heap.size p u ∧ IntAt W (w.heap.size + 1) q v ∧ IntAt W (w.heap.size + 1 + 1) r t := by
  refine ⟨_, rfl, (((Below.refl _ _).alloc (Nat.le_refl _) _).alloc (by simp) _).alloc (by simp; omega) _, ?_, ?_, ?_⟩
  · refine ⟨?_, ?_, ?_, ?_⟩ <;> go_simp
  · refine ⟨?_, ?_, ?_, ?_⟩ <;> go_simp
  · refine ⟨?_, ?_, ?_, ?_⟩ <;> go_simp
/-- an integer that was returned, stored into the result -/
theorem ret_int {w w1 : World} {n : Int} {N : Nat} {b : Bool} {B : Option Addr} {m k : Nat} {A : Option Addr} {c : Nat} (hN : IntAt w1 N b (.slice B m k)) (hl : w.heap.size ≤ N) (o : Own w.heap.size w1 A c (limbs n.natAbs)) (hb : Below w.heap.size w w1) :
    RetInt w n (.returned (.agg #[.bool (decide (n < 0)), .slice A (limbs n.natAbs).length c])) ((w1.setCell ⟨N, 0, none⟩ (.bool (decide (n < 0)))).setCell ⟨N, 1, none⟩ (.slice A (limbs n.natAbs).length c)) :=
  ⟨A, c, rfl, o.put hN _ _, below_put2 hb hl _ _⟩

set_option maxRecDepth 100000 in
set_option maxHeartbeats 1000000 in
theorem RFloor_c (p : Bool) (A B : Option Addr) (xs ys : List Nat) (c d : Nat) (w : World) (r : Rat) (s : Int) (K : Nat) (ha : Lim w A c xs) (hb : Lim w B d ys) (hs : xs.length ≤ K) (ht : ys.length ≤ K) (h1 : 1 ≤ K) (hK : K ≤ 70368744177660) (hr : rv p xs ys = r) (hf : r.floor = s) :
    Calls Tryz.prog 74 #[.agg #[.bool p, .slice A xs.length c, .slice B ys.length d]] w (RetInt w s) := by
  obtain ⟨W, hW, hbW, hsz, i1, i2⟩ := rbox1I w p (.slice A xs.length c) (.slice B ys.length d)
  have j1 := i1.lt
  have j2 := i2.lt
  obtain ⟨x0, x1, x2, _, _, _⟩ := id i1
  have HW := Lib.hid hW
  have HR := Lib.hid hr
  clear hW hsz hr
  replace ha := ha.below hbW
  replace hb := hb.below hbW
  go_enter Tryz.func74, Tryz.ntmps74
  go_wp2_with fail
  rw [HW.out]
  refine (floor_c p A B xs ys c d _ r K ha hb hs ht h1 hK HR.out).mono ?_
  rintro e w1 ⟨n, D, A1, c1, A2, c2, A3, ys3, c3, rfl, r1, r2, l3, z3, zn, ev, hD, hm, b1⟩
  have es : n / (D : Int) = s := by rw [← hf, ← hm]; exact (mkRat_floor hD).symm
  obtain ⟨S, eS⟩ : ∃ S : Int, n % (D : Int) = S := ⟨_, rfl⟩
  rw [es] at r1 ⊢
  rw [eS] at r2 ⊢
  clear es eS hm ev hf
  obtain ⟨W2, hW2, hbW2, k3, k4, k5⟩ := boxes3k w1 (decide (s < 0)) (decide (S < 0)) false (.slice A1 (limbs s.natAbs).length c1) (.slice A2 (limbs S.natAbs).length c2) (.slice A3 ys3.length c3)
  have b2 := b1.trans (hbW2.mono b1.size)
  have t2 := i2.keep b2
  have o1 := (r1.below hbW2).mono (lo' := w.heap.size) hbW.size
  have hb2 := hbW.trans (b2.mono hbW.size)
  obtain ⟨q0, q1, q2, q3⟩ := id t2
  obtain ⟨m0, m1, _, _⟩ := id k3
  have l2 := t2.lt
  have l3' := k3.lt
  have HRET := Lib.hid (ret_int (w := w) t2 (by omega) o1 hb2)
  clear r1 r2 b1 hbW2 b2 t2 o1 hb2 k3 k4 k5
  go_wp2_with fail
  exact bodyPost_ret (v := .agg #[.bool (decide (s < 0)), .slice A1 (limbs s.natAbs).length c1]) (by simp [results, Tryz.results74, go_sem, q0, q1]) rfl HRET.out

/- Contracts of rational.Size, Round. -/

theorem nb_limbs_le {n K : Nat} (h : (limbs n).length ≤ K) : nb n ≤ 32 * K := by
  have := nb_len (Lb_limbs n)
  rw [val_limbs] at this
  omega
/-- the number of bits of a rational number -/
def rsz (r : Rat) : Nat := nb r.num.natAbs + nb r.den
/-- the nearest integer of n / D, of two the even one -/
def rndI (n : Int) (D : Nat) : Int := if (D : Int) < n % (D : Int) + n % (D : Int) ∨ ((D : Int) = n % (D : Int) + n % (D : Int) ∧ (n / (D : Int)).natAbs % 2 = 1) then n / (D : Int) + 1 else n / (D : Int)
theorem FromInt_o (v o : Int) (w : World) (h1 : -9223372036854775808 ≤ v) (h2 : v ≤ 9223372036854775807) (h : v = o) : Calls Tryz.prog 27 #[.int .i64 v] w (RetInt w o) := by
  subst h; exact FromInt_c v w h1 h2
def rrnd (r : Rat) : Int := rndI r.num r.den
theorem limb0_even (n : Nat) : (limbs n)[0]?.getD 0 % 2 = n % 2 := by
  have hv := val_limbs n
  cases hl : limbs n with
  | nil => rw [hl] at hv; rw [← hv]; rfl
  | cons x l =>
    rw [hl] at hv
    have e : val (x :: l) = x + Ba * val l := rfl
    have e2 : Ba = 2 * 2147483648 := rfl
    rw [← hv, e, e2, Nat.mul_assoc]
    simp
theorem rndI_mk {n : Int} {D : Nat} (h : D ≠ 0) : rndI n D = rrnd (mkRat n D) := by
  obtain ⟨h1, h2⟩ := mkRat_parts (n := n) h
  unfold rrnd rndI
  rw [h1, h2]
  have hg : 0 < Nat.gcd n.natAbs D := Nat.gcd_pos_of_pos_right _ (Nat.pos_of_ne_zero h)
  have hd1 : ((Nat.gcd n.natAbs D : Nat) : Int) ∣ n := by
    rw [← Int.dvd_natAbs]; exact Int.natCast_dvd_natCast.2 (Nat.gcd_dvd_left _ _)
  have hd2 : Nat.gcd n.natAbs D ∣ D := Nat.gcd_dvd_right _ _
  obtain ⟨k, hk⟩ := hd1
  obtain ⟨m, hm⟩ := hd2
  generalize Nat.gcd n.natAbs D = g at hg hk hm
  subst hk
  subst hm
  rw [Int.mul_ediv_cancel_left _ (by omega), Nat.mul_div_cancel_left _ hg, Int.natCast_mul, Int.mul_ediv_mul_of_pos _ _ (by omega), Int.mul_emod_mul_of_pos _ _ (by omega), ← Int.mul_add]
  have e1 : ((g : Int) * (m : Int) < (g : Int) * (k % (m : Int) + k % (m : Int))) ↔ ((m : Int) < k % (m : Int) + k % (m : Int)) := Int.mul_lt_mul_left (by omega)
  have e2 : ((g : Int) * (m : Int) = (g : Int) * (k % (m : Int) + k % (m : Int))) ↔ ((m : Int) = k % (m : Int) + k % (m : Int)) := ⟨fun h => Int.eq_of_mul_eq_mul_left (by omega) h, fun h => by rw [← h]⟩
  simp only [e1, e2]


end Go.Proofs.YtnjannpoemdbaaaGreat
