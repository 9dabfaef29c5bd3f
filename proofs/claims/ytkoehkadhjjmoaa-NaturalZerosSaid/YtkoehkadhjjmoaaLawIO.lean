/- The walk of the statement IntegerOrder: it returns true. -/
import Derived.Test.YtkoehkadhjjmoaaAwake2
namespace Go.Proofs.Ytkoehkadhjjmoaa
open Go.RowKit Gm

theorem limbs_add_le {a b k : Nat} (ha : (limbs a).length ≤ k) (hb : (limbs b).length ≤ k) : (limbs (a + b)).length ≤ k + 1 := by
  have h1 := val_lt (Lb_limbs a)
  have h2 := val_lt (Lb_limbs b)
  rw [val_limbs] at h1 h2
  have h3 : Ba ^ (limbs a).length ≤ Ba ^ k := Nat.pow_le_pow_right Ba_pos ha
  have h4 : Ba ^ (limbs b).length ≤ Ba ^ k := Nat.pow_le_pow_right Ba_pos hb
  have h5 : Ba ^ (k + 1) = Ba ^ k * Ba := Nat.pow_succ ..
  have h6 : Ba ^ k * 2 ≤ Ba ^ k * Ba := Nat.mul_le_mul_left _ (by decide)
  exact limbs_length_lt (by omega)
theorem iv_natAbs (p : Bool) (xs : List Nat) : (iv p xs).natAbs = val xs := mkI_natAbs p (val xs)
/-- the size of a sum -/
theorem isum_le {m n : Int} {k : Nat} (hm : (limbs m.natAbs).length ≤ k) (hn : (limbs n.natAbs).length ≤ k) : (limbs (m + n).natAbs).length ≤ k + 1 :=
  Nat.le_trans (limbs_mono (Int.natAbs_add_le m n)) (limbs_add_le hm hn)
theorem isub_le {m n : Int} {k : Nat} (hm : (limbs m.natAbs).length ≤ k) (hn : (limbs n.natAbs).length ≤ k) : (limbs (m - n).natAbs).length ≤ k + 1 := by
  rw [Int.sub_eq_add_neg]
  exact isum_le hm (by rw [Int.natAbs_neg]; exact hn)
theorem iv_len {p : Bool} {xs : List Nat} {k : Nat} (h : Lb xs) (hl : xs.length ≤ k) : (limbs (iv p xs).natAbs).length ≤ k := by
  rw [iv_natAbs]; exact Nat.le_trans (limbs_length_le h) hl

/-- contracts at canonical arguments, with a named result -/
theorem Sign_k (n r : Int) (A : Option Addr) (c : Nat) (w : World) (h : Lim w A c (limbs n.natAbs)) (hr : sgn n = r) :
    Calls Try.prog 25 #[.agg #[.bool (decide (n < 0)), .slice A (limbs n.natAbs).length c]] w (RetI w r) := by
  have k := Sign_c (decide (n < 0)) A (limbs n.natAbs) c w h
  rw [iv_canon, hr] at k
  exact k
theorem ICompare_k (m n r : Int) (A B : Option Addr) (c d : Nat) (w : World) (ha : Lim w A c (limbs m.natAbs)) (hb : Lim w B d (limbs n.natAbs)) (hr : cmpI m n = r) :
    Calls Try.prog 23 #[.agg #[.bool (decide (m < 0)), .slice A (limbs m.natAbs).length c], .agg #[.bool (decide (n < 0)), .slice B (limbs n.natAbs).length d]] w (RetI w r) := by
  have k := ICompare_c (decide (m < 0)) (decide (n < 0)) A B (limbs m.natAbs) (limbs n.natAbs) c d w ha hb
  rw [iv_canon, iv_canon, hr] at k
  exact k
theorem ICompare_e (p q : Bool) (r : Int) (A B : Option Addr) (xs ys : List Nat) (c d : Nat) (w : World) (ha : Lim w A c xs) (hb : Lim w B d ys) (hr : cmpI (iv p xs) (iv q ys) = r) :
    Calls Try.prog 23 #[.agg #[.bool p, .slice A xs.length c], .agg #[.bool q, .slice B ys.length d]] w (RetI w r) := by
  have k := ICompare_c p q A B xs ys c d w ha hb
  rw [hr] at k
  exact k

theorem cmpI_sgn (m n : Int) : sgn (m - n) = cmpI m n := by unfold sgn cmpI; split <;> split <;> (try split) <;> (try split) <;> omega
theorem cmpI_flip (m n : Int) : cmpI n m = - cmpI m n := by unfold cmpI; split <;> split <;> (try split) <;> (try split) <;> omega
theorem cmpI_shift (m n k : Int) : cmpI (m + k) (n + k) = cmpI m n := by unfold cmpI; split <;> split <;> (try split) <;> (try split) <;> omega
theorem cmpI_bd (m n : Int) : -1 ≤ cmpI m n ∧ cmpI m n ≤ 1 := by unfold cmpI; split <;> (try split) <;> omega
theorem cmpI_trans {m n k : Int} (h1 : ¬ 0 < cmpI m n) (h2 : ¬ 0 < cmpI n k) : cmpI m k ≤ 0 := by
  unfold cmpI at *; split <;> (try split) <;> (repeat' split at h1) <;> (repeat' split at h2) <;> omega

/-- three boxed integers -/
theorem boxes3 (w : World) (p q r : Bool) (u v t : Value) :
    ∃ W, ((w.alloc (.cells #[.bool p, u] 24)).alloc (.cells #[.bool q, v] 24)).alloc (.cells #[.bool r, t] 24) = W ∧ Below w.heap.size w W ∧ W.heap.size = w.heap.size + 3 ∧
      W.cell? ⟨w.heap.size, 0, none⟩ = some (.bool p) ∧ W.cell? ⟨w.heap.size, 1, none⟩ = some u ∧ W.cell? ⟨w.heap.size + 1, 0, none⟩ = some (.bool q) ∧ W.cell? ⟨w.heap.size + 1, 1, none⟩ = some v ∧
      W.cell? ⟨w.heap.size + 1 + 1, 0, none⟩ = some (.bool r) ∧ W.cell? ⟨w.heap.size + 1 + 1, 1, none⟩ = some t := by
  refine ⟨_, rfl, (((Below.refl _ _).alloc (Nat.le_refl _) _).alloc (by simp) _).alloc (by simp; omega) _, by simp, ?_⟩
  refine ⟨?_, ?_, ?_, ?_, ?_, ?_⟩ <;> go_simp

set_option maxHeartbeats 2000000 in
theorem order_walk (p q r : Bool) (A B C : Option Addr) (xs ys zs : List Nat) (c d f : Nat) (w : World) (ha : Lim w A c xs) (hb : Lim w B d ys) (hc : Lim w C f zs)
    (la : xs.length ≤ 35184372087808) (lb : ys.length ≤ 35184372087808) (lc : zs.length ≤ 35184372087808) :
    Calls Try.prog 3 #[.agg #[.bool p, .slice A xs.length c], .agg #[.bool q, .slice B ys.length d], .agg #[.bool r, .slice C zs.length f]] w (RetB w true) := by
  have e1 := cmpI_sgn (iv p xs) (iv q ys)
  have e2 := cmpI_flip (iv p xs) (iv q ys)
  have e3 := cmpI_shift (iv p xs) (iv q ys) (iv r zs)
  have bd := cmpI_bd (iv p xs) (iv q ys)
  have HT := Lib.hid (@cmpI_trans (iv p xs) (iv q ys) (iv r zs))
  obtain ⟨x, hx⟩ : ∃ x, cmpI (iv p xs) (iv q ys) = x := ⟨_, rfl⟩
  obtain ⟨y, hy⟩ : ∃ y, cmpI (iv q ys) (iv r zs) = y := ⟨_, rfl⟩
  obtain ⟨z, hz⟩ : ∃ z, cmpI (iv p xs) (iv r zs) = z := ⟨_, rfl⟩
  rw [hx] at e1 e2 e3 bd HT
  rw [hy, hz] at HT
  obtain ⟨bd1, bd2⟩ := bd
  have E1 := Lib.hid e1
  have E2 := Lib.hid e2
  have E3 := Lib.hid e3
  have HX := Lib.hid hx
  have HY := Lib.hid hy
  have HZ := Lib.hid hz
  clear e1 e2 e3 hx hy hz
  have sb := isub_le (iv_len (p := p) ha.lb la) (iv_len (p := q) hb.lb lb)
  have s1 := isum_le (iv_len (p := p) ha.lb la) (iv_len (p := r) hc.lb lc)
  have s2 := isum_le (iv_len (p := q) hb.lb lb) (iv_len (p := r) hc.lb lc)
  have hw : IntKind.i64.wrap (-x) = -x := IntWalk.i64_in _ (by omega)
  go_enter Try.func3, Try.ntmps3
  go_wp2_with fail
  obtain ⟨W, hW, hbW, hsz, t1, t2, t3, t4, t5, t6⟩ := boxes3 w p q r (.slice A xs.length c) (.slice B ys.length d) (.slice C zs.length f)
  rw [hW]
  clear hW
  have j1 : w.heap.size < W.heap.size := by omega
  have j2 : w.heap.size + 1 < W.heap.size := by omega
  have j3 : w.heap.size + 1 + 1 < W.heap.size := by omega
  clear hsz
  replace ha := ha.below hbW
  replace hb := hb.below hbW
  replace hc := hc.below hbW
  refine (ICompare_e p q x A B xs ys c d W ha hb HX.out).mono ?_
  rintro e w1 ⟨rfl, b1⟩
  have u1 := cellB b1 j1 t1
  have u2 := cellB b1 j1 t2
  have u3 := cellB b1 j2 t3
  have u4 := cellB b1 j2 t4
  have u5 := cellB b1 j3 t5
  have u6 := cellB b1 j3 t6
  have hBel : Below W.heap.size W w1.drew := b1.drew
  go_wp2_with fail
  go_region_held3 (fun w' => w'.cell? ⟨w.heap.size, 0, none⟩ = some (.bool p) ∧ w'.cell? ⟨w.heap.size, 1, none⟩ = some (.slice A xs.length c) ∧ w'.cell? ⟨w.heap.size + 1, 0, none⟩ = some (.bool q) ∧ w'.cell? ⟨w.heap.size + 1, 1, none⟩ = some (.slice B ys.length d) ∧ w'.cell? ⟨w.heap.size + 1 + 1, 0, none⟩ = some (.bool r) ∧ w'.cell? ⟨w.heap.size + 1 + 1, 1, none⟩ = some (.slice C zs.length f))
    (first | exact ⟨cellB hBel j1 t1, cellB hBel j1 t2, cellB hBel j2 t3, cellB hBel j2 t4, cellB hBel j3 t5, cellB hBel j3 t6⟩ | go_keep)
    (first
      | (go_at_call 24; refine (awake2_c _).mono ?_; rintro e w' ⟨rfl, b9⟩; replace hBel := hBel.trans (b9.mono hBel.size))
      | (go_at_call 26; refine (ISub_c p q A B xs ys c d _ ?_ ?_ ?_ ?_).mono ?_; exact ha.below hBel; exact hb.below hBel; omega; omega; rintro e w' ⟨A9, c9, rfl, r9, b9⟩; replace hBel := hBel.trans (b9.mono hBel.size))
      | (go_at_call 25; refine (Sign_k (iv p xs - iv q ys) x A9 c9 _ r9.lim E1.out).mono ?_; rintro e w' ⟨rfl, b9⟩; replace hBel := hBel.trans (b9.mono hBel.size))
      | (go_at_call_of 23 (Value.slice B ys.length d); refine (ICompare_e q p (-x) B A ys xs d c _ ?_ ?_ E2.out).mono ?_; exact hb.below hBel; exact ha.below hBel; rintro e w' ⟨rfl, b9⟩; replace hBel := hBel.trans (b9.mono hBel.size))
      | (go_at_call_of 27 (Value.slice A xs.length c); refine (IAdd_c p r A C xs zs c f _ ?_ ?_ ?_ ?_).mono ?_; exact ha.below hBel; exact hc.below hBel; omega; omega; rintro e w' ⟨A7, c7, rfl, r7, b9⟩; replace hBel := hBel.trans (b9.mono hBel.size))
      | (go_at_call_of 27 (Value.slice B ys.length d); refine (IAdd_c q r B C ys zs d f _ ?_ ?_ ?_ ?_).mono ?_; exact hb.below hBel; exact hc.below hBel; omega; omega; rintro e w' ⟨A8, c8, rfl, r8, b8⟩; replace hBel := hBel.trans (b8.mono hBel.size))
      | (go_at_call 23; refine (ICompare_k (iv p xs + iv r zs) (iv q ys + iv r zs) x A7 A8 c7 c8 _ ?_ r8.lim E3.out).mono ?_; exact r7.lim.below b8; rintro e w' ⟨rfl, b9⟩; replace hBel := hBel.trans (b9.mono hBel.size)))
  rename_i hHeld
  obtain ⟨v1, v2, v3, v4, v5, v6⟩ := hHeld
  have hfin : ∀ w9 : World, Below w'.heap.size w' w9 → Below w.heap.size w w9 := fun w9 h9 => (hbW.trans (hBel.mono hbW.size)).trans (h9.mono (Nat.le_trans hbW.size hBel.size))
  have HF := Lib.hid hfin
  have HS := Lib.hid hBel.size
  replace ha := ha.below hBel
  replace hb := hb.below hBel
  replace hc := hc.below hBel
  have hHT : ¬ 0 < x → ¬ 0 < y → z ≤ 0 := fun g1 g2 => HT.out (by omega) (by omega)
  have HT2 := Lib.hid hHT
  clear hfin hHT HT r7 r8 r9 hBel b8 b9 hw
  by_cases g1 : 0 < x
  · go_wp2
    go_ret
    exact ⟨rfl, HF.out _ (Below.refl _ _)⟩
  · go_wp2_with fail
    refine (ICompare_e q r y B C ys zs d f w' hb hc HY.out).mono ?_
    rintro e w9 ⟨rfl, b9⟩
    by_cases g2 : 0 < y
    · go_wp2
      go_ret
      exact ⟨rfl, HF.out _ b9⟩
    · have g3 : z ≤ 0 := HT2.out (by omega) (by omega)
      have z1 : W.heap.size ≤ w'.heap.size := Nat.le_trans (HS.out) (Nat.le_refl _)
      have v1' := cellB b9 (Nat.lt_of_lt_of_le j1 z1) v1
      have v2' := cellB b9 (Nat.lt_of_lt_of_le j1 z1) v2
      have v5' := cellB b9 (Nat.lt_of_lt_of_le j3 z1) v5
      have v6' := cellB b9 (Nat.lt_of_lt_of_le j3 z1) v6
      go_wp2_with fail
      refine (ICompare_e p r z A C xs zs c f w9 (ha.below b9) (hc.below b9) HZ.out).mono ?_
      rintro e w10 ⟨rfl, b10⟩
      go_wp2
      go_ret
      exact ⟨rfl, HF.out _ (b9.trans (b10.mono b9.size))⟩

end Go.Proofs.Ytkoehkadhjjmoaa
