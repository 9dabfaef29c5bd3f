/- Contracts of the references of layers 1 and 2: numbers of 64 bits, sign, comparison, numbers of the language. -/
import Derived.Test.YtkpchamgghhihaaIntE
namespace Go.Proofs.Ytkpchamgghhihaa
open Go.RowKit Gm

set_option maxHeartbeats 400000 in
theorem rUint64_yes (A : Option Addr) (xs : List Nat) (c : Nat) (w : World) (h : Lim w A c xs) (hs : xs.length ≤ 70368744177664) (hv : val xs < Ba * Ba) :
    Calls Try.prog 121 #[.slice A xs.length c] w fun e w' => e = .returned (.tuple #[.int .u64 (val xs : Nat), .bool true]) ∧ Below w.heap.size w w' := by
  go_enter Try.func121, Try.ntmps121
  go_wp2_with fail
  refine (rTrim_c _ _ _ _ h hs).mono ?_
  rintro e w1 ⟨A1, c1, rfl, r1, b1⟩
  have h2 := limbs_two.2 hv
  have EV := Lib.hid (val_limbs (val xs))
  have hl := r1.lim
  have HB := Lib.hid b1
  clear hv h r1 b1
  generalize limbs (val xs) = us at *
  go_wp2_with fail
  go_loop [4, 5] (fun t i => ∃ k : Nat, k ≤ us.length ∧ i = .int .i64 ((k : Int) - 1) ∧ t = .int .u64 (val (us.drop k) : Nat)) (fun _ i => (intOf i + 1).toNat)
  case atStart => exact ⟨us.length, Nat.le_refl _, rfl, by simp [val]⟩
  case round =>
    obtain ⟨k, hk, ht, rfl⟩ := hrel
    rcases Nat.eq_zero_or_pos k with rfl | hp
    · subst ht
      rw [List.drop_zero]
      have e2 := EV.out
      rw [e2]
      clear e2
      go_wp2
      go_ret2
      exact ⟨rfl, HB.out⟩
    · obtain ⟨m, rfl⟩ : ∃ m, k = m + 1 := ⟨k - 1, by omega⟩
      obtain rfl := ht.trans (show Value.int .i64 (((m + 1 : Nat) : Int) - 1) = .int .i64 (m : Int) by congr 1; omega)
      obtain ⟨b, off, rfl, hb, hcell⟩ := hl.at_ (by omega)
      have hx := hcell m (by omega)
      have bx : us[m]?.getD 0 < 4294967296 := hl.lb.get m
      have hd := val_drop (xs := us) (k := m) (by omega)
      have bv : val (us.drop (m + 1)) < 4294967296 := by
        have h3 := val_lt (hl.lb.drop (m + 1))
        have h4 : (us.drop (m + 1)).length ≤ 1 := by simp; omega
        have h5 : Ba ^ (us.drop (m + 1)).length ≤ Ba ^ 1 := Nat.pow_le_pow_right Ba_pos h4
        have h6 : Ba ^ 1 = 4294967296 := by decide
        omega
      obtain ⟨x, ex⟩ : ∃ x, us[m]?.getD 0 = x := ⟨_, rfl⟩
      obtain ⟨v, ev⟩ : ∃ v, val (us.drop (m + 1)) = v := ⟨_, rfl⟩
      rw [ex] at hx bx hd
      rw [ev] at bv hd ⊢
      have HD := Lib.hid hd
      have EX := Lib.hid ev
      clear ex ev hd hcell
      go_wp2
      go_round
      case rel => exact ⟨m, by omega, rfl, by rw [HD.out, or_hi' x v bx bv]; rfl⟩
      case measure => simp [intOf]; try omega

set_option maxHeartbeats 400000 in
theorem rUint64_no (A : Option Addr) (xs : List Nat) (c : Nat) (w : World) (h : Lim w A c xs) (hs : xs.length ≤ 70368744177664) (hv : Ba * Ba ≤ val xs) :
    Calls Try.prog 121 #[.slice A xs.length c] w fun e w' => e = .returned (.tuple #[.int .u64 0, .bool false]) ∧ Below w.heap.size w w' := by
  go_enter Try.func121, Try.ntmps121
  go_wp2_with fail
  refine (rTrim_c _ _ _ _ h hs).mono ?_
  rintro e w1 ⟨A1, c1, rfl, r1, b1⟩
  have h2 : (2 : Int) < ((limbs (val xs)).length : Int) := by
    have : ¬ (limbs (val xs)).length ≤ 2 := fun h => by have := limbs_two.1 h; omega
    omega
  go_wp2_with fail
  go_ret2
  exact ⟨rfl, b1⟩

set_option maxHeartbeats 400000 in
theorem rSign_c (p : Bool) (A : Option Addr) (xs : List Nat) (c : Nat) (w : World) (h : Lim w A c xs) (hs : xs.length ≤ 70368744177664) :
    Calls Try.prog 84 #[.agg #[.bool p, .slice A xs.length c]] w (RetI w (sgn (iv p xs))) := by
  obtain ⟨n, en⟩ : ∃ n, iv p xs = n := ⟨_, rfl⟩
  rw [en]
  go_enter Try.func84, Try.ntmps84
  go_wp2_with fail
  obtain ⟨W, hW, hbW, hsz, kr⟩ := one_box w (.bool p) (.slice A xs.length c)
  rw [hW]
  clear hW
  have hz : w.heap.size < W.heap.size := by omega
  clear hsz
  refine (rNorm_n p A xs c _ n 70368744177664 (h.below hbW) hs en (Nat.le_refl _)).mono ?_
  rintro e w1 ⟨A1, c1, rfl, r1, b1⟩
  obtain ⟨m1, m2, m3, m4⟩ := keepR b1 hz kr
  have hfin : Below w.heap.size w ((w1.setCell ⟨w.heap.size, 0, none⟩ (.bool (decide (n < 0)))).setCell ⟨w.heap.size, 1, none⟩ (.slice A1 (limbs n.natAbs).length c1)) := below_put2 (hbW.trans (b1.mono hbW.size)) (Nat.le_refl _) _ _
  clear r1 b1 hbW kr h en
  have hln : (limbs n.natAbs).length = 0 ↔ n = 0 := by
    rw [List.length_eq_zero_iff, limbs_eq_nil]; omega
  rcases Int.lt_trichotomy n 0 with h0 | h0 | h0
  · have hd : decide (n < 0) = true := by simp [h0]
    rw [hd] at hfin ⊢
    have hsn : sgn n = -1 := by unfold sgn; rw [if_pos h0]
    have HS := Lib.hid hsn
    clear hd hln hsn
    go_wp2
    go_ret
    exact ⟨by rw [HS.out]; rfl, hfin⟩
  · subst h0
    have hd : decide ((0 : Int) < 0) = false := by simp
    have hl0 : (limbs (Int.natAbs 0)).length = 0 := hln.2 rfl
    rw [hd, hl0] at hfin ⊢
    have hsn : sgn 0 = 0 := by unfold sgn; simp
    have HS := Lib.hid hsn
    clear hd hln hsn hl0
    go_wp2
    go_ret
    exact ⟨by rw [HS.out]; rfl, hfin⟩
  · have hd : decide (n < 0) = false := by simp; omega
    rw [hd] at hfin ⊢
    have hsn : sgn n = 1 := by unfold sgn; rw [if_neg (by omega), if_pos h0]
    have HS := Lib.hid hsn
    have hne : (((limbs n.natAbs).length : Int) == 0) = false := by
      rw [beq_eq_false_iff_ne]
      intro e
      have := hln.1 (by omega)
      omega
    generalize (limbs n.natAbs).length = k at *
    clear hd hln hsn
    go_wp2
    go_ret
    exact ⟨by rw [HS.out]; rfl, hfin⟩

theorem rSign_k (n : Int) (A : Option Addr) (c : Nat) (w : World) (h : Lim w A c (limbs n.natAbs)) (hs : (limbs n.natAbs).length ≤ 70368744177664) :
    Calls Try.prog 84 #[.agg #[.bool (decide (n < 0)), .slice A (limbs n.natAbs).length c]] w (RetI w (sgn n)) := by
  have k := rSign_c (decide (n < 0)) A (limbs n.natAbs) c w h hs
  rw [iv_canon] at k; exact k

set_option maxHeartbeats 400000 in
theorem rICompare_c (p q : Bool) (A B : Option Addr) (xs ys : List Nat) (c d : Nat) (w : World) (K : Nat) (ha : Lim w A c xs) (hb : Lim w B d ys) (hs : xs.length ≤ K) (ht : ys.length ≤ K) (hK : K < 70368744177664) :
    Calls Try.prog 82 #[.agg #[.bool p, .slice A xs.length c], .agg #[.bool q, .slice B ys.length d]] w (RetI w (cmpI (iv p xs) (iv q ys))) := by
  obtain ⟨s, es⟩ : ∃ s, iv p xs - iv q ys = s := ⟨_, rfl⟩
  have hz := isub_sz (j := K + 1) (iv_len (p := p) ha.lb hs) (iv_len (p := q) hb.lb ht) es (Nat.le_refl _) (Nat.le_refl _)
  have EC := Lib.hid (show sgn s = cmpI (iv p xs) (iv q ys) by rw [← es]; exact cmpI_sgn _ _)
  have ES := Lib.hid es
  clear es
  go_enter Try.func82, Try.ntmps82
  go_wp2_with fail
  obtain ⟨W, hW, hbW, hsz, t0, t1, t2, t3⟩ := two_boxes w p q (.slice A xs.length c) (.slice B ys.length d)
  rw [hW]
  clear hW hsz
  refine (rISub_n p q A B xs ys c d W _ _ s K K (ha.below hbW) (hb.below hbW) hs ht rfl rfl ES.out hK hK).mono ?_
  rintro e w1 ⟨A1, c1, rfl, r1, b1⟩
  go_wp2_with fail
  refine (rSign_k s A1 c1 w1 r1.lim (by omega)).mono ?_
  rintro e w2 ⟨rfl, b2⟩
  rw [EC.out]
  go_wp2
  go_ret
  exact ⟨rfl, (hbW.trans (b1.mono hbW.size)).trans (b2.mono (Nat.le_trans hbW.size b1.size))⟩

end Go.Proofs.Ytkpchamgghhihaa
