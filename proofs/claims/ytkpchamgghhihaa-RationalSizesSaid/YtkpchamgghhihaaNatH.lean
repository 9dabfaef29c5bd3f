/- Contracts of package natural: the greatest common divisor of small numbers. -/
import Derived.Test.YtkpchamgghhihaaNatG
namespace Go.Proofs.Ytkpchamgghhihaa
open Go.RowKit Gm

set_option maxHeartbeats 1000000 in
theorem GCD_small_ge (A B : Option Addr) (xs ys : List Nat) (c d : Nat) (w : World) (ha : Lim w A c xs) (hb : Lim w B d ys) (hge : val ys ≤ val xs) (h0 : val ys ≠ 0) (hsm : val xs < Ba * Ba) :
    Calls Try.prog 21 #[.slice A xs.length c, .slice B ys.length d] w (RetNat w (Nat.gcd (val xs) (val ys))) := by
  have l2 := limbs_two.2 hsm
  have l3 := limbs_mono hge
  have lp : 0 < (limbs (val ys)).length := List.length_pos_iff.2 (fun e => h0 (limbs_eq_nil.1 e))
  have ec : 0 ≤ cmpN (val (limbs (val xs))) (val (limbs (val ys))) := by
    rw [val_limbs, val_limbs]
    rcases Nat.lt_or_eq_of_le hge with h | h
    · rw [cmpN_gt h]; omega
    · rw [cmpN_eq h.symm]; omega
  go_enter Try.func21, Try.ntmps21
  go_wp2_with fail
  refine (cut_c _ _ _ _ ha).mono ?_
  rintro e w' ⟨rfl, rfl⟩
  go_wp2_with fail
  refine (cut_c _ _ _ _ hb).mono ?_
  rintro e w' ⟨rfl, rfl⟩
  go_wp2_with fail
  refine (Compare_c _ _ _ _ _ _ _ ha.cut hb.cut).mono ?_
  rintro e w' ⟨rfl, n, rfl⟩
  generalize cmpN (val (limbs (val xs))) (val (limbs (val ys))) = z at *
  have ec' : ¬ z < 0 := by omega
  go_wp2_with fail
  refine wp_loop_rounds 1 ?_
  rw [rounds_succ]
  go_wp2_with fail
  refine (word_c _ _ _ (w.drewN n) (ha.cut.drewN n) l2).mono ?_
  rintro e w' ⟨rfl, rfl⟩
  go_wp2_with fail
  refine (word_c _ _ _ (w.drewN n) (hb.cut.drewN n) (by omega)).mono ?_
  rintro e w' ⟨rfl, rfl⟩
  rw [val_limbs, val_limbs]
  have hB : Ba * Ba = 18446744073709551616 := by decide
  rw [hB] at hsm
  clear hB
  go_wp2_with fail
  go_loopw [5, 6] (fun s t wi => ∃ (x y k : Nat), s = .int .u64 x ∧ t = .int .u64 y ∧ x < 18446744073709551616 ∧ y < 18446744073709551616 ∧ Nat.gcd x y = Nat.gcd (val xs) (val ys) ∧ wi = w.drewN k) (fun _ t _ => (intOf t).toNat)
  case atStart => exact ⟨val xs, val ys, n, rfl, rfl, hsm, by omega, rfl, rfl⟩
  case round =>
    obtain ⟨x, y, k, rfl, rfl, hx, hy, hg, rfl⟩ := hrel
    have HG := Lib.hid hg
    clear hg
    rcases Nat.eq_zero_or_pos y with rfl | hp
    · have hg2 : Nat.gcd (val xs) (val ys) = x := by rw [← HG.out, Nat.gcd_zero_right]
      have HG2 := Lib.hid hg2
      clear hg2
      go_wp2_with fail
      refine (FromUint64_c x _ (by have hB : Ba * Ba = 18446744073709551616 := by decide
                                   omega)).mono ?_
      rintro e w1 ⟨A1, c1, rfl, r1, b1⟩
      go_wp2
      go_ret
      rw [HG2.out]
      exact ⟨A1, c1, rfl, r1, (below_drewN (Below.refl _ w) k).trans b1⟩
    · have hne : ((y : Int) != 0) = true := by rw [bne_iff_ne]; omega
      have hne2 : ((y : Int) == 0) = false := by rw [beq_eq_false_iff_ne]; omega
      have e3 : (x : Int).tmod (y : Int) = ((x % y : Nat) : Int) := by rw [Int.tmod_eq_emod_of_nonneg (by omega)]; rfl
      have hm := Nat.mod_lt x hp
      obtain ⟨T, eT⟩ : ∃ T, x % y = T := ⟨_, rfl⟩
      rw [eT] at e3 hm
      have ET := Lib.hid eT
      clear eT
      go_wp2
      go_quiet (fail)
      go_wp2
      go_roundw
      case rel => exact ⟨y, T, _, rfl, rfl, hy, by omega, by rw [← HG.out, ← ET.out, Nat.gcd_comm x y, Nat.gcd_rec y x, Nat.gcd_comm], World.drewN_drewN _ _ _⟩
      case measure => simp [intOf]; try omega

set_option maxHeartbeats 1000000 in
theorem GCD_small_lt (A B : Option Addr) (xs ys : List Nat) (c d : Nat) (w : World) (ha : Lim w A c xs) (hb : Lim w B d ys) (hlt : val xs < val ys) (h0 : val xs ≠ 0) (hsm : val ys < Ba * Ba) :
    Calls Try.prog 21 #[.slice A xs.length c, .slice B ys.length d] w (RetNat w (Nat.gcd (val xs) (val ys))) := by
  have l2 := limbs_two.2 hsm
  have l3 := limbs_mono (Nat.le_of_lt hlt)
  have lp : 0 < (limbs (val xs)).length := List.length_pos_iff.2 (fun e => h0 (limbs_eq_nil.1 e))
  have ec : cmpN (val (limbs (val xs))) (val (limbs (val ys))) = -1 := by
    rw [val_limbs, val_limbs]; exact cmpN_lt hlt
  have EC := Lib.hid ec
  clear ec
  go_enter Try.func21, Try.ntmps21
  go_wp2_with fail
  refine (cut_c _ _ _ _ ha).mono ?_
  rintro e w' ⟨rfl, rfl⟩
  go_wp2_with fail
  refine (cut_c _ _ _ _ hb).mono ?_
  rintro e w' ⟨rfl, rfl⟩
  go_wp2_with fail
  refine (Compare_c _ _ _ _ _ _ _ ha.cut hb.cut).mono ?_
  rintro e w' ⟨rfl, n, rfl⟩
  rw [EC.out]
  go_wp2_with fail
  refine wp_loop_rounds 1 ?_
  rw [rounds_succ]
  go_wp2_with fail
  refine (word_c _ _ _ (w.drewN n) (hb.cut.drewN n) l2).mono ?_
  rintro e w' ⟨rfl, rfl⟩
  go_wp2_with fail
  refine (word_c _ _ _ (w.drewN n) (ha.cut.drewN n) (by omega)).mono ?_
  rintro e w' ⟨rfl, rfl⟩
  rw [val_limbs, val_limbs]
  have hB : Ba * Ba = 18446744073709551616 := by decide
  rw [hB] at hsm
  clear hB
  go_wp2_with fail
  go_loopw [5, 6] (fun s t wi => ∃ (x y k : Nat), s = .int .u64 x ∧ t = .int .u64 y ∧ x < 18446744073709551616 ∧ y < 18446744073709551616 ∧ Nat.gcd x y = Nat.gcd (val xs) (val ys) ∧ wi = w.drewN k) (fun _ t _ => (intOf t).toNat)
  case atStart => exact ⟨val ys, val xs, n, rfl, rfl, hsm, by omega, Nat.gcd_comm _ _, rfl⟩
  case round =>
    obtain ⟨x, y, k, rfl, rfl, hx, hy, hg, rfl⟩ := hrel
    have HG := Lib.hid hg
    clear hg
    rcases Nat.eq_zero_or_pos y with rfl | hp
    · have hg2 : Nat.gcd (val xs) (val ys) = x := by rw [← HG.out, Nat.gcd_zero_right]
      have HG2 := Lib.hid hg2
      clear hg2
      go_wp2_with fail
      refine (FromUint64_c x _ (by have hB : Ba * Ba = 18446744073709551616 := by decide
                                   omega)).mono ?_
      rintro e w1 ⟨A1, c1, rfl, r1, b1⟩
      go_wp2
      go_ret
      rw [HG2.out]
      exact ⟨A1, c1, rfl, r1, (below_drewN (Below.refl _ w) k).trans b1⟩
    · have hne : ((y : Int) != 0) = true := by rw [bne_iff_ne]; omega
      have hne2 : ((y : Int) == 0) = false := by rw [beq_eq_false_iff_ne]; omega
      have e3 : (x : Int).tmod (y : Int) = ((x % y : Nat) : Int) := by rw [Int.tmod_eq_emod_of_nonneg (by omega)]; rfl
      have hm := Nat.mod_lt x hp
      obtain ⟨T, eT⟩ : ∃ T, x % y = T := ⟨_, rfl⟩
      rw [eT] at e3 hm
      have ET := Lib.hid eT
      clear eT
      go_wp2
      go_quiet (fail)
      go_wp2
      go_roundw
      case rel => exact ⟨y, T, _, rfl, rfl, hy, by omega, by rw [← HG.out, ← ET.out, Nat.gcd_comm x y, Nat.gcd_rec y x, Nat.gcd_comm], World.drewN_drewN _ _ _⟩
      case measure => simp [intOf]; try omega
end Go.Proofs.Ytkpchamgghhihaa
