/- The walk of the statement NaturalProducts: it returns true. -/
import Derived.Test.YtkoehkadhjjmoaaRefH
namespace Go.Proofs.Ytkoehkadhjjmoaa
open Go.RowKit Gm

set_option maxRecDepth 100000 in
set_option maxHeartbeats 4000000 in
theorem nproducts0 (A0 : Option Addr) (xs0 : List Nat) (c0 : Nat) (A1 : Option Addr) (xs1 : List Nat) (c1 : Nat) (w : World) (h0 : Lim w A0 c0 xs0) (h1 : Lim w A1 c1 xs1) (k0 : xs0.length ≤ 35184372087808) (k1 : xs1.length ≤ 35184372087808) (hz : val xs1 = 0) :
    Calls Try.prog 9 #[.slice A0 xs0.length c0, .slice A1 xs1.length c1] w (RetB w true) := by
  obtain ⟨a, ea⟩ : ∃ s, val xs0 = s := ⟨_, rfl⟩
  have za : (limbs a).length ≤ 35184372087808 := by rw [← ea]; exact Nat.le_trans (limbs_length_le h0.lb) k0
  obtain ⟨b, eb⟩ : ∃ s, val xs1 = s := ⟨_, rfl⟩
  have zb : (limbs b).length ≤ 35184372087808 := by rw [← eb]; exact Nat.le_trans (limbs_length_le h1.lb) k1
  rw [eb] at hz
  have HZ := Lib.hid hz
  obtain ⟨p, ep⟩ : ∃ s, a * b = s := ⟨_, rfl⟩
  have zp : (limbs p).length ≤ 70368744175616 := nmul_sz za zb ep (by omega)
  clear hz
  have Ea := Lib.hid ea
  have Eb := Lib.hid eb
  have Ep := Lib.hid ep
  clear ea eb ep
  have hBel : Below w.heap.size w w := Below.refl _ _
  go_enter Try.func9, Try.ntmps9
  go_wp2_with fail
  refine (DivModN_n A0 A1 xs0 xs1 c0 c1 w b h0 h1 Eb.out HZ.out).mono ?_
  rintro e w1 ⟨rfl, b9⟩
  replace hBel := hBel.trans (b9.mono hBel.size)
  replace h0 := h0.below b9
  replace h1 := h1.below b9
  clear b9
  go_wp2_with fail
  refine (rDivModN_n A0 A1 xs0 xs1 c0 c1 w1 b 35184372087808 h1 k1 Eb.out HZ.out (by omega)).mono ?_
  rintro e w2 ⟨rfl, b9⟩
  replace hBel := hBel.trans (b9.mono hBel.size)
  replace h0 := h0.below b9
  replace h1 := h1.below b9
  clear b9
  go_wp2_with fail
  refine (awake1_c w2).mono ?_
  rintro e w3 ⟨rfl, b9⟩
  replace hBel := hBel.trans (b9.mono hBel.size)
  replace h0 := h0.below b9
  replace h1 := h1.below b9
  clear b9
  go_wp2_with fail
  refine (Mul_n A0 A1 xs0 xs1 c0 c1 w3 a b p 35184372087808 35184372087808 h0 h1 k0 k1 Ea.out Eb.out Ep.out (by omega)).mono ?_
  rintro e w4 ⟨Aj, cj, rfl, qj, b9⟩
  replace hBel := hBel.trans (b9.mono hBel.size)
  replace h0 := h0.below b9
  replace h1 := h1.below b9
  have gj := qj.lim
  clear b9 qj
  go_wp2_with fail
  refine (rMul_n A0 A1 xs0 xs1 c0 c1 w4 a b p 35184372087808 35184372087808 h0 h1 k0 k1 Ea.out Eb.out Ep.out (by omega)).mono ?_
  rintro e w5 ⟨Ak, ck, rfl, qk, b9⟩
  replace hBel := hBel.trans (b9.mono hBel.size)
  replace h0 := h0.below b9
  replace h1 := h1.below b9
  replace gj := gj.below b9
  have gk := qk.lim
  clear b9 qk
  go_wp2_with fail
  refine (rEq_n Aj Ak (limbs p) (limbs p) cj ck w5 70368744175616 70368744175616 gj gk zp zp rfl (by omega) (by omega)).mono ?_
  rintro e w6 ⟨rfl, b9⟩
  replace hBel := hBel.trans (b9.mono hBel.size)
  replace h0 := h0.below b9
  replace h1 := h1.below b9
  replace gj := gj.below b9
  replace gk := gk.below b9
  clear b9
  clear gj
  clear gk
  go_wp2_with fail
  refine (rEq_n none none [] [] 0 0 w6 0 0 (Lim.nil _ _) (Lim.nil _ _) (Nat.le_refl 0) (Nat.le_refl 0) rfl (by omega) (by omega)).mono ?_
  rintro e w7 ⟨rfl, b9⟩
  replace hBel := hBel.trans (b9.mono hBel.size)
  replace h0 := h0.below b9
  replace h1 := h1.below b9
  clear b9
  go_wp2_with fail
  refine (rEq_n none none [] [] 0 0 w7 0 0 (Lim.nil _ _) (Lim.nil _ _) (Nat.le_refl 0) (Nat.le_refl 0) rfl (by omega) (by omega)).mono ?_
  rintro e w8 ⟨rfl, b9⟩
  replace hBel := hBel.trans (b9.mono hBel.size)
  replace h0 := h0.below b9
  replace h1 := h1.below b9
  clear b9
  go_wp2_with fail
  go_ret
  exact ⟨rfl, hBel⟩

set_option maxRecDepth 100000 in
set_option maxHeartbeats 4000000 in
theorem nproducts1 (A0 : Option Addr) (xs0 : List Nat) (c0 : Nat) (A1 : Option Addr) (xs1 : List Nat) (c1 : Nat) (w : World) (h0 : Lim w A0 c0 xs0) (h1 : Lim w A1 c1 xs1) (k0 : xs0.length ≤ 35184372087808) (k1 : xs1.length ≤ 35184372087808) (hz : val xs1 ≠ 0) :
    Calls Try.prog 9 #[.slice A0 xs0.length c0, .slice A1 xs1.length c1] w (RetB w true) := by
  obtain ⟨a, ea⟩ : ∃ s, val xs0 = s := ⟨_, rfl⟩
  have za : (limbs a).length ≤ 35184372087808 := by rw [← ea]; exact Nat.le_trans (limbs_length_le h0.lb) k0
  obtain ⟨b, eb⟩ : ∃ s, val xs1 = s := ⟨_, rfl⟩
  have zb : (limbs b).length ≤ 35184372087808 := by rw [← eb]; exact Nat.le_trans (limbs_length_le h1.lb) k1
  rw [eb] at hz
  have HZ := Lib.hid hz
  obtain ⟨p, ep⟩ : ∃ s, a * b = s := ⟨_, rfl⟩
  have zp : (limbs p).length ≤ 70368744175616 := nmul_sz za zb ep (by omega)
  obtain ⟨q, eq⟩ : ∃ s, a / b = s := ⟨_, rfl⟩
  have zq : (limbs q).length ≤ 35184372087808 := Nat.le_trans (limbs_mono (by rw [← eq]; exact Nat.div_le_self _ _)) za
  obtain ⟨r, er⟩ : ∃ s, a % b = s := ⟨_, rfl⟩
  have zr : (limbs r).length ≤ 35184372087808 := Nat.le_trans (limbs_mono (by rw [← er]; exact Nat.mod_le _ _)) za
  clear hz
  have Ea := Lib.hid ea
  have Eb := Lib.hid eb
  have Ep := Lib.hid ep
  have Eq := Lib.hid eq
  have Er := Lib.hid er
  clear ea eb ep eq er
  have hBel : Below w.heap.size w w := Below.refl _ _
  go_enter Try.func9, Try.ntmps9
  go_wp2_with fail
  refine (DivMod_n A0 A1 xs0 xs1 c0 c1 w a b q r 35184372087808 h0 h1 k0 Ea.out Eb.out HZ.out Eq.out Er.out (by omega)).mono ?_
  rintro e w1 ⟨Af, cf, Ag, cg, rfl, qf, qg, b9⟩
  replace hBel := hBel.trans (b9.mono hBel.size)
  replace h0 := h0.below b9
  replace h1 := h1.below b9
  have gf := qf.lim
  have gg := qg.lim
  clear b9 qf qg
  go_wp2_with fail
  refine (rDivMod_n A0 A1 xs0 xs1 c0 c1 w1 a b q r 35184372087808 35184372087808 h0 h1 k0 k1 Ea.out Eb.out HZ.out Eq.out Er.out (by omega) (by omega)).mono ?_
  rintro e w2 ⟨Ah, ch, Ai, ci, rfl, qh, qi, b9⟩
  replace hBel := hBel.trans (b9.mono hBel.size)
  replace h0 := h0.below b9
  replace h1 := h1.below b9
  replace gf := gf.below b9
  replace gg := gg.below b9
  have gh := qh.lim
  have gi := qi.lim
  clear b9 qh qi
  go_wp2_with fail
  refine (awake1_c w2).mono ?_
  rintro e w3 ⟨rfl, b9⟩
  replace hBel := hBel.trans (b9.mono hBel.size)
  replace h0 := h0.below b9
  replace h1 := h1.below b9
  replace gf := gf.below b9
  replace gg := gg.below b9
  replace gh := gh.below b9
  replace gi := gi.below b9
  clear b9
  go_wp2_with fail
  refine (Mul_n A0 A1 xs0 xs1 c0 c1 w3 a b p 35184372087808 35184372087808 h0 h1 k0 k1 Ea.out Eb.out Ep.out (by omega)).mono ?_
  rintro e w4 ⟨Aj, cj, rfl, qj, b9⟩
  replace hBel := hBel.trans (b9.mono hBel.size)
  replace h0 := h0.below b9
  replace h1 := h1.below b9
  replace gf := gf.below b9
  replace gg := gg.below b9
  replace gh := gh.below b9
  replace gi := gi.below b9
  have gj := qj.lim
  clear b9 qj
  go_wp2_with fail
  refine (rMul_n A0 A1 xs0 xs1 c0 c1 w4 a b p 35184372087808 35184372087808 h0 h1 k0 k1 Ea.out Eb.out Ep.out (by omega)).mono ?_
  rintro e w5 ⟨Ak, ck, rfl, qk, b9⟩
  replace hBel := hBel.trans (b9.mono hBel.size)
  replace h0 := h0.below b9
  replace h1 := h1.below b9
  replace gf := gf.below b9
  replace gg := gg.below b9
  replace gh := gh.below b9
  replace gi := gi.below b9
  replace gj := gj.below b9
  have gk := qk.lim
  clear b9 qk
  go_wp2_with fail
  refine (rEq_n Aj Ak (limbs p) (limbs p) cj ck w5 70368744175616 70368744175616 gj gk zp zp rfl (by omega) (by omega)).mono ?_
  rintro e w6 ⟨rfl, b9⟩
  replace hBel := hBel.trans (b9.mono hBel.size)
  replace h0 := h0.below b9
  replace h1 := h1.below b9
  replace gf := gf.below b9
  replace gg := gg.below b9
  replace gh := gh.below b9
  replace gi := gi.below b9
  replace gj := gj.below b9
  replace gk := gk.below b9
  clear b9
  clear gj
  clear gk
  go_wp2_with fail
  refine (rEq_n Af Ah (limbs q) (limbs q) cf ch w6 35184372087808 35184372087808 gf gh zq zq rfl (by omega) (by omega)).mono ?_
  rintro e w7 ⟨rfl, b9⟩
  replace hBel := hBel.trans (b9.mono hBel.size)
  replace h0 := h0.below b9
  replace h1 := h1.below b9
  replace gf := gf.below b9
  replace gg := gg.below b9
  replace gh := gh.below b9
  replace gi := gi.below b9
  clear b9
  clear gf
  clear gh
  go_wp2_with fail
  refine (rEq_n Ag Ai (limbs r) (limbs r) cg ci w7 35184372087808 35184372087808 gg gi zr zr rfl (by omega) (by omega)).mono ?_
  rintro e w8 ⟨rfl, b9⟩
  replace hBel := hBel.trans (b9.mono hBel.size)
  replace h0 := h0.below b9
  replace h1 := h1.below b9
  replace gg := gg.below b9
  replace gi := gi.below b9
  clear b9
  clear gg
  clear gi
  go_wp2_with fail
  go_ret
  exact ⟨rfl, hBel⟩

theorem nproducts_walk (A0 : Option Addr) (xs0 : List Nat) (c0 : Nat) (A1 : Option Addr) (xs1 : List Nat) (c1 : Nat) (w : World) (h0 : Lim w A0 c0 xs0) (h1 : Lim w A1 c1 xs1) (k0 : xs0.length ≤ 35184372087808) (k1 : xs1.length ≤ 35184372087808) :
    Calls Try.prog 9 #[.slice A0 xs0.length c0, .slice A1 xs1.length c1] w (RetB w true) := by
  by_cases hz : val xs1 = 0
  · exact nproducts0 A0 xs0 c0 A1 xs1 c1 w h0 h1 k0 k1 hz
  · exact nproducts1 A0 xs0 c0 A1 xs1 c1 w h0 h1 k0 k1 hz
end Go.Proofs.Ytkoehkadhjjmoaa
