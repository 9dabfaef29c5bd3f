/- The walk of the statement NaturalDivides: it returns true. -/
import Derived.Test.YtkoehkadhjjmoaaNatP
namespace Go.Proofs.Ytkoehkadhjjmoaa
open Go.RowKit Gm

set_option maxRecDepth 100000 in
set_option maxHeartbeats 4000000 in
theorem ndivides0 (A0 : Option Addr) (xs0 : List Nat) (c0 : Nat) (A1 : Option Addr) (xs1 : List Nat) (c1 : Nat) (w : World) (h0 : Lim w A0 c0 xs0) (h1 : Lim w A1 c1 xs1) (k0 : xs0.length ≤ 35184372087808) (k1 : xs1.length ≤ 35184372087808) (hz : val xs1 = 0) :
    Calls Try.prog 13 #[.slice A0 xs0.length c0, .slice A1 xs1.length c1] w (RetB w true) := by
  obtain ⟨a, ea⟩ : ∃ s, val xs0 = s := ⟨_, rfl⟩
  have za : (limbs a).length ≤ 35184372087808 := by rw [← ea]; exact Nat.le_trans (limbs_length_le h0.lb) k0
  obtain ⟨b, eb⟩ : ∃ s, val xs1 = s := ⟨_, rfl⟩
  have zb : (limbs b).length ≤ 35184372087808 := by rw [← eb]; exact Nat.le_trans (limbs_length_le h1.lb) k1
  rw [eb] at hz
  have HZ := Lib.hid hz
  have en : nb b = 0 := by rw [hz, nb_zero]
  clear hz
  have Ea := Lib.hid ea
  have Eb := Lib.hid eb
  have En := Lib.hid en
  clear ea eb en
  have hBel : Below w.heap.size w w := Below.refl _ _
  go_enter Try.func13, Try.ntmps13
  go_wp2_with fail
  refine (DivModN_n A0 A1 xs0 xs1 c0 c1 w b h0 h1 Eb.out HZ.out).mono ?_
  rintro e w1 ⟨rfl, b9⟩
  replace hBel := hBel.trans (b9.mono hBel.size)
  replace h0 := h0.below b9
  replace h1 := h1.below b9
  clear b9
  go_wp2_with fail
  refine (Bits_n A1 xs1 c1 w1 b 0 35184372087808 h1 k1 Eb.out En.out (by omega)).mono ?_
  rintro e w2 ⟨rfl, b9⟩
  replace hBel := hBel.trans (b9.mono hBel.size)
  replace h0 := h0.below b9
  replace h1 := h1.below b9
  clear b9
  go_wp2_with fail
  refine (awake1_c w2).mono ?_
  rintro e w3 ⟨rfl, b9⟩
  replace hBel := hBel.trans (b9.mono hBel.size)
  replace h0 := h0.below b9
  replace h1 := h1.below b9
  clear b9
  go_wp2_with fail
  go_ret
  exact ⟨rfl, hBel⟩

set_option maxRecDepth 100000 in
set_option maxHeartbeats 4000000 in
theorem ndivides1 (A0 : Option Addr) (xs0 : List Nat) (c0 : Nat) (A1 : Option Addr) (xs1 : List Nat) (c1 : Nat) (w : World) (h0 : Lim w A0 c0 xs0) (h1 : Lim w A1 c1 xs1) (k0 : xs0.length ≤ 35184372087808) (k1 : xs1.length ≤ 35184372087808) (hz : val xs1 ≠ 0) :
    Calls Try.prog 13 #[.slice A0 xs0.length c0, .slice A1 xs1.length c1] w (RetB w true) := by
  obtain ⟨a, ea⟩ : ∃ s, val xs0 = s := ⟨_, rfl⟩
  have za : (limbs a).length ≤ 35184372087808 := by rw [← ea]; exact Nat.le_trans (limbs_length_le h0.lb) k0
  obtain ⟨b, eb⟩ : ∃ s, val xs1 = s := ⟨_, rfl⟩
  have zb : (limbs b).length ≤ 35184372087808 := by rw [← eb]; exact Nat.le_trans (limbs_length_le h1.lb) k1
  rw [eb] at hz
  have HZ := Lib.hid hz
  obtain ⟨q, eq⟩ : ∃ s, a / b = s := ⟨_, rfl⟩
  have zq : (limbs q).length ≤ 35184372087808 := Nat.le_trans (limbs_mono (by rw [← eq]; exact Nat.div_le_self _ _)) za
  obtain ⟨r, er⟩ : ∃ s, a % b = s := ⟨_, rfl⟩
  have zr : (limbs r).length ≤ 35184372087808 := Nat.le_trans (limbs_mono (by rw [← er]; exact Nat.mod_le _ _)) za
  obtain ⟨p, ep⟩ : ∃ s, q * b = s := ⟨_, rfl⟩
  have zp : (limbs p).length ≤ 35184372087808 := Nat.le_trans (limbs_mono (by rw [← ep, ← eq]; exact Nat.div_mul_le_self _ _)) za
  have es : p + r = a := by rw [← ep, ← eq, ← er, Nat.mul_comm]; exact Nat.div_add_mod a b
  have el : r < b := by rw [← er]; exact Nat.mod_lt _ (by omega)
  clear hz
  have Ea := Lib.hid ea
  have Eb := Lib.hid eb
  have Eq := Lib.hid eq
  have Er := Lib.hid er
  have Ep := Lib.hid ep
  have Es := Lib.hid es
  have El := Lib.hid el
  clear ea eb eq er ep es el
  have hBel : Below w.heap.size w w := Below.refl _ _
  go_enter Try.func13, Try.ntmps13
  go_wp2_with fail
  refine (DivMod_n A0 A1 xs0 xs1 c0 c1 w a b q r 35184372087808 h0 h1 k0 Ea.out Eb.out HZ.out Eq.out Er.out (by omega)).mono ?_
  rintro e w1 ⟨Af, cf, Ag, cg, rfl, qf, qg, b9⟩
  replace hBel := hBel.trans (b9.mono hBel.size)
  replace h0 := h0.below b9
  replace h1 := h1.below b9
  have gf := qf.lim
  have gg := qg.lim
  clear b9 qf qg
  go_wp2_with fail
  refine (Mul_n Af A1 (limbs q) xs1 cf c1 w1 q b p 35184372087808 35184372087808 gf h1 zq k1 (val_limbs q) Eb.out Ep.out (by omega)).mono ?_
  rintro e w2 ⟨Ah, ch, rfl, qh, b9⟩
  replace hBel := hBel.trans (b9.mono hBel.size)
  replace h0 := h0.below b9
  replace h1 := h1.below b9
  replace gf := gf.below b9
  replace gg := gg.below b9
  have gh := qh.lim
  clear b9 qh
  go_wp2_with fail
  refine (Add_n Ah Ag (limbs p) (limbs r) ch cg w2 p r a 35184372087808 35184372087808 gh gg zp zr (val_limbs p) (val_limbs r) Es.out (by omega) (by omega)).mono ?_
  rintro e w3 ⟨Ai, ci, rfl, qi, b9⟩
  replace hBel := hBel.trans (b9.mono hBel.size)
  replace h0 := h0.below b9
  replace h1 := h1.below b9
  replace gf := gf.below b9
  replace gg := gg.below b9
  replace gh := gh.below b9
  have gi := qi.lim
  clear b9 qi
  go_wp2_with fail
  refine (Compare_n Ai A0 (limbs a) xs0 ci c0 w3 a a 0 gi h0 (val_limbs a) Ea.out (cmpN_eq rfl)).mono ?_
  rintro e w4 ⟨rfl, b9⟩
  replace hBel := hBel.trans (b9.mono hBel.size)
  replace h0 := h0.below b9
  replace h1 := h1.below b9
  replace gf := gf.below b9
  replace gg := gg.below b9
  replace gh := gh.below b9
  replace gi := gi.below b9
  clear b9
  go_wp2_with fail
  refine (Compare_n Ag A1 (limbs r) xs1 cg c1 w4 r b (-1) gg h1 (val_limbs r) Eb.out (cmpN_lt El.out)).mono ?_
  rintro e w5 ⟨rfl, b9⟩
  replace hBel := hBel.trans (b9.mono hBel.size)
  replace h0 := h0.below b9
  replace h1 := h1.below b9
  replace gf := gf.below b9
  replace gg := gg.below b9
  replace gh := gh.below b9
  replace gi := gi.below b9
  clear b9
  go_wp2_with fail
  refine (awake1_c w5).mono ?_
  rintro e w6 ⟨rfl, b9⟩
  replace hBel := hBel.trans (b9.mono hBel.size)
  replace h0 := h0.below b9
  replace h1 := h1.below b9
  replace gf := gf.below b9
  replace gg := gg.below b9
  replace gh := gh.below b9
  replace gi := gi.below b9
  clear b9
  go_wp2_with fail
  go_ret
  exact ⟨rfl, hBel⟩

theorem ndivides_walk (A0 : Option Addr) (xs0 : List Nat) (c0 : Nat) (A1 : Option Addr) (xs1 : List Nat) (c1 : Nat) (w : World) (h0 : Lim w A0 c0 xs0) (h1 : Lim w A1 c1 xs1) (k0 : xs0.length ≤ 35184372087808) (k1 : xs1.length ≤ 35184372087808) :
    Calls Try.prog 13 #[.slice A0 xs0.length c0, .slice A1 xs1.length c1] w (RetB w true) := by
  by_cases hz : val xs1 = 0
  · exact ndivides0 A0 xs0 c0 A1 xs1 c1 w h0 h1 k0 k1 hz
  · exact ndivides1 A0 xs0 c0 A1 xs1 c1 w h0 h1 k0 k1 hz
end Go.Proofs.Ytkoehkadhjjmoaa
