/- The walk of the statement NaturalGCD: it returns true. -/
import Derived.Test.YtkoehkadhjjmoaaRefI
namespace Go.Proofs.Ytkoehkadhjjmoaa
open Go.RowKit Gm

set_option maxRecDepth 100000 in
set_option maxHeartbeats 4000000 in
theorem ngcd0 (A0 : Option Addr) (xs0 : List Nat) (c0 : Nat) (A1 : Option Addr) (xs1 : List Nat) (c1 : Nat) (A2 : Option Addr) (xs2 : List Nat) (c2 : Nat) (w : World) (h0 : Lim w A0 c0 xs0) (h1 : Lim w A1 c1 xs1) (h2 : Lim w A2 c2 xs2) (k0 : xs0.length ≤ 1048576) (k1 : xs1.length ≤ 1048576) (k2 : xs2.length ≤ 1048576) (hz : Nat.gcd (val xs0) (val xs1) = 0) :
    Calls Try.prog 14 #[.slice A0 xs0.length c0, .slice A1 xs1.length c1, .slice A2 xs2.length c2] w (RetB w true) := by
  obtain ⟨a, ea⟩ : ∃ s, val xs0 = s := ⟨_, rfl⟩
  have za : (limbs a).length ≤ 1048576 := by rw [← ea]; exact Nat.le_trans (limbs_length_le h0.lb) k0
  obtain ⟨b, eb⟩ : ∃ s, val xs1 = s := ⟨_, rfl⟩
  have zb : (limbs b).length ≤ 1048576 := by rw [← eb]; exact Nat.le_trans (limbs_length_le h1.lb) k1
  obtain ⟨c, ec⟩ : ∃ s, val xs2 = s := ⟨_, rfl⟩
  have zc : (limbs c).length ≤ 1048576 := by rw [← ec]; exact Nat.le_trans (limbs_length_le h2.lb) k2
  rw [ea, eb] at hz
  obtain ⟨g, eg⟩ : ∃ s, Nat.gcd a b = s := ⟨_, rfl⟩
  have zg : (limbs g).length ≤ 1048576 := gcd_sz za zb eg (Nat.le_refl _)
  rw [eg] at hz
  obtain ⟨p, ep⟩ : ∃ s, a * c = s := ⟨_, rfl⟩
  have zp : (limbs p).length ≤ 2097152 := nmul_sz za zc ep (by omega)
  obtain ⟨q, eq⟩ : ∃ s, b * c = s := ⟨_, rfl⟩
  have zq : (limbs q).length ≤ 2097152 := nmul_sz zb zc eq (by omega)
  obtain ⟨m, em⟩ : ∃ s, g * c = s := ⟨_, rfl⟩
  have zm : (limbs m).length ≤ 2097152 := nmul_sz zg zc em (by omega)
  have en : Nat.gcd p q = m := by rw [← ep, ← eq, ← em, ← eg, Nat.gcd_mul_right]
  have HZ := Lib.hid hz
  have ha0 : a = 0 := Nat.eq_zero_of_gcd_eq_zero_left (eg.trans hz)
  have hb0 : b = 0 := Nat.eq_zero_of_gcd_eq_zero_right (eg.trans hz)
  have ex : nb a = 0 := by rw [ha0, nb_zero]
  have ey : nb b = 0 := by rw [hb0, nb_zero]
  clear ha0 hb0 hz
  have Ea := Lib.hid ea
  have Eb := Lib.hid eb
  have Ec := Lib.hid ec
  have Eg := Lib.hid eg
  have Ep := Lib.hid ep
  have Eq := Lib.hid eq
  have Em := Lib.hid em
  have En := Lib.hid en
  have Ex := Lib.hid ex
  have Ey := Lib.hid ey
  clear ea eb ec eg ep eq em en ex ey
  have hBel : Below w.heap.size w w := Below.refl _ _
  go_enter Try.func14, Try.ntmps14
  go_wp2_with fail
  refine (GCD_n A0 A1 xs0 xs1 c0 c1 w a b g 1048576 1048576 h0 h1 k0 k1 Ea.out Eb.out Eg.out (by omega) (by omega)).mono ?_
  rintro e w1 ⟨Au, cu, rfl, qu, b9⟩
  replace hBel := hBel.trans (b9.mono hBel.size)
  replace h0 := h0.below b9
  replace h1 := h1.below b9
  replace h2 := h2.below b9
  have gu := qu.lim
  clear b9 qu
  go_wp2_with fail
  refine (awake1_c w1).mono ?_
  rintro e w2 ⟨rfl, b9⟩
  replace hBel := hBel.trans (b9.mono hBel.size)
  replace h0 := h0.below b9
  replace h1 := h1.below b9
  replace h2 := h2.below b9
  replace gu := gu.below b9
  clear b9
  go_wp2_with fail
  refine (rGCD_n A0 A1 xs0 xs1 c0 c1 w2 a b g 1048576 1048576 h0 h1 k0 k1 Ea.out Eb.out Eg.out (by omega) (by omega)).mono ?_
  rintro e w3 ⟨Av, cv, rfl, qv, b9⟩
  replace hBel := hBel.trans (b9.mono hBel.size)
  replace h0 := h0.below b9
  replace h1 := h1.below b9
  replace h2 := h2.below b9
  replace gu := gu.below b9
  have gv := qv.lim
  clear b9 qv
  go_wp2_with fail
  refine (rEq_n Au Av (limbs g) (limbs g) cu cv w3 1048576 1048576 gu gv zg zg rfl (by omega) (by omega)).mono ?_
  rintro e w4 ⟨rfl, b9⟩
  replace hBel := hBel.trans (b9.mono hBel.size)
  replace h0 := h0.below b9
  replace h1 := h1.below b9
  replace h2 := h2.below b9
  replace gu := gu.below b9
  replace gv := gv.below b9
  clear b9
  clear gv
  go_wp2_with fail
  refine (Mul_n A0 A2 xs0 xs2 c0 c2 w4 a c p 1048576 1048576 h0 h2 k0 k2 Ea.out Ec.out Ep.out (by omega)).mono ?_
  rintro e w5 ⟨Ai, ci, rfl, qi, b9⟩
  replace hBel := hBel.trans (b9.mono hBel.size)
  replace h0 := h0.below b9
  replace h1 := h1.below b9
  replace h2 := h2.below b9
  replace gu := gu.below b9
  have gi := qi.lim
  clear b9 qi
  go_wp2_with fail
  refine (Mul_n A1 A2 xs1 xs2 c1 c2 w5 b c q 1048576 1048576 h1 h2 k1 k2 Eb.out Ec.out Eq.out (by omega)).mono ?_
  rintro e w6 ⟨Aj, cj, rfl, qj, b9⟩
  replace hBel := hBel.trans (b9.mono hBel.size)
  replace h0 := h0.below b9
  replace h1 := h1.below b9
  replace h2 := h2.below b9
  replace gu := gu.below b9
  replace gi := gi.below b9
  have gj := qj.lim
  clear b9 qj
  go_wp2_with fail
  refine (GCD_n Ai Aj (limbs p) (limbs q) ci cj w6 p q m 2097152 2097152 gi gj zp zq (val_limbs p) (val_limbs q) En.out (by omega) (by omega)).mono ?_
  rintro e w7 ⟨Ak, ck, rfl, qk, b9⟩
  replace hBel := hBel.trans (b9.mono hBel.size)
  replace h0 := h0.below b9
  replace h1 := h1.below b9
  replace h2 := h2.below b9
  replace gu := gu.below b9
  replace gi := gi.below b9
  replace gj := gj.below b9
  have gk := qk.lim
  clear b9 qk
  go_wp2_with fail
  refine (Mul_n Au A2 (limbs g) xs2 cu c2 w7 g c m 1048576 1048576 gu h2 zg k2 (val_limbs g) Ec.out Em.out (by omega)).mono ?_
  rintro e w8 ⟨Al, cl, rfl, ql, b9⟩
  replace hBel := hBel.trans (b9.mono hBel.size)
  replace h0 := h0.below b9
  replace h1 := h1.below b9
  replace h2 := h2.below b9
  replace gu := gu.below b9
  replace gi := gi.below b9
  replace gj := gj.below b9
  replace gk := gk.below b9
  have gl := ql.lim
  clear b9 ql
  go_wp2_with fail
  refine (rEq_n Ak Al (limbs m) (limbs m) ck cl w8 2097152 2097152 gk gl zm zm rfl (by omega) (by omega)).mono ?_
  rintro e w9 ⟨rfl, b9⟩
  replace hBel := hBel.trans (b9.mono hBel.size)
  replace h0 := h0.below b9
  replace h1 := h1.below b9
  replace h2 := h2.below b9
  replace gu := gu.below b9
  replace gi := gi.below b9
  replace gj := gj.below b9
  replace gk := gk.below b9
  replace gl := gl.below b9
  clear b9
  clear gk
  clear gl
  clear gi
  clear gj
  go_wp2_with fail
  refine (DivModN_n A0 Au xs0 (limbs g) c0 cu w9 g h0 gu (val_limbs g) HZ.out).mono ?_
  rintro e w10 ⟨rfl, b9⟩
  replace hBel := hBel.trans (b9.mono hBel.size)
  replace h0 := h0.below b9
  replace h1 := h1.below b9
  replace h2 := h2.below b9
  replace gu := gu.below b9
  clear b9
  go_wp2_with fail
  refine (DivModN_n A1 Au xs1 (limbs g) c1 cu w10 g h1 gu (val_limbs g) HZ.out).mono ?_
  rintro e w11 ⟨rfl, b9⟩
  replace hBel := hBel.trans (b9.mono hBel.size)
  replace h0 := h0.below b9
  replace h1 := h1.below b9
  replace h2 := h2.below b9
  replace gu := gu.below b9
  clear b9
  go_wp2_with fail
  refine (Bits_n A0 xs0 c0 w11 a 0 1048576 h0 k0 Ea.out Ex.out (by omega)).mono ?_
  rintro e w12 ⟨rfl, b9⟩
  replace hBel := hBel.trans (b9.mono hBel.size)
  replace h0 := h0.below b9
  replace h1 := h1.below b9
  replace h2 := h2.below b9
  replace gu := gu.below b9
  clear b9
  go_wp2_with fail
  refine (Bits_n A1 xs1 c1 w12 b 0 1048576 h1 k1 Eb.out Ey.out (by omega)).mono ?_
  rintro e w13 ⟨rfl, b9⟩
  replace hBel := hBel.trans (b9.mono hBel.size)
  replace h0 := h0.below b9
  replace h1 := h1.below b9
  replace h2 := h2.below b9
  replace gu := gu.below b9
  clear b9
  go_wp2_with fail
  go_ret
  exact ⟨rfl, hBel⟩

set_option maxRecDepth 100000 in
set_option maxHeartbeats 4000000 in
theorem ngcd1 (A0 : Option Addr) (xs0 : List Nat) (c0 : Nat) (A1 : Option Addr) (xs1 : List Nat) (c1 : Nat) (A2 : Option Addr) (xs2 : List Nat) (c2 : Nat) (w : World) (h0 : Lim w A0 c0 xs0) (h1 : Lim w A1 c1 xs1) (h2 : Lim w A2 c2 xs2) (k0 : xs0.length ≤ 1048576) (k1 : xs1.length ≤ 1048576) (k2 : xs2.length ≤ 1048576) (hz : Nat.gcd (val xs0) (val xs1) ≠ 0) :
    Calls Try.prog 14 #[.slice A0 xs0.length c0, .slice A1 xs1.length c1, .slice A2 xs2.length c2] w (RetB w true) := by
  obtain ⟨a, ea⟩ : ∃ s, val xs0 = s := ⟨_, rfl⟩
  have za : (limbs a).length ≤ 1048576 := by rw [← ea]; exact Nat.le_trans (limbs_length_le h0.lb) k0
  obtain ⟨b, eb⟩ : ∃ s, val xs1 = s := ⟨_, rfl⟩
  have zb : (limbs b).length ≤ 1048576 := by rw [← eb]; exact Nat.le_trans (limbs_length_le h1.lb) k1
  obtain ⟨c, ec⟩ : ∃ s, val xs2 = s := ⟨_, rfl⟩
  have zc : (limbs c).length ≤ 1048576 := by rw [← ec]; exact Nat.le_trans (limbs_length_le h2.lb) k2
  rw [ea, eb] at hz
  obtain ⟨g, eg⟩ : ∃ s, Nat.gcd a b = s := ⟨_, rfl⟩
  have zg : (limbs g).length ≤ 1048576 := gcd_sz za zb eg (Nat.le_refl _)
  rw [eg] at hz
  obtain ⟨p, ep⟩ : ∃ s, a * c = s := ⟨_, rfl⟩
  have zp : (limbs p).length ≤ 2097152 := nmul_sz za zc ep (by omega)
  obtain ⟨q, eq⟩ : ∃ s, b * c = s := ⟨_, rfl⟩
  have zq : (limbs q).length ≤ 2097152 := nmul_sz zb zc eq (by omega)
  obtain ⟨m, em⟩ : ∃ s, g * c = s := ⟨_, rfl⟩
  have zm : (limbs m).length ≤ 2097152 := nmul_sz zg zc em (by omega)
  have en : Nat.gcd p q = m := by rw [← ep, ← eq, ← em, ← eg, Nat.gcd_mul_right]
  have HZ := Lib.hid hz
  obtain ⟨x, ex⟩ : ∃ s, a / g = s := ⟨_, rfl⟩
  have zx : (limbs x).length ≤ 1048576 := Nat.le_trans (limbs_mono (by rw [← ex]; exact Nat.div_le_self _ _)) za
  obtain ⟨y, ey⟩ : ∃ s, b / g = s := ⟨_, rfl⟩
  have zy : (limbs y).length ≤ 1048576 := Nat.le_trans (limbs_mono (by rw [← ey]; exact Nat.div_le_self _ _)) zb
  have er : a % g = 0 := by rw [← eg]; exact Nat.mod_eq_zero_of_dvd (Nat.gcd_dvd_left a b)
  have es : b % g = 0 := by rw [← eg]; exact Nat.mod_eq_zero_of_dvd (Nat.gcd_dvd_right a b)
  have et : Nat.gcd x y = 1 := by rw [← ex, ← ey, ← eg]; exact gcd_cop (by rw [eg]; omega)
  have z0 : (limbs 0).length ≤ 0 := by rw [limbs_zero]; exact Nat.le_refl _
  have el : limbs 1 = [1] := limbs_lit' [1] (by decide) (by decide)
  have z1 : (limbs 1).length ≤ 1 := by rw [el]; exact Nat.le_refl _
  have ek : (limbs 0).length = 0 := by rw [limbs_zero]; rfl
  clear hz
  have Ea := Lib.hid ea
  have Eb := Lib.hid eb
  have Ec := Lib.hid ec
  have Eg := Lib.hid eg
  have Ep := Lib.hid ep
  have Eq := Lib.hid eq
  have Em := Lib.hid em
  have En := Lib.hid en
  have Ex := Lib.hid ex
  have Ey := Lib.hid ey
  have Er := Lib.hid er
  have Es := Lib.hid es
  have Et := Lib.hid et
  have El := Lib.hid el
  have Ek := Lib.hid ek
  clear ea eb ec eg ep eq em en ex ey er es et el ek
  have hBel : Below w.heap.size w w := Below.refl _ _
  go_enter Try.func14, Try.ntmps14
  go_wp2_with fail
  refine (GCD_n A0 A1 xs0 xs1 c0 c1 w a b g 1048576 1048576 h0 h1 k0 k1 Ea.out Eb.out Eg.out (by omega) (by omega)).mono ?_
  rintro e w1 ⟨Au, cu, rfl, qu, b9⟩
  replace hBel := hBel.trans (b9.mono hBel.size)
  replace h0 := h0.below b9
  replace h1 := h1.below b9
  replace h2 := h2.below b9
  have gu := qu.lim
  clear b9 qu
  go_wp2_with fail
  refine (awake1_c w1).mono ?_
  rintro e w2 ⟨rfl, b9⟩
  replace hBel := hBel.trans (b9.mono hBel.size)
  replace h0 := h0.below b9
  replace h1 := h1.below b9
  replace h2 := h2.below b9
  replace gu := gu.below b9
  clear b9
  go_wp2_with fail
  refine (rGCD_n A0 A1 xs0 xs1 c0 c1 w2 a b g 1048576 1048576 h0 h1 k0 k1 Ea.out Eb.out Eg.out (by omega) (by omega)).mono ?_
  rintro e w3 ⟨Av, cv, rfl, qv, b9⟩
  replace hBel := hBel.trans (b9.mono hBel.size)
  replace h0 := h0.below b9
  replace h1 := h1.below b9
  replace h2 := h2.below b9
  replace gu := gu.below b9
  have gv := qv.lim
  clear b9 qv
  go_wp2_with fail
  refine (rEq_n Au Av (limbs g) (limbs g) cu cv w3 1048576 1048576 gu gv zg zg rfl (by omega) (by omega)).mono ?_
  rintro e w4 ⟨rfl, b9⟩
  replace hBel := hBel.trans (b9.mono hBel.size)
  replace h0 := h0.below b9
  replace h1 := h1.below b9
  replace h2 := h2.below b9
  replace gu := gu.below b9
  replace gv := gv.below b9
  clear b9
  clear gv
  go_wp2_with fail
  refine (Mul_n A0 A2 xs0 xs2 c0 c2 w4 a c p 1048576 1048576 h0 h2 k0 k2 Ea.out Ec.out Ep.out (by omega)).mono ?_
  rintro e w5 ⟨Ai, ci, rfl, qi, b9⟩
  replace hBel := hBel.trans (b9.mono hBel.size)
  replace h0 := h0.below b9
  replace h1 := h1.below b9
  replace h2 := h2.below b9
  replace gu := gu.below b9
  have gi := qi.lim
  clear b9 qi
  go_wp2_with fail
  refine (Mul_n A1 A2 xs1 xs2 c1 c2 w5 b c q 1048576 1048576 h1 h2 k1 k2 Eb.out Ec.out Eq.out (by omega)).mono ?_
  rintro e w6 ⟨Aj, cj, rfl, qj, b9⟩
  replace hBel := hBel.trans (b9.mono hBel.size)
  replace h0 := h0.below b9
  replace h1 := h1.below b9
  replace h2 := h2.below b9
  replace gu := gu.below b9
  replace gi := gi.below b9
  have gj := qj.lim
  clear b9 qj
  go_wp2_with fail
  refine (GCD_n Ai Aj (limbs p) (limbs q) ci cj w6 p q m 2097152 2097152 gi gj zp zq (val_limbs p) (val_limbs q) En.out (by omega) (by omega)).mono ?_
  rintro e w7 ⟨Ak, ck, rfl, qk, b9⟩
  replace hBel := hBel.trans (b9.mono hBel.size)
  replace h0 := h0.below b9
  replace h1 := h1.below b9
  replace h2 := h2.below b9
  replace gu := gu.below b9
  replace gi := gi.below b9
  replace gj := gj.below b9
  have gk := qk.lim
  clear b9 qk
  go_wp2_with fail
  refine (Mul_n Au A2 (limbs g) xs2 cu c2 w7 g c m 1048576 1048576 gu h2 zg k2 (val_limbs g) Ec.out Em.out (by omega)).mono ?_
  rintro e w8 ⟨Al, cl, rfl, ql, b9⟩
  replace hBel := hBel.trans (b9.mono hBel.size)
  replace h0 := h0.below b9
  replace h1 := h1.below b9
  replace h2 := h2.below b9
  replace gu := gu.below b9
  replace gi := gi.below b9
  replace gj := gj.below b9
  replace gk := gk.below b9
  have gl := ql.lim
  clear b9 ql
  go_wp2_with fail
  refine (rEq_n Ak Al (limbs m) (limbs m) ck cl w8 2097152 2097152 gk gl zm zm rfl (by omega) (by omega)).mono ?_
  rintro e w9 ⟨rfl, b9⟩
  replace hBel := hBel.trans (b9.mono hBel.size)
  replace h0 := h0.below b9
  replace h1 := h1.below b9
  replace h2 := h2.below b9
  replace gu := gu.below b9
  replace gi := gi.below b9
  replace gj := gj.below b9
  replace gk := gk.below b9
  replace gl := gl.below b9
  clear b9
  clear gk
  clear gl
  clear gi
  clear gj
  go_wp2_with fail
  refine (DivMod_n A0 Au xs0 (limbs g) c0 cu w9 a g x 0 1048576 h0 gu k0 Ea.out (val_limbs g) HZ.out Ex.out Er.out (by omega)).mono ?_
  rintro e w10 ⟨Ad, cd, Ae, ce, rfl, qd, qe, b9⟩
  replace hBel := hBel.trans (b9.mono hBel.size)
  replace h0 := h0.below b9
  replace h1 := h1.below b9
  replace h2 := h2.below b9
  replace gu := gu.below b9
  have gd := qd.lim
  have ge := qe.lim
  clear b9 qd qe
  rw [Ek.out]
  clear ge
  go_wp2_with fail
  refine (DivMod_n A1 Au xs1 (limbs g) c1 cu w10 b g y 0 1048576 h1 gu k1 Eb.out (val_limbs g) HZ.out Ey.out Es.out (by omega)).mono ?_
  rintro e w11 ⟨Af, cf, Ah, ch, rfl, qf, qh, b9⟩
  replace hBel := hBel.trans (b9.mono hBel.size)
  replace h0 := h0.below b9
  replace h1 := h1.below b9
  replace h2 := h2.below b9
  replace gu := gu.below b9
  replace gd := gd.below b9
  have gf := qf.lim
  have gh := qh.lim
  clear b9 qf qh
  rw [Ek.out]
  clear gh
  go_wp2_with fail
  refine (GCD_n Ad Af (limbs x) (limbs y) cd cf w11 x y 1 1048576 1048576 gd gf zx zy (val_limbs x) (val_limbs y) Et.out (by omega) (by omega)).mono ?_
  rintro e w12 ⟨Ao, co, rfl, qo, b9⟩
  replace hBel := hBel.trans (b9.mono hBel.size)
  replace h0 := h0.below b9
  replace h1 := h1.below b9
  replace h2 := h2.below b9
  replace gu := gu.below b9
  replace gd := gd.below b9
  replace gf := gf.below b9
  have go := qo.lim
  clear b9 qo
  go_wp2_with fail
  have b9 := bel1 w12 (.cells (cellsOf [1]) 54)
  have gw := lit1 w12 [1] (Lb_lit _ (by decide)) (by decide)
  obtain ⟨w13, eW⟩ : ∃ W, w12.alloc (.cells (cellsOf [1]) 54) = W := ⟨_, rfl⟩
  rw [eW] at b9 gw
  erw [eW]
  clear eW
  replace hBel := hBel.trans (b9.mono hBel.size)
  replace h0 := h0.below b9
  replace h1 := h1.below b9
  replace h2 := h2.below b9
  replace gu := gu.below b9
  replace gd := gd.below b9
  replace gf := gf.below b9
  replace go := go.below b9
  clear b9
  go_wp2_with fail
  refine (rEq_n Ao (some ⟨w12.heap.size, 0, none⟩) (limbs 1) [1] co 1 w13 1 1 go gw z1 (by decide) El.out (by omega) (by omega)).mono ?_
  rintro e w14 ⟨rfl, b9⟩
  replace hBel := hBel.trans (b9.mono hBel.size)
  replace h0 := h0.below b9
  replace h1 := h1.below b9
  replace h2 := h2.below b9
  replace gu := gu.below b9
  replace gd := gd.below b9
  replace gf := gf.below b9
  replace go := go.below b9
  replace gw := gw.below b9
  clear b9
  clear go
  clear gw
  go_wp2_with fail
  go_ret
  exact ⟨rfl, hBel⟩

theorem ngcd_walk (A0 : Option Addr) (xs0 : List Nat) (c0 : Nat) (A1 : Option Addr) (xs1 : List Nat) (c1 : Nat) (A2 : Option Addr) (xs2 : List Nat) (c2 : Nat) (w : World) (h0 : Lim w A0 c0 xs0) (h1 : Lim w A1 c1 xs1) (h2 : Lim w A2 c2 xs2) (k0 : xs0.length ≤ 1048576) (k1 : xs1.length ≤ 1048576) (k2 : xs2.length ≤ 1048576) :
    Calls Try.prog 14 #[.slice A0 xs0.length c0, .slice A1 xs1.length c1, .slice A2 xs2.length c2] w (RetB w true) := by
  by_cases hz : Nat.gcd (val xs0) (val xs1) = 0
  · exact ngcd0 A0 xs0 c0 A1 xs1 c1 A2 xs2 c2 w h0 h1 h2 k0 k1 k2 hz
  · exact ngcd1 A0 xs0 c0 A1 xs1 c1 A2 xs2 c2 w h0 h1 h2 k0 k1 k2 hz
end Go.Proofs.Ytkoehkadhjjmoaa
