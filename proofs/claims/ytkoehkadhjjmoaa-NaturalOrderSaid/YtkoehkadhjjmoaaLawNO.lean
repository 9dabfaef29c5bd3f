/- The walk of the statement NaturalOrder: it returns true. -/
import Derived.Test.YtkoehkadhjjmoaaNatP
namespace Go.Proofs.Ytkoehkadhjjmoaa
open Go.RowKit Gm

set_option maxRecDepth 100000 in
set_option maxHeartbeats 4000000 in
theorem norder_lt0 (A0 : Option Addr) (xs0 : List Nat) (c0 : Nat) (A1 : Option Addr) (xs1 : List Nat) (c1 : Nat) (A2 : Option Addr) (xs2 : List Nat) (c2 : Nat) (w : World) (h0 : Lim w A0 c0 xs0) (h1 : Lim w A1 c1 xs1) (h2 : Lim w A2 c2 xs2) (k0 : xs0.length ≤ 35184372087808) (k1 : xs1.length ≤ 35184372087808) (k2 : xs2.length ≤ 35184372087808) (hc : val xs0 < val xs1) (hz : val xs2 = 0) :
    Calls Try.prog 15 #[.slice A0 xs0.length c0, .slice A1 xs1.length c1, .slice A2 xs2.length c2] w (RetB w true) := by
  obtain ⟨a, ea⟩ : ∃ s, val xs0 = s := ⟨_, rfl⟩
  have za : (limbs a).length ≤ 35184372087808 := by rw [← ea]; exact Nat.le_trans (limbs_length_le h0.lb) k0
  obtain ⟨b, eb⟩ : ∃ s, val xs1 = s := ⟨_, rfl⟩
  have zb : (limbs b).length ≤ 35184372087808 := by rw [← eb]; exact Nat.le_trans (limbs_length_le h1.lb) k1
  obtain ⟨c, ec⟩ : ∃ s, val xs2 = s := ⟨_, rfl⟩
  have zc : (limbs c).length ≤ 35184372087808 := by rw [← ec]; exact Nat.le_trans (limbs_length_le h2.lb) k2
  rw [ea, eb] at hc
  rw [ec] at hz
  have ex : cmpN a b = (-1) := cmpN_lt hc
  have ey : cmpN b a = 1 := by rw [cmpN_flip, ex]; try rfl
  obtain ⟨s, es⟩ : ∃ s, a + c = s := ⟨_, rfl⟩
  have zs : (limbs s).length ≤ 35184372087809 := by rw [← es]; exact limbs_add_le za zc
  obtain ⟨t, et⟩ : ∃ s, b + c = s := ⟨_, rfl⟩
  have zt : (limbs t).length ≤ 35184372087809 := by rw [← et]; exact limbs_add_le zb zc
  have eu : cmpN s t = (-1) := by rw [cmpN_addr es et, ex]
  obtain ⟨n, en⟩ : ∃ s, nb c = s := ⟨_, rfl⟩
  have en0 : n = 0 := by rw [← en, hz, nb_zero]
  subst en0
  have HC := Lib.hid hc
  clear hc hz
  have Ea := Lib.hid ea
  have Eb := Lib.hid eb
  have Ec := Lib.hid ec
  have Ex := Lib.hid ex
  have Ey := Lib.hid ey
  have Es := Lib.hid es
  have Et := Lib.hid et
  have Eu := Lib.hid eu
  have En := Lib.hid en
  clear ea eb ec ex ey es et eu en
  have hBel : Below w.heap.size w w := Below.refl _ _
  go_enter Try.func15, Try.ntmps15
  go_wp2_with fail
  refine (Compare_n A0 A1 xs0 xs1 c0 c1 w a b (-1) h0 h1 Ea.out Eb.out Ex.out).mono ?_
  rintro e w1 ⟨rfl, b9⟩
  replace hBel := hBel.trans (b9.mono hBel.size)
  replace h0 := h0.below b9
  replace h1 := h1.below b9
  replace h2 := h2.below b9
  clear b9
  go_wp2_with fail
  refine (SubN_n A0 A1 xs0 xs1 c0 c1 w1 a b h0 h1 Ea.out Eb.out HC.out).mono ?_
  rintro e w2 ⟨rfl, b9⟩
  replace hBel := hBel.trans (b9.mono hBel.size)
  replace h0 := h0.below b9
  replace h1 := h1.below b9
  replace h2 := h2.below b9
  clear b9
  go_wp2_with fail
  refine (awake1_c w2).mono ?_
  rintro e w3 ⟨rfl, b9⟩
  replace hBel := hBel.trans (b9.mono hBel.size)
  replace h0 := h0.below b9
  replace h1 := h1.below b9
  replace h2 := h2.below b9
  clear b9
  go_wp2_with fail
  refine (Compare_n A1 A0 xs1 xs0 c1 c0 w3 b a (1) h1 h0 Eb.out Ea.out Ey.out).mono ?_
  rintro e w4 ⟨rfl, b9⟩
  replace hBel := hBel.trans (b9.mono hBel.size)
  replace h0 := h0.below b9
  replace h1 := h1.below b9
  replace h2 := h2.below b9
  clear b9
  go_wp2_with fail
  refine (Add_n A0 A2 xs0 xs2 c0 c2 w4 a c s 35184372087808 35184372087808 h0 h2 k0 k2 Ea.out Ec.out Es.out (by omega) (by omega)).mono ?_
  rintro e w5 ⟨Af, cf, rfl, qf, b9⟩
  replace hBel := hBel.trans (b9.mono hBel.size)
  replace h0 := h0.below b9
  replace h1 := h1.below b9
  replace h2 := h2.below b9
  have gf := qf.lim
  clear b9 qf
  go_wp2_with fail
  refine (Add_n A1 A2 xs1 xs2 c1 c2 w5 b c t 35184372087808 35184372087808 h1 h2 k1 k2 Eb.out Ec.out Et.out (by omega) (by omega)).mono ?_
  rintro e w6 ⟨Ag, cg, rfl, qg, b9⟩
  replace hBel := hBel.trans (b9.mono hBel.size)
  replace h0 := h0.below b9
  replace h1 := h1.below b9
  replace h2 := h2.below b9
  replace gf := gf.below b9
  have gg := qg.lim
  clear b9 qg
  go_wp2_with fail
  refine (Compare_n Af Ag (limbs s) (limbs t) cf cg w6 s t (-1) gf gg (val_limbs s) (val_limbs t) Eu.out).mono ?_
  rintro e w7 ⟨rfl, b9⟩
  replace hBel := hBel.trans (b9.mono hBel.size)
  replace h0 := h0.below b9
  replace h1 := h1.below b9
  replace h2 := h2.below b9
  replace gf := gf.below b9
  replace gg := gg.below b9
  clear b9
  go_wp2_with fail
  refine (Bits_n A2 xs2 c2 w7 c 0 35184372087808 h2 k2 Ec.out En.out (by omega)).mono ?_
  rintro e w8 ⟨rfl, b9⟩
  replace hBel := hBel.trans (b9.mono hBel.size)
  replace h0 := h0.below b9
  replace h1 := h1.below b9
  replace h2 := h2.below b9
  replace gf := gf.below b9
  replace gg := gg.below b9
  clear b9
  go_wp2_with fail
  go_ret
  exact ⟨rfl, hBel⟩

set_option maxRecDepth 100000 in
set_option maxHeartbeats 4000000 in
theorem norder_lt (A0 : Option Addr) (xs0 : List Nat) (c0 : Nat) (A1 : Option Addr) (xs1 : List Nat) (c1 : Nat) (A2 : Option Addr) (xs2 : List Nat) (c2 : Nat) (w : World) (h0 : Lim w A0 c0 xs0) (h1 : Lim w A1 c1 xs1) (h2 : Lim w A2 c2 xs2) (k0 : xs0.length ≤ 35184372087808) (k1 : xs1.length ≤ 35184372087808) (k2 : xs2.length ≤ 35184372087808) (hc : val xs0 < val xs1) (hz : val xs2 ≠ 0) :
    Calls Try.prog 15 #[.slice A0 xs0.length c0, .slice A1 xs1.length c1, .slice A2 xs2.length c2] w (RetB w true) := by
  obtain ⟨a, ea⟩ : ∃ s, val xs0 = s := ⟨_, rfl⟩
  have za : (limbs a).length ≤ 35184372087808 := by rw [← ea]; exact Nat.le_trans (limbs_length_le h0.lb) k0
  obtain ⟨b, eb⟩ : ∃ s, val xs1 = s := ⟨_, rfl⟩
  have zb : (limbs b).length ≤ 35184372087808 := by rw [← eb]; exact Nat.le_trans (limbs_length_le h1.lb) k1
  obtain ⟨c, ec⟩ : ∃ s, val xs2 = s := ⟨_, rfl⟩
  have zc : (limbs c).length ≤ 35184372087808 := by rw [← ec]; exact Nat.le_trans (limbs_length_le h2.lb) k2
  rw [ea, eb] at hc
  rw [ec] at hz
  have ex : cmpN a b = (-1) := cmpN_lt hc
  have ey : cmpN b a = 1 := by rw [cmpN_flip, ex]; try rfl
  obtain ⟨s, es⟩ : ∃ s, a + c = s := ⟨_, rfl⟩
  have zs : (limbs s).length ≤ 35184372087809 := by rw [← es]; exact limbs_add_le za zc
  obtain ⟨t, et⟩ : ∃ s, b + c = s := ⟨_, rfl⟩
  have zt : (limbs t).length ≤ 35184372087809 := by rw [← et]; exact limbs_add_le zb zc
  have eu : cmpN s t = (-1) := by rw [cmpN_addr es et, ex]
  obtain ⟨n, en⟩ : ∃ s, nb c = s := ⟨_, rfl⟩
  have hn0 : ((n : Int) == 0) = false := by rw [beq_eq_false_iff_ne, ← en]; intro h; exact hz (nb_eq_zero.1 (by omega))
  obtain ⟨p, ep⟩ : ∃ s, a * c = s := ⟨_, rfl⟩
  have zp : (limbs p).length ≤ 70368744175616 := nmul_sz za zc ep (by omega)
  obtain ⟨q, eq⟩ : ∃ s, b * c = s := ⟨_, rfl⟩
  have zq : (limbs q).length ≤ 70368744175616 := nmul_sz zb zc eq (by omega)
  have ev : cmpN p q = (-1) := by rw [cmpN_mulr (by omega) ep eq, ex]
  have HC := Lib.hid hc
  clear hc hz
  have Ea := Lib.hid ea
  have Eb := Lib.hid eb
  have Ec := Lib.hid ec
  have Ex := Lib.hid ex
  have Ey := Lib.hid ey
  have Es := Lib.hid es
  have Et := Lib.hid et
  have Eu := Lib.hid eu
  have En := Lib.hid en
  have Ep := Lib.hid ep
  have Eq := Lib.hid eq
  have Ev := Lib.hid ev
  clear ea eb ec ex ey es et eu en ep eq ev
  have hBel : Below w.heap.size w w := Below.refl _ _
  go_enter Try.func15, Try.ntmps15
  go_wp2_with fail
  refine (Compare_n A0 A1 xs0 xs1 c0 c1 w a b (-1) h0 h1 Ea.out Eb.out Ex.out).mono ?_
  rintro e w1 ⟨rfl, b9⟩
  replace hBel := hBel.trans (b9.mono hBel.size)
  replace h0 := h0.below b9
  replace h1 := h1.below b9
  replace h2 := h2.below b9
  clear b9
  go_wp2_with fail
  refine (SubN_n A0 A1 xs0 xs1 c0 c1 w1 a b h0 h1 Ea.out Eb.out HC.out).mono ?_
  rintro e w2 ⟨rfl, b9⟩
  replace hBel := hBel.trans (b9.mono hBel.size)
  replace h0 := h0.below b9
  replace h1 := h1.below b9
  replace h2 := h2.below b9
  clear b9
  go_wp2_with fail
  refine (awake1_c w2).mono ?_
  rintro e w3 ⟨rfl, b9⟩
  replace hBel := hBel.trans (b9.mono hBel.size)
  replace h0 := h0.below b9
  replace h1 := h1.below b9
  replace h2 := h2.below b9
  clear b9
  go_wp2_with fail
  refine (Compare_n A1 A0 xs1 xs0 c1 c0 w3 b a (1) h1 h0 Eb.out Ea.out Ey.out).mono ?_
  rintro e w4 ⟨rfl, b9⟩
  replace hBel := hBel.trans (b9.mono hBel.size)
  replace h0 := h0.below b9
  replace h1 := h1.below b9
  replace h2 := h2.below b9
  clear b9
  go_wp2_with fail
  refine (Add_n A0 A2 xs0 xs2 c0 c2 w4 a c s 35184372087808 35184372087808 h0 h2 k0 k2 Ea.out Ec.out Es.out (by omega) (by omega)).mono ?_
  rintro e w5 ⟨Af, cf, rfl, qf, b9⟩
  replace hBel := hBel.trans (b9.mono hBel.size)
  replace h0 := h0.below b9
  replace h1 := h1.below b9
  replace h2 := h2.below b9
  have gf := qf.lim
  clear b9 qf
  go_wp2_with fail
  refine (Add_n A1 A2 xs1 xs2 c1 c2 w5 b c t 35184372087808 35184372087808 h1 h2 k1 k2 Eb.out Ec.out Et.out (by omega) (by omega)).mono ?_
  rintro e w6 ⟨Ag, cg, rfl, qg, b9⟩
  replace hBel := hBel.trans (b9.mono hBel.size)
  replace h0 := h0.below b9
  replace h1 := h1.below b9
  replace h2 := h2.below b9
  replace gf := gf.below b9
  have gg := qg.lim
  clear b9 qg
  go_wp2_with fail
  refine (Compare_n Af Ag (limbs s) (limbs t) cf cg w6 s t (-1) gf gg (val_limbs s) (val_limbs t) Eu.out).mono ?_
  rintro e w7 ⟨rfl, b9⟩
  replace hBel := hBel.trans (b9.mono hBel.size)
  replace h0 := h0.below b9
  replace h1 := h1.below b9
  replace h2 := h2.below b9
  replace gf := gf.below b9
  replace gg := gg.below b9
  clear b9
  go_wp2_with fail
  refine (Bits_n A2 xs2 c2 w7 c n 35184372087808 h2 k2 Ec.out En.out (by omega)).mono ?_
  rintro e w8 ⟨rfl, b9⟩
  replace hBel := hBel.trans (b9.mono hBel.size)
  replace h0 := h0.below b9
  replace h1 := h1.below b9
  replace h2 := h2.below b9
  replace gf := gf.below b9
  replace gg := gg.below b9
  clear b9
  go_wp2_with fail
  refine (Mul_n A0 A2 xs0 xs2 c0 c2 w8 a c p 35184372087808 35184372087808 h0 h2 k0 k2 Ea.out Ec.out Ep.out (by omega)).mono ?_
  rintro e w9 ⟨Ai, ci, rfl, qi, b9⟩
  replace hBel := hBel.trans (b9.mono hBel.size)
  replace h0 := h0.below b9
  replace h1 := h1.below b9
  replace h2 := h2.below b9
  replace gf := gf.below b9
  replace gg := gg.below b9
  have gi := qi.lim
  clear b9 qi
  go_wp2_with fail
  refine (Mul_n A1 A2 xs1 xs2 c1 c2 w9 b c q 35184372087808 35184372087808 h1 h2 k1 k2 Eb.out Ec.out Eq.out (by omega)).mono ?_
  rintro e w10 ⟨Aj, cj, rfl, qj, b9⟩
  replace hBel := hBel.trans (b9.mono hBel.size)
  replace h0 := h0.below b9
  replace h1 := h1.below b9
  replace h2 := h2.below b9
  replace gf := gf.below b9
  replace gg := gg.below b9
  replace gi := gi.below b9
  have gj := qj.lim
  clear b9 qj
  go_wp2_with fail
  refine (Compare_n Ai Aj (limbs p) (limbs q) ci cj w10 p q (-1) gi gj (val_limbs p) (val_limbs q) Ev.out).mono ?_
  rintro e w11 ⟨rfl, b9⟩
  replace hBel := hBel.trans (b9.mono hBel.size)
  replace h0 := h0.below b9
  replace h1 := h1.below b9
  replace h2 := h2.below b9
  replace gf := gf.below b9
  replace gg := gg.below b9
  replace gi := gi.below b9
  replace gj := gj.below b9
  clear b9
  go_wp2_with fail
  go_ret
  exact ⟨rfl, hBel⟩

set_option maxRecDepth 100000 in
set_option maxHeartbeats 4000000 in
theorem norder_eq0 (A0 : Option Addr) (xs0 : List Nat) (c0 : Nat) (A1 : Option Addr) (xs1 : List Nat) (c1 : Nat) (A2 : Option Addr) (xs2 : List Nat) (c2 : Nat) (w : World) (h0 : Lim w A0 c0 xs0) (h1 : Lim w A1 c1 xs1) (h2 : Lim w A2 c2 xs2) (k0 : xs0.length ≤ 35184372087808) (k1 : xs1.length ≤ 35184372087808) (k2 : xs2.length ≤ 35184372087808) (hc : val xs0 = val xs1) (hz : val xs2 = 0) :
    Calls Try.prog 15 #[.slice A0 xs0.length c0, .slice A1 xs1.length c1, .slice A2 xs2.length c2] w (RetB w true) := by
  obtain ⟨a, ea⟩ : ∃ s, val xs0 = s := ⟨_, rfl⟩
  have za : (limbs a).length ≤ 35184372087808 := by rw [← ea]; exact Nat.le_trans (limbs_length_le h0.lb) k0
  obtain ⟨b, eb⟩ : ∃ s, val xs1 = s := ⟨_, rfl⟩
  have zb : (limbs b).length ≤ 35184372087808 := by rw [← eb]; exact Nat.le_trans (limbs_length_le h1.lb) k1
  obtain ⟨c, ec⟩ : ∃ s, val xs2 = s := ⟨_, rfl⟩
  have zc : (limbs c).length ≤ 35184372087808 := by rw [← ec]; exact Nat.le_trans (limbs_length_le h2.lb) k2
  rw [ea, eb] at hc
  rw [ec] at hz
  have ex : cmpN a b = 0 := cmpN_eq hc
  have ey : cmpN b a = 0 := by rw [cmpN_flip, ex]; try rfl
  obtain ⟨s, es⟩ : ∃ s, a + c = s := ⟨_, rfl⟩
  have zs : (limbs s).length ≤ 35184372087809 := by rw [← es]; exact limbs_add_le za zc
  obtain ⟨t, et⟩ : ∃ s, b + c = s := ⟨_, rfl⟩
  have zt : (limbs t).length ≤ 35184372087809 := by rw [← et]; exact limbs_add_le zb zc
  have eu : cmpN s t = 0 := by rw [cmpN_addr es et, ex]
  obtain ⟨n, en⟩ : ∃ s, nb c = s := ⟨_, rfl⟩
  have en0 : n = 0 := by rw [← en, hz, nb_zero]
  subst en0
  obtain ⟨d, ed⟩ : ∃ s, a - b = s := ⟨_, rfl⟩
  have zd : (limbs d).length ≤ 35184372087808 := Nat.le_trans (limbs_mono (by omega)) za
  have HC := Lib.hid hc
  clear hc hz
  have Ea := Lib.hid ea
  have Eb := Lib.hid eb
  have Ec := Lib.hid ec
  have Ex := Lib.hid ex
  have Ey := Lib.hid ey
  have Es := Lib.hid es
  have Et := Lib.hid et
  have Eu := Lib.hid eu
  have En := Lib.hid en
  have Ed := Lib.hid ed
  clear ea eb ec ex ey es et eu en ed
  have hBel : Below w.heap.size w w := Below.refl _ _
  go_enter Try.func15, Try.ntmps15
  go_wp2_with fail
  refine (Compare_n A0 A1 xs0 xs1 c0 c1 w a b 0 h0 h1 Ea.out Eb.out Ex.out).mono ?_
  rintro e w1 ⟨rfl, b9⟩
  replace hBel := hBel.trans (b9.mono hBel.size)
  replace h0 := h0.below b9
  replace h1 := h1.below b9
  replace h2 := h2.below b9
  clear b9
  go_wp2_with fail
  refine (SubY_n A0 A1 xs0 xs1 c0 c1 w1 a b d 35184372087808 h0 h1 k0 Ea.out Eb.out (by have := HC.out; omega) Ed.out (by omega)).mono ?_
  rintro e w2 ⟨Ak, ck, rfl, qk, b9⟩
  replace hBel := hBel.trans (b9.mono hBel.size)
  replace h0 := h0.below b9
  replace h1 := h1.below b9
  replace h2 := h2.below b9
  have gk := qk.lim
  clear b9 qk
  go_wp2_with fail
  refine (awake1_c w2).mono ?_
  rintro e w3 ⟨rfl, b9⟩
  replace hBel := hBel.trans (b9.mono hBel.size)
  replace h0 := h0.below b9
  replace h1 := h1.below b9
  replace h2 := h2.below b9
  replace gk := gk.below b9
  clear b9
  go_wp2_with fail
  refine (Compare_n A1 A0 xs1 xs0 c1 c0 w3 b a (0) h1 h0 Eb.out Ea.out Ey.out).mono ?_
  rintro e w4 ⟨rfl, b9⟩
  replace hBel := hBel.trans (b9.mono hBel.size)
  replace h0 := h0.below b9
  replace h1 := h1.below b9
  replace h2 := h2.below b9
  replace gk := gk.below b9
  clear b9
  go_wp2_with fail
  refine (Add_n A0 A2 xs0 xs2 c0 c2 w4 a c s 35184372087808 35184372087808 h0 h2 k0 k2 Ea.out Ec.out Es.out (by omega) (by omega)).mono ?_
  rintro e w5 ⟨Af, cf, rfl, qf, b9⟩
  replace hBel := hBel.trans (b9.mono hBel.size)
  replace h0 := h0.below b9
  replace h1 := h1.below b9
  replace h2 := h2.below b9
  replace gk := gk.below b9
  have gf := qf.lim
  clear b9 qf
  go_wp2_with fail
  refine (Add_n A1 A2 xs1 xs2 c1 c2 w5 b c t 35184372087808 35184372087808 h1 h2 k1 k2 Eb.out Ec.out Et.out (by omega) (by omega)).mono ?_
  rintro e w6 ⟨Ag, cg, rfl, qg, b9⟩
  replace hBel := hBel.trans (b9.mono hBel.size)
  replace h0 := h0.below b9
  replace h1 := h1.below b9
  replace h2 := h2.below b9
  replace gk := gk.below b9
  replace gf := gf.below b9
  have gg := qg.lim
  clear b9 qg
  go_wp2_with fail
  refine (Compare_n Af Ag (limbs s) (limbs t) cf cg w6 s t 0 gf gg (val_limbs s) (val_limbs t) Eu.out).mono ?_
  rintro e w7 ⟨rfl, b9⟩
  replace hBel := hBel.trans (b9.mono hBel.size)
  replace h0 := h0.below b9
  replace h1 := h1.below b9
  replace h2 := h2.below b9
  replace gk := gk.below b9
  replace gf := gf.below b9
  replace gg := gg.below b9
  clear b9
  go_wp2_with fail
  refine (Bits_n A2 xs2 c2 w7 c 0 35184372087808 h2 k2 Ec.out En.out (by omega)).mono ?_
  rintro e w8 ⟨rfl, b9⟩
  replace hBel := hBel.trans (b9.mono hBel.size)
  replace h0 := h0.below b9
  replace h1 := h1.below b9
  replace h2 := h2.below b9
  replace gk := gk.below b9
  replace gf := gf.below b9
  replace gg := gg.below b9
  clear b9
  go_wp2_with fail
  go_ret
  exact ⟨rfl, hBel⟩

set_option maxRecDepth 100000 in
set_option maxHeartbeats 4000000 in
theorem norder_eq (A0 : Option Addr) (xs0 : List Nat) (c0 : Nat) (A1 : Option Addr) (xs1 : List Nat) (c1 : Nat) (A2 : Option Addr) (xs2 : List Nat) (c2 : Nat) (w : World) (h0 : Lim w A0 c0 xs0) (h1 : Lim w A1 c1 xs1) (h2 : Lim w A2 c2 xs2) (k0 : xs0.length ≤ 35184372087808) (k1 : xs1.length ≤ 35184372087808) (k2 : xs2.length ≤ 35184372087808) (hc : val xs0 = val xs1) (hz : val xs2 ≠ 0) :
    Calls Try.prog 15 #[.slice A0 xs0.length c0, .slice A1 xs1.length c1, .slice A2 xs2.length c2] w (RetB w true) := by
  obtain ⟨a, ea⟩ : ∃ s, val xs0 = s := ⟨_, rfl⟩
  have za : (limbs a).length ≤ 35184372087808 := by rw [← ea]; exact Nat.le_trans (limbs_length_le h0.lb) k0
  obtain ⟨b, eb⟩ : ∃ s, val xs1 = s := ⟨_, rfl⟩
  have zb : (limbs b).length ≤ 35184372087808 := by rw [← eb]; exact Nat.le_trans (limbs_length_le h1.lb) k1
  obtain ⟨c, ec⟩ : ∃ s, val xs2 = s := ⟨_, rfl⟩
  have zc : (limbs c).length ≤ 35184372087808 := by rw [← ec]; exact Nat.le_trans (limbs_length_le h2.lb) k2
  rw [ea, eb] at hc
  rw [ec] at hz
  have ex : cmpN a b = 0 := cmpN_eq hc
  have ey : cmpN b a = 0 := by rw [cmpN_flip, ex]; try rfl
  obtain ⟨s, es⟩ : ∃ s, a + c = s := ⟨_, rfl⟩
  have zs : (limbs s).length ≤ 35184372087809 := by rw [← es]; exact limbs_add_le za zc
  obtain ⟨t, et⟩ : ∃ s, b + c = s := ⟨_, rfl⟩
  have zt : (limbs t).length ≤ 35184372087809 := by rw [← et]; exact limbs_add_le zb zc
  have eu : cmpN s t = 0 := by rw [cmpN_addr es et, ex]
  obtain ⟨n, en⟩ : ∃ s, nb c = s := ⟨_, rfl⟩
  have hn0 : ((n : Int) == 0) = false := by rw [beq_eq_false_iff_ne, ← en]; intro h; exact hz (nb_eq_zero.1 (by omega))
  obtain ⟨p, ep⟩ : ∃ s, a * c = s := ⟨_, rfl⟩
  have zp : (limbs p).length ≤ 70368744175616 := nmul_sz za zc ep (by omega)
  obtain ⟨q, eq⟩ : ∃ s, b * c = s := ⟨_, rfl⟩
  have zq : (limbs q).length ≤ 70368744175616 := nmul_sz zb zc eq (by omega)
  have ev : cmpN p q = 0 := by rw [cmpN_mulr (by omega) ep eq, ex]
  obtain ⟨d, ed⟩ : ∃ s, a - b = s := ⟨_, rfl⟩
  have zd : (limbs d).length ≤ 35184372087808 := Nat.le_trans (limbs_mono (by omega)) za
  have HC := Lib.hid hc
  clear hc hz
  have Ea := Lib.hid ea
  have Eb := Lib.hid eb
  have Ec := Lib.hid ec
  have Ex := Lib.hid ex
  have Ey := Lib.hid ey
  have Es := Lib.hid es
  have Et := Lib.hid et
  have Eu := Lib.hid eu
  have En := Lib.hid en
  have Ep := Lib.hid ep
  have Eq := Lib.hid eq
  have Ev := Lib.hid ev
  have Ed := Lib.hid ed
  clear ea eb ec ex ey es et eu en ep eq ev ed
  have hBel : Below w.heap.size w w := Below.refl _ _
  go_enter Try.func15, Try.ntmps15
  go_wp2_with fail
  refine (Compare_n A0 A1 xs0 xs1 c0 c1 w a b 0 h0 h1 Ea.out Eb.out Ex.out).mono ?_
  rintro e w1 ⟨rfl, b9⟩
  replace hBel := hBel.trans (b9.mono hBel.size)
  replace h0 := h0.below b9
  replace h1 := h1.below b9
  replace h2 := h2.below b9
  clear b9
  go_wp2_with fail
  refine (SubY_n A0 A1 xs0 xs1 c0 c1 w1 a b d 35184372087808 h0 h1 k0 Ea.out Eb.out (by have := HC.out; omega) Ed.out (by omega)).mono ?_
  rintro e w2 ⟨Ak, ck, rfl, qk, b9⟩
  replace hBel := hBel.trans (b9.mono hBel.size)
  replace h0 := h0.below b9
  replace h1 := h1.below b9
  replace h2 := h2.below b9
  have gk := qk.lim
  clear b9 qk
  go_wp2_with fail
  refine (awake1_c w2).mono ?_
  rintro e w3 ⟨rfl, b9⟩
  replace hBel := hBel.trans (b9.mono hBel.size)
  replace h0 := h0.below b9
  replace h1 := h1.below b9
  replace h2 := h2.below b9
  replace gk := gk.below b9
  clear b9
  go_wp2_with fail
  refine (Compare_n A1 A0 xs1 xs0 c1 c0 w3 b a (0) h1 h0 Eb.out Ea.out Ey.out).mono ?_
  rintro e w4 ⟨rfl, b9⟩
  replace hBel := hBel.trans (b9.mono hBel.size)
  replace h0 := h0.below b9
  replace h1 := h1.below b9
  replace h2 := h2.below b9
  replace gk := gk.below b9
  clear b9
  go_wp2_with fail
  refine (Add_n A0 A2 xs0 xs2 c0 c2 w4 a c s 35184372087808 35184372087808 h0 h2 k0 k2 Ea.out Ec.out Es.out (by omega) (by omega)).mono ?_
  rintro e w5 ⟨Af, cf, rfl, qf, b9⟩
  replace hBel := hBel.trans (b9.mono hBel.size)
  replace h0 := h0.below b9
  replace h1 := h1.below b9
  replace h2 := h2.below b9
  replace gk := gk.below b9
  have gf := qf.lim
  clear b9 qf
  go_wp2_with fail
  refine (Add_n A1 A2 xs1 xs2 c1 c2 w5 b c t 35184372087808 35184372087808 h1 h2 k1 k2 Eb.out Ec.out Et.out (by omega) (by omega)).mono ?_
  rintro e w6 ⟨Ag, cg, rfl, qg, b9⟩
  replace hBel := hBel.trans (b9.mono hBel.size)
  replace h0 := h0.below b9
  replace h1 := h1.below b9
  replace h2 := h2.below b9
  replace gk := gk.below b9
  replace gf := gf.below b9
  have gg := qg.lim
  clear b9 qg
  go_wp2_with fail
  refine (Compare_n Af Ag (limbs s) (limbs t) cf cg w6 s t 0 gf gg (val_limbs s) (val_limbs t) Eu.out).mono ?_
  rintro e w7 ⟨rfl, b9⟩
  replace hBel := hBel.trans (b9.mono hBel.size)
  replace h0 := h0.below b9
  replace h1 := h1.below b9
  replace h2 := h2.below b9
  replace gk := gk.below b9
  replace gf := gf.below b9
  replace gg := gg.below b9
  clear b9
  go_wp2_with fail
  refine (Bits_n A2 xs2 c2 w7 c n 35184372087808 h2 k2 Ec.out En.out (by omega)).mono ?_
  rintro e w8 ⟨rfl, b9⟩
  replace hBel := hBel.trans (b9.mono hBel.size)
  replace h0 := h0.below b9
  replace h1 := h1.below b9
  replace h2 := h2.below b9
  replace gk := gk.below b9
  replace gf := gf.below b9
  replace gg := gg.below b9
  clear b9
  go_wp2_with fail
  refine (Mul_n A0 A2 xs0 xs2 c0 c2 w8 a c p 35184372087808 35184372087808 h0 h2 k0 k2 Ea.out Ec.out Ep.out (by omega)).mono ?_
  rintro e w9 ⟨Ai, ci, rfl, qi, b9⟩
  replace hBel := hBel.trans (b9.mono hBel.size)
  replace h0 := h0.below b9
  replace h1 := h1.below b9
  replace h2 := h2.below b9
  replace gk := gk.below b9
  replace gf := gf.below b9
  replace gg := gg.below b9
  have gi := qi.lim
  clear b9 qi
  go_wp2_with fail
  refine (Mul_n A1 A2 xs1 xs2 c1 c2 w9 b c q 35184372087808 35184372087808 h1 h2 k1 k2 Eb.out Ec.out Eq.out (by omega)).mono ?_
  rintro e w10 ⟨Aj, cj, rfl, qj, b9⟩
  replace hBel := hBel.trans (b9.mono hBel.size)
  replace h0 := h0.below b9
  replace h1 := h1.below b9
  replace h2 := h2.below b9
  replace gk := gk.below b9
  replace gf := gf.below b9
  replace gg := gg.below b9
  replace gi := gi.below b9
  have gj := qj.lim
  clear b9 qj
  go_wp2_with fail
  refine (Compare_n Ai Aj (limbs p) (limbs q) ci cj w10 p q 0 gi gj (val_limbs p) (val_limbs q) Ev.out).mono ?_
  rintro e w11 ⟨rfl, b9⟩
  replace hBel := hBel.trans (b9.mono hBel.size)
  replace h0 := h0.below b9
  replace h1 := h1.below b9
  replace h2 := h2.below b9
  replace gk := gk.below b9
  replace gf := gf.below b9
  replace gg := gg.below b9
  replace gi := gi.below b9
  replace gj := gj.below b9
  clear b9
  go_wp2_with fail
  go_ret
  exact ⟨rfl, hBel⟩

set_option maxRecDepth 100000 in
set_option maxHeartbeats 4000000 in
theorem norder_gt0 (A0 : Option Addr) (xs0 : List Nat) (c0 : Nat) (A1 : Option Addr) (xs1 : List Nat) (c1 : Nat) (A2 : Option Addr) (xs2 : List Nat) (c2 : Nat) (w : World) (h0 : Lim w A0 c0 xs0) (h1 : Lim w A1 c1 xs1) (h2 : Lim w A2 c2 xs2) (k0 : xs0.length ≤ 35184372087808) (k1 : xs1.length ≤ 35184372087808) (k2 : xs2.length ≤ 35184372087808) (hc : val xs1 < val xs0) (hz : val xs2 = 0) :
    Calls Try.prog 15 #[.slice A0 xs0.length c0, .slice A1 xs1.length c1, .slice A2 xs2.length c2] w (RetB w true) := by
  obtain ⟨a, ea⟩ : ∃ s, val xs0 = s := ⟨_, rfl⟩
  have za : (limbs a).length ≤ 35184372087808 := by rw [← ea]; exact Nat.le_trans (limbs_length_le h0.lb) k0
  obtain ⟨b, eb⟩ : ∃ s, val xs1 = s := ⟨_, rfl⟩
  have zb : (limbs b).length ≤ 35184372087808 := by rw [← eb]; exact Nat.le_trans (limbs_length_le h1.lb) k1
  obtain ⟨c, ec⟩ : ∃ s, val xs2 = s := ⟨_, rfl⟩
  have zc : (limbs c).length ≤ 35184372087808 := by rw [← ec]; exact Nat.le_trans (limbs_length_le h2.lb) k2
  rw [ea, eb] at hc
  rw [ec] at hz
  have ex : cmpN a b = 1 := cmpN_gt hc
  have ey : cmpN b a = -1 := by rw [cmpN_flip, ex]; try rfl
  obtain ⟨s, es⟩ : ∃ s, a + c = s := ⟨_, rfl⟩
  have zs : (limbs s).length ≤ 35184372087809 := by rw [← es]; exact limbs_add_le za zc
  obtain ⟨t, et⟩ : ∃ s, b + c = s := ⟨_, rfl⟩
  have zt : (limbs t).length ≤ 35184372087809 := by rw [← et]; exact limbs_add_le zb zc
  have eu : cmpN s t = 1 := by rw [cmpN_addr es et, ex]
  obtain ⟨n, en⟩ : ∃ s, nb c = s := ⟨_, rfl⟩
  have en0 : n = 0 := by rw [← en, hz, nb_zero]
  subst en0
  obtain ⟨d, ed⟩ : ∃ s, a - b = s := ⟨_, rfl⟩
  have zd : (limbs d).length ≤ 35184372087808 := Nat.le_trans (limbs_mono (by omega)) za
  have HC := Lib.hid hc
  clear hc hz
  have Ea := Lib.hid ea
  have Eb := Lib.hid eb
  have Ec := Lib.hid ec
  have Ex := Lib.hid ex
  have Ey := Lib.hid ey
  have Es := Lib.hid es
  have Et := Lib.hid et
  have Eu := Lib.hid eu
  have En := Lib.hid en
  have Ed := Lib.hid ed
  clear ea eb ec ex ey es et eu en ed
  have hBel : Below w.heap.size w w := Below.refl _ _
  go_enter Try.func15, Try.ntmps15
  go_wp2_with fail
  refine (Compare_n A0 A1 xs0 xs1 c0 c1 w a b 1 h0 h1 Ea.out Eb.out Ex.out).mono ?_
  rintro e w1 ⟨rfl, b9⟩
  replace hBel := hBel.trans (b9.mono hBel.size)
  replace h0 := h0.below b9
  replace h1 := h1.below b9
  replace h2 := h2.below b9
  clear b9
  go_wp2_with fail
  refine (SubY_n A0 A1 xs0 xs1 c0 c1 w1 a b d 35184372087808 h0 h1 k0 Ea.out Eb.out (by have := HC.out; omega) Ed.out (by omega)).mono ?_
  rintro e w2 ⟨Ak, ck, rfl, qk, b9⟩
  replace hBel := hBel.trans (b9.mono hBel.size)
  replace h0 := h0.below b9
  replace h1 := h1.below b9
  replace h2 := h2.below b9
  have gk := qk.lim
  clear b9 qk
  go_wp2_with fail
  refine (awake1_c w2).mono ?_
  rintro e w3 ⟨rfl, b9⟩
  replace hBel := hBel.trans (b9.mono hBel.size)
  replace h0 := h0.below b9
  replace h1 := h1.below b9
  replace h2 := h2.below b9
  replace gk := gk.below b9
  clear b9
  go_wp2_with fail
  refine (Compare_n A1 A0 xs1 xs0 c1 c0 w3 b a (-1) h1 h0 Eb.out Ea.out Ey.out).mono ?_
  rintro e w4 ⟨rfl, b9⟩
  replace hBel := hBel.trans (b9.mono hBel.size)
  replace h0 := h0.below b9
  replace h1 := h1.below b9
  replace h2 := h2.below b9
  replace gk := gk.below b9
  clear b9
  go_wp2_with fail
  refine (Add_n A0 A2 xs0 xs2 c0 c2 w4 a c s 35184372087808 35184372087808 h0 h2 k0 k2 Ea.out Ec.out Es.out (by omega) (by omega)).mono ?_
  rintro e w5 ⟨Af, cf, rfl, qf, b9⟩
  replace hBel := hBel.trans (b9.mono hBel.size)
  replace h0 := h0.below b9
  replace h1 := h1.below b9
  replace h2 := h2.below b9
  replace gk := gk.below b9
  have gf := qf.lim
  clear b9 qf
  go_wp2_with fail
  refine (Add_n A1 A2 xs1 xs2 c1 c2 w5 b c t 35184372087808 35184372087808 h1 h2 k1 k2 Eb.out Ec.out Et.out (by omega) (by omega)).mono ?_
  rintro e w6 ⟨Ag, cg, rfl, qg, b9⟩
  replace hBel := hBel.trans (b9.mono hBel.size)
  replace h0 := h0.below b9
  replace h1 := h1.below b9
  replace h2 := h2.below b9
  replace gk := gk.below b9
  replace gf := gf.below b9
  have gg := qg.lim
  clear b9 qg
  go_wp2_with fail
  refine (Compare_n Af Ag (limbs s) (limbs t) cf cg w6 s t 1 gf gg (val_limbs s) (val_limbs t) Eu.out).mono ?_
  rintro e w7 ⟨rfl, b9⟩
  replace hBel := hBel.trans (b9.mono hBel.size)
  replace h0 := h0.below b9
  replace h1 := h1.below b9
  replace h2 := h2.below b9
  replace gk := gk.below b9
  replace gf := gf.below b9
  replace gg := gg.below b9
  clear b9
  go_wp2_with fail
  refine (Bits_n A2 xs2 c2 w7 c 0 35184372087808 h2 k2 Ec.out En.out (by omega)).mono ?_
  rintro e w8 ⟨rfl, b9⟩
  replace hBel := hBel.trans (b9.mono hBel.size)
  replace h0 := h0.below b9
  replace h1 := h1.below b9
  replace h2 := h2.below b9
  replace gk := gk.below b9
  replace gf := gf.below b9
  replace gg := gg.below b9
  clear b9
  go_wp2_with fail
  go_ret
  exact ⟨rfl, hBel⟩

set_option maxRecDepth 100000 in
set_option maxHeartbeats 4000000 in
theorem norder_gt (A0 : Option Addr) (xs0 : List Nat) (c0 : Nat) (A1 : Option Addr) (xs1 : List Nat) (c1 : Nat) (A2 : Option Addr) (xs2 : List Nat) (c2 : Nat) (w : World) (h0 : Lim w A0 c0 xs0) (h1 : Lim w A1 c1 xs1) (h2 : Lim w A2 c2 xs2) (k0 : xs0.length ≤ 35184372087808) (k1 : xs1.length ≤ 35184372087808) (k2 : xs2.length ≤ 35184372087808) (hc : val xs1 < val xs0) (hz : val xs2 ≠ 0) :
    Calls Try.prog 15 #[.slice A0 xs0.length c0, .slice A1 xs1.length c1, .slice A2 xs2.length c2] w (RetB w true) := by
  obtain ⟨a, ea⟩ : ∃ s, val xs0 = s := ⟨_, rfl⟩
  have za : (limbs a).length ≤ 35184372087808 := by rw [← ea]; exact Nat.le_trans (limbs_length_le h0.lb) k0
  obtain ⟨b, eb⟩ : ∃ s, val xs1 = s := ⟨_, rfl⟩
  have zb : (limbs b).length ≤ 35184372087808 := by rw [← eb]; exact Nat.le_trans (limbs_length_le h1.lb) k1
  obtain ⟨c, ec⟩ : ∃ s, val xs2 = s := ⟨_, rfl⟩
  have zc : (limbs c).length ≤ 35184372087808 := by rw [← ec]; exact Nat.le_trans (limbs_length_le h2.lb) k2
  rw [ea, eb] at hc
  rw [ec] at hz
  have ex : cmpN a b = 1 := cmpN_gt hc
  have ey : cmpN b a = -1 := by rw [cmpN_flip, ex]; try rfl
  obtain ⟨s, es⟩ : ∃ s, a + c = s := ⟨_, rfl⟩
  have zs : (limbs s).length ≤ 35184372087809 := by rw [← es]; exact limbs_add_le za zc
  obtain ⟨t, et⟩ : ∃ s, b + c = s := ⟨_, rfl⟩
  have zt : (limbs t).length ≤ 35184372087809 := by rw [← et]; exact limbs_add_le zb zc
  have eu : cmpN s t = 1 := by rw [cmpN_addr es et, ex]
  obtain ⟨n, en⟩ : ∃ s, nb c = s := ⟨_, rfl⟩
  have hn0 : ((n : Int) == 0) = false := by rw [beq_eq_false_iff_ne, ← en]; intro h; exact hz (nb_eq_zero.1 (by omega))
  obtain ⟨p, ep⟩ : ∃ s, a * c = s := ⟨_, rfl⟩
  have zp : (limbs p).length ≤ 70368744175616 := nmul_sz za zc ep (by omega)
  obtain ⟨q, eq⟩ : ∃ s, b * c = s := ⟨_, rfl⟩
  have zq : (limbs q).length ≤ 70368744175616 := nmul_sz zb zc eq (by omega)
  have ev : cmpN p q = 1 := by rw [cmpN_mulr (by omega) ep eq, ex]
  obtain ⟨d, ed⟩ : ∃ s, a - b = s := ⟨_, rfl⟩
  have zd : (limbs d).length ≤ 35184372087808 := Nat.le_trans (limbs_mono (by omega)) za
  have HC := Lib.hid hc
  clear hc hz
  have Ea := Lib.hid ea
  have Eb := Lib.hid eb
  have Ec := Lib.hid ec
  have Ex := Lib.hid ex
  have Ey := Lib.hid ey
  have Es := Lib.hid es
  have Et := Lib.hid et
  have Eu := Lib.hid eu
  have En := Lib.hid en
  have Ep := Lib.hid ep
  have Eq := Lib.hid eq
  have Ev := Lib.hid ev
  have Ed := Lib.hid ed
  clear ea eb ec ex ey es et eu en ep eq ev ed
  have hBel : Below w.heap.size w w := Below.refl _ _
  go_enter Try.func15, Try.ntmps15
  go_wp2_with fail
  refine (Compare_n A0 A1 xs0 xs1 c0 c1 w a b 1 h0 h1 Ea.out Eb.out Ex.out).mono ?_
  rintro e w1 ⟨rfl, b9⟩
  replace hBel := hBel.trans (b9.mono hBel.size)
  replace h0 := h0.below b9
  replace h1 := h1.below b9
  replace h2 := h2.below b9
  clear b9
  go_wp2_with fail
  refine (SubY_n A0 A1 xs0 xs1 c0 c1 w1 a b d 35184372087808 h0 h1 k0 Ea.out Eb.out (by have := HC.out; omega) Ed.out (by omega)).mono ?_
  rintro e w2 ⟨Ak, ck, rfl, qk, b9⟩
  replace hBel := hBel.trans (b9.mono hBel.size)
  replace h0 := h0.below b9
  replace h1 := h1.below b9
  replace h2 := h2.below b9
  have gk := qk.lim
  clear b9 qk
  go_wp2_with fail
  refine (awake1_c w2).mono ?_
  rintro e w3 ⟨rfl, b9⟩
  replace hBel := hBel.trans (b9.mono hBel.size)
  replace h0 := h0.below b9
  replace h1 := h1.below b9
  replace h2 := h2.below b9
  replace gk := gk.below b9
  clear b9
  go_wp2_with fail
  refine (Compare_n A1 A0 xs1 xs0 c1 c0 w3 b a (-1) h1 h0 Eb.out Ea.out Ey.out).mono ?_
  rintro e w4 ⟨rfl, b9⟩
  replace hBel := hBel.trans (b9.mono hBel.size)
  replace h0 := h0.below b9
  replace h1 := h1.below b9
  replace h2 := h2.below b9
  replace gk := gk.below b9
  clear b9
  go_wp2_with fail
  refine (Add_n A0 A2 xs0 xs2 c0 c2 w4 a c s 35184372087808 35184372087808 h0 h2 k0 k2 Ea.out Ec.out Es.out (by omega) (by omega)).mono ?_
  rintro e w5 ⟨Af, cf, rfl, qf, b9⟩
  replace hBel := hBel.trans (b9.mono hBel.size)
  replace h0 := h0.below b9
  replace h1 := h1.below b9
  replace h2 := h2.below b9
  replace gk := gk.below b9
  have gf := qf.lim
  clear b9 qf
  go_wp2_with fail
  refine (Add_n A1 A2 xs1 xs2 c1 c2 w5 b c t 35184372087808 35184372087808 h1 h2 k1 k2 Eb.out Ec.out Et.out (by omega) (by omega)).mono ?_
  rintro e w6 ⟨Ag, cg, rfl, qg, b9⟩
  replace hBel := hBel.trans (b9.mono hBel.size)
  replace h0 := h0.below b9
  replace h1 := h1.below b9
  replace h2 := h2.below b9
  replace gk := gk.below b9
  replace gf := gf.below b9
  have gg := qg.lim
  clear b9 qg
  go_wp2_with fail
  refine (Compare_n Af Ag (limbs s) (limbs t) cf cg w6 s t 1 gf gg (val_limbs s) (val_limbs t) Eu.out).mono ?_
  rintro e w7 ⟨rfl, b9⟩
  replace hBel := hBel.trans (b9.mono hBel.size)
  replace h0 := h0.below b9
  replace h1 := h1.below b9
  replace h2 := h2.below b9
  replace gk := gk.below b9
  replace gf := gf.below b9
  replace gg := gg.below b9
  clear b9
  go_wp2_with fail
  refine (Bits_n A2 xs2 c2 w7 c n 35184372087808 h2 k2 Ec.out En.out (by omega)).mono ?_
  rintro e w8 ⟨rfl, b9⟩
  replace hBel := hBel.trans (b9.mono hBel.size)
  replace h0 := h0.below b9
  replace h1 := h1.below b9
  replace h2 := h2.below b9
  replace gk := gk.below b9
  replace gf := gf.below b9
  replace gg := gg.below b9
  clear b9
  go_wp2_with fail
  refine (Mul_n A0 A2 xs0 xs2 c0 c2 w8 a c p 35184372087808 35184372087808 h0 h2 k0 k2 Ea.out Ec.out Ep.out (by omega)).mono ?_
  rintro e w9 ⟨Ai, ci, rfl, qi, b9⟩
  replace hBel := hBel.trans (b9.mono hBel.size)
  replace h0 := h0.below b9
  replace h1 := h1.below b9
  replace h2 := h2.below b9
  replace gk := gk.below b9
  replace gf := gf.below b9
  replace gg := gg.below b9
  have gi := qi.lim
  clear b9 qi
  go_wp2_with fail
  refine (Mul_n A1 A2 xs1 xs2 c1 c2 w9 b c q 35184372087808 35184372087808 h1 h2 k1 k2 Eb.out Ec.out Eq.out (by omega)).mono ?_
  rintro e w10 ⟨Aj, cj, rfl, qj, b9⟩
  replace hBel := hBel.trans (b9.mono hBel.size)
  replace h0 := h0.below b9
  replace h1 := h1.below b9
  replace h2 := h2.below b9
  replace gk := gk.below b9
  replace gf := gf.below b9
  replace gg := gg.below b9
  replace gi := gi.below b9
  have gj := qj.lim
  clear b9 qj
  go_wp2_with fail
  refine (Compare_n Ai Aj (limbs p) (limbs q) ci cj w10 p q 1 gi gj (val_limbs p) (val_limbs q) Ev.out).mono ?_
  rintro e w11 ⟨rfl, b9⟩
  replace hBel := hBel.trans (b9.mono hBel.size)
  replace h0 := h0.below b9
  replace h1 := h1.below b9
  replace h2 := h2.below b9
  replace gk := gk.below b9
  replace gf := gf.below b9
  replace gg := gg.below b9
  replace gi := gi.below b9
  replace gj := gj.below b9
  clear b9
  go_wp2_with fail
  go_ret
  exact ⟨rfl, hBel⟩

theorem norder_walk (A0 : Option Addr) (xs0 : List Nat) (c0 : Nat) (A1 : Option Addr) (xs1 : List Nat) (c1 : Nat) (A2 : Option Addr) (xs2 : List Nat) (c2 : Nat) (w : World) (h0 : Lim w A0 c0 xs0) (h1 : Lim w A1 c1 xs1) (h2 : Lim w A2 c2 xs2) (k0 : xs0.length ≤ 35184372087808) (k1 : xs1.length ≤ 35184372087808) (k2 : xs2.length ≤ 35184372087808) :
    Calls Try.prog 15 #[.slice A0 xs0.length c0, .slice A1 xs1.length c1, .slice A2 xs2.length c2] w (RetB w true) := by
  by_cases hz : val xs2 = 0
  · rcases Nat.lt_trichotomy (val xs0) (val xs1) with h | h | h
    · exact norder_lt0 A0 xs0 c0 A1 xs1 c1 A2 xs2 c2 w h0 h1 h2 k0 k1 k2 h hz
    · exact norder_eq0 A0 xs0 c0 A1 xs1 c1 A2 xs2 c2 w h0 h1 h2 k0 k1 k2 h hz
    · exact norder_gt0 A0 xs0 c0 A1 xs1 c1 A2 xs2 c2 w h0 h1 h2 k0 k1 k2 h hz
  · rcases Nat.lt_trichotomy (val xs0) (val xs1) with h | h | h
    · exact norder_lt A0 xs0 c0 A1 xs1 c1 A2 xs2 c2 w h0 h1 h2 k0 k1 k2 h hz
    · exact norder_eq A0 xs0 c0 A1 xs1 c1 A2 xs2 c2 w h0 h1 h2 k0 k1 k2 h hz
    · exact norder_gt A0 xs0 c0 A1 xs1 c1 A2 xs2 c2 w h0 h1 h2 k0 k1 k2 h hz
end Go.Proofs.Ytkoehkadhjjmoaa
